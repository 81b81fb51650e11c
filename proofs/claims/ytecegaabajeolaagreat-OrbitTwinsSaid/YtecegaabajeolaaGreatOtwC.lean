/- Own text: what the proof of orbitTwins_holds uses, part 3: rules, models and their proofs, plain laws. -/
import Derived.Test.YtecegaabajeolaaGreatOtwB
set_option linter.unusedVariables false
set_option linter.unusedSimpArgs false
namespace Go.Proofs.YtecegaabajeolaaGreat
open Go Go.RowKit
section
open Go Go.RowKit
attribute [local irreducible] ewp owp hwp hwq hws Ev Evg Fn retPost loud loudS Res1
noncomputable def Cw (x0:Tsk):Option (Swp×Err) :=
  bnd (Bn x0 ([]:List Swp)) fun q29=>if q29.n≠0 then (some ((⟨([]:List Int),([]:List (List Int)),([]:List Int)⟩:Swp),(⟨q29.n⟩:Err))) else (bnd (CH (x0.vars.length:Int)) fun q40=>bnd (CH (x0.ops.length:Int)) fun q42=>bnd (some (q40,q42):Option ((List Int)×(List Int))) fun y44=>bnd (rng (ρ:=Swp×Err) (fun (k121:Nat) (a122:Int) (s119:(List (List Int)))=>bnd (CH a122) fun q144=>bnd (appI 24 s119 [q144]) fun u159=>some (.next u159)) x0.vars 0 ([]:List (List Int))) fun res117=>fin res117 fun (s176:(List (List Int)))=>some ((⟨y44.1,s176,y44.2⟩:Swp),(⟨0⟩:Err)))
theorem GZ {w:World} {A:Nat→Prop} (hA:∀ k,A k→k < w.heap.size) {vx0:Value} {x0:Tsk} (z2:Vb w A vx0 x0) {r:Swp×Err} (hm:Cw x0=some r) :
    Fn Tryz.prog 62 [vx0] w fun v w'=>Ext w w'∧T2 w' (upA A w w') v r:=by
 obtain ⟨O,hB,o4⟩:=enter hA
 replace z2:=z2.mono o4
 obtain ⟨a6,rfl,v3,v4,v5,v6,rfl,h7,t0,u0,p0⟩:=z2
 obtain ⟨A8,c9,rfl⟩:=h7.form
 obtain ⟨p2,q2,rfl⟩:=t0.form
 obtain ⟨r2,s2,rfl⟩:=u0.form
 obtain ⟨t2,u2,rfl⟩:=p0.form
 refine AQ Tryz.func62 rfl Tryz.ntmps62 rfl ?_
 unfold Cw at hm
 refine Al (Aj (Cp 2 O rfl rfl fun a3 p4 u3 z0 m0=>?_))
 replace m0:Lc 2 p4 u3 a3 26 [(.slice A8 x0.vars.length c9),(.slice p2 x0.init.length q2),(.slice r2 x0.goal.length s2),(.slice t2 x0.ops.length u2)]:=m0
 refine Bk 3 u3 rfl fun k1 w3 x3 v0 c0=>?_
 refine Ay rfl rfl (o_z ?_)
 refine Al (Al (Aj ?_))
 replace m0:=m0.st v0
 refine Br (hl:=rfl) (hc:=(m0.1).cellsAt) rfl rfl ?_
 obtain ⟨q4,r4,hm⟩:=bs hm
 replace h7:=(h7.st z0).st v0
 replace t0:=(t0.st z0).st v0
 replace u0:=(u0.st z0).st v0
 replace p0:=(p0.st z0).st v0
 refine By (O:=x3) (A:=All w3) (R:=fun w' F v=>Vb w' F v q4) (DF (fun _ h=>h) (Vb.mono (F:=Fr 0 w3 x3) (Vb.ofAgg (cs:=[(.slice A8 x0.vars.length c9),(.slice p2 x0.init.length q2),(.slice r2 x0.goal.length s2),(.slice t2 x0.ops.length u2)]) (x:=x0) rfl ⟨_,_,_,_,rfl,h7,t0,u0,p0⟩) Fr.lt) (Vb.nil _ _) r4) rfl rfl fun b6 c6 u1 e0 s4=>?_
 obtain ⟨rfl,t4⟩:=s4.err
 refine Ay rfl rfl (o_z ?_)
 refine Al (Aj (Ar rfl rfl (Ej rfl rfl (fun b3=>?_) fun b3=>?_)))
 ·
  replace hm:=ip hm b3
  refine o_z ?_
  refine Ah rfl (Al (Aj (CG rfl rfl rfl ?_)))
  refine Ar rfl rfl ?_
  replace c0:=c0.st e0
  refine AA c0 rfl rfl rfl (AG rfl) (allOne rfl) fun y3 u4 c0=>?_
  replace c0:Lc 3 y3 u1 k1 53 [(.slice none 0 0),(.slice none 0 0),(.slice none 0 0)]:=c0
  refine Ay rfl rfl (o_z ?_)
  refine AR ?_
  obtain rfl:=sm hm
  replace hB:=(((hB.st z0).st v0).st e0).st u4
  exact ret2 rfl (Cg (cs:=[(.slice none 0 0),(.slice none 0 0),(.slice none 0 0)]) rfl rfl c0.1.cellsAt) (AO rfl) ⟨hB.ext,_,_,rfl,(Vb.mono (F:=Fr 0 y3 u1) (Vb.ofAgg (cs:=[(.slice none 0 0),(.slice none 0 0),(.slice none 0 0)]) (x:=(⟨([]:List Int),([]:List (List Int)),([]:List Int)⟩:Swp)) rfl ⟨_,_,_,rfl,(Vb.nil _ _),(Vb.nil _ _),(Vb.nil _ _)⟩) hB.out),(vErr t4)⟩
 replace hm:=im hm b3
 refine o_z ?_
 refine Ae rfl (AZ (Al ?_))
 obtain ⟨v1,z3,hm⟩:=bs hm
 obtain ⟨t1,c3,hm⟩:=bs hm
 obtain ⟨b0,n1,hm⟩:=bs hm
 refine AU (fun l' w'=>∃ (a0:Nat×(Option Addr×Nat)×(Option Addr×Nat)) (O':Lab),subs l' [(1,(.pointer (some ⟨a3,0,none⟩))),(2,(.pointer (some ⟨k1,0,none⟩))),(5,(.pointer (some ⟨a0.1,0,none⟩)))]∧Bs w A w' O'∧Lc 2 w' O' a3 26 [(.slice A8 x0.vars.length c9),(.slice p2 x0.init.length q2),(.slice r2 x0.goal.length s2),(.slice t2 x0.ops.length u2)]∧Vb w' (Fr 0 w' O') (.slice A8 x0.vars.length c9) x0.vars∧Vb w' (Fr 0 w' O') (.slice p2 x0.init.length q2) x0.init∧Vb w' (Fr 0 w' O') (.slice r2 x0.goal.length s2) x0.goal∧Vb w' (Fr 0 w' O') (.slice t2 x0.ops.length u2) x0.ops∧Lc 3 w' O' k1 53 [(.slice none 0 0),(.slice none 0 0),(.slice none 0 0)]∧Lc 4 w' O' a0.1 53 [(.slice a0.2.1.1 b0.1.length a0.2.1.2),(.slice none 0 0),(.slice a0.2.2.1 b0.2.length a0.2.2.2)]∧Vb w' (Fr 0 w' O') (.slice a0.2.1.1 b0.1.length a0.2.1.2) b0.1∧Vb w' (Fr 0 w' O') (.slice a0.2.2.1 b0.2.length a0.2.2.2) b0.2) ?_ ?_
 ·
  refine Bw [] u1 ?_
  refine AD (fuel:=5) [] [(0,true),(1,true),(2,true),(4,true),(5,true),(6,true)] (by kernel_rfl) rfl ?_
  refine AJ rfl rfl rfl ?_
  replace m0:=m0.st e0
  refine Bb (hc:=fun w' ⟨O',hq⟩=>Blk.cell (i:=0) ((m0.st hq (by decide)).1) rfl) rfl rfl rfl ?_
  refine Ib rfl rfl rfl ?_
  replace h7:=h7.st e0
  have w4:x0.vars.length≤9223372036854775807:=Nat.le_trans h7.len.2.1 h7.len.2.2
  have a4:inI64 (x0.vars.length:Int):=rngNat w4
  refine AJ rfl rfl rfl (Bb (hc:=fun w' ⟨O',hq⟩=>Blk.cell (i:=3) ((m0.st hq (by decide)).1) rfl) rfl rfl rfl ?_)
  refine Ib rfl rfl rfl ?_
  replace p0:=p0.st e0
  have x4:x0.ops.length≤9223372036854775807:=Nat.le_trans p0.len.2.1 p0.len.2.2
  have d3:inI64 (x0.ops.length:Int):=rngNat x4
  refine Au ?_
  refine Bz (i:=3) (j:=9) (by kernel_rfl) rfl rfl ?_ ?_
  ·
   refine Bt (O:=u1) (R:=fun w' F v=>Vb w' F v v1) (CX Fr.lt a4 z3) rfl rfl fun d6 e6 b4 n0 e3=>?_
   obtain ⟨v2,w2,rfl⟩:=e3.form
   have hZ:=n0.lst [] (fun _ h=>h.elim)
   refine Az [] hZ (by kernel_rfl) ?_
   refine Bz (i:=7) (j:=9) (by kernel_rfl) rfl rfl ?_ ?_
   ·
    refine Bt (O:=b4) (R:=fun w' F v=>Vb w' F v t1) (CX Fr.lt d3 c3) rfl rfl fun f6 g6 y4 a1 c4=>?_
    obtain ⟨d4,e4,rfl⟩:=c4.form
    have hZ:=a1.lst [] (fun _ h=>h.elim)
    refine Az [] hZ (by kernel_rfl) ?_
    refine AD (fuel:=2) [] [(8,true)] (by kernel_rfl) rfl ?_
    refine De rfl rfl rfl rfl ?_
    refine Au ?_
    refine At (i:=9) (by kernel_rfl) rfl ?_
    refine Bk 4 y4 rfl fun f4 h6 z4 w0 w1=>?_
    have hZ:=w0.lst [] (fun _ h=>h.elim)
    refine Az [] hZ (by kernel_rfl) ?_
    refine At (i:=10) (by kernel_rfl) rfl ?_
    refine AA w1 rfl rfl rfl (AG rfl) (allOne rfl) fun a5 b1 w1=>?_
    replace w1:Lc 4 a5 z4 f4 53 [(.slice v2 v1.length w2),(.slice none 0 0),(.slice d4 t1.length e4)]:=w1
    refine Be (by kernel_rfl) ?_
    refine AY (by kernel_rfl) ?_
    obtain rfl:=sm n1
    exact ⟨(f4,(v2,w2),(d4,e4)),_,⟨rfl,rfl,rfl,trivial⟩,((((((hB.st z0).st v0).st e0).st n0).st a1).st w0).st b1,(((m0.st n0).st a1).st w0).st b1,(((h7.st n0).st a1).st w0).st b1,((((t0.st e0).st n0).st a1).st w0).st b1,((((u0.st e0).st n0).st a1).st w0).st b1,(((p0.st n0).st a1).st w0).st b1,((((c0.st e0).st n0).st a1).st w0).st b1,w1,((e3.st a1).st w0).st b1,(c4.st w0).st b1⟩
   refine Bk 4 b4 rfl fun g4 i6 b5 c1 o1=>?_
   have hZ:=c1.lst [] (fun _ h=>h.elim)
   refine Az [] hZ (by kernel_rfl) ?_
   refine At (i:=7) (by kernel_rfl) rfl ?_
   refine Bt (O:=b5) (R:=fun w' F v=>Vb w' F v t1) (CX Fr.lt d3 c3) rfl rfl fun j6 k6 c5 y0 h4=>?_
   obtain ⟨i4,j4,rfl⟩:=h4.form
   have hZ:=y0.lst [] (fun _ h=>h.elim)
   refine Az [] hZ (by kernel_rfl) ?_
   refine AD (fuel:=1) [] [(8,true)] (by kernel_rfl) rfl ?_
   refine De rfl rfl rfl rfl ?_
   refine Au ?_
   refine At (i:=10) (by kernel_rfl) rfl ?_
   replace o1:=o1.st y0
   refine AA o1 rfl rfl rfl (AG rfl) (allOne rfl) fun d5 d1 o1=>?_
   replace o1:Lc 4 d5 c5 g4 53 [(.slice v2 v1.length w2),(.slice none 0 0),(.slice i4 t1.length j4)]:=o1
   refine Be (by kernel_rfl) ?_
   refine AY (by kernel_rfl) ?_
   obtain rfl:=sm n1
   exact ⟨(g4,(v2,w2),(i4,j4)),_,⟨rfl,rfl,rfl,trivial⟩,((((((hB.st z0).st v0).st e0).st n0).st c1).st y0).st d1,(((m0.st n0).st c1).st y0).st d1,(((h7.st n0).st c1).st y0).st d1,((((t0.st e0).st n0).st c1).st y0).st d1,((((u0.st e0).st n0).st c1).st y0).st d1,(((p0.st n0).st c1).st y0).st d1,((((c0.st e0).st n0).st c1).st y0).st d1,o1,((e3.st c1).st y0).st d1,h4.st d1⟩
  refine Bk 4 u1 rfl fun k4 l6 e5 l1 p1=>?_
  have hZ:=l1.lst [] (fun _ h=>h.elim)
  refine Az [] hZ (by kernel_rfl) ?_
  refine At (i:=3) (by kernel_rfl) rfl ?_
  refine Bt (O:=e5) (R:=fun w' F v=>Vb w' F v v1) (CX Fr.lt a4 z3) rfl rfl fun m6 n6 f5 e1 l4=>?_
  obtain ⟨x1,y1,rfl⟩:=l4.form
  have hZ:=e1.lst [] (fun _ h=>h.elim)
  refine Az [] hZ (by kernel_rfl) ?_
  refine At (i:=7) (by kernel_rfl) rfl ?_
  refine Bt (O:=f5) (R:=fun w' F v=>Vb w' F v t1) (CX Fr.lt d3 c3) rfl rfl fun g5 h5 f3 g0 z1=>?_
  obtain ⟨a2,b2,rfl⟩:=z1.form
  have hZ:=g0.lst [] (fun _ h=>h.elim)
  refine Az [] hZ (by kernel_rfl) ?_
  refine AD (fuel:=1) [] [(8,true)] (by kernel_rfl) rfl ?_
  refine De rfl rfl rfl rfl ?_
  refine Au ?_
  refine At (i:=10) (by kernel_rfl) rfl ?_
  replace p1:=(p1.st e1).st g0
  refine AA p1 rfl rfl rfl (AG rfl) (allOne rfl) fun g3 i0 p1=>?_
  replace p1:Lc 4 g3 f3 k4 53 [(.slice x1 v1.length y1),(.slice none 0 0),(.slice a2 t1.length b2)]:=p1
  refine Be (by kernel_rfl) ?_
  refine AY (by kernel_rfl) ?_
  obtain rfl:=sm n1
  exact ⟨(k4,(x1,y1),(a2,b2)),_,⟨rfl,rfl,rfl,trivial⟩,((((((hB.st z0).st v0).st e0).st l1).st e1).st g0).st i0,(((m0.st l1).st e1).st g0).st i0,(((h7.st l1).st e1).st g0).st i0,((((t0.st e0).st l1).st e1).st g0).st i0,((((u0.st e0).st l1).st e1).st g0).st i0,(((p0.st l1).st e1).st g0).st i0,((((c0.st e0).st l1).st e1).st g0).st i0,p1,(l4.st g0).st i0,z1.st i0⟩
 replace hB:=((hB.st z0).st v0).st e0
 replace h7:=h7.st e0
 replace t0:=t0.st e0
 replace u0:=u0.st e0
 replace p0:=p0.st e0
 replace m0:=m0.st e0
 replace c0:=c0.st e0
 rintro i5 j5 ⟨a0,h3,c2,hB,m0,h7,t0,u0,p0,c0,q0,f1,g1⟩
 refine Bc _ c2 ?_
 refine Al (Al (Aj (AV rfl rfl (AP (hc:=Blk.cell (i:=0) (m0.1) rfl) rfl rfl ?_))))
 refine Bj rfl rfl ?_
 have q1:x0.vars.length≤9223372036854775807:=Nat.le_trans h7.len.2.1 h7.len.2.2
 have k5:inI64 (x0.vars.length:Int):=rngNat q1
 refine Ar rfl rfl (o_z ?_)
 obtain ⟨r1,d2,hm⟩:=bs hm
 refine AU (aft r1 (fun (h0:(List (List Int))) (d0:(Option Addr×Nat))=>[(2,(.pointer (some ⟨k1,0,none⟩))),(5,(.pointer (some ⟨a0.1,0,none⟩)))]) (fun h0 d0 w'=>∃ O':Lab,Bs w A w' O'∧Lc 3 w' O' k1 53 [(.slice none 0 0),(.slice none 0 0),(.slice none 0 0)]∧Lc 4 w' O' a0.1 53 [(.slice a0.2.1.1 b0.1.length a0.2.1.2),(.slice d0.1 h0.length d0.2),(.slice a0.2.2.1 b0.2.length a0.2.2.2)]∧Vb w' (Fr 0 w' O') (.slice a0.2.1.1 b0.1.length a0.2.1.2) b0.1∧Rw 6 w' O' 22 (.slice d0.1 h0.length d0.2) h0∧Vb w' (Fr 0 w' O') (.slice a0.2.2.1 b0.2.length a0.2.2.2) b0.2)) ?_ ?_
 ·
  refine Bf (BS (σ:=(List (List Int))) (X:=(Option Addr×Nat)) (x0.vars.length) d2 rfl q1 (fun (h0:(List (List Int))) (d0:(Option Addr×Nat))=>[(2,(.pointer (some ⟨k1,0,none⟩))),(5,(.pointer (some ⟨a0.1,0,none⟩))),(24,(.slice A8 x0.vars.length c9))]) _ (fun h0 d0 w'=>∃ O':Lab,Bs w A w' O'∧Lc 3 w' O' k1 53 [(.slice none 0 0),(.slice none 0 0),(.slice none 0 0)]∧Lc 4 w' O' a0.1 53 [(.slice a0.2.1.1 b0.1.length a0.2.1.2),(.slice d0.1 h0.length d0.2),(.slice a0.2.2.1 b0.2.length a0.2.2.2)]∧Vb w' (Fr 0 w' O') (.slice a0.2.1.1 b0.1.length a0.2.1.2) b0.1∧Rw 6 w' O' 22 (.slice d0.1 h0.length d0.2) h0∧Vb w' (Fr 0 w' O') (.slice a0.2.2.1 b0.2.length a0.2.2.2) b0.2∧Vb w' (Fr 0 w' O') (.slice A8 x0.vars.length c9) x0.vars) _ (none,0) ⟨h3,hB,c0,q0,f1,(Rw.nil 6 (by decide)),g1,h7⟩ ⟨rfl,rfl,rfl,rfl,rfl,trivial⟩ (fun _ _=>⟨rfl,rfl⟩) (fun _ _=>⟨rfl,rfl,trivial⟩) (fun _ _ _ ⟨O',hB,c0,q0,f1,f0,g1,h7⟩=>⟨O',hB,c0,q0,f1,f0,g1⟩) ⟨rfl,rfl,rfl⟩ ⟨rfl,rfl⟩ ?_)
  rintro i3 l5 h0 d0 m5 m4 m1 ⟨e2,hB,c0,q0,f1,f0,g1,h7⟩ j0 x2 y2
  have rk121:inI64 (i3:Int):=rngK m1 q1
  refine Al (Aj ?_)
  obtain ⟨n5,o5,n4,f2,g2,h2,rfl,j3⟩:=h7.elem' m1
  refine BB (hA:=f2) (hj:=rfl) (hlt:=g2) rfl rfl rfl ?_
  refine AP (hc:=cat0 h2) rfl rfl ?_
  refine Ay rfl rfl (o_z ?_)
  refine Bw [(5,[6])] e2 ?_
  refine AD (fuel:=5) [] [(0,true),(1,true),(2,true)] (by kernel_rfl) rfl ?_
  refine AJ rfl rfl rfl (Bb (hc:=fun w' ⟨O',hq⟩=>Blk.cell (i:=1) ((q0.st hq (by decide)).1) rfl) rfl rfl rfl ?_)
  refine AW rfl rfl rfl (Au ?_)
  refine At (i:=3) (by kernel_rfl) rfl ?_
  obtain ⟨i2,k3,j0⟩:=bs j0
  refine Bt (O:=e2) (R:=fun w' F v=>Vb w' F v i2) (CX Fr.lt j3 k3) rfl rfl fun p5 q5 l3 k0 j2=>?_
  obtain ⟨r5,s5,rfl⟩:=j2.form
  have hZ:=k0.lst [] (fun _ h=>h.elim)
  refine Az [(5,[6])] hZ (by kernel_rfl) ?_
  refine At (i:=4) (by kernel_rfl) rfl ?_
  refine AM 5 (by decide) l3 (xs:=([i2]:List (List Int))) rfl rfl rfl rfl ⟨j2,trivial⟩ (by decide) (by decide) rfl fun t5 u5 w5 l0 m3=>?_
  have hZ:=l0.lst [] (fun _ h=>h.elim)
  refine Az [(5,[6])] hZ (by kernel_rfl) ?_
  refine At (i:=5) (by kernel_rfl) rfl ?_
  obtain ⟨n3,s1,j0⟩:=bs j0
  obtain ⟨s1,o3,p3⟩:=AB s1
  replace f0:=(f0.st k0).st l0
  refine AF rfl f0 (m3.rd) rfl rfl (by decide) o3 p3 rfl fun k2 l2 x5 q3 o0 m2=>?_
  rw [← s1] at m2 ⊢
  have hZ:=o0.lst [6] (fun _ h=>by cases h;decide)
  refine Az [] hZ (by kernel_rfl) ?_
  refine AD (fuel:=1) [] [(6,true)] (by kernel_rfl) rfl ?_
  refine AJ rfl rfl rfl (Au ?_)
  refine At (i:=7) (by kernel_rfl) rfl ?_
  replace q0:=((q0.st k0).st l0).st o0
  refine AA q0 rfl rfl rfl (AG rfl) (allOne rfl) fun r3 r0 q0=>?_
  replace q0:Lc 4 r3 q3 a0.1 53 [(.slice a0.2.1.1 b0.1.length a0.2.1.2),(.slice k2 n3.length l2),(.slice a0.2.2.1 b0.2.length a0.2.2.2)]:=q0
  refine Be (by kernel_rfl) ?_
  refine AY (by kernel_rfl) ?_
  obtain rfl:=sm j0
  exact show Exists _ from ⟨_,(k2,l2),rfl,⟨rfl,rfl,rfl,rfl,rfl,trivial⟩,_,(((hB.st k0).st l0).st o0).st r0,(((c0.st k0).st l0).st o0).st r0,q0,(((f1.st k0).st l0).st o0).st r0,m2.st r0,(((g1.st k0).st l0).st o0).st r0,(((h7.st k0).st l0).st o0).st r0⟩
 rintro y5 z5 ⟨h1,s0,rfl,n2,s3,hB,c0,q0,f1,f0,g1⟩
 replace hm:=Bq hm
 refine Bc _ n2 ?_
 refine Al (Aj (Br (hl:=rfl) (hc:=(q0.1).cellsAt) rfl rfl ?_))
 refine AA c0 rfl rfl rfl (AG rfl) (allOne rfl) fun o2 i1 c0=>?_
 replace c0:Lc 3 o2 s3 k1 53 [(.slice a0.2.1.1 b0.1.length a0.2.1.2),(.slice s0.1 h1.length s0.2),(.slice a0.2.2.1 b0.2.length a0.2.2.2)]:=c0
 refine Ay rfl rfl (o_z ?_)
 refine AR ?_
 replace f0:=f0.st i1
 obtain ⟨t3,j1,f0⟩:=f0.freeze
 obtain rfl:=sm hm
 replace hB:=(hB.st i1).st j1
 replace c0:=c0.st j1
 replace f1:=(f1.st i1).st j1
 replace g1:=(g1.st i1).st j1
 exact ret2 rfl (Cg (cs:=[(.slice a0.2.1.1 b0.1.length a0.2.1.2),(.slice s0.1 h1.length s0.2),(.slice a0.2.2.1 b0.2.length a0.2.2.2)]) rfl rfl c0.1.cellsAt) (AO rfl) ⟨hB.ext,_,_,rfl,(Vb.mono (F:=Fr 0 o2 t3) (Vb.ofAgg (cs:=[(.slice a0.2.1.1 b0.1.length a0.2.1.2),(.slice s0.1 h1.length s0.2),(.slice a0.2.2.1 b0.2.length a0.2.2.2)]) (x:=(⟨b0.1,h1,b0.2⟩:Swp)) rfl ⟨_,_,_,rfl,f1,f0,g1⟩) hB.out),(vErr (show inI64 0 from by decide))⟩
noncomputable def BV (x0:Tsk) (x1:Swp) (x2:Swp):Option (Swp×Err) :=
  bnd (Bn x0 [x1,x2]) fun q73=>if q73.n≠0 then (some ((⟨([]:List Int),([]:List (List Int)),([]:List Int)⟩:Swp),(⟨q73.n⟩:Err))) else (bnd (CE x1.vars x2.vars) fun q84=>bnd (CE x1.ops x2.ops) fun q86=>bnd (some (q84,q86):Option ((List Int)×(List Int))) fun y88=>bnd (rng (ρ:=Swp×Err) (fun (k161:Nat) (a162:List Int) (s159:(List (List Int)))=>bnd (x1.vars[k161]?) fun a187=>bnd (atI x2.vals a187) fun a197=>bnd (CE a162 a197) fun q212=>bnd (appI 24 s159 [q212]) fun u227=>some (.next u227)) x1.vals 0 ([]:List (List Int))) fun res157=>fin res157 fun (s244:(List (List Int)))=>some ((⟨y88.1,s244,y88.2⟩:Swp),(⟨0⟩:Err)))
theorem Ho {w:World} {A:Nat→Prop} (hA:∀ k,A k→k < w.heap.size) {vx0:Value} {x0:Tsk} (o4:Vb w A vx0 x0) {vx1:Value} {x1:Swp} (p4:Vb w A vx1 x1) {vx2:Value} {x2:Swp} (q4:Vb w A vx2 x2) {r:Swp×Err} (hm:BV x0 x1 x2=some r) :
    Fn Tryz.prog 64 [vx0,vx1,vx2] w fun v w'=>Ext w w'∧T2 w' (upA A w w') v r:=by
 obtain ⟨O,hB,r4⟩:=enter hA
 replace o4:=o4.mono r4
 obtain ⟨u8,rfl,v5,v6,v7,v8,rfl,h9,j4,k4,l4⟩:=o4
 obtain ⟨w5,x5,rfl⟩:=h9.form
 obtain ⟨y5,z5,rfl⟩:=j4.form
 obtain ⟨a6,b6,rfl⟩:=k4.form
 obtain ⟨c6,d6,rfl⟩:=l4.form
 replace p4:=p4.mono r4
 obtain ⟨q6,rfl,w8,x8,y8,rfl,z0,g1,u0⟩:=p4
 obtain ⟨i2,j2,rfl⟩:=z0.form
 obtain ⟨c2,d2,rfl⟩:=g1.form
 obtain ⟨k2,l2,rfl⟩:=u0.form
 replace q4:=q4.mono r4
 obtain ⟨r6,rfl,z8,a9,b9,rfl,d1,j1,v0⟩:=q4
 obtain ⟨m2,n2,rfl⟩:=d1.form
 obtain ⟨o2,p2,rfl⟩:=j1.form
 obtain ⟨q2,r2,rfl⟩:=v0.form
 refine AQ Tryz.func64 rfl Tryz.ntmps64 rfl ?_
 unfold BV at hm
 refine Al (Aj (Cp 2 O rfl rfl fun s6 t6 e6 k1 t2=>?_))
 replace t2:Lc 2 t6 e6 s6 26 [(.slice w5 x0.vars.length x5),(.slice y5 x0.init.length z5),(.slice a6 x0.goal.length b6),(.slice c6 x0.ops.length d6)]:=t2
 refine Cp 3 e6 rfl rfl fun u2 u6 f6 i1 a1=>?_
 replace a1:Lc 3 u6 f6 u2 53 [(.slice i2 x1.vars.length j2),(.slice c2 x1.vals.length d2),(.slice k2 x1.ops.length l2)]:=a1
 refine Cp 4 f6 rfl rfl fun v2 w6 g6 h1 e1=>?_
 replace e1:Lc 4 w6 g6 v2 53 [(.slice m2 x2.vars.length n2),(.slice o2 x2.vals.length p2),(.slice q2 x2.ops.length r2)]:=e1
 refine Bk 5 g6 rfl fun a2 c9 x6 f1 m0=>?_
 refine Ay rfl rfl (o_z ?_)
 refine Al (Al (Aj ?_))
 replace t2:=((t2.st i1).st h1).st f1
 refine Br (hl:=rfl) (hc:=(t2.1).cellsAt) rfl rfl ?_
 replace a1:=(a1.st h1).st f1
 refine Br (hl:=rfl) (hc:=(a1.1).cellsAt) rfl rfl ?_
 replace e1:=e1.st f1
 refine Br (hl:=rfl) (hc:=(e1.1).cellsAt) rfl rfl ?_
 replace z0:=(((z0.st k1).st i1).st h1).st f1
 replace g1:=(((g1.st k1).st i1).st h1).st f1
 replace u0:=(((u0.st k1).st i1).st h1).st f1
 replace d1:=(((d1.st k1).st i1).st h1).st f1
 replace j1:=(((j1.st k1).st i1).st h1).st f1
 replace v0:=(((v0.st k1).st i1).st h1).st f1
 refine AM 6 (by decide) x6 (xs:=([x1,x2]:List Swp)) rfl rfl rfl rfl ⟨(Vb.ofAgg (cs:=[(.slice i2 x1.vars.length j2),(.slice c2 x1.vals.length d2),(.slice k2 x1.ops.length l2)]) (x:=x1) rfl ⟨_,_,_,rfl,z0,g1,u0⟩),(Vb.ofAgg (cs:=[(.slice m2 x2.vars.length n2),(.slice o2 x2.vals.length p2),(.slice q2 x2.ops.length r2)]) (x:=x2) rfl ⟨_,_,_,rfl,d1,j1,v0⟩),trivial⟩ (by decide) (by decide) rfl fun d9 h6 i6 b0 y6=>?_
 obtain ⟨z6,a7,hm⟩:=bs hm
 replace h9:=((((h9.st k1).st i1).st h1).st f1).st b0
 replace j4:=((((j4.st k1).st i1).st h1).st f1).st b0
 replace k4:=((((k4.st k1).st i1).st h1).st f1).st b0
 replace l4:=((((l4.st k1).st i1).st h1).st f1).st b0
 refine By (O:=i6) (A:=All h6) (R:=fun w' F v=>Vb w' F v z6) (DF (fun _ h=>h) (Vb.mono (F:=Fr 0 h6 i6) (Vb.ofAgg (cs:=[(.slice w5 x0.vars.length x5),(.slice y5 x0.init.length z5),(.slice a6 x0.goal.length b6),(.slice c6 x0.ops.length d6)]) (x:=x0) rfl ⟨_,_,_,_,rfl,h9,j4,k4,l4⟩) Fr.lt) (y6).all a7) rfl rfl fun e9 f9 w2 c0 b7=>?_
 obtain ⟨rfl,c7⟩:=b7.err
 refine Ay rfl rfl (o_z ?_)
 refine Al (Aj (Ar rfl rfl (Ej rfl rfl (fun s4=>?_) fun s4=>?_)))
 ·
  replace hm:=ip hm s4
  refine o_z ?_
  refine Ah rfl (Al (Aj (CG rfl rfl rfl ?_)))
  refine Ar rfl rfl ?_
  replace m0:=(m0.st b0).st c0
  refine AA m0 rfl rfl rfl (AG rfl) (allOne rfl) fun j6 d7 m0=>?_
  replace m0:Lc 5 j6 w2 a2 53 [(.slice none 0 0),(.slice none 0 0),(.slice none 0 0)]:=m0
  refine Ay rfl rfl (o_z ?_)
  refine AR ?_
  obtain rfl:=sm hm
  replace hB:=((((((hB.st k1).st i1).st h1).st f1).st b0).st c0).st d7
  exact ret2 rfl (Cg (cs:=[(.slice none 0 0),(.slice none 0 0),(.slice none 0 0)]) rfl rfl m0.1.cellsAt) (AO rfl) ⟨hB.ext,_,_,rfl,(Vb.mono (F:=Fr 0 j6 w2) (Vb.ofAgg (cs:=[(.slice none 0 0),(.slice none 0 0),(.slice none 0 0)]) (x:=(⟨([]:List Int),([]:List (List Int)),([]:List Int)⟩:Swp)) rfl ⟨_,_,_,rfl,(Vb.nil _ _),(Vb.nil _ _),(Vb.nil _ _)⟩) hB.out),(vErr c7)⟩
 replace hm:=im hm s4
 refine o_z ?_
 refine Ae rfl (AZ (Al ?_))
 obtain ⟨y2,k6,hm⟩:=bs hm
 obtain ⟨s2,t4,hm⟩:=bs hm
 obtain ⟨h0,e2,hm⟩:=bs hm
 refine AU (fun l' w'=>∃ (a0:Nat×(Option Addr×Nat)×(Option Addr×Nat)) (O':Lab),subs l' [(4,(.pointer (some ⟨u2,0,none⟩))),(5,(.pointer (some ⟨v2,0,none⟩))),(6,(.pointer (some ⟨a2,0,none⟩))),(9,(.pointer (some ⟨a0.1,0,none⟩)))]∧Bs w A w' O'∧Lc 3 w' O' u2 53 [(.slice i2 x1.vars.length j2),(.slice c2 x1.vals.length d2),(.slice k2 x1.ops.length l2)]∧Vb w' (Fr 0 w' O') (.slice i2 x1.vars.length j2) x1.vars∧Vb w' (Fr 0 w' O') (.slice c2 x1.vals.length d2) x1.vals∧Vb w' (Fr 0 w' O') (.slice k2 x1.ops.length l2) x1.ops∧Lc 4 w' O' v2 53 [(.slice m2 x2.vars.length n2),(.slice o2 x2.vals.length p2),(.slice q2 x2.ops.length r2)]∧Vb w' (Fr 0 w' O') (.slice m2 x2.vars.length n2) x2.vars∧Vb w' (Fr 0 w' O') (.slice o2 x2.vals.length p2) x2.vals∧Vb w' (Fr 0 w' O') (.slice q2 x2.ops.length r2) x2.ops∧Lc 5 w' O' a2 53 [(.slice none 0 0),(.slice none 0 0),(.slice none 0 0)]∧Lc 7 w' O' a0.1 53 [(.slice a0.2.1.1 h0.1.length a0.2.1.2),(.slice none 0 0),(.slice a0.2.2.1 h0.2.length a0.2.2.2)]∧Vb w' (Fr 0 w' O') (.slice a0.2.1.1 h0.1.length a0.2.1.2) h0.1∧Vb w' (Fr 0 w' O') (.slice a0.2.2.1 h0.2.length a0.2.2.2) h0.2) ?_ ?_
 ·
  refine Bw [] w2 ?_
  refine AD (fuel:=5) [] [(0,true),(1,true),(2,true),(3,true),(5,true),(6,true),(7,true),(8,true)] (by kernel_rfl) rfl ?_
  refine AJ rfl rfl rfl ?_
  replace a1:=(a1.st b0).st c0
  refine Bb (hc:=fun w' ⟨O',hq⟩=>Blk.cell (i:=0) ((a1.st hq (by decide)).1) rfl) rfl rfl rfl ?_
  refine AJ rfl rfl rfl ?_
  replace e1:=(e1.st b0).st c0
  refine Bb (hc:=fun w' ⟨O',hq⟩=>Blk.cell (i:=0) ((e1.st hq (by decide)).1) rfl) rfl rfl rfl ?_
  refine AJ rfl rfl rfl (Bb (hc:=fun w' ⟨O',hq⟩=>Blk.cell (i:=2) ((a1.st hq (by decide)).1) rfl) rfl rfl rfl ?_)
  refine AJ rfl rfl rfl (Bb (hc:=fun w' ⟨O',hq⟩=>Blk.cell (i:=2) ((e1.st hq (by decide)).1) rfl) rfl rfl rfl ?_)
  refine Au ?_
  refine Bz (i:=4) (j:=11) (by kernel_rfl) rfl rfl ?_ ?_
  ·
   replace z0:=(z0.st b0).st c0
   replace d1:=(d1.st b0).st c0
   refine Bt (O:=w2) (R:=fun w' F v=>Vb w' F v y2) (CQ Fr.lt z0 d1 k6) rfl rfl fun g9 i9 l6 b1 u4=>?_
   obtain ⟨q1,r1,rfl⟩:=u4.form
   have hZ:=b1.lst [] (fun _ h=>h.elim)
   refine Az [] hZ (by kernel_rfl) ?_
   refine Bz (i:=9) (j:=11) (by kernel_rfl) rfl rfl ?_ ?_
   ·
    replace u0:=((u0.st b0).st c0).st b1
    replace v0:=((v0.st b0).st c0).st b1
    refine Bt (O:=l6) (R:=fun w' F v=>Vb w' F v s2) (CQ Fr.lt u0 v0 t4) rfl rfl fun e7 f7 v4 n0 z2=>?_
    obtain ⟨a3,b3,rfl⟩:=z2.form
    have hZ:=n0.lst [] (fun _ h=>h.elim)
    refine Az [] hZ (by kernel_rfl) ?_
    refine AD (fuel:=2) [] [(10,true)] (by kernel_rfl) rfl ?_
    refine De rfl rfl rfl rfl ?_
    refine Au ?_
    refine At (i:=11) (by kernel_rfl) rfl ?_
    refine Bk 7 v4 rfl fun c3 g7 w4 i0 p1=>?_
    have hZ:=i0.lst [] (fun _ h=>h.elim)
    refine Az [] hZ (by kernel_rfl) ?_
    refine At (i:=12) (by kernel_rfl) rfl ?_
    refine AA p1 rfl rfl rfl (AG rfl) (allOne rfl) fun x4 o0 p1=>?_
    replace p1:Lc 7 x4 w4 c3 53 [(.slice q1 y2.length r1),(.slice none 0 0),(.slice a3 s2.length b3)]:=p1
    refine Be (by kernel_rfl) ?_
    refine AY (by kernel_rfl) ?_
    obtain rfl:=sm e2
    exact ⟨(c3,(q1,r1),(a3,b3)),_,⟨rfl,rfl,rfl,rfl,trivial⟩,(((((((((hB.st k1).st i1).st h1).st f1).st b0).st c0).st b1).st n0).st i0).st o0,(((a1.st b1).st n0).st i0).st o0,(((z0.st b1).st n0).st i0).st o0,(((((g1.st b0).st c0).st b1).st n0).st i0).st o0,((u0.st n0).st i0).st o0,(((e1.st b1).st n0).st i0).st o0,(((d1.st b1).st n0).st i0).st o0,(((((j1.st b0).st c0).st b1).st n0).st i0).st o0,((v0.st n0).st i0).st o0,(((((m0.st b0).st c0).st b1).st n0).st i0).st o0,p1,((u4.st n0).st i0).st o0,(z2.st i0).st o0⟩
   refine Bk 7 l6 rfl fun d3 h7 y4 p0 l1=>?_
   have hZ:=p0.lst [] (fun _ h=>h.elim)
   refine Az [] hZ (by kernel_rfl) ?_
   refine At (i:=9) (by kernel_rfl) rfl ?_
   replace u0:=(((u0.st b0).st c0).st b1).st p0
   replace v0:=(((v0.st b0).st c0).st b1).st p0
   refine Bt (O:=y4) (R:=fun w' F v=>Vb w' F v s2) (CQ Fr.lt u0 v0 t4) rfl rfl fun i7 j7 z4 j0 e3=>?_
   obtain ⟨f3,g3,rfl⟩:=e3.form
   have hZ:=j0.lst [] (fun _ h=>h.elim)
   refine Az [] hZ (by kernel_rfl) ?_
   refine AD (fuel:=1) [] [(10,true)] (by kernel_rfl) rfl ?_
   refine De rfl rfl rfl rfl ?_
   refine Au ?_
   refine At (i:=12) (by kernel_rfl) rfl ?_
   replace l1:=l1.st j0
   refine AA l1 rfl rfl rfl (AG rfl) (allOne rfl) fun a5 q0 l1=>?_
   replace l1:Lc 7 a5 z4 d3 53 [(.slice q1 y2.length r1),(.slice none 0 0),(.slice f3 s2.length g3)]:=l1
   refine Be (by kernel_rfl) ?_
   refine AY (by kernel_rfl) ?_
   obtain rfl:=sm e2
   exact ⟨(d3,(q1,r1),(f3,g3)),_,⟨rfl,rfl,rfl,rfl,trivial⟩,(((((((((hB.st k1).st i1).st h1).st f1).st b0).st c0).st b1).st p0).st j0).st q0,(((a1.st b1).st p0).st j0).st q0,(((z0.st b1).st p0).st j0).st q0,(((((g1.st b0).st c0).st b1).st p0).st j0).st q0,(u0.st j0).st q0,(((e1.st b1).st p0).st j0).st q0,(((d1.st b1).st p0).st j0).st q0,(((((j1.st b0).st c0).st b1).st p0).st j0).st q0,(v0.st j0).st q0,(((((m0.st b0).st c0).st b1).st p0).st j0).st q0,l1,((u4.st p0).st j0).st q0,e3.st q0⟩
  refine Bk 7 w2 rfl fun h3 k7 b5 w0 m1=>?_
  have hZ:=w0.lst [] (fun _ h=>h.elim)
  refine Az [] hZ (by kernel_rfl) ?_
  refine At (i:=4) (by kernel_rfl) rfl ?_
  replace z0:=((z0.st b0).st c0).st w0
  replace d1:=((d1.st b0).st c0).st w0
  refine Bt (O:=b5) (R:=fun w' F v=>Vb w' F v y2) (CQ Fr.lt z0 d1 k6) rfl rfl fun l7 m7 c5 r0 i3=>?_
  obtain ⟨j3,k3,rfl⟩:=i3.form
  have hZ:=r0.lst [] (fun _ h=>h.elim)
  refine Az [] hZ (by kernel_rfl) ?_
  refine At (i:=9) (by kernel_rfl) rfl ?_
  replace u0:=(((u0.st b0).st c0).st w0).st r0
  replace v0:=(((v0.st b0).st c0).st w0).st r0
  refine Bt (O:=c5) (R:=fun w' F v=>Vb w' F v s2) (CQ Fr.lt u0 v0 t4) rfl rfl fun n7 o7 d5 k0 l3=>?_
  obtain ⟨m3,n3,rfl⟩:=l3.form
  have hZ:=k0.lst [] (fun _ h=>h.elim)
  refine Az [] hZ (by kernel_rfl) ?_
  refine AD (fuel:=1) [] [(10,true)] (by kernel_rfl) rfl ?_
  refine De rfl rfl rfl rfl ?_
  refine Au ?_
  refine At (i:=12) (by kernel_rfl) rfl ?_
  replace m1:=(m1.st r0).st k0
  refine AA m1 rfl rfl rfl (AG rfl) (allOne rfl) fun e5 s0 m1=>?_
  replace m1:Lc 7 e5 d5 h3 53 [(.slice j3 y2.length k3),(.slice none 0 0),(.slice m3 s2.length n3)]:=m1
  refine Be (by kernel_rfl) ?_
  refine AY (by kernel_rfl) ?_
  obtain rfl:=sm e2
  exact ⟨(h3,(j3,k3),(m3,n3)),_,⟨rfl,rfl,rfl,rfl,trivial⟩,(((((((((hB.st k1).st i1).st h1).st f1).st b0).st c0).st w0).st r0).st k0).st s0,(((a1.st w0).st r0).st k0).st s0,((z0.st r0).st k0).st s0,(((((g1.st b0).st c0).st w0).st r0).st k0).st s0,(u0.st k0).st s0,(((e1.st w0).st r0).st k0).st s0,((d1.st r0).st k0).st s0,(((((j1.st b0).st c0).st w0).st r0).st k0).st s0,(v0.st k0).st s0,(((((m0.st b0).st c0).st w0).st r0).st k0).st s0,m1,(i3.st k0).st s0,l3.st s0⟩
 replace hB:=(((((hB.st k1).st i1).st h1).st f1).st b0).st c0
 replace z0:=(z0.st b0).st c0
 replace g1:=(g1.st b0).st c0
 replace u0:=(u0.st b0).st c0
 replace d1:=(d1.st b0).st c0
 replace j1:=(j1.st b0).st c0
 replace v0:=(v0.st b0).st c0
 replace a1:=(a1.st b0).st c0
 replace e1:=(e1.st b0).st c0
 replace m0:=(m0.st b0).st c0
 rintro p7 q7 ⟨a0,f5,o3,hB,a1,z0,g1,u0,e1,d1,j1,v0,m0,n1,s1,t1⟩
 refine Bc _ o3 ?_
 refine Al (Al (Aj (AV rfl rfl (AP (hc:=Blk.cell (i:=1) (a1.1) rfl) rfl rfl ?_))))
 refine Bj rfl rfl ?_
 have f2:x1.vals.length≤9223372036854775807:=Nat.le_trans g1.len.2.1 g1.len.2.2
 have r7:inI64 (x1.vals.length:Int):=rngNat f2
 refine Ar rfl rfl (o_z ?_)
 obtain ⟨g2,p3,hm⟩:=bs hm
 refine AU (aft g2 (fun (c1:(List (List Int))) (t0:(Option Addr×Nat))=>[(6,(.pointer (some ⟨a2,0,none⟩))),(9,(.pointer (some ⟨a0.1,0,none⟩)))]) (fun c1 t0 w'=>∃ O':Lab,Bs w A w' O'∧Lc 5 w' O' a2 53 [(.slice none 0 0),(.slice none 0 0),(.slice none 0 0)]∧Lc 7 w' O' a0.1 53 [(.slice a0.2.1.1 h0.1.length a0.2.1.2),(.slice t0.1 c1.length t0.2),(.slice a0.2.2.1 h0.2.length a0.2.2.2)]∧Vb w' (Fr 0 w' O') (.slice a0.2.1.1 h0.1.length a0.2.1.2) h0.1∧Rw 9 w' O' 22 (.slice t0.1 c1.length t0.2) c1∧Vb w' (Fr 0 w' O') (.slice a0.2.2.1 h0.2.length a0.2.2.2) h0.2)) ?_ ?_
 ·
  refine Bf (BS (σ:=(List (List Int))) (X:=(Option Addr×Nat)) (x1.vals.length) p3 rfl f2 (fun (c1:(List (List Int))) (t0:(Option Addr×Nat))=>[(4,(.pointer (some ⟨u2,0,none⟩))),(5,(.pointer (some ⟨v2,0,none⟩))),(6,(.pointer (some ⟨a2,0,none⟩))),(9,(.pointer (some ⟨a0.1,0,none⟩))),(33,(.slice c2 x1.vals.length d2))]) _ (fun c1 t0 w'=>∃ O':Lab,Bs w A w' O'∧Lc 3 w' O' u2 53 [(.slice i2 x1.vars.length j2),(.slice c2 x1.vals.length d2),(.slice k2 x1.ops.length l2)]∧Vb w' (Fr 0 w' O') (.slice i2 x1.vars.length j2) x1.vars∧Vb w' (Fr 0 w' O') (.slice c2 x1.vals.length d2) x1.vals∧Vb w' (Fr 0 w' O') (.slice k2 x1.ops.length l2) x1.ops∧Lc 4 w' O' v2 53 [(.slice m2 x2.vars.length n2),(.slice o2 x2.vals.length p2),(.slice q2 x2.ops.length r2)]∧Vb w' (Fr 0 w' O') (.slice m2 x2.vars.length n2) x2.vars∧Vb w' (Fr 0 w' O') (.slice o2 x2.vals.length p2) x2.vals∧Vb w' (Fr 0 w' O') (.slice q2 x2.ops.length r2) x2.ops∧Lc 5 w' O' a2 53 [(.slice none 0 0),(.slice none 0 0),(.slice none 0 0)]∧Lc 7 w' O' a0.1 53 [(.slice a0.2.1.1 h0.1.length a0.2.1.2),(.slice t0.1 c1.length t0.2),(.slice a0.2.2.1 h0.2.length a0.2.2.2)]∧Vb w' (Fr 0 w' O') (.slice a0.2.1.1 h0.1.length a0.2.1.2) h0.1∧Rw 9 w' O' 22 (.slice t0.1 c1.length t0.2) c1∧Vb w' (Fr 0 w' O') (.slice a0.2.2.1 h0.2.length a0.2.2.2) h0.2) _ (none,0) ⟨f5,hB,a1,z0,g1,u0,e1,d1,j1,v0,m0,n1,s1,(Rw.nil 9 (by decide)),t1⟩ ⟨rfl,rfl,rfl,rfl,rfl,rfl,rfl,trivial⟩ (fun _ _=>⟨rfl,rfl⟩) (fun _ _=>⟨rfl,rfl,trivial⟩) (fun _ _ _ ⟨O',hB,a1,z0,g1,u0,e1,d1,j1,v0,m0,n1,s1,y0,t1⟩=>⟨O',hB,m0,n1,s1,y0,t1⟩) ⟨rfl,rfl,rfl⟩ ⟨rfl,rfl⟩ ?_)
  rintro g5 s7 c1 t0 t7 m6 b2 ⟨q3,hB,a1,z0,g1,u0,e1,d1,j1,v0,m0,n1,s1,y0,t1⟩ f0 m4 n4
  have rk161:inI64 (g5:Int):=rngK b2 f2
  refine Al (Aj (Ar rfl rfl ?_))
  obtain ⟨u7,w7,n6,r3,s3,t3,x7,rfl,u1⟩:=g1.elem' b2
  replace u1:=Vb.of_slice u1
  obtain ⟨y7,z7,rfl⟩:=u1.form
  refine BB (hA:=r3) (hj:=rfl) (hlt:=s3) rfl rfl rfl ?_
  refine AP (hc:=cat0 t3) rfl rfl ?_
  refine Ay rfl rfl (Ay rfl rfl (o_z ?_))
  refine Bw [(14,[9])] q3 ?_
  refine AD (fuel:=5) [] [(0,true),(1,true),(2,true),(3,true),(4,true),(5,true),(6,true),(7,true),(8,true),(9,true),(10,true),(11,true)] (by kernel_rfl) rfl ?_
  refine AJ rfl rfl rfl (Bb (hc:=fun w' ⟨O',hq⟩=>Blk.cell (i:=1) ((n1.st hq (by decide)).1) rfl) rfl rfl rfl ?_)
  refine AW rfl rfl rfl (AJ rfl rfl rfl (Bb (hc:=fun w' ⟨O',hq⟩=>Blk.cell (i:=1) ((e1.st hq (by decide)).1) rfl) rfl rfl rfl ?_))
  refine AJ rfl rfl rfl (Bb (hc:=fun w' ⟨O',hq⟩=>Blk.cell (i:=0) ((a1.st hq (by decide)).1) rfl) rfl rfl rfl ?_)
  refine AW rfl rfl rfl ?_
  obtain ⟨a8,h5,f0⟩:=bs f0
  obtain ⟨b8,c8,o6,u3,v3,w3,x3,rfl,d8⟩:=z0.elem h5
  refine BC (hA:=u3) (hj:=rfl) (hlt:=w3) rfl rfl rfl rfl ?_
  refine Bb (hc:=fun w' ⟨O',hq⟩=>cat0 (Bg (hq.agree (i:=0) (by decide)) v3 x3)) rfl rfl rfl ?_
  obtain ⟨e8,i5,f0⟩:=bs f0
  obtain ⟨j5,k5⟩:=Ba i5
  obtain ⟨f8,g8,p6,y3,z3,a4,b4,h8,rfl,v1⟩:=j1.elem k5
  replace v1:=Vb.of_slice v1
  obtain ⟨i8,j8,rfl⟩:=v1.form
  refine BC (hA:=y3) (hj:=(Int.toNat_of_nonneg j5).symm) (hlt:=a4) rfl rfl rfl rfl ?_
  refine Bb (hc:=fun w' ⟨O',hq⟩=>cat0 (Bg (hq.agree (i:=0) (by decide)) z3 b4)) rfl rfl rfl ?_
  refine Au ?_
  refine At (i:=12) (by kernel_rfl) rfl ?_
  obtain ⟨c4,l5,f0⟩:=bs f0
  refine Bt (O:=q3) (R:=fun w' F v=>Vb w' F v c4) (CQ Fr.lt u1 v1 l5) rfl rfl fun k8 l8 m5 d0 d4=>?_
  obtain ⟨m8,n8,rfl⟩:=d4.form
  have hZ:=d0.lst [] (fun _ h=>h.elim)
  refine Az [(14,[9])] hZ (by kernel_rfl) ?_
  refine At (i:=13) (by kernel_rfl) rfl ?_
  refine AM 8 (by decide) m5 (xs:=([c4]:List (List Int))) rfl rfl rfl rfl ⟨d4,trivial⟩ (by decide) (by decide) rfl fun o8 p8 q8 e0 n5=>?_
  have hZ:=e0.lst [] (fun _ h=>h.elim)
  refine Az [(14,[9])] hZ (by kernel_rfl) ?_
  refine At (i:=14) (by kernel_rfl) rfl ?_
  obtain ⟨o5,h2,f0⟩:=bs f0
  obtain ⟨h2,p5,q5⟩:=AB h2
  replace y0:=(y0.st d0).st e0
  refine AF rfl y0 (n5.rd) rfl rfl (by decide) p5 q5 rfl fun e4 f4 r8 r5 g0 g4=>?_
  rw [← h2] at g4 ⊢
  have hZ:=g0.lst [9] (fun _ h=>by cases h;decide)
  refine Az [] hZ (by kernel_rfl) ?_
  refine AD (fuel:=1) [] [(15,true)] (by kernel_rfl) rfl ?_
  refine AJ rfl rfl rfl (Au ?_)
  refine At (i:=16) (by kernel_rfl) rfl ?_
  replace n1:=((n1.st d0).st e0).st g0
  refine AA n1 rfl rfl rfl (AG rfl) (allOne rfl) fun s5 l0 n1=>?_
  replace n1:Lc 7 s5 r5 a0.1 53 [(.slice a0.2.1.1 h0.1.length a0.2.1.2),(.slice e4 o5.length f4),(.slice a0.2.2.1 h0.2.length a0.2.2.2)]:=n1
  refine Be (by kernel_rfl) ?_
  refine AY (by kernel_rfl) ?_
  obtain rfl:=sm f0
  exact show Exists _ from ⟨_,(e4,f4),rfl,⟨rfl,rfl,rfl,rfl,rfl,rfl,rfl,trivial⟩,_,(((hB.st d0).st e0).st g0).st l0,(((a1.st d0).st e0).st g0).st l0,(((z0.st d0).st e0).st g0).st l0,(((g1.st d0).st e0).st g0).st l0,(((u0.st d0).st e0).st g0).st l0,(((e1.st d0).st e0).st g0).st l0,(((d1.st d0).st e0).st g0).st l0,(((j1.st d0).st e0).st g0).st l0,(((v0.st d0).st e0).st g0).st l0,(((m0.st d0).st e0).st g0).st l0,n1,(((s1.st d0).st e0).st g0).st l0,g4.st l0,(((t1.st d0).st e0).st g0).st l0⟩
 rintro s8 t8 ⟨w1,o1,rfl,h4,t5,hB,m0,n1,s1,y0,t1⟩
 replace hm:=Bq hm
 refine Bc _ h4 ?_
 refine Al (Aj (Br (hl:=rfl) (hc:=(n1.1).cellsAt) rfl rfl ?_))
 refine AA m0 rfl rfl rfl (AG rfl) (allOne rfl) fun i4 y1 m0=>?_
 replace m0:Lc 5 i4 t5 a2 53 [(.slice a0.2.1.1 h0.1.length a0.2.1.2),(.slice o1.1 w1.length o1.2),(.slice a0.2.2.1 h0.2.length a0.2.2.2)]:=m0
 refine Ay rfl rfl (o_z ?_)
 refine AR ?_
 replace y0:=y0.st y1
 obtain ⟨u5,z1,y0⟩:=y0.freeze
 obtain rfl:=sm hm
 replace hB:=(hB.st y1).st z1
 replace m0:=m0.st z1
 replace s1:=(s1.st y1).st z1
 replace t1:=(t1.st y1).st z1
 exact ret2 rfl (Cg (cs:=[(.slice a0.2.1.1 h0.1.length a0.2.1.2),(.slice o1.1 w1.length o1.2),(.slice a0.2.2.1 h0.2.length a0.2.2.2)]) rfl rfl m0.1.cellsAt) (AO rfl) ⟨hB.ext,_,_,rfl,(Vb.mono (F:=Fr 0 i4 u5) (Vb.ofAgg (cs:=[(.slice a0.2.1.1 h0.1.length a0.2.1.2),(.slice o1.1 w1.length o1.2),(.slice a0.2.2.1 h0.2.length a0.2.2.2)]) (x:=(⟨h0.1,w1,h0.2⟩:Swp)) rfl ⟨_,_,_,rfl,s1,y0,t1⟩) hB.out),(vErr (show inI64 0 from by decide))⟩
noncomputable def Cs (x0:Tsk) (x1:Swp):Option (Swp×Err) :=
  bnd (Bn x0 [x1]) fun q54=>if q54.n≠0 then (some ((⟨([]:List Int),([]:List (List Int)),([]:List Int)⟩:Swp),(⟨q54.n⟩:Err))) else (bnd (Cd x1.vars) fun q65=>bnd (Cd x1.ops) fun q67=>bnd (mkI 24 (([]:List Int):List Int) (x1.vals.length:Int)) fun u69=>bnd (some (q65,u69,q67):Option ((List Int)×(List (List Int))×(List Int))) fun y71=>bnd (rng (ρ:=Swp×Err) (fun (k372:Nat) (a373:List Int) (s370:(List (List Int)))=>bnd (x1.vars[k372]?) fun a398=>bnd (Cd a373) fun q408=>bnd (atI s370 a398) fun a417=>some (.next (s370.set (a398:Int).toNat q408))) x1.vals 0 y71.2.1) fun res368=>fin res368 fun (s438:(List (List Int)))=>some ((⟨y71.1,s438,y71.2.2⟩:Swp),(⟨0⟩:Err)))
theorem Fi {w:World} {A:Nat→Prop} (hA:∀ k,A k→k < w.heap.size) {vx0:Value} {x0:Tsk} (k8:Vb w A vx0 x0) {vx1:Value} {x1:Swp} (l8:Vb w A vx1 x1) {r:Swp×Err} (hm:Cs x0 x1=some r) :
    Fn Tryz.prog 63 [vx0,vx1] w fun v w'=>Ext w w'∧T2 w' (upA A w w') v r:=by
 obtain ⟨O,hB,tB⟩:=enter hA
 replace k8:=k8.mono tB
 obtain ⟨bG,rfl,v4,v5,v6,v7,rfl,h8,c8,d8,e8⟩:=k8
 obtain ⟨A9,uB,rfl⟩:=h8.form
 obtain ⟨vB,wB,rfl⟩:=c8.form
 obtain ⟨xB,yB,rfl⟩:=d8.form
 obtain ⟨zB,aC,rfl⟩:=e8.form
 replace l8:=l8.mono tB
 obtain ⟨oC,rfl,cG,dG,eG,rfl,f0,q0,b0⟩:=l8
 obtain ⟨j4,k4,rfl⟩:=f0.form
 obtain ⟨a4,b4,rfl⟩:=q0.form
 obtain ⟨l4,m4,rfl⟩:=b0.form
 refine AQ Tryz.func63 rfl Tryz.ntmps63 rfl ?_
 unfold Cs at hm
 refine Al (Aj (Cp 2 O rfl rfl fun pC qC bC b1 o4=>?_))
 replace o4:Lc 2 qC bC pC 26 [(.slice A9 x0.vars.length uB),(.slice vB x0.init.length wB),(.slice xB x0.goal.length yB),(.slice zB x0.ops.length aC)]:=o4
 refine Cp 3 bC rfl rfl fun p4 rC cC a1 l0=>?_
 replace l0:Lc 3 rC cC p4 53 [(.slice j4 x1.vars.length k4),(.slice a4 x1.vals.length b4),(.slice l4 x1.ops.length m4)]:=l0
 refine Bk 4 cC rfl fun w3 fG sC u0 k0=>?_
 refine Ay rfl rfl (o_z ?_)
 refine Al (Al (Aj ?_))
 replace o4:=(o4.st a1).st u0
 refine Br (hl:=rfl) (hc:=(o4.1).cellsAt) rfl rfl ?_
 replace l0:=l0.st u0
 refine Br (hl:=rfl) (hc:=(l0.1).cellsAt) rfl rfl ?_
 replace f0:=((f0.st b1).st a1).st u0
 replace q0:=((q0.st b1).st a1).st u0
 replace b0:=((b0.st b1).st a1).st u0
 refine AM 5 (by decide) sC (xs:=([x1]:List Swp)) rfl rfl rfl rfl ⟨(Vb.ofAgg (cs:=[(.slice j4 x1.vars.length k4),(.slice a4 x1.vals.length b4),(.slice l4 x1.ops.length m4)]) (x:=x1) rfl ⟨_,_,_,rfl,f0,q0,b0⟩),trivial⟩ (by decide) (by decide) rfl fun gG dC eC c0 tC=>?_
 obtain ⟨uC,vC,hm⟩:=bs hm
 replace h8:=(((h8.st b1).st a1).st u0).st c0
 replace c8:=(((c8.st b1).st a1).st u0).st c0
 replace d8:=(((d8.st b1).st a1).st u0).st c0
 replace e8:=(((e8.st b1).st a1).st u0).st c0
 refine By (O:=eC) (A:=All dC) (R:=fun w' F v=>Vb w' F v uC) (DF (fun _ h=>h) (Vb.mono (F:=Fr 0 dC eC) (Vb.ofAgg (cs:=[(.slice A9 x0.vars.length uB),(.slice vB x0.init.length wB),(.slice xB x0.goal.length yB),(.slice zB x0.ops.length aC)]) (x:=x0) rfl ⟨_,_,_,_,rfl,h8,c8,d8,e8⟩) Fr.lt) (tC).all vC) rfl rfl fun hG iG n4 d0 wC=>?_
 obtain ⟨rfl,xC⟩:=wC.err
 refine Ay rfl rfl (o_z ?_)
 refine Al (Aj (Ar rfl rfl (Ej rfl rfl (fun m8=>?_) fun m8=>?_)))
 ·
  replace hm:=ip hm m8
  refine o_z ?_
  refine Ah rfl (Al (Aj (CG rfl rfl rfl ?_)))
  refine Ar rfl rfl ?_
  replace k0:=(k0.st c0).st d0
  refine AA k0 rfl rfl rfl (AG rfl) (allOne rfl) fun fC yC k0=>?_
  replace k0:Lc 4 fC n4 w3 53 [(.slice none 0 0),(.slice none 0 0),(.slice none 0 0)]:=k0
  refine Ay rfl rfl (o_z ?_)
  refine AR ?_
  obtain rfl:=sm hm
  replace hB:=(((((hB.st b1).st a1).st u0).st c0).st d0).st yC
  exact ret2 rfl (Cg (cs:=[(.slice none 0 0),(.slice none 0 0),(.slice none 0 0)]) rfl rfl k0.1.cellsAt) (AO rfl) ⟨hB.ext,_,_,rfl,(Vb.mono (F:=Fr 0 fC n4) (Vb.ofAgg (cs:=[(.slice none 0 0),(.slice none 0 0),(.slice none 0 0)]) (x:=(⟨([]:List Int),([]:List (List Int)),([]:List Int)⟩:Swp)) rfl ⟨_,_,_,rfl,(Vb.nil _ _),(Vb.nil _ _),(Vb.nil _ _)⟩) hB.out),(vErr xC)⟩
 replace hm:=im hm m8
 refine o_z ?_
 refine Ae rfl (AZ (Al ?_))
 obtain ⟨o2,q4,hm⟩:=bs hm
 obtain ⟨v0,d3,hm⟩:=bs hm
 obtain ⟨a3,h3,hm⟩:=bs hm
 obtain ⟨i0,t0,hm⟩:=bs hm
 refine AU (fun l' w'=>∃ (a0:Nat×(Option Addr×Nat)×(Option Addr×Nat)×(Option Addr×Nat)) (O':Lab),subs l' [(3,(.pointer (some ⟨p4,0,none⟩))),(4,(.pointer (some ⟨w3,0,none⟩))),(7,(.pointer (some ⟨a0.1,0,none⟩)))]∧Bs w A w' O'∧Lc 3 w' O' p4 53 [(.slice j4 x1.vars.length k4),(.slice a4 x1.vals.length b4),(.slice l4 x1.ops.length m4)]∧Vb w' (Fr 0 w' O') (.slice j4 x1.vars.length k4) x1.vars∧Vb w' (Fr 0 w' O') (.slice a4 x1.vals.length b4) x1.vals∧Vb w' (Fr 0 w' O') (.slice l4 x1.ops.length m4) x1.ops∧Lc 4 w' O' w3 53 [(.slice none 0 0),(.slice none 0 0),(.slice none 0 0)]∧Lc 7 w' O' a0.1 53 [(.slice a0.2.1.1 i0.1.length a0.2.1.2),(.slice a0.2.2.1.1 i0.2.1.length a0.2.2.1.2),(.slice a0.2.2.2.1 i0.2.2.length a0.2.2.2.2)]∧Vb w' (Fr 0 w' O') (.slice a0.2.1.1 i0.1.length a0.2.1.2) i0.1∧Rw 6 w' O' 22 (.slice a0.2.2.1.1 i0.2.1.length a0.2.2.1.2) i0.2.1∧Vb w' (Fr 0 w' O') (.slice a0.2.2.2.1 i0.2.2.length a0.2.2.2.2) i0.2.2) ?_ ?_
 ·
  refine Bw [] n4 ?_
  refine AD (fuel:=6) [] [(0,true),(1,true),(3,true),(4,true),(6,true),(7,true),(8,true)] (by kernel_rfl) rfl ?_
  refine AJ rfl rfl rfl ?_
  replace l0:=(l0.st c0).st d0
  refine Bb (hc:=fun w' ⟨O',hq⟩=>Blk.cell (i:=0) ((l0.st hq (by decide)).1) rfl) rfl rfl rfl ?_
  refine AJ rfl rfl rfl (Bb (hc:=fun w' ⟨O',hq⟩=>Blk.cell (i:=2) ((l0.st hq (by decide)).1) rfl) rfl rfl rfl ?_)
  refine AJ rfl rfl rfl (Bb (hc:=fun w' ⟨O',hq⟩=>Blk.cell (i:=1) ((l0.st hq (by decide)).1) rfl) rfl rfl rfl ?_)
  refine Ib rfl rfl rfl ?_
  replace q0:=(q0.st c0).st d0
  have zC:x1.vals.length≤9223372036854775807:=Nat.le_trans q0.len.2.1 q0.len.2.2
  have jG:inI64 (x1.vals.length:Int):=rngNat zC
  refine Au ?_
  refine EZ (i:=2) (j:=9) (k:=11) (by kernel_rfl) rfl rfl rfl ?_ ?_ ?_
  ·
   replace f0:=(f0.st c0).st d0
   refine Bt (O:=n4) (R:=fun w' F v=>Vb w' F v o2) (Bu Fr.lt f0 q4) rfl rfl fun kG lG n8 j0 c4=>?_
   obtain ⟨b3,c3,rfl⟩:=c4.form
   have hZ:=j0.lst [] (fun _ h=>h.elim)
   refine Az [] hZ (by kernel_rfl) ?_
   refine EZ (i:=5) (j:=9) (k:=11) (by kernel_rfl) rfl rfl rfl ?_ ?_ ?_
   ·
    replace b0:=((b0.st c0).st d0).st j0
    refine Bt (O:=n8) (R:=fun w' F v=>Vb w' F v v0) (Bu Fr.lt b0 d3) rfl rfl fun mG nG gC r2 o8=>?_
    obtain ⟨f8,g8,rfl⟩:=o8.form
    have hZ:=r2.lst [] (fun _ h=>h.elim)
    refine Az [] hZ (by kernel_rfl) ?_
    refine Bz (i:=9) (j:=11) (by kernel_rfl) rfl rfl ?_ ?_
    ·
     obtain ⟨hC,aD,bD,cD,p8⟩:=CD h3
     refine Di 6 (by decide) gC (z0:=(([]:List Int):List Int)) rfl rfl rfl rfl rfl aD (Vb.nil _ _) bD cD rfl fun r4 dD q8 o1 s4=>?_
     rw [← p8] at s4 ⊢
     have hZ:=o1.lst [] (fun _ h=>h.elim)
     refine Az [] hZ (by kernel_rfl) ?_
     refine AD (fuel:=2) [] [(10,true)] (by kernel_rfl) rfl ?_
     refine De rfl rfl rfl rfl ?_
     refine Au ?_
     refine At (i:=11) (by kernel_rfl) rfl ?_
     refine Bk 7 q8 rfl fun t4 eD r8 c1 e3=>?_
     have hZ:=c1.lst [] (fun _ h=>h.elim)
     refine Az [] hZ (by kernel_rfl) ?_
     refine At (i:=12) (by kernel_rfl) rfl ?_
     refine AA e3 rfl rfl rfl (AG rfl) (allOne rfl) fun s8 p1 e3=>?_
     replace e3:Lc 7 s8 r8 t4 53 [(.slice b3 o2.length c3),(.slice (some ⟨r4,0,none⟩) a3.length hC),(.slice f8 v0.length g8)]:=e3
     refine Be (by kernel_rfl) ?_
     refine AY (by kernel_rfl) ?_
     obtain rfl:=sm t0
     exact ⟨(t4,(b3,c3),((some ⟨r4,0,none⟩),hC),(f8,g8)),_,⟨rfl,rfl,rfl,trivial⟩,(((((((((hB.st b1).st a1).st u0).st c0).st d0).st j0).st r2).st o1).st c1).st p1,((((l0.st j0).st r2).st o1).st c1).st p1,((((f0.st j0).st r2).st o1).st c1).st p1,((((q0.st j0).st r2).st o1).st c1).st p1,(((b0.st r2).st o1).st c1).st p1,((((((k0.st c0).st d0).st j0).st r2).st o1).st c1).st p1,e3,(((c4.st r2).st o1).st c1).st p1,(s4.st c1).st p1,((o8.st o1).st c1).st p1⟩
    refine Bk 7 gC rfl fun u4 fD t8 q1 s2=>?_
    have hZ:=q1.lst [] (fun _ h=>h.elim)
    refine Az [] hZ (by kernel_rfl) ?_
    refine At (i:=9) (by kernel_rfl) rfl ?_
    obtain ⟨w4,u8,v8,w8,x8⟩:=CD h3
    refine Di 6 (by decide) t8 (z0:=(([]:List Int):List Int)) rfl rfl rfl rfl rfl u8 (Vb.nil _ _) v8 w8 rfl fun x4 gD y8 d1 y4=>?_
    rw [← x8] at y4 ⊢
    have hZ:=d1.lst [] (fun _ h=>h.elim)
    refine Az [] hZ (by kernel_rfl) ?_
    refine AD (fuel:=1) [] [(10,true)] (by kernel_rfl) rfl ?_
    refine De rfl rfl rfl rfl ?_
    refine Au ?_
    refine At (i:=12) (by kernel_rfl) rfl ?_
    replace s2:=s2.st d1
    refine AA s2 rfl rfl rfl (AG rfl) (allOne rfl) fun z8 r1 s2=>?_
    replace s2:Lc 7 z8 y8 u4 53 [(.slice b3 o2.length c3),(.slice (some ⟨x4,0,none⟩) a3.length w4),(.slice f8 v0.length g8)]:=s2
    refine Be (by kernel_rfl) ?_
    refine AY (by kernel_rfl) ?_
    obtain rfl:=sm t0
    exact ⟨(u4,(b3,c3),((some ⟨x4,0,none⟩),w4),(f8,g8)),_,⟨rfl,rfl,rfl,trivial⟩,(((((((((hB.st b1).st a1).st u0).st c0).st d0).st j0).st r2).st q1).st d1).st r1,((((l0.st j0).st r2).st q1).st d1).st r1,((((f0.st j0).st r2).st q1).st d1).st r1,((((q0.st j0).st r2).st q1).st d1).st r1,(((b0.st r2).st q1).st d1).st r1,((((((k0.st c0).st d0).st j0).st r2).st q1).st d1).st r1,s2,(((c4.st r2).st q1).st d1).st r1,y4.st r1,((o8.st q1).st d1).st r1⟩
   ·
    obtain ⟨i3,a9,b9,c9,d9⟩:=CD h3
    refine Di 6 (by decide) n8 (z0:=(([]:List Int):List Int)) rfl rfl rfl rfl rfl a9 (Vb.nil _ _) b9 c9 rfl fun j3 hD z4 m0 d4=>?_
    rw [← d9] at d4 ⊢
    have hZ:=m0.lst [] (fun _ h=>h.elim)
    refine Az [] hZ (by kernel_rfl) ?_
    refine Bz (i:=5) (j:=11) (by kernel_rfl) rfl rfl ?_ ?_
    ·
     replace b0:=(((b0.st c0).st d0).st j0).st m0
     refine Bt (O:=z4) (R:=fun w' F v=>Vb w' F v v0) (Bu Fr.lt b0 d3) rfl rfl fun iD jD e9 s1 a5=>?_
     obtain ⟨b5,c5,rfl⟩:=a5.form
     have hZ:=s1.lst [] (fun _ h=>h.elim)
     refine Az [] hZ (by kernel_rfl) ?_
     refine AD (fuel:=2) [] [(10,true)] (by kernel_rfl) rfl ?_
     refine De rfl rfl rfl rfl ?_
     refine Au ?_
     refine At (i:=11) (by kernel_rfl) rfl ?_
     refine Bk 7 e9 rfl fun d5 kD f9 e1 f3=>?_
     have hZ:=e1.lst [] (fun _ h=>h.elim)
     refine Az [] hZ (by kernel_rfl) ?_
     refine At (i:=12) (by kernel_rfl) rfl ?_
     refine AA f3 rfl rfl rfl (AG rfl) (allOne rfl) fun g9 t1 f3=>?_
     replace f3:Lc 7 g9 f9 d5 53 [(.slice b3 o2.length c3),(.slice (some ⟨j3,0,none⟩) a3.length i3),(.slice b5 v0.length c5)]:=f3
     refine Be (by kernel_rfl) ?_
     refine AY (by kernel_rfl) ?_
     obtain rfl:=sm t0
     exact ⟨(d5,(b3,c3),((some ⟨j3,0,none⟩),i3),(b5,c5)),_,⟨rfl,rfl,rfl,trivial⟩,(((((((((hB.st b1).st a1).st u0).st c0).st d0).st j0).st m0).st s1).st e1).st t1,((((l0.st j0).st m0).st s1).st e1).st t1,((((f0.st j0).st m0).st s1).st e1).st t1,((((q0.st j0).st m0).st s1).st e1).st t1,((b0.st s1).st e1).st t1,((((((k0.st c0).st d0).st j0).st m0).st s1).st e1).st t1,f3,(((c4.st m0).st s1).st e1).st t1,((d4.st s1).st e1).st t1,(a5.st e1).st t1⟩
    refine Bk 7 z4 rfl fun e5 lD h9 u1 t2=>?_
    have hZ:=u1.lst [] (fun _ h=>h.elim)
    refine Az [] hZ (by kernel_rfl) ?_
    refine At (i:=5) (by kernel_rfl) rfl ?_
    replace b0:=((((b0.st c0).st d0).st j0).st m0).st u1
    refine Bt (O:=h9) (R:=fun w' F v=>Vb w' F v v0) (Bu Fr.lt b0 d3) rfl rfl fun mD nD i9 f1 f5=>?_
    obtain ⟨g5,h5,rfl⟩:=f5.form
    have hZ:=f1.lst [] (fun _ h=>h.elim)
    refine Az [] hZ (by kernel_rfl) ?_
    refine AD (fuel:=1) [] [(10,true)] (by kernel_rfl) rfl ?_
    refine De rfl rfl rfl rfl ?_
    refine Au ?_
    refine At (i:=12) (by kernel_rfl) rfl ?_
    replace t2:=t2.st f1
    refine AA t2 rfl rfl rfl (AG rfl) (allOne rfl) fun j9 v1 t2=>?_
    replace t2:Lc 7 j9 i9 e5 53 [(.slice b3 o2.length c3),(.slice (some ⟨j3,0,none⟩) a3.length i3),(.slice g5 v0.length h5)]:=t2
    refine Be (by kernel_rfl) ?_
    refine AY (by kernel_rfl) ?_
    obtain rfl:=sm t0
    exact ⟨(e5,(b3,c3),((some ⟨j3,0,none⟩),i3),(g5,h5)),_,⟨rfl,rfl,rfl,trivial⟩,(((((((((hB.st b1).st a1).st u0).st c0).st d0).st j0).st m0).st u1).st f1).st v1,((((l0.st j0).st m0).st u1).st f1).st v1,((((f0.st j0).st m0).st u1).st f1).st v1,((((q0.st j0).st m0).st u1).st f1).st v1,(b0.st f1).st v1,((((((k0.st c0).st d0).st j0).st m0).st u1).st f1).st v1,t2,(((c4.st m0).st u1).st f1).st v1,((d4.st u1).st f1).st v1,f5.st v1⟩
   refine Bk 7 n8 rfl fun k3 oD i5 n0 r0=>?_
   have hZ:=n0.lst [] (fun _ h=>h.elim)
   refine Az [] hZ (by kernel_rfl) ?_
   refine Bz (i:=5) (j:=9) (by kernel_rfl) rfl rfl ?_ ?_
   ·
    replace b0:=(((b0.st c0).st d0).st j0).st n0
    refine Bt (O:=i5) (R:=fun w' F v=>Vb w' F v v0) (Bu Fr.lt b0 d3) rfl rfl fun pD qD k9 w1 j5=>?_
    obtain ⟨k5,l5,rfl⟩:=j5.form
    have hZ:=w1.lst [] (fun _ h=>h.elim)
    refine Az [] hZ (by kernel_rfl) ?_
    refine At (i:=9) (by kernel_rfl) rfl ?_
    obtain ⟨m5,l9,m9,n9,o9⟩:=CD h3
    refine Di 6 (by decide) k9 (z0:=(([]:List Int):List Int)) rfl rfl rfl rfl rfl l9 (Vb.nil _ _) m9 n9 rfl fun n5 rD p9 g1 o5=>?_
    rw [← o9] at o5 ⊢
    have hZ:=g1.lst [] (fun _ h=>h.elim)
    refine Az [] hZ (by kernel_rfl) ?_
    refine AD (fuel:=1) [] [(10,true)] (by kernel_rfl) rfl ?_
    refine De rfl rfl rfl rfl ?_
    refine Au ?_
    refine At (i:=12) (by kernel_rfl) rfl ?_
    replace r0:=(r0.st w1).st g1
    refine AA r0 rfl rfl rfl (AG rfl) (allOne rfl) fun q9 y1 r0=>?_
    replace r0:Lc 7 q9 p9 k3 53 [(.slice b3 o2.length c3),(.slice (some ⟨n5,0,none⟩) a3.length m5),(.slice k5 v0.length l5)]:=r0
    refine Be (by kernel_rfl) ?_
    refine AY (by kernel_rfl) ?_
    obtain rfl:=sm t0
    exact ⟨(k3,(b3,c3),((some ⟨n5,0,none⟩),m5),(k5,l5)),_,⟨rfl,rfl,rfl,trivial⟩,(((((((((hB.st b1).st a1).st u0).st c0).st d0).st j0).st n0).st w1).st g1).st y1,((((l0.st j0).st n0).st w1).st g1).st y1,((((f0.st j0).st n0).st w1).st g1).st y1,((((q0.st j0).st n0).st w1).st g1).st y1,((b0.st w1).st g1).st y1,((((((k0.st c0).st d0).st j0).st n0).st w1).st g1).st y1,r0,(((c4.st n0).st w1).st g1).st y1,o5.st y1,(j5.st g1).st y1⟩
   obtain ⟨p5,r9,s9,t9,u9⟩:=CD h3
   refine Di 6 (by decide) i5 (z0:=(([]:List Int):List Int)) rfl rfl rfl rfl rfl r9 (Vb.nil _ _) s9 t9 rfl fun q5 sD v9 z1 r5=>?_
   rw [← u9] at r5 ⊢
   have hZ:=z1.lst [] (fun _ h=>h.elim)
   refine Az [] hZ (by kernel_rfl) ?_
   refine At (i:=5) (by kernel_rfl) rfl ?_
   replace b0:=((((b0.st c0).st d0).st j0).st n0).st z1
   refine Bt (O:=v9) (R:=fun w' F v=>Vb w' F v v0) (Bu Fr.lt b0 d3) rfl rfl fun tD uD w9 h1 s5=>?_
   obtain ⟨t5,u5,rfl⟩:=s5.form
   have hZ:=h1.lst [] (fun _ h=>h.elim)
   refine Az [] hZ (by kernel_rfl) ?_
   refine AD (fuel:=1) [] [(10,true)] (by kernel_rfl) rfl ?_
   refine De rfl rfl rfl rfl ?_
   refine Au ?_
   refine At (i:=12) (by kernel_rfl) rfl ?_
   replace r0:=(r0.st z1).st h1
   refine AA r0 rfl rfl rfl (AG rfl) (allOne rfl) fun x9 a2 r0=>?_
   replace r0:Lc 7 x9 w9 k3 53 [(.slice b3 o2.length c3),(.slice (some ⟨q5,0,none⟩) a3.length p5),(.slice t5 v0.length u5)]:=r0
   refine Be (by kernel_rfl) ?_
   refine AY (by kernel_rfl) ?_
   obtain rfl:=sm t0
   exact ⟨(k3,(b3,c3),((some ⟨q5,0,none⟩),p5),(t5,u5)),_,⟨rfl,rfl,rfl,trivial⟩,(((((((((hB.st b1).st a1).st u0).st c0).st d0).st j0).st n0).st z1).st h1).st a2,((((l0.st j0).st n0).st z1).st h1).st a2,((((f0.st j0).st n0).st z1).st h1).st a2,((((q0.st j0).st n0).st z1).st h1).st a2,(b0.st h1).st a2,((((((k0.st c0).st d0).st j0).st n0).st z1).st h1).st a2,r0,(((c4.st n0).st z1).st h1).st a2,(r5.st h1).st a2,s5.st a2⟩
  ·
   obtain ⟨w2,y9,z9,aA,bA⟩:=CD h3
   refine Di 6 (by decide) n4 (z0:=(([]:List Int):List Int)) rfl rfl rfl rfl rfl y9 (Vb.nil _ _) z9 aA rfl fun x2 vD w5 g0 l3=>?_
   rw [← bA] at l3 ⊢
   have hZ:=g0.lst [] (fun _ h=>h.elim)
   refine Az [] hZ (by kernel_rfl) ?_
   refine Bz (i:=2) (j:=11) (by kernel_rfl) rfl rfl ?_ ?_
   ·
    replace f0:=((f0.st c0).st d0).st g0
    refine Bt (O:=w5) (R:=fun w' F v=>Vb w' F v o2) (Bu Fr.lt f0 q4) rfl rfl fun wD xD x5 o0 e4=>?_
    obtain ⟨m3,n3,rfl⟩:=e4.form
    have hZ:=o0.lst [] (fun _ h=>h.elim)
    refine Az [] hZ (by kernel_rfl) ?_
    refine Bz (i:=5) (j:=11) (by kernel_rfl) rfl rfl ?_ ?_
    ·
     replace b0:=(((b0.st c0).st d0).st g0).st o0
     refine Bt (O:=x5) (R:=fun w' F v=>Vb w' F v v0) (Bu Fr.lt b0 d3) rfl rfl fun yD zD cA b2 y5=>?_
     obtain ⟨z5,a6,rfl⟩:=y5.form
     have hZ:=b2.lst [] (fun _ h=>h.elim)
     refine Az [] hZ (by kernel_rfl) ?_
     refine AD (fuel:=2) [] [(10,true)] (by kernel_rfl) rfl ?_
     refine De rfl rfl rfl rfl ?_
     refine Au ?_
     refine At (i:=11) (by kernel_rfl) rfl ?_
     refine Bk 7 cA rfl fun b6 aE dA i1 g3=>?_
     have hZ:=i1.lst [] (fun _ h=>h.elim)
     refine Az [] hZ (by kernel_rfl) ?_
     refine At (i:=12) (by kernel_rfl) rfl ?_
     refine AA g3 rfl rfl rfl (AG rfl) (allOne rfl) fun eA c2 g3=>?_
     replace g3:Lc 7 eA dA b6 53 [(.slice m3 o2.length n3),(.slice (some ⟨x2,0,none⟩) a3.length w2),(.slice z5 v0.length a6)]:=g3
     refine Be (by kernel_rfl) ?_
     refine AY (by kernel_rfl) ?_
     obtain rfl:=sm t0
     exact ⟨(b6,(m3,n3),((some ⟨x2,0,none⟩),w2),(z5,a6)),_,⟨rfl,rfl,rfl,trivial⟩,(((((((((hB.st b1).st a1).st u0).st c0).st d0).st g0).st o0).st b2).st i1).st c2,((((l0.st g0).st o0).st b2).st i1).st c2,(((f0.st o0).st b2).st i1).st c2,((((q0.st g0).st o0).st b2).st i1).st c2,((b0.st b2).st i1).st c2,((((((k0.st c0).st d0).st g0).st o0).st b2).st i1).st c2,g3,((e4.st b2).st i1).st c2,(((l3.st o0).st b2).st i1).st c2,(y5.st i1).st c2⟩
    refine Bk 7 x5 rfl fun c6 bE fA d2 u2=>?_
    have hZ:=d2.lst [] (fun _ h=>h.elim)
    refine Az [] hZ (by kernel_rfl) ?_
    refine At (i:=5) (by kernel_rfl) rfl ?_
    replace b0:=((((b0.st c0).st d0).st g0).st o0).st d2
    refine Bt (O:=fA) (R:=fun w' F v=>Vb w' F v v0) (Bu Fr.lt b0 d3) rfl rfl fun cE dE gA j1 d6=>?_
    obtain ⟨e6,f6,rfl⟩:=d6.form
    have hZ:=j1.lst [] (fun _ h=>h.elim)
    refine Az [] hZ (by kernel_rfl) ?_
    refine AD (fuel:=1) [] [(10,true)] (by kernel_rfl) rfl ?_
    refine De rfl rfl rfl rfl ?_
    refine Au ?_
    refine At (i:=12) (by kernel_rfl) rfl ?_
    replace u2:=u2.st j1
    refine AA u2 rfl rfl rfl (AG rfl) (allOne rfl) fun iA e2 u2=>?_
    replace u2:Lc 7 iA gA c6 53 [(.slice m3 o2.length n3),(.slice (some ⟨x2,0,none⟩) a3.length w2),(.slice e6 v0.length f6)]:=u2
    refine Be (by kernel_rfl) ?_
    refine AY (by kernel_rfl) ?_
    obtain rfl:=sm t0
    exact ⟨(c6,(m3,n3),((some ⟨x2,0,none⟩),w2),(e6,f6)),_,⟨rfl,rfl,rfl,trivial⟩,(((((((((hB.st b1).st a1).st u0).st c0).st d0).st g0).st o0).st d2).st j1).st e2,((((l0.st g0).st o0).st d2).st j1).st e2,(((f0.st o0).st d2).st j1).st e2,((((q0.st g0).st o0).st d2).st j1).st e2,(b0.st j1).st e2,((((((k0.st c0).st d0).st g0).st o0).st d2).st j1).st e2,u2,((e4.st d2).st j1).st e2,(((l3.st o0).st d2).st j1).st e2,d6.st e2⟩
   refine Bk 7 w5 rfl fun g6 eE jA p2 v2=>?_
   have hZ:=p2.lst [] (fun _ h=>h.elim)
   refine Az [] hZ (by kernel_rfl) ?_
   refine At (i:=2) (by kernel_rfl) rfl ?_
   replace f0:=(((f0.st c0).st d0).st g0).st p2
   refine Bt (O:=jA) (R:=fun w' F v=>Vb w' F v o2) (Bu Fr.lt f0 q4) rfl rfl fun fE gE kA f2 h6=>?_
   obtain ⟨i6,j6,rfl⟩:=h6.form
   have hZ:=f2.lst [] (fun _ h=>h.elim)
   refine Az [] hZ (by kernel_rfl) ?_
   refine At (i:=5) (by kernel_rfl) rfl ?_
   replace b0:=((((b0.st c0).st d0).st g0).st p2).st f2
   refine Bt (O:=kA) (R:=fun w' F v=>Vb w' F v v0) (Bu Fr.lt b0 d3) rfl rfl fun hE iE lA k1 k6=>?_
   obtain ⟨l6,m6,rfl⟩:=k6.form
   have hZ:=k1.lst [] (fun _ h=>h.elim)
   refine Az [] hZ (by kernel_rfl) ?_
   refine AD (fuel:=1) [] [(10,true)] (by kernel_rfl) rfl ?_
   refine De rfl rfl rfl rfl ?_
   refine Au ?_
   refine At (i:=12) (by kernel_rfl) rfl ?_
   replace v2:=(v2.st f2).st k1
   refine AA v2 rfl rfl rfl (AG rfl) (allOne rfl) fun mA g2 v2=>?_
   replace v2:Lc 7 mA lA g6 53 [(.slice i6 o2.length j6),(.slice (some ⟨x2,0,none⟩) a3.length w2),(.slice l6 v0.length m6)]:=v2
   refine Be (by kernel_rfl) ?_
   refine AY (by kernel_rfl) ?_
   obtain rfl:=sm t0
   exact ⟨(g6,(i6,j6),((some ⟨x2,0,none⟩),w2),(l6,m6)),_,⟨rfl,rfl,rfl,trivial⟩,(((((((((hB.st b1).st a1).st u0).st c0).st d0).st g0).st p2).st f2).st k1).st g2,((((l0.st g0).st p2).st f2).st k1).st g2,((f0.st f2).st k1).st g2,((((q0.st g0).st p2).st f2).st k1).st g2,(b0.st k1).st g2,((((((k0.st c0).st d0).st g0).st p2).st f2).st k1).st g2,v2,(h6.st k1).st g2,(((l3.st p2).st f2).st k1).st g2,k6.st g2⟩
  refine Bk 7 n4 rfl fun y2 jE n6 h0 e0=>?_
  have hZ:=h0.lst [] (fun _ h=>h.elim)
  refine Az [] hZ (by kernel_rfl) ?_
  refine Bz (i:=2) (j:=9) (by kernel_rfl) rfl rfl ?_ ?_
  ·
   replace f0:=((f0.st c0).st d0).st h0
   refine Bt (O:=n6) (R:=fun w' F v=>Vb w' F v o2) (Bu Fr.lt f0 q4) rfl rfl fun kE lE o6 p0 f4=>?_
   obtain ⟨o3,p3,rfl⟩:=f4.form
   have hZ:=p0.lst [] (fun _ h=>h.elim)
   refine Az [] hZ (by kernel_rfl) ?_
   refine Bz (i:=5) (j:=9) (by kernel_rfl) rfl rfl ?_ ?_
   ·
    replace b0:=(((b0.st c0).st d0).st h0).st p0
    refine Bt (O:=o6) (R:=fun w' F v=>Vb w' F v v0) (Bu Fr.lt b0 d3) rfl rfl fun mE nE nA h2 p6=>?_
    obtain ⟨q6,r6,rfl⟩:=p6.form
    have hZ:=h2.lst [] (fun _ h=>h.elim)
    refine Az [] hZ (by kernel_rfl) ?_
    refine At (i:=9) (by kernel_rfl) rfl ?_
    obtain ⟨s6,oA,pA,qA,rA⟩:=CD h3
    refine Di 6 (by decide) nA (z0:=(([]:List Int):List Int)) rfl rfl rfl rfl rfl oA (Vb.nil _ _) pA qA rfl fun t6 oE sA l1 u6=>?_
    rw [← rA] at u6 ⊢
    have hZ:=l1.lst [] (fun _ h=>h.elim)
    refine Az [] hZ (by kernel_rfl) ?_
    refine AD (fuel:=1) [] [(10,true)] (by kernel_rfl) rfl ?_
    refine De rfl rfl rfl rfl ?_
    refine Au ?_
    refine At (i:=12) (by kernel_rfl) rfl ?_
    replace e0:=((e0.st p0).st h2).st l1
    refine AA e0 rfl rfl rfl (AG rfl) (allOne rfl) fun tA i2 e0=>?_
    replace e0:Lc 7 tA sA y2 53 [(.slice o3 o2.length p3),(.slice (some ⟨t6,0,none⟩) a3.length s6),(.slice q6 v0.length r6)]:=e0
    refine Be (by kernel_rfl) ?_
    refine AY (by kernel_rfl) ?_
    obtain rfl:=sm t0
    exact ⟨(y2,(o3,p3),((some ⟨t6,0,none⟩),s6),(q6,r6)),_,⟨rfl,rfl,rfl,trivial⟩,(((((((((hB.st b1).st a1).st u0).st c0).st d0).st h0).st p0).st h2).st l1).st i2,((((l0.st h0).st p0).st h2).st l1).st i2,(((f0.st p0).st h2).st l1).st i2,((((q0.st h0).st p0).st h2).st l1).st i2,((b0.st h2).st l1).st i2,((((((k0.st c0).st d0).st h0).st p0).st h2).st l1).st i2,e0,((f4.st h2).st l1).st i2,u6.st i2,(p6.st l1).st i2⟩
   obtain ⟨w6,uA,vA,wA,xA⟩:=CD h3
   refine Di 6 (by decide) o6 (z0:=(([]:List Int):List Int)) rfl rfl rfl rfl rfl uA (Vb.nil _ _) vA wA rfl fun x6 pE yA j2 y6=>?_
   rw [← xA] at y6 ⊢
   have hZ:=j2.lst [] (fun _ h=>h.elim)
   refine Az [] hZ (by kernel_rfl) ?_
   refine At (i:=5) (by kernel_rfl) rfl ?_
   replace b0:=((((b0.st c0).st d0).st h0).st p0).st j2
   refine Bt (O:=yA) (R:=fun w' F v=>Vb w' F v v0) (Bu Fr.lt b0 d3) rfl rfl fun qE rE zA m1 z6=>?_
   obtain ⟨a7,b7,rfl⟩:=z6.form
   have hZ:=m1.lst [] (fun _ h=>h.elim)
   refine Az [] hZ (by kernel_rfl) ?_
   refine AD (fuel:=1) [] [(10,true)] (by kernel_rfl) rfl ?_
   refine De rfl rfl rfl rfl ?_
   refine Au ?_
   refine At (i:=12) (by kernel_rfl) rfl ?_
   replace e0:=((e0.st p0).st j2).st m1
   refine AA e0 rfl rfl rfl (AG rfl) (allOne rfl) fun aB k2 e0=>?_
   replace e0:Lc 7 aB zA y2 53 [(.slice o3 o2.length p3),(.slice (some ⟨x6,0,none⟩) a3.length w6),(.slice a7 v0.length b7)]:=e0
   refine Be (by kernel_rfl) ?_
   refine AY (by kernel_rfl) ?_
   obtain rfl:=sm t0
   exact ⟨(y2,(o3,p3),((some ⟨x6,0,none⟩),w6),(a7,b7)),_,⟨rfl,rfl,rfl,trivial⟩,(((((((((hB.st b1).st a1).st u0).st c0).st d0).st h0).st p0).st j2).st m1).st k2,((((l0.st h0).st p0).st j2).st m1).st k2,(((f0.st p0).st j2).st m1).st k2,((((q0.st h0).st p0).st j2).st m1).st k2,(b0.st m1).st k2,((((((k0.st c0).st d0).st h0).st p0).st j2).st m1).st k2,e0,((f4.st j2).st m1).st k2,(y6.st m1).st k2,z6.st k2⟩
  obtain ⟨c7,bB,cB,dB,eB⟩:=CD h3
  refine Di 6 (by decide) n6 (z0:=(([]:List Int):List Int)) rfl rfl rfl rfl rfl bB (Vb.nil _ _) cB dB rfl fun d7 sE fB q2 e7=>?_
  rw [← eB] at e7 ⊢
  have hZ:=q2.lst [] (fun _ h=>h.elim)
  refine Az [] hZ (by kernel_rfl) ?_
  refine At (i:=2) (by kernel_rfl) rfl ?_
  replace f0:=(((f0.st c0).st d0).st h0).st q2
  refine Bt (O:=fB) (R:=fun w' F v=>Vb w' F v o2) (Bu Fr.lt f0 q4) rfl rfl fun tE uE gB l2 f7=>?_
  obtain ⟨g7,h7,rfl⟩:=f7.form
  have hZ:=l2.lst [] (fun _ h=>h.elim)
  refine Az [] hZ (by kernel_rfl) ?_
  refine At (i:=5) (by kernel_rfl) rfl ?_
  replace b0:=((((b0.st c0).st d0).st h0).st q2).st l2
  refine Bt (O:=gB) (R:=fun w' F v=>Vb w' F v v0) (Bu Fr.lt b0 d3) rfl rfl fun vE wE iB n1 i7=>?_
  obtain ⟨j7,k7,rfl⟩:=i7.form
  have hZ:=n1.lst [] (fun _ h=>h.elim)
  refine Az [] hZ (by kernel_rfl) ?_
  refine AD (fuel:=1) [] [(10,true)] (by kernel_rfl) rfl ?_
  refine De rfl rfl rfl rfl ?_
  refine Au ?_
  refine At (i:=12) (by kernel_rfl) rfl ?_
  replace e0:=((e0.st q2).st l2).st n1
  refine AA e0 rfl rfl rfl (AG rfl) (allOne rfl) fun jB m2 e0=>?_
  replace e0:Lc 7 jB iB y2 53 [(.slice g7 o2.length h7),(.slice (some ⟨d7,0,none⟩) a3.length c7),(.slice j7 v0.length k7)]:=e0
  refine Be (by kernel_rfl) ?_
  refine AY (by kernel_rfl) ?_
  obtain rfl:=sm t0
  exact ⟨(y2,(g7,h7),((some ⟨d7,0,none⟩),c7),(j7,k7)),_,⟨rfl,rfl,rfl,trivial⟩,(((((((((hB.st b1).st a1).st u0).st c0).st d0).st h0).st q2).st l2).st n1).st m2,((((l0.st h0).st q2).st l2).st n1).st m2,((f0.st l2).st n1).st m2,((((q0.st h0).st q2).st l2).st n1).st m2,(b0.st n1).st m2,((((((k0.st c0).st d0).st h0).st q2).st l2).st n1).st m2,e0,(f7.st n1).st m2,((e7.st l2).st n1).st m2,i7.st m2⟩
 replace hB:=((((hB.st b1).st a1).st u0).st c0).st d0
 replace f0:=(f0.st c0).st d0
 replace q0:=(q0.st c0).st d0
 replace b0:=(b0.st c0).st d0
 replace l0:=(l0.st c0).st d0
 replace k0:=(k0.st c0).st d0
 rintro xE yE ⟨a0,kB,l7,hB,l0,f0,q0,b0,k0,x3,q3,zE,r3⟩
 refine Bc _ l7 ?_
 refine Al (Al (Aj (AV rfl rfl (AP (hc:=Blk.cell (i:=1) (l0.1) rfl) rfl rfl ?_))))
 refine Bj rfl rfl ?_
 have g4:x1.vals.length≤9223372036854775807:=Nat.le_trans q0.len.2.1 q0.len.2.2
 have aF:inI64 (x1.vals.length:Int):=rngNat g4
 refine Ar rfl rfl (o_z ?_)
 obtain ⟨h4,m7,hm⟩:=bs hm
 refine AU (aft h4 (fun (z2:(List (List Int))) (s3:Unit)=>[(4,(.pointer (some ⟨w3,0,none⟩))),(7,(.pointer (some ⟨a0.1,0,none⟩)))]) (fun z2 s3 w'=>∃ O':Lab,Bs w A w' O'∧Lc 4 w' O' w3 53 [(.slice none 0 0),(.slice none 0 0),(.slice none 0 0)]∧Lc 7 w' O' a0.1 53 [(.slice a0.2.1.1 i0.1.length a0.2.1.2),(.slice a0.2.2.1.1 i0.2.1.length a0.2.2.1.2),(.slice a0.2.2.2.1 i0.2.2.length a0.2.2.2.2)]∧Vb w' (Fr 0 w' O') (.slice a0.2.1.1 i0.1.length a0.2.1.2) i0.1∧Rw 6 w' O' 22 (.slice a0.2.2.1.1 i0.2.1.length a0.2.2.1.2) z2∧Vb w' (Fr 0 w' O') (.slice a0.2.2.2.1 i0.2.2.length a0.2.2.2.2) i0.2.2)) ?_ ?_
 ·
  refine Bf (BS (σ:=(List (List Int))) (X:=Unit) (x1.vals.length) m7 rfl g4 (fun (z2:(List (List Int))) (s3:Unit)=>[(3,(.pointer (some ⟨p4,0,none⟩))),(4,(.pointer (some ⟨w3,0,none⟩))),(7,(.pointer (some ⟨a0.1,0,none⟩))),(30,(.slice a4 x1.vals.length b4))]) _ (fun z2 s3 w'=>∃ O':Lab,Bs w A w' O'∧Lc 3 w' O' p4 53 [(.slice j4 x1.vars.length k4),(.slice a4 x1.vals.length b4),(.slice l4 x1.ops.length m4)]∧Vb w' (Fr 0 w' O') (.slice j4 x1.vars.length k4) x1.vars∧Vb w' (Fr 0 w' O') (.slice a4 x1.vals.length b4) x1.vals∧Vb w' (Fr 0 w' O') (.slice l4 x1.ops.length m4) x1.ops∧Lc 4 w' O' w3 53 [(.slice none 0 0),(.slice none 0 0),(.slice none 0 0)]∧Lc 7 w' O' a0.1 53 [(.slice a0.2.1.1 i0.1.length a0.2.1.2),(.slice a0.2.2.1.1 i0.2.1.length a0.2.2.1.2),(.slice a0.2.2.2.1 i0.2.2.length a0.2.2.2.2)]∧Vb w' (Fr 0 w' O') (.slice a0.2.1.1 i0.1.length a0.2.1.2) i0.1∧Rw 6 w' O' 22 (.slice a0.2.2.1.1 i0.2.1.length a0.2.2.1.2) z2∧Vb w' (Fr 0 w' O') (.slice a0.2.2.2.1 i0.2.2.length a0.2.2.2.2) i0.2.2) _ () ⟨kB,hB,l0,f0,q0,b0,k0,x3,q3,zE,r3⟩ ⟨rfl,rfl,rfl,rfl,rfl,rfl,trivial⟩ (fun _ _=>⟨rfl,rfl⟩) (fun _ _=>⟨rfl,rfl,trivial⟩) (fun _ _ _ ⟨O',hB,l0,f0,q0,b0,k0,x3,q3,s0,r3⟩=>⟨O',hB,k0,x3,q3,s0,r3⟩) ⟨rfl,rfl,rfl⟩ ⟨rfl,rfl⟩ ?_)
  rintro lB bF z2 s3 cF iC y3 ⟨n7,hB,l0,f0,q0,b0,k0,x3,q3,s0,r3⟩ w0 i8 j8
  have rk372:inI64 (lB:Int):=rngK y3 g4
  refine Al (Aj (Ar rfl rfl ?_))
  obtain ⟨dF,eF,jC,o7,p7,q7,fF,rfl,t3⟩:=q0.elem' y3
  replace t3:=Vb.of_slice t3
  obtain ⟨gF,hF,rfl⟩:=t3.form
  refine BB (hA:=o7) (hj:=rfl) (hlt:=p7) rfl rfl rfl ?_
  refine AP (hc:=cat0 q7) rfl rfl ?_
  refine Ay rfl rfl (Ay rfl rfl (o_z ?_))
  refine Bw [] n7 ?_
  refine AD (fuel:=3) [] [(0,true),(1,true),(2,true),(3,true),(4,true),(5,true),(6,true),(7,true)] (by kernel_rfl) rfl ?_
  refine AJ rfl rfl rfl (Bb (hc:=fun w' ⟨O',hq⟩=>Blk.cell (i:=1) ((x3.st hq (by decide)).1) rfl) rfl rfl rfl ?_)
  refine AJ rfl rfl rfl (Bb (hc:=fun w' ⟨O',hq⟩=>Blk.cell (i:=0) ((l0.st hq (by decide)).1) rfl) rfl rfl rfl ?_)
  refine AW rfl rfl rfl ?_
  obtain ⟨iF,mB,w0⟩:=bs w0
  obtain ⟨jF,kF,kC,r7,s7,t7,u7,rfl,lF⟩:=f0.elem mB
  refine BC (hA:=r7) (hj:=rfl) (hlt:=t7) rfl rfl rfl rfl ?_
  refine Bb (hc:=fun w' ⟨O',hq⟩=>cat0 (Bg (hq.agree (i:=0) (by decide)) s7 u7)) rfl rfl rfl ?_
  refine AW rfl rfl rfl (Au ?_)
  refine At (i:=8) (by kernel_rfl) rfl ?_
  obtain ⟨w7,nB,w0⟩:=bs w0
  refine Bt (O:=n7) (R:=fun w' F v=>Vb w' F v w7) (Bu Fr.lt t3 nB) rfl rfl fun mF nF oF y0 x7=>?_
  obtain ⟨pF,qF,rfl⟩:=x7.form
  have hZ:=y0.lst [] (fun _ h=>h.elim)
  refine Az [] hZ (by kernel_rfl) ?_
  refine AD (fuel:=1) [] [(9,true)] (by kernel_rfl) rfl ?_
  obtain ⟨rF,oB,w0⟩:=bs w0
  obtain ⟨pB,y7⟩:=Ba oB
  replace s0:=s0.st y0
  obtain ⟨sF,tF,lC,z3,mC,z7,nC,uF,rfl,i4⟩:=s0.elemF y7
  replace i4:=Vb.of_slice i4
  obtain ⟨vF,wF,rfl⟩:=i4.form
  refine BC (hA:=z3) (hj:=(Int.toNat_of_nonneg pB).symm) (hlt:=z7) rfl rfl rfl rfl ?_
  refine Au ?_
  refine At (i:=10) (by kernel_rfl) rfl ?_
  refine CM rfl s0 (a:=w7) x7 z3 rfl rfl (AL y7) fun xF n2 s0=>?_
  refine Be (by kernel_rfl) ?_
  refine AY (by kernel_rfl) ?_
  obtain rfl:=sm w0
  exact show Exists _ from ⟨_,(),rfl,⟨rfl,rfl,rfl,rfl,rfl,rfl,trivial⟩,_,(hB.st y0).st n2,(l0.st y0).st n2,(f0.st y0).st n2,(q0.st y0).st n2,(b0.st y0).st n2,(k0.st y0).st n2,(x3.st y0).st n2,(q3.st y0).st n2,s0,(r3.st y0).st n2⟩
 rintro yF zF ⟨qB,aG,rfl,a8,rB,hB,k0,x3,q3,s0,r3⟩
 replace hm:=Bq hm
 refine Bc _ a8 ?_
 refine Al (Aj (Br (hl:=rfl) (hc:=(x3.1).cellsAt) rfl rfl ?_))
 refine AA k0 rfl rfl rfl (AG rfl) (allOne rfl) fun b8 u3 k0=>?_
 replace k0:Lc 4 b8 rB w3 53 [(.slice a0.2.1.1 i0.1.length a0.2.1.2),(.slice a0.2.2.1.1 i0.2.1.length a0.2.2.1.2),(.slice a0.2.2.2.1 i0.2.2.length a0.2.2.2.2)]:=k0
 refine Ay rfl rfl (o_z ?_)
 refine AR ?_
 replace s0:=s0.st u3
 obtain ⟨sB,v3,s0⟩:=s0.freeze
 obtain rfl:=sm hm
 replace hB:=(hB.st u3).st v3
 replace k0:=k0.st v3
 replace q3:=(q3.st u3).st v3
 replace r3:=(r3.st u3).st v3
 exact ret2 rfl (Cg (cs:=[(.slice a0.2.1.1 i0.1.length a0.2.1.2),(.slice a0.2.2.1.1 i0.2.1.length a0.2.2.1.2),(.slice a0.2.2.2.1 i0.2.2.length a0.2.2.2.2)]) rfl rfl k0.1.cellsAt) (AO rfl) ⟨hB.ext,_,_,rfl,(Vb.mono (F:=Fr 0 b8 sB) (Vb.ofAgg (cs:=[(.slice a0.2.1.1 i0.1.length a0.2.1.2),(.slice a0.2.2.1.1 i0.2.1.length a0.2.2.1.2),(.slice a0.2.2.2.1 i0.2.2.length a0.2.2.2.2)]) (x:=(⟨i0.1,qB,i0.2.2⟩:Swp)) rfl ⟨_,_,_,rfl,q3,s0,r3⟩) hB.out),(vErr (show inI64 0 from by decide))⟩
end
section
open Go Go.RowKit
def bw (a:Int):Byt:=⟨a % 256,by omega,by omega⟩
theorem Ox (a:Int):IntKind.u8.wrap a=(bw a).n:=by
  unfold bw
  simp [IntKind.wrap,IntKind.bits,IntKind.signed]
def strB (xs:List Byt):ByteArray:=⟨(xs.map fun b=>UInt8.ofNat b.n.toNat).toArray⟩
theorem Mw (xs:List Byt):(strB xs).size=xs.length:=by simp [strB,ByteArray.size]
section
variable {P : Program} {l : Env} {w : World} {dst : Option Tmp} {ty : TypeId} {pos : String} {aft : Array Edge}
theorem Qi {s t:TypeId} {k:IntKind} [hs:TInt P s k] [ht:TInt P t .u8] {x:Operand} {a:Int} (hx:opv l x=some (.int k a)):Ev P ⟨dst,.convert s t x,ty,pos,aft,none⟩ l w (.int .u8 (bw a).n):=fun _ _ d ha=>by
  simp [execOp,ha.eval hx,convert,run_underlying hs.eq,run_underlying ht.eq,Conv.intToInt,Ox]
theorem IR {F:Nat→Prop}:∀ {xs:List Byt} {cells:List Value},Chunks w F cells xs→cells=xs.map fun b=>.int .u8 b.n
  | [],_,h=>h
  | x :: xs,_,⟨cs,rest,he,hr,hc⟩=>by
    have h1:cs=[.int .u8 x.n]:=hr
    rw [he,h1,IR hc];rfl
theorem Mx (xs:List Byt):∀ (d:Array UInt8),xs.foldl (fun s b=>s.push (UInt8.ofNat b.n.toNat)) (⟨d⟩:ByteArray)=⟨d ++ (xs.map fun b=>UInt8.ofNat b.n.toNat).toArray⟩:=by
  induction xs with
  | nil=>intro d;simp
  | cons x xs ih =>
    intro d
    rw [List.foldl_cons]
    have:=ih (d.push (UInt8.ofNat x.n.toNat))
    show List.foldl _ (⟨d.push (UInt8.ofNat x.n.toNat)⟩:ByteArray) xs=_
    rw [this]
    congr 1
    apply Array.toList_inj.1
    simp
theorem My (xs:List Byt):xs.foldl (fun s b=>s.push (UInt8.ofNat b.n.toNat)) ByteArray.empty=strB xs:=by
  have:=Mx xs #[]
  show List.foldl _ (⟨#[]⟩:ByteArray) xs=_
  rw [this]
  unfold strB
  congr 1
  apply Array.toList_inj.1
  simp
theorem Qj {s t e:TypeId} [hs:TSlice P s e] [he:TInt P e .u8] [ht:TStr P t] {x:Operand} {v:Value} {F:Nat→Prop} {xs:List Byt} (hx:opv l x=some v) (hv:Vb w F v xs):Ev P ⟨dst,.convert s t x,ty,pos,aft,none⟩ l w (.string (strB xs)):=fun _ _ d ha=>by
  obtain ⟨A,c,cells,rfl,h1,h2,h3,h4⟩:=hv.slice
  have hc:=IR h3
  subst hc
  cases A with
  | none =>
    have h0:xs=[]:=by
      by_cases h:0 < xs.length
      · obtain ⟨b,o,hb,_⟩:=h4 h;cases hb
      · exact List.eq_nil_of_length_eq_zero (by omega)
    subst h0
    simp [execOp,ha.eval hx,convert,run_underlying hs.eq,run_underlying he.eq,run_underlying ht.eq,Conv.bytesToString]
    rfl
  | some ad =>
    by_cases h:0 < xs.length
    · obtain ⟨b,o,hb,_,hcell⟩:=h4 h
      obtain rfl:=Option.some.inj hb
      have:=DC (P:=P) (dr w d) b o (xs.map fun b=>Value.int .u8 b.n) 0 #[] (fun j v hv=>by rw [Nat.zero_add];exact Ec hcell j v hv)
      rw [List.length_map] at this
      simp [execOp,ha.eval hx,convert,run_underlying hs.eq,run_underlying he.eq,run_underlying ht.eq,Conv.bytesToString,loadCells,this,My]
    · have h0:xs=[]:=List.eq_nil_of_length_eq_zero (by omega)
      subst h0
      simp [execOp,ha.eval hx,convert,run_underlying hs.eq,run_underlying he.eq,run_underlying ht.eq,Conv.bytesToString,loadCells,loadCellsFrom]
      rfl
end
def strI (xs:List Byt):Option ByteArray:=if xs.length≤9223372036854775807 then some (strB xs) else none
theorem JD {xs:List Byt} {c:ByteArray} (h:strI xs=some c):c=strB xs∧xs.length≤9223372036854775807:=by
  unfold strI at h
  split at h
  · exact ⟨(sm h).symm,by assumption⟩
  · cases h
theorem Oy {xs:List Byt} (h:xs.length≤9223372036854775807):strI xs=some (strB xs):=if_pos h
theorem Oz {xs:List Byt} {c:ByteArray} (h:strI xs=some c):c.size≤9223372036854775807:=by
  obtain ⟨rfl,h2⟩:=JD h
  rw [Mw];exact h2
section
variable {P : Program} {n : Nat} {ops : Array Oper} {Q : Post} {rest : List Oper} {l : Env} {w : World} {d : Tmp} {ty : TypeId} {pos : String} {aft : Array Edge}
theorem Qq {s t:TypeId} {k:IntKind} [TInt P s k] [TInt P t .u8] {x:Operand} {a:Int} (hx:opv l x=some (.int k a)) (hd:Nat.blt d n=true) (h:owp P n ops Q rest ((d,.int .u8 (bw a).n) :: l) w):owp P n ops Q (⟨some d,.convert s t x,ty,pos,aft,none⟩ :: rest) l w:=Bp (Qi hx) hd h
theorem Qr {s t e:TypeId} [TSlice P s e] [TInt P e .u8] [TStr P t] {x:Operand} {v:Value} {F:Nat→Prop} {xs:List Byt} {c:ByteArray} (hx:opv l x=some v) (hv:Vb w F v xs) (he:strI xs=some c) (hd:Nat.blt d n=true) (h:owp P n ops Q rest ((d,.string c) :: l) w):owp P n ops Q (⟨some d,.convert s t x,ty,pos,aft,none⟩ :: rest) l w:=by
  obtain ⟨rfl,_⟩:=JD he
  exact Bp (Qj hx hv) hd h
end
end
section
open Go Go.RowKit Go.Lib Go.Sort
def cfL:List Int→List Int→Int
  | [],[]=>0
  | [],_ :: _=>-1
  | _ :: _,[]=>1
  | x :: xs,y :: ys=>if Lib.compareInt x y≠0 then Lib.compareInt x y else cfL xs ys
theorem EL {α:Type} {l:List α} {k:Nat} (h:k < l.length):∃ x,l[k]?=some x:=⟨l[k],List.getElem?_eq_getElem h⟩
theorem In {α:Type} {l:List α} {k:Nat} (h:l.length≤k):l.drop k=[]:=List.drop_eq_nil_of_le h
theorem Kz {xs ys:List Int} {k:Nat} {x y:Int} (hx:xs[k]?=some x) (hy:ys[k]?=some y):cfL (xs.drop k) (ys.drop k)=if Lib.compareInt x y≠0 then Lib.compareInt x y else cfL (xs.drop (k + 1)) (ys.drop (k + 1)):=by
  have h1:xs.drop k=x :: xs.drop (k + 1):=by
    rw [List.drop_eq_getElem_cons (AL hx)]
    rw [List.getElem?_eq_getElem (AL hx)] at hx
    rw [Option.some.inj hx]
  have h2:ys.drop k=y :: ys.drop (k + 1):=by
    rw [List.drop_eq_getElem_cons (AL hy)]
    rw [List.getElem?_eq_getElem (AL hy)] at hy
    rw [Option.some.inj hy]
  rw [h1,h2]
  rfl
end
section
open Go Go.RowKit Go.Lib Go.Sort
theorem DX (x y:Int):(x < y∧Lib.compareInt x y=-1)∨(x=y∧Lib.compareInt x y=0)∨(y < x∧Lib.compareInt x y=1):=by
  unfold Lib.compareInt
  by_cases h:x < y
  · simp [h]
  · by_cases h2:y < x
    · simp [h,h2]
    · right;left;simp [h,h2];omega
theorem Mz:∀ {x y:List Int},cfL x y=0→x=y
  | [],[],_=>rfl
  | [],_ :: _,h=>by simp [cfL] at h
  | _ :: _,[],h=>by simp [cfL] at h
  | a :: x,b :: y,h=>by
    simp only [cfL] at h
    rcases DX a b with ⟨_,h2⟩|⟨h1,h2⟩|⟨_,h2⟩
    · rw [h2] at h;simp at h
    · rw [h2] at h;simp at h;rw [h1,Mz h]
    · rw [h2] at h;simp at h
theorem Ip:∀ x:List Int,cfL x x=0
  | []=>rfl
  | a :: x=>by
    simp only [cfL]
    rcases DX a a with ⟨h1,_⟩|⟨_,h2⟩|⟨h1,_⟩
    · omega
    · rw [h2];simp [Ip x]
    · omega
theorem LB:∀ x y:List Int,cfL y x=- cfL x y
  | [],[]=>rfl
  | [],_ :: _=>rfl
  | _ :: _,[]=>rfl
  | a :: x,b :: y=>by
    simp only [cfL]
    have ih:=LB x y
    rcases DX a b with ⟨h1,h2⟩|⟨h1,h2⟩|⟨h1,h2⟩<;>rcases DX b a with ⟨g1,g2⟩|⟨g1,g2⟩|⟨g1,g2⟩<;>first|omega|(rw [h2,g2];simp [ih])
theorem Hp:∀ {x y z:List Int},cfL x y≤0→cfL y z≤0→cfL x z≤0
  | [],_,[],_,_=>by simp [cfL]
  | [],_,_ :: _,_,_=>by simp [cfL]
  | _ :: _,[],_,h,_=>by simp [cfL] at h
  | _ :: _,_ :: _,[],_,h=>by simp [cfL] at h
  | a :: x,b :: y,c :: z,h1,h2=>by
    simp only [cfL] at h1 h2 ⊢
    have ih:=@Hp x y z
    rcases DX a b with ⟨p1,p2⟩|⟨p1,p2⟩|⟨p1,p2⟩<;>rcases DX b c with ⟨q1,q2⟩|⟨q1,q2⟩|⟨q1,q2⟩<;>rcases DX a c with ⟨r1,r2⟩|⟨r1,r2⟩|⟨r1,r2⟩<;>rw [p2] at h1<;>rw [q2] at h2<;>rw [r2]<;>simp at h1 h2 ⊢<;>first|omega|exact ih h1 h2
end
section
open Go Go.RowKit
attribute [local irreducible] ewp owp hwp hwq hws Ev Evg Fn retPost loud loudS Res1
attribute [local irreducible] hwx loudX
instance:TMap Tryz.prog 64 9 3:=⟨Tryz.underlying64⟩
instance:TKey Tryz.prog 9 ByteArray:=⟨Tryz.underlying9⟩
noncomputable def Dw (x0:Int):Option Bool :=
  bnd (if x0≠x0 then (some true) else (some false):Option Bool) fun y2=>some y2
theorem Gb {w:World} {A:Nat→Prop} (hA:∀ k,A k→k < w.heap.size) {x0:Int} (rx0:inI64 x0) {r:Bool} (hm:Dw x0=some r) :
    Fn Tryz.prog 106 [(.int .i64 x0)] w fun v w'=>Ext w w'∧Vb w' (upA A w w') v r:=by
 obtain ⟨O,hB,c0⟩:=enter hA
 refine AQ Tryz.func106 rfl Tryz.ntmps106 rfl ?_
 unfold Dw at hm
 refine Al (Aj (Ay rfl rfl (o_z ?_)))
 refine Al ?_
 obtain ⟨y2,a0,hm⟩:=bs hm
 refine AU (fun l' w'=>∃ (x5:Unit) (O':Lab),subs l' [(2,(.bool y2))]∧Bs w A w' O') ?_ ?_
 ·
  refine Aj (Ar rfl rfl (Ar rfl rfl (HE rfl rfl rfl (fun c6=>?_) fun c6=>?_)))
  ·
   replace a0:=ip a0 c6
   refine Ay rfl rfl (o_z ?_)
   obtain rfl:=sm a0
   exact ⟨(),_,⟨rfl,trivial⟩,hB⟩
  replace a0:=im a0 c6
  refine Ay rfl rfl (o_z ?_)
  obtain rfl:=sm a0
  exact ⟨(),_,⟨rfl,trivial⟩,hB⟩
 rintro l7 w8 ⟨x5,O9,b0,hB⟩
 refine Bc _ b0 ?_
 refine AR ?_
 obtain rfl:=sm hm
 exact ret1v rfl (AO rfl) ⟨hB.ext,vBool⟩
noncomputable def Db (x0:Int) (x1:Int):Option Int :=
  bnd (bnd (Dw x0) fun q7=>if q7=true then some true else some false:Option Bool) fun y3=>bnd (bnd (Dw x1) fun q22=>if q22=true then some true else some false:Option Bool) fun y18=>if y3=true then (if y18=true then (some 0) else (some (-1))) else (if y18=true then (some 1) else (if x0 < x1 then (some (-1)) else (if x1 < x0 then (some 1) else (some 0))))
theorem HP {w:World} {A:Nat→Prop} (hA:∀ k,A k→k < w.heap.size) {x0:Int} (rx0:inI64 x0) {x1:Int} (rx1:inI64 x1) {r:Int} (hm:Db x0 x1=some r) :
    Fn Tryz.prog 98 [(.int .i64 x0),(.int .i64 x1)] w fun v w'=>Ext w w'∧Vb w' (upA A w w') v r:=by
 obtain ⟨O,hB,t0⟩:=enter hA
 refine AQ Tryz.func98 rfl Tryz.ntmps98 rfl ?_
 unfold Db at hm
 refine Al (Aj (Ay rfl rfl (o_z ?_)))
 refine Al ?_
 obtain ⟨y3,b0,hm⟩:=bs hm
 refine AU (fun l' w'=>∃ (x6:Unit) (O':Lab),subs l' [(0,(.int .i64 x0)),(1,(.int .i64 x1)),(5,(.bool y3))]∧Bs w A w' O') ?_ ?_
 ·
  refine Aj (Ar rfl rfl ?_)
  obtain ⟨q7,e8,b0⟩:=bs b0
  refine By (O:=O) (A:=All w) (R:=fun w' F v=>Vb w' F v q7) (Gb (fun _ h=>h) rx0 e8) rfl rfl fun u0 w9 v0 j0 m0=>?_
  obtain rfl:=m0.bool
  cases q7
  case false =>
   replace b0:=iF b0
   refine Ay rfl rfl (o_z ?_)
   obtain rfl:=sm b0
   exact ⟨(),_,⟨rfl,rfl,rfl,trivial⟩,hB.st j0⟩
  replace b0:=iT b0
  refine Ay rfl rfl (o_z ?_)
  obtain rfl:=sm b0
  exact ⟨(),_,⟨rfl,rfl,rfl,trivial⟩,hB.st j0⟩
 rintro w0 n0 ⟨x6,o0,c0,hB⟩
 refine Bc _ c0 ?_
 refine Al ?_
 obtain ⟨p0,a0,hm⟩:=bs hm
 refine AU (fun l' w'=>∃ (q0:Unit) (O':Lab),subs l' [(0,(.int .i64 x0)),(1,(.int .i64 x1)),(5,(.bool y3)),(6,(.bool p0))]∧Bs w A w' O') ?_ ?_
 ·
  refine Aj (Ar rfl rfl ?_)
  obtain ⟨k0,r0,a0⟩:=bs a0
  refine By (O:=o0) (A:=All n0) (R:=fun w' F v=>Vb w' F v k0) (Gb (fun _ h=>h) rx1 r0) rfl rfl fun y0 z0 a1 l0 s0=>?_
  obtain rfl:=s0.bool
  cases k0
  case false =>
   replace a0:=iF a0
   refine Ay rfl rfl (o_z ?_)
   obtain rfl:=sm a0
   exact ⟨(),_,⟨rfl,rfl,rfl,rfl,trivial⟩,hB.st l0⟩
  replace a0:=iT a0
  refine Ay rfl rfl (o_z ?_)
  obtain rfl:=sm a0
  exact ⟨(),_,⟨rfl,rfl,rfl,rfl,trivial⟩,hB.st l0⟩
 rintro b1 c1 ⟨q0,d1,d0,hB⟩
 refine Bc _ d0 ?_
 refine Al (Al (Aj (Ar rfl rfl (o_z ?_))))
 refine CC rfl (fun e0=>?_) (fun e0=>?_)
 ·
  replace hm:=ip hm e0
  refine Al (Al (Aj (Ar rfl rfl (o_z ?_))))
  refine CC rfl (fun f0=>?_) (fun f0=>?_)
  ·
   replace hm:=ip hm f0
   refine Al (Aj (Ay rfl rfl (o_z ?_)))
   refine AR ?_
   obtain rfl:=sm hm
   exact ret1v rfl (AO rfl) ⟨hB.ext,(vInt (show inI64 (0) from by decide))⟩
  replace hm:=im' hm f0
  refine AZ (Al (Aj (Ay rfl rfl (o_z ?_))))
  refine AR ?_
  obtain rfl:=sm hm
  exact ret1v rfl (AO rfl) ⟨hB.ext,(vInt (show inI64 (-1) from by decide))⟩
 replace hm:=im' hm e0
 refine AZ (Al (Al (Aj (Ar rfl rfl (o_z ?_)))))
 refine CC rfl (fun g0=>?_) (fun g0=>?_)
 ·
  replace hm:=ip hm g0
  refine Al (Aj (Ay rfl rfl (o_z ?_)))
  refine AR ?_
  obtain rfl:=sm hm
  exact ret1v rfl (AO rfl) ⟨hB.ext,(vInt (show inI64 (1) from by decide))⟩
 replace hm:=im' hm g0
 refine AZ (Al (Al (Aj (Ar rfl rfl (Ar rfl rfl (EA rfl rfl rfl (fun h0=>?_) fun h0=>?_))))))
 ·
  replace hm:=ip hm h0
  refine o_z ?_
  refine Ah rfl (Al (Aj (Ay rfl rfl (o_z ?_))))
  refine AR ?_
  obtain rfl:=sm hm
  exact ret1v rfl (AO rfl) ⟨hB.ext,(vInt (show inI64 (-1) from by decide))⟩
 replace hm:=im hm h0
 refine o_z ?_
 refine Ae rfl (AZ (Al (Al (Aj (Ar rfl rfl (Ar rfl rfl (FS rfl rfl rfl (fun i0=>?_) fun i0=>?_)))))))
 ·
  replace hm:=ip hm i0
  refine o_z ?_
  refine Ah rfl (Al (Aj (Ay rfl rfl (o_z ?_))))
  refine AR ?_
  obtain rfl:=sm hm
  exact ret1v rfl (AO rfl) ⟨hB.ext,(vInt (show inI64 (1) from by decide))⟩
 replace hm:=im hm i0
 refine o_z ?_
 refine Ae rfl (AZ (Al (Aj (Ay rfl rfl (o_z ?_)))))
 refine AR ?_
 obtain rfl:=sm hm
 exact ret1v rfl (AO rfl) ⟨hB.ext,(vInt (show inI64 (0) from by decide))⟩
noncomputable def BJ (x0:List Int) (x1:List Int):Option Int :=
  bnd (rng (ρ:=Int) (fun (k13:Nat) (a14:Int) (s11:Unit)=>if (x1.length:Int)≤(k13:Int) then (some (.ret 1)) else (bnd (x1[k13]?) fun a35=>bnd (Db a14 a35) fun q45=>if q45≠0 then (some (.ret q45)) else (some (.next ())))) x0 0 ()) fun res9=>fin res9 fun (s58:Unit)=>if (x0.length:Int) < (x1.length:Int) then (some (-1)) else (some 0)
theorem FA {w:World} {A:Nat→Prop} (hA:∀ k,A k→k < w.heap.size) {vx0:Value} {x0:List Int} (b0:Vb w A vx0 x0) {vx1:Value} {x1:List Int} (c0:Vb w A vx1 x1) {r:Int} (hm:BJ x0 x1=some r) :
    Fn Tryz.prog 87 [vx0,vx1] w fun v w'=>Ext w w'∧Vb w' (upA A w w') v r:=by
 obtain ⟨O,hB,v0⟩:=enter hA
 replace b0:=b0.mono v0
 obtain ⟨A3,c4,rfl⟩:=b0.form
 replace c0:=c0.mono v0
 obtain ⟨A5,c6,rfl⟩:=c0.form
 refine AQ Tryz.func87 rfl Tryz.ntmps87 rfl ?_
 unfold BJ at hm
 refine Al (Aj (Ay rfl rfl (o_z ?_)))
 refine Al (Al (Aj (Ar rfl rfl (Bj rfl rfl ?_))))
 have l8:x0.length≤9223372036854775807:=Nat.le_trans b0.len.2.1 b0.len.2.2
 have r7:inI64 (x0.length:Int):=rngNat l8
 refine Ar rfl rfl (o_z ?_)
 obtain ⟨i0,j0,hm⟩:=bs hm
 refine AU (aft i0 (fun (f0:Unit) (g0:Unit)=>[(0,(.slice A3 x0.length c4)),(1,(.slice A5 x1.length c6))]) (fun f0 g0 w'=>∃ O':Lab,Bs w A w' O'∧Vb w' (Fr 0 w' O') (.slice A3 x0.length c4) x0∧Vb w' (Fr 0 w' O') (.slice A5 x1.length c6) x1)) ?_ ?_
 ·
  refine Bf (BS (σ:=Unit) (X:=Unit) (x0.length) j0 rfl l8 (fun (f0:Unit) (g0:Unit)=>[(0,(.slice A3 x0.length c4)),(1,(.slice A5 x1.length c6)),(9,(.slice A3 x0.length c4))]) _ (fun f0 g0 w'=>∃ O':Lab,Bs w A w' O'∧Vb w' (Fr 0 w' O') (.slice A3 x0.length c4) x0∧Vb w' (Fr 0 w' O') (.slice A5 x1.length c6) x1) _ () ⟨O,hB,b0,c0⟩ ⟨rfl,rfl,rfl,rfl,rfl,trivial⟩ (fun _ _=>⟨rfl,rfl⟩) (fun _ _=>⟨rfl,rfl,trivial⟩) (fun _ _ _ ⟨O',hB,b0,c0⟩=>⟨O',hB,b0,c0⟩) ⟨rfl,rfl,rfl⟩ ⟨rfl,rfl⟩ ?_)
  rintro w0 n1 f0 g0 y0 z0 e0 ⟨a1,hB,b0,c0⟩ a0 d0 k0
  have rk13:inI64 (w0:Int):=rngK e0 l8
  refine Al (Aj (Ar rfl rfl ?_))
  obtain ⟨o1,p1,b1,l0,m0,n0,rfl,c1⟩:=b0.elem' e0
  refine BB (hA:=l0) (hj:=rfl) (hlt:=m0) rfl rfl rfl ?_
  refine AP (hc:=cat0 n0) rfl rfl ?_
  refine Ay rfl rfl (Ay rfl rfl (o_z ?_))
  refine Al (Al (Aj (Ar rfl rfl (Ar rfl rfl (Bj rfl rfl ?_)))))
  have d1:x1.length≤9223372036854775807:=Nat.le_trans c0.len.2.1 c0.len.2.2
  have q1:inI64 (x1.length:Int):=rngNat d1
  refine Fc rfl rfl rfl (fun o0=>?_) fun o0=>?_
  ·
   replace a0:=ip a0 o0
   refine o_z ?_
   refine Ah rfl (Al (Aj (Ay rfl rfl (o_z ?_))))
   refine AR ?_
   obtain rfl:=sm a0
   obtain rfl:=d0 _ rfl
   obtain rfl:=sm (Cn hm)
   exact ret1v rfl (AO rfl) ⟨hB.ext,(vInt (show inI64 (1) from by decide))⟩
  replace a0:=im a0 o0
  refine o_z ?_
  refine Ae rfl (AZ (Al (Aj (Ar rfl rfl (Ar rfl rfl ?_)))))
  obtain ⟨r1,e1,a0⟩:=bs a0
  obtain ⟨s1,t1,f1,p0,q0,r0,rfl,g1⟩:=c0.elem' e1
  refine BB (hA:=p0) (hj:=rfl) (hlt:=q0) rfl rfl rfl ?_
  refine AP (hc:=cat0 r0) rfl rfl ?_
  refine Ay rfl rfl (o_z ?_)
  refine Al (Aj (Ar rfl rfl (Ar rfl rfl ?_)))
  obtain ⟨h1,i1,a0⟩:=bs a0
  refine By (O:=a1) (A:=All y0) (R:=fun w' F v=>Vb w' F v h1) (HP (fun _ h=>h) c1 g1 i1) rfl rfl fun u1 v1 w1 h0 j1=>?_
  obtain ⟨rfl,k1⟩:=j1.int
  refine Ay rfl rfl (o_z ?_)
  refine Al (Aj (Ar rfl rfl (HE rfl rfl rfl (fun s0=>?_) fun s0=>?_)))
  ·
   replace a0:=ip a0 s0
   refine o_z ?_
   refine Ah rfl (Al (Aj (Ar rfl rfl (Ay rfl rfl (o_z ?_)))))
   refine AR ?_
   obtain rfl:=sm a0
   obtain rfl:=d0 _ rfl
   obtain rfl:=sm (Cn hm)
   replace hB:=hB.st h0
   exact ret1v rfl (AO rfl) ⟨hB.ext,(vInt k1)⟩
  replace a0:=im a0 s0
  refine o_z ?_
  refine Ae rfl (AZ ?_)
  obtain rfl:=sm a0
  exact show Exists _ from ⟨_,(),rfl,⟨rfl,rfl,rfl,rfl,rfl,trivial⟩,_,hB.st h0,b0.st h0,c0.st h0⟩
 rintro y1 z1 ⟨a2,b2,rfl,t0,c2,hB,b0,c0⟩
 replace hm:=Bq hm
 refine Bc _ t0 ?_
 refine Al (Al (Aj (Ar rfl rfl (Bj rfl rfl ?_))))
 have l1:x0.length≤9223372036854775807:=Nat.le_trans b0.len.2.1 b0.len.2.2
 have d2:inI64 (x0.length:Int):=rngNat l1
 refine Ar rfl rfl (Bj rfl rfl ?_)
 have m1:x1.length≤9223372036854775807:=Nat.le_trans c0.len.2.1 c0.len.2.2
 have e2:inI64 (x1.length:Int):=rngNat m1
 refine EA rfl rfl rfl (fun u0=>?_) fun u0=>?_
 ·
  replace hm:=ip hm u0
  refine o_z ?_
  refine Ah rfl (Al (Aj (Ay rfl rfl (o_z ?_))))
  refine AR ?_
  obtain rfl:=sm hm
  exact ret1v rfl (AO rfl) ⟨hB.ext,(vInt (show inI64 (-1) from by decide))⟩
 replace hm:=im hm u0
 refine o_z ?_
 refine Ae rfl (AZ (Al (Aj (Ay rfl rfl (o_z ?_)))))
 refine AR ?_
 obtain rfl:=sm hm
 exact ret1v rfl (AO rfl) ⟨hB.ext,(vInt (show inI64 (0) from by decide))⟩
noncomputable def BK (x0:Tsk) (x1:List Swp) (x2:List Int):Option ((List Int)×(List Int)×Err) :=
  bnd (Bn x0 x1) fun q30=>if q30.n≠0 then (some (([]:List Int),([]:List Int),(⟨q30.n⟩:Err))) else (bnd (EB x0.vars x2) fun q39=>if q39=true then bnd (Cf x2) fun q46=>bnd (lop (ρ:=(List Int)×(List Int)×Err) (fun (s58:(List Int)×(List Int)×Int)=>if s58.2.2 < (x1.length:Int) then (bnd (atI x1 s58.2.2) fun a84=>bnd (Ch a84 s58.1) fun q107=>bnd (BJ q107 s58.1) fun q116=>if 0≤q116 then (bnd (chkI (s58.2.2 + 1)) fun n125=>some (.next (s58.1,s58.2.1,n125))) else (bnd (appI 8 s58.2.1 [s58.2.2]) fun u128=>some (.next (q107,u128,0)))) else (some (.brk (s58.1,s58.2.1,s58.2.2)))) (q46,([]:List Int),0)) fun res56=>fin res56 fun (s144:(List Int)×(List Int)×Int)=>some (s144.1,s144.2.1,(⟨0⟩:Err)) else some (([]:List Int),([]:List Int),(⟨2⟩:Err)))
theorem GF {w:World} {A:Nat→Prop} (hA:∀ k,A k→k < w.heap.size) {vx0:Value} {x0:Tsk} (m1:Vb w A vx0 x0) {vx1:Value} {x1:List Swp} (e0:Vb w A vx1 x1) {vx2:Value} {x2:List Int} (i0:Vb w A vx2 x2) {r:(List Int)×(List Int)×Err} (hm:BK x0 x1 x2=some r) :
    Fn Tryz.prog 57 [vx0,vx1,vx2] w fun v w'=>Ext w w'∧T3 w' (upA A w w') v r:=by
 obtain ⟨O,hB,n1⟩:=enter hA
 replace m1:=m1.mono n1
 obtain ⟨n4,rfl,v5,v6,v7,v8,rfl,h9,g1,h1,i1⟩:=m1
 obtain ⟨r2,s2,rfl⟩:=h9.form
 obtain ⟨t2,u2,rfl⟩:=g1.form
 obtain ⟨v2,w2,rfl⟩:=h1.form
 obtain ⟨y2,z2,rfl⟩:=i1.form
 replace e0:=e0.mono n1
 obtain ⟨a3,b3,rfl⟩:=e0.form
 replace i0:=i0.mono n1
 obtain ⟨o4,p4,rfl⟩:=i0.form
 refine AQ Tryz.func57 rfl Tryz.ntmps57 rfl ?_
 unfold BK at hm
 refine Al (Aj (Cp 2 O rfl rfl fun g3 j1 k1 g0 s0=>?_))
 replace s0:Lc 2 j1 k1 g3 26 [(.slice r2 x0.vars.length s2),(.slice t2 x0.init.length u2),(.slice v2 x0.goal.length w2),(.slice y2 x0.ops.length z2)]:=s0
 refine Ay rfl rfl (Ay rfl rfl (Ay rfl rfl (o_z ?_)))
 refine Al (Al (Aj (Br (hl:=rfl) (hc:=(s0.1).cellsAt) rfl rfl ?_)))
 refine Ar rfl rfl ?_
 obtain ⟨h3,i3,hm⟩:=bs hm
 replace e0:=e0.st g0
 replace h9:=h9.st g0
 replace g1:=g1.st g0
 replace h1:=h1.st g0
 replace i1:=i1.st g0
 refine By (O:=k1) (A:=All j1) (R:=fun w' F v=>Vb w' F v h3) (DF (fun _ h=>h) (Vb.mono (F:=Fr 0 j1 k1) (Vb.ofAgg (cs:=[(.slice r2 x0.vars.length s2),(.slice t2 x0.init.length u2),(.slice v2 x0.goal.length w2),(.slice y2 x0.ops.length z2)]) (x:=x0) rfl ⟨_,_,_,_,rfl,h9,g1,h1,i1⟩) Fr.lt) (Vb.mono (F:=Fr 0 j1 k1) e0 Fr.lt) i3) rfl rfl fun q4 t0 u0 k0 j3=>?_
 obtain ⟨rfl,k3⟩:=j3.err
 refine Ay rfl rfl (o_z ?_)
 refine Al (Aj (Ar rfl rfl (Ej rfl rfl (fun o1=>?_) fun o1=>?_)))
 ·
  replace hm:=ip hm o1
  refine o_z ?_
  refine Ah rfl (Al (Aj (Ar rfl rfl (Ay rfl rfl (Ay rfl rfl (Ay rfl rfl (o_z ?_)))))))
  refine AR ?_
  obtain rfl:=sm hm
  replace hB:=(hB.st g0).st k0
  exact ret3 rfl (AO rfl) (AO rfl) (AO rfl) ⟨hB.ext,_,_,_,rfl,(Vb.mono (F:=Fr 0 t0 u0) (Vb.nil _ _) hB.out),(Vb.mono (F:=Fr 0 t0 u0) (Vb.nil _ _) hB.out),(vErr k3)⟩
 replace hm:=im hm o1
 refine o_z ?_
 refine Ae rfl (AZ (Al (Al (Aj (AV rfl rfl ?_)))))
 replace s0:=s0.st k0
 refine AP (hc:=Blk.cell (i:=0) (s0.1) rfl) rfl rfl ?_
 refine Ar rfl rfl ?_
 obtain ⟨c3,l3,hm⟩:=bs hm
 replace i0:=(i0.st g0).st k0
 replace h9:=h9.st k0
 refine By (O:=u0) (A:=All t0) (R:=fun w' F v=>Vb w' F v c3) (JU (fun _ h=>h) (Vb.mono (F:=Fr 0 t0 u0) h9 Fr.lt) (Vb.mono (F:=Fr 0 t0 u0) i0 Fr.lt) l3) rfl rfl fun r4 d3 p1 v0 m3=>?_
 obtain rfl:=m3.bool
 cases c3
 case false =>
  replace hm:=iF hm
  refine DL rfl rfl (o_z ?_)
  refine Ah rfl (Al (Aj (LV rfl rfl ?_)))
  refine Ay rfl rfl (Ay rfl rfl (Ay rfl rfl (o_z ?_)))
  refine AR ?_
  obtain rfl:=sm hm
  replace hB:=((hB.st g0).st k0).st v0
  exact ret3 rfl (AO rfl) (AO rfl) (AO rfl) ⟨hB.ext,_,_,_,rfl,(Vb.mono (F:=Fr 0 d3 p1) (Vb.nil _ _) hB.out),(Vb.mono (F:=Fr 0 d3 p1) (Vb.nil _ _) hB.out),(vErr (by decide))⟩
 replace hm:=iT hm
 refine DK rfl rfl (o_z ?_)
 refine Ae rfl (AZ (Al (Aj (Ar rfl rfl ?_))))
 obtain ⟨s4,n3,hm⟩:=bs hm
 replace i0:=i0.st v0
 refine Hi 3 (by decide) (O:=p1) (Ep Fr.lt i0 n3) rfl rfl fun o3 p3 t4 u4 q1 r1=>?_
 refine Ay rfl rfl (o_z ?_)
 refine Al (Aj (Ay rfl rfl (o_z ?_)))
 refine Al (Al (Aj (Ay rfl rfl (o_z ?_))))
 obtain ⟨w0,s1,hm⟩:=bs hm
 refine AU (aft w0 (fun (c0:(List Int)×(List Int)×Int) (b0:(Option Addr×Nat)×(Option Addr×Nat))=>[(10,(.slice b0.1.1 c0.1.length b0.1.2)),(11,(.slice b0.2.1 c0.2.1.length b0.2.2))]) (fun c0 b0 w'=>∃ O':Lab,Bs w A w' O'∧Vb w' (Fr 0 w' O') (.slice b0.1.1 c0.1.length b0.1.2) c0.1∧Rw 4 w' O' 3 (.slice b0.2.1 c0.2.1.length b0.2.2) c0.2.1∧inI64 c0.2.2)) ?_ ?_
 ·
  refine Bf ?_
  obtain ⟨q3,e3,r1⟩:=r1.freeze
  replace hB:=((((hB.st g0).st k0).st v0).st q1).st e3
  replace e0:=(((e0.st k0).st v0).st q1).st e3
  refine FE (σ:=(List Int)×(List Int)×Int) (X:=(Option Addr×Nat)×(Option Addr×Nat)) s1 (fun (c0:(List Int)×(List Int)×Int) (b0:(Option Addr×Nat)×(Option Addr×Nat))=>[(1,(.slice a3 x1.length b3)),(10,(.slice b0.1.1 c0.1.length b0.1.2)),(11,(.slice b0.2.1 c0.2.1.length b0.2.2)),(12,(.int .i64 c0.2.2))]) _ (fun c0 b0 w'=>∃ O':Lab,Bs w A w' O'∧Vb w' (Fr 0 w' O') (.slice a3 x1.length b3) x1∧Vb w' (Fr 0 w' O') (.slice b0.1.1 c0.1.length b0.1.2) c0.1∧Rw 4 w' O' 3 (.slice b0.2.1 c0.2.1.length b0.2.2) c0.2.1∧inI64 c0.2.2) _ ((o3,p3),(none,0)) ⟨q3,hB,e0,r1,(Rw.nil 4 (by decide)),(show inI64 (0) from by decide)⟩ ⟨rfl,rfl,rfl,rfl,trivial⟩ ?_
  rintro c0 b0 v4 r3 ⟨s3,hB,e0,h0,j0,t1⟩ a0 u1 l0
  refine Al (Al (Aj (Ar rfl rfl (Ar rfl rfl (Bj rfl rfl ?_)))))
  have t3:x1.length≤9223372036854775807:=Nat.le_trans e0.len.2.1 e0.len.2.2
  have w4:inI64 (x1.length:Int):=rngNat t3
  refine EA rfl rfl rfl (fun v1=>?_) fun v1=>?_
  ·
   replace a0:=ip a0 v1
   refine o_z ?_
   refine Ah rfl (AZ (Bf (Al (Aj (Ar rfl rfl (Ar rfl rfl ?_))))))
   obtain ⟨l1,u3,a0⟩:=bs a0
   obtain ⟨v3,w3⟩:=Ba u3
   obtain ⟨x4,y4,x3,w1,y1,z1,z4,a5,b5,rfl,f3,y0,z0⟩:=e0.elem' w3
   obtain ⟨y3,a2,rfl⟩:=f3.form
   obtain ⟨b2,c2,rfl⟩:=y0.form
   obtain ⟨d2,e2,rfl⟩:=z0.form
   refine BB (hA:=w1) (hj:=(Int.toNat_of_nonneg v3).symm) (hlt:=y1) rfl rfl rfl ?_
   refine Br (hl:=rfl) (hc:=z1) rfl rfl ?_
   refine Ar rfl rfl ?_
   obtain ⟨f2,g2,a0⟩:=bs a0
   refine Bt (O:=s3) (R:=fun w' F v=>Vb w' F v f2) (Ii Fr.lt (Vb.ofAgg (cs:=[(.slice y3 l1.vars.length a2),(.slice b2 l1.vals.length c2),(.slice d2 l1.ops.length e2)]) (x:=l1) rfl ⟨_,_,_,rfl,f3,y0,z0⟩) h0 g2) rfl rfl fun z3 m0 n0 f0 o0=>?_
   obtain ⟨h2,i2,rfl⟩:=o0.form
   refine Ay rfl rfl (o_z ?_)
   refine Al (Al (Aj (Ar rfl rfl (Ar rfl rfl ?_))))
   obtain ⟨j2,k2,a0⟩:=bs a0
   replace h0:=h0.st f0
   refine By (O:=n0) (A:=All m0) (R:=fun w' F v=>Vb w' F v j2) (FA (fun _ h=>h) (Vb.mono (F:=Fr 0 m0 n0) o0 Fr.lt) (Vb.mono (F:=Fr 0 m0 n0) h0 Fr.lt) k2) rfl rfl fun a4 b4 c4 d0 l2=>?_
   obtain ⟨rfl,d4⟩:=l2.int
   refine Fc rfl rfl rfl (fun p0=>?_) fun p0=>?_
   ·
    replace a0:=ip a0 p0
    refine o_z ?_
    refine Ah rfl (Al (Aj (Ar rfl rfl ?_)))
    obtain ⟨e4,a1,a0⟩:=bs a0
    have m2:=(BI a1)
    refine Fz (he:=a1) rfl rfl rfl ?_
    refine Ay rfl rfl (o_z ?_)
    refine Dz ?_
    obtain rfl:=sm a0
    exact show Exists _ from ⟨_,((b0.1.1,b0.1.2),(b0.2.1,b0.2.2)),rfl,⟨rfl,rfl,rfl,rfl,trivial⟩,_,(hB.st f0).st d0,(e0.st f0).st d0,h0.st d0,(j0.st f0).st d0,m2⟩
   replace a0:=im a0 p0
   refine o_z ?_
   refine Ae rfl (AZ (Aj (Ar rfl rfl (Ar rfl rfl (Ar rfl rfl ?_)))))
   obtain ⟨f4,q0,a0⟩:=bs a0
   obtain ⟨q0,n2,o2⟩:=AB q0
   replace j0:=(j0.st f0).st d0
   refine El rfl (a:=c0.2.2) j0 (vInt t1) (fun _=>rfl) rfl (by decide) (by decide) n2 o2 ⟨rfl,rfl⟩ fun g4 p2 q2 h4 i4 r0 b1=>?_
   rw [← q0] at b1 ⊢
   refine Ay rfl rfl (Ay rfl rfl (Ay rfl rfl (o_z ?_)))
   obtain rfl:=sm a0
   exact show Exists _ from ⟨_,((h2,i2),(p2,q2)),rfl,⟨rfl,rfl,rfl,rfl,trivial⟩,_,((hB.st f0).st d0).st r0,((e0.st f0).st d0).st r0,(o0.st d0).st r0,b1,(show inI64 (0) from by decide)⟩
  replace a0:=im a0 v1
  refine o_z ?_
  refine Ae rfl (Dz ?_)
  obtain rfl:=sm a0
  exact show Exists _ from ⟨_,((b0.1.1,b0.1.2),(b0.2.1,b0.2.2)),l0 _ rfl,⟨rfl,rfl,trivial⟩,_,hB,h0,j0,t1⟩
 replace hB:=(((hB.st g0).st k0).st v0).st q1
 rintro j4 c1 ⟨k4,l4,rfl,d1,m4,hB,h0,j0,t1⟩
 replace hm:=Bq hm
 refine Bc _ d1 ?_
 refine Al (Aj (Ar rfl rfl (Ar rfl rfl (Ay rfl rfl (Ay rfl rfl (Ay rfl rfl (o_z ?_)))))))
 refine AR ?_
 obtain ⟨e1,f1,j0⟩:=j0.freeze
 obtain rfl:=sm hm
 replace hB:=hB.st f1
 replace h0:=h0.st f1
 exact ret3 rfl (AO rfl) (AO rfl) (AO rfl) ⟨hB.ext,_,_,_,rfl,(Vb.mono (F:=Fr 0 c1 e1) h0 hB.out),(Vb.mono (F:=Fr 0 c1 e1) j0 hB.out),(vErr (show inI64 0 from by decide))⟩
end
section
open Go Go.RowKit
attribute [local irreducible] ewp owp hwp hwq hws Ev Evg Fn retPost loud loudS Res1
attribute [local irreducible] hwx loudX
noncomputable def DO (x0:List Int) (x1:List Int):Option Bool :=
  bnd (rng (ρ:=Bool) (fun (k13:Nat) (a14:Int) (s11:Unit)=>bnd (x1[k13]?) fun a32=>if a14≠a32 then (bnd (bnd (x1[k13]?) fun a55=>if a14 < a55 then (some true) else (some false):Option Bool) fun y43=>some (.ret y43)) else (some (.next ()))) x0 0 ()) fun res9=>fin res9 fun (s74:Unit)=>some false
noncomputable def DG (x0:List Swp) (x1:List Int):Option ((List Int)×(List Int)) :=
  bnd (lop (ρ:=(List Int)×(List Int)) (fun (s9:(List Int)×(List Int))=>bnd (rng (ρ:=Ctl ((List Int)×(List Int)) ((List Int)×(List Int))) (fun (k34:Nat) (a35:Swp) (s32:Int)=>bnd (if s32 < 0 then (bnd (Dq a35 s9.1) fun q71=>bnd (DO q71 s9.1) fun q80=>if q80=true then some true else some false) else (some false):Option Bool) fun y47=>if y47=true then (some (.next (k34:Int))) else (some (.next s32))) x0 0 (-1)) fun res30=>fin res30 fun (s96:Int)=>if s96 < 0 then (some (.ret (s9.1,s9.2))) else (bnd (atI x0 s96) fun a101=>bnd (Dq a101 s9.1) fun q124=>bnd (appI 8 s9.2 [s96]) fun u133=>some (.next (q124,u133)))) (x1,([]:List Int))) fun res7=>fin res7 fun (_:(List Int)×(List Int))=>none
end
section
open Go Go.RowKit
def effsOn (s:List Int):List Eff→List Int→List Int
  | [],out=>out
  | e :: r,out=>effsOn s r (if holdsB e.cond s=true then out.set e.var.toNat e.val else out)
theorem GT (s:List Int):∀ (a b:List Eff) (out:List Int),effsOn s (a ++ b) out=effsOn s b (effsOn s a out)
  | [],_,_=>rfl
  | e :: a,b,out=>by simp [effsOn,GT s a b]
theorem GU (s:List Int):∀ (a:List Eff) (out:List Int),(effsOn s a out).length=out.length
  | [],_=>rfl
  | e :: a,out=>by
    rw [effsOn,GU s a]
    split<;>simp
theorem Li (s:List Int) {l:List Eff} {k:Nat} {e:Eff} (h:l[k]?=some e) (out:List Int):effsOn s (l.take (k + 1)) out=if holdsB e.cond s=true then (effsOn s (l.take k) out).set e.var.toNat e.val else effsOn s (l.take k) out:=by
  rw [List.take_add_one,h,GT];rfl
def EffsIn (s:List Int) (l:List Eff):Prop:=∀ (i:Nat) e,l[i]?=some e→0≤e.var∧e.var < s.length
def succ (o:Opr) (s:List Int):List Int:=effsOn s o.effs s
end
section
open Go Go.RowKit
attribute [local irreducible] ewp owp hwp hwq hws Ev Evg Fn retPost loud loudS Res1
theorem cloneInts {w:World} {sv:Value} {xs:List Int} (hs:V w sv xs) (hl:xs.length * 8≤140737488355328) :
    Fn Tryz.prog 66 [sv] w fun v w'=>Own w' w.heap.size (All w) 3 v xs∧Ext w w':=by
  obtain ⟨A,c,rfl⟩:=hs.form
  refine AQ Tryz.func66 rfl Tryz.ntmps66 rfl ?_
  cases A with
  | none =>
    have hx:xs=[]:=by
      cases xs with
      | nil=>rfl
      | cons x xs=>obtain ⟨_,_,_,h,_⟩:=hs.elem (k:=0) (x:=x) rfl;cases h
    subst hx
    ((repeat (first|refine Aw ?_|refine Ah rfl ?_|refine Ae rfl ?_))<;>(refine Ay rfl rfl ?_<;>(refine o_z ?_))<;>(repeat (first|refine Aw ?_|refine Ah rfl ?_|refine Ae rfl ?_))<;>(refine Ar rfl rfl ?_<;>refine Jf rfl rfl ?_<;>(refine o_z ?_))<;>(repeat (first|refine Aw ?_|refine Ah rfl ?_|refine Ae rfl ?_))<;>(refine Ay rfl rfl ?_<;>(refine o_z ?_))<;>(repeat (first|refine Aw ?_|refine Ah rfl ?_|refine Ae rfl ?_)))
    exact ret1 rfl rfl ⟨Own.nil _ _ _ _,Below.refl _ _⟩
  | some ad =>
    ((repeat (first|refine Aw ?_|refine Ah rfl ?_|refine Ae rfl ?_))<;>(refine Ay rfl rfl ?_<;>(refine o_z ?_))<;>(repeat (first|refine Aw ?_|refine Ah rfl ?_|refine Ae rfl ?_))<;>(refine Ar rfl rfl ?_<;>refine Jf rfl rfl ?_<;>(refine o_z ?_))<;>(repeat (first|refine Aw ?_|refine Ah rfl ?_|refine Ae rfl ?_)))
    refine Ds rfl rfl rfl (by simp) (by decide) rfl fun w1 hN=>?_
    have hE:=hN.ext
    have hown:Own w1 w.heap.size (All w) 3 (.slice (some ⟨w.heap.size,0,none⟩) 0 0) ([]:List Int):=Own.made hN rfl rfl (Nat.lt_irrefl _) (by decide)
    (refine Ar rfl rfl ?_)
    refine Ge rfl rfl rfl hown (fun k hk=>Nat.lt_of_lt_of_le hk hE.size) hE.size (Vb.agree hs (hE.agree fun _ h=>h)) (by decide) (by simpa using hl) (by simp;omega) rfl fun v' w2 ho hK=>?_
    (refine Ay rfl rfl ?_<;>(refine o_z ?_))
    repeat (first|refine Aw ?_|refine Ah rfl ?_|refine Ae rfl ?_)
    refine ret1 rfl rfl ⟨by simpa using ho,hE.trans (hown.fits (Nat.le_refl _) hE.size hK)⟩
theorem cloneFacts {w:World} {sv:Value} {xs:List Fct} (hs:V w sv xs) (hl:xs.length * 16≤140737488355328) :
    Fn Tryz.prog 81 [sv] w fun v w'=>Own w' w.heap.size (All w) 45 v xs∧Ext w w':=by
  obtain ⟨A,c,rfl⟩:=hs.form
  refine AQ Tryz.func81 rfl Tryz.ntmps81 rfl ?_
  cases A with
  | none =>
    have hx:xs=[]:=by
      cases xs with
      | nil=>rfl
      | cons x xs=>obtain ⟨_,_,_,h,_⟩:=hs.elem (k:=0) (x:=x) rfl;cases h
    subst hx
    ((repeat (first|refine Aw ?_|refine Ah rfl ?_|refine Ae rfl ?_))<;>(refine Ay rfl rfl ?_<;>(refine o_z ?_))<;>(repeat (first|refine Aw ?_|refine Ah rfl ?_|refine Ae rfl ?_))<;>(refine Ar rfl rfl ?_<;>refine Jf rfl rfl ?_<;>(refine o_z ?_))<;>(repeat (first|refine Aw ?_|refine Ah rfl ?_|refine Ae rfl ?_))<;>(refine Ay rfl rfl ?_<;>(refine o_z ?_))<;>(repeat (first|refine Aw ?_|refine Ah rfl ?_|refine Ae rfl ?_)))
    exact ret1 rfl rfl ⟨Own.nil _ _ _ _,Below.refl _ _⟩
  | some ad =>
    ((repeat (first|refine Aw ?_|refine Ah rfl ?_|refine Ae rfl ?_))<;>(refine Ay rfl rfl ?_<;>(refine o_z ?_))<;>(repeat (first|refine Aw ?_|refine Ah rfl ?_|refine Ae rfl ?_))<;>(refine Ar rfl rfl ?_<;>refine Jf rfl rfl ?_<;>(refine o_z ?_))<;>(repeat (first|refine Aw ?_|refine Ah rfl ?_|refine Ae rfl ?_)))
    refine Ds rfl rfl rfl (by simp) (by decide) rfl fun w1 hN=>?_
    have hE:=hN.ext
    have hown:Own w1 w.heap.size (All w) 45 (.slice (some ⟨w.heap.size,0,none⟩) 0 0) ([]:List Fct):=Own.made hN rfl rfl (Nat.lt_irrefl _) (by decide)
    (refine Ar rfl rfl ?_)
    refine Ge rfl rfl rfl hown (fun k hk=>Nat.lt_of_lt_of_le hk hE.size) hE.size (Vb.agree hs (hE.agree fun _ h=>h)) (by decide) (by simpa using hl) (by simp;omega) rfl fun v' w2 ho hK=>?_
    (refine Ay rfl rfl ?_<;>(refine o_z ?_))
    repeat (first|refine Aw ?_|refine Ah rfl ?_|refine Ae rfl ?_)
    refine ret1 rfl rfl ⟨by simpa using ho,hE.trans (hown.fits (Nat.le_refl _) hE.size hK)⟩
def applK (t:Tsk) (s:List Int) (k:Nat):List Int:=((List.range k).filter fun i=>match t.ops[i]? with|some o=>holdsB o.pre s|none=>false).map fun i:Nat=>(i:Int)
def appl (t:Tsk) (s:List Int):List Int:=applK t s t.ops.length
theorem MA (t:Tsk) (s:List Int) (k:Nat):(applK t s k).length≤k:=by
  unfold applK
  rw [List.length_map]
  exact Nat.le_trans (List.length_filter_le _ _) (by simp)
end
section
open Go Go.RowKit
attribute [local irreducible] ewp owp hwp hwq hws Ev Evg Fn retPost loud loudS Res1
inductive Tr where
  | nil
  | leaf (ops:List Int)
  | node (nx many:Nat) (vals:Nat→Tr) (rest:Tr)
def TrR (w:World) (F:Nat→Prop):Tr→Value→Prop
  | .nil,p=>p=.pointer none
  | .leaf ops,p=>∃ g ov,p=.pointer (some ⟨g,0,none⟩)∧F g∧Blk w g 144 [ov,.bool true,.int .i64 0,.slice none 0 0,.pointer none]∧Vb w F ov ops
  | .node nx k vals rest,p=>∃ g A c rp,p=.pointer (some ⟨g,0,none⟩)∧F g∧Blk w g 144 [.slice none 0 0,.bool false,.int .i64 (nx:Int),.slice A k c,.pointer rp]∧TrR w F rest (.pointer rp) ∧
      ∀ i,i < k→∃ b o q,A=some ⟨b,o,none⟩∧F b∧w.cell? ⟨b,o + i,none⟩=some (.pointer q)∧TrR w F (vals i) (.pointer q)
theorem TrR.agree {w w':World} {F:Nat→Prop} (ha:Agree F w w'):∀ {T:Tr} {p:Value},TrR w F T p→TrR w' F T p
  | .nil,_,h=>h
  | .leaf ops,_,⟨g,ov,h1,h2,h3,h4⟩=>⟨g,ov,h1,h2,h3.keep (ha g h2),h4.agree ha⟩
  | .node nx k vals rest,_,⟨g,A,c,rp,h1,h2,h3,h4,h5⟩=>⟨g,A,c,rp,h1,h2,h3.keep (ha g h2),TrR.agree ha h4,fun i hi=>by
      obtain ⟨b,o,q,g1,g2,g3,g4⟩:=h5 i hi
      exact ⟨b,o,q,g1,g2,(ha.cell g2).trans g3,TrR.agree ha g4⟩⟩
theorem TrR.mono {w:World} {F G:Nat→Prop} (hk:∀ k,F k→G k):∀ {T:Tr} {p:Value},TrR w F T p→TrR w G T p
  | .nil,_,h=>h
  | .leaf ops,_,⟨g,ov,h1,h2,h3,h4⟩=>⟨g,ov,h1,hk _ h2,h3,h4.mono hk⟩
  | .node nx k vals rest,_,⟨g,A,c,rp,h1,h2,h3,h4,h5⟩=>⟨g,A,c,rp,h1,hk _ h2,h3,TrR.mono hk h4,fun i hi=>by
      obtain ⟨b,o,q,g1,g2,g3,g4⟩:=h5 i hi
      exact ⟨b,o,q,g1,hk _ g2,g3,TrR.mono hk g4⟩⟩
theorem TrR.form {w:World} {F:Nat→Prop}:∀ {T:Tr} {p:Value},TrR w F T p→∃ q,p=.pointer q
  | .nil,_,h=>⟨none,h⟩
  | .leaf _,_,⟨_,_,h,_⟩=>⟨_,h⟩
  | .node ..,_,⟨_,_,_,_,h,_⟩=>⟨_,h⟩
def atN (s:List Int) (i:Nat):Nat:=(s[i]?.getD 0).toNat
def coll (s:List Int):Tr→List Int
  | .nil=>[]
  | .leaf ops=>ops
  | .node nx _ vals rest=>coll s (vals (atN s nx)) ++ coll s rest
def look (s:List Int):Tr→List Bool→List Bool
  | .nil,l=>l
  | .leaf _,l=>l
  | .node nx _ vals rest,l=>look s rest (look s (vals (atN s nx)) (l.set nx true))
def Fits (s:List Int):Tr→Prop
  | .nil=>True
  | .leaf _=>True
  | .node nx k vals rest=>(∃ x:Nat,s[nx]?=some (x:Int)∧x < k)∧Fits s (vals (atN s nx))∧Fits s rest
theorem Fe (s:List Int):∀ (T:Tr) (l:List Bool),(look s T l).length=l.length
  | .nil,_=>rfl
  | .leaf _,_=>rfl
  | .node nx k vals rest,l=>by rw [look,Fe s rest,Fe s (vals _)];simp
theorem Own.own_ne {α β:Type} [Rp α] [Rp β] {w:World} {b1 b2:Nat} {F G:Nat→Prop} {e1 e2:TypeId} {u v:Value} {xs:List α} {ys:List β} (h:Own w b1 F e1 u xs) (k:Own w b2 G e2 v ys) (hne:e1≠e2):∀ g,u.ownBlock=some g→v.ownBlock≠some g:=by
  intro g hg hv
  obtain ⟨c1,h1,_⟩:=h
  obtain ⟨c2,h2,_⟩:=k
  rcases h1.2 with ⟨rfl,_⟩|⟨g1,cap1,cur1,rfl,_,hh1,_⟩
  · simp [Value.ownBlock] at hg
  · rcases h2.2 with ⟨rfl,_⟩|⟨g2,cap2,cur2,rfl,_,hh2,_⟩
    · simp [Value.ownBlock] at hv
    · have e1':g1=g:=by simpa [Value.ownBlock] using hg
      have e2':g2=g:=by simpa [Value.ownBlock] using hv
      subst e1';subst e2'
      rw [hh1] at hh2
      injection hh2 with hh2
      injection hh2 with _ ht
      exact hne ht
theorem Own.kept {α:Type} [Rp α] {w w':World} {base:Nat} {F:Nat→Prop} {e:TypeId} {v u:Value} {xs:List α} (h:Own w base F e v xs) (hK:Kept w w' u) (hF:∀ k,F k→k < w.heap.size∧u.ownBlock≠some k) (hne:∀ g,v.ownBlock=some g→u.ownBlock≠some g):Own w' base F e v xs :=
  h.agree (fun k hk=>hK.block k (hF k hk).1 (hF k hk).2) fun g hg=>hK.block g (h.lt g hg).2 (hne g hg)
theorem collect (B:Nat) (s:List Int):∀ (T:Tr) (w:World) (p ov sv lv:Value) (out:List Int) (looked:List Bool),B≤w.heap.size→TrR w (· < B) T p→Vb w (· < B) sv s→Own w B (· < B) 3 ov out→Own w B (· < B) 4 lv looked →
    Fits s T→looked.length=s.length→out.length + (coll s T).length≤1000000 →
    Fn Tryz.prog 102 [p,ov,sv,lv] w fun v w'=>Own w' B (· < B) 3 v (out ++ coll s T)∧Own w' B (· < B) 4 lv (look s T looked)∧Below B w w':=by
  intro T
  induction T with
  | nil =>
    intro w p ov sv lv out looked hB hT hs ho hl _ _ hlen
    have hp:p=.pointer none:=hT
    subst hp
    refine AQ Tryz.func102 rfl Tryz.ntmps102 rfl ?_
    ((repeat (first|refine Aw ?_|refine Ah rfl ?_|refine Ae rfl ?_))<;>(refine Ay rfl rfl ?_<;>(refine o_z ?_))<;>(repeat (first|refine Aw ?_|refine Ah rfl ?_|refine Ae rfl ?_))<;>(refine Ar rfl rfl ?_<;>refine Kp rfl rfl ?_<;>(refine o_z ?_))<;>(repeat (first|refine Aw ?_|refine Ah rfl ?_|refine Ae rfl ?_))<;>(refine Ar rfl rfl ?_<;>refine Ay rfl rfl ?_<;>(refine o_z ?_))<;>(repeat (first|refine Aw ?_|refine Ah rfl ?_|refine Ae rfl ?_)))
    exact ret1 rfl rfl ⟨by simpa [coll] using ho,hl,Below.refl _ _⟩
  | leaf ops =>
    intro w p ov sv lv out looked hB hT hs ho hl _ _ hlen
    obtain ⟨g,opv',rfl,hg,hb1,hops⟩:=hT
    refine AQ Tryz.func102 rfl Tryz.ntmps102 rfl ?_
    ((repeat (first|refine Aw ?_|refine Ah rfl ?_|refine Ae rfl ?_))<;>(refine Ay rfl rfl ?_<;>(refine o_z ?_))<;>(repeat (first|refine Aw ?_|refine Ah rfl ?_|refine Ae rfl ?_))<;>(refine Ar rfl rfl ?_<;>refine Kp rfl rfl ?_<;>(refine o_z ?_))<;>(repeat (first|refine Aw ?_|refine Ah rfl ?_|refine Ae rfl ?_))<;>(refine Ar rfl rfl ?_<;>refine Dc rfl rfl ?_<;>refine AV rfl rfl ?_<;>refine AP rfl rfl ?_<;>(refine o_z ?_))<;>(repeat (first|refine Aw ?_|refine Ah rfl ?_|refine Ae rfl ?_))<;>(refine Ar rfl rfl ?_<;>refine Ar rfl rfl ?_<;>refine Dc rfl rfl ?_<;>refine AV rfl rfl ?_<;>refine AP rfl rfl ?_)<;>(repeat (first|refine Aw ?_|refine Ah rfl ?_|refine Ae rfl ?_)))
    simp only [coll] at hlen
    refine Ge rfl rfl rfl ho (fun k hk=>Nat.lt_of_lt_of_le hk hB) hB hops (by decide) (by omega) (by omega) rfl fun v' w1 ho1 hK=>?_
    (refine Ay rfl rfl ?_<;>(refine o_z ?_))
    repeat (first|refine Aw ?_|refine Ah rfl ?_|refine Ae rfl ?_)
    refine ret1 rfl rfl ⟨ho1,?_,ho.fits (Nat.le_refl _) hB hK⟩
    exact hl.kept hK (fun k hk=>⟨Nat.lt_of_lt_of_le hk hB,fun he=>by have:=(ho.lt k he).1;have:k < B:=hk;omega⟩) (fun g hg=>hl.own_ne ho (by decide) g hg)
  | node nx k vals rest ih1 ih2 =>
    intro w p ov sv lv out looked hB hT hs ho hl hfit hll hlen
    obtain ⟨g,A,c,rp,rfl,hg,hb1,hrest,hvals⟩:=hT
    obtain ⟨⟨x,hx,hxk⟩,hfit1,hfit2⟩:=hfit
    obtain ⟨bv,ovv,q,rfl,hbv,hcv,hq⟩:=hvals x hxk
    obtain ⟨As,cs,rfl⟩:=hs.form
    obtain ⟨bs,os,ce,rfl,hbs,_,hds,rfl,_⟩:=hs.elem hx
    have hnx:=BH hx
    have hat:atN s nx=x:=by simp [atN,hx]
    obtain ⟨gl,capl,_,_,rfl,_⟩:=hl.open (by omega)
    refine AQ Tryz.func102 rfl Tryz.ntmps102 rfl ?_
    have hll':nx < looked.length:=by omega
    ((repeat (first|refine Aw ?_|refine Ah rfl ?_|refine Ae rfl ?_))<;>(refine Ay rfl rfl ?_<;>(refine o_z ?_))<;>(repeat (first|refine Aw ?_|refine Ah rfl ?_|refine Ae rfl ?_))<;>(refine Ar rfl rfl ?_<;>refine Kp rfl rfl ?_<;>(refine o_z ?_))<;>(repeat (first|refine Aw ?_|refine Ah rfl ?_|refine Ae rfl ?_))<;>(refine Ar rfl rfl ?_<;>refine Dc rfl rfl ?_<;>refine AV rfl rfl ?_<;>refine AP rfl rfl ?_<;>(refine o_z ?_))<;>(repeat (first|refine Aw ?_|refine Ah rfl ?_|refine Ae rfl ?_))<;>(refine Ar rfl rfl ?_<;>refine Ar rfl rfl ?_<;>refine Dc rfl rfl ?_<;>refine AV rfl rfl ?_<;>refine AP rfl rfl ?_<;>refine CY rfl rfl rfl ?_)<;>(repeat (first|refine Aw ?_|refine Ah rfl ?_|refine Ae rfl ?_)))
    refine HS (i:=nx) (a:=true) rfl rfl rfl hl hll' (show Vb w (· < B) (.bool true) true from rfl) fun w1 hl1 hK1 hz1=>?_
    have hB1:Below B w w1:=hl.fits (Nat.le_refl _) hB hK1
    have ho1:Own w1 B (· < B) 3 ov out:=ho.kept hK1 (fun k hk=>⟨Nat.lt_of_lt_of_le hk hB,fun he=>by have:=(hl.lt k he).1;have:k < B:=hk;omega⟩) (fun g hg=>ho.own_ne hl (by decide) g hg)
    ((refine o_z ?_))
    repeat (first|refine Aw ?_|refine Ah rfl ?_|refine Ae rfl ?_)
    have hag:∀ w',Below B w1 w'→Agree (· < B) w w':=fun w' h k hk=>(hB1.trans h).block k hk
    replace hb1:∀ w',Below B w1 w'→Blk w' g 144 [.slice none 0 0,.bool false,.int .i64 (nx:Int),.slice (some ⟨bv,ovv,none⟩) k c,.pointer rp]:=fun w' h=>hb1.keep (hag w' h g hg)
    have hd1:∀ w',Below B w1 w'→cellsAt w' bs (os + nx * 1) [.int .i64 (x:Int)]:=fun w' h=>Bg (hag w' h) hbs hds
    have hc1:∀ w',Below B w1 w'→w'.cell? ⟨bv,ovv + x * 1,none⟩=some (.pointer q):=fun w' h=>by rw [Nat.mul_one];exact ((hag w' h).cell hbv).trans hcv
    refine Cu (Below B w1) [(0,true),(1,true),(2,true),(3,true),(4,true),(5,true),(6,true),(7,true),(8,true),(9,true),(10,true),(11,true),(12,true),(13,true),(14,true),(15,true),(16,true),(17,true),(18,true),(19,true),(21,true),(22,true),(20,false),(23,false),(24,true)] (by kernel_rfl) rfl (by kernel_rfl) (Below.refl _ _) ?_
    (refine AW rfl rfl rfl ?_<;>refine Dd rfl rfl rfl ?_<;>refine AJ rfl rfl rfl ?_<;>(first|refine DU rfl rfl rfl ?_|refine Bb rfl rfl rfl ?_)<;>refine AW rfl rfl rfl ?_<;>refine Dd rfl rfl rfl ?_<;>refine AJ rfl rfl rfl ?_<;>(first|refine DU rfl rfl rfl ?_|refine Bb rfl rfl rfl ?_)<;>refine AW rfl rfl rfl ?_<;>refine AW rfl rfl rfl ?_<;>refine Dd rfl rfl rfl ?_<;>refine AJ rfl rfl rfl ?_<;>(first|refine DU rfl rfl rfl ?_|refine Bb rfl rfl rfl ?_)<;>refine Ic rfl rfl rfl rfl ?_<;>(first|refine DU rfl rfl rfl ?_|refine Bb rfl rfl rfl ?_)<;>refine Ic rfl rfl rfl rfl ?_<;>(first|refine DU rfl rfl rfl ?_|refine Bb rfl rfl rfl ?_)<;>refine AW rfl rfl rfl ?_<;>refine AW rfl rfl rfl ?_<;>refine AW rfl rfl rfl ?_<;>refine AW rfl rfl rfl ?_<;>refine AW rfl rfl rfl ?_)
    refine BE rfl ?_
    simp only [coll,hat,List.length_append] at hlen
    refine Bo rfl rfl (ih1 x w1 (.pointer q) ov _ _ out (looked.set nx true) (Nat.le_trans hB hB1.size) (TrR.agree (hag w1 (Below.refl _ _)) hq) (hs.agree (hag w1 (Below.refl _ _))) ho1 hl1 (hat ▸ hfit1) (by simpa using hll) (by omega)) ?_
    rintro v2 w2 ⟨ho2,hl2,hB2⟩
    refine Ca hB2 ?_
    refine BE rfl ?_
    refine Bo rfl rfl (ih2 w2 (.pointer rp) v2 _ _ (out ++ coll s (vals x)) (look s (vals x) (looked.set nx true)) (Nat.le_trans hB (hB1.trans hB2).size) (TrR.agree (hag w2 hB2) hrest) (hs.agree (hag w2 hB2)) ho2 hl2 hfit2 (by rw [Fe];simpa using hll) (by rw [List.length_append];omega)) ?_
    rintro v3 w3 ⟨ho3,hl3,hB3⟩
    refine Ca (hB2.trans hB3) ?_
    (refine EC rfl rfl rfl ?_<;>(refine h_z ?_))
    repeat (first|refine Aw ?_|refine Ah rfl ?_|refine Ae rfl ?_)
    exact ret1 rfl rfl ⟨by simpa [coll,hat] using ho3,by simpa [look,hat] using hl3,hB1.trans (hB2.trans hB3)⟩
end
section
open Go.Shelf
def Tryz.lays189_ren:Go.Shelf.Ren:=⟨fun|189=>103|125=>105|257=>107|128=>116|129=>117|294=>118|295=>119|296=>120|297=>121|298=>122|299=>123|216=>124|300=>125|301=>126|328=>132|329=>128|330=>129|331=>133|332=>134|215=>106|343=>136|n=>n,fun|28=>22|3=>3|46=>166|0=>0|51=>176|53=>178|4=>4|183=>170|182=>169|131=>86|5=>5|9=>9|218=>184|222=>188|228=>192|229=>193|n=>n,fun|n=>n⟩
theorem Tryz.lays189:Go.Proofs.Lays.n189 Tryz.prog Tryz.lays189_ren:={
  mixed:=by kernel_rfl
  f125:=Tryz.func105.trans (congrArg some (by kernel_rfl))
  f128:=Tryz.func116.trans (congrArg some (by kernel_rfl))
  f129:=Tryz.func117.trans (congrArg some (by kernel_rfl))
  f189:=Tryz.func103.trans (congrArg some (by kernel_rfl))
  f215:=Tryz.func106.trans (congrArg some (by kernel_rfl))
  f216:=Tryz.func124.trans (congrArg some (by kernel_rfl))
  f257:=Tryz.func107.trans (congrArg some (by kernel_rfl))
  f294:=Tryz.func118.trans (congrArg some (by kernel_rfl))
  f295:=Tryz.func119.trans (congrArg some (by kernel_rfl))
  f296:=Tryz.func120.trans (congrArg some (by kernel_rfl))
  f297:=Tryz.func121.trans (congrArg some (by kernel_rfl))
  f298:=Tryz.func122.trans (congrArg some (by kernel_rfl))
  f299:=Tryz.func123.trans (congrArg some (by kernel_rfl))
  f300:=Tryz.func125.trans (congrArg some (by kernel_rfl))
  f301:=Tryz.func126.trans (congrArg some (by kernel_rfl))
  f328:=Tryz.func132.trans (congrArg some (by kernel_rfl))
  f329:=Tryz.func128.trans (congrArg some (by kernel_rfl))
  f330:=Tryz.func129.trans (congrArg some (by kernel_rfl))
  f331:=Tryz.func133.trans (congrArg some (by kernel_rfl))
  f332:=Tryz.func134.trans (congrArg some (by kernel_rfl))
  f343:=Tryz.func136.trans (congrArg some (by kernel_rfl))
  t0:=Tryz.underlying0
  a0:=Tryz.isAgg0
  z0:=Tryz.sizeOf0
  v0:=Tryz.zeroValue0
  t3:=Tryz.underlying3
  a3:=Tryz.isAgg3
  z3:=Tryz.sizeOf3
  v3:=Tryz.zeroValue3
  t4:=Tryz.underlying4
  a4:=Tryz.isAgg4
  z4:=Tryz.sizeOf4
  v4:=Tryz.zeroValue4
  t5:=Tryz.underlying5
  a5:=Tryz.isAgg5
  z5:=Tryz.sizeOf5
  v5:=Tryz.zeroValue5
  t9:=Tryz.underlying9
  a9:=Tryz.isAgg9
  z9:=Tryz.sizeOf9
  v9:=Tryz.zeroValue9
  t28:=Tryz.underlying22
  a28:=Tryz.isAgg22
  z28:=Tryz.sizeOf22
  v28:=Tryz.zeroValue22
  t46:=Tryz.underlying166
  a46:=Tryz.isAgg166
  z46:=Tryz.sizeOf166
  v46:=Tryz.zeroValue166
  t51:=Tryz.underlying176
  a51:=Tryz.isAgg176
  z51:=Tryz.sizeOf176
  v51:=Tryz.zeroValue176
  t53:=Tryz.underlying178
  a53:=Tryz.isAgg178
  z53:=Tryz.sizeOf178
  v53:=Tryz.zeroValue178
  t131:=Tryz.underlying86
  a131:=Tryz.isAgg86
  z131:=Tryz.sizeOf86
  v131:=Tryz.zeroValue86
  t182:=Tryz.underlying169
  a182:=Tryz.isAgg169
  z182:=Tryz.sizeOf169
  v182:=Tryz.zeroValue169
  t183:=Tryz.underlying170
  a183:=Tryz.isAgg170
  z183:=Tryz.sizeOf170
  v183:=Tryz.zeroValue170
  t218:=Tryz.underlying184
  a218:=Tryz.isAgg184
  z218:=Tryz.sizeOf184
  v218:=Tryz.zeroValue184
  t222:=Tryz.underlying188
  a222:=Tryz.isAgg188
  z222:=Tryz.sizeOf188
  v222:=Tryz.zeroValue188
  t228:=Tryz.underlying192
  a228:=Tryz.isAgg192
  z228:=Tryz.sizeOf192
  v228:=Tryz.zeroValue192
  t229:=Tryz.underlying193
  a229:=Tryz.isAgg193
  z229:=Tryz.sizeOf193
  v229:=Tryz.zeroValue193 }
open Go.Sort Go.RowKit in
theorem Tryz.slices_Sort_int (blk off cap:Nat) (zs:List Int) (w:World) (hH:Holds (Value.int .i64) w blk off zs.toArray) (hblk:blk < w.heap.size) (hsz:zs.length < 4611686018427387904) :
    Calls Tryz.prog 103 #[.slice (some ⟨blk,off,none⟩) zs.length cap] w fun e w' =>
      e=.returned (.tuple #[])∧∃ n os,w'=grow (putRow (Value.int .i64) (Sort.ahead w n) blk off (zs.mergeSort fun x y=>decide (x≤y)).toArray) os:=Any.slices_Sort_int Tryz.lays189 blk off cap zs w hH hblk hsz
open Go.RowKit Go.Sort in
theorem Tryz.slices_Sort_int_none (p:Option Addr) (cap:Nat) (w:World) :
    Calls Tryz.prog 103 #[.slice p 0 cap] w fun e w'=>e=.returned (.tuple #[])∧w'=w:=Any.slices_Sort_int_none Tryz.lays189 p cap w
end
section
open Go Go.RowKit
def sortL (xs:List Int):List Int:=xs.mergeSort fun x y=>decide (x≤y)
theorem Dn (xs:List Int):(sortL xs).length=xs.length:=List.length_mergeSort xs
theorem GV {w:World} {F:Nat→Prop}:∀ {xs:List Int} {cells:List Value},Chunks w F cells xs→cells=xs.map (Value.int .i64)∧∀ x∈xs,inI64 x
  | [],_,h=>⟨h,fun _ hx=>by simp at hx⟩
  | x :: xs,cells,⟨cs,rest,he,hr,hc⟩=>by
    obtain ⟨h1,h2⟩:=GV hc
    obtain ⟨h3,h4⟩:=hr
    refine ⟨by rw [he,h3,h1];rfl,fun y hy=>?_⟩
    rcases List.mem_cons.1 hy with rfl|hy
    · exact h4
    · exact h2 y hy
theorem GW {w:World} {F:Nat→Prop}:∀ {xs:List Int},(∀ x∈xs,inI64 x)→Chunks w F (xs.map (Value.int .i64)) xs
  | [],_=>rfl
  | x :: xs,h=>⟨[.int .i64 x],xs.map (Value.int .i64),rfl,⟨rfl,h x (by simp)⟩,GW fun y hy=>h y (by simp [hy])⟩
theorem sortInts {w:World} {base:Nat} {F:Nat→Prop} {v:Value} {xs:List Int} (h:Own w base F 3 v xs) (hl:xs.length≤1000000) :
    Fn Tryz.prog 103 [v] w fun r w'=>r=.tuple #[]∧Own w' base F 3 v (sortL xs)∧Kept w w' v:=by
  intro d
  rcases Nat.eq_zero_or_pos xs.length with h0|h0
  · have hx:xs=[]:=List.eq_nil_of_length_eq_zero h0
    subst hx
    have hv:∃ p c,v=.slice p 0 c:=by
      obtain ⟨cells,h1,_⟩:=h
      rcases h1.2 with ⟨rfl,_⟩|⟨g,cap,cur,rfl,_⟩
      · exact ⟨_,_,rfl⟩
      · exact ⟨_,_,rfl⟩
    obtain ⟨p,c,rfl⟩:=hv
    refine (Tryz.slices_Sort_int_none p c (dr w d)).mono fun e w' ⟨he,hw⟩=>⟨_,w,d,he,hw,rfl,by simpa [sortL] using h,⟨rfl,rfl,rfl,Nat.le_refl _,fun _ _ _=>rfl⟩⟩
  · obtain ⟨g,cap,cells,sp,rfl,hg,hFg,hb,hc,hlen,hnc,hcm,htot⟩:=h.open h0
    obtain ⟨rfl,hin⟩:=GV hc
    have hH:Go.Sort.Holds (Value.int .i64) (dr w d) g 0 xs.toArray:=fun j hj=>by
      have hj':j < xs.length:=by simpa using hj
      refine ⟨?_,by rw [Nat.zero_add];exact hb.frozen j⟩
      rw [Nat.zero_add]
      refine hb.cell ?_
      rw [List.getElem?_append_left (by simpa using hj'),List.getElem?_map,List.getElem?_eq_getElem hj']
      simp [hj']
    refine (Tryz.slices_Sort_int g 0 cap xs (dr w d) hH hb.lt (by omega)).mono fun e w' ⟨he,n,os,hw⟩=>⟨_,w',w'.drawn,he,rfl,rfl,?_,?_⟩
    · have hblk:Blk w' g 3 ((sortL xs).map (Value.int .i64) ++ sp):=by
        subst hw
        unfold Blk at hb ⊢
        have hsz:g < w.heap.size:=Blk.lt hb
        show ((w.heap.modify g _) ++ os)[g]?=_
        rw [Array.getElem?_append_left (by simpa using hsz),Array.getElem?_modify,if_pos rfl,hb]
        simp only [Option.map_some,Go.Sort.onCells]
        congr 2
        apply Array.ext
        · simp [Go.Sort.putCells,Dn]
        · intro i h1 h2
          simp only [Go.Sort.putCells,Array.getElem_mapIdx,Nat.zero_add,Nat.sub_zero,Nat.zero_le,true_and]
          have e1:(List.mergeSort xs fun x y=>decide (x≤y)).length=xs.length:=List.length_mergeSort xs
          by_cases hi:i < xs.length
          · rw [if_pos (by simpa [e1] using hi)]
            simp only [List.getElem_toArray]
            rw [List.getElem_append_left (by simpa [Dn] using hi),List.getElem_map]
            congr 1
            rw [getElem!_pos _ _ (by simpa [e1] using hi)]
            simp [sortL]
          · rw [if_neg (by simpa [e1] using hi)]
            simp only [List.getElem_toArray]
            rw [List.getElem_append_right (by simp;omega),List.getElem_append_right (by simp [Dn];omega)]
            simp [Dn]
      have:=Own.close (w:=w') (base:=base) (cap:=cap) hg hFg hblk (GW (F:=F) (w:=w') fun x hx=>hin x (by
        have:=(List.mergeSort_perm xs fun x y=>decide (x≤y)).mem_iff.1 hx
        exact this)) (by rw [Dn];exact hnc) hcm (by simpa [Dn] using htot)
      rwa [Dn] at this
    · subst hw
      refine ⟨rfl,rfl,rfl,?_,fun k hk hne=>?_⟩
      · show w.heap.size≤((w.heap.modify g _) ++ os).size
        simp
      · have hkg:g≠k:=fun e=>hne (by simp [Value.ownBlock,e])
        show ((w.heap.modify g _) ++ os)[k]?=_
        rw [Array.getElem?_append_left (by simpa using hk),Array.getElem?_modify,if_neg hkg]
end
section
open Go Go.RowKit
attribute [local irreducible] ewp owp hwp hwq hws Ev Evg Fn retPost loud loudS Res1
def GenR (w:World) (F:Nat→Prop) (gv:Value) (t:Tsk) (T:Tr):Prop :=
  ∃ gb a b c d r,gv=.pointer (some ⟨gb,0,none⟩)∧F gb∧Blk w gb 107 [a,b,c,d,r]∧Vb w F a t.vars∧Vb w F b t.init∧Vb w F c t.goal∧Vb w F d t.ops∧TrR w F T r
theorem KA (z:Value) (n:Nat) (hz:z.cells=#[z]):(madeCells z.cells (n * 1)).toList=List.replicate n z:=by
  rw [hz,Nat.mul_one]
  apply List.ext_getElem
  · simp [madeCells]
  · intro i h1 h2
    simp [madeCells,Nat.mod_one]
theorem Hq {w:World} {F:Nat→Prop}:∀ n,Chunks w F (List.replicate n (.bool false)) (List.replicate n false)
  | 0=>rfl
  | n + 1=>⟨[.bool false],List.replicate n (.bool false),rfl,rfl,Hq n⟩
noncomputable def findL (t:Tsk) (T:Tr) (s:List Int):List Int:=if bof (StateOk t.vars s)=true then sortL (coll s T) else []
noncomputable def findN (t:Tsk) (T:Tr) (s:List Int):Nat:=if bof (StateOk t.vars s)=true then (look s T (List.replicate s.length false)).count true else 0
theorem LZ {l:List Bool} {k:Nat} {b:Bool} (h:l[k]?=some b):(l.take (k + 1)).count true=(l.take k).count true + if b=true then 1 else 0:=by
  rw [List.take_add_one,h,List.count_append]
  cases b<;>simp
theorem genFind {w:World} {gv sv:Value} {t:Tsk} {T:Tr} {s:List Int} (hg:GenR w (All w) gv t T) (hs:V w sv s) (hfit:StateOk t.vars s→Fits s T) (hlen:(coll s T).length≤1000000) (hsl:s.length≤1000000) :
    Fn Tryz.prog 92 [gv,sv] w fun v w'=>Ext w w'∧∃ u,v=.tuple #[u,.int .i64 (findN t T s:Int)]∧Own w' w.heap.size (All w) 3 u (findL t T s):=by
  obtain ⟨gb,a,b,c,d,r,rfl,hgb,hb1,hvars,hinit,hgoal,hops,hT⟩:=hg
  obtain ⟨Av,cv,rfl⟩:=hvars.form
  obtain ⟨As,cs,rfl⟩:=hs.form
  obtain ⟨rp,rfl⟩:=hT.form
  refine AQ Tryz.func92 rfl Tryz.ntmps92 rfl ?_
  ((repeat (first|refine Aw ?_|refine Ah rfl ?_|refine Ae rfl ?_))<;>(refine Ay rfl rfl ?_<;>refine Ay rfl rfl ?_<;>(refine o_z ?_))<;>(repeat (first|refine Aw ?_|refine Ah rfl ?_|refine Ae rfl ?_))<;>(refine Ar rfl rfl ?_<;>refine Kp rfl rfl ?_<;>refine Ar rfl rfl ?_<;>(first|(refine AE rfl rfl ?_;refine Ar rfl rfl ?_)|refine AC rfl rfl rfl rfl ?_)<;>(first|(refine AE rfl rfl ?_;refine Dc rfl rfl ?_)|refine AC rfl rfl rfl rfl ?_)<;>(first|(refine AE rfl rfl ?_;refine AV rfl rfl ?_)|refine AC rfl rfl rfl rfl ?_)<;>(first|(refine AE rfl rfl ?_;refine AV rfl rfl ?_)|refine AC rfl rfl rfl rfl ?_)<;>(first|(refine AE rfl rfl ?_;refine AP rfl rfl ?_)|refine AC rfl rfl rfl rfl ?_)<;>(first|(refine AE rfl rfl ?_;refine Ar rfl rfl ?_)|refine AC rfl rfl rfl rfl ?_))<;>(repeat (first|refine Aw ?_|refine Ah rfl ?_|refine Ae rfl ?_)))
  refine AE rfl rfl ?_
  refine Ek rfl rfl (taskProper hvars hs) ?_ ?_
  case refine_2 =>
    intro w1 hP hE1
    ((first|(refine AE rfl rfl ?_;(first|refine DK rfl rfl ?_|refine DL rfl rfl ?_|refine Fs rfl rfl ?_))|refine AC rfl rfl rfl rfl ?_)<;>(first|refine BF rfl rfl rfl ?_|refine BN rfl rfl rfl ?_)<;>(refine o_z ?_))
    repeat (first|refine Aw ?_|refine Ah rfl ?_|refine Ae rfl ?_)
    ((repeat (first|refine Aw ?_|refine Ah rfl ?_|refine Ae rfl ?_))<;>(refine Ay rfl rfl ?_<;>refine Ay rfl rfl ?_<;>(refine o_z ?_))<;>(repeat (first|refine Aw ?_|refine Ah rfl ?_|refine Ae rfl ?_)))
    refine ret2 rfl (AO rfl) (AO rfl) ⟨hE1,.slice none 0 0,?_,?_⟩
    · rw [findN,Bh hP];rfl
    · rw [findL,Bh hP];exact Own.nil _ _ _ _
  intro w1 hok hE1
  replace hb1:=hb1.ext hE1
  ((first|(refine AE rfl rfl ?_;(first|refine DK rfl rfl ?_|refine DL rfl rfl ?_|refine Fs rfl rfl ?_))|refine AC rfl rfl rfl rfl ?_)<;>(first|refine BF rfl rfl rfl ?_|refine BN rfl rfl rfl ?_)<;>(refine o_z ?_))
  repeat (first|refine Aw ?_|refine Ah rfl ?_|refine Ae rfl ?_)
  (refine Ar rfl rfl ?_<;>refine Bj rfl rfl ?_)
  refine HY rfl rfl (by omega) (by omega) rfl fun w2 hN2=>?_
  replace hb1:=hb1.ext hN2.ext
  have hE2:Ext w w2:=hE1.trans' hN2.ext
  have hl2:Own w2 w.heap.size (· < w.heap.size) 4 (.slice (some ⟨w1.heap.size,0,none⟩) s.length s.length) (List.replicate s.length false) :=
    (Own.made hN2 (by rw [KA _ _ rfl];exact Hq _) (by simp) (by have:=hE1.size;omega) (by omega)).lower hE1.size
  (refine Ay rfl rfl ?_<;>(refine o_z ?_))
  repeat (first|refine Aw ?_|refine Ah rfl ?_|refine Ae rfl ?_)
  (refine Ar rfl rfl ?_<;>refine Dc rfl rfl ?_<;>refine AV rfl rfl ?_<;>refine AP rfl rfl ?_<;>refine Ar rfl rfl ?_<;>refine Ar rfl rfl ?_)
  refine Bo rfl rfl (collect w.heap.size s T w2 (.pointer rp) (.slice none 0 0) _ _ [] _ hE2.size (TrR.agree (hE2.agree fun _ h=>h) hT) (Vb.agree hs (hE2.agree fun _ h=>h)) (Own.nil _ _ _ _) hl2 (hfit hok) (by simp) (by simpa using hlen)) ?_
  rintro v3 w3 ⟨ho3,hl3,hB3⟩
  have hE3:Ext w w3:=hE2.trans hB3
  rw [List.nil_append] at ho3
  (refine Ay rfl rfl ?_<;>(refine o_z ?_))
  repeat (first|refine Aw ?_|refine Ah rfl ?_|refine Ae rfl ?_)
  (refine Ar rfl rfl ?_)
  refine Bo rfl rfl (sortInts ho3 hlen) ?_
  rintro _ w4 ⟨rfl,ho4,hK4⟩
  have hE4:Ext w w4:=hE3.trans (ho3.fits (Nat.le_refl _) hE3.size hK4)
  have hl4:=hl3.kept hK4 (fun k hk=>⟨Nat.lt_of_lt_of_le hk hE3.size,fun he=>by have:=(ho3.lt k he).1;have:k < w.heap.size:=hk;omega⟩) (fun g hg=>hl3.own_ne ho3 (by decide) g hg)
  have hlv:Vb w4 _ (.slice (some ⟨w1.heap.size,0,none⟩) s.length s.length) (look s T (List.replicate s.length false)):=hl4.vb
  have hll:(look s T (List.replicate s.length false)).length=s.length:=by rw [Fe];simp
  ((refine o_z ?_))
  repeat (first|refine Aw ?_|refine Ah rfl ?_|refine Ae rfl ?_)
  ((repeat (first|refine Aw ?_|refine Ah rfl ?_|refine Ae rfl ?_))<;>(refine Ay rfl rfl ?_<;>(refine o_z ?_))<;>(repeat (first|refine Aw ?_|refine Ah rfl ?_|refine Ae rfl ?_))<;>(refine Ar rfl rfl ?_<;>refine Bj rfl rfl ?_<;>refine Ar rfl rfl ?_<;>(refine o_z ?_))<;>(repeat (first|refine Aw ?_|refine Ah rfl ?_|refine Ae rfl ?_)))
  refine BU s.length (by omega) (fun n:Nat=>[(7,v3),(8,.int .i64 (n:Int)),(35,.slice (some ⟨w1.heap.size,0,none⟩) s.length s.length)]) (fun k n w'=>w'=w4∧n=((look s T (List.replicate s.length false)).take k).count true) 0
    ⟨rfl,by simp⟩ ⟨rfl,rfl,rfl,rfl,rfl,trivial⟩ (fun _=>⟨rfl,rfl⟩) ⟨rfl,rfl,rfl⟩ ⟨rfl,rfl⟩ ?_ ?_
  · rintro k n _ hk ⟨rfl,hn⟩
    obtain ⟨x,hx⟩:=AN (l:=look s T (List.replicate s.length false)) (k:=k) (by omega)
    obtain ⟨b2,o2,ce,he,_,_,hd1,rfl⟩:=hlv.elem hx
    injection he with he
    injection he with he1 he2
    subst he1;subst he2
    have hnl:n≤k:=by
      rw [hn]
      exact Nat.le_trans List.count_le_length (by rw [List.length_take];omega)
    have hst:=LZ hx
    cases x
    · ((repeat (first|refine Aw ?_|refine Ah rfl ?_|refine Ae rfl ?_))<;>(refine CY rfl rfl rfl ?_<;>refine AP rfl rfl ?_<;>refine Ay rfl rfl ?_<;>(refine o_z ?_))<;>(repeat (first|refine Aw ?_|refine Ah rfl ?_|refine Ae rfl ?_))<;>(refine Ar rfl rfl ?_<;>(refine o_z ?_))<;>(repeat (first|refine Aw ?_|refine Ah rfl ?_|refine Ae rfl ?_)))
      exact ⟨n,⟨rfl,rfl,rfl,rfl,rfl,trivial⟩,rfl,by rw [hst,hn];simp⟩
    · ((repeat (first|refine Aw ?_|refine Ah rfl ?_|refine Ae rfl ?_))<;>(refine CY rfl rfl rfl ?_<;>refine AP rfl rfl ?_<;>refine Ay rfl rfl ?_<;>(refine o_z ?_))<;>(repeat (first|refine Aw ?_|refine Ah rfl ?_|refine Ae rfl ?_))<;>(refine Ar rfl rfl ?_<;>(refine o_z ?_))<;>(repeat (first|refine Aw ?_|refine Ah rfl ?_|refine Ae rfl ?_))<;>(refine Ar rfl rfl ?_<;>(first|refine Hh rfl rfl ?_|refine Hg rfl rfl rfl ?_)<;>refine Ay rfl rfl ?_<;>(refine o_z ?_))<;>(repeat (first|refine Aw ?_|refine Ah rfl ?_|refine Ae rfl ?_)))
      exact ⟨n + 1,⟨rfl,rfl,rfl,rfl,rfl,trivial⟩,rfl,by rw [hst,hn];simp⟩
  rintro n _ ⟨rfl,hn⟩
  repeat (first|refine Aw ?_|refine Ah rfl ?_|refine Ae rfl ?_)
  ((repeat (first|refine Aw ?_|refine Ah rfl ?_|refine Ae rfl ?_))<;>(refine Ar rfl rfl ?_<;>refine Ar rfl rfl ?_<;>refine Ay rfl rfl ?_<;>refine Ay rfl rfl ?_<;>(refine o_z ?_))<;>(repeat (first|refine Aw ?_|refine Ah rfl ?_|refine Ae rfl ?_)))
  refine ret2 rfl (AO rfl) (AO rfl) ⟨hE4,v3,?_,?_⟩
  · rw [findN,Bl hok,if_pos rfl,hn,List.take_of_length_le (by omega)]
  · rw [findL,Bl hok,if_pos rfl]
    exact ho4
section
variable {w : World} {gv sv : Value} {t : Tsk} {T : Tr} {s : List Int}
theorem genApplicable (hg:GenR w (All w) gv t T) (hs:V w sv s) (hfit:StateOk t.vars s→Fits s T) (hlen:(coll s T).length≤1000000) (hsl:s.length≤1000000) :
    Fn Tryz.prog 65 [gv,sv] w fun v w'=>Ext w w'∧Own w' w.heap.size (All w) 3 v (findL t T s):=by
  refine AQ Tryz.func65 rfl Tryz.ntmps65 rfl ?_
  ((repeat (first|refine Aw ?_|refine Ah rfl ?_|refine Ae rfl ?_))<;>(refine Ay rfl rfl ?_<;>(refine o_z ?_))<;>(repeat (first|refine Aw ?_|refine Ah rfl ?_|refine Ae rfl ?_))<;>(refine Ar rfl rfl ?_<;>refine Ar rfl rfl ?_)<;>(repeat (first|refine Aw ?_|refine Ah rfl ?_|refine Ae rfl ?_)))
  refine Bo rfl rfl (genFind hg hs hfit hlen hsl) ?_
  rintro _ w1 ⟨hE,u,rfl,ho⟩
  (refine Ar rfl rfl ?_<;>refine Cy rfl rfl rfl ?_<;>refine Cy rfl rfl rfl ?_<;>refine Ay rfl rfl ?_<;>refine Ay rfl rfl ?_<;>(refine o_z ?_))
  repeat (first|refine Aw ?_|refine Ah rfl ?_|refine Ae rfl ?_)
  ((repeat (first|refine Aw ?_|refine Ah rfl ?_|refine Ae rfl ?_))<;>(refine Ar rfl rfl ?_<;>refine Ay rfl rfl ?_<;>(refine o_z ?_))<;>(repeat (first|refine Aw ?_|refine Ah rfl ?_|refine Ae rfl ?_)))
  exact ret1 rfl rfl ⟨hE,ho⟩
theorem Own.form {α:Type} [Rp α] {w:World} {base:Nat} {F:Nat→Prop} {e:TypeId} {v:Value} {xs:List α} (h:Own w base F e v xs):∃ A c,v=.slice A xs.length c:=h.vb.form
end
structure Suc where
  op:Int
  state:List Int
instance:Rp Suc where
  isAgg:=true
  size:=2
  R w F cs x:=∃ v,cs=[.int .i64 x.op,v]∧Vb w F v x.state∧inI64 x.op
  len:=by rintro w F cs x ⟨v,rfl,_⟩;rfl
  one:=by rintro w F cs x ⟨v,rfl,h,_⟩ u hu;simp at hu;rcases hu with rfl|rfl<;>first|rfl|exact Vb.one rfl (by assumption)
  agree:=by rintro w w' F cs x ⟨v,rfl,h,h2⟩ ha;exact ⟨v,rfl,h.agree ha,h2⟩
  mono:=by rintro w F G cs x ⟨v,rfl,h,h2⟩ ha;exact ⟨v,rfl,h.mono ha,h2⟩
def sucOf (t:Tsk) (s:List Int) (op:Int):Suc:=⟨op,match t.ops[op.toNat]? with|some o=>succ o s|none=>s⟩
end
section
open Go Go.RowKit
attribute [local irreducible] ewp owp hwp hwq hws Ev Evg Fn retPost loud loudS Res1
def GenB (w:World) (F:Nat→Prop) (gv:Value) (t:Tsk):Prop :=
  ∃ gb a b c d rp,gv=.pointer (some ⟨gb,0,none⟩)∧F gb∧Blk w gb 107 [a,b,c,d,.pointer rp]∧Vb w F a t.vars∧Vb w F b t.init∧Vb w F c t.goal∧Vb w F d t.ops
theorem GenB.agree {w w':World} {F:Nat→Prop} {gv:Value} {t:Tsk} (h:GenB w F gv t) (ha:Agree F w w'):GenB w' F gv t:=by
  obtain ⟨gb,a,b,c,d,r,h1,h2,h3,h4,h5,h6,h7⟩:=h
  exact ⟨gb,a,b,c,d,r,h1,h2,h3.keep (ha gb h2),h4.agree ha,h5.agree ha,h6.agree ha,h7.agree ha⟩
theorem GenB.mono {w:World} {F G:Nat→Prop} {gv:Value} {t:Tsk} (h:GenB w F gv t) (ha:∀ k,F k→G k):GenB w G gv t:=by
  obtain ⟨gb,a,b,c,d,r,h1,h2,h3,h4,h5,h6,h7⟩:=h
  exact ⟨gb,a,b,c,d,r,h1,ha _ h2,h3,h4.mono ha,h5.mono ha,h6.mono ha,h7.mono ha⟩
theorem GenB.ext {w w':World} {gv:Value} {t:Tsk} (h:GenB w (All w) gv t) (hE:Ext w w'):GenB w' (All w') gv t:=(h.agree (hE.agree fun _ h=>h)).mono fun k hk=>Nat.lt_of_lt_of_le hk hE.size
def factOn (l:List Fct) (v:Int):Option Fct:=l.find? fun f=>decide (f.var=v)
def factV:Option Fct→Value
  | some f=>.tuple #[.agg #[.int .i64 f.var,.int .i64 f.val],.bool true]
  | none=>.tuple #[.agg #[.int .i64 0,.int .i64 0],.bool false]
theorem JE {α:Type} (p:α→Bool):∀ {l:List α} {k:Nat} {x:α},l[k]?=some x→p x=true→(∀ i,i < k→∀ y,l[i]?=some y→p y=false)→l.find? p=some x
  | [],_,_,h,_,_=>by simp at h
  | y :: l,0,x,h,hp,_=>by
    have:y=x:=by simpa using h
    subst this;simp [hp]
  | y :: l,k + 1,x,h,hp,hn=>by
    have hy:=hn 0 (by omega) y rfl
    rw [List.find?_cons,hy]
    exact JE p (k:=k) (by simpa using h) hp fun i hi z hz=>hn (i + 1) (by omega) z (by simpa using hz)
theorem MB {α:Type} (p:α→Bool) {l:List α} (hn:∀ i,i < l.length→∀ y,l[i]?=some y→p y=false):l.find? p=none:=by
  rw [List.find?_eq_none]
  intro x hx
  obtain ⟨i,hi⟩:=List.getElem?_of_mem hx
  simp [hn i (BH hi) x hi]
theorem genFact {w:World} {gv:Value} {t:Tsk} {j:Nat} {o:Opr} {v:Int} (hg:GenB w (All w) gv t) (ho:t.ops[j]?=some o) :
    Fn Tryz.prog 84 [gv,.int .i64 (j:Int),.int .i64 v] w fun r w'=>r=factV (factOn o.pre v)∧Ext w w':=by
  obtain ⟨gb,a,b,c,d,rp,rfl,hgb,hb0,hvars,hinit,hgoal,hops⟩:=hg
  obtain ⟨Ao,co,rfl⟩:=hops.form
  obtain ⟨b2,o2,ce,rfl,hbl,hjl,hd0,p,q,rfl,hp,hq,hc,hnm⟩:=hops.elem ho
  obtain ⟨Ap,cp,rfl⟩:=hp.form
  have hpl:=hp.len
  refine AQ Tryz.func84 rfl Tryz.ntmps84 rfl ?_
  repeat (first|refine Aw ?_|refine Ah rfl ?_|refine Ae rfl ?_)
  refine DQ rfl fun w1 hN1=>?_
  have hres:=hN1.blk
  have hE1:Ext w w1:=hN1.ext
  have hb1:=hb0.ext hE1
  have hd1:=Hc hd0 hbl hE1
  (refine Ay rfl rfl ?_<;>(refine o_z ?_))
  repeat (first|refine Aw ?_|refine Ah rfl ?_|refine Ae rfl ?_)
  ((repeat (first|refine Aw ?_|refine Ah rfl ?_|refine Ae rfl ?_))<;>(refine Ar rfl rfl ?_<;>refine Dc rfl rfl ?_<;>refine AV rfl rfl ?_<;>refine AV rfl rfl ?_<;>refine AP rfl rfl ?_<;>refine Ar rfl rfl ?_<;>refine CY rfl rfl rfl ?_<;>refine AV rfl rfl ?_<;>refine AP rfl rfl ?_<;>refine Bj rfl rfl ?_<;>refine Ar rfl rfl ?_<;>(refine o_z ?_))<;>(repeat (first|refine Aw ?_|refine Ah rfl ?_|refine Ae rfl ?_)))
  refine BU o.pre.length (by omega) (fun _:Unit=>[(2,.int .i64 v),(6,.pointer (some ⟨w.heap.size,0,none⟩)),(18,.slice Ap o.pre.length cp)]) (fun k _ w'=>Ext w1 w'∧∀ i,i < k→∀ f,o.pre[i]?=some f→decide (f.var=v)=false) ()
    ⟨Below.refl _ _,fun i hi=>by omega⟩ ⟨rfl,rfl,rfl,rfl,rfl,trivial⟩ (fun _=>⟨rfl,rfl⟩) ⟨rfl,rfl,rfl⟩ ⟨rfl,rfl⟩ ?_ ?_
  · rintro k _ w2 hk ⟨hE2,hh⟩
    obtain ⟨f,hf⟩:=AN hk
    obtain ⟨b3,o3,ce,rfl,_,_,hd1,rfl,hr1,hr2⟩:=(hp.ext (hE1.trans' hE2)).elem hf
    ((repeat (first|refine Aw ?_|refine Ah rfl ?_|refine Ae rfl ?_))<;>(refine CY rfl rfl rfl ?_<;>refine Br rfl rfl ?_)<;>(repeat (first|refine Aw ?_|refine Ah rfl ?_|refine Ae rfl ?_)))
    refine Ce rfl rfl rfl (by simp [Value.cells,Value.oneCell']) fun w3 hN3=>?_
    have hb2:=hN3.blk
    have hE3:Ext w1 w3:=hE2.trans' hN3.ext
    replace hres:=hres.ext hE3
    ((refine o_z ?_))
    repeat (first|refine Aw ?_|refine Ah rfl ?_|refine Ae rfl ?_)
    ((repeat (first|refine Aw ?_|refine Ah rfl ?_|refine Ae rfl ?_))<;>(refine AV rfl rfl ?_<;>refine AP rfl rfl ?_<;>refine Ar rfl rfl ?_<;>(first|refine LQ rfl rfl rfl ?_|refine LR rfl rfl rfl ?_|refine Ei rfl rfl rfl (fun _=>?_) fun _=>?_)<;>(refine o_z ?_))<;>(repeat (first|refine Aw ?_|refine Ah rfl ?_|refine Ae rfl ?_)))
    · (refine Br rfl rfl ?_)
      refine BT rfl rfl hres rfl (Nat.le_refl _) (by simp [Value.cells,Value.oneCell']) fun w4 hU=>?_
      (refine Ay rfl rfl ?_<;>(refine o_z ?_))
      repeat (first|refine Aw ?_|refine Ah rfl ?_|refine Ae rfl ?_)
      refine ret2 rfl (Cg rfl rfl hU.blk.cellsAt) (AO rfl) ⟨?_,hE1.trans ((hE3.mono hE1.size).trans (hU.below (Nat.le_refl _)))⟩
      rw [factOn,JE _ hf (by simpa using ‹f.var=v›) hh]
      rfl
    · exact ⟨(),⟨rfl,rfl,rfl,rfl,rfl,trivial⟩,hE3,CT hh fun f' hf'=>by rw [hf] at hf';injection hf' with hf';subst hf';simpa using ‹¬ f.var=v›⟩
  rintro _ w2 ⟨hE2,hh⟩
  replace hres:=hres.ext hE2
  repeat (first|refine Aw ?_|refine Ah rfl ?_|refine Ae rfl ?_)
  (refine CG rfl rfl rfl ?_)
  refine BT rfl rfl hres rfl (Nat.le_refl _) (by simp [Value.cells,Value.oneCell',setParts]) fun w4 hU=>?_
  (refine Ay rfl rfl ?_<;>(refine o_z ?_))
  repeat (first|refine Aw ?_|refine Ah rfl ?_|refine Ae rfl ?_)
  refine ret2 rfl (Cg rfl rfl hU.blk.cellsAt) (AO rfl) ⟨?_,hE1.trans ((hE2.mono hE1.size).trans (hU.below (Nat.le_refl _)))⟩
  rw [factOn,MB _ hh]
  rfl
theorem genBuild1 {w:World} {gv:Value} {t:Tsk} {j:Nat} {o:Opr} {v:Int} {g1 g2:Nat} {r1 r2:TypeId} (hg:GenB w (All w) gv t) (ho:t.ops[j]?=some o) (h1:Blk w g1 r1 [gv]) (h2:Blk w g2 r2 [.int .i64 v]) :
    Fn Tryz.prog 83 ([.int .i64 (j:Int)] ++ [.pointer (some ⟨g1,0,none⟩),.pointer (some ⟨g2,0,none⟩)]) w fun r w'=>r=.bool (factOn o.pre v).isSome∧Ext w w':=by
  have hb1:=h1
  have hb2:=h2
  refine AQ Tryz.func83 rfl Tryz.ntmps83 rfl ?_
  ((repeat (first|refine Aw ?_|refine Ah rfl ?_|refine Ae rfl ?_))<;>(refine Ay rfl rfl ?_<;>(refine o_z ?_))<;>(repeat (first|refine Aw ?_|refine Ah rfl ?_|refine Ae rfl ?_))<;>(refine AP rfl rfl ?_<;>refine Ar rfl rfl ?_<;>refine AP rfl rfl ?_)<;>(repeat (first|refine Aw ?_|refine Ah rfl ?_|refine Ae rfl ?_)))
  refine Bo rfl rfl (genFact hg ho) ?_
  rintro _ w1 ⟨rfl,hE1⟩
  cases hf:factOn o.pre v with
  | none =>
    simp only [factV]
    (refine Ar rfl rfl ?_<;>refine Cy rfl rfl rfl ?_<;>refine Cy rfl rfl rfl ?_)
    refine Ce rfl rfl rfl (by simp [Value.cells,Value.oneCell']) fun w2 hN2=>?_
    (refine Ay rfl rfl ?_<;>(refine o_z ?_))
    repeat (first|refine Aw ?_|refine Ah rfl ?_|refine Ae rfl ?_)
    ((repeat (first|refine Aw ?_|refine Ah rfl ?_|refine Ae rfl ?_))<;>(refine Ar rfl rfl ?_<;>refine Ay rfl rfl ?_<;>(refine o_z ?_))<;>(repeat (first|refine Aw ?_|refine Ah rfl ?_|refine Ae rfl ?_)))
    exact ret1 rfl rfl ⟨rfl,hE1.trans' hN2.ext⟩
  | some f =>
    simp only [factV]
    (refine Ar rfl rfl ?_<;>refine Cy rfl rfl rfl ?_<;>refine Cy rfl rfl rfl ?_)
    refine Ce rfl rfl rfl (by simp [Value.cells,Value.oneCell']) fun w2 hN2=>?_
    (refine Ay rfl rfl ?_<;>(refine o_z ?_))
    repeat (first|refine Aw ?_|refine Ah rfl ?_|refine Ae rfl ?_)
    ((repeat (first|refine Aw ?_|refine Ah rfl ?_|refine Ae rfl ?_))<;>(refine Ar rfl rfl ?_<;>refine Ay rfl rfl ?_<;>(refine o_z ?_))<;>(repeat (first|refine Aw ?_|refine Ah rfl ?_|refine Ae rfl ?_)))
    exact ret1 rfl rfl ⟨rfl,hE1.trans' hN2.ext⟩
end
section
open Go Go.RowKit
attribute [local irreducible] ewp owp hwp hwq hws Ev Evg Fn retPost loud loudS Res1
theorem indexFuncInts {w:World} {sv:Value} {xs:List (Int)} {g:FuncId} [Callable Tryz.prog g] {caps:List Value} {p:Int→Prop} (hs:V w sv xs)
    (hg:∀ v x w',x∈xs→Ext w w'→V w' v x→Fn Tryz.prog g ([v] ++ caps) w' fun r w''=>r=.bool (bof (p x))∧Ext w' w'') :
    Fn Tryz.prog 101 [sv,.func (.func g) #[] caps.toArray] w fun v w'=>((∃ k:Nat,v=.int .i64 (k:Int)∧∃ x∈xs,p x)∨(v=.int .i64 (-1)∧∀ x∈xs,¬ p x))∧Ext w w':=by
  obtain ⟨A,c,rfl⟩:=hs.form
  have hl:=hs.len
  refine AQ Tryz.func101 rfl Tryz.ntmps101 rfl ?_
  ((repeat (first|refine Aw ?_|refine Ah rfl ?_|refine Ae rfl ?_))<;>(refine Ay rfl rfl ?_<;>(refine o_z ?_))<;>(repeat (first|refine Aw ?_|refine Ah rfl ?_|refine Ae rfl ?_))<;>(refine Ar rfl rfl ?_<;>refine Bj rfl rfl ?_<;>refine Ar rfl rfl ?_<;>(refine o_z ?_))<;>(repeat (first|refine Aw ?_|refine Ah rfl ?_|refine Ae rfl ?_)))
  refine BU xs.length (by omega) (fun _:Unit=>[(0,.slice A xs.length c),(1,.func (.func g) #[] caps.toArray)]) (fun k _ w'=>Ext w w'∧∀ i,i < k→∀ x,xs[i]?=some x→¬ p x) ()
    ⟨Below.refl _ _,fun i hi=>by omega⟩ ⟨rfl,rfl,rfl,rfl,trivial⟩ (fun _=>⟨rfl,rfl⟩) ⟨rfl,rfl,rfl⟩ ⟨rfl,rfl⟩ ?_ ?_
  · rintro k _ w1 hk ⟨hE,hh⟩
    obtain ⟨x,hx⟩:=AN hk
    obtain ⟨b,o,ce,rfl,_,_,hd1,hR⟩:=(hs.ext hE).elem hx
    obtain ⟨v,rfl⟩:=List.length_eq_one_iff.1 (Rp.len hR)
    ((repeat (first|refine Aw ?_|refine Ah rfl ?_|refine Ae rfl ?_))<;>(refine Ar rfl rfl ?_<;>refine Ay rfl rfl ?_<;>(refine o_z ?_))<;>(repeat (first|refine Aw ?_|refine Ah rfl ?_|refine Ae rfl ?_))<;>(refine Ar rfl rfl ?_<;>refine Ar rfl rfl ?_<;>refine Ar rfl rfl ?_<;>refine CY rfl rfl rfl ?_<;>refine AP rfl rfl ?_)<;>(repeat (first|refine Aw ?_|refine Ah rfl ?_|refine Ae rfl ?_)))
    refine Hd rfl rfl rfl (hg v x w1 (List.mem_of_getElem? hx) hE hR) ?_
    rintro _ w2 ⟨rfl,hE2⟩
    by_cases hp:p x
    · rw [Bl hp]
      ((refine o_z ?_))
      repeat (first|refine Aw ?_|refine Ah rfl ?_|refine Ae rfl ?_)
      ((repeat (first|refine Aw ?_|refine Ah rfl ?_|refine Ae rfl ?_))<;>(refine Ar rfl rfl ?_<;>refine Ay rfl rfl ?_<;>(refine o_z ?_))<;>(repeat (first|refine Aw ?_|refine Ah rfl ?_|refine Ae rfl ?_)))
      exact ret1 rfl rfl ⟨.inl ⟨k,rfl,x,List.mem_of_getElem? hx,hp⟩,hE.trans' hE2⟩
    · rw [Bh hp]
      ((refine o_z ?_))
      repeat (first|refine Aw ?_|refine Ah rfl ?_|refine Ae rfl ?_)
      exact ⟨(),⟨rfl,rfl,rfl,rfl,trivial⟩,hE.trans' hE2,CT hh fun x' hx'=>by rw [hx] at hx';injection hx' with hx';exact hx' ▸ hp⟩
  rintro _ w1 ⟨hE,hh⟩
  repeat (first|refine Aw ?_|refine Ah rfl ?_|refine Ae rfl ?_)
  ((repeat (first|refine Aw ?_|refine Ah rfl ?_|refine Ae rfl ?_))<;>(refine Ay rfl rfl ?_<;>(refine o_z ?_))<;>(repeat (first|refine Aw ?_|refine Ah rfl ?_|refine Ae rfl ?_)))
  refine ret1 rfl rfl ⟨.inr ⟨rfl,fun x hx=>?_⟩,hE⟩
  obtain ⟨i,hi⟩:=List.getElem?_of_mem hx
  exact hh i (BH hi) x hi
theorem containsFuncInts {w:World} {sv:Value} {xs:List (Int)} {g:FuncId} [Callable Tryz.prog g] {caps:List Value} {p:Int→Prop} (hs:V w sv xs)
    (hg:∀ v x w',x∈xs→Ext w w'→V w' v x→Fn Tryz.prog g ([v] ++ caps) w' fun r w''=>r=.bool (bof (p x))∧Ext w' w'') :
    Fn Tryz.prog 82 [sv,.func (.func g) #[] caps.toArray] w fun v w'=>v=.bool (bof (∃ x∈xs,p x))∧Ext w w':=by
  refine AQ Tryz.func82 rfl Tryz.ntmps82 rfl ?_
  ((repeat (first|refine Aw ?_|refine Ah rfl ?_|refine Ae rfl ?_))<;>(refine Ay rfl rfl ?_<;>(refine o_z ?_))<;>(repeat (first|refine Aw ?_|refine Ah rfl ?_|refine Ae rfl ?_))<;>(refine Ar rfl rfl ?_<;>refine Ar rfl rfl ?_)<;>(repeat (first|refine Aw ?_|refine Ah rfl ?_|refine Ae rfl ?_)))
  refine Bo rfl rfl (indexFuncInts hs hg) ?_
  rintro v w1 ⟨h,hE⟩
  rcases h with ⟨k,rfl,h⟩|⟨rfl,h⟩
  · ((first|refine IH rfl rfl rfl ?_|refine II rfl rfl rfl ?_)<;>refine Ay rfl rfl ?_<;>(refine o_z ?_))
    repeat (first|refine Aw ?_|refine Ah rfl ?_|refine Ae rfl ?_)
    exact ret1 rfl rfl ⟨by rw [Bl h],hE⟩
  · ((first|refine IH rfl rfl rfl ?_|refine II rfl rfl rfl ?_)<;>refine Ay rfl rfl ?_<;>(refine o_z ?_))
    repeat (first|refine Aw ?_|refine Ah rfl ?_|refine Ae rfl ?_)
    exact ret1 rfl rfl ⟨by rw [Bh (fun ⟨x,hx,hp⟩=>h x hx hp)],hE⟩
end
section
open Go Go.RowKit
attribute [local irreducible] ewp owp hwp hwq hws Ev Evg Fn retPost loud loudS Res1
def preOf (t:Tsk) (op:Int):List Fct:=match t.ops[op.toNat]? with|some o=>o.pre|none=>[]
def tests (t:Tsk) (ops:List Int) (v:Nat):Bool:=ops.any fun op=>(factOn (preOf t op) (v:Int)).isSome
def nextF (t:Tsk) (ops:List Int):Nat→Nat→Nat
  | 0,v=>v
  | k + 1,v=>if tests t ops v=true then v else nextF t ops k (v + 1)
def nextV (t:Tsk) (ops:List Int) (v:Nat):Nat:=nextF t ops (t.vars.length - v) v
def valB (t:Tsk) (u:Nat) (x:Nat) (op:Int):Bool:=match factOn (preOf t op) (u:Int) with|some f=>decide (f.val=(x:Int))|none=>false
def restB (t:Tsk) (u:Nat) (op:Int):Bool:=(factOn (preOf t op) (u:Int)).isNone
def mkT (t:Tsk):Nat→List Int→Nat→Tr
  | 0,_,_=>.nil
  | fuel + 1,ops,v =>
    if ops.isEmpty then .nil
    else if nextV t ops v=t.vars.length then .leaf ops
    else .node (nextV t ops v) (t.vars[nextV t ops v]?.getD 0).toNat (fun x=>mkT t fuel (ops.filter (valB t (nextV t ops v) x)) (nextV t ops v + 1)) (mkT t fuel (ops.filter (restB t (nextV t ops v))) (nextV t ops v + 1))
theorem GG (t:Tsk) (ops:List Int):∀ (k v:Nat),v≤nextF t ops k v∧nextF t ops k v≤v + k∧(∀ u,v≤u→u < nextF t ops k v→tests t ops u=false)∧(nextF t ops k v < v + k→tests t ops (nextF t ops k v)=true)
  | 0,v=>by simp [nextF];intro u h1 h2;omega
  | k + 1,v=>by
    by_cases h:tests t ops v=true
    · simp only [nextF,h,if_true]
      exact ⟨Nat.le_refl _,by omega,fun u h1 h2=>by omega,fun _=>trivial⟩
    · obtain ⟨h1,h2,h3,h4⟩:=GG t ops k (v + 1)
      simp only [nextF,h]
      refine ⟨by simp;omega,by simp;omega,fun u hu1 hu2=>?_,fun hlt=>h4 (by simp at hlt;omega)⟩
      by_cases he:u=v
      · subst he;simpa using h
      · exact h3 u (by omega) (by simpa using hu2)
theorem Np (t:Tsk) (ops:List Int) {v u:Nat} (h1:v≤u) (h2:u≤t.vars.length) (h3:∀ x,v≤x→x < u→tests t ops x=false) (h4:u < t.vars.length→tests t ops u=true):nextV t ops v=u:=by
  obtain ⟨g1,g2,g3,g4⟩:=GG t ops (t.vars.length - v) v
  unfold nextV
  rcases Nat.lt_trichotomy (nextF t ops (t.vars.length - v) v) u with h|h|h
  · have:=h3 _ g1 h
    rw [g4 (by omega)] at this;cases this
  · exact h
  · have:=g3 u h1 h
    rw [h4 (by omega)] at this;cases this
def OpsIn (t:Tsk) (ops:List Int):Prop:=∀ op∈ops,0≤op∧op < t.ops.length
def FitsVals (t:Tsk):Prop:=∀ (i:Nat) o,t.ops[i]?=some o→∀ (v:Nat) f,factOn o.pre (v:Int)=some f→v < t.vars.length→0≤f.val∧∃ n,t.vars[v]?=some n∧f.val < n
structure ByInv (w:World) (base gby:Nat) (vals:List Value) (rv:Value) (L:Nat→List Int) (R:List Int) (m:Nat):Prop where
  len:vals.length=m
  blk:Blk w gby 22 vals
  own:∀ (i:Nat) (u:Value),vals[i]?=some u→Own w base (fun _=>False) 3 u (L i)
  rest:Own w base (fun _=>False) 3 rv R
  apart:∀ (i j:Nat) (u u':Value),i≠j→vals[i]?=some u→vals[j]?=some u'→∀ g,u.ownBlock=some g→u'.ownBlock≠some g
  apartR:∀ (i:Nat) (u:Value),vals[i]?=some u→∀ g,u.ownBlock=some g→rv.ownBlock≠some g
theorem ByInv.ext {w w':World} {base gby:Nat} {vals:List Value} {rv:Value} {L:Nat→List Int} {R:List Int} {m:Nat} (h:ByInv w base gby vals rv L R m) (hE:Ext w w'):ByInv w' base gby vals rv L R m :=
  ⟨h.len,h.blk.ext hE,fun i u hu=>(h.own i u hu).ext hE fun _ hk=>hk.elim,h.rest.ext hE fun _ hk=>hk.elim,h.apart,h.apartR⟩
theorem ByInv.putRest {w w':World} {base gby:Nat} {vals:List Value} {rv rv':Value} {L:Nat→List Int} {R R':List Int} {m:Nat} (h:ByInv w base gby vals rv L R m) (hK:Kept w w' rv) (ho:Own w' base (fun _=>False) 3 rv' R')
    (hat:rv'.ownBlock=rv.ownBlock∨∃ g,rv'.ownBlock=some g∧w.heap.size≤g):ByInv w' base gby vals rv' L R' m:=by
  refine ⟨h.len,hK.blk h.blk (h.rest.blk_ne h.blk (by decide)),fun i u hu=>(h.own i u hu).kept hK (fun _ hk=>hk.elim) (h.apartR i u hu),ho,h.apart,fun i u hu g hg he=>?_⟩
  rcases hat with hat|⟨g',hat,hge⟩
  · exact h.apartR i u hu g hg (hat ▸ he)
  · have:=((h.own i u hu).lt g hg).2
    rw [hat] at he;injection he with he;omega
theorem ByInv.putVal {w w' w'':World} {base gby:Nat} {vals:List Value} {rv u v':Value} {L:Nat→List Int} {R:List Int} {m i:Nat} {xs:List Int} (h:ByInv w base gby vals rv L R m) (hu:vals[i]?=some u) (hK:Kept w w' u) (ho:Own w' base (fun _=>False) 3 v' xs)
    (hat:v'.ownBlock=u.ownBlock∨∃ g,v'.ownBlock=some g∧w.heap.size≤g) (hU:Upd w' w'' gby 22 (vals.set i v')):ByInv w'' base gby (vals.set i v') rv (fun j=>if j=i then xs else L j) R m:=by
  have hi:i < vals.length:=(List.getElem?_eq_some_iff.1 hu).1
  have key:∀ {v:Value} {ys:List Int},Own w' base (fun _=>False) 3 v ys→Own w'' base (fun _=>False) 3 v ys:=fun hv=>by
    have hne:=hv.blk_ne (hK.blk h.blk ((h.own i u hu).blk_ne h.blk (by decide))) (by decide)
    exact hv.agree (fun _ hk=>hk.elim) fun g hg=>hU.other g fun he=>hne (he ▸ hg)
  have sep:∀ {y:Value} {ys:List Int},Own w base (fun _=>False) 3 y ys→(∀ g,u.ownBlock=some g→y.ownBlock≠some g)→∀ g,v'.ownBlock=some g→y.ownBlock≠some g:=fun hy hsep g hg he=>by
    rcases hat with hat|⟨g',hat,hge⟩
    · exact hsep g (hat ▸ hg) he
    · have:=(hy.lt g he).2
      rw [hat] at hg;injection hg with hg;omega
  refine ⟨by rw [List.length_set];exact h.len,hU.blk,fun j y hy=>?_,key (h.rest.kept hK (fun _ hk=>hk.elim) fun g hg he=>h.apartR i u hu g he hg),fun j k y y' hjk hy hy' g hg=>?_,fun j y hy g hg=>?_⟩
  · by_cases hj:j=i
    · subst hj
      rw [List.getElem?_set_self hi] at hy
      injection hy with hy;subst hy
      rw [if_pos rfl];exact key ho
    · rw [List.getElem?_set_ne (Ne.symm hj)] at hy
      rw [if_neg hj]
      exact key ((h.own j y hy).kept hK (fun _ hk=>hk.elim) (h.apart j i y u hj hy hu))
  · by_cases hj:j=i
    · subst hj
      rw [List.getElem?_set_self hi] at hy
      injection hy with hy;subst hy
      rw [List.getElem?_set_ne hjk] at hy'
      exact sep (h.own k y' hy') (h.apart j k u y' hjk hu hy') g hg
    · rw [List.getElem?_set_ne (Ne.symm hj)] at hy
      by_cases hk:k=i
      · subst hk
        rw [List.getElem?_set_self hi] at hy'
        injection hy' with hy';subst hy'
        intro he
        exact sep (h.own j y hy) (h.apart k j u y (Ne.symm hj) hu hy) g he hg
      · rw [List.getElem?_set_ne (Ne.symm hk)] at hy'
        exact h.apart j k y y' hjk hy hy' g hg
  · by_cases hj:j=i
    · subst hj
      rw [List.getElem?_set_self hi] at hy
      injection hy with hy;subst hy
      exact sep h.rest (h.apartR j u hu) g hg
    · rw [List.getElem?_set_ne (Ne.symm hj)] at hy
      exact h.apartR j y hy g hg
instance:Rp Tr where
  isAgg:=false
  size:=1
  R w F cs T:=∃ q,cs=[.pointer q]∧TrR w F T (.pointer q)
  len:=by rintro w F cs x ⟨v,rfl,_⟩;rfl
  one:=by rintro w F cs x ⟨v,rfl,h⟩ u hu;simp at hu;subst hu;rfl
  agree:=by rintro w w' F cs x ⟨v,rfl,h⟩ ha;exact ⟨v,rfl,TrR.agree ha h⟩
  mono:=by rintro w F G cs x ⟨v,rfl,h⟩ ha;exact ⟨v,rfl,TrR.mono ha h⟩
def more (F:Nat→Prop) (w w':World):Nat→Prop:=fun k=>F k∨w.heap.size≤k∧k < w'.heap.size
theorem Ff {p:Int→Bool} {l:List Int} {k:Nat} {x:Int} (h:l[k]?=some x):(l.take (k + 1)).filter p=(l.take k).filter p ++ if p x=true then [x] else []:=by
  rw [List.take_add_one,h,List.filter_append]
  cases hp:p x<;>simp [hp]
theorem MC (n:Nat):(madeCells (Value.slice none 0 0).cells (n * 1)).toList=List.replicate n (.slice none 0 0):=KA _ n rfl
theorem genBuild (t:Tsk) (hdom:VarsOk t) (hfv:FitsVals t) (hvl:t.vars.length≤64):∀ (fuel:Nat) (w:World) (gv opsv:Value) (ops:List Int) (v:Nat) (F:Nat→Prop),GenB w (All w) gv t→Vb w F opsv ops→(∀ k,F k→k < w.heap.size)→OpsIn t ops→ops.length≤4096 →
    v≤t.vars.length→t.vars.length < fuel + v→Fn Tryz.prog 56 [gv,opsv,.int .i64 (v:Int)] w fun p w'=>TrR w' (more F w w') (mkT t fuel ops v) p∧Ext w w':=by
  intro fuel
  induction fuel with
  | zero=>intro w gv opsv ops v F _ _ _ _ _ h1 h2;omega
  | succ fuel ih =>
    intro w gv opsv ops v F hg0 hops hF hin hlen hvn hfuel
    obtain ⟨gb,a,b,c,d,rp,rfl,hgb,hbg,hvars,hinit,hgoal,hopsv⟩:=id hg0
    obtain ⟨Av,cv,rfl⟩:=hvars.form
    obtain ⟨Ax,cx,rfl⟩:=hops.form
    refine AQ Tryz.func56 rfl Tryz.ntmps56 rfl ?_
    repeat (first|refine Aw ?_|refine Ah rfl ?_|refine Ae rfl ?_)
    refine DI rfl rfl fun w1 hN1=>?_
    refine DI rfl rfl fun w2 hN2=>?_
    have hE2:Ext w w2:=hN1.ext.trans' hN2.ext
    have hb1:Blk w2 w.heap.size 60 [.pointer (some ⟨gb,0,none⟩)]:=hN1.blk.ext hN2.ext
    have hb2:Blk w2 w1.heap.size 3 [.int .i64 (v:Int)]:=hN2.blk
    have hg12:w1.heap.size≠w.heap.size:=by rw [hN1.size];omega
    have hg2w:w.heap.size≤w1.heap.size:=hN1.ext.size
    have hz1:w1.heap.size=w.heap.size + 1:=hN1.size
    have hz2:w2.heap.size=w1.heap.size + 1:=hN2.size
    (refine Ay rfl rfl ?_<;>(refine o_z ?_))
    repeat (first|refine Aw ?_|refine Ah rfl ?_|refine Ae rfl ?_)
    by_cases hemp:ops.length=0
    · have:ops=[]:=List.eq_nil_of_length_eq_zero hemp
      subst this
      ((repeat (first|refine Aw ?_|refine Ah rfl ?_|refine Ae rfl ?_))<;>(refine Ar rfl rfl ?_<;>refine Bj rfl rfl ?_<;>(first|refine LQ rfl rfl rfl ?_|refine LR rfl rfl rfl ?_)<;>(refine o_z ?_))<;>(repeat (first|refine Aw ?_|refine Ah rfl ?_|refine Ae rfl ?_))<;>(refine Ay rfl rfl ?_<;>(refine o_z ?_))<;>(repeat (first|refine Aw ?_|refine Ah rfl ?_|refine Ae rfl ?_)))
      exact ret1 rfl rfl ⟨rfl,hE2⟩
    have hemp':ops.isEmpty=false:=by cases ops<;>simp at *
    (refine Ar rfl rfl ?_<;>refine Bj rfl rfl ?_<;>(first|refine LQ rfl rfl rfl ?_|refine LR rfl rfl rfl ?_)<;>(refine o_z ?_))
    refine Ae rfl (AZ ?_)
    refine Lp (fun l' w'=>∃ u:Nat,subs l' [(1,.slice Ax ops.length cx),(3,.pointer (some ⟨w.heap.size,0,none⟩)),(5,.pointer (some ⟨w1.heap.size,0,none⟩))]∧Ext w w'∧Blk w' w.heap.size 60 [.pointer (some ⟨gb,0,none⟩)]∧Blk w' w1.heap.size 3 [.int .i64 (u:Int)] ∧
      v≤u∧u≤t.vars.length∧(∀ x,v≤x→x < u→tests t ops x=false)∧(u < t.vars.length→tests t ops u=true)) ?_ ?_
    · repeat (first|refine Aw ?_|refine Ah rfl ?_|refine Ae rfl ?_)
      refine EI (fun _:Nat=>[(1,.slice Ax ops.length cx),(3,.pointer (some ⟨w.heap.size,0,none⟩)),(5,.pointer (some ⟨w1.heap.size,0,none⟩))]) (fun u w'=>Ext w w'∧Blk w' w.heap.size 60 [.pointer (some ⟨gb,0,none⟩)]∧Blk w' w1.heap.size 3 [.int .i64 (u:Int)] ∧
        v≤u∧u≤t.vars.length∧∀ x,v≤x→x < u→tests t ops x=false) (fun u=>t.vars.length - u) v ⟨hE2,hb1,hb2,Nat.le_refl _,hvn,fun x h1 h2=>by omega⟩ ⟨rfl,rfl,rfl,trivial⟩ ?_
      rintro u w3 ⟨hE3,hb1,hb2,hvu,hun,hno⟩
      have hb3:=hbg.ext hE3
      repeat (first|refine Aw ?_|refine Ah rfl ?_|refine Ae rfl ?_)
      refine Cu (Ext w3) [(0,true),(1,true),(2,true),(3,true),(4,true),(5,true),(6,true),(7,true),(8,true),(9,true),(10,true),(11,false),(12,true),(13,true)] (by kernel_rfl) rfl (by kernel_rfl) (Below.refl _ _) ?_
      by_cases hlt:u < t.vars.length
      · (refine Fx rfl rfl rfl ?_<;>refine Fx rfl rfl rfl ?_<;>refine Dd rfl rfl rfl ?_<;>refine AJ rfl rfl rfl ?_<;>refine AJ rfl rfl rfl ?_<;>refine Fx rfl rfl rfl ?_<;>refine Ib rfl rfl rfl ?_<;>(first|refine HF rfl rfl rfl rfl ?_|refine HG rfl rfl rfl rfl ?_|refine FT rfl rfl rfl rfl (fun _=>?_) fun _=>?_)<;>refine AW rfl rfl rfl ?_<;>(refine AK rfl ?_;(first|(refine AH rfl rfl ?_;refine Eh rfl rfl ?_)|refine AT rfl rfl rfl rfl ?_))<;>(refine AK rfl ?_;(first|(refine AH rfl rfl ?_;refine Pt rfl rfl rfl ?_)|refine AT rfl rfl rfl rfl ?_)))
        refine BE rfl ?_
        refine AE rfl rfl ?_
        have hV3:V w3 (.slice Ax ops.length cx) ops:=Vb.mono (Vb.agree hops (hE3.agree hF)) fun k hk=>Nat.lt_of_lt_of_le (hF k hk) hE3.size
        have hex:(∃ x∈ops,(factOn (preOf t x) (u:Int)).isSome=true)↔tests t ops u=true:=by unfold tests;rw [List.any_eq_true]
        refine Ek rfl rfl (containsFuncInts (g:=83) (caps:=[.pointer (some ⟨w.heap.size,0,none⟩),.pointer (some ⟨w1.heap.size,0,none⟩)]) (p:=fun op=>(factOn (preOf t op) (u:Int)).isSome=true) hV3 ?_) ?_ ?_
        · intro vx x w' hx hE' hvx
          obtain ⟨hvx,_⟩:=hvx
          obtain rfl:vx=.int .i64 x:=by simpa using hvx
          obtain ⟨hx0,hx1⟩:=hin x hx
          obtain ⟨j,rfl⟩:=Int.eq_ofNat_of_zero_le hx0
          obtain ⟨o,ho⟩:=AN (l:=t.ops) (k:=j) (by omega)
          refine (genBuild1 (hg0.ext (hE3.trans' hE')) ho (hb1.ext hE') (hb2.ext hE')).mono fun r w'' ⟨hr,hE''⟩=>⟨?_,hE''⟩
          rw [hr,Fw]
          simp [preOf,ho]
        · intro w4 hp hE4
          refine Ca hE4 ?_
          ((refine AK rfl ?_;(first|(refine AH rfl rfl ?_;(first|refine Jg rfl rfl ?_|refine Jh rfl rfl ?_|refine Nj rfl rfl ?_))|refine AT rfl rfl rfl rfl ?_))<;>(first|refine Dp rfl rfl rfl rfl ?_|refine CS rfl rfl rfl rfl ?_)<;>(refine h_z ?_))
          repeat (first|refine Aw ?_|refine Ah rfl ?_|refine Ae rfl ?_)
          exact ⟨u,⟨rfl,rfl,rfl,trivial⟩,hE3.trans' hE4,hb1.ext hE4,hb2.ext hE4,hvu,hun,hno,fun _=>hex.1 hp⟩
        · intro w4 hp hE4
          refine Ca hE4 ?_
          ((refine AK rfl ?_;(first|(refine AH rfl rfl ?_;(first|refine Jg rfl rfl ?_|refine Jh rfl rfl ?_|refine Nj rfl rfl ?_))|refine AT rfl rfl rfl rfl ?_))<;>(first|refine Dp rfl rfl rfl rfl ?_|refine CS rfl rfl rfl rfl ?_)<;>(refine h_z ?_))
          repeat (first|refine Aw ?_|refine Ah rfl ?_|refine Ae rfl ?_)
          replace hb1:=hb1.ext hE4
          replace hb2:=hb2.ext hE4
          (refine AP rfl rfl ?_<;>(first|refine Hh rfl rfl ?_|refine Hg rfl rfl rfl ?_))
          refine BT rfl rfl hb2 rfl (Nat.le_refl _) (by simp [Value.cells,Value.oneCell']) fun w5 hU=>?_
          ((refine o_z ?_))
          refine ⟨u + 1,⟨rfl,rfl,rfl,trivial⟩,⟨(hE3.trans' hE4).trans (hU.below hg2w),hb1.keep (hU.other _ (fun h=>hg12 h.symm)),hU.blk,by omega,by omega,fun x h1 h2=>?_⟩,by omega⟩
          by_cases he:x=u
          · subst he
            cases hq:tests t ops x
            · rfl
            · exact absurd (hex.2 hq) hp
          · exact hno x h1 (by omega)
      · (refine Fx rfl rfl rfl ?_<;>refine Fx rfl rfl rfl ?_<;>refine Dd rfl rfl rfl ?_<;>refine AJ rfl rfl rfl ?_<;>refine AJ rfl rfl rfl ?_<;>refine Fx rfl rfl rfl ?_<;>refine Ib rfl rfl rfl ?_<;>(first|refine HF rfl rfl rfl rfl ?_|refine HG rfl rfl rfl rfl ?_|refine FT rfl rfl rfl rfl (fun _=>?_) fun _=>?_)<;>refine AW rfl rfl rfl ?_<;>(refine AK rfl ?_;(first|(refine AH rfl rfl ?_;refine Eh rfl rfl ?_)|refine AT rfl rfl rfl rfl ?_))<;>(refine AK rfl ?_;(first|(refine AH rfl rfl ?_;refine Pt rfl rfl rfl ?_)|refine AT rfl rfl rfl rfl ?_)))
        refine BE rfl ?_
        refine AC rfl rfl rfl rfl ?_
        refine Ca (Below.refl _ _) ?_
        ((refine AK rfl ?_;(first|(refine AH rfl rfl ?_;(first|refine Jg rfl rfl ?_|refine Jh rfl rfl ?_|refine Nj rfl rfl ?_))|refine AT rfl rfl rfl rfl ?_))<;>(first|refine Dp rfl rfl rfl rfl ?_|refine CS rfl rfl rfl rfl ?_)<;>(refine h_z ?_))
        repeat (first|refine Aw ?_|refine Ah rfl ?_|refine Ae rfl ?_)
        exact ⟨u,⟨rfl,rfl,rfl,trivial⟩,hE3,hb1,hb2,hvu,hun,hno,fun h=>absurd h hlt⟩
    rintro l' w3 ⟨u,hsub,hE3,hb1,hb2,hvu,hun,hno,hyes⟩
    refine Bc _ hsub ?_
    clear hsub
    have hnx:nextV t ops v=u:=Np t ops hvu hun hno hyes
    have hb3:=hbg.ext hE3
    have hV3:Vb w3 F (.slice Ax ops.length cx) ops:=Vb.agree hops (hE3.agree hF)
    repeat (first|refine Aw ?_|refine Ah rfl ?_|refine Ae rfl ?_)
    refine Cu (·=w3) [(0,true),(1,true),(2,true),(3,true),(4,true),(5,true),(6,true),(7,true)] (by kernel_rfl) rfl (by kernel_rfl) rfl ?_
    by_cases hlast:u=t.vars.length
    · (refine CW rfl rfl rfl ?_<;>refine CW rfl rfl rfl ?_<;>refine Dd rfl rfl rfl ?_<;>refine AJ rfl rfl rfl ?_<;>refine AJ rfl rfl rfl ?_<;>refine CW rfl rfl rfl ?_<;>refine Ib rfl rfl rfl ?_<;>(first|refine Oa rfl rfl rfl rfl ?_|refine Oc rfl rfl rfl rfl ?_|refine Od rfl rfl rfl rfl (fun _=>?_) fun _=>?_)<;>(refine h_z ?_))<;>(repeat (first|refine Aw ?_|refine Ah rfl ?_|refine Ae rfl ?_))
      (refine Ar rfl rfl ?_<;>refine CG rfl rfl rfl ?_)
      refine DI rfl rfl fun w4 hN4=>?_
      (refine Ay rfl rfl ?_<;>(refine o_z ?_))
      repeat (first|refine Aw ?_|refine Ah rfl ?_|refine Ae rfl ?_)
      have hE4:Ext w w4:=hE3.trans' hN4.ext
      have hT:mkT t (fuel + 1) ops v=.leaf ops:=by simp only [mkT,hemp',hnx,hlast];simp
      rw [hT]
      refine ret1 rfl rfl ⟨⟨w3.heap.size,.slice Ax ops.length cx,rfl,.inr ⟨hE3.size,hN4.blk.lt⟩,hN4.blk,?_⟩,hE4⟩
      exact Vb.mono (Vb.agree hV3 (hN4.ext.agree fun k hk=>Nat.lt_of_lt_of_le (hF k hk) hE3.size)) fun k hk=>.inl hk
    have hun':u < t.vars.length:=by omega
    obtain ⟨n,hn⟩:=AN hun'
    have hn1:=hdom u n hn
    obtain ⟨m,rfl⟩:=Int.eq_ofNat_of_zero_le (show 0≤n by omega)
    have hT:mkT t (fuel + 1) ops v=.node u m (fun x=>mkT t fuel (ops.filter (valB t u x)) (u + 1)) (mkT t fuel (ops.filter (restB t u)) (u + 1)):=by
      simp only [mkT,hemp',hnx,hlast,hn];simp
    rw [hT]
    clear hT hnx
    (refine CW rfl rfl rfl ?_<;>refine CW rfl rfl rfl ?_<;>refine Dd rfl rfl rfl ?_<;>refine AJ rfl rfl rfl ?_<;>refine AJ rfl rfl rfl ?_<;>refine CW rfl rfl rfl ?_<;>refine Ib rfl rfl rfl ?_<;>(first|refine Oa rfl rfl rfl rfl ?_|refine Oc rfl rfl rfl rfl ?_|refine Od rfl rfl rfl rfl (fun _=>?_) fun _=>?_)<;>(refine h_z ?_))<;>(repeat (first|refine Aw ?_|refine Ah rfl ?_|refine Ae rfl ?_))
    obtain ⟨bv,ov,ce,rfl,hbv,_,hdv,rfl,_⟩:=hvars.elem hn
    refine Cu (Ext w3) [(0,true),(1,true),(2,true),(3,true),(4,true),(5,true),(6,true),(7,true),(8,false),(9,true)] (by kernel_rfl) rfl (by kernel_rfl) (Below.refl _ _) ?_
    have hb1s:=hb1
    have hb2s:=hb2
    replace hb1:∀ w',Ext w3 w'→Blk w' w.heap.size 60 [.pointer (some ⟨gb,0,none⟩)]:=fun w' h=>hb1s.ext h
    replace hb2:∀ w',Ext w3 w'→Blk w' w1.heap.size 3 [.int .i64 (u:Int)]:=fun w' h=>hb2s.ext h
    have hb3s:=hb3
    replace hb3:∀ w',Ext w3 w'→Blk w' gb 107 [.slice (some ⟨bv,ov,none⟩) t.vars.length cv,b,c,d,.pointer rp]:=fun w' h=>hb3s.ext h
    have hd1:∀ w',Ext w3 w'→cellsAt w' bv (ov + u * 1) [.int .i64 (m:Int)]:=fun w' h=>Hc hdv hbv (hE3.trans' h)
    ((first|refine DU rfl rfl rfl ?_|refine Bb rfl rfl rfl ?_)<;>refine Dd rfl rfl rfl ?_<;>refine AJ rfl rfl rfl ?_<;>refine AJ rfl rfl rfl ?_<;>(first|refine DU rfl rfl rfl ?_|refine Bb rfl rfl rfl ?_)<;>(first|refine DU rfl rfl rfl ?_|refine Bb rfl rfl rfl ?_)<;>refine Ic rfl rfl rfl rfl ?_<;>(first|refine DU rfl rfl rfl ?_|refine Bb rfl rfl rfl ?_))
    refine BE rfl ?_
    refine HY rfl rfl (by omega) (by omega) rfl fun w4 hN4=>?_
    refine Ca hN4.ext ?_
    (refine EC rfl rfl rfl ?_<;>(refine h_z ?_))
    have hE4:Ext w w4:=hE3.trans' hN4.ext
    have hw23:w2.heap.size≤w3.heap.size:=by have:=hb2s.lt;omega
    replace hb1:=hb1s.ext hN4.ext
    replace hb2:=hb2s.ext hN4.ext
    clear hb3 hd1
    repeat (first|refine Aw ?_|refine Ah rfl ?_|refine Ae rfl ?_)
    ((repeat (first|refine Aw ?_|refine Ah rfl ?_|refine Ae rfl ?_))<;>(refine Ay rfl rfl ?_<;>(refine o_z ?_))<;>(repeat (first|refine Aw ?_|refine Ah rfl ?_|refine Ae rfl ?_))<;>(refine Ar rfl rfl ?_<;>refine Bj rfl rfl ?_<;>refine Ar rfl rfl ?_<;>(refine o_z ?_))<;>(repeat (first|refine Aw ?_|refine Ah rfl ?_|refine Ae rfl ?_)))
    have hby0:ByInv w4 w2.heap.size w3.heap.size (List.replicate m (.slice none 0 0)) (.slice none 0 0) (fun i=>((ops.take 0).filter (valB t u i))) ((ops.take 0).filter (restB t u)) m:=by
      have hget:∀ (i:Nat) (x:Value),(List.replicate m (Value.slice none 0 0))[i]?=some x→x=.slice none 0 0:=fun i x h=>by
        rw [List.getElem?_replicate] at h;split at h<;>simp at h;exact h.symm
      refine ⟨by simp,by have:=hN4.blk;rwa [MC] at this,fun i x h=>?_,by simpa using Own.nil _ _ _ _,fun i j x y _ hx _ g hg=>?_,fun i x hx g hg=>?_⟩
      · rw [hget i x h];simpa using Own.nil _ _ _ _
      · rw [hget i x hx] at hg;simp [Value.ownBlock] at hg
      · rw [hget i x hx] at hg;simp [Value.ownBlock] at hg
    refine BU ops.length (by omega) (fun x:List Value×Value=>[(1,.slice Ax ops.length cx),(3,.pointer (some ⟨w.heap.size,0,none⟩)),(5,.pointer (some ⟨w1.heap.size,0,none⟩)),(7,.slice (some ⟨w3.heap.size,0,none⟩) m m),(8,x.2),(55,.slice Ax ops.length cx)])
      (fun k x w'=>Ext w w'∧Blk w' w.heap.size 60 [.pointer (some ⟨gb,0,none⟩)]∧Blk w' w1.heap.size 3 [.int .i64 (u:Int)]∧ByInv w' w2.heap.size w3.heap.size x.1 x.2 (fun i=>((ops.take k).filter (valB t u i))) ((ops.take k).filter (restB t u)) m) (List.replicate m (.slice none 0 0),.slice none 0 0)
      ⟨hE4,hb1,hb2,hby0⟩ ⟨rfl,rfl,rfl,rfl,rfl,rfl,rfl,rfl,trivial⟩ (fun _=>⟨rfl,rfl⟩) ⟨rfl,rfl,rfl⟩ ⟨rfl,rfl⟩ ?_ ?_
    · rintro k ⟨vals,rv⟩ w5 hk ⟨hE5,hb1,hb2,hby⟩
      dsimp only at hby
      obtain ⟨x,hx⟩:=AN hk
      obtain ⟨hx0,hx1⟩:=hin x (List.mem_of_getElem? hx)
      obtain ⟨j,rfl⟩:=Int.eq_ofNat_of_zero_le hx0
      obtain ⟨o,ho⟩:=AN (l:=t.ops) (k:=j) (by omega)
      have hpre:preOf t (j:Int)=o.pre:=by simp [preOf,ho]
      obtain ⟨b2,o2,ce,rfl,hbF,_,hd0,rfl,hxin⟩:=hops.elem hx
      have hd1:=Hc hd0 (hF _ hbF) hE5
      ((repeat (first|refine Aw ?_|refine Ah rfl ?_|refine Ae rfl ?_))<;>(refine CY rfl rfl rfl ?_<;>refine AP rfl rfl ?_<;>refine Ay rfl rfl ?_<;>(refine o_z ?_))<;>(repeat (first|refine Aw ?_|refine Ah rfl ?_|refine Ae rfl ?_))<;>(refine AP rfl rfl ?_<;>refine Ar rfl rfl ?_<;>refine AP rfl rfl ?_)<;>(repeat (first|refine Aw ?_|refine Ah rfl ?_|refine Ae rfl ?_)))
      refine Bo rfl rfl (genFact (hg0.ext hE5) ho) ?_
      rintro _ w6 ⟨rfl,hE6⟩
      replace hb1:=hb1.ext hE6
      replace hb2:=hb2.ext hE6
      replace hby:=hby.ext hE6
      have hE06:Ext w w6:=hE5.trans' hE6
      have hkl:((ops.take k).filter (restB t u)).length≤4096:=Nat.le_trans (List.length_filter_le _ _) (by rw [List.length_take];omega)
      cases hf:factOn o.pre (u:Int) with
      | none =>
        simp only [factV]
        (refine Ar rfl rfl ?_<;>refine Cy rfl rfl rfl ?_<;>refine Cy rfl rfl rfl ?_)
        refine Ce rfl rfl rfl (by simp [Value.cells,Value.oneCell']) fun w7 hN7=>?_
        replace hb1:=hb1.ext hN7.ext
        replace hb2:=hb2.ext hN7.ext
        replace hby:=hby.ext hN7.ext
        have hE7:Ext w w7:=hE06.trans' hN7.ext
        (refine Ay rfl rfl ?_<;>(refine o_z ?_))
        repeat (first|refine Aw ?_|refine Ah rfl ?_|refine Ae rfl ?_)
        ((repeat (first|refine Aw ?_|refine Ah rfl ?_|refine Ae rfl ?_))<;>(refine Ar rfl rfl ?_<;>(refine o_z ?_))<;>(repeat (first|refine Aw ?_|refine Ah rfl ?_|refine Ae rfl ?_)))
        (refine Ar rfl rfl ?_<;>refine Ar rfl rfl ?_)
        have hl2:=hb2.lt
        refine Ko (a:=(j:Int)) rfl rfl rfl hby.rest (fun _ h=>h.elim) (by omega) ⟨rfl,hxin⟩ (by decide) (by decide) (by omega) (by omega) ⟨rfl,rfl⟩ fun rv' w8 ho8 hK8 hat=>?_
        have hB8:Below w2.heap.size w7 w8:=hby.rest.fits (Nat.le_refl _) (by omega) hK8
        have hby8:=hby.putRest hK8 ho8 hat
        (refine Ay rfl rfl ?_<;>(refine o_z ?_))
        repeat (first|refine Aw ?_|refine Ah rfl ?_|refine Ae rfl ?_)
        refine ⟨(vals,rv'),⟨rfl,rfl,rfl,rfl,rfl,rfl,rfl,rfl,trivial⟩,hE7.trans (hB8.mono (by omega)),hb1.keep (hB8.block _ (by omega)),hb2.keep (hB8.block _ (by omega)),?_⟩
        have e1:∀ i,(ops.take (k + 1)).filter (valB t u i)=(ops.take k).filter (valB t u i):=fun i=>by rw [Ff hx];simp [valB,hpre,hf]
        have e2:(ops.take (k + 1)).filter (restB t u)=(ops.take k).filter (restB t u) ++ [(j:Int)]:=by rw [Ff hx];simp [restB,hpre,hf]
        dsimp only
        rw [e2]
        simp only [e1]
        exact hby8
      | some f =>
        obtain ⟨hf0,n',hn',hf1⟩:=hfv j o ho u f hf hun'
        rw [hn] at hn';injection hn' with hn';subst hn'
        obtain ⟨x0,hj1⟩:=Int.eq_ofNat_of_zero_le hf0
        have hx0m:x0 < m:=by omega
        obtain ⟨u0,hu0⟩:=AN (l:=vals) (k:=x0) (by rw [hby.len];exact hx0m)
        simp only [factV]
        (refine Ar rfl rfl ?_<;>refine Cy rfl rfl rfl ?_<;>refine Cy rfl rfl rfl ?_)
        refine Ce rfl rfl rfl (by simp [Value.cells,Value.oneCell']) fun w7 hN7=>?_
        replace hb1:=hb1.ext hN7.ext
        replace hb2:=hb2.ext hN7.ext
        replace hby:=hby.ext hN7.ext
        have hE7:Ext w w7:=hE06.trans' hN7.ext
        have hbf:=hN7.blk
        (refine Ay rfl rfl ?_<;>(refine o_z ?_))
        repeat (first|refine Aw ?_|refine Ah rfl ?_|refine Ae rfl ?_)
        ((repeat (first|refine Aw ?_|refine Ah rfl ?_|refine Ae rfl ?_))<;>(refine Ar rfl rfl ?_<;>(refine o_z ?_))<;>(repeat (first|refine Aw ?_|refine Ah rfl ?_|refine Ae rfl ?_)))
        have hl2:=hb2.lt
        have hown0:=hby.own x0 u0 hu0
        have hkl0:((ops.take k).filter (valB t u x0)).length≤4096:=Nat.le_trans (List.length_filter_le _ _) (by rw [List.length_take];omega)
        refine Cu (fun w'=>Blk w' w6.heap.size 45 [.int .i64 f.var,.int .i64 f.val]∧Blk w' w3.heap.size 22 vals) [(0,true),(1,true),(2,true),(3,true),(4,true),(5,true),(6,true),(7,true),(8,true),(9,false),(10,false),(11,true),(12,false)] (by kernel_rfl) rfl (by kernel_rfl) ⟨hbf,hby.blk⟩ ?_
        have hb1s:=hb1
        have hb2s:=hb2
        clear hb2
        replace hb1:∀ w',(Blk w' w6.heap.size 45 [.int .i64 f.var,.int .i64 f.val]∧Blk w' w3.heap.size 22 vals)→Blk w' w6.heap.size 45 [.int .i64 f.var,.int .i64 f.val]:=fun _ h=>h.1
        have hc1:∀ w',(Blk w' w6.heap.size 45 [.int .i64 f.var,.int .i64 f.val]∧Blk w' w3.heap.size 22 vals)→w'.cell? ⟨w3.heap.size,0 + x0 * 1,none⟩=some u0:=fun _ h=>h.2.cell (by rw [Nat.zero_add,Nat.mul_one];exact hu0)
        (refine AW rfl rfl rfl ?_<;>refine AJ rfl rfl rfl ?_<;>(first|refine DU rfl rfl rfl ?_|refine Bb rfl rfl rfl ?_)<;>refine AW rfl rfl rfl ?_<;>refine AJ rfl rfl rfl ?_<;>(first|refine DU rfl rfl rfl ?_|refine Bb rfl rfl rfl ?_)<;>refine Ic rfl rfl rfl rfl ?_<;>(first|refine DU rfl rfl rfl ?_|refine Bb rfl rfl rfl ?_)<;>refine AW rfl rfl rfl ?_)
        refine BE rfl ?_
        refine Ds rfl rfl rfl (by simp [Value.cells]) (by decide) rfl fun w8 hN8=>?_
        refine Ca ⟨hbf.ext hN8.ext,hby.blk.ext hN8.ext⟩ ?_
        refine BE rfl ?_
        refine Em (α:=Int) (A:=some ⟨w7.heap.size,0,none⟩) (c:=1) (ys:=[(j:Int)]) (cells:=[.int .i64 (j:Int)]) rfl rfl (hown0.ext hN8.ext fun _ h=>h.elim) (fun _ h=>h.elim) (by have:=hN8.size;omega) (.single ⟨rfl,hxin⟩) (fun _=>⟨_,_,rfl,hN8.blk.cellsAt⟩) (by decide) (by rw [List.length_singleton];omega) (by rw [List.length_singleton];omega) rfl fun v' w9 ho9 hg9 hat=>?_
        have hK9:Kept w7 w9 u0:=⟨hg9.os.trans hN8.ext.os,hg9.tape.trans hN8.ext.tape,hg9.output.trans hN8.ext.output,Nat.le_trans hN8.ext.size hg9.size,fun k hk hne=>by rw [hg9.block k (Nat.lt_of_lt_of_le hk hN8.ext.size) (fun he=>hne he.symm),hN8.ext.block k hk]⟩
        have hbf9:=hK9.blk hbf (hown0.blk_ne hbf (by decide))
        have hby9:=hK9.blk hby.blk (hown0.blk_ne hby.blk (by decide))
        have hB9:Below w2.heap.size w7 w9:=hown0.fits (Nat.le_refl _) (by omega) hK9
        refine Ca ⟨hbf9,hby9⟩ ?_
        (refine Ic rfl rfl rfl rfl ?_)
        refine BE rfl ?_
        obtain ⟨A9,c9,rfl⟩:=ho9.form
        refine BT (g:=w3.heap.size) (o:=0 + x0 * 1) rfl rfl hby9 rfl (by rw [hby.len];show 0 + x0 * 1 + 1≤m;omega) (by simp [Value.cells,Value.oneCell']) fun w10 hU=>?_
        have hset:setFrom vals (0 + x0 * 1) [.slice A9 (List.filter (valB t u x0) (List.take k ops) ++ [(j:Int)]).length c9]=vals.set x0 (.slice A9 (List.filter (valB t u x0) (List.take k ops) ++ [(j:Int)]).length c9):=by rw [Nat.zero_add,Nat.mul_one];rfl
        have hU':Upd w9 w10 w3.heap.size 22 (vals.set x0 (.slice A9 (List.filter (valB t u x0) (List.take k ops) ++ [(j:Int)]).length c9)):=hset ▸ hU
        have hby10:=hby.putVal hu0 hK9 ho9 (by
          rcases hat with hat|hat
          · exact .inl hat
          · exact .inr ⟨_,hat,hN8.ext.size⟩) hU'
        have hB10:Below w2.heap.size w9 w10:=hU.below hw23
        refine EG ?_
        ((refine h_z ?_))
        repeat (first|refine Aw ?_|refine Ah rfl ?_|refine Ae rfl ?_)
        refine ⟨(vals.set x0 (.slice A9 (List.filter (valB t u x0) (List.take k ops) ++ [(j:Int)]).length c9),rv),⟨rfl,rfl,rfl,rfl,rfl,rfl,rfl,rfl,trivial⟩,hE7.trans ((hB9.trans hB10).mono (by omega)),hb1s.keep ((hB9.trans hB10).block _ (by omega)),hb2s.keep ((hB9.trans hB10).block _ (by omega)),?_⟩
        have e1:∀ i,(ops.take (k + 1)).filter (valB t u i)=if i=x0 then (ops.take k).filter (valB t u x0) ++ [(j:Int)] else (ops.take k).filter (valB t u i):=fun i=>by
          rw [Ff hx]
          by_cases hi:i=x0
          · subst hi;simp [valB,hpre,hf,hj1]
          · have:¬ (f.val=(i:Int)):=by omega
            simp [valB,hpre,hf,hi,this]
        have e2:(ops.take (k + 1)).filter (restB t u)=(ops.take k).filter (restB t u):=by rw [Ff hx];simp [restB,hpre,hf]
        dsimp only
        rw [e2]
        simp only [e1]
        exact hby10
    rintro ⟨vals,rv⟩ w5 ⟨hE5,hb1,hb2,hby⟩
    dsimp only at hby
    rw [List.take_length] at hby
    have hl2:=hb2.lt
    have hb1s:=hb1
    have hb2s:=hb2
    have hflt:∀ p:Int→Bool,OpsIn t (ops.filter p)∧(ops.filter p).length≤4096:=fun p=>⟨fun x hx=>hin x (List.mem_filter.1 hx).1,Nat.le_trans (List.length_filter_le _ _) hlen⟩
    have hrv:Vb w5 (fun k=>rv.ownBlock=some k) rv (ops.filter (restB t u)):=hby.rest.vb.mono fun k hk=>hk.resolve_left id
    repeat (first|refine Aw ?_|refine Ah rfl ?_|refine Ae rfl ?_)
    refine Cu (Ext w5) [(0,true),(1,true),(2,true),(3,true),(4,true),(5,false),(6,true),(7,false),(8,true)] (by kernel_rfl) rfl (by kernel_rfl) (Below.refl _ _) ?_
    (refine Fx rfl rfl rfl ?_<;>refine Fx rfl rfl rfl ?_<;>refine AW rfl rfl rfl ?_<;>refine Fx rfl rfl rfl ?_<;>(first|refine Pr rfl rfl rfl ?_|refine Pq rfl rfl rfl rfl ?_))
    refine BE rfl ?_
    refine Bo rfl rfl (ih w5 _ rv _ (u + 1) (fun k=>rv.ownBlock=some k) (hg0.ext hE5) hrv (fun k hk=>(hby.rest.lt k hk).2) (hflt _).1 (hflt _).2 (by omega) (by omega)) ?_
    rintro p6 w6 ⟨hT6,hE6⟩
    obtain ⟨q6,rfl⟩:=hT6.form
    refine Ca hE6 ?_
    (refine De rfl rfl rfl rfl ?_)
    refine BE rfl ?_
    refine DI rfl rfl fun w7 hN7=>?_
    refine Ca (hE6.trans' hN7.ext) ?_
    (refine EC rfl rfl rfl ?_<;>(refine h_z ?_))
    have hnode:Blk w7 w6.heap.size 144 [.slice none 0 0,.bool false,.int .i64 (u:Int),.slice none 0 0,.pointer q6]:=hN7.blk
    have hby6:=hby.ext hE6
    repeat (first|refine Aw ?_|refine Ah rfl ?_|refine Ae rfl ?_)
    ((repeat (first|refine Aw ?_|refine Ah rfl ?_|refine Ae rfl ?_))<;>(refine Ar rfl rfl ?_<;>refine Bj rfl rfl ?_<;>refine Ar rfl rfl ?_<;>(refine o_z ?_))<;>(repeat (first|refine Aw ?_|refine Ah rfl ?_|refine Ae rfl ?_)))
    refine BU m (by omega) (fun x:Value=>[(3,.pointer (some ⟨w.heap.size,0,none⟩)),(5,.pointer (some ⟨w1.heap.size,0,none⟩)),(13,.pointer (some ⟨w6.heap.size,0,none⟩)),(94,.slice (some ⟨w3.heap.size,0,none⟩) m m)])
      (fun k x w'=>Ext w6 w'∧Blk w' w6.heap.size 144 [.slice none 0 0,.bool false,.int .i64 (u:Int),x,.pointer q6]∧∃ G:Nat→Prop,(∀ k,G k→k < w'.heap.size∧w2.heap.size≤k)∧¬ G w6.heap.size∧Own w' w7.heap.size G 105 x ((List.range k).map fun i=>mkT t fuel (ops.filter (valB t u i)) (u + 1))) (.slice none 0 0)
      ⟨hN7.ext,hnode,fun _=>False,fun _ h=>h.elim,id,Own.nil _ _ _ _⟩ ⟨rfl,rfl,rfl,rfl,rfl,rfl,trivial⟩ (fun _=>⟨rfl,rfl⟩) ⟨rfl,rfl,rfl⟩ ⟨rfl,rfl⟩ ?_ ?_
    · rintro k xv w8 hk ⟨hE8,hnd,G,hG,hGn,hown⟩
      obtain ⟨u0,hu0⟩:=AN (l:=vals) (k:=k) (by rw [hby.len];exact hk)
      have hby8:=hby6.ext hE8
      have hE58:Ext w5 w8:=hE6.trans' hE8
      have hE08:Ext w w8:=hE5.trans' hE58
      have hc1:w8.cell? ⟨w3.heap.size,0 + k * 1,none⟩=some u0:=hby8.blk.cell (by rw [Nat.zero_add,Nat.mul_one];exact hu0)
      have hown0:=hby8.own k u0 hu0
      obtain ⟨Ak,ck,rfl⟩:=hown0.form
      obtain ⟨Ax',cx',rfl⟩:=hown.form
      have hz78:w7.heap.size≤w8.heap.size:=by have:=hnd.lt;have:=hN7.size;omega
      ((repeat (first|refine Aw ?_|refine Ah rfl ?_|refine Ae rfl ?_))<;>(refine CY rfl rfl rfl ?_<;>refine AP rfl rfl ?_<;>refine Ay rfl rfl ?_<;>(refine o_z ?_))<;>(repeat (first|refine Aw ?_|refine Ah rfl ?_|refine Ae rfl ?_)))
      refine Cu (fun w'=>Blk w' w6.heap.size 144 [.slice none 0 0,.bool false,.int .i64 (u:Int),.slice Ax' ((List.range k).map fun i=>mkT t fuel (ops.filter (valB t u i)) (u + 1)).length cx',.pointer q6]∧Blk w' w.heap.size 60 [.pointer (some ⟨gb,0,none⟩)]∧Blk w' w1.heap.size 3 [.int .i64 (u:Int)]) [(0,true),(1,true),(2,true),(3,true),(4,true),(5,true),(6,true),(7,true),(8,true),(9,false),(10,false),(11,false),(12,true),(13,true),(14,false)] (by kernel_rfl) rfl (by kernel_rfl) ⟨hnd,hb1s.ext hE58,hb2s.ext hE58⟩ ?_
      have hS8:∀ w',Ext w8 w'→Blk w' w6.heap.size 144 [.slice none 0 0,.bool false,.int .i64 (u:Int),.slice Ax' ((List.range k).map fun i=>mkT t fuel (ops.filter (valB t u i)) (u + 1)).length cx',.pointer q6]∧Blk w' w.heap.size 60 [.pointer (some ⟨gb,0,none⟩)]∧Blk w' w1.heap.size 3 [.int .i64 (u:Int)]:=fun w' h=>⟨hnd.ext h,(hb1s.ext hE58).ext h,(hb2s.ext hE58).ext h⟩
      clear hb1 hb2 hc1
      have hb1:∀ w',(Blk w' w6.heap.size 144 [.slice none 0 0,.bool false,.int .i64 (u:Int),.slice Ax' ((List.range k).map fun i=>mkT t fuel (ops.filter (valB t u i)) (u + 1)).length cx',.pointer q6]∧Blk w' w.heap.size 60 [.pointer (some ⟨gb,0,none⟩)]∧Blk w' w1.heap.size 3 [.int .i64 (u:Int)])→Blk w' w6.heap.size 144 [.slice none 0 0,.bool false,.int .i64 (u:Int),.slice Ax' ((List.range k).map fun i=>mkT t fuel (ops.filter (valB t u i)) (u + 1)).length cx',.pointer q6]:=fun _ h=>h.1
      have hb2:∀ w',(Blk w' w6.heap.size 144 [.slice none 0 0,.bool false,.int .i64 (u:Int),.slice Ax' ((List.range k).map fun i=>mkT t fuel (ops.filter (valB t u i)) (u + 1)).length cx',.pointer q6]∧Blk w' w.heap.size 60 [.pointer (some ⟨gb,0,none⟩)]∧Blk w' w1.heap.size 3 [.int .i64 (u:Int)])→Blk w' w.heap.size 60 [.pointer (some ⟨gb,0,none⟩)]:=fun _ h=>h.2.1
      have hb3:∀ w',(Blk w' w6.heap.size 144 [.slice none 0 0,.bool false,.int .i64 (u:Int),.slice Ax' ((List.range k).map fun i=>mkT t fuel (ops.filter (valB t u i)) (u + 1)).length cx',.pointer q6]∧Blk w' w.heap.size 60 [.pointer (some ⟨gb,0,none⟩)]∧Blk w' w1.heap.size 3 [.int .i64 (u:Int)])→Blk w' w1.heap.size 3 [.int .i64 (u:Int)]:=fun _ h=>h.2.2
      (refine AW rfl rfl rfl ?_<;>refine AW rfl rfl rfl ?_<;>refine Dd rfl rfl rfl ?_<;>refine AJ rfl rfl rfl ?_<;>(first|refine DU rfl rfl rfl ?_|refine Bb rfl rfl rfl ?_)<;>(first|refine DU rfl rfl rfl ?_|refine Bb rfl rfl rfl ?_)<;>refine AW rfl rfl rfl ?_<;>(first|refine DU rfl rfl rfl ?_|refine Bb rfl rfl rfl ?_)<;>(first|refine Pr rfl rfl rfl ?_|refine Pq rfl rfl rfl rfl ?_))
      refine BE rfl ?_
      have hu0v:Vb w8 (fun q=>(Value.slice Ak (ops.filter (valB t u k)).length ck).ownBlock=some q) (.slice Ak (ops.filter (valB t u k)).length ck) (ops.filter (valB t u k)):=hown0.vb.mono fun q hq=>hq.resolve_left id
      refine Bo rfl rfl (ih w8 _ _ _ (u + 1) _ (hg0.ext hE08) hu0v (fun q hq=>(hown0.lt q hq).2) (hflt _).1 (hflt _).2 (by omega) (by omega)) ?_
      rintro p9 w9 ⟨hT9,hE9⟩
      obtain ⟨q9,rfl⟩:=hT9.form
      refine Ca (hS8 w9 hE9) ?_
      refine BE rfl ?_
      refine Ds rfl rfl rfl (by simp [Value.cells]) (by decide) rfl fun w10 hN10=>?_
      have hE10:Ext w8 w10:=hE9.trans' hN10.ext
      refine Ca (hS8 w10 hE10) ?_
      have hG':∀ q,(G q∨(Value.slice Ak (ops.filter (valB t u k)).length ck).ownBlock=some q∨w8.heap.size≤q∧q < w9.heap.size)→q < w9.heap.size∧w2.heap.size≤q:=fun q hq=>by
        have h9:=hE9.size
        have h6:=hE6.size
        have h7:=hN7.size
        rcases hq with hq|hq|hq
        · have:=hG q hq;exact ⟨by omega,this.2⟩
        · have:=hown0.lt q hq;exact ⟨by omega,this.1⟩
        · exact ⟨hq.2,by omega⟩
      have hGx:∀ g,(Value.slice Ax' ((List.range k).map fun i=>mkT t fuel (ops.filter (valB t u i)) (u + 1)).length cx').ownBlock=some g→¬ (G g∨(Value.slice Ak (ops.filter (valB t u k)).length ck).ownBlock=some g∨w8.heap.size≤g∧g < w9.heap.size):=fun g hg h=>by
        rcases h with h|h|h
        · obtain ⟨_,_,_,h3⟩:=hown;exact h3 g hg h
        · exact hown.own_ne hown0 (by decide) g hg h
        · have:=(hown.lt g hg).2;omega
      have hownG:Own w9 w7.heap.size (fun q=>G q∨(Value.slice Ak (ops.filter (valB t u k)).length ck).ownBlock=some q∨w8.heap.size≤q∧q < w9.heap.size) 105 _ _:=(hown.ext hE9 fun q hq=>(hG q hq).1).mono (fun q hq=>.inl hq) hGx
      have hch:Chunks w10 (fun q=>G q∨(Value.slice Ak (ops.filter (valB t u k)).length ck).ownBlock=some q∨w8.heap.size≤q∧q < w9.heap.size) [.pointer q9] [mkT t fuel (ops.filter (valB t u k)) (u + 1)] :=
        .single (show Rp.R w10 _ [.pointer q9] _ from ⟨q9,rfl,TrR.agree (hN10.ext.agree fun q hq=>(hG' q hq).1) (TrR.mono (fun q hq=>by
          rcases hq with hq|hq
          · exact .inr (.inl hq)
          · exact .inr (.inr hq)) hT9)⟩)
      refine BE rfl ?_
      have hmk:((List.range k).map fun i=>mkT t fuel (ops.filter (valB t u i)) (u + 1)).length≤64:=by simp;omega
      refine Em (α:=Tr) (A:=some ⟨w9.heap.size,0,none⟩) (c:=1) (ys:=[mkT t fuel (ops.filter (valB t u k)) (u + 1)]) (cells:=[.pointer q9]) rfl rfl (hownG.ext hN10.ext fun q hq=>(hG' q hq).1) (fun q hq=>Nat.lt_of_lt_of_le (hG' q hq).1 hN10.ext.size) (by have:=hE10.size;omega) hch (fun _=>⟨_,_,rfl,hN10.blk.cellsAt⟩) (by decide) (by rw [List.length_singleton];omega) (by rw [List.length_singleton];omega) rfl fun v' w11 ho11 hg11 hat=>?_
      have hown10:=hown.ext hE10 fun q hq=>(hG q hq).1
      have hK11:Kept w8 w11 (.slice Ax' ((List.range k).map fun i=>mkT t fuel (ops.filter (valB t u i)) (u + 1)).length cx'):=⟨hg11.os.trans hE10.os,hg11.tape.trans hE10.tape,hg11.output.trans hE10.output,Nat.le_trans hE10.size hg11.size,fun q hq hne=>by rw [hg11.block q (Nat.lt_of_lt_of_le hq hE10.size) (fun he=>hne he.symm),hE10.block q hq]⟩
      have hB11:Below w7.heap.size w8 w11:=hown.fits (Nat.le_refl _) hz78 hK11
      have hnd11:=hK11.blk hnd (hown.blk_ne hnd (by decide))
      have hz67:=hN7.size
      refine Ca ⟨hnd11,(hb1s.ext hE58).keep (hB11.block _ (by have:=hE6.size;omega)),(hb2s.ext hE58).keep (hB11.block _ (by have:=hE6.size;omega))⟩ ?_
      (refine Dd rfl rfl rfl ?_<;>refine AJ rfl rfl rfl ?_)
      refine BE rfl ?_
      obtain ⟨A11,c11,rfl⟩:=ho11.form
      refine BT (g:=w6.heap.size) rfl rfl hnd11 rfl (show 0 + 3 + 1≤5 by decide) (by simp [Value.cells,Value.oneCell']) fun w12 hU=>?_
      refine EG ?_
      ((refine h_z ?_))
      repeat (first|refine Aw ?_|refine Ah rfl ?_|refine Ae rfl ?_)
      refine ⟨_,⟨rfl,rfl,rfl,rfl,rfl,rfl,trivial⟩,?_,hU.blk,(fun q=>G q∨(Value.slice Ak (ops.filter (valB t u k)).length ck).ownBlock=some q∨w8.heap.size≤q∧q < w9.heap.size),?_,?_,?_⟩
      · exact hE8.trans ((hB11.mono (by omega)).trans (hU.below (Nat.le_refl _)))
      · intro q hq
        have:=hG' q hq
        have h1:=hN10.ext.size
        have h2:=hg11.size
        exact ⟨by rw [hU.size];omega,this.2⟩
      · rintro (h|h|h)
        · exact hGn h
        · exact hown0.blk_ne hnd (by decide) h
        · have:=hnd.lt;omega
      · rw [List.range_succ,List.map_append]
        have hne:(Value.slice A11 (((List.range k).map fun i=>mkT t fuel (ops.filter (valB t u i)) (u + 1)) ++ [mkT t fuel (ops.filter (valB t u k)) (u + 1)]).length c11).ownBlock≠some w6.heap.size:=ho11.blk_ne hnd11 (by decide)
        exact ho11.agree (hU.agree (by
          rintro (h|h|h)
          · exact hGn h
          · exact hown0.blk_ne hnd (by decide) h
          · have:=hnd.lt;omega)) fun g hg=>hU.other g fun he=>hne (he ▸ hg)
    rintro xv w8 ⟨hE8,hnd,G,hG,hGn,hown⟩
    repeat (first|refine Aw ?_|refine Ah rfl ?_|refine Ae rfl ?_)
    ((repeat (first|refine Aw ?_|refine Ah rfl ?_|refine Ae rfl ?_))<;>(refine Ar rfl rfl ?_<;>refine Ay rfl rfl ?_<;>(refine o_z ?_))<;>(repeat (first|refine Aw ?_|refine Ah rfl ?_|refine Ae rfl ?_)))
    have hE08:Ext w w8:=hE5.trans' (hE6.trans' hE8)
    obtain ⟨Ax',cx',rfl⟩:=hown.form
    have hxl:((List.range m).map fun i=>mkT t fuel (ops.filter (valB t u i)) (u + 1)).length=m:=by simp
    rw [hxl] at hnd
    refine ret1 rfl rfl ⟨⟨w6.heap.size,Ax',cx',q6,rfl,.inr ⟨by have:=hE5.size;have:=hE6.size;omega,hnd.lt⟩,hnd,?_,fun i hi=>?_⟩,hE08⟩
    · refine TrR.mono (fun q hq=>?_) (TrR.agree (hE8.agree fun q hq=>?_) hT6)
      · rcases hq with hq|hq
        · have:=hby.rest.lt q hq;have:=hE6.size;have:=hE8.size;exact .inr ⟨by omega,by omega⟩
        · have:=hE8.size;have:=hE5.size;exact .inr ⟨by omega,by omega⟩
      · rcases hq with hq|hq
        · have:=hby.rest.lt q hq;have:=hE6.size;omega
        · exact hq.2
    · have hvb:=hown.vb
      obtain ⟨b9,o9,cs9,hA,hF9,_,hc9,q9,rfl,hT9⟩:=hvb.elem (k:=i) (x:=mkT t fuel (ops.filter (valB t u i)) (u + 1)) (by rw [List.getElem?_map,List.getElem?_range hi];rfl)
      have hsub:∀ q,(G q∨(Value.slice Ax' ((List.range m).map fun i=>mkT t fuel (ops.filter (valB t u i)) (u + 1)).length cx').ownBlock=some q)→more F w w8 q:=fun q hq=>by
        rcases hq with hq|hq
        · have:=hG q hq;exact .inr ⟨by omega,this.1⟩
        · have h1:=hown.lt q hq;have:=hN7.size;have:=hE6.size;exact .inr ⟨by omega,h1.2⟩
      exact ⟨b9,o9,q9,hA,hsub _ hF9,by have:=hc9.1;rwa [show i * Rp.size Tr=i from Nat.mul_one i] at this,TrR.mono hsub hT9⟩
end
section
open Go Go.RowKit
attribute [local irreducible] ewp owp hwp hwq hws Ev Evg Fn retPost loud loudS Res1
def nw (w w':World):Nat→Prop:=fun k=>w.heap.size≤k∧k < w'.heap.size
theorem IS {w:World} {F G:Nat→Prop}:∀ {xs:List Fct} {cells:List Value},Chunks w F cells xs→Chunks w G cells xs
  | [],_,h=>h
  | _ :: _,_,⟨cs,rest,he,hr,hc⟩=>⟨cs,rest,he,hr,IS hc⟩
theorem Gg {w:World} {F G:Nat→Prop}:∀ {xs:List Int} {cells:List Value},Chunks w F cells xs→Chunks w G cells xs
  | [],_,h=>h
  | _ :: _,_,⟨cs,rest,he,hr,hc⟩=>⟨cs,rest,he,hr,Gg hc⟩
theorem cloneIntsN {w:World} {sv:Value} {xs:List Int} (hs:V w sv xs) (hl:xs.length≤1000000):Fn Tryz.prog 66 [sv] w fun v w'=>Vb w' (nw w w') v xs∧Ext w w' :=
  (cloneInts hs (by omega)).mono fun v w' ⟨ho,hE⟩=>⟨by
    obtain ⟨cells,q1,q2,q3⟩:=id ho
    have ho':Own w' w.heap.size (fun _=>False) 3 v xs:=⟨cells,q1,Gg q2,fun _ _ h=>h⟩
    exact ho'.vb.mono fun k hk=>ho.lt k (hk.resolve_left id),hE⟩
theorem cloneFactsN {w:World} {sv:Value} {xs:List Fct} (hs:V w sv xs) (hl:xs.length≤1000000):Fn Tryz.prog 81 [sv] w fun v w'=>Vb w' (nw w w') v xs∧Ext w w' :=
  (cloneFacts hs (by omega)).mono fun v w' ⟨ho,hE⟩=>⟨by
    obtain ⟨cells,q1,q2,q3⟩:=id ho
    have ho':Own w' w.heap.size (fun _=>False) 45 v xs:=⟨cells,q1,IS q2,fun _ _ h=>h⟩
    exact ho'.vb.mono fun k hk=>ho.lt k (hk.resolve_left id),hE⟩
theorem Vb.nwext {α:Type} [Rp α] {w w' w'':World} {v:Value} {x:α} (h:Vb w' (nw w w') v x) (hE:Ext w' w''):Vb w'' (nw w w') v x:=h.agree (hE.agree fun _ hk=>hk.2)
theorem genCopied {w:World} {tv:Value} {t:Tsk} (ht:V w tv t) (hl1:t.vars.length≤1000000) (hl2:t.init.length≤1000000) (hl3:t.goal.length≤1000000) (hl4:t.ops.length≤1000000)
    (hl5:∀ (i:Nat) o,t.ops[i]?=some o→o.pre.length≤1000000∧o.effs.length≤1000000∧∀ (j:Nat) e,o.effs[j]?=some e→e.cond.length≤1000000) :
    Fn Tryz.prog 55 [tv] w fun v w'=>Vb w' (nw w w') v t∧Ext w w':=by
  obtain ⟨cs,rfl,a,b,c,d,rfl,hvars,hinit,hgoal,hops⟩:=ht
  obtain ⟨Av,cv,rfl⟩:=hvars.form
  obtain ⟨Ai,ci,rfl⟩:=hinit.form
  obtain ⟨Ag,cg,rfl⟩:=hgoal.form
  obtain ⟨Ao,co,rfl⟩:=hops.form
  refine AQ Tryz.func55 rfl Tryz.ntmps55 rfl ?_
  repeat (first|refine Aw ?_|refine Ah rfl ?_|refine Ae rfl ?_)
  refine DI rfl rfl fun w1 hN1=>?_
  refine DQ rfl fun w2 hN2=>?_
  have hE2:Ext w w2:=hN1.ext.trans' hN2.ext
  have hz1:w1.heap.size=w.heap.size + 1:=hN1.size
  have hz2:w2.heap.size=w1.heap.size + 1:=hN2.size
  have hb1:Blk w2 w.heap.size 26 [.slice Av t.vars.length cv,.slice Ai t.init.length ci,.slice Ag t.goal.length cg,.slice Ao t.ops.length co]:=hN1.blk.ext hN2.ext
  have hres:Blk w2 w1.heap.size 26 [.slice none 0 0,.slice none 0 0,.slice none 0 0,.slice none 0 0]:=hN2.blk
  ((refine o_z ?_))
  refine Lp (fun l' w'=>∃ g3 av bv cv',subs l' [(1,.pointer (some ⟨w.heap.size,0,none⟩)),(2,.pointer (some ⟨w1.heap.size,0,none⟩)),(3,.pointer (some ⟨g3,0,none⟩))]∧Ext w2 w'∧w2.heap.size≤g3∧Blk w' g3 26 [av,bv,cv',.slice none 0 0] ∧
    Vb w' (fun k=>nw w2 w' k∧k≠g3) av t.vars∧Vb w' (fun k=>nw w2 w' k∧k≠g3) bv t.init∧Vb w' (fun k=>nw w2 w' k∧k≠g3) cv' t.goal) ?_ ?_
  · have q0:∀ w',Ext w2 w'→Blk w' w.heap.size 26 [.slice Av t.vars.length cv,.slice Ai t.init.length ci,.slice Ag t.goal.length cg,.slice Ao t.ops.length co]:=fun w' h=>hb1.ext h
    refine Mq (Ext w2) ?_
    refine HC (i:=0) rfl (by kernel_rfl) (by kernel_rfl) (by kernel_rfl) rfl rfl (evg fun _ _=>Dh rfl) (Below.refl _ _) ?_
    refine HC (i:=1) rfl (by kernel_rfl) (by kernel_rfl) (by kernel_rfl) rfl rfl (evg fun _ hS=>DA rfl ((hb1.ext hS).cell rfl)) (Below.refl _ _) ?_
    refine HC (i:=3) rfl (by kernel_rfl) (by kernel_rfl) (by kernel_rfl) rfl rfl (evg fun _ _=>Dh rfl) (Below.refl _ _) ?_
    refine HC (i:=4) rfl (by kernel_rfl) (by kernel_rfl) (by kernel_rfl) rfl rfl (evg fun _ hS=>DA rfl ((hb1.ext hS).cell rfl)) (Below.refl _ _) ?_
    refine HC (i:=6) rfl (by kernel_rfl) (by kernel_rfl) (by kernel_rfl) rfl rfl (evg fun _ _=>Dh rfl) (Below.refl _ _) ?_
    refine HC (i:=7) rfl (by kernel_rfl) (by kernel_rfl) (by kernel_rfl) rfl rfl (evg fun _ hS=>DA rfl ((hb1.ext hS).cell rfl)) (Below.refl _ _) ?_
    refine Je (i:=2) (j:=10) (by kernel_rfl) rfl rfl ?_ ?_
    · refine Bo rfl rfl (cloneIntsN (hvars.ext hE2) hl1) ?_
      rintro av w3 ⟨hav,hE3⟩
      refine EH hE3 ?_
      refine Je (i:=5) (j:=10) (by kernel_rfl) rfl rfl ?_ ?_
      · refine Bo rfl rfl (cloneIntsN (hinit.ext (hE2.trans' hE3)) hl2) ?_
        rintro bv w4 ⟨hbv,hE4⟩
        refine EH (hE3.trans' hE4) ?_
        refine Je (i:=8) (j:=10) (by kernel_rfl) rfl rfl ?_ ?_
        · refine Bo rfl rfl (cloneFactsN (hgoal.ext (hE2.trans' (hE3.trans' hE4))) hl3) ?_
          rintro cv' w5 ⟨hcv,hE5⟩
          refine EH (hE3.trans' (hE4.trans' hE5)) ?_
          refine HD [(9,true),(10,false),(11,false)] (by kernel_rfl) rfl (by kernel_rfl) (hE3.trans' (hE4.trans' hE5)) ?_
          obtain ⟨Aa,ca,rfl⟩:=hav.form
          obtain ⟨Ab,cb,rfl⟩:=hbv.form
          obtain ⟨Ac,cc,rfl⟩:=hcv.form
          refine AK rfl ?_
          refine Bx (fun _ _=>EV rfl rfl) rfl ?_
          refine BE rfl ?_
          refine DQ rfl fun w6 hN6=>?_
          refine Ca (hE3.trans' (hE4.trans' (hE5.trans' hN6.ext))) ?_
          refine BE rfl ?_
          refine BT rfl rfl hN6.blk rfl (Nat.le_refl _) (by simp [Value.cells,Value.oneCell',setParts,setFrom]) fun w7 hU=>?_
          refine EG (Au ?_)
          have hE7:Ext w5 w7:=(hN6.upd hU).ext
          have s3:=hE3.size;have s4:=hE4.size;have s5:=hE5.size;have s7:=hE7.size
          refine ⟨w5.heap.size,_,_,_,⟨rfl,rfl,rfl,trivial⟩,hE3.trans' (hE4.trans' (hE5.trans' hE7)),by omega,hU.blk,?_,?_,?_⟩
          · exact ((((hav.nwext hE4).agree (hE5.agree fun k hk=>by have:=hk.2;omega)).agree (hE7.agree fun k hk=>by have:=hk.2;omega)).mono fun k hk=>⟨⟨by have:=hk.1;omega,by have:=hk.2;omega⟩,by have:=hk.2;omega⟩)
          · exact ((hbv.nwext hE5).agree (hE7.agree fun k hk=>by have:=hk.2;omega)).mono fun k hk=>⟨⟨by have:=hk.1;omega,by have:=hk.2;omega⟩,by have:=hk.2;omega⟩
          · exact (hcv.nwext hE7).mono fun k hk=>⟨⟨by have:=hk.1;omega,by have:=hk.2;omega⟩,by have:=hk.2;omega⟩
        · refine DQ rfl fun w5 hN=>?_
          have hE5:=hN.ext
          refine EH (hE3.trans' (hE4.trans' hE5)) ?_
          refine HD [(8,false),(9,true),(11,false)] (by kernel_rfl) rfl (by kernel_rfl) (hE3.trans' (hE4.trans' hE5)) ?_
          refine BE rfl ?_
          refine Bo rfl rfl (cloneFactsN (hgoal.ext (hE2.trans' (hE3.trans' (hE4.trans' hE5)))) hl3) ?_
          rintro cv' w6 ⟨hcv,hE6⟩
          refine Ca (hE3.trans' (hE4.trans' (hE5.trans' hE6))) ?_
          have hg3:=hN.blk.ext hE6
          obtain ⟨Aa,ca,rfl⟩:=hav.form
          obtain ⟨Ab,cb,rfl⟩:=hbv.form
          obtain ⟨Ac,cc,rfl⟩:=hcv.form
          refine AK rfl ?_
          refine Bx (fun _ _=>EV rfl rfl) rfl ?_
          refine BE rfl ?_
          refine BT rfl rfl hg3 rfl (Nat.le_refl _) (by simp [Value.cells,Value.oneCell',setParts,setFrom]) fun w7 hU=>?_
          refine EG (Au ?_)
          have s3:=hE3.size;have s4:=hE4.size;have s5:=hE5.size;have s6:=hE6.size;have s7:=hU.size;have sN:=hN.size
          refine ⟨_,_,_,_,⟨rfl,rfl,rfl,trivial⟩,(hE3.trans' (hE4.trans' (hE5.trans' hE6))).trans (hU.below (by omega)),by omega,hU.blk,?_,?_,?_⟩
          · exact (hav.agree fun k hk=>(hU.other k (by have:=hk.2;omega)).trans ((hE4.trans' (hE5.trans' hE6)).block k hk.2)).mono fun k hk=>⟨⟨by have:=hk.1;omega,by have:=hk.2;omega⟩,by have:=hk.2;omega⟩
          · exact (hbv.agree fun k hk=>(hU.other k (by have:=hk.2;omega)).trans ((hE5.trans' hE6).block k hk.2)).mono fun k hk=>⟨⟨by have:=hk.1;omega,by have:=hk.2;omega⟩,by have:=hk.2;omega⟩
          · exact (hcv.agree fun k hk=>hU.other k (by have:=hk.1;omega)).mono fun k hk=>⟨⟨by have:=hk.1;omega,by have:=hk.2;omega⟩,by have:=hk.1;omega⟩
      · refine DQ rfl fun w4 hN=>?_
        have hE4:=hN.ext
        refine EH (hE3.trans' hE4) ?_
        refine HD [(5,false),(8,false),(9,true),(11,false)] (by kernel_rfl) rfl (by kernel_rfl) (hE3.trans' hE4) ?_
        refine BE rfl ?_
        refine Bo rfl rfl (cloneIntsN (hinit.ext (hE2.trans' (hE3.trans' hE4))) hl2) ?_
        rintro bv w5 ⟨hbv,hE5⟩
        refine Ca (hE3.trans' (hE4.trans' hE5)) ?_
        refine BE rfl ?_
        refine Bo rfl rfl (cloneFactsN (hgoal.ext (hE2.trans' (hE3.trans' (hE4.trans' hE5)))) hl3) ?_
        rintro cv' w6 ⟨hcv,hE6⟩
        refine Ca (hE3.trans' (hE4.trans' (hE5.trans' hE6))) ?_
        have hg3:=(hN.blk.ext hE5).ext hE6
        obtain ⟨Aa,ca,rfl⟩:=hav.form
        obtain ⟨Ab,cb,rfl⟩:=hbv.form
        obtain ⟨Ac,cc,rfl⟩:=hcv.form
        refine AK rfl ?_
        refine Bx (fun _ _=>EV rfl rfl) rfl ?_
        refine BE rfl ?_
        refine BT rfl rfl hg3 rfl (Nat.le_refl _) (by simp [Value.cells,Value.oneCell',setParts,setFrom]) fun w7 hU=>?_
        refine EG (Au ?_)
        have s3:=hE3.size;have s4:=hE4.size;have s5:=hE5.size;have s6:=hE6.size;have s7:=hU.size;have sN:=hN.size
        refine ⟨_,_,_,_,⟨rfl,rfl,rfl,trivial⟩,(hE3.trans' (hE4.trans' (hE5.trans' hE6))).trans (hU.below (by omega)),by omega,hU.blk,?_,?_,?_⟩
        · exact (hav.agree fun k hk=>(hU.other k (by have:=hk.2;omega)).trans ((hE4.trans' (hE5.trans' hE6)).block k hk.2)).mono fun k hk=>⟨⟨by have:=hk.1;omega,by have:=hk.2;omega⟩,by have:=hk.2;omega⟩
        · exact (hbv.agree fun k hk=>(hU.other k (by have:=hk.1;omega)).trans (hE6.block k hk.2)).mono fun k hk=>⟨⟨by have:=hk.1;omega,by have:=hk.2;omega⟩,by have:=hk.1;omega⟩
        · exact (hcv.agree fun k hk=>hU.other k (by have:=hk.1;omega)).mono fun k hk=>⟨⟨by have:=hk.1;omega,by have:=hk.2;omega⟩,by have:=hk.1;omega⟩
    · refine DQ rfl fun w3 hN=>?_
      have hE3:=hN.ext
      refine EH hE3 ?_
      refine HD [(2,false),(5,false),(8,false),(9,true),(11,false)] (by kernel_rfl) rfl (by kernel_rfl) hE3 ?_
      refine BE rfl ?_
      refine Bo rfl rfl (cloneIntsN (hvars.ext (hE2.trans' hE3)) hl1) ?_
      rintro av w4 ⟨hav,hE4⟩
      refine Ca (hE3.trans' hE4) ?_
      refine BE rfl ?_
      refine Bo rfl rfl (cloneIntsN (hinit.ext (hE2.trans' (hE3.trans' hE4))) hl2) ?_
      rintro bv w5 ⟨hbv,hE5⟩
      refine Ca (hE3.trans' (hE4.trans' hE5)) ?_
      refine BE rfl ?_
      refine Bo rfl rfl (cloneFactsN (hgoal.ext (hE2.trans' (hE3.trans' (hE4.trans' hE5)))) hl3) ?_
      rintro cv' w6 ⟨hcv,hE6⟩
      refine Ca (hE3.trans' (hE4.trans' (hE5.trans' hE6))) ?_
      have hg3:=((hN.blk.ext hE4).ext hE5).ext hE6
      obtain ⟨Aa,ca,rfl⟩:=hav.form
      obtain ⟨Ab,cb,rfl⟩:=hbv.form
      obtain ⟨Ac,cc,rfl⟩:=hcv.form
      refine AK rfl ?_
      refine Bx (fun _ _=>EV rfl rfl) rfl ?_
      refine BE rfl ?_
      refine BT rfl rfl hg3 rfl (Nat.le_refl _) (by simp [Value.cells,Value.oneCell',setParts,setFrom]) fun w7 hU=>?_
      refine EG (Au ?_)
      have s3:=hE3.size;have s4:=hE4.size;have s5:=hE5.size;have s6:=hE6.size;have s7:=hU.size;have sN:=hN.size
      refine ⟨_,_,_,_,⟨rfl,rfl,rfl,trivial⟩,(hE3.trans' (hE4.trans' (hE5.trans' hE6))).trans (hU.below (by omega)),by omega,hU.blk,?_,?_,?_⟩
      · exact (hav.agree fun k hk=>(hU.other k (by have:=hk.1;omega)).trans ((hE5.trans' hE6).block k hk.2)).mono fun k hk=>⟨⟨by have:=hk.1;omega,by have:=hk.2;omega⟩,by have:=hk.1;omega⟩
      · exact (hbv.agree fun k hk=>(hU.other k (by have:=hk.1;omega)).trans (hE6.block k hk.2)).mono fun k hk=>⟨⟨by have:=hk.1;omega,by have:=hk.2;omega⟩,by have:=hk.1;omega⟩
      · exact (hcv.agree fun k hk=>hU.other k (by have:=hk.1;omega)).mono fun k hk=>⟨⟨by have:=hk.1;omega,by have:=hk.2;omega⟩,by have:=hk.1;omega⟩
  · rintro l' w3 ⟨g3,av,bv,cv',hsub,hE3,hg3,hb3,hav,hbv,hcv⟩
    refine Bc _ hsub ?_
    clear hsub
    replace hb1:=hb1.ext hE3
    replace hres:=hres.ext hE3
    have hE03:Ext w w3:=hE2.trans' hE3
    have hg3z:g3 < w3.heap.size:=hb3.lt
    repeat (first|refine Aw ?_|refine Ah rfl ?_|refine Ae rfl ?_)
    ((repeat (first|refine Aw ?_|refine Ah rfl ?_|refine Ae rfl ?_))<;>(refine AV rfl rfl ?_<;>refine AP rfl rfl ?_<;>refine Bj rfl rfl ?_<;>refine Ar rfl rfl ?_<;>(refine o_z ?_))<;>(repeat (first|refine Aw ?_|refine Ah rfl ?_|refine Ae rfl ?_)))
    refine BU t.ops.length (by omega) (fun _:Unit=>[(2,.pointer (some ⟨w1.heap.size,0,none⟩)),(3,.pointer (some ⟨g3,0,none⟩)),(20,.slice Ao t.ops.length co)])
      (fun k _ w'=>Below w2.heap.size w2 w'∧w3.heap.size≤w'.heap.size∧(∀ q,q < w3.heap.size→q≠g3→w'.heap[q]?=w3.heap[q]?)∧∃ (ov:Value) (G:Nat→Prop),Blk w' g3 26 [av,bv,cv',ov]∧(∀ q,G q→w3.heap.size≤q∧q < w'.heap.size)∧Own w' w3.heap.size G 50 ov (t.ops.take k)) ()
      ⟨hE3,Nat.le_refl _,fun _ _ _=>rfl,.slice none 0 0,fun _=>False,hb3,fun _ h=>h.elim,Own.nil _ _ _ _⟩ ⟨rfl,rfl,rfl,rfl,rfl,trivial⟩ (fun _=>⟨rfl,rfl⟩) ⟨rfl,rfl,rfl⟩ ⟨rfl,rfl⟩ ?_ ?_
    · rintro k _ w4 hk ⟨hB4,hz34,hkeep,ov,G,hb3,hG,hown⟩
      have hE04:Ext w w4:=hE2.trans (hB4.mono (by omega))
      obtain ⟨o,ho⟩:=AN hk
      obtain ⟨hp5,hq5,hc5⟩:=hl5 k o ho
      obtain ⟨b2,o2,ce,rfl,_,_,hd1,p,q,rfl,hp,hq,hc,hn⟩:=(hops.ext hE04).elem ho
      obtain ⟨Ap,cp,rfl⟩:=hp.form
      obtain ⟨Aq,cq,rfl⟩:=hq.form
      obtain ⟨Aov,cov,rfl⟩:=hown.form
      ((repeat (first|refine Aw ?_|refine Ah rfl ?_|refine Ae rfl ?_))<;>(refine CY rfl rfl rfl ?_<;>refine Br rfl rfl ?_)<;>(repeat (first|refine Aw ?_|refine Ah rfl ?_|refine Ae rfl ?_)))
      refine Ce rfl rfl rfl (by simp [Value.cells,Value.oneCell']) fun w5 hN5=>?_
      have hb2:Blk w5 w4.heap.size 50 [.string o.name,.int .i64 o.cost,.slice Ap o.pre.length cp,.slice Aq o.effs.length cq]:=hN5.blk
      have hz5:=hN5.size
      ((refine o_z ?_))
      repeat (first|refine Aw ?_|refine Ah rfl ?_|refine Ae rfl ?_)
      clear hd1
      (refine AV rfl rfl ?_<;>refine AP rfl rfl ?_)
      refine Bo rfl rfl (cloneFactsN (hp.ext hN5.ext) hp5) ?_
      rintro pv w6 ⟨hpv,hE6⟩
      obtain ⟨Ap',cp',rfl⟩:=hpv.form
      replace hb2:=hb2.ext hE6
      (refine AV rfl rfl ?_)
      refine BT rfl rfl hb2 rfl (show 0 + 2 + 1≤4 by decide) (by simp [Value.cells,Value.oneCell']) fun w7 hU7=>?_
      have hE47:Ext w4 w7:=(hN5.ext.trans' hE6).trans (hU7.below (Nat.le_refl _))
      replace hb2:Blk w7 w4.heap.size 50 [.string o.name,.int .i64 o.cost,.slice Ap' o.pre.length cp',.slice Aq o.effs.length cq]:=hU7.blk
      have hpv7:Vb w7 (nw w5 w6) (.slice Ap' o.pre.length cp') o.pre:=hpv.agree fun q hq=>hU7.other q (by have:=hq.1;omega)
      ((refine o_z ?_))
      repeat (first|refine Aw ?_|refine Ah rfl ?_|refine Ae rfl ?_)
      ((repeat (first|refine Aw ?_|refine Ah rfl ?_|refine Ae rfl ?_))<;>(refine Ay rfl rfl ?_<;>(refine o_z ?_))<;>(repeat (first|refine Aw ?_|refine Ah rfl ?_|refine Ae rfl ?_))<;>(refine AV rfl rfl ?_<;>refine AP rfl rfl ?_<;>refine Bj rfl rfl ?_<;>refine Ar rfl rfl ?_<;>(refine o_z ?_))<;>(repeat (first|refine Aw ?_|refine Ah rfl ?_|refine Ae rfl ?_)))
      refine BU o.effs.length (by omega) (fun ev:Value=>[(2,.pointer (some ⟨w1.heap.size,0,none⟩)),(3,.pointer (some ⟨g3,0,none⟩)),(5,.pointer (some ⟨w4.heap.size,0,none⟩)),(6,ev),(20,.slice (some ⟨b2,o2,none⟩) t.ops.length co),(21,.int .i64 (t.ops.length:Int)),(22,.int .i64 (k:Int)),(31,.slice Aq o.effs.length cq)])
        (fun i ev w'=>Ext w7 w'∧∃ H:Nat→Prop,(∀ q,H q→w7.heap.size≤q∧q < w'.heap.size)∧Own w' w7.heap.size H 47 ev (o.effs.take i)) (.slice none 0 0)
        ⟨Below.refl _ _,fun _=>False,fun _ h=>h.elim,Own.nil _ _ _ _⟩ ⟨rfl,rfl,rfl,rfl,rfl,rfl,rfl,rfl,rfl,rfl,trivial⟩ (fun _=>⟨rfl,rfl⟩) ⟨rfl,rfl,rfl⟩ ⟨rfl,rfl⟩ ?_ ?_
      · rintro i ev w8 hi ⟨hE8,H,hH,hev⟩
        obtain ⟨e,he⟩:=AN hi
        have hce:=hc5 i e he
        obtain ⟨b3,o3,ce,rfl,_,_,hd1,cv8,rfl,hcn,hr1,hr2⟩:=(hq.ext (hE47.trans' hE8)).elem he
        obtain ⟨Acn,ccn,rfl⟩:=hcn.form
        ((repeat (first|refine Aw ?_|refine Ah rfl ?_|refine Ae rfl ?_))<;>(refine CY rfl rfl rfl ?_<;>refine Br rfl rfl ?_)<;>(repeat (first|refine Aw ?_|refine Ah rfl ?_|refine Ae rfl ?_)))
        refine Ce rfl rfl rfl (by simp [Value.cells,Value.oneCell']) fun w9 hN9=>?_
        have hb4:Blk w9 w8.heap.size 47 [.slice Acn e.cond.length ccn,.int .i64 e.var,.int .i64 e.val]:=hN9.blk
        have hz9:=hN9.size
        ((refine o_z ?_))
        repeat (first|refine Aw ?_|refine Ah rfl ?_|refine Ae rfl ?_)
        clear hd1
        (refine AV rfl rfl ?_<;>refine AP rfl rfl ?_)
        refine Bo rfl rfl (cloneFactsN (hcn.ext hN9.ext) hce) ?_
        rintro cw w10 ⟨hcw,hE10⟩
        obtain ⟨Acw,ccw,rfl⟩:=hcw.form
        replace hb4:=hb4.ext hE10
        (refine AV rfl rfl ?_)
        refine BT rfl rfl hb4 rfl (show 0 + 0 + 1≤3 by decide) (by simp [Value.cells,Value.oneCell']) fun w11 hU11=>?_
        replace hb4:Blk w11 w8.heap.size 47 [.slice Acw e.cond.length ccw,.int .i64 e.var,.int .i64 e.val]:=hU11.blk
        have hE811:Ext w8 w11:=(hN9.ext.trans' hE10).trans (hU11.below (Nat.le_refl _))
        have hE711:Ext w7 w11:=hE8.trans' hE811
        have hcw11:Vb w11 (nw w9 w10) (.slice Acw e.cond.length ccw) e.cond:=hcw.agree fun q hq=>hU11.other q (by have:=hq.1;omega)
        have s10:=hE10.size
        have s11:=hU11.size
        have hne:∀ g,ev.ownBlock=some g→¬ (H g∨nw w9 w10 g):=fun g hg h=>by
          have hlt:=(hev.lt g hg).2
          rcases h with h|h
          · obtain ⟨_,_,_,h3⟩:=hev;exact h3 g hg h
          · have:=h.1;omega
        have hev11:Own w11 w7.heap.size (fun q=>H q∨nw w9 w10 q) 47 ev _:=(hev.ext hE811 fun q hq=>(hH q hq).2).mono (fun q hq=>.inl hq) hne
        have hH11:∀ q,(H q∨nw w9 w10 q)→w7.heap.size≤q∧q < w11.heap.size:=fun q hq=>by
          rcases hq with hq|hq
          · have:=hH q hq;omega
          · have h1:=hq.1;have h2:=hq.2;have:=hE8.size;omega
        have hil:(o.effs.take i).length≤1000000:=by rw [List.length_take];omega
        ((refine o_z ?_))
        repeat (first|refine Aw ?_|refine Ah rfl ?_|refine Ae rfl ?_)
        (refine Ar rfl rfl ?_<;>refine Br rfl rfl ?_)
        refine Eu (a:=e) rfl rfl rfl hev11 (fun q hq=>(hH11 q hq).2) hE711.size ⟨_,rfl,_,rfl,hcw11.mono fun q hq=>.inr hq,hr1,hr2⟩ (by decide) (by decide) (by omega) (by omega) ⟨rfl,rfl⟩ fun ev' w12 hev12 hK12=>?_
        (refine Ay rfl rfl ?_<;>(refine o_z ?_))
        repeat (first|refine Aw ?_|refine Ah rfl ?_|refine Ae rfl ?_)
        exact ⟨ev',⟨rfl,rfl,rfl,rfl,rfl,rfl,rfl,rfl,rfl,rfl,trivial⟩,hE711.trans (hev11.fits (Nat.le_refl _) hE711.size hK12),_,fun q hq=>⟨(hH11 q hq).1,Nat.lt_of_lt_of_le (hH11 q hq).2 hK12.size⟩,by rw [List.take_add_one,he];simpa using hev12⟩
      rintro ev w12 ⟨hE12,H,hH,hev⟩
      rw [List.take_length] at hev
      obtain ⟨Aev,cev,rfl⟩:=hev.form
      replace hb2:=hb2.ext hE12
      repeat (first|refine Aw ?_|refine Ah rfl ?_|refine Ae rfl ?_)
      (refine Ar rfl rfl ?_<;>refine AV rfl rfl ?_)
      refine BT rfl rfl hb2 rfl (show 0 + 3 + 1≤4 by decide) (by simp [Value.cells,Value.oneCell']) fun w13 hU13=>?_
      replace hb2:Blk w13 w4.heap.size 50 [.string o.name,.int .i64 o.cost,.slice Ap' o.pre.length cp',.slice Aev o.effs.length cev]:=hU13.blk
      have hE413:Ext w4 w13:=(hE47.trans' hE12).trans (hU13.below (Nat.le_refl _))
      have s6:=hE6.size
      have s7:=hU7.size
      have s12:=hE12.size
      have s13:=hU13.size
      have hb3':=hb3.ext hE413
      have hg3lt:=hb3.lt
      have hpv13:Vb w13 (nw w5 w6) (.slice Ap' o.pre.length cp') o.pre:=hpv7.agree fun q hq=>(hU13.other q (by have:=hq.1;omega)).trans (hE12.block q (by have:=hq.2;omega))
      have hev13:Vb w13 (fun q=>H q∨(Value.slice Aev o.effs.length cev).ownBlock=some q) (.slice Aev o.effs.length cev) o.effs:=hev.vb.agree fun q hq=>hU13.other q (by
        rcases hq with hq|hq
        · have:=(hH q hq).1;omega
        · have:=(hev.lt q hq).1;omega)
      have hne:∀ g,(Value.slice Aov (t.ops.take k).length cov).ownBlock=some g→¬ (G g∨w4.heap.size≤g∧g < w13.heap.size):=fun g hg h=>by
        have hlt:=(hown.lt g hg).2
        rcases h with h|h
        · obtain ⟨_,_,_,h3⟩:=hown;exact h3 g hg h
        · omega
      have hown13:Own w13 w3.heap.size (fun q=>G q∨w4.heap.size≤q∧q < w13.heap.size) 50 _ _:=(hown.ext hE413 fun q hq=>(hG q hq).2).mono (fun q hq=>.inl hq) hne
      have hG13:∀ q,(G q∨w4.heap.size≤q∧q < w13.heap.size)→w3.heap.size≤q∧q < w13.heap.size:=fun q hq=>by
        have:=hE413.size
        rcases hq with hq|hq
        · have:=hG q hq;omega
        · omega
      have hopr:Vb w13 (fun q=>G q∨w4.heap.size≤q∧q < w13.heap.size) (.agg #[.string o.name,.int .i64 o.cost,.slice Ap' o.pre.length cp',.slice Aev o.effs.length cev]) o :=
        ⟨[.string o.name,.int .i64 o.cost,.slice Ap' o.pre.length cp',.slice Aev o.effs.length cev],rfl,_,_,rfl,hpv13.mono fun q hq=>.inr (by have h1:=hq.1;have h2:=hq.2;omega),hev13.mono fun q hq=>.inr (by
          rcases hq with hq|hq
          · have:=hH q hq;omega
          · have:=hev.lt q hq;omega),hc,hn⟩
      have hkl:(t.ops.take k).length≤1000000:=by rw [List.length_take];omega
      ((refine o_z ?_))
      repeat (first|refine Aw ?_|refine Ah rfl ?_|refine Ae rfl ?_)
      have hbx:=hb2
      clear hb1
      have hb1:=hb3'
      (refine AV rfl rfl ?_<;>refine AP rfl rfl ?_<;>refine Br rfl rfl ?_)
      refine Eu (a:=o) rfl rfl rfl hown13 (fun q hq=>(hG13 q hq).2) (by have:=hE413.size;omega) hopr (by decide) (by decide) (by omega) (by omega) ⟨rfl,rfl⟩ fun ov' w14 hov14 hK14=>?_
      obtain ⟨Aov',cov',rfl⟩:=hov14.form
      have hb3k:=hK14.blk hb3' (hown13.blk_ne hb3' (by decide))
      (refine AV rfl rfl ?_)
      refine BT rfl rfl hb3k rfl (show 0 + 3 + 1≤4 by decide) (by simp [Value.cells,Value.oneCell']) fun w15 hU15=>?_
      ((refine o_z ?_))
      repeat (first|refine Aw ?_|refine Ah rfl ?_|refine Ae rfl ?_)
      have hB14:Below w3.heap.size w13 w14:=hown13.fits (Nat.le_refl _) (by have:=hE413.size;omega) hK14
      have sz14:=hK14.size
      have sz15:=hU15.size
      refine ⟨(),⟨rfl,rfl,rfl,rfl,rfl,trivial⟩,?_,?_,?_,_,(fun q=>G q∨w4.heap.size≤q∧q < w13.heap.size),hU15.blk,fun q hq=>?_,?_⟩
      · exact hB4.trans (((hE413.mono (by omega)).trans (hB14.mono (by omega))).trans (hU15.below (by omega)))
      · have:=hE413.size;omega
      · intro q hq hne'
        rw [hU15.other q hne',hB14.block q hq,hE413.block q (by omega),hkeep q hq hne']
      · have:=hG13 q hq;omega
      · have hne15:=hov14.blk_ne hb3k (by decide)
        rw [List.take_add_one,ho]
        refine hov14.agree (hU15.agree ?_) fun g hg=>hU15.other g fun he=>hne15 (he ▸ hg)
        rintro (h|h)
        · have:=(hG g3 h).1;omega
        · omega
    rintro _ w4 ⟨hB4,hz34,hkeep,ov,G,hb3,hG,hown⟩
    rw [List.take_length] at hown
    obtain ⟨Aov,cov,rfl⟩:=hown.form
    have hresz:=hres.lt
    replace hres:=hres.keep (hkeep _ hresz (by omega))
    clear hb1
    have hb1:=hb3
    repeat (first|refine Aw ?_|refine Ah rfl ?_|refine Ae rfl ?_)
    obtain ⟨Aa,ca,rfl⟩:=hav.form
    obtain ⟨Ab,cb,rfl⟩:=hbv.form
    obtain ⟨Ac,cc,rfl⟩:=hcv.form
    (refine Br rfl rfl ?_)
    refine BT rfl rfl hres rfl (Nat.le_refl _) (by simp [Value.cells,Value.oneCell']) fun w5 hU=>?_
    ((refine o_z ?_))
    repeat (first|refine Aw ?_|refine Ah rfl ?_|refine Ae rfl ?_)
    have hE4:Ext w w4:=hE2.trans (hB4.mono (by omega))
    have s5:=hU.size
    have s04:=hE4.size
    have hcl:∀ {α:Type} [Rp α] {v:Value} {x:α},Vb w3 (fun k=>nw w2 w3 k∧k≠g3) v x→Vb w5 (nw w w5) v x:=fun h=>(h.agree fun q hq=>(hU.other q (by have:=hq.1.1;omega)).trans (hkeep q hq.1.2 hq.2)).mono fun q hq=>⟨by have:=hq.1.1;omega,by have:=hq.1.2;omega⟩
    have hovv:Vb w5 (nw w w5) (.slice Aov t.ops.length cov) t.ops:=(hown.vb.agree fun q hq=>hU.other q (by
      rcases hq with hq|hq
      · have:=(hG q hq).1;omega
      · have:=(hown.lt q hq).1;omega)).mono fun q hq=>by
        rcases hq with hq|hq
        · have:=hG q hq;exact ⟨by omega,by omega⟩
        · have:=hown.lt q hq;exact ⟨by omega,by omega⟩
    refine ret1v rfl (Cg rfl rfl hU.blk.cellsAt) ⟨⟨_,rfl,_,_,_,_,rfl,hcl hav,hcl hbv,hcl hcv,hovv⟩,hE4.trans (hU.below (by omega))⟩
end
section
def PreOk (t:Tsk):Prop:=∀ (i:Nat) o,t.ops[i]?=some o→FactsOk t.vars o.pre
theorem TaskOk.pre {t:Tsk} (h:TaskOk t):PreOk t:=fun i o ho=>(h.2.2.2.2.2 i o ho).2.2.2.2.1
theorem KB {t:Tsk} (h:PreOk t) (op:Int):FactsOk t.vars (preOf t op):=by
  unfold preOf
  cases ho:t.ops[op.toNat]? with
  | none=>exact ⟨fun i x hx=>by simp at hx,fun i x y hx=>by simp at hx⟩
  | some o=>exact h _ o ho
theorem Gh {l:List Fct} {v:Int} {f:Fct} (h:factOn l v=some f):f∈l∧f.var=v:=by
  unfold factOn at h
  exact ⟨List.mem_of_find?_eq_some h,by simpa using List.find?_some h⟩
theorem Lj {l:List Fct} {v:Int} (h:factOn l v=none):∀ f∈l,f.var≠v:=by
  unfold factOn at h
  rw [List.find?_eq_none] at h
  intro f hf
  simpa using h f hf
theorem Lk {vars:List Int} {l:List Fct} (hl:FactsOk vars l) {f g:Fct} (hf:f∈l) (hg:g∈l) (he:f.var=g.var):f=g:=by
  obtain ⟨i,hi⟩:=List.getElem?_of_mem hf
  obtain ⟨j,hj⟩:=List.getElem?_of_mem hg
  rcases Nat.lt_trichotomy i j with h|h|h
  · have:=Fy hl j i f g h hi hj;omega
  · subst h;rw [hi] at hj;injection hj
  · have:=Fy hl i j g f h hj hi;omega
theorem TaskOk.fits {t:Tsk} (h:TaskOk t):FitsVals t:=by
  intro i o ho v f hf hv
  obtain ⟨h1,h2⟩:=Gh hf
  obtain ⟨j,hj⟩:=List.getElem?_of_mem h1
  obtain ⟨g1,g2,n,g3,g4⟩:=(h.pre i o ho).1 j f hj
  rw [h2] at g3
  exact ⟨g2,n,by simpa using g3,g4⟩
def hf (t:Tsk) (s:List Int) (v:Nat) (op:Int):Bool:=(preOf t op).all fun f=>decide (f.var < (v:Int)) || hasB s f
theorem Hr {t:Tsk} {s:List Int} {v:Nat} {op:Int}:hf t s v op=true↔∀ f∈preOf t op,f.var < (v:Int)∨hasB s f=true:=by
  unfold hf
  simp [List.all_eq_true]
theorem LC {t:Tsk} {s:List Int} {v:Nat} {op:Int} (h:factOn (preOf t op) (v:Int)=none):hf t s v op=hf t s (v + 1) op:=by
  rw [Bool.eq_iff_iff,Hr,Hr]
  constructor
  · intro hh f hm
    rcases hh f hm with h1|h1
    · exact .inl (by omega)
    · exact .inr h1
  · intro hh f hm
    have:=Lj h f hm
    rcases hh f hm with h1|h1
    · exact .inl (by omega)
    · exact .inr h1
theorem OA {t:Tsk} {s:List Int} {v:Nat} {op:Int} {f:Fct} (hp:PreOk t) (h:factOn (preOf t op) (v:Int)=some f):hf t s v op=(hasB s f && hf t s (v + 1) op):=by
  obtain ⟨h1,h2⟩:=Gh h
  rw [Bool.eq_iff_iff,Bool.and_eq_true,Hr,Hr]
  constructor
  · intro hh
    refine ⟨(hh f h1).resolve_left (by omega),fun g hg=>?_⟩
    rcases hh g hg with h3|h3
    · exact .inl (by omega)
    · exact .inr h3
  · rintro ⟨h3,hh⟩ g hg
    rcases hh g hg with h4|h4
    · by_cases he:g.var=(v:Int)
      · have:g=f:=Lk (KB hp op) hg h1 (by omega)
        subst this;exact .inr h3
      · exact .inl (by omega)
    · exact .inr h4
theorem LD {t:Tsk} {s:List Int} {ops:List Int}:∀ (k v:Nat),(∀ x,v≤x→x < v + k→tests t ops x=false)→∀ op∈ops,hf t s v op=hf t s (v + k) op
  | 0,_,_,_,_=>rfl
  | k + 1,v,h,op,ho=>by
    have h0:=h v (Nat.le_refl _) (by omega)
    unfold tests at h0
    rw [List.any_eq_false] at h0
    have h1:=h0 op ho
    have h2:factOn (preOf t op) (v:Int)=none:=by simpa using h1
    rw [LC h2,LD k (v + 1) (fun x hx1 hx2=>h x (by omega) (by omega)) op ho]
    congr 1;omega
theorem IT {a b c:Int→Bool} {p:Int→Bool} (h:∀ x,p x=if a x=true then b x else if c x=true then b x else false) (hac:∀ x,a x=true→c x=false) :
    ∀ l:List Int,(l.filter p).Perm ((l.filter a).filter b ++ (l.filter c).filter b)
  | []=>by simp
  | x :: l=>by
    have ih:=IT h hac l
    have hx:=h x
    cases ha:a x
    · cases hc:c x
      · simp only [ha,hc] at hx
        simpa [List.filter_cons,ha,hc,hx] using ih
      · simp only [ha,hc] at hx
        cases hb:b x
        · rw [hb] at hx
          simpa [List.filter_cons,ha,hc,hb,hx] using ih
        · rw [hb] at hx
          simp only [List.filter_cons,ha,hc,hb,hx,if_true,Bool.false_eq_true,if_false]
          exact (ih.cons x).trans (List.perm_middle.symm)
    · have hc:=hac x ha
      simp only [ha] at hx
      cases hb:b x
      · rw [hb] at hx
        simpa [List.filter_cons,ha,hc,hb,hx] using ih
      · rw [hb] at hx
        simp only [List.filter_cons,ha,hc,hb,hx,if_true,Bool.false_eq_true,if_false,List.cons_append]
        exact ih.cons x
theorem PF {t:Tsk} {s:List Int} (hp:PreOk t) (op:Int):hf t s t.vars.length op=true:=by
  rw [Hr]
  intro f hfm
  obtain ⟨i,hi⟩:=List.getElem?_of_mem hfm
  obtain ⟨h1,h2,n,h3,_⟩:=(KB hp op).1 i f hi
  have:=BH h3
  exact .inl (by omega)
theorem Ma (t:Tsk) (ops:List Int) {v:Nat} (h:v≤t.vars.length):v≤nextV t ops v∧nextV t ops v≤t.vars.length∧(∀ u,v≤u→u < nextV t ops v→tests t ops u=false)∧(nextV t ops v < t.vars.length→tests t ops (nextV t ops v)=true):=by
  obtain ⟨h1,h2,h3,h4⟩:=GG t ops (t.vars.length - v) v
  exact ⟨h1,by unfold nextV;omega,h3,fun h=>h4 (by unfold nextV at h;omega)⟩
theorem StateOk.at {vars s:List Int} (h:StateOk vars s) {u:Nat} (hu:u < vars.length):∃ (x:Nat) (n:Int),s[u]?=some (x:Int)∧vars[u]?=some n∧(x:Int) < n∧atN s u=x:=by
  obtain ⟨y,hy⟩:=AN (l:=s) (k:=u) (by rw [h.1];exact hu)
  obtain ⟨n,hn⟩:=AN hu
  obtain ⟨h1,h2⟩:=h.2 u y n hy hn
  obtain ⟨x,rfl⟩:=Int.eq_ofNat_of_zero_le h1
  exact ⟨x,n,hy,hn,h2,by simp [atN,hy]⟩
theorem KC {t:Tsk} {s:List Int} (hp:PreOk t) (hs:StateOk t.vars s):∀ (fuel:Nat) (ops:List Int) (v:Nat),v≤t.vars.length→t.vars.length < fuel + v →
    (coll s (mkT t fuel ops v)).Perm (ops.filter (hf t s v))∧Fits s (mkT t fuel ops v):=by
  intro fuel
  induction fuel with
  | zero=>intro ops v h1 h2;omega
  | succ fuel ih =>
    intro ops v h1 h2
    obtain ⟨g1,g2,g3,g4⟩:=Ma t ops h1
    have hsame:=LD (t:=t) (s:=s) (ops:=ops) (nextV t ops v - v) v (fun x hx1 hx2=>g3 x hx1 (by omega))
    rw [show v + (nextV t ops v - v)=nextV t ops v from by omega] at hsame
    have hfil:ops.filter (hf t s v)=ops.filter (hf t s (nextV t ops v)):=List.filter_congr hsame
    rw [hfil]
    unfold mkT
    by_cases he:ops.isEmpty=true
    · rw [if_pos he]
      have:ops=[]:=by simpa using he
      subst this
      exact ⟨by simp [coll],trivial⟩
    rw [if_neg he]
    by_cases hn:nextV t ops v=t.vars.length
    · rw [if_pos hn,hn]
      have:ops.filter (hf t s t.vars.length)=ops:=List.filter_eq_self.2 fun x _=>PF hp x
      rw [this]
      exact ⟨List.Perm.refl _,trivial⟩
    rw [if_neg hn]
    obtain ⟨x,n,q1,q2,q3,q4⟩:=hs.at (u:=nextV t ops v) (by omega)
    have i1:=ih (ops.filter (valB t (nextV t ops v) x)) (nextV t ops v + 1) (by omega) (by omega)
    have i2:=ih (ops.filter (restB t (nextV t ops v))) (nextV t ops v + 1) (by omega) (by omega)
    refine ⟨?_,⟨x,q1,by rw [q2];simp;omega⟩,by rw [q4];exact i1.2,i2.2⟩
    rw [coll,q4]
    refine (i1.1.append i2.1).trans (IT (a:=valB t (nextV t ops v) x) (c:=restB t (nextV t ops v)) (fun op=>?_) (fun op h=>?_) ops).symm
    · unfold valB restB
      cases ho:factOn (preOf t op) (nextV t ops v:Int) with
      | none=>rw [LC ho];simp
      | some f =>
        rw [OA hp ho]
        obtain ⟨_,hv⟩:=Gh ho
        rw [Jj (s:=s) hv q1]
        by_cases hx:f.val=(x:Int)
        · simp [hx]
        · simp [hx,Ne.symm hx]
    · unfold valB at h
      unfold restB
      cases ho:factOn (preOf t op) (nextV t ops v:Int) with
      | none=>rw [ho] at h;simp at h
      | some f=>rfl
def allOps (t:Tsk):List Int:=(List.range t.ops.length).map fun i:Nat=>(i:Int)
def treeOf (t:Tsk):Tr:=mkT t (t.vars.length + 1) (allOps t) 0
theorem JF {α:Type} {p q:α→Bool}:∀ {l:List α},(∀ x∈l,p x=q x)→l.all p=l.all q
  | [],_=>rfl
  | x :: l,h=>by rw [List.all_cons,List.all_cons,h x List.mem_cons_self,JF fun y hy=>h y (List.mem_cons_of_mem _ hy)]
theorem OB {t:Tsk} (hp:PreOk t) (s:List Int):appl t s=(allOps t).filter (hf t s 0):=by
  unfold appl applK allOps
  rw [List.filter_map]
  congr 1
  refine List.filter_congr fun i hi=>?_
  obtain ⟨o,ho⟩:=AN (l:=t.ops) (k:=i) (List.mem_range.1 hi)
  simp only [Function.comp,hf,preOf,holdsB,Int.toNat_natCast,ho]
  refine JF fun f hfm=>?_
  obtain ⟨j,hj⟩:=List.getElem?_of_mem hfm
  have:=((hp i o ho).1 j f hj).1
  have:decide (f.var < ((0:Nat):Int))=false:=decide_eq_false (by omega)
  rw [this,Bool.false_or]
theorem Ll (t:Tsk) (s:List Int):(appl t s).Pairwise fun x y=>decide (x≤y)=true:=by
  unfold appl applK
  refine List.Pairwise.map _ (fun a b h=>?_) (List.Pairwise.filter _ List.pairwise_lt_range)
  exact decide_eq_true (by omega)
theorem Mb {l m:List Int} (h:l.Perm m) (hm:m.Pairwise fun x y=>decide (x≤y)=true):sortL l=m:=by
  refine List.Perm.eq_of_pairwise (le:=fun x y:Int=>decide (x≤y)=true) (fun a b _ _ h1 h2=>?_) (List.pairwise_mergeSort (fun a b c h1 h2=>?_) (fun a b=>?_) l) hm ((List.mergeSort_perm _ _).trans h)
  · have:=of_decide_eq_true h1;have:=of_decide_eq_true h2;omega
  · have:=of_decide_eq_true h1;have:=of_decide_eq_true h2;exact decide_eq_true (by omega)
  · simp;omega
theorem Mc {t:Tsk} {s:List Int} (hp:PreOk t) (hs:StateOk t.vars s):findL t (treeOf t) s=appl t s:=by
  unfold findL
  rw [if_pos (Bl hs)]
  refine Mb ?_ (Ll t s)
  rw [OB hp]
  exact (KC hp hs _ _ 0 (Nat.zero_le _) (by omega)).1
theorem MD {t:Tsk} {s:List Int} (hp:PreOk t) (hs:StateOk t.vars s):Fits s (treeOf t):=(KC hp hs _ _ 0 (Nat.zero_le _) (by omega)).2
theorem Nq (t:Tsk) (s:List Int):∀ (fuel:Nat) (ops:List Int) (v:Nat),(coll s (mkT t fuel ops v)).length≤ops.length:=by
  intro fuel
  induction fuel with
  | zero=>intro ops v;exact Nat.zero_le _
  | succ fuel ih =>
    intro ops v
    unfold mkT
    by_cases he:ops.isEmpty=true
    · rw [if_pos he];exact Nat.zero_le _
    rw [if_neg he]
    by_cases hn:nextV t ops v=t.vars.length
    · rw [if_pos hn];exact Nat.le_refl _
    rw [if_neg hn,coll,List.length_append]
    refine Nat.le_trans (Nat.add_le_add (ih _ _) (ih _ _)) ?_
    generalize nextV t ops v=u
    generalize atN s u=x
    clear he hn ih
    induction ops with
    | nil=>simp
    | cons op ops ih2 =>
      have hac:valB t u x op=true→restB t u op=false:=by
        unfold valB restB
        cases factOn (preOf t op) (u:Int)<;>simp
      rw [List.filter_cons,List.filter_cons]
      cases ha:valB t u x op
      · cases hc:restB t u op<;>simp<;>omega
      · rw [hac ha];simp;omega
theorem IU (t:Tsk):(allOps t).length=t.ops.length:=by simp [allOps]
theorem Nr (t:Tsk) (s:List Int):(coll s (treeOf t)).length≤t.ops.length:=by
  have:=Nq t s (t.vars.length + 1) (allOps t) 0
  rwa [IU] at this
end
section
open Go Go.RowKit
attribute [local irreducible] ewp owp hwp hwq hws Ev Evg Fn retPost loud loudS Res1
theorem Lm:∀ k,((List.range (k + 1)).map fun i:Nat=>(i:Int))=((List.range k).map fun i:Nat=>(i:Int)) ++ [(k:Int)]:=fun k=>by
  rw [List.range_succ,List.map_append];rfl
theorem genNew {w:World} {tv:Value} {t:Tsk} (ht:V w tv t):Fn Tryz.prog 24 [tv] w fun v w'=>Ext w w' ∧
    ((TaskOk t∧∃ gv,v=.tuple #[gv,.nilIface]∧GenR w' (nw w w') gv t (treeOf t))∨(¬ TaskOk t∧v=.tuple #[.pointer none,errV (checkN t)])):=by
  have ht0:=ht
  obtain ⟨cs,rfl,a,b,c,d,rfl,hvars,hinit,hgoal,hops⟩:=ht
  refine AQ Tryz.func24 rfl Tryz.ntmps24 rfl ?_
  repeat (first|refine Aw ?_|refine Ah rfl ?_|refine Ae rfl ?_)
  refine DI rfl rfl fun w1 hN1=>?_
  have hE1:Ext w w1:=hN1.ext
  have hb1:Blk w1 w.heap.size 26 [a,b,c,d]:=hN1.blk
  have ht1:=ht0.ext hE1
  (refine Ay rfl rfl ?_<;>refine Ay rfl rfl ?_<;>(refine o_z ?_))
  repeat (first|refine Aw ?_|refine Ah rfl ?_|refine Ae rfl ?_)
  (refine Br rfl rfl ?_)
  refine Bo rfl rfl (taskCheck ht1) ?_
  rintro _ w2 ⟨rfl,hE2⟩
  have hE02:Ext w w2:=hE1.trans' hE2
  have hb1:=hb1.ext hE2
  by_cases hok:TaskOk t
  case neg =>
    have hne:checkN t≠0:=fun h=>hok (Dj.1 h)
    rw [GC hne]
    (refine Ay rfl rfl ?_<;>(refine o_z ?_))
    repeat (first|refine Aw ?_|refine Ah rfl ?_|refine Ae rfl ?_)
    ((repeat (first|refine Aw ?_|refine Ah rfl ?_|refine Ae rfl ?_))<;>(refine Ar rfl rfl ?_<;>(first|refine Pl rfl rfl ?_|refine Pm rfl rfl ?_)<;>(refine o_z ?_))<;>(repeat (first|refine Aw ?_|refine Ah rfl ?_|refine Ae rfl ?_)))
    ((repeat (first|refine Aw ?_|refine Ah rfl ?_|refine Ae rfl ?_))<;>(refine Ar rfl rfl ?_<;>refine Ay rfl rfl ?_<;>refine Ay rfl rfl ?_<;>(refine o_z ?_))<;>(repeat (first|refine Aw ?_|refine Ah rfl ?_|refine Ae rfl ?_)))
    exact ret2 rfl (AO rfl) (AO rfl) ⟨hE02,.inr ⟨hok,rfl⟩⟩
  rw [Dj.2 hok,FW]
  (refine Ay rfl rfl ?_<;>(refine o_z ?_))
  repeat (first|refine Aw ?_|refine Ah rfl ?_|refine Ae rfl ?_)
  ((repeat (first|refine Aw ?_|refine Ah rfl ?_|refine Ae rfl ?_))<;>(refine Ar rfl rfl ?_<;>(first|refine Pl rfl rfl ?_|refine Pm rfl rfl ?_)<;>(refine o_z ?_))<;>(repeat (first|refine Aw ?_|refine Ah rfl ?_|refine Ae rfl ?_)))
  have hpre:=hok.pre
  have hl1:t.vars.length≤64:=hok.1
  have hl4:t.ops.length≤4096:=hok.2.1
  have hcp:=genCopied (ht1.ext hE2) (by omega) (by rw [hok.2.2.2.1.1];omega) (by have:=Ew hok.2.2.2.2.1;omega) (by omega) (fun i o ho=>by
    obtain ⟨_,_,h3,_,h5,h6⟩:=hok.2.2.2.2.2 i o ho
    exact ⟨by have:=Ew h5;omega,by omega,fun j e he=>by have:=Ew (h6 j e he).1;omega⟩)
  (refine Br rfl rfl ?_)
  refine Bo rfl rfl hcp ?_
  rintro cvv w3 ⟨hcv,hE3⟩
  obtain ⟨cs',rfl,a',b',c',d',rfl,hvars',hinit',hgoal',hops'⟩:=hcv
  (refine CG rfl rfl rfl ?_)
  refine DI rfl rfl fun w4 hN4=>?_
  have hbg:Blk w4 w3.heap.size 107 [a',b',c',d',.pointer none]:=hN4.blk
  have hE34:Ext w3 w4:=hN4.ext
  have s2:=hE02.size
  have s3:=hE3.size
  have s4:w4.heap.size=w3.heap.size + 1:=hN4.size
  obtain ⟨Ao,co,rfl⟩:=hops'.form
  (refine Ay rfl rfl ?_<;>(refine o_z ?_))
  repeat (first|refine Aw ?_|refine Ah rfl ?_|refine Ae rfl ?_)
  ((repeat (first|refine Aw ?_|refine Ah rfl ?_|refine Ae rfl ?_))<;>(refine Ay rfl rfl ?_<;>(refine o_z ?_))<;>(repeat (first|refine Aw ?_|refine Ah rfl ?_|refine Ae rfl ?_)))
  clear hb1
  have hb1:=hbg
  ((repeat (first|refine Aw ?_|refine Ah rfl ?_|refine Ae rfl ?_))<;>(refine Ar rfl rfl ?_<;>refine Dc rfl rfl ?_<;>refine AV rfl rfl ?_<;>refine AV rfl rfl ?_<;>refine AP rfl rfl ?_<;>refine Bj rfl rfl ?_<;>refine Ar rfl rfl ?_<;>(refine o_z ?_))<;>(repeat (first|refine Aw ?_|refine Ah rfl ?_|refine Ae rfl ?_)))
  refine BU t.ops.length (by omega) (fun v:Value=>[(1,.pointer (some ⟨w.heap.size,0,none⟩)),(5,.pointer (some ⟨w3.heap.size,0,none⟩)),(6,v)]) (fun k v w'=>Ext w4 w'∧Own w' w4.heap.size (fun _=>False) 3 v ((List.range k).map fun i:Nat=>(i:Int))) (.slice none 0 0)
    ⟨Below.refl _ _,Own.nil _ _ _ _⟩ ⟨rfl,rfl,rfl,rfl,rfl,trivial⟩ (fun _=>⟨rfl,rfl⟩) ⟨rfl,rfl,rfl⟩ ⟨rfl,rfl⟩ ?_ ?_
  · rintro k v w5 hk ⟨hE5,hown⟩
    ((repeat (first|refine Aw ?_|refine Ah rfl ?_|refine Ae rfl ?_))<;>(refine Ar rfl rfl ?_<;>refine Ay rfl rfl ?_<;>(refine o_z ?_))<;>(repeat (first|refine Aw ?_|refine Ah rfl ?_|refine Ae rfl ?_)))
    (refine Ar rfl rfl ?_<;>refine Ar rfl rfl ?_)
    refine Eu (a:=(k:Int)) rfl rfl rfl hown (fun _ h=>h.elim) hE5.size ⟨rfl,by omega,by omega⟩ (by decide) (by decide) (by simp;omega) (by simp;omega) ⟨rfl,rfl⟩ fun v' w6 hown6 hK=>?_
    (refine Ay rfl rfl ?_<;>(refine o_z ?_))
    repeat (first|refine Aw ?_|refine Ah rfl ?_|refine Ae rfl ?_)
    exact ⟨v',⟨rfl,rfl,rfl,rfl,rfl,trivial⟩,hE5.trans (hown.fits (Nat.le_refl _) hE5.size hK),by rw [Lm];exact hown6⟩
  rintro v w5 ⟨hE5,hown⟩
  have s5:=hE5.size
  have hE35:=hE34.trans' hE5
  have hbg5:=hbg.ext hE5
  have hB5:GenB w5 (All w5) (.pointer (some ⟨w3.heap.size,0,none⟩)) t:=⟨_,_,_,_,_,_,rfl,by show _ < _;omega,hbg5,(hvars'.agree (hE35.agree fun _ h=>h.2)).mono fun k hk=>by have:=hk.2;show _ < _;omega,(hinit'.agree (hE35.agree fun _ h=>h.2)).mono fun k hk=>by have:=hk.2;show _ < _;omega,(hgoal'.agree (hE35.agree fun _ h=>h.2)).mono fun k hk=>by have:=hk.2;show _ < _;omega,(hops'.agree (hE35.agree fun _ h=>h.2)).mono fun k hk=>by have:=hk.2;show _ < _;omega⟩
  have hov:Vb w5 (nw w4 w5) v (allOps t):=hown.vb.mono fun k hk=>hown.lt k (hk.resolve_left id)
  have hbuild:=genBuild t hok.vars hok.fits hl1 (t.vars.length + 1) w5 _ v (allOps t) 0 (nw w4 w5) hB5 hov (fun k hk=>hk.2) (fun op hop=>by
    obtain ⟨i,hi,rfl⟩:=List.mem_map.1 hop
    have:=List.mem_range.1 hi
    exact ⟨by omega,by omega⟩) (by rw [IU];omega) (Nat.zero_le _) (by omega)
  repeat (first|refine Aw ?_|refine Ah rfl ?_|refine Ae rfl ?_)
  (refine Ar rfl rfl ?_<;>refine Ar rfl rfl ?_<;>refine Ar rfl rfl ?_)
  refine Bo rfl rfl hbuild ?_
  rintro p w6 ⟨hT,hE6⟩
  obtain ⟨rp,rfl⟩:=hT.form
  have s6:=hE6.size
  (refine Dc rfl rfl ?_<;>refine AV rfl rfl ?_)
  refine BT rfl rfl (hbg5.ext hE6) rfl (Nat.le_refl _) (by simp [Value.cells,Value.oneCell']) fun w7 hU=>?_
  ((refine o_z ?_))
  repeat (first|refine Aw ?_|refine Ah rfl ?_|refine Ae rfl ?_)
  ((repeat (first|refine Aw ?_|refine Ah rfl ?_|refine Ae rfl ?_))<;>(refine Ar rfl rfl ?_<;>refine Ay rfl rfl ?_<;>refine Ay rfl rfl ?_<;>(refine o_z ?_))<;>(repeat (first|refine Aw ?_|refine Ah rfl ?_|refine Ae rfl ?_)))
  have hE36:=hE35.trans' hE6
  have s7:=hU.size
  have hcl:∀ {α:Type} [Rp α] {v:Value} {x:α},Vb w3 (nw w2 w3) v x→Vb w7 (nw w w7) v x:=fun h=>((h.agree (hE36.agree fun _ h=>h.2)).agree fun q hq=>hU.other q (by have:=hq.2;omega)).mono fun k hk=>⟨by have:=hk.1;omega,by have:=hk.2;omega⟩
  refine ret2 rfl (AO rfl) (AO rfl) ⟨(((hE02.trans' hE3).trans' hE36).trans (hU.below (by omega))),.inl ⟨hok,_,rfl,_,_,_,_,_,_,rfl,⟨by omega,by omega⟩,hU.blk,hcl hvars',hcl hinit',hcl hgoal',hcl hops',?_⟩⟩
  refine TrR.mono (fun k hk=>?_) (TrR.agree (fun q hq=>hU.other q ?_) hT)
  · rcases hk with hk|hk
    · exact ⟨by have:=hk.1;omega,by have:=hk.2;omega⟩
    · exact ⟨by omega,by omega⟩
  · rcases hq with hk|hk
    · have:=hk.1;omega
    · omega
end
section
open Go Go.RowKit
theorem TaskOk.effs {t:Tsk} (h:TaskOk t) {s:List Int} (hs:StateOk t.vars s):∀ (i:Nat) o,t.ops[i]?=some o→EffsIn s o.effs:=fun i o ho j e he=>by
  obtain ⟨h1,_,y,hy,_⟩:=((h.2.2.2.2.2 i o ho).2.2.2.2.2 j e he).2
  refine ⟨h1,?_⟩
  have:=(List.getElem?_eq_some_iff.1 hy).1
  rw [hs.1]
  simp only at h1 this
  omega
end
section
open Go Go.RowKit
attribute [local irreducible] ewp owp hwp hwq hws Ev Evg Fn retPost loud loudS Res1
theorem GenR.mono {w:World} {F G:Nat→Prop} {gv:Value} {t:Tsk} {T:Tr} (h:GenR w F gv t T) (hk:∀ k,F k→G k):GenR w G gv t T:=by
  obtain ⟨gb,a,b,c,d,r,h1,h2,h3,h4,h5,h6,h7,h8⟩:=h
  exact ⟨gb,a,b,c,d,r,h1,hk _ h2,h3,h4.mono hk,h5.mono hk,h6.mono hk,h7.mono hk,TrR.mono hk h8⟩
theorem GenR.agree {w w':World} {F:Nat→Prop} {gv:Value} {t:Tsk} {T:Tr} (h:GenR w F gv t T) (ha:Agree F w w'):GenR w' F gv t T:=by
  obtain ⟨gb,a,b,c,d,r,h1,h2,h3,h4,h5,h6,h7,h8⟩:=h
  exact ⟨gb,a,b,c,d,r,h1,h2,h3.keep (ha gb h2),h4.agree ha,h5.agree ha,h6.agree ha,h7.agree ha,TrR.agree ha h8⟩
theorem GenR.form {w:World} {F:Nat→Prop} {gv:Value} {t:Tsk} {T:Tr} (h:GenR w F gv t T):∃ gb,gv=.pointer (some ⟨gb,0,none⟩):=by
  obtain ⟨gb,a,b,c,d,r,h1,_⟩:=h
  exact ⟨gb,h1⟩
noncomputable def appS (t:Tsk) (s:List Int):List Int:=if bof (StateOk t.vars s)=true then appl t s else []
theorem HJ {t:Tsk} {s:List Int} (h:StateOk t.vars s):appS t s=appl t s:=by unfold appS;rw [if_pos (Bl h)]
theorem Jm {t:Tsk} {s:List Int} (h:¬ StateOk t.vars s):appS t s=[]:=by unfold appS;rw [Bh h];rfl
theorem Md {t:Tsk} (hp:PreOk t) (s:List Int):findL t (treeOf t) s=appS t s:=by
  by_cases h:StateOk t.vars s
  · rw [Mc hp h,HJ h]
  · rw [Jm h];unfold findL;rw [Bh h];rfl
theorem KD {t:Tsk} {s:List Int} {x:Int} (h:x∈appl t s):∃ (j:Nat) (o:Opr),x=(j:Int)∧t.ops[j]?=some o∧holdsB o.pre s=true:=by
  unfold appl applK at h
  obtain ⟨j,hj,rfl⟩:=List.mem_map.1 h
  obtain ⟨h1,h2⟩:=List.mem_filter.1 hj
  obtain ⟨o,ho⟩:=AN (List.mem_range.1 h1)
  rw [ho] at h2
  exact ⟨j,o,rfl,ho,h2⟩
theorem Ns {t:Tsk} {s:List Int} {x:Int} (h:x∈appS t s):StateOk t.vars s∧x∈appl t s:=by
  by_cases hs:StateOk t.vars s
  · rw [HJ hs] at h;exact ⟨hs,h⟩
  · rw [Jm hs] at h;cases h
theorem KE (t:Tsk) (s:List Int):(appl t s).length≤t.ops.length:=MA t s _
theorem Nt (t:Tsk) (s:List Int):(appS t s).length≤t.ops.length:=by
  by_cases hs:StateOk t.vars s
  · rw [HJ hs];exact KE t s
  · rw [Jm hs];exact Nat.zero_le _
section
variable {w : World} {gv sv : Value} {t : Tsk} {s : List Int}
theorem applT (hok:TaskOk t) (hg:GenR w (All w) gv t (treeOf t)) (hs:V w sv s) (hsl:s.length≤1000000) :
    Fn Tryz.prog 65 [gv,sv] w fun v w'=>Ext w w'∧Own w' w.heap.size (All w) 3 v (appS t s):=by
  have:=genApplicable hg hs (MD hok.pre) (by have:=Nr t s;have:=hok.2.1;omega) hsl
  rwa [Md hok.pre] at this
end
theorem nilFind {w:World} {sv:Value}:Fn Tryz.prog 92 [.pointer none,sv] w fun v w'=>v=.tuple #[.slice none 0 0,.int .i64 0]∧Ext w w':=by
  refine AQ Tryz.func92 rfl Tryz.ntmps92 rfl ?_
  ((repeat (first|refine Aw ?_|refine Ah rfl ?_|refine Ae rfl ?_))<;>(refine Ay rfl rfl ?_<;>refine Ay rfl rfl ?_<;>(refine o_z ?_))<;>(repeat (first|refine Aw ?_|refine Ah rfl ?_|refine Ae rfl ?_)))
  (refine Ar rfl rfl ?_<;>refine Kp rfl rfl ?_<;>refine Ar rfl rfl ?_<;>(first|(refine AE rfl rfl ?_;refine Ar rfl rfl ?_)|refine AC rfl rfl rfl rfl ?_)<;>(first|(refine AE rfl rfl ?_;refine Dc rfl rfl ?_)|refine AC rfl rfl rfl rfl ?_)<;>(first|(refine AE rfl rfl ?_;refine AV rfl rfl ?_)|refine AC rfl rfl rfl rfl ?_)<;>(first|(refine AE rfl rfl ?_;refine AV rfl rfl ?_)|refine AC rfl rfl rfl rfl ?_)<;>(first|(refine AE rfl rfl ?_;refine AP rfl rfl ?_)|refine AC rfl rfl rfl rfl ?_)<;>(first|(refine AE rfl rfl ?_;refine Ar rfl rfl ?_)|refine AC rfl rfl rfl rfl ?_))
  refine AC rfl rfl rfl rfl ?_
  ((first|(refine AE rfl rfl ?_;(first|refine DK rfl rfl ?_|refine DL rfl rfl ?_|refine Fs rfl rfl ?_))|refine AC rfl rfl rfl rfl ?_)<;>(first|refine BF rfl rfl rfl ?_|refine BN rfl rfl rfl ?_)<;>(refine o_z ?_))
  repeat (first|refine Aw ?_|refine Ah rfl ?_|refine Ae rfl ?_)
  ((repeat (first|refine Aw ?_|refine Ah rfl ?_|refine Ae rfl ?_))<;>(refine Ay rfl rfl ?_<;>refine Ay rfl rfl ?_<;>(refine o_z ?_))<;>(repeat (first|refine Aw ?_|refine Ah rfl ?_|refine Ae rfl ?_)))
  exact ret2 rfl (AO rfl) (AO rfl) ⟨rfl,Below.refl _ _⟩
theorem nilApplicable {w:World} {sv:Value}:Fn Tryz.prog 65 [.pointer none,sv] w fun v w'=>v=.slice none 0 0∧Ext w w':=by
  refine AQ Tryz.func65 rfl Tryz.ntmps65 rfl ?_
  ((repeat (first|refine Aw ?_|refine Ah rfl ?_|refine Ae rfl ?_))<;>(refine Ay rfl rfl ?_<;>(refine o_z ?_))<;>(repeat (first|refine Aw ?_|refine Ah rfl ?_|refine Ae rfl ?_))<;>(refine Ar rfl rfl ?_<;>refine Ar rfl rfl ?_)<;>(repeat (first|refine Aw ?_|refine Ah rfl ?_|refine Ae rfl ?_)))
  refine Bo rfl rfl nilFind ?_
  rintro _ w1 ⟨rfl,hE⟩
  (refine Ar rfl rfl ?_<;>refine Cy rfl rfl rfl ?_<;>refine Cy rfl rfl rfl ?_<;>refine Ay rfl rfl ?_<;>refine Ay rfl rfl ?_<;>(refine o_z ?_))
  repeat (first|refine Aw ?_|refine Ah rfl ?_|refine Ae rfl ?_)
  ((repeat (first|refine Aw ?_|refine Ah rfl ?_|refine Ae rfl ?_))<;>(refine Ar rfl rfl ?_<;>refine Ay rfl rfl ?_<;>(refine o_z ?_))<;>(repeat (first|refine Aw ?_|refine Ah rfl ?_|refine Ae rfl ?_)))
  exact ret1 rfl rfl ⟨rfl,hE⟩
end
section
open Go Go.RowKit
attribute [local irreducible] ewp owp hwp hwq hws Ev Evg Fn retPost loud loudS Res1
structure Gnr where
  t:Tsk
def GnrR (w:World) (F:Nat→Prop) (v:Value):Option Gnr→Prop
  | none=>v=.pointer none
  | some g=>TaskOk g.t∧GenR w F v g.t (treeOf g.t)
theorem GnrR.one {w:World} {F:Nat→Prop} {v:Value}:∀ {x:Option Gnr},GnrR w F v x→v.oneCell'=true
  | none,h=>by    have:v=.pointer none:=h
                  subst this;rfl
  | some g,h=>by
    obtain ⟨gb,rfl⟩:=h.2.form
    rfl
instance:Rp (Option Gnr) where
  isAgg:=false
  size:=1
  R w F cs x:=∃ v,cs=[v]∧GnrR w F v x
  len:=by rintro w F cs x ⟨v,rfl,_⟩;rfl
  one:=by
    rintro w F cs x ⟨v,rfl,h⟩ u hu
    have:u=v:=by simpa using hu
    subst this;exact h.one
  agree:=by
    rintro w w' F cs x ⟨v,rfl,h⟩ ha
    refine ⟨v,rfl,?_⟩
    cases x with
    | none=>exact h
    | some g=>exact ⟨h.1,h.2.agree ha⟩
  mono:=by
    rintro w F G cs x ⟨v,rfl,h⟩ hk
    refine ⟨v,rfl,?_⟩
    cases x with
    | none=>exact h
    | some g=>exact ⟨h.1,h.2.mono hk⟩
theorem vNone {w:World} {F:Nat→Prop}:Vb w F (.pointer none) (none:Option Gnr):=⟨_,rfl,rfl⟩
theorem Vb.gnr {w:World} {F:Nat→Prop} {v:Value} {x:Option Gnr} (h:Vb w F v x):GnrR w F v x:=by
  obtain ⟨u,hu,h'⟩:=h
  have:v=u:=by simpa using hu
  subst this;exact h'
theorem Vb.ptr {w:World} {F:Nat→Prop} {v:Value} {x:Option Gnr} (h:Vb w F v x):∃ p,v=.pointer p∧p.isNone=x.isNone:=by
  cases x with
  | none=>exact ⟨none,h.gnr,rfl⟩
  | some g=>obtain ⟨gb,rfl⟩:=h.gnr.2.form;exact ⟨_,rfl,rfl⟩
theorem Nu {w:World} {F:Nat→Prop} {p:Option Addr} {x:Option Gnr} {g:Gnr} (h:Vb w F (.pointer p) x) (e:x=some g) :
    ∃ gb a b c d r,p=some ⟨gb,0,none⟩∧F gb∧cellsAt w gb 0 [a,b,c,d,r]∧Vb w F a g.t.vars∧Vb w F b g.t.init∧Vb w F c g.t.goal∧Vb w F d g.t.ops:=by
  subst e
  obtain ⟨_,gb,a,b,c,d,r,h1,h2,h3,h4,h5,h6,h7,_⟩:=h.gnr
  injection h1 with h1
  exact ⟨gb,a,b,c,d,r,h1,h2,h3.cellsAt,h4,h5,h6,h7⟩
theorem vGnr {w:World} {F:Nat→Prop} {v:Value} {g:Gnr} (h:TaskOk g.t) (hg:GenR w F v g.t (treeOf g.t)):Vb w F v (some g):=⟨v,rfl,h,hg⟩
theorem OC {A:Nat→Prop} {w w':World}:∀ k,nw w w' k→upA A w w' k:=fun _ h=>.inr h
theorem Own.intRow {w w':World} {F A:Nat→Prop} {e:TypeId} {v:Value} {xs:List Int} (h:Own w' w.heap.size F e v xs):RowR w w' (upA A w w') e v xs:=by
  obtain ⟨cells,q1,q2,q3⟩:=h
  exact ⟨fun _=>False,fun _ h=>h.elim,cells,q1,Gg q2,fun _ _ h=>h⟩
noncomputable def DZ (t:Tsk):Option (Option Gnr×Err):=some (if bof (TaskOk t)=true then some ⟨t⟩ else none,⟨checkN t⟩)
theorem JV {w:World} {A:Nat→Prop} (hA:∀ k,A k→k < w.heap.size) {v0:Value} {x0:Tsk} (h0:Vb w A v0 x0) {r:Option Gnr×Err} (hm:DZ x0=some r):Fn Tryz.prog 24 [v0] w fun v w'=>Ext w w'∧T2 w' (upA A w w') v r:=by
  obtain rfl:=sm hm
  refine (genNew (h0.mono hA)).mono fun v w' h=>⟨h.1,?_⟩
  rcases h.2 with ⟨hok,gv,rfl,hg⟩|⟨hno,rfl⟩
  · rw [Bl hok,Dj.2 hok]
    exact ⟨gv,_,rfl,vGnr (g:=⟨x0⟩) hok (hg.mono OC),vErr0⟩
  · rw [Bh hno]
    exact ⟨_,_,rfl,vNone,vErr (IO _)⟩
noncomputable def appG:Option Gnr→List Int→List Int
  | none,_=>[]
  | some g,s=>appS g.t s
noncomputable def CJ (x:Option Gnr) (s:List Int):Option (List Int):=if s.length≤1000000 then some (appG x s) else none
theorem ES {w:World} {A:Nat→Prop} (hA:∀ k,A k→k < w.heap.size) {v0:Value} {x0:Option Gnr} (h0:Vb w A v0 x0) {v1:Value} {x1:List Int} (h1:Vb w A v1 x1) {r:List Int} (hm:CJ x0 x1=some r) :
    Fn Tryz.prog 65 [v0,v1] w fun v w'=>Ext w w'∧RowR w w' (upA A w w') 3 v r:=by
  obtain ⟨hl,rfl⟩:=Ie hm
  cases x0 with
  | none =>
    have h2:=h0.gnr
    have:v0=.pointer none:=h2
    subst this
    refine nilApplicable.mono fun v w' h=>⟨h.2,?_⟩
    rw [h.1];exact RowR.nil
  | some g =>
    obtain ⟨hok,hg⟩:=h0.gnr
    exact (applT hok (hg.mono hA) (h1.mono hA) hl).mono fun v w' h=>⟨h.1,h.2.intRow⟩
end
section
section
variable {α σ ρ : Type}
theorem BW {s:σ} {f:σ→Option ρ}:fin (.done s) f=f s:=rfl
theorem HK {c:ρ} {f:σ→Option ρ}:fin (.ret c) f=some c:=rfl
theorem BD {x y:α}:(if true=true then x else y)=x:=rfl
theorem Cb {x y:α}:(if false=true then x else y)=y:=rfl
theorem Hs {f:Nat→α→σ→Option (Ctl σ ρ)} {I:Nat→σ→Prop} {R:ρ→Prop}:∀ (ys:List α) (j:Nat) (s:σ),I j s →
    (∀ k x s,ys[k]?=some x→I (j + k) s→(∃ s',f (j + k) x s=some (.next s')∧I (j + k + 1) s')∨(∃ r,f (j + k) x s=some (.ret r)∧R r)) →
    (∃ s',rng f ys j s=some (.done s')∧I (j + ys.length) s')∨∃ r,rng f ys j s=some (.ret r)∧R r
  | [],j,s,h0,_=>.inl ⟨s,rfl,h0⟩
  | y :: ys,j,s,h0,h=>by
    rcases h 0 y s rfl h0 with ⟨s',h1,h2⟩|⟨r,h1,h2⟩
    · have h1':f j y s=some (.next s'):=h1
      simp only [rng,h1']
      rcases Hs (I:=I) (R:=R) ys (j + 1) s' h2 (fun k x s hk hI=>by
        have:=h (k + 1) x s (by simpa using hk) (by rwa [show j + (k + 1)=j + 1 + k from by omega])
        rwa [show j + (k + 1)=j + 1 + k from by omega] at this) with ⟨s2,h3,h4⟩|h3
      · exact .inl ⟨s2,h3,by rw [List.length_cons,show j + (ys.length + 1)=j + 1 + ys.length from by omega];exact h4⟩
      · exact .inr h3
    · have h1':f j y s=some (.ret r):=h1
      simp only [rng,h1']
      exact .inr ⟨r,rfl,h2⟩
theorem Jn {f:Nat→α→σ→Option (Ctl σ ρ)} {xs:List α} {s₀:σ} (I:Nat→σ→Prop) (R:ρ→Prop) (h0:I 0 s₀)
    (h:∀ k x s,xs[k]?=some x→I k s→(∃ s',f k x s=some (.next s')∧I (k + 1) s')∨(∃ r,f k x s=some (.ret r)∧R r)) :
    (∃ s',rng f xs 0 s₀=some (.done s')∧I xs.length s')∨∃ r,rng f xs 0 s₀=some (.ret r)∧R r:=by
  have:=Hs (f:=f) (I:=I) (R:=R) xs 0 s₀ h0 (fun k x s hk hI=>by rw [Nat.zero_add] at hI ⊢;exact h k x s hk hI)
  rwa [Nat.zero_add] at this
theorem DP {f:Nat→α→σ→Option (Ctl σ ρ)} {xs:List α} {s₀:σ} (I:Nat→σ→Prop) (h0:I 0 s₀) (h:∀ k x s,xs[k]?=some x→I k s→∃ s',f k x s=some (.next s')∧I (k + 1) s') :
    ∃ s',rng f xs 0 s₀=some (.done s')∧I xs.length s':=by
  rcases Jn I (fun _=>False) h0 (fun k x s hk hI=>.inl (h k x s hk hI)) with h|⟨_,_,h⟩
  · exact h
  · exact h.elim
theorem Jo {f:Nat→α→σ→Option (Ctl σ ρ)} {xs:List α} (g:Nat→σ) (h:∀ k x,xs[k]?=some x→f k x (g k)=some (.next (g (k + 1)))):rng f xs 0 (g 0)=some (.done (g xs.length)):=by
  obtain ⟨s',h1,h2⟩:=DP (f:=f) (xs:=xs) (s₀:=g 0) (fun k s=>s=g k) rfl (fun k x s hk hI=>⟨_,by rw [hI];exact h k x hk,rfl⟩)
  rw [h1,h2]
theorem Fa {f:Nat→α→σ→Option (Ctl σ ρ)} {xs:List α} {s₀:σ} (g:Nat→σ) (h0:s₀=g 0) (h:∀ k x,xs[k]?=some x→f k x (g k)=some (.next (g (k + 1)))):rng f xs 0 s₀=some (.done (g xs.length)):=by
  rw [h0];exact Jo g h
theorem Nv {f:Nat→α→Unit→Option (Ctl Unit ρ)} {xs:List α} (h:∀ k x,xs[k]?=some x→f k x ()=some (.next ())):rng f xs 0 ()=some (.done ()):=Jo (fun _=>()) h
theorem Nw {f:Nat→σ→Option (Ctl σ ρ)} {N:Nat} (g:Nat→σ) (h:∀ k,k < N→f k (g k)=some (.next (g (k + 1)))):rngN f N (g 0)=some (.done (g N)):=by
  have:=Jo (f:=fun _ k s=>f k s) (xs:=List.range N) g (fun k x hk=>by
    obtain ⟨hlt,rfl⟩:=List.getElem?_eq_some_iff.1 hk
    simpa using h k (by simpa using hlt))
  rwa [List.length_range] at this
theorem Ht {f:Nat→σ→Option (Ctl σ ρ)} {N:Nat} {s₀:σ} (g:Nat→σ) (h0:s₀=g 0) (h:∀ k,k < N→f k (g k)=some (.next (g (k + 1)))):rngN f N s₀=some (.done (g N)):=by
  rw [h0];exact Nw g h
theorem Nx {f:Nat→σ→Option (Ctl σ ρ)} {N:Nat} {s₀:σ} (I:Nat→σ→Prop) (h0:I 0 s₀) (h:∀ k s,k < N→I k s→∃ s',f k s=some (.next s')∧I (k + 1) s') :
    ∃ s',rngN f N s₀=some (.done s')∧I N s':=by
  have:=DP (f:=fun _ k s=>f k s) (xs:=List.range N) (s₀:=s₀) I h0 (fun k x s hk hI=>by
    obtain ⟨hlt,rfl⟩:=List.getElem?_eq_some_iff.1 hk
    simpa using h k s (by simpa using hlt) hI)
  rwa [List.length_range] at this
end
end
section
open Go Go.RowKit
theorem GH (f:List Fct) (s:List Int):DM f s=some (holdsB f s):=rfl
theorem KF {ρ:Type} {s:List Int} {effs:List Eff} (he:EffsIn s effs) (m:List Fct→List Int→Option Bool) (hm:∀ f s,m f s=some (holdsB f s)) (u:List Int) (hu:u.length=s.length) :
    rng (ρ:=ρ) (fun (_:Nat) (e:Eff) (out:List Int)=>bnd (m e.cond s) fun q=>if q=true then bnd (atI out e.var) fun _=>some (.next (out.set (e.var).toNat e.val)) else some (.next out)) effs 0 u=some (.done (effsOn s effs u)):=by
  rw [Fa (fun k=>effsOn s (effs.take k) u) ?_ ?_,List.take_length]
  · rfl
  intro k e hk
  rw [hm,Am,Li s hk]
  have hin:=he k e hk
  have hl:=GU s (effs.take k) u
  by_cases hb:holdsB e.cond s=true
  · rw [if_pos hb,if_pos hb]
    obtain ⟨j,hj⟩:=Int.eq_ofNat_of_zero_le hin.1
    rw [hj,Bi,List.getElem?_eq_getElem (by omega),Am]
  · rw [if_neg hb,if_neg hb]
theorem Ny {t:Tsk} {s:List Int} {j:Nat} {o:Opr} (ho:t.ops[j]?=some o) (hp:holdsB o.pre s=true) (hl:s.length≤1000000) (he:EffsIn s o.effs):CI t s (j:Int)=some (succ o s,true):=by
  have hj:=AL ho
  unfold CI
  rw [if_neg (by omega),if_neg (by omega),Bi,ho,Am,GH,Am,hp,BD,Am,Cb,Cm (by simp;omega) (by simp;omega),Am,Am,List.nil_append,KF he DM GH s rfl,Am,BW]
  rfl
theorem JG {vars s:List Int}:∀ (l:List Eff),(∀ e∈l,EffOk vars e)→∀ (u:List Int),StateOk vars u→StateOk vars (effsOn s l u)
  | [],_,_,hu=>hu
  | e :: l,he,u,hu=>by
    refine JG l (fun e' h'=>he e' (List.mem_cons_of_mem _ h')) _ ?_
    split
    · obtain ⟨_,h1,h2,y,hy,h3⟩:=he e List.mem_cons_self
      refine ⟨by rw [List.length_set];exact hu.1,fun i x n hx hn=>?_⟩
      rw [List.getElem?_set] at hx
      by_cases hi:e.var.toNat=i
      · subst hi
        rw [if_pos rfl] at hx
        split at hx
        · obtain rfl:=Option.some.inj hx
          simp only at hy h2 h3
          rw [hy] at hn
          obtain rfl:=Option.some.inj hn
          exact ⟨h2,h3⟩
        · cases hx
      · rw [if_neg hi] at hx
        exact hu.2 i x n hx hn
    · exact hu
theorem EM {t:Tsk} (h:TaskOk t) {s:List Int} (hs:StateOk t.vars s) {k:Nat} {o:Opr} (ho:t.ops[k]?=some o):StateOk t.vars (succ o s) :=
  JG o.effs (fun e he=>by obtain ⟨j,hj⟩:=List.getElem?_of_mem he;exact (h.2.2.2.2.2 k o ho).2.2.2.2.2 j e hj) s hs
theorem ME {t:Tsk} (h:TaskOk t) {s:List Int} (hs:StateOk t.vars s) {k:Nat} {o:Opr} (ho:t.ops[k]?=some o):CI t s (k:Int)=some (if holdsB o.pre s=true then (succ o s,true) else ([],false)):=by
  have hk:=AL ho
  by_cases hp:holdsB o.pre s=true
  · rw [Ny ho hp (by have:=hs.1;have:=h.1;omega) (h.effs hs k o ho),if_pos hp]
  · unfold CI
    rw [if_neg (by omega),if_neg (by omega),Bi,ho,Am,GH,Am,if_neg hp,if_neg hp,Am,BD]
end
section
open Go Go.RowKit
section
attribute [local irreducible] ewp owp hwp hwq hws Ev Evg Fn retPost loud loudS Res1
noncomputable def BA (x0:Option Gnr) (x1:List Int):Option (List Suc) :=
  bnd (CJ x0 x1) fun q7=>bnd (rng (ρ:=(List Suc)) (fun (k23:Nat) (a24:Int) (s21:(List Suc))=>bnd (Cf x1) fun q46=>bnd (x0) fun o56=>bnd (atI o56.t.ops a24) fun a88=>bnd (rng (ρ:=Ctl (List Suc) (List Suc)) (fun (k115:Nat) (a116:Eff) (s113:(List Int))=>bnd (DN a116.cond x1) fun q150=>if q150=true then bnd (atI s113 a116.var) fun a157=>some (.next (s113.set (a116.var:Int).toNat a116.val)) else some (.next s113)) a88.effs 0 q46) fun res111=>fin res111 fun (s175:(List Int))=>bnd (appI 32 s21 [(⟨a24,s175⟩:Suc)]) fun u179=>some (.next u179)) q7 0 ([]:List Suc)) fun res19=>fin res19 fun (s195:(List Suc))=>some s195
theorem ET {w:World} {A:Nat→Prop} (hA:∀ k,A k→k < w.heap.size) {vx0:Value} {x0:Option Gnr} (h0:Vb w A vx0 x0) {vx1:Value} {x1:List Int} (g0:Vb w A vx1 x1) {r:(List Suc)} (hm:BA x0 x1=some r) :
    Fn Tryz.prog 30 [vx0,vx1] w fun v w'=>Ext w w'∧Vb w' (upA A w w') v r:=by
 obtain ⟨O,hB,k3⟩:=enter hA
 replace h0:=h0.mono k3
 obtain ⟨p3,rfl,s3⟩:=h0.ptr
 replace g0:=g0.mono k3
 obtain ⟨A5,c6,rfl⟩:=g0.form
 refine AQ Tryz.func30 rfl Tryz.ntmps30 rfl ?_
 unfold BA at hm
 refine Al (Aj (Ay rfl rfl (o_z ?_)))
 refine Al (Aj (Ay rfl rfl (o_z ?_)))
 refine Al (Al (Aj (Ar rfl rfl (Ar rfl rfl ?_))))
 obtain ⟨q7,e8,hm⟩:=bs hm
 refine Hi 2 (by decide) (O:=O) (ES Fr.lt h0 g0 e8) rfl rfl fun e1 f1 w9 t3 b2 m0=>?_
 refine Bj rfl rfl ?_
 have e2:q7.length≤9223372036854775807:=Nat.le_trans m0.len.2.1 m0.len.2.2
 have q5:inI64 (q7.length:Int):=rngNat e2
 refine Ar rfl rfl (o_z ?_)
 obtain ⟨h1,f2,hm⟩:=bs hm
 refine AU (aft h1 (fun (n0:(List Suc)) (i0:(Option Addr×Nat))=>[(5,(.slice i0.1 n0.length i0.2))]) (fun n0 i0 w'=>∃ O':Lab,Bs w A w' O'∧Rw 5 w' O' 85 (.slice i0.1 n0.length i0.2) n0)) ?_ ?_
 ·
  refine Bf ?_
  replace hB:=hB.st b2
  replace h0:=h0.st b2
  replace g0:=g0.st b2
  refine BS (σ:=(List Suc)) (X:=(Option Addr×Nat)) (q7.length) f2 rfl e2 (fun (n0:(List Suc)) (i0:(Option Addr×Nat))=>[(0,(.pointer p3)),(1,(.slice A5 x1.length c6)),(5,(.slice i0.1 n0.length i0.2)),(13,(.slice e1 q7.length f1))]) _ (fun n0 i0 w'=>∃ O':Lab,Bs w A w' O'∧Vb w' (Fr 0 w' O') (.pointer p3) x0∧Vb w' (Fr 0 w' O') (.slice A5 x1.length c6) x1∧Rw 5 w' O' 85 (.slice i0.1 n0.length i0.2) n0∧Rw 2 w' O' 3 (.slice e1 q7.length f1) q7) _ (none,0) ⟨t3,hB,h0,g0,(Rw.nil 5 (by decide)),m0⟩ ⟨rfl,rfl,rfl,rfl,rfl,rfl,trivial⟩ (fun _ _=>⟨rfl,rfl⟩) (fun _ _=>⟨rfl,trivial⟩) (fun _ _ _ ⟨O',hB,h0,g0,j0,m0⟩=>⟨O',hB,j0⟩) ⟨rfl,rfl,rfl⟩ ⟨rfl,rfl⟩ ?_
  rintro g2 i1 n0 i0 r5 u3 j1 ⟨v3,hB,h0,g0,j0,m0⟩ e0 h2 i2
  have rk23:inI64 (g2:Int):=rngK j1 e2
  refine Al (Aj ?_)
  obtain ⟨s5,t5,w3,j2,k2,l2,rfl,x3⟩:=m0.elem j1
  refine BB (hA:=j2) (hj:=rfl) (hlt:=k2) rfl rfl rfl ?_
  refine AP (hc:=cat0 l2) rfl rfl ?_
  refine Ay rfl rfl (o_z ?_)
  refine Al (Aj (Ar rfl rfl ?_))
  obtain ⟨k1,y3,e0⟩:=bs e0
  refine Hi 3 (by decide) (O:=v3) (Ep Fr.lt g0 y3) rfl rfl fun l1 m1 u5 z3 r0 a4=>?_
  refine Ay rfl rfl (o_z ?_)
  refine Al (Al (Aj (Ar rfl rfl ?_)))
  obtain ⟨v5,l3,e0⟩:=bs e0
  obtain ⟨ad59,m2⟩:=Jk (s3.trans (by rw [l3];rfl))
  refine Qe (hA:=m2) rfl rfl ?_
  replace h0:=h0.st r0
  obtain ⟨w5,x5,y5,z5,a6,b6,n2,b4,o2,c4,d4,e4,m3⟩:=Nu h0 l3
  obtain ⟨d6,e6,rfl⟩:=c4.form
  obtain ⟨f6,g6,rfl⟩:=d4.form
  obtain ⟨h6,i6,rfl⟩:=e4.form
  obtain ⟨j6,k6,rfl⟩:=m3.form
  refine Qd (hA:=n2) rfl rfl ?_
  refine AV rfl rfl (AP (hc:=cat3 o2) rfl rfl ?_)
  refine Ar rfl rfl ?_
  obtain ⟨g1,f4,e0⟩:=bs e0
  obtain ⟨g4,h4⟩:=Ba f4
  obtain ⟨l6,m6,i4,p2,q2,r2,n6,j4,rfl,s2,k0,k4,l4⟩:=m3.elem' h4
  obtain ⟨m4,n4,rfl⟩:=s2.form
  obtain ⟨n1,o1,rfl⟩:=k0.form
  refine BB (hA:=p2) (hj:=(Int.toNat_of_nonneg g4).symm) (hlt:=q2) rfl rfl rfl ?_
  refine AV rfl rfl (AP (hc:=cat3 r2) rfl rfl ?_)
  refine Bj rfl rfl ?_
  have b1:g1.effs.length≤9223372036854775807:=Nat.le_trans k0.len.2.1 k0.len.2.2
  have o4:inI64 (g1.effs.length:Int):=rngNat b1
  refine Ar rfl rfl (o_z ?_)
  obtain ⟨c1,p1,e0⟩:=bs e0
  refine AU (aft c1 (fun (o0:(List Int)) (s0:Unit)=>[(0,(.pointer p3)),(1,(.slice A5 x1.length c6)),(5,(.slice i0.1 n0.length i0.2)),(7,(.int .i64 i1)),(8,(.slice l1 k1.length m1)),(13,(.slice e1 q7.length f1)),(14,(.int .i64 (q7.length:Int))),(15,(.int .i64 (g2:Int)))]) (fun o0 s0 w'=>∃ O':Lab,Bs w A w' O'∧Vb w' (Fr 0 w' O') (.pointer p3) x0∧Vb w' (Fr 0 w' O') (.slice A5 x1.length c6) x1∧Rw 5 w' O' 85 (.slice i0.1 n0.length i0.2) n0∧Rw 3 w' O' 3 (.slice l1 k1.length m1) o0∧Rw 2 w' O' 3 (.slice e1 q7.length f1) q7)) ?_ ?_
  ·
   refine Bf ?_
   replace hB:=hB.st r0
   replace g0:=g0.st r0
   replace m0:=m0.st r0
   replace j0:=j0.st r0
   refine BS (σ:=(List Int)) (X:=Unit) (g1.effs.length) p1 rfl b1 (fun (o0:(List Int)) (s0:Unit)=>[(0,(.pointer p3)),(1,(.slice A5 x1.length c6)),(5,(.slice i0.1 n0.length i0.2)),(7,(.int .i64 i1)),(8,(.slice l1 k1.length m1)),(13,(.slice e1 q7.length f1)),(14,(.int .i64 (q7.length:Int))),(15,(.int .i64 (g2:Int))),(29,(.slice n1 g1.effs.length o1))]) _ (fun o0 s0 w'=>∃ O':Lab,Bs w A w' O'∧Vb w' (Fr 0 w' O') (.pointer p3) x0∧Vb w' (Fr 0 w' O') (.slice A5 x1.length c6) x1∧Rw 5 w' O' 85 (.slice i0.1 n0.length i0.2) n0∧Rw 3 w' O' 3 (.slice l1 k1.length m1) o0∧Rw 2 w' O' 3 (.slice e1 q7.length f1) q7∧Vb w' (Fr 0 w' O') (.slice n1 g1.effs.length o1) g1.effs) _ () ⟨z3,hB,h0,g0,j0,a4,m0,k0⟩ ⟨rfl,rfl,rfl,rfl,rfl,rfl,rfl,rfl,rfl,rfl,rfl,trivial⟩ (fun _ _=>⟨rfl,rfl⟩) (fun _ _=>⟨rfl,rfl,rfl,rfl,rfl,rfl,rfl,rfl,trivial⟩) (fun _ _ _ ⟨O',hB,h0,g0,j0,f0,m0,k0⟩=>⟨O',hB,h0,g0,j0,f0,m0⟩) ⟨rfl,rfl,rfl⟩ ⟨rfl,rfl⟩ ?_
   rintro t2 t0 o0 s0 p4 n3 z0 ⟨u2,hB,h0,g0,j0,f0,m0,k0⟩ a0 c2 d2
   have rk115:inI64 (t2:Int):=rngK z0 b1
   refine Al (Aj ?_)
   obtain ⟨q4,r4,o3,q1,r1,s1,s4,rfl,u0,t4,v2⟩:=k0.elem' z0
   obtain ⟨w2,x2,rfl⟩:=u0.form
   refine BB (hA:=q1) (hj:=rfl) (hlt:=r1) rfl rfl rfl ?_
   refine Br (hl:=rfl) (hc:=s1) rfl rfl ?_
   refine Bk 4 u2 rfl fun y2 u4 v0 c0 l0=>?_
   refine AA l0 rfl rfl rfl (AG rfl) (allOne rfl) fun w0 d0 l0=>?_
   replace l0:Lc 4 w0 v0 y2 47 [(.slice w2 t0.cond.length x2),(.int .i64 t0.var),(.int .i64 t0.val)]:=l0
   refine o_z ?_
   refine Al (Aj (AV rfl rfl (AP (hc:=Blk.cell (i:=0) (l0.1) rfl) rfl rfl ?_)))
   refine Ar rfl rfl ?_
   obtain ⟨t1,z2,a0⟩:=bs a0
   replace g0:=(g0.st c0).st d0
   replace u0:=(u0.st c0).st d0
   refine By (O:=v0) (A:=All w0) (R:=fun w' F v=>Vb w' F v t1) (Hk (fun _ h=>h) (Vb.mono (F:=Fr 0 w0 v0) u0 Fr.lt) (Vb.mono (F:=Fr 0 w0 v0) g0 Fr.lt) z2) rfl rfl fun v4 w4 x4 b0 a3=>?_
   obtain rfl:=a3.bool
   cases t1
   case false =>
    replace a0:=iF a0
    refine o_z ?_
    refine Ae rfl (AZ ?_)
    obtain rfl:=sm a0
    exact show Exists _ from ⟨_,(),rfl,⟨rfl,rfl,rfl,rfl,rfl,rfl,rfl,rfl,rfl,rfl,rfl,trivial⟩,_,((hB.st c0).st d0).st b0,((h0.st c0).st d0).st b0,g0.st b0,((j0.st c0).st d0).st b0,((f0.st c0).st d0).st b0,((m0.st c0).st d0).st b0,((k0.st c0).st d0).st b0⟩
   replace a0:=iT a0
   refine o_z ?_
   refine Ah rfl (Aj (Ar rfl rfl (AV rfl rfl ?_)))
   replace l0:=l0.st b0
   refine AP (hc:=Blk.cell (i:=1) (l0.1) rfl) rfl rfl ?_
   refine AV rfl rfl (AP (hc:=Blk.cell (i:=2) (l0.1) rfl) rfl rfl ?_)
   obtain ⟨y4,b3,a0⟩:=bs a0
   obtain ⟨c3,u1⟩:=Ba b3
   replace f0:=((f0.st c0).st d0).st b0
   obtain ⟨z4,a5,q3,a1,v1,r3,rfl,b5⟩:=f0.elem u1
   refine BB (hA:=a1) (hj:=(Int.toNat_of_nonneg c3).symm) (hlt:=v1) rfl rfl rfl ?_
   refine CM rfl f0 (a:=t0.val) (vInt v2) a1 rfl rfl (AL u1) fun c5 p0 f0=>?_
   refine o_z ?_
   obtain rfl:=sm a0
   exact show Exists _ from ⟨_,(),rfl,⟨rfl,rfl,rfl,rfl,rfl,rfl,rfl,rfl,rfl,rfl,rfl,trivial⟩,_,(((hB.st c0).st d0).st b0).st p0,(((h0.st c0).st d0).st b0).st p0,(g0.st b0).st p0,(((j0.st c0).st d0).st b0).st p0,f0,(((m0.st c0).st d0).st b0).st p0,(((k0.st c0).st d0).st b0).st p0⟩
  replace hB:=hB.st r0
  replace g0:=g0.st r0
  replace m0:=m0.st r0
  replace j0:=j0.st r0
  rintro d5 e5 ⟨w1,f5,rfl,y1,g5,hB,h0,g0,j0,f0,m0⟩
  replace e0:=Bq e0
  refine Bc _ y1 ?_
  refine Aj (Ar rfl rfl (Ar rfl rfl (Ar rfl rfl (CG rfl rfl rfl ?_))))
  obtain ⟨h5,q0,f0⟩:=f0.freeze
  obtain ⟨i5,d1,e0⟩:=bs e0
  obtain ⟨d1,d3,e3⟩:=AB d1
  replace j0:=j0.st q0
  refine El rfl (a:=(⟨i1,w1⟩:Suc)) j0 (Vb.ofAgg (cs:=[(.int .i64 i1),(.slice l1 k1.length m1)]) (x:=(⟨i1,w1⟩:Suc)) rfl ⟨_,rfl,f0,x3⟩) (fun _=>rfl) rfl (by decide) (by decide) d3 e3 ⟨rfl,rfl⟩ fun j5 f3 g3 k5 l5 y0 z1=>?_
  rw [← d1] at z1 ⊢
  refine Ay rfl rfl (o_z ?_)
  obtain rfl:=sm e0
  exact show Exists _ from ⟨_,(f3,g3),rfl,⟨rfl,rfl,rfl,rfl,rfl,rfl,trivial⟩,_,(hB.st q0).st y0,(h0.st q0).st y0,(g0.st q0).st y0,z1,(m0.st q0).st y0⟩
 replace hB:=hB.st b2
 rintro m5 h3 ⟨n5,o5,rfl,a2,p5,hB,j0⟩
 replace hm:=Bq hm
 refine Bc _ a2 ?_
 refine Al (Aj (Ar rfl rfl (Ay rfl rfl (o_z ?_))))
 refine AR ?_
 obtain ⟨i3,j3,j0⟩:=j0.freeze
 obtain rfl:=sm hm
 replace hB:=hB.st j3
 exact ret1v rfl (AO rfl) ⟨hB.ext,(Vb.mono (F:=Fr 0 h3 i3) j0 hB.out)⟩
end
theorem Nz {s:List Int} (hl:s.length≤1000000):Cf s=some s:=if_pos ⟨by omega,by omega⟩
theorem OD {t:Tsk} {s:List Int} (hok:TaskOk t) (hl:s.length≤1000000):BA (some ⟨t⟩) s=some ((appS t s).map (sucOf t s)):=by
  have ha:CJ (some ⟨t⟩) s=some (appS t s):=if_pos hl
  have hol:=hok.2.1
  have hal:=Nt t s
  unfold BA
  rw [ha,Am]
  rw [Fa (fun k=>((appS t s).take k).map (sucOf t s)) ?_ ?_,Am,BW,List.take_length]
  · rfl
  intro k x hk
  have hkl:=AL hk
  obtain ⟨hst,hmem⟩:=Ns (List.mem_of_getElem? hk)
  obtain ⟨j,o,rfl,hj,hp⟩:=KD hmem
  rw [Nz hl,Am,Am,Bi,hj,Am,KF (hok.effs hst j o hj) DN (fun _ _=>rfl) s rfl,Am,BW,Cm (by simp;omega) (by simp;omega),Am,List.take_add_one,hk,List.map_append]
  simp [sucOf,hj,succ]
theorem PG {t:Tsk} (h:TaskOk t):DZ t=some (some ⟨t⟩,⟨0⟩):=by unfold DZ;rw [Bl h,BD,Dj.2 h]
end
section
open Go Go.RowKit
attribute [local irreducible] ewp owp hwp hwq hws Ev Evg Fn retPost loud loudS Res1
structure Rsl where
  verdict:Int
  plan:List Int
  cost:Int
  expanded:Int
instance:Rp Rsl where
  isAgg:=true
  size:=4
  R w F cs x:=∃ v0,cs=[.int .i64 x.verdict,v0,.int .i64 x.cost,.int .i64 x.expanded]∧Vb w F v0 x.plan∧inI64 x.verdict∧inI64 x.cost∧inI64 x.expanded
  len:=by rintro w F cs x ⟨v0,rfl,h0,h1,h2,h3⟩;rfl
  one:=by rintro w F cs x ⟨v0,rfl,h0,h1,h2,h3⟩ u hu;simp at hu;rcases hu with rfl|rfl|rfl|rfl<;>first|rfl|exact Vb.one rfl (by assumption)
  agree:=by rintro w w' F cs x ⟨v0,rfl,h0,h1,h2,h3⟩ ha;exact ⟨v0,rfl,h0.agree ha,h1,h2,h3⟩
  mono:=by rintro w F G cs x ⟨v0,rfl,h0,h1,h2,h3⟩ ha;exact ⟨v0,rfl,h0.mono ha,h1,h2,h3⟩
end
section
open Go Go.RowKit
attribute [local irreducible] ewp owp hwp hwq hws Ev Evg Fn retPost loud loudS Res1
attribute [local irreducible] hwx loudX
noncomputable def BX (x0:List Int):Option (List Int) :=
  bnd (chkI ((x0.length:Int) - 1)) fun n4=>bnd (lop (ρ:=(List Int)) (fun (s9:(List Int)×Int×Int)=>if s9.2.1 < s9.2.2 then (bnd (atI s9.1 s9.2.2) fun a31=>bnd (atI s9.1 s9.2.1) fun a43=>bnd (atI s9.1 s9.2.1) fun a55=>bnd (atI (s9.1.set (s9.2.1:Int).toNat a31) s9.2.2) fun a69=>bnd (chkI (s9.2.1 + 1)) fun n83=>bnd (chkI (s9.2.2 - 1)) fun n86=>some (.next (((s9.1.set (s9.2.1:Int).toNat a31).set (s9.2.2:Int).toNat a43),n83,n86))) else (some (.brk (s9.1,s9.2.1,s9.2.2)))) (x0,0,n4)) fun res7=>fin res7 fun (s93:(List Int)×Int×Int)=>some s93.1
theorem FB {w:World} {O:Lab} {A0:Option Addr} {m0 c0 i0:Nat} {x0:List Int} (d0:Rw i0 w O 3 (.slice A0 m0 c0) x0) {r:(List Int)} (hm:BX x0=some r) :
    Fn Tryz.prog 61 [(.slice A0 m0 c0)] w fun v w'=>∃ O',St (eT i0) w O w' O'∧Rw i0 w' O' 3 (.slice A0 m0 c0) r:=by
 obtain ⟨O0,hE,f1,g1⟩:=ent1 (w:=w) (O:=O) d0.2.2
 obtain rfl:m0=x0.length:=d0.len.1
 have d0':=Rw.leave d0 f1 g1 (j:=2) (by decide)
 have hB:Bm w O0 w O0:=Bm.refl
 refine AQ Tryz.func61 rfl Tryz.ntmps61 rfl ?_
 unfold BX at hm
 refine Al (Aj (Ar rfl rfl (Bj rfl rfl ?_)))
 have l3:x0.length≤9223372036854775807:=Nat.le_trans d0'.len.2.1 d0'.len.2.2
 have r2:inI64 (x0.length:Int):=rngNat l3
 obtain ⟨n4,e5,hm⟩:=bs hm
 have r6:=(BI e5)
 refine FY (he:=e5) rfl rfl rfl ?_
 refine Ay rfl rfl (Ay rfl rfl (o_z ?_))
 obtain ⟨j0,h1,hm⟩:=bs hm
 refine AU (aft j0 (fun (s9:(List Int)×Int×Int) (h0:Unit)=>[(0,(.slice A0 x0.length c0))]) (fun s9 h0 w'=>∃ O':Lab,Bm w O0 w' O'∧Rw 2 w' O' 3 (.slice A0 x0.length c0) s9.1∧inI64 s9.2.1∧inI64 s9.2.2)) ?_ ?_
 ·
  refine Bf (FE (σ:=(List Int)×Int×Int) (X:=Unit) h1 (fun (s9:(List Int)×Int×Int) (h0:Unit)=>[(0,(.slice A0 x0.length c0)),(2,(.int .i64 s9.2.1)),(3,(.int .i64 s9.2.2))]) _ (fun s9 h0 w'=>∃ O':Lab,Bm w O0 w' O'∧Rw 2 w' O' 3 (.slice A0 x0.length c0) s9.1∧inI64 s9.2.1∧inI64 s9.2.2) _ () ⟨O0,hB,d0',(show inI64 (0) from by decide),r6⟩ ⟨rfl,rfl,rfl,trivial⟩ ?_)
  rintro s9 h0 k2 i1 ⟨j1,hB,b0,y0,z0⟩ a0 k0 e0
  refine Al (Al (Aj (Ar rfl rfl (Ar rfl rfl (EA rfl rfl rfl (fun l0=>?_) fun l0=>?_)))))
  ·
   replace a0:=ip a0 l0
   refine o_z ?_
   refine Ah rfl (AZ (Al (Bf (Bw [(13,[2])] j1 ?_))))
   refine AD (fuel:=5) [] [(0,true),(1,true),(4,true),(5,true),(6,true),(7,true),(8,true),(9,true),(10,true),(11,true),(12,true)] (by kernel_rfl) rfl ?_
   refine AW rfl rfl rfl (AW rfl rfl rfl (AW rfl rfl rfl (AW rfl rfl rfl ?_)))
   obtain ⟨k1,l1,a0⟩:=bs a0
   obtain ⟨m1,n1⟩:=Ba l1
   obtain ⟨l2,m2,o1,n0,o0,p0,q0,rfl,p1⟩:=b0.elemF n1
   refine BC (hA:=n0) (hj:=(Int.toNat_of_nonneg m1).symm) (hlt:=p0) rfl rfl rfl rfl ?_
   refine Bb (hc:=fun w' ⟨O',hq⟩=>cat0 (Bg (hq.agree (i:=2) (by decide)) o0 q0)) rfl rfl rfl ?_
   refine AW rfl rfl rfl (AW rfl rfl rfl ?_)
   obtain ⟨q1,r1,a0⟩:=bs a0
   obtain ⟨s1,t1⟩:=Ba r1
   obtain ⟨n2,o2,u1,r0,s0,t0,u0,rfl,v1⟩:=b0.elemF t1
   refine BC (hA:=r0) (hj:=(Int.toNat_of_nonneg s1).symm) (hlt:=t0) rfl rfl rfl rfl ?_
   refine Bb (hc:=fun w' ⟨O',hq⟩=>cat0 (Bg (hq.agree (i:=2) (by decide)) s0 u0)) rfl rfl rfl ?_
   obtain ⟨p2,w1,a0⟩:=bs a0
   obtain ⟨x1,a1⟩:=Ba w1
   obtain ⟨q2,s2,y1,f0,z1,v0,a2,rfl,t2⟩:=b0.elemF a1
   refine BC (hA:=f0) (hj:=(Int.toNat_of_nonneg x1).symm) (hlt:=v0) rfl rfl rfl rfl ?_
   refine Au ?_
   refine AD (fuel:=3) [2] [(2,true),(3,true)] (by kernel_rfl) rfl ?_
   refine AW rfl rfl rfl (AW rfl rfl rfl (Au ?_))
   refine At (i:=13) (by kernel_rfl) rfl ?_
   refine CM rfl b0 (a:=k1) (vInt p1) f0 rfl rfl (AL a1) fun u2 b1 b0=>?_
   have hZ:=b1.lst [2] (fun _ h=>by cases h;decide)
   refine Az [] hZ (by kernel_rfl) ?_
   refine AD (fuel:=1) [] [(14,true)] (by kernel_rfl) rfl ?_
   obtain ⟨v2,b2,a0⟩:=bs a0
   obtain ⟨c2,c1⟩:=Ba b2
   obtain ⟨w2,x2,d2,g0,e2,w0,f2,rfl,y2⟩:=b0.elemF c1
   refine BC (hA:=g0) (hj:=(Int.toNat_of_nonneg c2).symm) (hlt:=w0) rfl rfl rfl rfl ?_
   refine Au ?_
   refine At (i:=15) (by kernel_rfl) rfl ?_
   refine CM rfl b0 (a:=q1) (vInt v1) g0 rfl rfl (AL c1) fun z2 g2 b0=>?_
   refine Be (by kernel_rfl) ?_
   refine AY (by kernel_rfl) ?_
   refine Aj (Ar rfl rfl ?_)
   obtain ⟨a3,d1,a0⟩:=bs a0
   have h2:=(BI d1)
   refine Fz (he:=d1) rfl rfl rfl ?_
   refine Ar rfl rfl ?_
   obtain ⟨b3,e1,a0⟩:=bs a0
   have i2:=(BI e1)
   refine FY (he:=e1) rfl rfl rfl ?_
   refine Ay rfl rfl (Ay rfl rfl (o_z ?_))
   obtain rfl:=sm a0
   exact show Exists _ from ⟨_,(),rfl,⟨rfl,rfl,rfl,trivial⟩,_,(hB.st b1).st g2,b0,h2,i2⟩
  replace a0:=im a0 l0
  refine o_z ?_
  refine Ae rfl (Dz ?_)
  obtain rfl:=sm a0
  exact show Exists _ from ⟨_,(),e0 _ rfl,⟨rfl,trivial⟩,_,hB,b0,y0,z0⟩
 rintro c3 d3 ⟨e3,f3,rfl,j2,g3,hB,b0,y0,z0⟩
 replace hm:=Bq hm
 obtain rfl:=sm hm
 obtain ⟨O',hS',hz,hl⟩:=hE.leave (fun q=>if q=2 then i0 else 0) rfl hB
 exact ret0n rfl  ⟨O',hS',(Rw.leave b0 hz (hl 2 (by decide) (by decide)) d0.2.2)⟩
end
end Go.Proofs.YtecegaabajeolaaGreat

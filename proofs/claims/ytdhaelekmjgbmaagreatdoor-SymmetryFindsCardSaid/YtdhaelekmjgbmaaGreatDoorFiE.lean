/- Own text: what the proof of symmetryFinds_holds uses, part 5: rules, models and their proofs, plain laws. -/
import Derived.Test.YtdhaelekmjgbmaaGreatDoorFiD
set_option linter.unusedVariables false
set_option linter.unusedSimpArgs false
namespace Go.Proofs.YtdhaelekmjgbmaaGreatDoor
open Go Go.RowKit
section
open Go Go.RowKit
attribute [local irreducible] ewp owp hwp hwq Ev Evg Fn retPost Res1
attribute [local irreducible] hwx loudX
abbrev MeTP:=Int→Option (List (List Int))
def MeCP (me:MeTP):Prop:=∀ {w:World} {A:Nat→Prop},(∀ k,A k→k < w.heap.size)→∀ {x0:Int},inI64 x0→∀ {r:List (List Int)},me x0=some r →
    Fn Tryz.prog 32 [(.int .i64 x0)] w fun v w'=>Ext w w'∧Vb w' (upA A w w') v r
noncomputable def GE (me:MeTP) (x0:Int):Option (List (List Int)) :=
  if x0=0 then (some [([]:List Int)]) else (bnd (chkI (x0 - 1)) fun n19=>bnd (me n19) fun q22=>bnd (rng (ρ:=(List (List Int))) (fun (k37:Nat) (a38:List Int) (s35:(List (List Int)))=>bnd (lop (ρ:=Ctl (List (List Int)) (List (List Int))) (fun (s65:(List (List Int))×Int)=>if s65.2≤(a38.length:Int) then (bnd (bnd (cutI a38 0 s65.2) fun u93=>bnd (chkI (x0 - 1)) fun n95=>bnd (cutI a38 s65.2 (a38.length:Int)) fun u97=>bnd (appI 8 ([]:List Int) u93) fun u99=>bnd (appI 8 u99 ([n95]:List Int)) fun u101=>bnd (appI 8 u101 u97) fun u103=>bnd (appI 24 s65.1 [u103]) fun u105=>some u105:Option (List (List Int))) fun y87=>bnd (chkI (s65.2 + 1)) fun n282=>some (.next (y87,n282))) else (some (.brk (s65.1,s65.2)))) (s35,0)) fun res63=>fin res63 fun (s289:(List (List Int))×Int)=>some (.next s289.1)) q22 0 ([]:List (List Int))) fun res33=>fin res33 fun (s295:(List (List Int)))=>some s295)
theorem Py {me:MeTP} (hme:MeCP me) {w:World} {A:Nat→Prop} (hA:∀ k,A k→k < w.heap.size) {x0:Int} (rx0:inI64 x0) {r:(List (List Int))} (hm:GE me x0=some r) :
    Fn Tryz.prog 32 [(.int .i64 x0)] w fun v w'=>Ext w w'∧Vb w' (upA A w w') v r:=by
 obtain ⟨O,hB,h9⟩:=enter hA
 refine AP Tryz.func32 rfl Tryz.ntmps32 rfl ?_
 unfold GE at hm
 refine Ab (Aa (Am rfl rfl (o_z ?_)))
 refine Ab (Ab (Aa (Aj rfl rfl (FK rfl rfl rfl (fun c2=>?_) fun c2=>?_))))
 ·
  replace hm:=ip hm c2
  refine o_z ?_
  refine Ah rfl (Ab (Aa (Bi 2 (by decide) O (xs:=(([]:List Int):List Int)) rfl rfl rfl rfl trivial (by decide) (by decide) rfl fun g3 w4 O5 S6 h7=>?_)))
  obtain ⟨O9,n5,h7⟩:=h7.freeze
  refine Bi 3 (by decide) O9 (xs:=([([]:List Int)]:List (List Int))) rfl rfl rfl rfl ⟨h7,trivial⟩ (by decide) (by decide) rfl fun i9 o5 j9 p5 y2=>?_
  refine Am rfl rfl (o_z ?_)
  refine AF ?_
  obtain ⟨q5,r5,y2⟩:=y2.freeze
  obtain rfl:=sm hm
  replace hB:=(((hB.st S6).st n5).st p5).st r5
  exact ret1v rfl (AC rfl) ⟨hB.ext,(Vb.mono (F:=Fr 0 o5 q5) y2 hB.out)⟩
 replace hm:=im hm c2
 refine o_z ?_
 refine Ae rfl (AI (Ab (Aa (Am rfl rfl (o_z ?_)))))
 refine Ab (Ab (Aa (Aj rfl rfl ?_)))
 obtain ⟨k9,j5,hm⟩:=bs hm
 have s5:=(BG j5)
 refine IH (he:=j5) rfl rfl rfl ?_
 obtain ⟨d0,t5,hm⟩:=bs hm
 refine BQ (O:=O) (R:=fun w' F v=>Vb w' F v d0) (hme Fr.lt s5 t5) rfl rfl fun l9 m9 u5 k5 k0=>?_
 obtain ⟨v1,w1,rfl⟩:=k0.form
 refine AX rfl rfl ?_
 have z2:d0.length≤9223372036854775807:=Nat.le_trans k0.len.2.1 k0.len.2.2
 have n9:inI64 (d0.length:Int):=rngNat z2
 refine Aj rfl rfl (o_z ?_)
 obtain ⟨g2,a3,hm⟩:=bs hm
 refine Ax (aft g2 (fun (m1:(List (List Int))) (s0:(Option Addr×Nat))=>[(3,(.slice s0.1 m1.length s0.2))]) (fun m1 s0 w'=>∃ O':Lab,Bs w A w' O'∧Rw 7 w' O' 24 (.slice s0.1 m1.length s0.2) m1)) ?_ ?_
 ·
  refine AG ?_
  replace hB:=hB.st k5
  refine Bk (σ:=(List (List Int))) (X:=(Option Addr×Nat)) (d0.length) a3 rfl z2 (fun (m1:(List (List Int))) (s0:(Option Addr×Nat))=>[(0,(.int .i64 x0)),(3,(.slice s0.1 m1.length s0.2)),(13,(.slice v1 d0.length w1))]) _ (fun m1 s0 w'=>∃ O':Lab,Bs w A w' O'∧Rw 7 w' O' 24 (.slice s0.1 m1.length s0.2) m1∧Vb w' (Fr 0 w' O') (.slice v1 d0.length w1) d0) _ (none,0) ⟨u5,hB,(Rw.nil 7 (by decide)),k0⟩ ⟨rfl,rfl,rfl,rfl,rfl,trivial⟩ (fun _ _=>⟨rfl,rfl⟩) (fun _ _=>⟨rfl,trivial⟩) (fun _ _ _ ⟨O',hB,y1,k0⟩=>⟨O',hB,y1⟩) ⟨rfl,rfl,rfl⟩ ⟨rfl,rfl⟩ ?_
  rintro v2 x1 m1 s0 o9 v5 h2 ⟨w5,hB,y1,k0⟩ c1 b3 c3
  have rk37:inI64 (v2:Int):=rngK h2 z2
  refine Ab (Aa ?_)
  obtain ⟨p9,q9,x5,d3,e3,f3,r9,rfl,t0⟩:=k0.elem' h2
  replace t0:=Vb.of_slice t0
  obtain ⟨w2,x2,rfl⟩:=t0.form
  refine Bv (hA:=d3) (hj:=rfl) (hlt:=e3) rfl rfl rfl ?_
  refine AJ (hc:=cat0 f3) rfl rfl ?_
  refine Am rfl rfl (o_z ?_)
  refine Ab (Aa (Am rfl rfl (o_z ?_)))
  obtain ⟨i2,h3,c1⟩:=bs c1
  refine Ax (aft i2 (fun (u0:(List (List Int))×Int) (v0:(Option Addr×Nat))=>[(0,(.int .i64 x0)),(3,(.slice v0.1 u0.1.length v0.2)),(13,(.slice v1 d0.length w1)),(14,(.int .i64 (d0.length:Int))),(15,(.int .i64 (v2:Int)))]) (fun u0 v0 w'=>∃ O':Lab,Bs w A w' O'∧Rw 7 w' O' 24 (.slice v0.1 u0.1.length v0.2) u0.1∧Vb w' (Fr 0 w' O') (.slice v1 d0.length w1) d0∧inI64 u0.2)) ?_ ?_
  ·
   refine AG (DQ (σ:=(List (List Int))×Int) (X:=(Option Addr×Nat)) h3 (fun (u0:(List (List Int))×Int) (v0:(Option Addr×Nat))=>[(0,(.int .i64 x0)),(3,(.slice v0.1 u0.1.length v0.2)),(5,(.slice w2 x1.length x2)),(6,(.int .i64 u0.2)),(13,(.slice v1 d0.length w1)),(14,(.int .i64 (d0.length:Int))),(15,(.int .i64 (v2:Int)))]) _ (fun u0 v0 w'=>∃ O':Lab,Bs w A w' O'∧Rw 7 w' O' 24 (.slice v0.1 u0.1.length v0.2) u0.1∧Vb w' (Fr 0 w' O') (.slice w2 x1.length x2) x1∧Vb w' (Fr 0 w' O') (.slice v1 d0.length w1) d0∧inI64 u0.2) _ (s0.1,s0.2) ⟨w5,hB,y1,t0,k0,(show inI64 (0) from by decide)⟩ ⟨rfl,rfl,rfl,rfl,rfl,rfl,rfl,trivial⟩ ?_)
   rintro u0 v0 s9 y5 ⟨i3,hB,b1,t0,k0,l5⟩ c0 j3 z1
   refine Ab (Ab (Aa (Aj rfl rfl (Aj rfl rfl (AX rfl rfl ?_)))))
   have z5:x1.length≤9223372036854775807:=Nat.le_trans t0.len.2.1 t0.len.2.2
   have t9:inI64 (x1.length:Int):=rngNat z5
   refine Hw rfl rfl rfl (fun k3=>?_) fun k3=>?_
   ·
    replace c0:=ip c0 k3
    refine o_z ?_
    refine Ah rfl (AI (Ab ?_))
    obtain ⟨l3,a0,c0⟩:=bs c0
    refine Ax (fun l' w'=>∃ (a2:(Option Addr×Nat)) (O':Lab),subs l' [(0,(.int .i64 x0)),(3,(.slice a2.1 l3.length a2.2)),(5,(.slice w2 x1.length x2)),(6,(.int .i64 u0.2)),(13,(.slice v1 d0.length w1)),(14,(.int .i64 (d0.length:Int))),(15,(.int .i64 (v2:Int)))]∧Bs w A w' O'∧Rw 7 w' O' 24 (.slice a2.1 l3.length a2.2) l3∧Vb w' (Fr 0 w' O') (.slice w2 x1.length x2) x1∧Vb w' (Fr 0 w' O') (.slice v1 d0.length w1) d0) ?_ ?_
    ·
     refine AG ?_
     obtain ⟨u9,a6,a0⟩:=bs a0
     obtain ⟨m3,m5,a0⟩:=bs a0
     obtain ⟨v9,b6,a0⟩:=bs a0
     obtain ⟨w9,e0,a0⟩:=bs a0
     obtain ⟨c6,f0,a0⟩:=bs a0
     obtain ⟨b2,g0,a0⟩:=bs a0
     obtain ⟨d6,h0,a0⟩:=bs a0
     refine Bc [(5,[4]),(9,[4]),(13,[4]),(14,[4]),(15,[7])] i3 ?_
     refine Az (fuel:=14) [] [(2,true),(3,true),(4,true)] (by kernel_rfl) rfl ?_
     refine AH rfl rfl rfl (AH rfl rfl rfl ?_)
     obtain ⟨e6,f6,i0,n3⟩:=cutB t0 a6
     refine Ou (hc:=n3) rfl rfl rfl rfl ?_
     refine As ?_
     refine Az (fuel:=8) [4] [(0,true),(6,true),(7,true),(10,true),(11,true),(12,true)] (by kernel_rfl) rfl ?_
     refine AH rfl rfl rfl (AH rfl rfl rfl ?_)
     have d2:=(BG m5)
     refine NF (he:=m5) rfl rfl rfl rfl ?_
     refine AH rfl rfl rfl (AH rfl rfl rfl ?_)
     obtain ⟨g6,h6,j0,o3⟩:=cutB t0 b6
     refine Ot (hc:=o3) rfl rfl rfl rfl ?_
     refine As ?_
     refine Dk (i:=1) (j:=8) (by kernel_rfl) rfl rfl ?_ ?_
     ·
      refine Bi 4 (by decide) i3 (xs:=(([]:List Int):List Int)) rfl rfl rfl rfl trivial (by decide) (by decide) rfl fun i6 j6 p3 b0 n1=>?_
      have hZ:=b0.lst [] (fun _ h=>h.elim)
      refine Ay [(5,[4]),(9,[4]),(13,[4]),(14,[4]),(15,[7])] hZ (by kernel_rfl) ?_
      refine Dk (i:=5) (j:=8) (by kernel_rfl) rfl rfl ?_ ?_
      ·
       obtain ⟨e0,q3,r3⟩:=AT e0
       replace i0:=i0.st b0
       refine BP rfl n1 (i0.rd) rfl rfl (by decide) q3 r3 rfl fun k6 l6 m6 s3 w0 o1=>?_
       rw [← e0] at o1 ⊢
       have hZ:=w0.lst [4] (fun _ h=>by cases h;decide)
       refine Ay [(9,[4]),(13,[4]),(14,[4]),(15,[7])] hZ (by kernel_rfl) ?_
       refine Au (i:=8) (by kernel_rfl) rfl ?_
       refine Bi 5 (by decide) s3 (xs:=(([m3]:List Int):List Int)) rfl rfl rfl rfl ⟨(vInt d2),trivial⟩ (by decide) (by decide) rfl fun n6 o6 p6 o0 t3=>?_
       have hZ:=o0.lst [] (fun _ h=>h.elim)
       refine Ay [(9,[4]),(13,[4]),(14,[4]),(15,[7])] hZ (by kernel_rfl) ?_
       refine Au (i:=9) (by kernel_rfl) rfl ?_
       obtain ⟨f0,u3,v3⟩:=AT f0
       replace o1:=o1.st o0
       refine BP rfl o1 (t3.rd) rfl rfl (by decide) u3 v3 rfl fun q6 r6 s6 t6 y0 j2=>?_
       rw [← f0] at j2 ⊢
       have hZ:=y0.lst [4] (fun _ h=>by cases h;decide)
       refine Ay [(13,[4]),(14,[4]),(15,[7])] hZ (by kernel_rfl) ?_
       refine Au (i:=13) (by kernel_rfl) rfl ?_
       obtain ⟨g0,w3,x3⟩:=AT g0
       replace j0:=(((j0.st b0).st w0).st o0).st y0
       refine BP rfl j2 (j0.rd) rfl rfl (by decide) w3 x3 rfl fun u6 v6 w6 x6 d1 p1=>?_
       rw [← g0] at p1 ⊢
       have hZ:=d1.lst [4] (fun _ h=>by cases h;decide)
       refine Ay [(14,[4]),(15,[7])] hZ (by kernel_rfl) ?_
       refine Au (i:=14) (by kernel_rfl) rfl ?_
       obtain ⟨y3,e1,p1⟩:=p1.freeze
       have hZ:=e1.lst [4] (fun _ h=>by cases h;decide)
       refine Bi 6 (by decide) y3 (xs:=([b2]:List (List Int))) rfl rfl rfl rfl ⟨p1,trivial⟩ (by decide) (by decide) rfl fun y6 z6 a7 f1 z3=>?_
       replace hZ:=hZ.cmp f1 [4] (fun _ h=>h.elim) rfl
       refine Ay [(15,[7])] hZ (by kernel_rfl) ?_
       refine Au (i:=15) (by kernel_rfl) rfl ?_
       obtain ⟨h0,a4,b4⟩:=AT h0
       replace b1:=((((((b1.st b0).st w0).st o0).st y0).st d1).st e1).st f1
       refine BP rfl b1 (z3.rd) rfl rfl (by decide) a4 b4 rfl fun c4 d4 b7 c7 q1 k2=>?_
       rw [← h0] at k2 ⊢
       have hZ:=q1.lst [7] (fun _ h=>by cases h;decide)
       refine Ay [] hZ (by kernel_rfl) ?_
       refine Az (fuel:=0) [] [(16,true)] (by kernel_rfl) rfl ?_
       refine Eh rfl rfl rfl (As ?_)
       refine AZ (by kernel_rfl) ?_
       obtain rfl:=sm a0
       exact ⟨(c4,d4),_,⟨rfl,rfl,rfl,rfl,rfl,rfl,rfl,trivial⟩,(((((((hB.st b0).st w0).st o0).st y0).st d1).st e1).st f1).st q1,k2,(((((((t0.st b0).st w0).st o0).st y0).st d1).st e1).st f1).st q1,(((((((k0.st b0).st w0).st o0).st y0).st d1).st e1).st f1).st q1⟩
      refine Bi 5 (by decide) p3 (xs:=(([m3]:List Int):List Int)) rfl rfl rfl rfl ⟨(vInt d2),trivial⟩ (by decide) (by decide) rfl fun d7 e7 f7 l0 e2=>?_
      have hZ:=l0.lst [] (fun _ h=>h.elim)
      refine Ay [(5,[4]),(9,[4]),(13,[4]),(14,[4]),(15,[7])] hZ (by kernel_rfl) ?_
      refine Au (i:=5) (by kernel_rfl) rfl ?_
      obtain ⟨e0,e4,f4⟩:=AT e0
      replace i0:=(i0.st b0).st l0
      replace n1:=n1.st l0
      refine BP rfl n1 (i0.rd) rfl rfl (by decide) e4 f4 rfl fun g7 i7 j7 k7 p0 l2=>?_
      rw [← e0] at l2 ⊢
      have hZ:=p0.lst [4] (fun _ h=>by cases h;decide)
      refine Ay [(9,[4]),(13,[4]),(14,[4]),(15,[7])] hZ (by kernel_rfl) ?_
      refine Au (i:=9) (by kernel_rfl) rfl ?_
      obtain ⟨f0,g4,h4⟩:=AT f0
      replace e2:=e2.st p0
      refine BP rfl l2 (e2.rd) rfl rfl (by decide) g4 h4 rfl fun l7 m7 n7 o7 z0 m2=>?_
      rw [← f0] at m2 ⊢
      have hZ:=z0.lst [4] (fun _ h=>by cases h;decide)
      refine Ay [(13,[4]),(14,[4]),(15,[7])] hZ (by kernel_rfl) ?_
      refine Au (i:=13) (by kernel_rfl) rfl ?_
      obtain ⟨g0,i4,j4⟩:=AT g0
      replace j0:=(((j0.st b0).st l0).st p0).st z0
      refine BP rfl m2 (j0.rd) rfl rfl (by decide) i4 j4 rfl fun p7 q7 r7 s7 g1 r1=>?_
      rw [← g0] at r1 ⊢
      have hZ:=g1.lst [4] (fun _ h=>by cases h;decide)
      refine Ay [(14,[4]),(15,[7])] hZ (by kernel_rfl) ?_
      refine Au (i:=14) (by kernel_rfl) rfl ?_
      obtain ⟨k4,h1,r1⟩:=r1.freeze
      have hZ:=h1.lst [4] (fun _ h=>by cases h;decide)
      refine Bi 6 (by decide) k4 (xs:=([b2]:List (List Int))) rfl rfl rfl rfl ⟨r1,trivial⟩ (by decide) (by decide) rfl fun t7 u7 v7 i1 l4=>?_
      replace hZ:=hZ.cmp i1 [4] (fun _ h=>h.elim) rfl
      refine Ay [(15,[7])] hZ (by kernel_rfl) ?_
      refine Au (i:=15) (by kernel_rfl) rfl ?_
      obtain ⟨h0,m4,n4⟩:=AT h0
      replace b1:=((((((b1.st b0).st l0).st p0).st z0).st g1).st h1).st i1
      refine BP rfl b1 (l4.rd) rfl rfl (by decide) m4 n4 rfl fun o4 p4 w7 x7 s1 n2=>?_
      rw [← h0] at n2 ⊢
      have hZ:=s1.lst [7] (fun _ h=>by cases h;decide)
      refine Ay [] hZ (by kernel_rfl) ?_
      refine Az (fuel:=0) [] [(16,true)] (by kernel_rfl) rfl ?_
      refine Eh rfl rfl rfl (As ?_)
      refine AZ (by kernel_rfl) ?_
      obtain rfl:=sm a0
      exact ⟨(o4,p4),_,⟨rfl,rfl,rfl,rfl,rfl,rfl,rfl,trivial⟩,(((((((hB.st b0).st l0).st p0).st z0).st g1).st h1).st i1).st s1,n2,(((((((t0.st b0).st l0).st p0).st z0).st g1).st h1).st i1).st s1,(((((((k0.st b0).st l0).st p0).st z0).st g1).st h1).st i1).st s1⟩
     refine Bi 5 (by decide) i3 (xs:=(([m3]:List Int):List Int)) rfl rfl rfl rfl ⟨(vInt d2),trivial⟩ (by decide) (by decide) rfl fun y7 z7 q4 q0 f2=>?_
     have hZ:=q0.lst [] (fun _ h=>h.elim)
     refine Ay [(5,[4]),(9,[4]),(13,[4]),(14,[4]),(15,[7])] hZ (by kernel_rfl) ?_
     refine Au (i:=1) (by kernel_rfl) rfl ?_
     refine Bi 4 (by decide) q4 (xs:=(([]:List Int):List Int)) rfl rfl rfl rfl trivial (by decide) (by decide) rfl fun a8 b8 c8 m0 r4=>?_
     have hZ:=m0.lst [] (fun _ h=>h.elim)
     refine Ay [(5,[4]),(9,[4]),(13,[4]),(14,[4]),(15,[7])] hZ (by kernel_rfl) ?_
     refine Au (i:=5) (by kernel_rfl) rfl ?_
     obtain ⟨e0,s4,t4⟩:=AT e0
     replace i0:=(i0.st q0).st m0
     refine BP rfl r4 (i0.rd) rfl rfl (by decide) s4 t4 rfl fun d8 e8 f8 g8 r0 o2=>?_
     rw [← e0] at o2 ⊢
     have hZ:=r0.lst [4] (fun _ h=>by cases h;decide)
     refine Ay [(9,[4]),(13,[4]),(14,[4]),(15,[7])] hZ (by kernel_rfl) ?_
     refine Au (i:=9) (by kernel_rfl) rfl ?_
     obtain ⟨f0,u4,v4⟩:=AT f0
     replace f2:=(f2.st m0).st r0
     refine BP rfl o2 (f2.rd) rfl rfl (by decide) u4 v4 rfl fun h8 i8 j8 k8 a1 p2=>?_
     rw [← f0] at p2 ⊢
     have hZ:=a1.lst [4] (fun _ h=>by cases h;decide)
     refine Ay [(13,[4]),(14,[4]),(15,[7])] hZ (by kernel_rfl) ?_
     refine Au (i:=13) (by kernel_rfl) rfl ?_
     obtain ⟨g0,x4,y4⟩:=AT g0
     replace j0:=(((j0.st q0).st m0).st r0).st a1
     refine BP rfl p2 (j0.rd) rfl rfl (by decide) x4 y4 rfl fun l8 m8 n8 o8 j1 t1=>?_
     rw [← g0] at t1 ⊢
     have hZ:=j1.lst [4] (fun _ h=>by cases h;decide)
     refine Ay [(14,[4]),(15,[7])] hZ (by kernel_rfl) ?_
     refine Au (i:=14) (by kernel_rfl) rfl ?_
     obtain ⟨z4,k1,t1⟩:=t1.freeze
     have hZ:=k1.lst [4] (fun _ h=>by cases h;decide)
     refine Bi 6 (by decide) z4 (xs:=([b2]:List (List Int))) rfl rfl rfl rfl ⟨t1,trivial⟩ (by decide) (by decide) rfl fun p8 q8 r8 l1 a5=>?_
     replace hZ:=hZ.cmp l1 [4] (fun _ h=>h.elim) rfl
     refine Ay [(15,[7])] hZ (by kernel_rfl) ?_
     refine Au (i:=15) (by kernel_rfl) rfl ?_
     obtain ⟨h0,b5,c5⟩:=AT h0
     replace b1:=((((((b1.st q0).st m0).st r0).st a1).st j1).st k1).st l1
     refine BP rfl b1 (a5.rd) rfl rfl (by decide) b5 c5 rfl fun d5 e5 s8 t8 u1 q2=>?_
     rw [← h0] at q2 ⊢
     have hZ:=u1.lst [7] (fun _ h=>by cases h;decide)
     refine Ay [] hZ (by kernel_rfl) ?_
     refine Az (fuel:=0) [] [(16,true)] (by kernel_rfl) rfl ?_
     refine Eh rfl rfl rfl (As ?_)
     refine AZ (by kernel_rfl) ?_
     obtain rfl:=sm a0
     exact ⟨(d5,e5),_,⟨rfl,rfl,rfl,rfl,rfl,rfl,rfl,trivial⟩,(((((((hB.st q0).st m0).st r0).st a1).st j1).st k1).st l1).st u1,q2,(((((((t0.st q0).st m0).st r0).st a1).st j1).st k1).st l1).st u1,(((((((k0.st q0).st m0).st r0).st a1).st j1).st k1).st l1).st u1⟩
    rintro u8 v8 ⟨a2,w8,r2,hB,x8,t0,k0⟩
    refine AE _ r2 ?_
    refine Aa (Aj rfl rfl ?_)
    obtain ⟨y8,s2,c0⟩:=bs c0
    have f5:=(BG s2)
    refine EQ (he:=s2) rfl rfl rfl ?_
    refine Am rfl rfl (o_z ?_)
    obtain rfl:=sm c0
    exact show Exists _ from ⟨_,(a2.1,a2.2),rfl,⟨rfl,rfl,rfl,rfl,rfl,rfl,rfl,trivial⟩,_,hB,x8,t0,k0,f5⟩
   replace c0:=im c0 k3
   refine o_z ?_
   refine Ae rfl (Ck ?_)
   obtain rfl:=sm c0
   exact show Exists _ from ⟨_,(v0.1,v0.2),z1 _ rfl,⟨rfl,rfl,rfl,rfl,rfl,trivial⟩,_,hB,b1,k0,l5⟩
  rintro z8 a9 ⟨b9,t2,rfl,n0,c9,hB,b1,k0,l5⟩
  replace c1:=AV c1
  obtain rfl:=sm c1
  exact show Exists _ from ⟨_,(t2.1,t2.2),rfl,⟨(Bj n0 _ _ rfl),(Bj n0 _ _ rfl),(Bj n0 _ _ rfl),(Bj n0 _ _ rfl),(Bj n0 _ _ rfl),trivial⟩,_,hB,b1,k0⟩
 replace hB:=hB.st k5
 rintro d9 g5 ⟨e9,f9,rfl,u2,g9,hB,y1⟩
 replace hm:=AV hm
 refine AE _ u2 ?_
 refine Ab (Aa (Aj rfl rfl (Am rfl rfl (o_z ?_))))
 refine AF ?_
 obtain ⟨h5,i5,y1⟩:=y1.freeze
 obtain rfl:=sm hm
 replace hB:=hB.st i5
 exact ret1v rfl (AC rfl) ⟨hB.ext,(Vb.mono (F:=Fr 0 g5 h5) y1 hB.out)⟩
noncomputable def mxP:Nat→MeTP
  | 0=>fun _=>none
  | d + 1=>GE (mxP d)
theorem Qs:∀ d,MeCP (mxP d)
  | 0=>fun _ _ _ _ hm=>nomatch hm
  | d + 1=>fun hA _ r0 _ hm=>Py (Qs d) hA r0 hm
noncomputable def EC (x0:Int):Option (List (List Int)):=mxP (x0.toNat + 1) x0
theorem HU {w:World} {A:Nat→Prop} (hA:∀ k,A k→k < w.heap.size) {x0:Int} (rx0:inI64 x0) {r:(List (List Int))} (hm:EC x0=some r) :
    Fn Tryz.prog 32 [(.int .i64 x0)] w fun v w'=>Ext w w'∧Vb w' (upA A w w') v r:=Qs _ hA rx0 hm
abbrev MeTV:=List Int→Option (List (List (List Int)))
def MeCV (me:MeTV):Prop:=∀ {w:World} {A:Nat→Prop},(∀ k,A k→k < w.heap.size)→∀ {vx0:Value} {x0:List Int},Vb w A vx0 x0→∀ {r:List (List (List Int))},me x0=some r →
    Fn Tryz.prog 33 [vx0] w fun v w'=>Ext w w'∧Vb w' (upA A w w') v r
noncomputable def FV (me:MeTV) (x0:List Int):Option (List (List (List Int))) :=
  if (x0.length:Int)=0 then (some [([]:List (List Int))]) else (bnd (atI x0 0) fun a23=>bnd (EC a23) fun q35=>bnd (rng (ρ:=(List (List (List Int)))) (fun (k50:Nat) (a51:List Int) (s48:(List (List (List Int))))=>bnd (cutI x0 1 (x0.length:Int)) fun u76=>bnd (me u76) fun q82=>bnd (rng (ρ:=Ctl (List (List (List Int))) (List (List (List Int)))) (fun (k97:Nat) (a98:List (List Int)) (s95:(List (List (List Int))))=>bnd (appI 24 [a51] a98) fun u129=>bnd (appI 24 s95 [u129]) fun u142=>some (.next u142)) q82 0 s48) fun res93=>fin res93 fun (s158:(List (List (List Int))))=>some (.next s158)) q35 0 ([]:List (List (List Int)))) fun res46=>fin res46 fun (s164:(List (List (List Int))))=>some s164)
theorem OB {me:MeTV} (hme:MeCV me) {w:World} {A:Nat→Prop} (hA:∀ k,A k→k < w.heap.size) {vx0:Value} {x0:List Int} (a0:Vb w A vx0 x0) {r:(List (List (List Int)))} (hm:FV me x0=some r) :
    Fn Tryz.prog 33 [vx0] w fun v w'=>Ext w w'∧Vb w' (upA A w w') v r:=by
 obtain ⟨O,hB,w2⟩:=enter hA
 replace a0:=a0.mono w2
 obtain ⟨A2,c3,rfl⟩:=a0.form
 refine AP Tryz.func33 rfl Tryz.ntmps33 rfl ?_
 unfold FV at hm
 refine Ab (Aa (Am rfl rfl (o_z ?_)))
 refine Ab (Ab (Aa (Aj rfl rfl (AX rfl rfl ?_))))
 have l5:x0.length≤9223372036854775807:=Nat.le_trans a0.len.2.1 a0.len.2.2
 have r4:inI64 (x0.length:Int):=rngNat l5
 refine FK rfl rfl rfl (fun c6=>?_) fun c6=>?_
 ·
  replace hm:=ip hm c6
  refine o_z ?_
  refine Ah rfl (Ab (Aa (Bi 2 (by decide) O (xs:=(([]:List (List Int)):List (List Int))) rfl rfl rfl rfl trivial (by decide) (by decide) rfl fun g7 w8 O9 x2 o1=>?_)))
  obtain ⟨y2,z2,o1⟩:=o1.freeze
  refine Bi 3 (by decide) y2 (xs:=([([]:List (List Int))]:List (List (List Int)))) rfl rfl rfl rfl ⟨o1,trivial⟩ (by decide) (by decide) rfl fun v4 a3 w4 b3 p1=>?_
  refine Am rfl rfl (o_z ?_)
  refine AF ?_
  obtain ⟨d3,e3,p1⟩:=p1.freeze
  obtain rfl:=sm hm
  replace hB:=(((hB.st x2).st z2).st b3).st e3
  exact ret1v rfl (AC rfl) ⟨hB.ext,(Vb.mono (F:=Fr 0 a3 d3) p1 hB.out)⟩
 replace hm:=im hm c6
 refine o_z ?_
 refine Ae rfl (AI (Ab (Aa (Am rfl rfl (o_z ?_)))))
 refine Ab (Ab (Aa (Aj rfl rfl ?_)))
 obtain ⟨x4,f3,hm⟩:=bs hm
 obtain ⟨g3,h3⟩:=AO f3
 obtain ⟨y4,z4,i3,q1,r1,s1,rfl,j3⟩:=a0.elem' h3
 refine Bv (hA:=q1) (hj:=(Int.toNat_of_nonneg g3).symm) (hlt:=r1) rfl rfl rfl ?_
 refine AJ (hc:=cat0 s1) rfl rfl ?_
 obtain ⟨f0,k3,hm⟩:=bs hm
 refine BQ (O:=O) (R:=fun w' F v=>Vb w' F v f0) (HU Fr.lt j3 k3) rfl rfl fun a5 b5 l3 t1 c0=>?_
 obtain ⟨a1,b1,rfl⟩:=c0.form
 refine AX rfl rfl ?_
 have u1:f0.length≤9223372036854775807:=Nat.le_trans c0.len.2.1 c0.len.2.2
 have c5:inI64 (f0.length:Int):=rngNat u1
 refine Aj rfl rfl (o_z ?_)
 obtain ⟨c1,v1,hm⟩:=bs hm
 refine Ax (aft c1 (fun (o0:(List (List (List Int)))) (i0:(Option Addr×Nat))=>[(3,(.slice i0.1 o0.length i0.2))]) (fun o0 i0 w'=>∃ O':Lab,Bs w A w' O'∧Rw 5 w' O' 41 (.slice i0.1 o0.length i0.2) o0)) ?_ ?_
 ·
  refine AG ?_
  replace a0:=a0.st t1
  replace hB:=hB.st t1
  refine Bk (σ:=(List (List (List Int)))) (X:=(Option Addr×Nat)) (f0.length) v1 rfl u1 (fun (o0:(List (List (List Int)))) (i0:(Option Addr×Nat))=>[(0,(.slice A2 x0.length c3)),(3,(.slice i0.1 o0.length i0.2)),(16,(.slice a1 f0.length b1))]) _ (fun o0 i0 w'=>∃ O':Lab,Bs w A w' O'∧Vb w' (Fr 0 w' O') (.slice A2 x0.length c3) x0∧Rw 5 w' O' 41 (.slice i0.1 o0.length i0.2) o0∧Vb w' (Fr 0 w' O') (.slice a1 f0.length b1) f0) _ (none,0) ⟨l3,hB,a0,(Rw.nil 5 (by decide)),c0⟩ ⟨rfl,rfl,rfl,rfl,rfl,trivial⟩ (fun _ _=>⟨rfl,rfl⟩) (fun _ _=>⟨rfl,trivial⟩) (fun _ _ _ ⟨O',hB,a0,r0,c0⟩=>⟨O',hB,r0⟩) ⟨rfl,rfl,rfl⟩ ⟨rfl,rfl⟩ ?_
  rintro w1 l1 o0 i0 d5 m3 d1 ⟨n3,hB,a0,r0,c0⟩ b0 x1 y1
  have rk50:inI64 (w1:Int):=rngK d1 u1
  refine Ab (Aa ?_)
  obtain ⟨e5,f5,o3,z1,a2,b2,g5,rfl,p0⟩:=c0.elem' d1
  replace p0:=Vb.of_slice p0
  obtain ⟨q2,r2,rfl⟩:=p0.form
  refine Bv (hA:=z1) (hj:=rfl) (hlt:=a2) rfl rfl rfl ?_
  refine AJ (hc:=cat0 b2) rfl rfl ?_
  refine Am rfl rfl (o_z ?_)
  refine Ab (Aa (Aj rfl rfl ?_))
  obtain ⟨h5,p3,b0⟩:=bs b0
  obtain ⟨i5,j5,q3,r3⟩:=cutB a0 p3
  refine Rx (hc:=r3) rfl rfl rfl ?_
  obtain ⟨w0,s3,b0⟩:=bs b0
  refine BQ (O:=n3) (R:=fun w' F v=>Vb w' F v w0) (hme Fr.lt q3 s3) rfl rfl fun k5 m5 t3 t0 u0=>?_
  obtain ⟨s2,t2,rfl⟩:=u0.form
  refine AX rfl rfl ?_
  have c2:w0.length≤9223372036854775807:=Nat.le_trans u0.len.2.1 u0.len.2.2
  have n5:inI64 (w0.length:Int):=rngNat c2
  refine Aj rfl rfl (o_z ?_)
  obtain ⟨e1,d2,b0⟩:=bs b0
  refine Ax (aft e1 (fun (q0:(List (List (List Int)))) (m0:(Option Addr×Nat))=>[(0,(.slice A2 x0.length c3)),(3,(.slice m0.1 q0.length m0.2)),(16,(.slice a1 f0.length b1)),(17,(.int .i64 (f0.length:Int))),(18,(.int .i64 (w1:Int)))]) (fun q0 m0 w'=>∃ O':Lab,Bs w A w' O'∧Vb w' (Fr 0 w' O') (.slice A2 x0.length c3) x0∧Rw 5 w' O' 41 (.slice m0.1 q0.length m0.2) q0∧Vb w' (Fr 0 w' O') (.slice a1 f0.length b1) f0)) ?_ ?_
  ·
   refine AG ?_
   replace a0:=a0.st t0
   replace hB:=hB.st t0
   replace c0:=c0.st t0
   replace r0:=r0.st t0
   replace p0:=p0.st t0
   refine Bk (σ:=(List (List (List Int)))) (X:=(Option Addr×Nat)) (w0.length) d2 rfl c2 (fun (q0:(List (List (List Int)))) (m0:(Option Addr×Nat))=>[(0,(.slice A2 x0.length c3)),(3,(.slice m0.1 q0.length m0.2)),(5,(.slice q2 l1.length r2)),(16,(.slice a1 f0.length b1)),(17,(.int .i64 (f0.length:Int))),(18,(.int .i64 (w1:Int))),(24,(.slice s2 w0.length t2))]) _ (fun q0 m0 w'=>∃ O':Lab,Bs w A w' O'∧Vb w' (Fr 0 w' O') (.slice A2 x0.length c3) x0∧Rw 5 w' O' 41 (.slice m0.1 q0.length m0.2) q0∧Vb w' (Fr 0 w' O') (.slice q2 l1.length r2) l1∧Vb w' (Fr 0 w' O') (.slice a1 f0.length b1) f0∧Vb w' (Fr 0 w' O') (.slice s2 w0.length t2) w0) _ (i0.1,i0.2) ⟨t3,hB,a0,r0,p0,c0,u0⟩ ⟨rfl,rfl,rfl,rfl,rfl,rfl,rfl,rfl,rfl,trivial⟩ (fun _ _=>⟨rfl,rfl⟩) (fun _ _=>⟨rfl,rfl,rfl,rfl,rfl,trivial⟩) (fun _ _ _ ⟨O',hB,a0,g0,p0,c0,u0⟩=>⟨O',hB,a0,g0,c0⟩) ⟨rfl,rfl,rfl⟩ ⟨rfl,rfl⟩ ?_
   rintro u3 o5 q0 m0 p5 u2 v0 ⟨e2,hB,a0,g0,p0,c0,u0⟩ d0 m1 n1
   have rk97:inI64 (u3:Int):=rngK v0 c2
   refine Ab (Aa ?_)
   obtain ⟨v3,w3,v2,f1,g1,h1,x3,rfl,j0⟩:=u0.elem' v0
   replace j0:=Vb.of_slice j0
   obtain ⟨y3,z3,rfl⟩:=j0.form
   refine Bv (hA:=f1) (hj:=rfl) (hlt:=g1) rfl rfl rfl ?_
   refine AJ (hc:=cat0 h1) rfl rfl ?_
   refine Am rfl rfl (o_z ?_)
   refine Aa (Aj rfl rfl (Aj rfl rfl (Bi 4 (by decide) e2 (xs:=([l1]:List (List Int))) rfl rfl rfl rfl ⟨p0,trivial⟩ (by decide) (by decide) rfl fun a4 b4 c4 h0 f2=>?_)))
   refine Aj rfl rfl ?_
   obtain ⟨g2,y0,d0⟩:=bs d0
   obtain ⟨y0,h2,i2⟩:=AT y0
   replace j0:=j0.st h0
   refine BP rfl f2 (j0.rd) rfl rfl (by decide) h2 i2 rfl fun d4 e4 f4 g4 k0 s0=>?_
   rw [← y0] at s0 ⊢
   obtain ⟨h4,l0,s0⟩:=s0.freeze
   obtain ⟨i4,z0,d0⟩:=bs d0
   obtain ⟨z0,j2,k2⟩:=AT z0
   replace g0:=((g0.st h0).st k0).st l0
   refine CF rfl (a:=g2) g0 s0 (fun _=>rfl) rfl (by decide) (by decide) j2 k2 ⟨rfl,rfl⟩ fun j4 l2 m2 k4 l4 n0 i1=>?_
   rw [← z0] at i1 ⊢
   refine Am rfl rfl (o_z ?_)
   obtain rfl:=sm d0
   exact show Exists _ from ⟨_,(l2,m2),rfl,⟨rfl,rfl,rfl,rfl,rfl,rfl,rfl,rfl,rfl,trivial⟩,_,(((hB.st h0).st k0).st l0).st n0,(((a0.st h0).st k0).st l0).st n0,i1,(((p0.st h0).st k0).st l0).st n0,(((c0.st h0).st k0).st l0).st n0,(((u0.st h0).st k0).st l0).st n0⟩
  replace a0:=a0.st t0
  replace hB:=hB.st t0
  replace c0:=c0.st t0
  rintro m4 n4 ⟨o4,j1,rfl,e0,p4,hB,a0,g0,c0⟩
  replace b0:=AV b0
  obtain rfl:=sm b0
  exact show Exists _ from ⟨_,(j1.1,j1.2),rfl,⟨(Bj e0 _ _ rfl),(Bj e0 _ _ rfl),(Bj e0 _ _ rfl),(Bj e0 _ _ rfl),(Bj e0 _ _ rfl),trivial⟩,_,hB,a0,g0,c0⟩
 replace hB:=hB.st t1
 rintro q4 n2 ⟨s4,t4,rfl,k1,u4,hB,r0⟩
 replace hm:=AV hm
 refine AE _ k1 ?_
 refine Ab (Aa (Aj rfl rfl (Am rfl rfl (o_z ?_))))
 refine AF ?_
 obtain ⟨o2,p2,r0⟩:=r0.freeze
 obtain rfl:=sm hm
 replace hB:=hB.st p2
 exact ret1v rfl (AC rfl) ⟨hB.ext,(Vb.mono (F:=Fr 0 n2 o2) r0 hB.out)⟩
noncomputable def mxV:Nat→MeTV
  | 0=>fun _=>none
  | d + 1=>FV (mxV d)
theorem Qt:∀ d,MeCV (mxV d)
  | 0=>fun _ _ _ _ _ hm=>nomatch hm
  | d + 1=>fun hA _ _ h0 _ hm=>OB (Qt d) hA h0 hm
noncomputable def ES (x0:List Int):Option (List (List (List Int))):=mxV (x0.length + 1) x0
theorem Kt {w:World} {A:Nat→Prop} (hA:∀ k,A k→k < w.heap.size) {vx0:Value} {x0:List Int} (a0:Vb w A vx0 x0) {r:List (List (List Int))} (hm:ES x0=some r) :
    Fn Tryz.prog 33 [vx0] w fun v w'=>Ext w w'∧Vb w' (upA A w w') v r:=Qt _ hA a0 hm
noncomputable def Cu (x0:Tsk) (x1:Swp):Option (Swp×Bool) :=
  bnd (mkI 1 (false:Bool) (x0.ops.length:Int)) fun u52=>bnd (rng (ρ:=Swp×Bool) (fun (k71:Nat) (a72:Opr) (s69:(List Bool)×(List Int))=>bnd (rng (ρ:=Ctl ((List Bool)×(List Int)) (Swp×Bool)) (fun (k96:Nat) (a97:Opr) (s94:Int)=>bnd (if s94 < 0 then (bnd (s69.1[k96]?) fun a114=>if (!a114)=true then (bnd (CW (⟨x1.vars,x1.vals,s69.2⟩:Swp) a72 a97) fun q158=>if q158=true then some true else some false) else (some false)) else (some false):Option Bool) fun y109=>if y109=true then (some (.next (k96:Int))) else (some (.next s94))) x0.ops 0 (-1)) fun res92=>fin res92 fun (s174:Int)=>if s174 < 0 then (some (.ret ((⟨x1.vars,x1.vals,s69.2⟩:Swp),false))) else (bnd (atI s69.1 s174) fun a181=>bnd (appI 8 s69.2 [s174]) fun u194=>some (.next ((s69.1.set (s174:Int).toNat true),u194)))) x0.ops 0 (u52,([]:List Int))) fun res67=>fin res67 fun (s212:(List Bool)×(List Int))=>bnd (bnd (CI (⟨x1.vars,x1.vals,s212.2⟩:Swp) x0.goal) fun q218=>bnd (DJ q218 x0.goal) fun q227=>if q227=true then some true else some false:Option Bool) fun y214=>some ((⟨x1.vars,x1.vals,s212.2⟩:Swp),y214)
theorem Ge {w:World} {A:Nat→Prop} (hA:∀ k,A k→k < w.heap.size) {vx0:Value} {x0:Tsk} (e4:Vb w A vx0 x0) {vx1:Value} {x1:Swp} (f4:Vb w A vx1 x1) {r:Swp×Bool} (hm:Cu x0 x1=some r) :
    Fn Tryz.prog 14 [vx0,vx1] w fun v w'=>Ext w w'∧T2 w' (upA A w w') v r:=by
 obtain ⟨O,hB,a6⟩:=enter hA
 replace e4:=e4.mono a6
 obtain ⟨m8,rfl,v4,v5,v6,v7,rfl,h8,v0,o0,i0⟩:=e4
 obtain ⟨A9,l1,rfl⟩:=h8.form
 obtain ⟨m1,n1,rfl⟩:=v0.form
 obtain ⟨o1,p1,rfl⟩:=o0.form
 obtain ⟨q1,r1,rfl⟩:=i0.form
 replace f4:=f4.mono a6
 obtain ⟨l6,rfl,n8,o8,p8,rfl,e0,f0,m6⟩:=f4
 obtain ⟨r0,s0,rfl⟩:=e0.form
 obtain ⟨t0,u0,rfl⟩:=f0.form
 obtain ⟨n6,o6,rfl⟩:=m6.form
 refine AP Tryz.func14 rfl Tryz.ntmps14 rfl ?_
 unfold Cu at hm
 refine Ab (Aa (BC 2 O rfl rfl fun s1 p6 b6 j1 j0=>?_))
 replace j0:Lc 2 p6 b6 s1 30 [(.slice A9 x0.vars.length l1),(.slice m1 x0.init.length n1),(.slice o1 x0.goal.length p1),(.slice q1 x0.ops.length r1)]:=j0
 refine BC 3 b6 rfl rfl fun k1 q6 c6 i1 d0=>?_
 replace d0:Lc 3 q6 c6 k1 43 [(.slice r0 x1.vars.length s0),(.slice t0 x1.vals.length u0),(.slice n6 x1.ops.length o6)]:=d0
 refine Bd 4 c6 rfl fun g1 q8 d6 h1 c0=>?_
 refine Am rfl rfl (o_z ?_)
 refine Ab (Aa (AS rfl rfl ?_))
 replace d0:=d0.st h1
 refine AD d0 rfl rfl rfl (AU rfl) (allOne rfl) fun r6 f1 d0=>?_
 replace d0:Lc 3 r6 d6 k1 43 [(.slice r0 x1.vars.length s0),(.slice t0 x1.vals.length u0),(.slice none 0 0)]:=d0
 refine o_z ?_
 refine Ab (Aa (AS rfl rfl ?_))
 replace j0:=((j0.st i1).st h1).st f1
 refine AJ (hc:=Blk.cell (i:=3) (j0.1) rfl) rfl rfl ?_
 refine AX rfl rfl ?_
 replace i0:=(((i0.st j1).st i1).st h1).st f1
 have s6:x0.ops.length≤9223372036854775807:=Nat.le_trans i0.len.2.1 i0.len.2.2
 have r8:inI64 (x0.ops.length:Int):=rngNat s6
 obtain ⟨c2,t6,hm⟩:=bs hm
 obtain ⟨d2,u6,w6,x6,y6⟩:=CL t6
 refine DG 5 (by decide) d6 (z0:=(false:Bool)) rfl rfl rfl rfl rfl u6 vBool w6 x6 rfl fun e2 s8 z6 d1 e6=>?_
 rw [← y6] at e6 ⊢
 refine Am rfl rfl (o_z ?_)
 refine Ab (Ab (Aa (AS rfl rfl ?_)))
 replace j0:=j0.st d1
 refine AJ (hc:=Blk.cell (i:=3) (j0.1) rfl) rfl rfl ?_
 refine AX rfl rfl ?_
 replace i0:=i0.st d1
 have g4:x0.ops.length≤9223372036854775807:=Nat.le_trans i0.len.2.1 i0.len.2.2
 have t8:inI64 (x0.ops.length:Int):=rngNat g4
 refine Aj rfl rfl (o_z ?_)
 obtain ⟨p2,h4,hm⟩:=bs hm
 refine Ax (aft p2 (fun (l0:(List Bool)×(List Int)) (g0:(Option Addr×Nat))=>[(2,(.pointer (some ⟨s1,0,none⟩))),(3,(.pointer (some ⟨k1,0,none⟩))),(4,(.pointer (some ⟨g1,0,none⟩)))]) (fun l0 g0 w'=>∃ O':Lab,Bs w A w' O'∧Lc 2 w' O' s1 30 [(.slice A9 x0.vars.length l1),(.slice m1 x0.init.length n1),(.slice o1 x0.goal.length p1),(.slice q1 x0.ops.length r1)]∧Vb w' (Fr 0 w' O') (.slice A9 x0.vars.length l1) x0.vars∧Vb w' (Fr 0 w' O') (.slice m1 x0.init.length n1) x0.init∧Vb w' (Fr 0 w' O') (.slice o1 x0.goal.length p1) x0.goal∧Vb w' (Fr 0 w' O') (.slice q1 x0.ops.length r1) x0.ops∧Lc 3 w' O' k1 43 [(.slice r0 x1.vars.length s0),(.slice t0 x1.vals.length u0),(.slice g0.1 l0.2.length g0.2)]∧Vb w' (Fr 0 w' O') (.slice r0 x1.vars.length s0) x1.vars∧Vb w' (Fr 0 w' O') (.slice t0 x1.vals.length u0) x1.vals∧Rw 6 w' O' 3 (.slice g0.1 l0.2.length g0.2) l0.2∧Lc 4 w' O' g1 43 [(.slice none 0 0),(.slice none 0 0),(.slice none 0 0)])) ?_ ?_
 ·
  refine AG ?_
  replace hB:=((((hB.st j1).st i1).st h1).st f1).st d1
  replace h8:=((((h8.st j1).st i1).st h1).st f1).st d1
  replace v0:=((((v0.st j1).st i1).st h1).st f1).st d1
  replace o0:=((((o0.st j1).st i1).st h1).st f1).st d1
  replace e0:=((((e0.st j1).st i1).st h1).st f1).st d1
  replace f0:=((((f0.st j1).st i1).st h1).st f1).st d1
  replace d0:=d0.st d1
  replace c0:=(c0.st f1).st d1
  refine Bk (σ:=(List Bool)×(List Int)) (X:=(Option Addr×Nat)) (x0.ops.length) h4 rfl g4 (fun (l0:(List Bool)×(List Int)) (g0:(Option Addr×Nat))=>[(2,(.pointer (some ⟨s1,0,none⟩))),(3,(.pointer (some ⟨k1,0,none⟩))),(4,(.pointer (some ⟨g1,0,none⟩))),(6,(.slice (some ⟨e2,0,none⟩) c2.length d2))]) _ (fun l0 g0 w'=>∃ O':Lab,Bs w A w' O'∧Lc 2 w' O' s1 30 [(.slice A9 x0.vars.length l1),(.slice m1 x0.init.length n1),(.slice o1 x0.goal.length p1),(.slice q1 x0.ops.length r1)]∧Vb w' (Fr 0 w' O') (.slice A9 x0.vars.length l1) x0.vars∧Vb w' (Fr 0 w' O') (.slice m1 x0.init.length n1) x0.init∧Vb w' (Fr 0 w' O') (.slice o1 x0.goal.length p1) x0.goal∧Vb w' (Fr 0 w' O') (.slice q1 x0.ops.length r1) x0.ops∧Lc 3 w' O' k1 43 [(.slice r0 x1.vars.length s0),(.slice t0 x1.vals.length u0),(.slice g0.1 l0.2.length g0.2)]∧Vb w' (Fr 0 w' O') (.slice r0 x1.vars.length s0) x1.vars∧Vb w' (Fr 0 w' O') (.slice t0 x1.vals.length u0) x1.vals∧Rw 6 w' O' 3 (.slice g0.1 l0.2.length g0.2) l0.2∧Lc 4 w' O' g1 43 [(.slice none 0 0),(.slice none 0 0),(.slice none 0 0)]∧Rw 5 w' O' 4 (.slice (some ⟨e2,0,none⟩) c2.length d2) l0.1) _ (none,0) ⟨z6,hB,j0,h8,v0,o0,i0,d0,e0,f0,(Rw.nil 6 (by decide)),c0,e6⟩ ⟨rfl,rfl,rfl,rfl,rfl,rfl,trivial⟩ (fun _ _=>⟨rfl,rfl⟩) (fun _ _=>⟨rfl,rfl,rfl,trivial⟩) (fun _ _ _ ⟨O',hB,j0,h8,v0,o0,i0,d0,e0,f0,k0,c0,e1⟩=>⟨O',hB,j0,h8,v0,o0,i0,d0,e0,f0,k0,c0⟩) ⟨rfl,rfl,rfl⟩ ⟨rfl,rfl⟩ ?_
  rintro o2 q2 l0 g0 u8 a7 r2 ⟨b7,hB,j0,h8,v0,o0,i0,d0,e0,f0,k0,c0,e1⟩ m0 h2 i4
  have rk71:inI64 (o2:Int):=rngK r2 g4
  refine Ab (Aa (Aj rfl rfl (Am rfl rfl (o_z ?_))))
  refine Ab (Aa (Am rfl rfl (o_z ?_)))
  refine Ab (Ab (Aa (AS rfl rfl (AJ (hc:=Blk.cell (i:=3) (j0.1) rfl) rfl rfl ?_))))
  refine AX rfl rfl ?_
  have j4:x0.ops.length≤9223372036854775807:=Nat.le_trans i0.len.2.1 i0.len.2.2
  have v8:inI64 (x0.ops.length:Int):=rngNat j4
  refine Aj rfl rfl (o_z ?_)
  obtain ⟨s2,k4,m0⟩:=bs m0
  refine Ax (aft s2 (fun (y1:Int) (a4:Unit)=>[(2,(.pointer (some ⟨s1,0,none⟩))),(3,(.pointer (some ⟨k1,0,none⟩))),(4,(.pointer (some ⟨g1,0,none⟩))),(6,(.slice (some ⟨e2,0,none⟩) c2.length d2)),(8,(.int .i64 y1)),(17,(.int .i64 (x0.ops.length:Int))),(18,(.int .i64 (o2:Int)))]) (fun y1 a4 w'=>∃ O':Lab,Bs w A w' O'∧Lc 2 w' O' s1 30 [(.slice A9 x0.vars.length l1),(.slice m1 x0.init.length n1),(.slice o1 x0.goal.length p1),(.slice q1 x0.ops.length r1)]∧Vb w' (Fr 0 w' O') (.slice A9 x0.vars.length l1) x0.vars∧Vb w' (Fr 0 w' O') (.slice m1 x0.init.length n1) x0.init∧Vb w' (Fr 0 w' O') (.slice o1 x0.goal.length p1) x0.goal∧Vb w' (Fr 0 w' O') (.slice q1 x0.ops.length r1) x0.ops∧Lc 3 w' O' k1 43 [(.slice r0 x1.vars.length s0),(.slice t0 x1.vals.length u0),(.slice g0.1 l0.2.length g0.2)]∧Vb w' (Fr 0 w' O') (.slice r0 x1.vars.length s0) x1.vars∧Vb w' (Fr 0 w' O') (.slice t0 x1.vals.length u0) x1.vals∧Rw 6 w' O' 3 (.slice g0.1 l0.2.length g0.2) l0.2∧Lc 4 w' O' g1 43 [(.slice none 0 0),(.slice none 0 0),(.slice none 0 0)]∧Rw 5 w' O' 4 (.slice (some ⟨e2,0,none⟩) c2.length d2) l0.1∧inI64 y1)) ?_ ?_
  ·
   refine AG (Bk (σ:=Int) (X:=Unit) (x0.ops.length) k4 rfl j4 (fun (y1:Int) (a4:Unit)=>[(2,(.pointer (some ⟨s1,0,none⟩))),(3,(.pointer (some ⟨k1,0,none⟩))),(4,(.pointer (some ⟨g1,0,none⟩))),(6,(.slice (some ⟨e2,0,none⟩) c2.length d2)),(7,(.int .i64 (o2:Int))),(8,(.int .i64 y1)),(17,(.int .i64 (x0.ops.length:Int))),(18,(.int .i64 (o2:Int)))]) _ (fun y1 a4 w'=>∃ O':Lab,Bs w A w' O'∧Lc 2 w' O' s1 30 [(.slice A9 x0.vars.length l1),(.slice m1 x0.init.length n1),(.slice o1 x0.goal.length p1),(.slice q1 x0.ops.length r1)]∧Vb w' (Fr 0 w' O') (.slice A9 x0.vars.length l1) x0.vars∧Vb w' (Fr 0 w' O') (.slice m1 x0.init.length n1) x0.init∧Vb w' (Fr 0 w' O') (.slice o1 x0.goal.length p1) x0.goal∧Vb w' (Fr 0 w' O') (.slice q1 x0.ops.length r1) x0.ops∧Lc 3 w' O' k1 43 [(.slice r0 x1.vars.length s0),(.slice t0 x1.vals.length u0),(.slice g0.1 l0.2.length g0.2)]∧Vb w' (Fr 0 w' O') (.slice r0 x1.vars.length s0) x1.vars∧Vb w' (Fr 0 w' O') (.slice t0 x1.vals.length u0) x1.vals∧Rw 6 w' O' 3 (.slice g0.1 l0.2.length g0.2) l0.2∧Lc 4 w' O' g1 43 [(.slice none 0 0),(.slice none 0 0),(.slice none 0 0)]∧Rw 5 w' O' 4 (.slice (some ⟨e2,0,none⟩) c2.length d2) l0.1∧inI64 y1) _ () ⟨b7,hB,j0,h8,v0,o0,i0,d0,e0,f0,k0,c0,e1,(show inI64 (-1) from by decide)⟩ ⟨rfl,rfl,rfl,rfl,rfl,rfl,rfl,rfl,rfl,rfl,trivial⟩ (fun _ _=>⟨rfl,rfl⟩) (fun _ _=>⟨rfl,rfl,rfl,rfl,rfl,rfl,rfl,trivial⟩) (fun _ _ _ ⟨O',hB,j0,h8,v0,o0,i0,d0,e0,f0,k0,c0,e1,t1⟩=>⟨O',hB,j0,h8,v0,o0,i0,d0,e0,f0,k0,c0,e1,t1⟩) ⟨rfl,rfl,rfl⟩ ⟨rfl,rfl⟩ ?_)
   rintro l4 t2 y1 a4 b4 f6 f2 ⟨u2,hB,j0,h8,v0,o0,i0,d0,e0,f0,k0,c0,e1,t1⟩ p0 c4 d4
   have rk96:inI64 (l4:Int):=rngK f2 j4
   refine Ab (Aa (Aj rfl rfl (Am rfl rfl (o_z ?_))))
   refine Ab ?_
   obtain ⟨m4,a0,p0⟩:=bs p0
   refine Ax (fun l' w'=>∃ (n4:Unit) (O':Lab),subs l' [(2,(.pointer (some ⟨s1,0,none⟩))),(3,(.pointer (some ⟨k1,0,none⟩))),(4,(.pointer (some ⟨g1,0,none⟩))),(6,(.slice (some ⟨e2,0,none⟩) c2.length d2)),(7,(.int .i64 (o2:Int))),(8,(.int .i64 y1)),(9,(.int .i64 (l4:Int))),(17,(.int .i64 (x0.ops.length:Int))),(18,(.int .i64 (o2:Int))),(23,(.int .i64 (x0.ops.length:Int))),(24,(.int .i64 (l4:Int))),(49,(.bool m4))]∧Bs w A w' O'∧Lc 2 w' O' s1 30 [(.slice A9 x0.vars.length l1),(.slice m1 x0.init.length n1),(.slice o1 x0.goal.length p1),(.slice q1 x0.ops.length r1)]∧Vb w' (Fr 0 w' O') (.slice A9 x0.vars.length l1) x0.vars∧Vb w' (Fr 0 w' O') (.slice m1 x0.init.length n1) x0.init∧Vb w' (Fr 0 w' O') (.slice o1 x0.goal.length p1) x0.goal∧Vb w' (Fr 0 w' O') (.slice q1 x0.ops.length r1) x0.ops∧Lc 3 w' O' k1 43 [(.slice r0 x1.vars.length s0),(.slice t0 x1.vals.length u0),(.slice g0.1 l0.2.length g0.2)]∧Vb w' (Fr 0 w' O') (.slice r0 x1.vars.length s0) x1.vars∧Vb w' (Fr 0 w' O') (.slice t0 x1.vals.length u0) x1.vals∧Rw 6 w' O' 3 (.slice g0.1 l0.2.length g0.2) l0.2∧Lc 4 w' O' g1 43 [(.slice none 0 0),(.slice none 0 0),(.slice none 0 0)]∧Rw 5 w' O' 4 (.slice (some ⟨e2,0,none⟩) c2.length d2) l0.1) ?_ ?_
   ·
    refine Bc [] u2 ?_
    refine Az (fuel:=2) [] [(0,true),(1,true),(2,true),(3,true),(4,true),(5,true),(6,true),(7,true),(8,true),(9,true),(10,true),(11,true),(12,true),(13,true),(14,true),(15,true),(16,true),(17,true),(18,true),(19,true),(20,true)] (by kernel_rfl) rfl ?_
    refine AH rfl rfl rfl (JN rfl rfl rfl rfl (fun i2=>?_) fun i2=>?_)
    ·
     replace a0:=ip a0 i2
     refine AH rfl rfl rfl (Al rfl (Ak rfl rfl (BS rfl rfl (Al rfl (Ak rfl rfl (BS rfl rfl (Al rfl (Ak rfl rfl ?_))))))))
     obtain ⟨o4,p4,a0⟩:=bs a0
     obtain ⟨c7,d7,g6,v2,w2,x2,y2,rfl⟩:=e1.elemF p4
     refine DM (hA:=v2) (hj:=rfl) (hlt:=x2) rfl rfl rfl ?_
     refine Al rfl (Ak rfl rfl (Da (hc:=fun w' ⟨O',hq⟩=>cat0 (AL (hq.agree (i:=5) (by decide)) w2 y2)) rfl rfl ?_))
     refine Al rfl (Ak rfl rfl (Sc rfl rfl (Ce rfl rfl rfl rfl (AH rfl rfl rfl ?_))))
     rcases Bool.eq_false_or_eq_true (!o4) with u1|u1
     ·
      try rw [u1]
      replace a0:=ip a0 u1
      refine Al rfl (Ak rfl rfl (Fu (hl:=rfl) (hb:=fun w' ⟨O',hq⟩=>((d0.st hq (by decide)).1).cellsAt) rfl rfl ?_))
      refine Al rfl (Ak rfl rfl (BD rfl rfl (Al rfl (Ak rfl rfl (Da (hc:=fun w' ⟨O',hq⟩=>Blk.cell (i:=3) ((j0.st hq (by decide)).1) rfl) rfl rfl ?_)))))
      refine Al rfl (Ak rfl rfl (BS rfl rfl (Al rfl (Ak rfl rfl ?_))))
      obtain ⟨e7,f7,h6,z2,a3,b3,c3,g7,h7,rfl,d3,e3,q4,r4⟩:=i0.elem r2
      obtain ⟨s4,t4,rfl⟩:=d3.form
      obtain ⟨u4,w4,rfl⟩:=e3.form
      refine DM (hA:=z2) (hj:=rfl) (hlt:=b3) rfl rfl rfl ?_
      refine Al rfl (Ak rfl rfl (Fu (hl:=rfl) (hb:=fun w' ⟨O',hq⟩=>(AL (hq.agree (i:=0) (by decide)) a3 c3)) rfl rfl ?_))
      refine Al rfl (Ak rfl rfl (BD rfl rfl (Al rfl (Ak rfl rfl (Da (hc:=fun w' ⟨O',hq⟩=>Blk.cell (i:=3) ((j0.st hq (by decide)).1) rfl) rfl rfl ?_)))))
      refine Al rfl (Ak rfl rfl (BS rfl rfl (Al rfl (Ak rfl rfl ?_))))
      obtain ⟨i7,j7,i6,f3,g3,h3,i3,k7,l7,rfl,j3,k3,x4,y4⟩:=i0.elem f2
      obtain ⟨z4,a5,rfl⟩:=j3.form
      obtain ⟨b5,c5,rfl⟩:=k3.form
      refine DM (hA:=f3) (hj:=rfl) (hlt:=h3) rfl rfl rfl ?_
      refine Al rfl (Ak rfl rfl (Fu (hl:=rfl) (hb:=fun w' ⟨O',hq⟩=>(AL (hq.agree (i:=0) (by decide)) g3 i3)) rfl rfl ?_))
      refine As ?_
      refine Au (i:=21) (by kernel_rfl) rfl ?_
      refine Ar rfl rfl ?_
      obtain ⟨l3,d5,a0⟩:=bs a0
      refine Bf (O:=u2) (A:=All b4) (R:=fun w' F v=>Vb w' F v l3) (LT (fun _ h=>h) (Vb.mono (F:=FrS [6] b4 u2) (Vb.ofAgg (cs:=[(.slice r0 x1.vars.length s0),(.slice t0 x1.vals.length u0),(.slice g0.1 l0.2.length g0.2)]) (x:=(⟨x1.vars,x1.vals,l0.2⟩:Swp)) rfl ⟨_,_,_,rfl,(e0.lend [6]),(f0.lend [6]),(k0.lend [6] (by decide))⟩) FrS.lt) (Vb.mono (F:=Fr 0 b4 u2) (Vb.ofAgg (cs:=[(.string q2.name),(.int .i64 q2.cost),(.slice s4 q2.pre.length t4),(.slice u4 q2.effs.length w4)]) (x:=q2) rfl ⟨_,_,rfl,d3,e3,q4,r4⟩) Fr.lt) (Vb.mono (F:=Fr 0 b4 u2) (Vb.ofAgg (cs:=[(.string t2.name),(.int .i64 t2.cost),(.slice z4 t2.pre.length a5),(.slice b5 t2.effs.length c5)]) (x:=t2) rfl ⟨_,_,rfl,j3,k3,x4,y4⟩) Fr.lt) d5) rfl rfl fun m7 n7 o7 b0 e5=>?_
      obtain rfl:=e5.bool
      have hZ:=b0.lst [] (fun _ h=>h.elim)
      cases l3
      case false =>
       replace a0:=iF a0
       refine Ay [] hZ (by kernel_rfl) ?_
       refine Az (fuel:=0) [] [(22,true)] (by kernel_rfl) rfl ?_
       refine Ce rfl rfl rfl rfl (As ?_)
       refine AZ (by kernel_rfl) ?_
       obtain rfl:=sm a0
       exact ⟨(),_,⟨rfl,rfl,rfl,rfl,rfl,rfl,rfl,rfl,rfl,rfl,rfl,rfl,trivial⟩,hB.st b0,j0.st b0,h8.st b0,v0.st b0,o0.st b0,i0.st b0,d0.st b0,e0.st b0,f0.st b0,k0.st b0,c0.st b0,e1.st b0⟩
      replace a0:=iT a0
      refine Ay [] hZ (by kernel_rfl) ?_
      refine Az (fuel:=0) [] [(22,true)] (by kernel_rfl) rfl ?_
      refine Ce rfl rfl rfl rfl (As ?_)
      refine AZ (by kernel_rfl) ?_
      obtain rfl:=sm a0
      exact ⟨(),_,⟨rfl,rfl,rfl,rfl,rfl,rfl,rfl,rfl,rfl,rfl,rfl,rfl,trivial⟩,hB.st b0,j0.st b0,h8.st b0,v0.st b0,o0.st b0,i0.st b0,d0.st b0,e0.st b0,f0.st b0,k0.st b0,c0.st b0,e1.st b0⟩
     try rw [u1]
     replace a0:=im' a0 u1
     refine AB rfl rfl rfl rfl rfl (AB rfl rfl rfl rfl rfl (AB rfl rfl rfl rfl rfl (AB rfl rfl rfl rfl rfl (AB rfl rfl rfl rfl rfl (AB rfl rfl rfl rfl rfl (AB rfl rfl rfl rfl rfl (AB rfl rfl rfl rfl rfl (AB rfl rfl rfl rfl rfl (AB rfl rfl rfl rfl rfl (AB rfl rfl rfl rfl rfl (As ?_)))))))))))
     refine Au (i:=21) (by kernel_rfl) rfl ?_
     refine An rfl rfl rfl rfl (Ay [] ((St.refl nT _ _).lst [] (fun _ h=>h.elim)) (by kernel_rfl) ?_)
     refine Az (fuel:=0) [] [(22,true)] (by kernel_rfl) rfl ?_
     refine Cb rfl rfl rfl rfl (As ?_)
     refine AZ (by kernel_rfl) ?_
     obtain rfl:=sm a0
     exact ⟨(),_,⟨rfl,rfl,rfl,rfl,rfl,rfl,rfl,rfl,rfl,rfl,rfl,rfl,trivial⟩,hB,j0,h8,v0,o0,i0,d0,e0,f0,k0,c0,e1⟩
    replace a0:=im a0 i2
    refine AH rfl rfl rfl (AB rfl rfl rfl rfl rfl (AB rfl rfl rfl rfl rfl (AB rfl rfl rfl rfl rfl (AB rfl rfl rfl rfl rfl (AB rfl rfl rfl rfl rfl (Cb rfl rfl rfl rfl (AH rfl rfl rfl (AB rfl rfl rfl rfl rfl (AB rfl rfl rfl rfl rfl (AB rfl rfl rfl rfl rfl (AB rfl rfl rfl rfl rfl (AB rfl rfl rfl rfl rfl (AB rfl rfl rfl rfl rfl (AB rfl rfl rfl rfl rfl ?_))))))))))))))
    refine AB rfl rfl rfl rfl rfl (AB rfl rfl rfl rfl rfl (AB rfl rfl rfl rfl rfl (AB rfl rfl rfl rfl rfl (As ?_))))
    refine Au (i:=21) (by kernel_rfl) rfl ?_
    refine An rfl rfl rfl rfl (Ay [] ((St.refl nT _ _).lst [] (fun _ h=>h.elim)) (by kernel_rfl) ?_)
    refine Az (fuel:=0) [] [(22,true)] (by kernel_rfl) rfl ?_
    refine Cb rfl rfl rfl rfl (As ?_)
    refine AZ (by kernel_rfl) ?_
    obtain rfl:=sm a0
    exact ⟨(),_,⟨rfl,rfl,rfl,rfl,rfl,rfl,rfl,rfl,rfl,rfl,rfl,rfl,trivial⟩,hB,j0,h8,v0,o0,i0,d0,e0,f0,k0,c0,e1⟩
   rintro p7 q7 ⟨n4,r7,m3,hB,j0,h8,v0,o0,i0,d0,e0,f0,k0,c0,e1⟩
   refine AE _ m3 ?_
   refine Bp rfl (fun j2=>?_) (fun j2=>?_)
   ·
    replace p0:=ip p0 j2
    refine Aa (Aj rfl rfl (Am rfl rfl (o_z ?_)))
    obtain rfl:=sm p0
    exact show Exists _ from ⟨_,(),rfl,⟨rfl,rfl,rfl,rfl,rfl,rfl,rfl,rfl,rfl,rfl,trivial⟩,_,hB,j0,h8,v0,o0,i0,d0,e0,f0,k0,c0,e1,rk96⟩
   replace p0:=im' p0 j2
   refine AI ?_
   obtain rfl:=sm p0
   exact show Exists _ from ⟨_,(),rfl,⟨rfl,rfl,rfl,rfl,rfl,rfl,rfl,rfl,rfl,rfl,trivial⟩,_,hB,j0,h8,v0,o0,i0,d0,e0,f0,k0,c0,e1,t1⟩
  rintro s7 t7 ⟨f5,u7,rfl,n3,g5,hB,j0,h8,v0,o0,i0,d0,e0,f0,k0,c0,e1,t1⟩
  replace m0:=AV m0
  refine AE _ n3 ?_
  refine Ab (Ab (Aa (Aj rfl rfl (Dj rfl rfl rfl (fun k2=>?_) fun k2=>?_))))
  ·
   replace m0:=ip m0 k2
   refine o_z ?_
   refine Ah rfl (Ab (Aa (Ba (hl:=rfl) (hc:=(d0.1).cellsAt) rfl rfl ?_)))
   refine AD c0 rfl rfl rfl (AU rfl) (allOne rfl) fun o3 z1 c0=>?_
   replace c0:Lc 4 o3 g5 g1 43 [(.slice r0 x1.vars.length s0),(.slice t0 x1.vals.length u0),(.slice g0.1 l0.2.length g0.2)]:=c0
   refine Am rfl rfl (o_z ?_)
   refine AF ?_
   replace k0:=k0.st z1
   obtain ⟨h5,a2,k0⟩:=k0.freeze
   obtain rfl:=sm m0
   obtain rfl:=h2 _ rfl
   obtain rfl:=sm (Cq hm)
   replace hB:=(hB.st z1).st a2
   replace e0:=(e0.st z1).st a2
   replace f0:=(f0.st z1).st a2
   replace c0:=c0.st a2
   exact ret2 rfl (CK (cs:=[(.slice r0 x1.vars.length s0),(.slice t0 x1.vals.length u0),(.slice g0.1 l0.2.length g0.2)]) rfl rfl c0.1.cellsAt) (AC rfl) ⟨hB.ext,_,_,rfl,(Vb.mono (F:=Fr 0 o3 h5) (Vb.ofAgg (cs:=[(.slice r0 x1.vars.length s0),(.slice t0 x1.vals.length u0),(.slice g0.1 l0.2.length g0.2)]) (x:=(⟨x1.vars,x1.vals,l0.2⟩:Swp)) rfl ⟨_,_,_,rfl,e0,f0,k0⟩) hB.out),vBool⟩
  replace m0:=im m0 k2
  refine o_z ?_
  refine Ae rfl (AI (Ab (Aa (Aj rfl rfl (Aj rfl rfl ?_)))))
  obtain ⟨w7,i5,m0⟩:=bs m0
  obtain ⟨j5,p3⟩:=AO i5
  obtain ⟨x7,y7,j6,g2,q3,k6,rfl⟩:=e1.elem p3
  refine Bv (hA:=g2) (hj:=(Int.toNat_of_nonneg j5).symm) (hlt:=q3) rfl rfl rfl ?_
  refine EB rfl e1 (a:=true) vBool g2 rfl rfl (Aw p3) fun z7 w0 e1=>?_
  refine o_z ?_
  refine Aa (AS rfl rfl ?_)
  replace d0:=d0.st w0
  refine AJ (hc:=Blk.cell (i:=2) (d0.1) rfl) rfl rfl ?_
  refine Aj rfl rfl ?_
  obtain ⟨k5,l2,m0⟩:=bs m0
  obtain ⟨l2,l5,m5⟩:=AT l2
  replace k0:=k0.st w0
  refine CF rfl (a:=f5) k0 (vInt t1) (fun _=>rfl) rfl (by decide) (by decide) l5 m5 ⟨rfl,rfl⟩ fun a8 r3 s3 b8 n5 y0 t3=>?_
  rw [← l2] at t3 ⊢
  refine AS rfl rfl ?_
  replace d0:=d0.st y0
  refine AD d0 rfl rfl rfl (AU rfl) (allOne rfl) fun o5 a1 d0=>?_
  replace d0:Lc 3 o5 n5 k1 43 [(.slice r0 x1.vars.length s0),(.slice t0 x1.vals.length u0),(.slice r3 k5.length s3)]:=d0
  refine o_z ?_
  obtain rfl:=sm m0
  exact show Exists _ from ⟨_,(r3,s3),rfl,⟨rfl,rfl,rfl,rfl,rfl,rfl,trivial⟩,_,((hB.st w0).st y0).st a1,((j0.st w0).st y0).st a1,((h8.st w0).st y0).st a1,((v0.st w0).st y0).st a1,((o0.st w0).st y0).st a1,((i0.st w0).st y0).st a1,d0,((e0.st w0).st y0).st a1,((f0.st w0).st y0).st a1,t3.st a1,((c0.st w0).st y0).st a1,(e1.st y0).st a1⟩
 replace hB:=((((hB.st j1).st i1).st h1).st f1).st d1
 replace h8:=((((h8.st j1).st i1).st h1).st f1).st d1
 replace v0:=((((v0.st j1).st i1).st h1).st f1).st d1
 replace o0:=((((o0.st j1).st i1).st h1).st f1).st d1
 replace e0:=((((e0.st j1).st i1).st h1).st f1).st d1
 replace f0:=((((f0.st j1).st i1).st h1).st f1).st d1
 replace d0:=d0.st d1
 replace c0:=(c0.st f1).st d1
 rintro c8 d8 ⟨c1,n0,rfl,u3,v3,hB,j0,h8,v0,o0,i0,d0,e0,f0,k0,c0⟩
 replace hm:=AV hm
 refine AE _ u3 ?_
 refine Ab ?_
 obtain ⟨p5,h0,hm⟩:=bs hm
 refine Ax (fun l' w'=>∃ (q5:Unit) (O':Lab),subs l' [(4,(.pointer (some ⟨g1,0,none⟩))),(5,(.bool p5))]∧Bs w A w' O'∧Lc 4 w' O' g1 43 [(.slice r0 x1.vars.length s0),(.slice t0 x1.vals.length u0),(.slice n0.1 c1.2.length n0.2)]∧Vb w' (Fr 0 w' O') (.slice r0 x1.vars.length s0) x1.vars∧Vb w' (Fr 0 w' O') (.slice t0 x1.vals.length u0) x1.vals∧Rw 6 w' O' 3 (.slice n0.1 c1.2.length n0.2) c1.2) ?_ ?_
 ·
  refine Bc [(8,[4])] v3 ?_
  refine Az (fuel:=4) [] [(0,true),(1,true),(2,true),(3,true),(5,true),(6,true)] (by kernel_rfl) rfl ?_
  refine Cl (hl:=rfl) (hb:=fun w' ⟨O',hq⟩=>((d0.st hq (by decide)).1).cellsAt) rfl rfl rfl ?_
  refine Cl (hl:=rfl) (hb:=fun w' ⟨O',hq⟩=>((d0.st hq (by decide)).1).cellsAt) rfl rfl rfl ?_
  refine AM rfl rfl rfl (AK (hc:=fun w' ⟨O',hq⟩=>Blk.cell (i:=2) ((j0.st hq (by decide)).1) rfl) rfl rfl rfl ?_)
  refine AM rfl rfl rfl (AK (hc:=fun w' ⟨O',hq⟩=>Blk.cell (i:=2) ((j0.st hq (by decide)).1) rfl) rfl rfl rfl ?_)
  refine As ?_
  refine Au (i:=4) (by kernel_rfl) rfl ?_
  obtain ⟨r5,s5,h0⟩:=bs h0
  refine IF (O:=v3) (ls:=[6]) (R:=fun w' F v=>Vb w' F v r5) (Gc FrS.lt (Vb.ofAgg (cs:=[(.slice r0 x1.vars.length s0),(.slice t0 x1.vals.length u0),(.slice n0.1 c1.2.length n0.2)]) (x:=(⟨x1.vars,x1.vals,c1.2⟩:Swp)) rfl ⟨_,_,_,rfl,(e0.lend [6]),(f0.lend [6]),(k0.lend [6] (by decide))⟩) (o0.lend [6]) s5) rfl rfl fun e8 m2 n2 q0 w3=>?_
  obtain ⟨f8,g8,rfl⟩:=w3.form
  have hZ:=q0.lst [] (fun _ h=>h.elim)
  refine Ay [(8,[4])] hZ (by kernel_rfl) ?_
  refine Au (i:=7) (by kernel_rfl) rfl ?_
  obtain ⟨x3,t5,h0⟩:=bs h0
  replace o0:=o0.st q0
  refine Bf (O:=n2) (A:=All m2) (R:=fun w' F v=>Vb w' F v x3) (GB (fun _ h=>h) (Vb.mono (F:=FrS [6] m2 n2) w3 FrS.lt) (Vb.mono (F:=Fr 0 m2 n2) o0 Fr.lt) t5) rfl rfl fun i8 j8 y3 b1 u5=>?_
  obtain rfl:=u5.bool
  have hZ:=b1.lst [] (fun _ h=>h.elim)
  cases x3
  case false =>
   replace h0:=iF h0
   refine Ay [(8,[4])] hZ (by kernel_rfl) ?_
   refine Au (i:=8) (by kernel_rfl) rfl ?_
   replace c0:=(c0.st q0).st b1
   refine AD c0 rfl rfl rfl (AU rfl) (allOne rfl) fun w5 v1 c0=>?_
   replace c0:Lc 4 w5 y3 g1 43 [(.slice r0 x1.vars.length s0),(.slice t0 x1.vals.length u0),(.slice n0.1 c1.2.length n0.2)]:=c0
   have hZ:=v1.lst [4] (fun _ h=>by cases h;decide)
   refine Ay [] hZ (by kernel_rfl) ?_
   refine Az (fuel:=0) [] [(9,true)] (by kernel_rfl) rfl ?_
   refine Eh rfl rfl rfl (As ?_)
   refine AZ (by kernel_rfl) ?_
   obtain rfl:=sm h0
   exact ⟨(),_,⟨rfl,rfl,trivial⟩,((hB.st q0).st b1).st v1,c0,((e0.st q0).st b1).st v1,((f0.st q0).st b1).st v1,((k0.st q0).st b1).st v1⟩
  replace h0:=iT h0
  refine Ay [(8,[4])] hZ (by kernel_rfl) ?_
  refine Au (i:=8) (by kernel_rfl) rfl ?_
  replace c0:=(c0.st q0).st b1
  refine AD c0 rfl rfl rfl (AU rfl) (allOne rfl) fun x5 w1 c0=>?_
  replace c0:Lc 4 x5 y3 g1 43 [(.slice r0 x1.vars.length s0),(.slice t0 x1.vals.length u0),(.slice n0.1 c1.2.length n0.2)]:=c0
  have hZ:=w1.lst [4] (fun _ h=>by cases h;decide)
  refine Ay [] hZ (by kernel_rfl) ?_
  refine Az (fuel:=0) [] [(9,true)] (by kernel_rfl) rfl ?_
  refine Eh rfl rfl rfl (As ?_)
  refine AZ (by kernel_rfl) ?_
  obtain rfl:=sm h0
  exact ⟨(),_,⟨rfl,rfl,trivial⟩,((hB.st q0).st b1).st w1,c0,((e0.st q0).st b1).st w1,((f0.st q0).st b1).st w1,((k0.st q0).st b1).st w1⟩
 rintro k8 y5 ⟨q5,l8,z3,hB,c0,e0,f0,k0⟩
 refine AE _ z3 ?_
 refine AF ?_
 obtain ⟨z5,b2,k0⟩:=k0.freeze
 obtain rfl:=sm hm
 replace hB:=hB.st b2
 replace e0:=e0.st b2
 replace f0:=f0.st b2
 replace c0:=c0.st b2
 exact ret2 rfl (CK (cs:=[(.slice r0 x1.vars.length s0),(.slice t0 x1.vals.length u0),(.slice n0.1 c1.2.length n0.2)]) rfl rfl c0.1.cellsAt) (AC rfl) ⟨hB.ext,_,_,rfl,(Vb.mono (F:=Fr 0 y5 z5) (Vb.ofAgg (cs:=[(.slice r0 x1.vars.length s0),(.slice t0 x1.vals.length u0),(.slice n0.1 c1.2.length n0.2)]) (x:=(⟨x1.vars,x1.vals,c1.2⟩:Swp)) rfl ⟨_,_,_,rfl,e0,f0,k0⟩) hB.out),vBool⟩
noncomputable def Fe (x0:Tsk):Option (List Swp) :=
  bnd (EC (x0.vars.length:Int)) fun q26=>bnd (rng (ρ:=(List Swp)) (fun (k41:Nat) (a42:List Int) (s39:(List Swp))=>bnd (rng (ρ:=Ctl (List Swp) (List Swp)) (fun (k73:Nat) (a74:Int) (s71:Bool)=>if s71=true then (bnd (atI x0.vars a74) fun a93=>bnd (x0.vars[k73]?) fun a105=>if a93=a105 then (some (.next true)) else (some (.next false))) else (some (.next false))) a42 0 true) fun res69=>fin res69 fun (s120:Bool)=>if (!s120)=true then (some (.next s39)) else (bnd (ES x0.vars) fun q123=>bnd (rng (ρ:=Ctl (List Swp) (List Swp)) (fun (k138:Nat) (a139:List (List Int)) (s136:(List Swp))=>bnd (Cu x0 (⟨a42,a139,([]:List Int)⟩:Swp)) fun q164=>if q164.2=true then (bnd (appI 72 s136 [q164.1]) fun u196=>some (.next u196)) else (some (.next s136))) q123 0 s39) fun res134=>fin res134 fun (s212:(List Swp))=>some (.next s212))) q26 0 ([]:List Swp)) fun res37=>fin res37 fun (s218:(List Swp))=>some s218
theorem MO {w:World} {A:Nat→Prop} (hA:∀ k,A k→k < w.heap.size) {vx0:Value} {x0:Tsk} (h3:Vb w A vx0 x0) {r:(List Swp)} (hm:Fe x0=some r) :
    Fn Tryz.prog 16 [vx0] w fun v w'=>Ext w w'∧Vb w' (upA A w w') v r:=by
 obtain ⟨O,hB,a5⟩:=enter hA
 replace h3:=h3.mono a5
 obtain ⟨d7,rfl,v3,v4,v5,v6,rfl,h7,j0,k0,l0⟩:=h3
 obtain ⟨A8,c9,rfl⟩:=h7.form
 obtain ⟨b1,c1,rfl⟩:=j0.form
 obtain ⟨d1,e1,rfl⟩:=k0.form
 obtain ⟨f1,g1,rfl⟩:=l0.form
 refine AP Tryz.func16 rfl Tryz.ntmps16 rfl ?_
 unfold Fe at hm
 refine Ab (Aa (BC 2 O rfl rfl fun h1 b5 u4 a2 d0=>?_))
 replace d0:Lc 2 b5 u4 h1 30 [(.slice A8 x0.vars.length c9),(.slice b1 x0.init.length c1),(.slice d1 x0.goal.length e1),(.slice f1 x0.ops.length g1)]:=d0
 refine Am rfl rfl (o_z ?_)
 refine Ab (Aa (Am rfl rfl (o_z ?_)))
 refine Ab (Ab (Aa (AS rfl rfl (AJ (hc:=Blk.cell (i:=0) (d0.1) rfl) rfl rfl ?_))))
 refine AX rfl rfl ?_
 replace h7:=h7.st a2
 have c5:x0.vars.length≤9223372036854775807:=Nat.le_trans h7.len.2.1 h7.len.2.2
 have d5:inI64 (x0.vars.length:Int):=rngNat c5
 obtain ⟨o0,e5,hm⟩:=bs hm
 refine BQ (O:=u4) (R:=fun w' F v=>Vb w' F v o0) (HU Fr.lt d5 e5) rfl rfl fun e7 f7 f5 q1 m0=>?_
 obtain ⟨j1,k1,rfl⟩:=m0.form
 refine AX rfl rfl ?_
 have i3:o0.length≤9223372036854775807:=Nat.le_trans m0.len.2.1 m0.len.2.2
 have g7:inI64 (o0.length:Int):=rngNat i3
 refine Aj rfl rfl (o_z ?_)
 obtain ⟨b2,j3,hm⟩:=bs hm
 refine Ax (aft b2 (fun (y0:(List Swp)) (n0:(Option Addr×Nat))=>[(3,(.slice n0.1 y0.length n0.2))]) (fun y0 n0 w'=>∃ O':Lab,Bs w A w' O'∧Rw 4 w' O' 43 (.slice n0.1 y0.length n0.2) y0)) ?_ ?_
 ·
  refine AG ?_
  replace hB:=(hB.st a2).st q1
  replace h7:=h7.st q1
  replace j0:=(j0.st a2).st q1
  replace k0:=(k0.st a2).st q1
  replace l0:=(l0.st a2).st q1
  replace d0:=d0.st q1
  refine Bk (σ:=(List Swp)) (X:=(Option Addr×Nat)) (o0.length) j3 rfl i3 (fun (y0:(List Swp)) (n0:(Option Addr×Nat))=>[(1,(.pointer (some ⟨h1,0,none⟩))),(3,(.slice n0.1 y0.length n0.2)),(15,(.slice j1 o0.length k1))]) _ (fun y0 n0 w'=>∃ O':Lab,Bs w A w' O'∧Lc 2 w' O' h1 30 [(.slice A8 x0.vars.length c9),(.slice b1 x0.init.length c1),(.slice d1 x0.goal.length e1),(.slice f1 x0.ops.length g1)]∧Vb w' (Fr 0 w' O') (.slice A8 x0.vars.length c9) x0.vars∧Vb w' (Fr 0 w' O') (.slice b1 x0.init.length c1) x0.init∧Vb w' (Fr 0 w' O') (.slice d1 x0.goal.length e1) x0.goal∧Vb w' (Fr 0 w' O') (.slice f1 x0.ops.length g1) x0.ops∧Rw 4 w' O' 43 (.slice n0.1 y0.length n0.2) y0∧Vb w' (Fr 0 w' O') (.slice j1 o0.length k1) o0) _ (none,0) ⟨f5,hB,d0,h7,j0,k0,l0,(Rw.nil 4 (by decide)),m0⟩ ⟨rfl,rfl,rfl,rfl,rfl,trivial⟩ (fun _ _=>⟨rfl,rfl⟩) (fun _ _=>⟨rfl,trivial⟩) (fun _ _ _ ⟨O',hB,d0,h7,j0,k0,l0,u0,m0⟩=>⟨O',hB,u0⟩) ⟨rfl,rfl,rfl⟩ ⟨rfl,rfl⟩ ?_
  rintro c2 a1 y0 n0 i7 g5 d2 ⟨h5,hB,d0,h7,j0,k0,l0,u0,m0⟩ e0 k3 l3
  have rk41:inI64 (c2:Int):=rngK d2 i3
  refine Ab (Aa ?_)
  obtain ⟨j7,k7,i5,m3,n3,o3,l7,rfl,p0⟩:=m0.elem' d2
  replace p0:=Vb.of_slice p0
  obtain ⟨r1,s1,rfl⟩:=p0.form
  refine Bv (hA:=m3) (hj:=rfl) (hlt:=n3) rfl rfl rfl ?_
  refine AJ (hc:=cat0 o3) rfl rfl ?_
  refine Am rfl rfl (o_z ?_)
  refine Ab (Aa (Am rfl rfl (o_z ?_)))
  refine Ab (Ab (Aa (Aj rfl rfl (AX rfl rfl ?_))))
  have p3:a1.length≤9223372036854775807:=Nat.le_trans p0.len.2.1 p0.len.2.2
  have m7:inI64 (a1.length:Int):=rngNat p3
  refine Aj rfl rfl (o_z ?_)
  obtain ⟨e2,q3,e0⟩:=bs e0
  refine Ax (aft e2 (fun (t1:Bool) (e3:Unit)=>[(1,(.pointer (some ⟨h1,0,none⟩))),(3,(.slice n0.1 y0.length n0.2)),(5,(.slice r1 a1.length s1)),(6,(.bool t1)),(15,(.slice j1 o0.length k1)),(16,(.int .i64 (o0.length:Int))),(17,(.int .i64 (c2:Int)))]) (fun t1 e3 w'=>∃ O':Lab,Bs w A w' O'∧Lc 2 w' O' h1 30 [(.slice A8 x0.vars.length c9),(.slice b1 x0.init.length c1),(.slice d1 x0.goal.length e1),(.slice f1 x0.ops.length g1)]∧Vb w' (Fr 0 w' O') (.slice A8 x0.vars.length c9) x0.vars∧Vb w' (Fr 0 w' O') (.slice b1 x0.init.length c1) x0.init∧Vb w' (Fr 0 w' O') (.slice d1 x0.goal.length e1) x0.goal∧Vb w' (Fr 0 w' O') (.slice f1 x0.ops.length g1) x0.ops∧Rw 4 w' O' 43 (.slice n0.1 y0.length n0.2) y0∧Vb w' (Fr 0 w' O') (.slice r1 a1.length s1) a1∧Vb w' (Fr 0 w' O') (.slice j1 o0.length k1) o0)) ?_ ?_
  ·
   refine AG (Bk (σ:=Bool) (X:=Unit) (a1.length) q3 rfl p3 (fun (t1:Bool) (e3:Unit)=>[(1,(.pointer (some ⟨h1,0,none⟩))),(3,(.slice n0.1 y0.length n0.2)),(5,(.slice r1 a1.length s1)),(6,(.bool t1)),(15,(.slice j1 o0.length k1)),(16,(.int .i64 (o0.length:Int))),(17,(.int .i64 (c2:Int)))]) _ (fun t1 e3 w'=>∃ O':Lab,Bs w A w' O'∧Lc 2 w' O' h1 30 [(.slice A8 x0.vars.length c9),(.slice b1 x0.init.length c1),(.slice d1 x0.goal.length e1),(.slice f1 x0.ops.length g1)]∧Vb w' (Fr 0 w' O') (.slice A8 x0.vars.length c9) x0.vars∧Vb w' (Fr 0 w' O') (.slice b1 x0.init.length c1) x0.init∧Vb w' (Fr 0 w' O') (.slice d1 x0.goal.length e1) x0.goal∧Vb w' (Fr 0 w' O') (.slice f1 x0.ops.length g1) x0.ops∧Rw 4 w' O' 43 (.slice n0.1 y0.length n0.2) y0∧Vb w' (Fr 0 w' O') (.slice r1 a1.length s1) a1∧Vb w' (Fr 0 w' O') (.slice j1 o0.length k1) o0) _ () ⟨h5,hB,d0,h7,j0,k0,l0,u0,p0,m0⟩ ⟨rfl,rfl,rfl,rfl,rfl,rfl,rfl,rfl,rfl,trivial⟩ (fun _ _=>⟨rfl,rfl⟩) (fun _ _=>⟨rfl,rfl,rfl,rfl,rfl,rfl,rfl,trivial⟩) (fun _ _ _ ⟨O',hB,d0,h7,j0,k0,l0,u0,p0,m0⟩=>⟨O',hB,d0,h7,j0,k0,l0,u0,p0,m0⟩) ⟨rfl,rfl,rfl⟩ ⟨rfl,rfl⟩ ?_)
   rintro j5 n7 t1 e3 k5 l5 f2 ⟨o7,hB,d0,h7,j0,k0,l0,u0,p0,m0⟩ h0 r3 s3
   have rk73:inI64 (j5:Int):=rngK f2 p3
   refine Ab (Aa (Aj rfl rfl (Am rfl rfl (o_z ?_))))
   refine Dx (·=k5) [(0,true),(1,true),(2,true),(3,true),(4,true),(5,true),(6,true),(7,true),(8,true),(9,true),(10,true),(11,true),(12,true),(13,true),(14,true),(15,true),(16,true),(17,true)] (by kernel_rfl) rfl (by kernel_rfl) rfl ?_
   refine AH rfl rfl rfl (AH rfl rfl rfl ?_)
   rcases Bool.eq_false_or_eq_true t1 with g2|g2
   ·
    try rw [g2]
    replace h0:=ip h0 g2
    refine Al rfl (Ak rfl rfl (BD rfl rfl (Al rfl (Ak rfl rfl (Bt (hc:=Blk.cell (i:=0) (d0.1) rfl) rfl rfl ?_)))))
    refine Al rfl (Ak rfl rfl (BS rfl rfl (Al rfl (Ak rfl rfl (BS rfl rfl (Al rfl (Ak rfl rfl ?_)))))))
    obtain ⟨p7,q7,m5,t3,u3,w3,rfl,r7⟩:=p0.elem' f2
    refine DM (hA:=t3) (hj:=rfl) (hlt:=u3) rfl rfl rfl ?_
    refine Al rfl (Ak rfl rfl (Bt (hc:=cat0 w3) rfl rfl ?_))
    refine Al rfl (Ak rfl rfl ?_)
    obtain ⟨s7,n5,h0⟩:=bs h0
    obtain ⟨o5,p5⟩:=AO n5
    obtain ⟨t7,u7,q5,h2,i2,j2,rfl,r5⟩:=h7.elem' p5
    refine DM (hA:=h2) (hj:=(Int.toNat_of_nonneg o5).symm) (hlt:=i2) rfl rfl rfl ?_
    refine Al rfl (Ak rfl rfl (Bt (hc:=cat0 j2) rfl rfl ?_))
    refine Al rfl (Ak rfl rfl (BD rfl rfl (Al rfl (Ak rfl rfl (Bt (hc:=Blk.cell (i:=0) (d0.1) rfl) rfl rfl ?_)))))
    refine Al rfl (Ak rfl rfl (BS rfl rfl (Al rfl (Ak rfl rfl ?_))))
    obtain ⟨s5,x3,h0⟩:=bs h0
    obtain ⟨t5,u5,w4,k2,l2,m2,rfl,w5⟩:=h7.elem' x3
    refine DM (hA:=k2) (hj:=rfl) (hlt:=l2) rfl rfl rfl ?_
    refine Al rfl (Ak rfl rfl (Bt (hc:=cat0 m2) rfl rfl ?_))
    refine Al rfl (Ak rfl rfl (Bn (fun _ _=>LB rfl rfl) rfl (fun u1=>?_) (fun u1=>?_)))
    ·
     replace h0:=ip h0 u1
     refine Ce rfl rfl rfl rfl (Eh rfl rfl rfl (h_z ?_))
     obtain rfl:=sm h0
     exact show Exists _ from ⟨_,(),rfl,⟨rfl,rfl,rfl,rfl,rfl,rfl,rfl,rfl,rfl,trivial⟩,_,hB,d0,h7,j0,k0,l0,u0,p0,m0⟩
    replace h0:=im h0 u1
    refine Ce rfl rfl rfl rfl (Eh rfl rfl rfl (h_z ?_))
    obtain rfl:=sm h0
    exact show Exists _ from ⟨_,(),rfl,⟨rfl,rfl,rfl,rfl,rfl,rfl,rfl,rfl,rfl,trivial⟩,_,hB,d0,h7,j0,k0,l0,u0,p0,m0⟩
   try rw [g2]
   replace h0:=im' h0 g2
   refine AB rfl rfl rfl rfl rfl (AB rfl rfl rfl rfl rfl (AB rfl rfl rfl rfl rfl (AB rfl rfl rfl rfl rfl (AB rfl rfl rfl rfl rfl (AB rfl rfl rfl rfl rfl (AB rfl rfl rfl rfl rfl (AB rfl rfl rfl rfl rfl (AB rfl rfl rfl rfl rfl (AB rfl rfl rfl rfl rfl (AB rfl rfl rfl rfl rfl (AB rfl rfl rfl rfl rfl (AB rfl rfl rfl rfl rfl (AB rfl rfl rfl rfl rfl (Cb rfl rfl rfl rfl ?_))))))))))))))
   refine Eh rfl rfl rfl (h_z ?_)
   obtain rfl:=sm h0
   exact show Exists _ from ⟨_,(),rfl,⟨rfl,rfl,rfl,rfl,rfl,rfl,rfl,rfl,rfl,trivial⟩,_,hB,d0,h7,j0,k0,l0,u0,p0,m0⟩
  rintro x5 y5 ⟨z5,a6,rfl,n2,y3,hB,d0,h7,j0,k0,l0,u0,p0,m0⟩
  replace e0:=AV e0
  refine AE _ n2 ?_
  refine Ab (Ab (Aa (Aj rfl rfl (CU rfl rfl (o_z ?_)))))
  refine Bp rfl (fun v1=>?_) (fun v1=>?_)
  ·
   replace e0:=ip e0 v1
   refine Ck ?_
   obtain rfl:=sm e0
   exact show Exists _ from ⟨_,(n0.1,n0.2),rfl,⟨rfl,rfl,rfl,rfl,rfl,trivial⟩,_,hB,d0,h7,j0,k0,l0,u0,m0⟩
  replace e0:=im' e0 v1
  refine AI (Ab (Aa (AS rfl rfl (AJ (hc:=Blk.cell (i:=0) (d0.1) rfl) rfl rfl ?_))))
  obtain ⟨z0,z3,e0⟩:=bs e0
  refine BQ (O:=y3) (R:=fun w' F v=>Vb w' F v z0) (Kt Fr.lt h7 z3) rfl rfl fun b6 c6 a4 f0 r0=>?_
  obtain ⟨o2,p2,rfl⟩:=r0.form
  refine AX rfl rfl ?_
  have w1:z0.length≤9223372036854775807:=Nat.le_trans r0.len.2.1 r0.len.2.2
  have d6:inI64 (z0.length:Int):=rngNat w1
  refine Aj rfl rfl (o_z ?_)
  obtain ⟨x1,q2,e0⟩:=bs e0
  refine Ax (aft x1 (fun (q0:(List Swp)) (i0:(Option Addr×Nat))=>[(1,(.pointer (some ⟨h1,0,none⟩))),(3,(.slice i0.1 q0.length i0.2)),(15,(.slice j1 o0.length k1)),(16,(.int .i64 (o0.length:Int))),(17,(.int .i64 (c2:Int)))]) (fun q0 i0 w'=>∃ O':Lab,Bs w A w' O'∧Lc 2 w' O' h1 30 [(.slice A8 x0.vars.length c9),(.slice b1 x0.init.length c1),(.slice d1 x0.goal.length e1),(.slice f1 x0.ops.length g1)]∧Vb w' (Fr 0 w' O') (.slice A8 x0.vars.length c9) x0.vars∧Vb w' (Fr 0 w' O') (.slice b1 x0.init.length c1) x0.init∧Vb w' (Fr 0 w' O') (.slice d1 x0.goal.length e1) x0.goal∧Vb w' (Fr 0 w' O') (.slice f1 x0.ops.length g1) x0.ops∧Rw 4 w' O' 43 (.slice i0.1 q0.length i0.2) q0∧Vb w' (Fr 0 w' O') (.slice j1 o0.length k1) o0)) ?_ ?_
  ·
   refine AG ?_
   replace hB:=hB.st f0
   replace h7:=h7.st f0
   replace j0:=j0.st f0
   replace k0:=k0.st f0
   replace l0:=l0.st f0
   replace d0:=d0.st f0
   replace m0:=m0.st f0
   replace u0:=u0.st f0
   replace p0:=p0.st f0
   refine Bk (σ:=(List Swp)) (X:=(Option Addr×Nat)) (z0.length) q2 rfl w1 (fun (q0:(List Swp)) (i0:(Option Addr×Nat))=>[(1,(.pointer (some ⟨h1,0,none⟩))),(3,(.slice i0.1 q0.length i0.2)),(5,(.slice r1 a1.length s1)),(15,(.slice j1 o0.length k1)),(16,(.int .i64 (o0.length:Int))),(17,(.int .i64 (c2:Int))),(48,(.slice o2 z0.length p2))]) _ (fun q0 i0 w'=>∃ O':Lab,Bs w A w' O'∧Lc 2 w' O' h1 30 [(.slice A8 x0.vars.length c9),(.slice b1 x0.init.length c1),(.slice d1 x0.goal.length e1),(.slice f1 x0.ops.length g1)]∧Vb w' (Fr 0 w' O') (.slice A8 x0.vars.length c9) x0.vars∧Vb w' (Fr 0 w' O') (.slice b1 x0.init.length c1) x0.init∧Vb w' (Fr 0 w' O') (.slice d1 x0.goal.length e1) x0.goal∧Vb w' (Fr 0 w' O') (.slice f1 x0.ops.length g1) x0.ops∧Rw 4 w' O' 43 (.slice i0.1 q0.length i0.2) q0∧Vb w' (Fr 0 w' O') (.slice r1 a1.length s1) a1∧Vb w' (Fr 0 w' O') (.slice j1 o0.length k1) o0∧Vb w' (Fr 0 w' O') (.slice o2 z0.length p2) z0) _ (n0.1,n0.2) ⟨a4,hB,d0,h7,j0,k0,l0,u0,p0,m0,r0⟩ ⟨rfl,rfl,rfl,rfl,rfl,rfl,rfl,rfl,rfl,trivial⟩ (fun _ _=>⟨rfl,rfl⟩) (fun _ _=>⟨rfl,rfl,rfl,rfl,rfl,trivial⟩) (fun _ _ _ ⟨O',hB,d0,h7,j0,k0,l0,v0,p0,m0,r0⟩=>⟨O',hB,d0,h7,j0,k0,l0,v0,m0⟩) ⟨rfl,rfl,rfl⟩ ⟨rfl,rfl⟩ ?_
   rintro b4 r2 q0 i0 e6 x4 p1 ⟨c4,hB,d0,h7,j0,k0,l0,v0,p0,m0,r0⟩ g0 f3 g3
   have rk138:inI64 (b4:Int):=rngK p1 w1
   refine Ab (Aa ?_)
   obtain ⟨f6,g6,y4,s2,t2,u2,h6,rfl,l1⟩:=r0.elem' p1
   replace l1:=Vb.of_slice l1
   obtain ⟨d4,e4,rfl⟩:=l1.form
   refine Bv (hA:=s2) (hj:=rfl) (hlt:=t2) rfl rfl rfl ?_
   refine AJ (hc:=cat0 u2) rfl rfl ?_
   refine Am rfl rfl (o_z ?_)
   refine Ab (Aa (Ba (hl:=rfl) (hc:=(d0.1).cellsAt) rfl rfl ?_))
   refine Aj rfl rfl (Aj rfl rfl (EH rfl rfl rfl ?_))
   obtain ⟨s0,f4,g0⟩:=bs g0
   refine BQ (O:=c4) (R:=fun w' F v=>T2 w' F v s0) (Ge Fr.lt (Vb.ofAgg (cs:=[(.slice A8 x0.vars.length c9),(.slice b1 x0.init.length c1),(.slice d1 x0.goal.length e1),(.slice f1 x0.ops.length g1)]) (x:=x0) rfl ⟨_,_,_,_,rfl,h7,j0,k0,l0⟩) (Vb.ofAgg (cs:=[(.slice r1 a1.length s1),(.slice d4 r2.length e4),(.slice none 0 0)]) (x:=(⟨a1,r2,([]:List Int)⟩:Swp)) rfl ⟨_,_,_,rfl,p0,l1,(Vb.nil _ _)⟩) f4) rfl rfl fun i6 j6 g4 c0 h4=>?_
   obtain ⟨k6,l6,rfl,i4,j4⟩:=h4
   obtain ⟨z4,rfl,m6,n6,o6,rfl,m1,n1,o1⟩:=i4
   obtain ⟨v2,w2,rfl⟩:=m1.form
   obtain ⟨x2,y2,rfl⟩:=n1.form
   obtain ⟨z2,a3,rfl⟩:=o1.form
   obtain rfl:=j4.bool
   refine Aj rfl rfl (DN rfl rfl rfl (DN rfl rfl rfl (Bd 3 g4 rfl fun k4 p6 l4 a0 i1=>?_)))
   refine AD i1 rfl rfl rfl (AU rfl) (allOne rfl) fun m4 b0 i1=>?_
   replace i1:Lc 3 m4 l4 k4 43 [(.slice v2 s0.1.vars.length w2),(.slice x2 s0.1.vals.length y2),(.slice z2 s0.1.ops.length a3)]:=i1
   refine Am rfl rfl (o_z ?_)
   refine Ab (Aa (Aj rfl rfl (o_z ?_)))
   refine Bp rfl (fun y1=>?_) (fun y1=>?_)
   ·
    replace g0:=ip g0 y1
    refine Aa (Aj rfl rfl (Ba (hl:=rfl) (hc:=(i1.1).cellsAt) rfl rfl ?_))
    obtain ⟨q6,z1,g0⟩:=bs g0
    obtain ⟨z1,n4,o4⟩:=AT z1
    replace v0:=((v0.st c0).st a0).st b0
    replace m1:=(m1.st a0).st b0
    replace n1:=(n1.st a0).st b0
    replace o1:=(o1.st a0).st b0
    refine CF rfl (a:=s0.1) v0 (Vb.ofAgg (cs:=[(.slice v2 s0.1.vars.length w2),(.slice x2 s0.1.vals.length y2),(.slice z2 s0.1.ops.length a3)]) (x:=s0.1) rfl ⟨_,_,_,rfl,m1,n1,o1⟩) (fun _=>rfl) rfl (by decide) (by decide) n4 o4 ⟨rfl,rfl⟩ fun r6 p4 q4 s6 t6 t0 b3=>?_
    rw [← z1] at b3 ⊢
    refine Am rfl rfl (o_z ?_)
    obtain rfl:=sm g0
    exact show Exists _ from ⟨_,(p4,q4),rfl,⟨rfl,rfl,rfl,rfl,rfl,rfl,rfl,rfl,rfl,trivial⟩,_,(((hB.st c0).st a0).st b0).st t0,(((d0.st c0).st a0).st b0).st t0,(((h7.st c0).st a0).st b0).st t0,(((j0.st c0).st a0).st b0).st t0,(((k0.st c0).st a0).st b0).st t0,(((l0.st c0).st a0).st b0).st t0,b3,(((p0.st c0).st a0).st b0).st t0,(((m0.st c0).st a0).st b0).st t0,(((r0.st c0).st a0).st b0).st t0⟩
   replace g0:=im' g0 y1
   refine AI ?_
   obtain rfl:=sm g0
   exact show Exists _ from ⟨_,(i0.1,i0.2),rfl,⟨rfl,rfl,rfl,rfl,rfl,rfl,rfl,rfl,rfl,trivial⟩,_,((hB.st c0).st a0).st b0,((d0.st c0).st a0).st b0,((h7.st c0).st a0).st b0,((j0.st c0).st a0).st b0,((k0.st c0).st a0).st b0,((l0.st c0).st a0).st b0,((v0.st c0).st a0).st b0,((p0.st c0).st a0).st b0,((m0.st c0).st a0).st b0,((r0.st c0).st a0).st b0⟩
  replace hB:=hB.st f0
  replace h7:=h7.st f0
  replace j0:=j0.st f0
  replace k0:=k0.st f0
  replace l0:=l0.st f0
  replace d0:=d0.st f0
  replace m0:=m0.st f0
  rintro u6 w6 ⟨x6,c3,rfl,w0,y6,hB,d0,h7,j0,k0,l0,v0,m0⟩
  replace e0:=AV e0
  obtain rfl:=sm e0
  exact show Exists _ from ⟨_,(c3.1,c3.2),rfl,⟨(Bj w0 _ _ rfl),(Bj w0 _ _ rfl),(Bj w0 _ _ rfl),(Bj w0 _ _ rfl),(Bj w0 _ _ rfl),trivial⟩,_,hB,d0,h7,j0,k0,l0,v0,m0⟩
 replace hB:=(hB.st a2).st q1
 rintro z6 r4 ⟨a7,b7,rfl,d3,c7,hB,u0⟩
 replace hm:=AV hm
 refine AE _ d3 ?_
 refine Ab (Aa (Aj rfl rfl (Am rfl rfl (o_z ?_))))
 refine AF ?_
 obtain ⟨s4,t4,u0⟩:=u0.freeze
 obtain rfl:=sm hm
 replace hB:=hB.st t4
 exact ret1v rfl (AC rfl) ⟨hB.ext,(Vb.mono (F:=Fr 0 r4 s4) u0 hB.out)⟩
noncomputable def Em (x0:List Int) (x1:Int):Option Int :=
  bnd (appI 8 ([]:List Int) x0) fun u11=>bnd (appI 8 u11 [(x0.length:Int)]) fun u24=>bnd (rng (ρ:=Int) (fun (k42:Nat) (a43:Int) (s40:Int)=>bnd (lop (ρ:=Ctl Int Int) (fun (s65:Int×Int)=>bnd (if s65.2≤a43 then (if s65.1≤x1 then (some true) else (some false)) else (some false):Option Bool) fun y82=>if y82=true then (bnd (chkI (s65.1 * s65.2)) fun n93=>bnd (chkI (s65.2 + 1)) fun n96=>some (.next (n93,n96))) else (some (.brk (s65.1,s65.2)))) (s40,2)) fun res63=>fin res63 fun (s103:Int×Int)=>some (.next s103.1)) u24 0 1) fun res38=>fin res38 fun (s109:Int)=>bnd (chkI (x1 + 1)) fun n111=>some (min s109 n111)
theorem Ku {w:World} {A:Nat→Prop} (hA:∀ k,A k→k < w.heap.size) {vx0:Value} {x0:List Int} (h0:Vb w A vx0 x0) {x1:Int} (rx1:inI64 x1) {r:Int} (hm:Em x0 x1=some r) :
    Fn Tryz.prog 10 [vx0,(.int .i64 x1)] w fun v w'=>Ext w w'∧Vb w' (upA A w w') v r:=by
 obtain ⟨O,hB,u1⟩:=enter hA
 replace h0:=h0.mono u1
 obtain ⟨A3,c4,rfl⟩:=h0.form
 refine AP Tryz.func10 rfl Tryz.ntmps10 rfl ?_
 unfold Em at hm
 refine Ab (Aa (Am rfl rfl (o_z ?_)))
 refine Ab (Aa (Am rfl rfl (o_z ?_)))
 refine Ab (Ab (Aa (Bi 2 (by decide) O (xs:=(([]:List Int):List Int)) rfl rfl rfl rfl trivial (by decide) (by decide) rfl fun g5 w6 O7 S8 h9=>?_)))
 refine Aj rfl rfl ?_
 obtain ⟨v2,v0,hm⟩:=bs hm
 obtain ⟨v0,v1,w1⟩:=AT v0
 replace h0:=h0.st S8
 refine BP rfl h9 (h0.rd) rfl rfl (by decide) v1 w1 rfl fun w2 x2 y2 z2 w0 o1=>?_
 rw [← v0] at o1 ⊢
 refine Aj rfl rfl (AX rfl rfl ?_)
 replace h0:=h0.st w0
 have y1:x0.length≤9223372036854775807:=Nat.le_trans h0.len.2.1 h0.len.2.2
 have z1:inI64 (x0.length:Int):=rngNat y1
 obtain ⟨c0,y0,hm⟩:=bs hm
 obtain ⟨y0,a2,b2⟩:=AT y0
 refine CF rfl (a:=(x0.length:Int)) o1 (vInt z1) (fun _=>rfl) rfl (by decide) (by decide) a2 b2 ⟨rfl,rfl⟩ fun a3 i0 j0 b3 c2 p1 d0=>?_
 rw [← y0] at d0 ⊢
 refine AX rfl rfl ?_
 have z0:c0.length≤9223372036854775807:=Nat.le_trans d0.len.2.1 d0.len.2.2
 have c3:inI64 (c0.length:Int):=rngNat z0
 refine Aj rfl rfl (o_z ?_)
 obtain ⟨m0,a1,hm⟩:=bs hm
 refine Ax (aft m0 (fun (k0:Int) (s0:Unit)=>[(1,(.int .i64 x1)),(5,(.int .i64 k0))]) (fun k0 s0 w'=>∃ O':Lab,Bs w A w' O'∧inI64 k0)) ?_ ?_
 ·
  refine AG ?_
  replace hB:=((hB.st S8).st w0).st p1
  refine Bk (σ:=Int) (X:=Unit) (c0.length) a1 rfl z0 (fun (k0:Int) (s0:Unit)=>[(1,(.int .i64 x1)),(5,(.int .i64 k0)),(15,(.slice i0 c0.length j0))]) _ (fun k0 s0 w'=>∃ O':Lab,Bs w A w' O'∧Rw 2 w' O' 3 (.slice i0 c0.length j0) c0∧inI64 k0) _ () ⟨c2,hB,d0,(show inI64 (1) from by decide)⟩ ⟨rfl,rfl,rfl,rfl,rfl,trivial⟩ (fun _ _=>⟨rfl,rfl⟩) (fun _ _=>⟨rfl,rfl,trivial⟩) (fun _ _ _ ⟨O',hB,d0,n0⟩=>⟨O',hB,n0⟩) ⟨rfl,rfl,rfl⟩ ⟨rfl,rfl⟩ ?_
  rintro t0 q1 k0 s0 d3 d2 o0 ⟨e2,hB,d0,n0⟩ g0 b1 c1
  have rk42:inI64 (t0:Int):=rngK o0 z0
  refine Ab (Aa ?_)
  obtain ⟨e3,f3,f2,d1,e1,f1,rfl,g3⟩:=d0.elem o0
  refine Bv (hA:=d1) (hj:=rfl) (hlt:=e1) rfl rfl rfl ?_
  refine AJ (hc:=cat0 f1) rfl rfl ?_
  refine Am rfl rfl (o_z ?_)
  refine Ab (Aa (Am rfl rfl (o_z ?_)))
  obtain ⟨p0,g1,g0⟩:=bs g0
  refine Ax (aft p0 (fun (f0:Int×Int) (u0:Unit)=>[(1,(.int .i64 x1)),(5,(.int .i64 f0.1)),(15,(.slice i0 c0.length j0)),(16,(.int .i64 (c0.length:Int))),(17,(.int .i64 (t0:Int)))]) (fun f0 u0 w'=>∃ O':Lab,Bs w A w' O'∧Rw 2 w' O' 3 (.slice i0 c0.length j0) c0∧inI64 f0.1∧inI64 f0.2)) ?_ ?_
  ·
   refine AG (DQ (σ:=Int×Int) (X:=Unit) g1 (fun (f0:Int×Int) (u0:Unit)=>[(1,(.int .i64 x1)),(5,(.int .i64 f0.1)),(7,(.int .i64 q1)),(8,(.int .i64 f0.2)),(15,(.slice i0 c0.length j0)),(16,(.int .i64 (c0.length:Int))),(17,(.int .i64 (t0:Int)))]) _ (fun f0 u0 w'=>∃ O':Lab,Bs w A w' O'∧Rw 2 w' O' 3 (.slice i0 c0.length j0) c0∧inI64 f0.1∧inI64 f0.2) _ () ⟨e2,hB,d0,n0,(show inI64 (2) from by decide)⟩ ⟨rfl,rfl,rfl,rfl,rfl,rfl,rfl,trivial⟩ ?_)
   rintro f0 u0 h3 g2 ⟨i3,hB,d0,h1,r1⟩ a0 i1 l0
   refine Ab (Ab ?_)
   obtain ⟨h2,b0,a0⟩:=bs a0
   refine Ax (fun l' w'=>∃ (i2:Unit) (O':Lab),subs l' [(1,(.int .i64 x1)),(5,(.int .i64 f0.1)),(7,(.int .i64 q1)),(8,(.int .i64 f0.2)),(15,(.slice i0 c0.length j0)),(16,(.int .i64 (c0.length:Int))),(17,(.int .i64 (t0:Int))),(28,(.bool h2))]∧Bs w A w' O'∧Rw 2 w' O' 3 (.slice i0 c0.length j0) c0) ?_ ?_
   ·
    refine Aa (Aj rfl rfl (Aj rfl rfl (Hw rfl rfl rfl (fun j1=>?_) fun j1=>?_)))
    ·
     replace b0:=ip b0 j1
     refine Aj rfl rfl (Ar rfl rfl (Aj rfl rfl (Ar rfl rfl (Aj rfl rfl (Ar rfl rfl (Hw rfl rfl rfl (fun k1=>?_) fun k1=>?_))))))
     ·
      replace b0:=ip b0 k1
      refine By rfl rfl rfl (o_z ?_)
      obtain rfl:=sm b0
      exact ⟨(),_,⟨rfl,rfl,rfl,rfl,rfl,rfl,rfl,rfl,trivial⟩,hB,d0⟩
     replace b0:=im b0 k1
     refine By rfl rfl rfl (o_z ?_)
     obtain rfl:=sm b0
     exact ⟨(),_,⟨rfl,rfl,rfl,rfl,rfl,rfl,rfl,rfl,trivial⟩,hB,d0⟩
    replace b0:=im b0 j1
    refine Aj rfl rfl (An rfl rfl rfl rfl (An rfl rfl rfl rfl (An rfl rfl rfl rfl (Bz rfl rfl rfl (o_z ?_)))))
    obtain rfl:=sm b0
    exact ⟨(),_,⟨rfl,rfl,rfl,rfl,rfl,rfl,rfl,rfl,trivial⟩,hB,d0⟩
   rintro j3 k3 ⟨i2,l3,l1,hB,d0⟩
   refine AE _ l1 ?_
   refine Bp rfl (fun m1=>?_) (fun m1=>?_)
   ·
    replace a0:=ip a0 m1
    refine AI (Ab (AG (Aa (Aj rfl rfl (Aj rfl rfl ?_)))))
    obtain ⟨m3,s1,a0⟩:=bs a0
    have j2:=(BG s1)
    refine Lx (he:=s1) rfl rfl rfl ?_
    refine Am rfl rfl (o_z ?_)
    refine Aa (Aj rfl rfl ?_)
    obtain ⟨n3,t1,a0⟩:=bs a0
    have k2:=(BG t1)
    refine EQ (he:=t1) rfl rfl rfl ?_
    refine Am rfl rfl (o_z ?_)
    obtain rfl:=sm a0
    exact show Exists _ from ⟨_,(),rfl,⟨rfl,rfl,rfl,rfl,rfl,rfl,rfl,trivial⟩,_,hB,d0,j2,k2⟩
   replace a0:=im' a0 m1
   refine Ck ?_
   obtain rfl:=sm a0
   exact show Exists _ from ⟨_,(),l0 _ rfl,⟨rfl,rfl,rfl,rfl,rfl,trivial⟩,_,hB,d0,h1,r1⟩
  rintro o3 l2 ⟨m2,n2,rfl,e0,o2,hB,d0,h1,r1⟩
  replace g0:=AV g0
  obtain rfl:=sm g0
  exact show Exists _ from ⟨_,(),rfl,⟨(Bj e0 _ _ rfl),(Bj e0 _ _ rfl),(Bj e0 _ _ rfl),(Bj e0 _ _ rfl),(Bj e0 _ _ rfl),trivial⟩,_,hB,d0,h1⟩
 replace hB:=((hB.st S8).st w0).st p1
 rintro p2 q2 ⟨r2,s2,rfl,q0,t2,hB,n0⟩
 replace hm:=AV hm
 refine AE _ q0 ?_
 refine Ab (Aa (Aj rfl rfl (Aj rfl rfl ?_)))
 obtain ⟨u2,r0,hm⟩:=bs hm
 have n1:=(BG r0)
 refine EQ (he:=r0) rfl rfl rfl ?_
 refine Nv rfl rfl rfl ?_
 refine Am rfl rfl (o_z ?_)
 refine AF ?_
 obtain rfl:=sm hm
 exact ret1v rfl (AC rfl) ⟨hB.ext,(vInt (rngMin n0 n1))⟩
noncomputable def CA (x0:Swp) (x1:Swp):Option Bool :=
  bnd (bnd (El (⟨x0.vars,x0.vals,([]:List Int)⟩:Swp) (⟨x1.vars,x1.vals,([]:List Int)⟩:Swp)) fun q47=>if q47=true then some true else some false:Option Bool) fun y43=>some y43
theorem HV {w:World} {A:Nat→Prop} (hA:∀ k,A k→k < w.heap.size) {vx0:Value} {x0:Swp} (m0:Vb w A vx0 x0) {vx1:Value} {x1:Swp} (n0:Vb w A vx1 x1) {r:Bool} (hm:CA x0 x1=some r) :
    Fn Tryz.prog 13 [vx0,vx1] w fun v w'=>Ext w w'∧Vb w' (upA A w w') v r:=by
 obtain ⟨O,hB,v0⟩:=enter hA
 replace m0:=m0.mono v0
 obtain ⟨q1,rfl,v4,v5,v6,rfl,h7,i0,c1⟩:=m0
 obtain ⟨A8,c9,rfl⟩:=h7.form
 obtain ⟨o0,p0,rfl⟩:=i0.form
 obtain ⟨d1,e1,rfl⟩:=c1.form
 replace n0:=n0.mono v0
 obtain ⟨f1,rfl,r1,s1,t1,rfl,j0,k0,g1⟩:=n0
 obtain ⟨q0,r0,rfl⟩:=j0.form
 obtain ⟨s0,t0,rfl⟩:=k0.form
 obtain ⟨h1,i1,rfl⟩:=g1.form
 refine AP Tryz.func13 rfl Tryz.ntmps13 rfl ?_
 unfold CA at hm
 refine Ab (Aa (BC 2 O rfl rfl fun w0 j1 y0 g0 b0=>?_))
 replace b0:Lc 2 j1 y0 w0 43 [(.slice A8 x0.vars.length c9),(.slice o0 x0.vals.length p0),(.slice d1 x0.ops.length e1)]:=b0
 refine BC 3 y0 rfl rfl fun z0 k1 h0 d0 c0=>?_
 replace c0:Lc 3 k1 h0 z0 43 [(.slice q0 x1.vars.length r0),(.slice s0 x1.vals.length t0),(.slice h1 x1.ops.length i1)]:=c0
 refine Am rfl rfl (o_z ?_)
 refine Ab (Aa (AS rfl rfl ?_))
 replace b0:=b0.st d0
 refine AD b0 rfl rfl rfl (AU rfl) (allOne rfl) fun l1 e0 b0=>?_
 replace b0:Lc 2 l1 h0 w0 43 [(.slice A8 x0.vars.length c9),(.slice o0 x0.vals.length p0),(.slice none 0 0)]:=b0
 refine AS rfl rfl ?_
 replace c0:=c0.st e0
 refine AD c0 rfl rfl rfl (AU rfl) (allOne rfl) fun l0 f0 c0=>?_
 replace c0:Lc 3 l0 h0 z0 43 [(.slice q0 x1.vars.length r0),(.slice s0 x1.vals.length t0),(.slice none 0 0)]:=c0
 refine o_z ?_
 refine Ab ?_
 obtain ⟨m1,a0,hm⟩:=bs hm
 refine Ax (fun l' w'=>∃ (n1:Unit) (O':Lab),subs l' [(4,(.bool m1))]∧Bs w A w' O') ?_ ?_
 ·
  refine Aa ?_
  replace b0:=b0.st f0
  refine Ba (hl:=rfl) (hc:=(b0.1).cellsAt) rfl rfl ?_
  refine Ba (hl:=rfl) (hc:=(c0.1).cellsAt) rfl rfl ?_
  obtain ⟨a1,o1,a0⟩:=bs a0
  replace h7:=(((h7.st g0).st d0).st e0).st f0
  replace i0:=(((i0.st g0).st d0).st e0).st f0
  replace j0:=(((j0.st g0).st d0).st e0).st f0
  replace k0:=(((k0.st g0).st d0).st e0).st f0
  refine Bf (O:=h0) (A:=All l0) (R:=fun w' F v=>Vb w' F v a1) (Ij (fun _ h=>h) (Vb.mono (F:=Fr 0 l0 h0) (Vb.ofAgg (cs:=[(.slice A8 x0.vars.length c9),(.slice o0 x0.vals.length p0),(.slice none 0 0)]) (x:=(⟨x0.vars,x0.vals,([]:List Int)⟩:Swp)) rfl ⟨_,_,_,rfl,h7,i0,(Vb.nil _ _)⟩) Fr.lt) (Vb.mono (F:=Fr 0 l0 h0) (Vb.ofAgg (cs:=[(.slice q0 x1.vars.length r0),(.slice s0 x1.vals.length t0),(.slice none 0 0)]) (x:=(⟨x1.vars,x1.vals,([]:List Int)⟩:Swp)) rfl ⟨_,_,_,rfl,j0,k0,(Vb.nil _ _)⟩) Fr.lt) o1) rfl rfl fun u1 v1 w1 b1 p1=>?_
  obtain rfl:=p1.bool
  cases a1
  case false =>
   replace a0:=iF a0
   refine Am rfl rfl (o_z ?_)
   obtain rfl:=sm a0
   exact ⟨(),_,⟨rfl,trivial⟩,((((hB.st g0).st d0).st e0).st f0).st b1⟩
  replace a0:=iT a0
  refine Am rfl rfl (o_z ?_)
  obtain rfl:=sm a0
  exact ⟨(),_,⟨rfl,trivial⟩,((((hB.st g0).st d0).st e0).st f0).st b1⟩
 replace hB:=(((hB.st g0).st d0).st e0).st f0
 rintro y1 z1 ⟨n1,a2,u0,hB⟩
 refine AE _ u0 ?_
 refine AF ?_
 obtain rfl:=sm hm
 exact ret1v rfl (AC rfl) ⟨hB.ext,vBool⟩
noncomputable def Dv (x0:Tsk):Option Bool :=
  bnd (bnd (Gy x0) fun q28=>if q28=true then bnd (Em x0.vars 300) fun q35=>if 300 < q35 then (some true) else (if 6 < (x0.ops.length:Int) then (some true) else (bnd (DS) fun q47=>if q47=true then some false else some true)) else some true:Option Bool) fun y24=>if y24=true then (bnd (bnd (DS) fun q63=>if q63=true then some true else some false:Option Bool) fun y59=>some y59) else (bnd (CH x0 1048576) fun q74=>bnd (if q74.2.n≠0 then (some true) else (if 300 < (q74.1.length:Int) then (some true) else (some false)):Option Bool) fun y88=>if y88=true then (some false) else (bnd (Dc x0) fun q101=>if q101.2.n≠0 then (some false) else (bnd (rng (ρ:=Bool) (fun (k140:Nat) (a141:Swp) (s138:Unit)=>bnd (bnd (CO x0 a141) fun q181=>if q181=true then bnd (CA a141 q101.1) fun q188=>if q188=true then some true else some false else some true:Option Bool) fun y177=>if y177=true then (some (.ret false)) else (bnd (Cu x0 a141) fun q200=>bnd (if (!q200.2)=true then (some true) else (bnd (El a141 q200.1) fun q236=>if q236=true then some false else some true):Option Bool) fun y231=>if y231=true then (some (.ret false)) else (some (.next ())))) q74.1 0 ()) fun res136=>fin res136 fun (s252:Unit)=>bnd (lop (ρ:=Bool) (fun (s262:(List Swp)×Int)=>if s262.2 < (s262.1.length:Int) then (bnd (rng (ρ:=Ctl ((List Swp)×Int) Bool) (fun (k290:Nat) (a291:Swp) (s288:(List Swp))=>bnd (atI s288 s262.2) fun a331=>bnd (Cz x0 a331 a291) fun q333=>bnd (some (q333.1.vars,q333.1.vals,q333.1.ops):Option ((List Int)×(List (List Int))×(List Int))) fun y335=>if q333.2.n≠0 then (some (.ret (.ret false))) else (bnd (rng (ρ:=Ctl (List Swp) (Ctl ((List Swp)×Int) Bool)) (fun (k436:Nat) (a437:Swp) (s434:Bool)=>if s434=true then (some (.next true)) else (bnd (CA (⟨y335.1,y335.2.1,y335.2.2⟩:Swp) a437) fun q474=>if q474=true then some (.next true) else some (.next false))) s288 0 false) fun res432=>fin res432 fun (s485:Bool)=>if (!s485)=true then (bnd (appI 72 s288 [(⟨y335.1,y335.2.1,y335.2.2⟩:Swp)]) fun u488=>some (.next u488)) else (some (.next s288)))) q74.1 0 s262.1) fun res286=>fin res286 fun (s504:(List Swp))=>bnd (chkI (s262.2 + 1)) fun n506=>some (.next (s504,n506))) else (some (.brk (s262.1,s262.2)))) ([q101.1],0)) fun res260=>fin res260 fun (s513:(List Swp)×Int)=>bnd (bnd (Fe x0) fun q521=>if (s513.1.length:Int)=(q521.length:Int) then (some true) else (some false):Option Bool) fun y515=>some y515)))
set_option maxHeartbeats 1000000 in
theorem Hi {w:World} {A:Nat→Prop} (hA:∀ k,A k→k < w.heap.size) {vx0:Value} {x0:Tsk} (n9:Vb w A vx0 x0) (hT:TabF w A) {r:Bool} (hm:Dv x0=some r) :
    Fn Tryz.prog 4 [vx0] w fun v w'=>Ext w w'∧Vb w' (upA A w w') v r:=by
 obtain ⟨O,hB,iD⟩:=enter hA
 replace n9:=n9.mono iD
 obtain ⟨sI,rfl,v3,v4,v5,v6,rfl,h7,h0,i0,f0⟩:=n9
 obtain ⟨A8,c9,rfl⟩:=h7.form
 obtain ⟨p1,q1,rfl⟩:=h0.form
 obtain ⟨r1,s1,rfl⟩:=i0.form
 obtain ⟨t1,u1,rfl⟩:=f0.form
 refine AP Tryz.func4 rfl Tryz.ntmps4 rfl ?_
 unfold Dv at hm
 refine Ab (Aa (BC 2 O rfl rfl fun e2 o9 p9 u3 j0=>?_))
 replace j0:Lc 2 o9 p9 e2 30 [(.slice A8 x0.vars.length c9),(.slice p1 x0.init.length q1),(.slice r1 x0.goal.length s1),(.slice t1 x0.ops.length u1)]:=j0
 refine Am rfl rfl (o_z ?_)
 refine Ab (Ab ?_)
 obtain ⟨jD,w0,hm⟩:=bs hm
 refine Ax (fun l' w'=>∃ (kD:Unit) (O':Lab),subs l' [(1,(.pointer (some ⟨e2,0,none⟩))),(37,(.bool jD))]∧Bs w A w' O'∧Lc 2 w' O' e2 30 [(.slice A8 x0.vars.length c9),(.slice p1 x0.init.length q1),(.slice r1 x0.goal.length s1),(.slice t1 x0.ops.length u1)]∧Vb w' (Fr 0 w' O') (.slice A8 x0.vars.length c9) x0.vars∧Vb w' (Fr 0 w' O') (.slice p1 x0.init.length q1) x0.init∧Vb w' (Fr 0 w' O') (.slice r1 x0.goal.length s1) x0.goal∧Vb w' (Fr 0 w' O') (.slice t1 x0.ops.length u1) x0.ops) ?_ ?_
 ·
  refine Aa (Ba (hl:=rfl) (hc:=(j0.1).cellsAt) rfl rfl ?_)
  obtain ⟨pC,lD,w0⟩:=bs w0
  replace h7:=h7.st u3
  replace h0:=h0.st u3
  replace i0:=i0.st u3
  replace f0:=f0.st u3
  refine Bf (O:=p9) (A:=All o9) (R:=fun w' F v=>Vb w' F v pC) (LQ (fun _ h=>h) (Vb.mono (F:=Fr 0 o9 p9) (Vb.ofAgg (cs:=[(.slice A8 x0.vars.length c9),(.slice p1 x0.init.length q1),(.slice r1 x0.goal.length s1),(.slice t1 x0.ops.length u1)]) (x:=x0) rfl ⟨_,_,_,_,rfl,h7,h0,i0,f0⟩) Fr.lt) lD) rfl rfl fun tI qC rC x2 mD=>?_
  obtain rfl:=mD.bool
  cases pC
  case false =>
   replace w0:=iF w0
   refine CD rfl rfl (Aj rfl rfl (An rfl rfl rfl rfl (An rfl rfl rfl rfl (An rfl rfl rfl rfl (An rfl rfl rfl rfl (By rfl rfl rfl (Aj rfl rfl (An rfl rfl rfl rfl (An rfl rfl rfl rfl (An rfl rfl rfl rfl (An rfl rfl rfl rfl (By rfl rfl rfl (Aj rfl rfl (An rfl rfl rfl rfl ?_))))))))))))))
   refine An rfl rfl rfl rfl (By rfl rfl rfl (o_z ?_))
   obtain rfl:=sm w0
   exact ⟨(),_,⟨rfl,rfl,trivial⟩,(hB.st u3).st x2,j0.st x2,h7.st x2,h0.st x2,i0.st x2,f0.st x2⟩
  replace w0:=iT w0
  refine CC rfl rfl (Aj rfl rfl (Ar rfl rfl (AS rfl rfl (Ar rfl rfl ?_))))
  replace j0:=j0.st x2
  refine AJ (hc:=Blk.cell (i:=0) (j0.1) rfl) rfl rfl ?_
  refine Ar rfl rfl ?_
  obtain ⟨nD,oD,w0⟩:=bs w0
  replace h7:=h7.st x2
  refine Bf (O:=rC) (A:=All qC) (R:=fun w' F v=>Vb w' F v nD) (Ku (fun _ h=>h) (Vb.mono (F:=Fr 0 qC rC) h7 Fr.lt) (show inI64 (300) from by decide) oD) rfl rfl fun uI pD qD a3 rD=>?_
  obtain ⟨rfl,vI⟩:=rD.int
  refine Ar rfl rfl (CS rfl rfl rfl (fun q9=>?_) fun q9=>?_)
  ·
   replace w0:=ip w0 q9
   refine Bz rfl rfl rfl (Aj rfl rfl (An rfl rfl rfl rfl (An rfl rfl rfl rfl (An rfl rfl rfl rfl (An rfl rfl rfl rfl (By rfl rfl rfl (Aj rfl rfl (An rfl rfl rfl rfl (An rfl rfl rfl rfl (By rfl rfl rfl (o_z ?_)))))))))))
   obtain rfl:=sm w0
   exact ⟨(),_,⟨rfl,rfl,trivial⟩,((hB.st u3).st x2).st a3,j0.st a3,h7.st a3,(h0.st x2).st a3,(i0.st x2).st a3,(f0.st x2).st a3⟩
  replace w0:=im w0 q9
  refine Bz rfl rfl rfl (Aj rfl rfl (Ar rfl rfl (AS rfl rfl (Ar rfl rfl ?_))))
  replace j0:=j0.st a3
  refine AJ (hc:=Blk.cell (i:=3) (j0.1) rfl) rfl rfl ?_
  refine Ar rfl rfl (AX rfl rfl ?_)
  replace f0:=(f0.st x2).st a3
  have sD:x0.ops.length≤9223372036854775807:=Nat.le_trans f0.len.2.1 f0.len.2.2
  have wI:inI64 (x0.ops.length:Int):=rngNat sD
  refine Ar rfl rfl (CS rfl rfl rfl (fun r9=>?_) fun r9=>?_)
  ·
   replace w0:=ip w0 r9
   refine Bz rfl rfl rfl (Aj rfl rfl (An rfl rfl rfl rfl (An rfl rfl rfl rfl (By rfl rfl rfl (o_z ?_)))))
   obtain rfl:=sm w0
   exact ⟨(),_,⟨rfl,rfl,trivial⟩,((hB.st u3).st x2).st a3,j0,h7.st a3,(h0.st x2).st a3,(i0.st x2).st a3,f0⟩
  replace w0:=im w0 r9
  refine Bz rfl rfl rfl (Aj rfl rfl (Ar rfl rfl ?_))
  obtain ⟨sC,tD,w0⟩:=bs w0
  refine Bf (O:=qD) (A:=All pD) (R:=fun w' F v=>Vb w' F v sC) (HQ (fun _ h=>h)  tD) rfl rfl fun xI yI zI x3 uD=>?_
  obtain rfl:=uD.bool
  cases sC
  case false =>
   replace w0:=iF w0
   refine Ar rfl rfl (CD rfl rfl (Bz rfl rfl rfl (o_z ?_)))
   obtain rfl:=sm w0
   exact ⟨(),_,⟨rfl,rfl,trivial⟩,(((hB.st u3).st x2).st a3).st x3,j0.st x3,(h7.st a3).st x3,((h0.st x2).st a3).st x3,((i0.st x2).st a3).st x3,f0.st x3⟩
  replace w0:=iT w0
  refine Ar rfl rfl (CC rfl rfl (Bz rfl rfl rfl (o_z ?_)))
  obtain rfl:=sm w0
  exact ⟨(),_,⟨rfl,rfl,trivial⟩,(((hB.st u3).st x2).st a3).st x3,j0.st x3,(h7.st a3).st x3,((h0.st x2).st a3).st x3,((i0.st x2).st a3).st x3,f0.st x3⟩
 replace hB:=hB.st u3
 replace h7:=h7.st u3
 replace h0:=h0.st u3
 replace i0:=i0.st u3
 replace f0:=f0.st u3
 rintro aJ vD ⟨kD,tC,s9,hB,j0,h7,h0,i0,f0⟩
 refine AE _ s9 ?_
 refine Bp rfl (fun t9=>?_) (fun t9=>?_)
 ·
  replace hm:=ip hm t9
  refine Ab ?_
  obtain ⟨wD,e3,hm⟩:=bs hm
  refine Ax (fun l' w'=>∃ (xD:Unit) (O':Lab),subs l' [(2,(.bool wD))]∧Bs w A w' O') ?_ ?_
  ·
   refine Aa ?_
   obtain ⟨uC,yD,e3⟩:=bs e3
   refine Bf (O:=tC) (A:=All vD) (R:=fun w' F v=>Vb w' F v uC) (HQ (fun _ h=>h)  yD) rfl rfl fun bJ cJ dJ vC zD=>?_
   obtain rfl:=zD.bool
   cases uC
   case false =>
    replace e3:=iF e3
    refine Am rfl rfl (o_z ?_)
    obtain rfl:=sm e3
    exact ⟨(),_,⟨rfl,trivial⟩,hB.st vC⟩
   replace e3:=iT e3
   refine Am rfl rfl (o_z ?_)
   obtain rfl:=sm e3
   exact ⟨(),_,⟨rfl,trivial⟩,hB.st vC⟩
  rintro eJ fJ ⟨xD,gJ,u9,hB⟩
  refine AE _ u9 ?_
  refine AF ?_
  obtain rfl:=sm hm
  exact ret1v rfl (AC rfl) ⟨hB.ext,vBool⟩
 replace hm:=im' hm t9
 refine AI (Ab (Aa (Ba (hl:=rfl) (hc:=(j0.1).cellsAt) rfl rfl ?_)))
 obtain ⟨b1,aE,hm⟩:=bs hm
 refine BQ (O:=tC) (R:=fun w' F v=>T2 w' F v b1) (JX Fr.lt (Vb.ofAgg (cs:=[(.slice A8 x0.vars.length c9),(.slice p1 x0.init.length q1),(.slice r1 x0.goal.length s1),(.slice t1 x0.ops.length u1)]) (x:=x0) rfl ⟨_,_,_,_,rfl,h7,h0,i0,f0⟩) (show inI64 (1048576) from by decide) (TabF.bs hA hT hB) aE) rfl rfl fun hJ iJ jJ o2 bE=>?_
 obtain ⟨kJ,lJ,rfl,r0,cE⟩:=bE
 obtain ⟨b2,c2,rfl⟩:=r0.form
 obtain ⟨rfl,mJ⟩:=cE.err
 refine Aj rfl rfl (DN rfl rfl rfl (DN rfl rfl rfl (Am rfl rfl (Am rfl rfl (o_z ?_)))))
 refine Ab (Ab ?_)
 obtain ⟨dE,p2,hm⟩:=bs hm
 refine Ax (fun l' w'=>∃ (eE:Unit) (O':Lab),subs l' [(1,(.pointer (some ⟨e2,0,none⟩))),(3,(.slice b2 b1.1.length c2)),(50,(.bool dE))]∧Bs w A w' O'∧Lc 2 w' O' e2 30 [(.slice A8 x0.vars.length c9),(.slice p1 x0.init.length q1),(.slice r1 x0.goal.length s1),(.slice t1 x0.ops.length u1)]∧Vb w' (Fr 0 w' O') (.slice A8 x0.vars.length c9) x0.vars∧Vb w' (Fr 0 w' O') (.slice p1 x0.init.length q1) x0.init∧Vb w' (Fr 0 w' O') (.slice r1 x0.goal.length s1) x0.goal∧Vb w' (Fr 0 w' O') (.slice t1 x0.ops.length u1) x0.ops∧Vb w' (Fr 0 w' O') (.slice b2 b1.1.length c2) b1.1) ?_ ?_
 ·
  refine Aa (Aj rfl rfl (GS rfl rfl (fun v9=>?_) fun v9=>?_))
  ·
   replace p2:=ip p2 v9
   refine Aj rfl rfl (An rfl rfl rfl rfl (An rfl rfl rfl rfl (An rfl rfl rfl rfl (By rfl rfl rfl (o_z ?_)))))
   obtain rfl:=sm p2
   exact ⟨(),_,⟨rfl,rfl,rfl,trivial⟩,hB.st o2,j0.st o2,h7.st o2,h0.st o2,i0.st o2,f0.st o2,r0⟩
  replace p2:=im p2 v9
  refine Aj rfl rfl (Ar rfl rfl (Aj rfl rfl (Ar rfl rfl (AX rfl rfl ?_))))
  have fE:b1.1.length≤9223372036854775807:=Nat.le_trans r0.len.2.1 r0.len.2.2
  have nJ:inI64 (b1.1.length:Int):=rngNat fE
  refine Ar rfl rfl (CS rfl rfl rfl (fun w9=>?_) fun w9=>?_)
  ·
   replace p2:=ip p2 w9
   refine Bz rfl rfl rfl (o_z ?_)
   obtain rfl:=sm p2
   exact ⟨(),_,⟨rfl,rfl,rfl,trivial⟩,hB.st o2,j0.st o2,h7.st o2,h0.st o2,i0.st o2,f0.st o2,r0⟩
  replace p2:=im p2 w9
  refine Bz rfl rfl rfl (o_z ?_)
  obtain rfl:=sm p2
  exact ⟨(),_,⟨rfl,rfl,rfl,trivial⟩,hB.st o2,j0.st o2,h7.st o2,h0.st o2,i0.st o2,f0.st o2,r0⟩
 replace hB:=hB.st o2
 replace h7:=h7.st o2
 replace h0:=h0.st o2
 replace i0:=i0.st o2
 replace f0:=f0.st o2
 replace j0:=j0.st o2
 rintro oJ pJ ⟨eE,gE,x9,hB,j0,h7,h0,i0,f0,r0⟩
 refine AE _ x9 ?_
 refine Bp rfl (fun g5=>?_) (fun g5=>?_)
 ·
  replace hm:=ip hm g5
  refine Ab (Aa (Am rfl rfl (o_z ?_)))
  refine AF ?_
  obtain rfl:=sm hm
  exact ret1v rfl (AC rfl) ⟨hB.ext,vBool⟩
 replace hm:=im' hm g5
 refine AI (Ab (Aa (Ba (hl:=rfl) (hc:=(j0.1).cellsAt) rfl rfl ?_)))
 obtain ⟨d0,y9,hm⟩:=bs hm
 refine BQ (O:=gE) (R:=fun w' F v=>T2 w' F v d0) (HY Fr.lt (Vb.ofAgg (cs:=[(.slice A8 x0.vars.length c9),(.slice p1 x0.init.length q1),(.slice r1 x0.goal.length s1),(.slice t1 x0.ops.length u1)]) (x:=x0) rfl ⟨_,_,_,_,rfl,h7,h0,i0,f0⟩) y9) rfl rfl fun hE iE z9 d2 aA=>?_
 obtain ⟨jE,kE,rfl,bA,cA⟩:=aA
 obtain ⟨wC,rfl,lE,mE,nE,rfl,y0,z0,a1⟩:=bA
 obtain ⟨q2,r2,rfl⟩:=y0.form
 obtain ⟨s2,t2,rfl⟩:=z0.form
 obtain ⟨u2,v2,rfl⟩:=a1.form
 obtain ⟨rfl,oE⟩:=cA.err
 refine Aj rfl rfl (DN rfl rfl rfl (DN rfl rfl rfl (Bd 3 z9 rfl fun b3 pE j6 j1 c1=>?_)))
 refine AD c1 rfl rfl rfl (AU rfl) (allOne rfl) fun dA k1 c1=>?_
 replace c1:Lc 3 dA j6 b3 43 [(.slice q2 d0.1.vars.length r2),(.slice s2 d0.1.vals.length t2),(.slice u2 d0.1.ops.length v2)]:=c1
 refine Am rfl rfl (o_z ?_)
 refine Ab (Ab (Aa (Aj rfl rfl (GS rfl rfl (fun h5=>?_) fun h5=>?_))))
 ·
  replace hm:=ip hm h5
  refine o_z ?_
  refine Ah rfl (Ab (Aa (Am rfl rfl (o_z ?_))))
  refine AF ?_
  obtain rfl:=sm hm
  replace hB:=((hB.st d2).st j1).st k1
  exact ret1v rfl (AC rfl) ⟨hB.ext,vBool⟩
 replace hm:=im hm h5
 refine o_z ?_
 refine Ae rfl (AI (Ab (Ab (Aa (Aj rfl rfl (AX rfl rfl ?_))))))
 replace r0:=((r0.st d2).st j1).st k1
 have i5:b1.1.length≤9223372036854775807:=Nat.le_trans r0.len.2.1 r0.len.2.2
 have qE:inI64 (b1.1.length:Int):=rngNat i5
 refine Aj rfl rfl (o_z ?_)
 obtain ⟨j5,k6,hm⟩:=bs hm
 refine Ax (aft j5 (fun (h4:Unit) (i4:Unit)=>[(1,(.pointer (some ⟨e2,0,none⟩))),(3,(.slice b2 b1.1.length c2)),(5,(.pointer (some ⟨b3,0,none⟩)))]) (fun h4 i4 w'=>∃ O':Lab,Bs w A w' O'∧Lc 2 w' O' e2 30 [(.slice A8 x0.vars.length c9),(.slice p1 x0.init.length q1),(.slice r1 x0.goal.length s1),(.slice t1 x0.ops.length u1)]∧Vb w' (Fr 0 w' O') (.slice A8 x0.vars.length c9) x0.vars∧Vb w' (Fr 0 w' O') (.slice p1 x0.init.length q1) x0.init∧Vb w' (Fr 0 w' O') (.slice r1 x0.goal.length s1) x0.goal∧Vb w' (Fr 0 w' O') (.slice t1 x0.ops.length u1) x0.ops∧Vb w' (Fr 0 w' O') (.slice b2 b1.1.length c2) b1.1∧Lc 3 w' O' b3 43 [(.slice q2 d0.1.vars.length r2),(.slice s2 d0.1.vals.length t2),(.slice u2 d0.1.ops.length v2)]∧Vb w' (Fr 0 w' O') (.slice q2 d0.1.vars.length r2) d0.1.vars∧Vb w' (Fr 0 w' O') (.slice s2 d0.1.vals.length t2) d0.1.vals∧Vb w' (Fr 0 w' O') (.slice u2 d0.1.ops.length v2) d0.1.ops)) ?_ ?_
 ·
  refine AG ?_
  replace hB:=((hB.st d2).st j1).st k1
  replace h7:=((h7.st d2).st j1).st k1
  replace h0:=((h0.st d2).st j1).st k1
  replace i0:=((i0.st d2).st j1).st k1
  replace f0:=((f0.st d2).st j1).st k1
  replace j0:=((j0.st d2).st j1).st k1
  replace y0:=(y0.st j1).st k1
  replace z0:=(z0.st j1).st k1
  replace a1:=(a1.st j1).st k1
  refine Bk (σ:=Unit) (X:=Unit) (b1.1.length) k6 rfl i5 (fun (h4:Unit) (i4:Unit)=>[(1,(.pointer (some ⟨e2,0,none⟩))),(3,(.slice b2 b1.1.length c2)),(5,(.pointer (some ⟨b3,0,none⟩))),(58,(.slice b2 b1.1.length c2))]) _ (fun h4 i4 w'=>∃ O':Lab,Bs w A w' O'∧Lc 2 w' O' e2 30 [(.slice A8 x0.vars.length c9),(.slice p1 x0.init.length q1),(.slice r1 x0.goal.length s1),(.slice t1 x0.ops.length u1)]∧Vb w' (Fr 0 w' O') (.slice A8 x0.vars.length c9) x0.vars∧Vb w' (Fr 0 w' O') (.slice p1 x0.init.length q1) x0.init∧Vb w' (Fr 0 w' O') (.slice r1 x0.goal.length s1) x0.goal∧Vb w' (Fr 0 w' O') (.slice t1 x0.ops.length u1) x0.ops∧Vb w' (Fr 0 w' O') (.slice b2 b1.1.length c2) b1.1∧Lc 3 w' O' b3 43 [(.slice q2 d0.1.vars.length r2),(.slice s2 d0.1.vals.length t2),(.slice u2 d0.1.ops.length v2)]∧Vb w' (Fr 0 w' O') (.slice q2 d0.1.vars.length r2) d0.1.vars∧Vb w' (Fr 0 w' O') (.slice s2 d0.1.vals.length t2) d0.1.vals∧Vb w' (Fr 0 w' O') (.slice u2 d0.1.ops.length v2) d0.1.ops) _ () ⟨j6,hB,j0,h7,h0,i0,f0,r0,c1,y0,z0,a1⟩ ⟨rfl,rfl,rfl,rfl,rfl,rfl,trivial⟩ (fun _ _=>⟨rfl,rfl⟩) (fun _ _=>⟨rfl,rfl,rfl,trivial⟩) (fun _ _ _ ⟨O',hB,j0,h7,h0,i0,f0,r0,c1,y0,z0,a1⟩=>⟨O',hB,j0,h7,h0,i0,f0,r0,c1,y0,z0,a1⟩) ⟨rfl,rfl,rfl⟩ ⟨rfl,rfl⟩ ?_
  rintro k5 s0 h4 i4 rE xC c5 ⟨eA,hB,j0,h7,h0,i0,f0,r0,c1,y0,z0,a1⟩ d1 w3 j9
  have rk140:inI64 (k5:Int):=rngK c5 i5
  refine Ab (Aa ?_)
  obtain ⟨sE,tE,yC,l6,m6,n6,uE,vE,wE,rfl,v1,w1,x1⟩:=r0.elem' c5
  obtain ⟨g3,h3,rfl⟩:=v1.form
  obtain ⟨i3,j3,rfl⟩:=w1.form
  obtain ⟨k3,l3,rfl⟩:=x1.form
  refine Bv (hA:=l6) (hj:=rfl) (hlt:=m6) rfl rfl rfl ?_
  refine Ba (hl:=rfl) (hc:=n6) rfl rfl ?_
  refine Bd 4 eA rfl fun l5 xE j4 l0 y1=>?_
  refine AD y1 rfl rfl rfl (AU rfl) (allOne rfl) fun k4 m0 y1=>?_
  replace y1:Lc 4 k4 j4 l5 43 [(.slice g3 s0.vars.length h3),(.slice i3 s0.vals.length j3),(.slice k3 s0.ops.length l3)]:=y1
  refine o_z ?_
  refine Ab (Ab ?_)
  obtain ⟨fA,g1,d1⟩:=bs d1
  refine Ax (fun l' w'=>∃ (gA:Unit) (O':Lab),subs l' [(1,(.pointer (some ⟨e2,0,none⟩))),(3,(.slice b2 b1.1.length c2)),(5,(.pointer (some ⟨b3,0,none⟩))),(7,(.pointer (some ⟨l5,0,none⟩))),(58,(.slice b2 b1.1.length c2)),(59,(.int .i64 (b1.1.length:Int))),(60,(.int .i64 (k5:Int))),(72,(.bool fA))]∧Bs w A w' O'∧Lc 2 w' O' e2 30 [(.slice A8 x0.vars.length c9),(.slice p1 x0.init.length q1),(.slice r1 x0.goal.length s1),(.slice t1 x0.ops.length u1)]∧Vb w' (Fr 0 w' O') (.slice A8 x0.vars.length c9) x0.vars∧Vb w' (Fr 0 w' O') (.slice p1 x0.init.length q1) x0.init∧Vb w' (Fr 0 w' O') (.slice r1 x0.goal.length s1) x0.goal∧Vb w' (Fr 0 w' O') (.slice t1 x0.ops.length u1) x0.ops∧Vb w' (Fr 0 w' O') (.slice b2 b1.1.length c2) b1.1∧Lc 3 w' O' b3 43 [(.slice q2 d0.1.vars.length r2),(.slice s2 d0.1.vals.length t2),(.slice u2 d0.1.ops.length v2)]∧Vb w' (Fr 0 w' O') (.slice q2 d0.1.vars.length r2) d0.1.vars∧Vb w' (Fr 0 w' O') (.slice s2 d0.1.vals.length t2) d0.1.vals∧Vb w' (Fr 0 w' O') (.slice u2 d0.1.ops.length v2) d0.1.ops∧Lc 4 w' O' l5 43 [(.slice g3 s0.vars.length h3),(.slice i3 s0.vals.length j3),(.slice k3 s0.ops.length l3)]∧Vb w' (Fr 0 w' O') (.slice g3 s0.vars.length h3) s0.vars∧Vb w' (Fr 0 w' O') (.slice i3 s0.vals.length j3) s0.vals∧Vb w' (Fr 0 w' O') (.slice k3 s0.ops.length l3) s0.ops) ?_ ?_
  ·
   refine Aa ?_
   replace j0:=(j0.st l0).st m0
   refine Ba (hl:=rfl) (hc:=(j0.1).cellsAt) rfl rfl ?_
   refine Ba (hl:=rfl) (hc:=(y1.1).cellsAt) rfl rfl ?_
   obtain ⟨o6,iA,g1⟩:=bs g1
   replace h7:=(h7.st l0).st m0
   replace h0:=(h0.st l0).st m0
   replace i0:=(i0.st l0).st m0
   replace f0:=(f0.st l0).st m0
   replace v1:=(v1.st l0).st m0
   replace w1:=(w1.st l0).st m0
   replace x1:=(x1.st l0).st m0
   refine Bf (O:=j4) (A:=All k4) (R:=fun w' F v=>Vb w' F v o6) (GC (fun _ h=>h) (Vb.mono (F:=Fr 0 k4 j4) (Vb.ofAgg (cs:=[(.slice A8 x0.vars.length c9),(.slice p1 x0.init.length q1),(.slice r1 x0.goal.length s1),(.slice t1 x0.ops.length u1)]) (x:=x0) rfl ⟨_,_,_,_,rfl,h7,h0,i0,f0⟩) Fr.lt) (Vb.mono (F:=Fr 0 k4 j4) (Vb.ofAgg (cs:=[(.slice g3 s0.vars.length h3),(.slice i3 s0.vals.length j3),(.slice k3 s0.ops.length l3)]) (x:=s0) rfl ⟨_,_,_,rfl,v1,w1,x1⟩) Fr.lt) iA) rfl rfl fun yE m5 n5 k0 jA=>?_
   obtain rfl:=jA.bool
   cases o6
   case false =>
    replace g1:=iF g1
    refine CD rfl rfl (Aj rfl rfl (An rfl rfl rfl rfl (An rfl rfl rfl rfl (An rfl rfl rfl rfl (By rfl rfl rfl (o_z ?_))))))
    obtain rfl:=sm g1
    exact ⟨(),_,⟨rfl,rfl,rfl,rfl,rfl,rfl,rfl,rfl,trivial⟩,((hB.st l0).st m0).st k0,j0.st k0,h7.st k0,h0.st k0,i0.st k0,f0.st k0,((r0.st l0).st m0).st k0,((c1.st l0).st m0).st k0,((y0.st l0).st m0).st k0,((z0.st l0).st m0).st k0,((a1.st l0).st m0).st k0,y1.st k0,v1.st k0,w1.st k0,x1.st k0⟩
   replace g1:=iT g1
   refine CC rfl rfl (Aj rfl rfl (Ar rfl rfl ?_))
   replace y1:=y1.st k0
   refine Ba (hl:=rfl) (hc:=(y1.1).cellsAt) rfl rfl ?_
   refine Ar rfl rfl ?_
   replace c1:=((c1.st l0).st m0).st k0
   refine Ba (hl:=rfl) (hc:=(c1.1).cellsAt) rfl rfl ?_
   refine Ar rfl rfl ?_
   obtain ⟨p6,kA,g1⟩:=bs g1
   replace y0:=((y0.st l0).st m0).st k0
   replace z0:=((z0.st l0).st m0).st k0
   replace a1:=((a1.st l0).st m0).st k0
   replace v1:=v1.st k0
   replace w1:=w1.st k0
   replace x1:=x1.st k0
   refine Bf (O:=n5) (A:=All m5) (R:=fun w' F v=>Vb w' F v p6) (HV (fun _ h=>h) (Vb.mono (F:=Fr 0 m5 n5) (Vb.ofAgg (cs:=[(.slice g3 s0.vars.length h3),(.slice i3 s0.vals.length j3),(.slice k3 s0.ops.length l3)]) (x:=s0) rfl ⟨_,_,_,rfl,v1,w1,x1⟩) Fr.lt) (Vb.mono (F:=Fr 0 m5 n5) (Vb.ofAgg (cs:=[(.slice q2 d0.1.vars.length r2),(.slice s2 d0.1.vals.length t2),(.slice u2 d0.1.ops.length v2)]) (x:=d0.1) rfl ⟨_,_,_,rfl,y0,z0,a1⟩) Fr.lt) kA) rfl rfl fun zE aF bF q0 lA=>?_
   obtain rfl:=lA.bool
   cases p6
   case false =>
    replace g1:=iF g1
    refine Bz rfl rfl rfl (o_z ?_)
    obtain rfl:=sm g1
    exact ⟨(),_,⟨rfl,rfl,rfl,rfl,rfl,rfl,rfl,rfl,trivial⟩,(((hB.st l0).st m0).st k0).st q0,(j0.st k0).st q0,(h7.st k0).st q0,(h0.st k0).st q0,(i0.st k0).st q0,(f0.st k0).st q0,(((r0.st l0).st m0).st k0).st q0,c1.st q0,y0.st q0,z0.st q0,a1.st q0,y1.st q0,v1.st q0,w1.st q0,x1.st q0⟩
   replace g1:=iT g1
   refine Bz rfl rfl rfl (o_z ?_)
   obtain rfl:=sm g1
   exact ⟨(),_,⟨rfl,rfl,rfl,rfl,rfl,rfl,rfl,rfl,trivial⟩,(((hB.st l0).st m0).st k0).st q0,(j0.st k0).st q0,(h7.st k0).st q0,(h0.st k0).st q0,(i0.st k0).st q0,(f0.st k0).st q0,(((r0.st l0).st m0).st k0).st q0,c1.st q0,y0.st q0,z0.st q0,a1.st q0,y1.st q0,v1.st q0,w1.st q0,x1.st q0⟩
  replace hB:=(hB.st l0).st m0
  replace h7:=(h7.st l0).st m0
  replace h0:=(h0.st l0).st m0
  replace i0:=(i0.st l0).st m0
  replace f0:=(f0.st l0).st m0
  replace j0:=(j0.st l0).st m0
  replace r0:=(r0.st l0).st m0
  replace y0:=(y0.st l0).st m0
  replace z0:=(z0.st l0).st m0
  replace a1:=(a1.st l0).st m0
  replace c1:=(c1.st l0).st m0
  replace v1:=(v1.st l0).st m0
  replace w1:=(w1.st l0).st m0
  replace x1:=(x1.st l0).st m0
  rintro cF dF ⟨gA,mA,q6,hB,j0,h7,h0,i0,f0,r0,c1,y0,z0,a1,y1,v1,w1,x1⟩
  refine AE _ q6 ?_
  refine Bp rfl (fun o5=>?_) (fun o5=>?_)
  ·
   replace d1:=ip d1 o5
   refine Ab (Aa (Am rfl rfl (o_z ?_)))
   refine AF ?_
   obtain rfl:=sm d1
   obtain rfl:=w3 _ rfl
   obtain rfl:=sm (Cq hm)
   exact ret1v rfl (AC rfl) ⟨hB.ext,vBool⟩
  replace d1:=im' d1 o5
  refine AI (Ab (Aa (Ba (hl:=rfl) (hc:=(j0.1).cellsAt) rfl rfl ?_)))
  refine Ba (hl:=rfl) (hc:=(y1.1).cellsAt) rfl rfl ?_
  obtain ⟨c3,nA,d1⟩:=bs d1
  refine BQ (O:=mA) (R:=fun w' F v=>T2 w' F v c3) (Ge Fr.lt (Vb.ofAgg (cs:=[(.slice A8 x0.vars.length c9),(.slice p1 x0.init.length q1),(.slice r1 x0.goal.length s1),(.slice t1 x0.ops.length u1)]) (x:=x0) rfl ⟨_,_,_,_,rfl,h7,h0,i0,f0⟩) (Vb.ofAgg (cs:=[(.slice g3 s0.vars.length h3),(.slice i3 s0.vals.length j3),(.slice k3 s0.ops.length l3)]) (x:=s0) rfl ⟨_,_,_,rfl,v1,w1,x1⟩) nA) rfl rfl fun eF fF oA e0 pA=>?_
  obtain ⟨gF,hF,rfl,qA,rA⟩:=pA
  obtain ⟨zC,rfl,jF,kF,lF,rfl,l4,m4,n4⟩:=qA
  obtain ⟨r6,s6,rfl⟩:=l4.form
  obtain ⟨t6,u6,rfl⟩:=m4.form
  obtain ⟨w6,x6,rfl⟩:=n4.form
  obtain rfl:=rA.bool
  refine Aj rfl rfl (DN rfl rfl rfl (DN rfl rfl rfl (Bd 5 oA rfl fun sA mF o4 b0 y3=>?_)))
  refine AD y3 rfl rfl rfl (AU rfl) (allOne rfl) fun p4 c0 y3=>?_
  replace y3:Lc 5 p4 o4 sA 43 [(.slice r6 c3.1.vars.length s6),(.slice t6 c3.1.vals.length u6),(.slice w6 c3.1.ops.length x6)]:=y3
  refine Am rfl rfl (o_z ?_)
  refine Ab ?_
  obtain ⟨tA,l1,d1⟩:=bs d1
  refine Ax (fun l' w'=>∃ (uA:Unit) (O':Lab),subs l' [(1,(.pointer (some ⟨e2,0,none⟩))),(3,(.slice b2 b1.1.length c2)),(5,(.pointer (some ⟨b3,0,none⟩))),(58,(.slice b2 b1.1.length c2)),(59,(.int .i64 (b1.1.length:Int))),(60,(.int .i64 (k5:Int))),(86,(.bool tA))]∧Bs w A w' O'∧Lc 2 w' O' e2 30 [(.slice A8 x0.vars.length c9),(.slice p1 x0.init.length q1),(.slice r1 x0.goal.length s1),(.slice t1 x0.ops.length u1)]∧Vb w' (Fr 0 w' O') (.slice A8 x0.vars.length c9) x0.vars∧Vb w' (Fr 0 w' O') (.slice p1 x0.init.length q1) x0.init∧Vb w' (Fr 0 w' O') (.slice r1 x0.goal.length s1) x0.goal∧Vb w' (Fr 0 w' O') (.slice t1 x0.ops.length u1) x0.ops∧Vb w' (Fr 0 w' O') (.slice b2 b1.1.length c2) b1.1∧Lc 3 w' O' b3 43 [(.slice q2 d0.1.vars.length r2),(.slice s2 d0.1.vals.length t2),(.slice u2 d0.1.ops.length v2)]∧Vb w' (Fr 0 w' O') (.slice q2 d0.1.vars.length r2) d0.1.vars∧Vb w' (Fr 0 w' O') (.slice s2 d0.1.vals.length t2) d0.1.vals∧Vb w' (Fr 0 w' O') (.slice u2 d0.1.ops.length v2) d0.1.ops) ?_ ?_
  ·
   refine Aa (Aj rfl rfl (CU rfl rfl (Aj rfl rfl ?_)))
   rcases Bool.eq_false_or_eq_true (!c3.2) with z3|z3
   ·
    try simp only [z3]
    replace l1:=ip l1 z3
    refine An rfl rfl rfl rfl (An rfl rfl rfl rfl (An rfl rfl rfl rfl (An rfl rfl rfl rfl (By rfl rfl rfl (o_z ?_)))))
    obtain rfl:=sm l1
    exact ⟨(),_,⟨rfl,rfl,rfl,rfl,rfl,rfl,rfl,trivial⟩,((hB.st e0).st b0).st c0,((j0.st e0).st b0).st c0,((h7.st e0).st b0).st c0,((h0.st e0).st b0).st c0,((i0.st e0).st b0).st c0,((f0.st e0).st b0).st c0,((r0.st e0).st b0).st c0,((c1.st e0).st b0).st c0,((y0.st e0).st b0).st c0,((z0.st e0).st b0).st c0,((a1.st e0).st b0).st c0⟩
   try simp only [z3]
   replace l1:=im' l1 z3
   refine Ar rfl rfl ?_
   replace y1:=((y1.st e0).st b0).st c0
   refine Ba (hl:=rfl) (hc:=(y1.1).cellsAt) rfl rfl ?_
   refine Ar rfl rfl (Ba (hl:=rfl) (hc:=(y3.1).cellsAt) rfl rfl ?_)
   refine Ar rfl rfl ?_
   obtain ⟨y6,vA,l1⟩:=bs l1
   replace v1:=((v1.st e0).st b0).st c0
   replace w1:=((w1.st e0).st b0).st c0
   replace x1:=((x1.st e0).st b0).st c0
   replace l4:=(l4.st b0).st c0
   replace m4:=(m4.st b0).st c0
   replace n4:=(n4.st b0).st c0
   refine Bf (O:=o4) (A:=All p4) (R:=fun w' F v=>Vb w' F v y6) (Ij (fun _ h=>h) (Vb.mono (F:=Fr 0 p4 o4) (Vb.ofAgg (cs:=[(.slice g3 s0.vars.length h3),(.slice i3 s0.vals.length j3),(.slice k3 s0.ops.length l3)]) (x:=s0) rfl ⟨_,_,_,rfl,v1,w1,x1⟩) Fr.lt) (Vb.mono (F:=Fr 0 p4 o4) (Vb.ofAgg (cs:=[(.slice r6 c3.1.vars.length s6),(.slice t6 c3.1.vals.length u6),(.slice w6 c3.1.ops.length x6)]) (x:=c3.1) rfl ⟨_,_,_,rfl,l4,m4,n4⟩) Fr.lt) vA) rfl rfl fun nF oF pF i1 wA=>?_
   obtain rfl:=wA.bool
   cases y6
   case false =>
    replace l1:=iF l1
    refine Ar rfl rfl (CD rfl rfl (Bz rfl rfl rfl (o_z ?_)))
    obtain rfl:=sm l1
    exact ⟨(),_,⟨rfl,rfl,rfl,rfl,rfl,rfl,rfl,trivial⟩,(((hB.st e0).st b0).st c0).st i1,(((j0.st e0).st b0).st c0).st i1,(((h7.st e0).st b0).st c0).st i1,(((h0.st e0).st b0).st c0).st i1,(((i0.st e0).st b0).st c0).st i1,(((f0.st e0).st b0).st c0).st i1,(((r0.st e0).st b0).st c0).st i1,(((c1.st e0).st b0).st c0).st i1,(((y0.st e0).st b0).st c0).st i1,(((z0.st e0).st b0).st c0).st i1,(((a1.st e0).st b0).st c0).st i1⟩
   replace l1:=iT l1
   refine Ar rfl rfl (CC rfl rfl (Bz rfl rfl rfl (o_z ?_)))
   obtain rfl:=sm l1
   exact ⟨(),_,⟨rfl,rfl,rfl,rfl,rfl,rfl,rfl,trivial⟩,(((hB.st e0).st b0).st c0).st i1,(((j0.st e0).st b0).st c0).st i1,(((h7.st e0).st b0).st c0).st i1,(((h0.st e0).st b0).st c0).st i1,(((i0.st e0).st b0).st c0).st i1,(((f0.st e0).st b0).st c0).st i1,(((r0.st e0).st b0).st c0).st i1,(((c1.st e0).st b0).st c0).st i1,(((y0.st e0).st b0).st c0).st i1,(((z0.st e0).st b0).st c0).st i1,(((a1.st e0).st b0).st c0).st i1⟩
  replace hB:=((hB.st e0).st b0).st c0
  replace h7:=((h7.st e0).st b0).st c0
  replace h0:=((h0.st e0).st b0).st c0
  replace i0:=((i0.st e0).st b0).st c0
  replace f0:=((f0.st e0).st b0).st c0
  replace j0:=((j0.st e0).st b0).st c0
  replace r0:=((r0.st e0).st b0).st c0
  replace y0:=((y0.st e0).st b0).st c0
  replace z0:=((z0.st e0).st b0).st c0
  replace a1:=((a1.st e0).st b0).st c0
  replace c1:=((c1.st e0).st b0).st c0
  rintro qF rF ⟨uA,sF,z6,hB,j0,h7,h0,i0,f0,r0,c1,y0,z0,a1⟩
  refine AE _ z6 ?_
  refine Bp rfl (fun p5=>?_) (fun p5=>?_)
  ·
   replace d1:=ip d1 p5
   refine Ab (Aa (Am rfl rfl (o_z ?_)))
   refine AF ?_
   obtain rfl:=sm d1
   obtain rfl:=w3 _ rfl
   obtain rfl:=sm (Cq hm)
   exact ret1v rfl (AC rfl) ⟨hB.ext,vBool⟩
  replace d1:=im' d1 p5
  refine AI ?_
  obtain rfl:=sm d1
  exact show Exists _ from ⟨_,(),rfl,⟨rfl,rfl,rfl,rfl,rfl,rfl,trivial⟩,_,hB,j0,h7,h0,i0,f0,r0,c1,y0,z0,a1⟩
 replace hB:=((hB.st d2).st j1).st k1
 replace h7:=((h7.st d2).st j1).st k1
 replace h0:=((h0.st d2).st j1).st k1
 replace i0:=((i0.st d2).st j1).st k1
 replace f0:=((f0.st d2).st j1).st k1
 replace j0:=((j0.st d2).st j1).st k1
 replace y0:=(y0.st j1).st k1
 replace z0:=(z0.st j1).st k1
 replace a1:=(a1.st j1).st k1
 rintro tF uF ⟨vF,wF,rfl,a7,xA,hB,j0,h7,h0,i0,f0,r0,c1,y0,z0,a1⟩
 replace hm:=AV hm
 refine AE _ a7 ?_
 refine Ab (Aa (Ba (hl:=rfl) (hc:=(c1.1).cellsAt) rfl rfl ?_))
 refine Bi 6 (by decide) xA (xs:=([d0.1]:List Swp)) rfl rfl rfl rfl ⟨(Vb.ofAgg (cs:=[(.slice q2 d0.1.vars.length r2),(.slice s2 d0.1.vals.length t2),(.slice u2 d0.1.ops.length v2)]) (x:=d0.1) rfl ⟨_,_,_,rfl,y0,z0,a1⟩),trivial⟩ (by decide) (by decide) rfl fun yA xF zA f2 aB=>?_
 refine Am rfl rfl (o_z ?_)
 refine Ab (Ab (Aa (Am rfl rfl (o_z ?_))))
 obtain ⟨q5,b7,hm⟩:=bs hm
 refine Ax (aft q5 (fun (m1:(List Swp)×Int) (z1:(Option Addr×Nat))=>[(1,(.pointer (some ⟨e2,0,none⟩))),(10,(.slice z1.1 m1.1.length z1.2))]) (fun m1 z1 w'=>∃ O':Lab,Bs w A w' O'∧Lc 2 w' O' e2 30 [(.slice A8 x0.vars.length c9),(.slice p1 x0.init.length q1),(.slice r1 x0.goal.length s1),(.slice t1 x0.ops.length u1)]∧Vb w' (Fr 0 w' O') (.slice A8 x0.vars.length c9) x0.vars∧Vb w' (Fr 0 w' O') (.slice p1 x0.init.length q1) x0.init∧Vb w' (Fr 0 w' O') (.slice r1 x0.goal.length s1) x0.goal∧Vb w' (Fr 0 w' O') (.slice t1 x0.ops.length u1) x0.ops∧Rw 6 w' O' 43 (.slice z1.1 m1.1.length z1.2) m1.1∧inI64 m1.2)) ?_ ?_
 ·
  refine AG ?_
  replace hB:=hB.st f2
  replace h7:=h7.st f2
  replace h0:=h0.st f2
  replace i0:=i0.st f2
  replace f0:=f0.st f2
  replace j0:=j0.st f2
  replace r0:=r0.st f2
  refine DQ (σ:=(List Swp)×Int) (X:=(Option Addr×Nat)) b7 (fun (m1:(List Swp)×Int) (z1:(Option Addr×Nat))=>[(1,(.pointer (some ⟨e2,0,none⟩))),(3,(.slice b2 b1.1.length c2)),(10,(.slice z1.1 m1.1.length z1.2)),(11,(.int .i64 m1.2))]) _ (fun m1 z1 w'=>∃ O':Lab,Bs w A w' O'∧Lc 2 w' O' e2 30 [(.slice A8 x0.vars.length c9),(.slice p1 x0.init.length q1),(.slice r1 x0.goal.length s1),(.slice t1 x0.ops.length u1)]∧Vb w' (Fr 0 w' O') (.slice A8 x0.vars.length c9) x0.vars∧Vb w' (Fr 0 w' O') (.slice p1 x0.init.length q1) x0.init∧Vb w' (Fr 0 w' O') (.slice r1 x0.goal.length s1) x0.goal∧Vb w' (Fr 0 w' O') (.slice t1 x0.ops.length u1) x0.ops∧Vb w' (Fr 0 w' O') (.slice b2 b1.1.length c2) b1.1∧Rw 6 w' O' 43 (.slice z1.1 m1.1.length z1.2) m1.1∧inI64 m1.2) _ ((some ⟨yA,0,none⟩),1) ⟨zA,hB,j0,h7,h0,i0,f0,r0,aB,(show inI64 (0) from by decide)⟩ ⟨rfl,rfl,rfl,rfl,trivial⟩ ?_
  rintro m1 z1 yF aD ⟨bB,hB,j0,h7,h0,i0,f0,r0,m3,c7⟩ n1 q4 r4
  refine Ab (Ab (Aa (Aj rfl rfl (Aj rfl rfl (AX rfl rfl ?_)))))
  have cB:m1.1.length≤9223372036854775807:=Nat.le_trans m3.len.2.1 m3.len.2.2
  have zF:inI64 (m1.1.length:Int):=rngNat cB
  refine Dj rfl rfl rfl (fun r5=>?_) fun r5=>?_
  ·
   replace n1:=ip n1 r5
   refine o_z ?_
   refine Ah rfl (AI (Ab (AG (Ab (Aa (Aj rfl rfl (AX rfl rfl ?_)))))))
   have s5:b1.1.length≤9223372036854775807:=Nat.le_trans r0.len.2.1 r0.len.2.2
   have aG:inI64 (b1.1.length:Int):=rngNat s5
   refine Aj rfl rfl (o_z ?_)
   obtain ⟨t5,d7,n1⟩:=bs n1
   refine Ax (aft t5 (fun (h1:(List Swp)) (t0:(Option Addr×Nat))=>[(1,(.pointer (some ⟨e2,0,none⟩))),(3,(.slice b2 b1.1.length c2)),(10,(.slice t0.1 h1.length t0.2)),(11,(.int .i64 m1.2))]) (fun h1 t0 w'=>∃ O':Lab,Bs w A w' O'∧Lc 2 w' O' e2 30 [(.slice A8 x0.vars.length c9),(.slice p1 x0.init.length q1),(.slice r1 x0.goal.length s1),(.slice t1 x0.ops.length u1)]∧Vb w' (Fr 0 w' O') (.slice A8 x0.vars.length c9) x0.vars∧Vb w' (Fr 0 w' O') (.slice p1 x0.init.length q1) x0.init∧Vb w' (Fr 0 w' O') (.slice r1 x0.goal.length s1) x0.goal∧Vb w' (Fr 0 w' O') (.slice t1 x0.ops.length u1) x0.ops∧Vb w' (Fr 0 w' O') (.slice b2 b1.1.length c2) b1.1∧Rw 6 w' O' 43 (.slice t0.1 h1.length t0.2) h1)) ?_ ?_
   ·
    refine AG (Bk (σ:=(List Swp)) (X:=(Option Addr×Nat)) (b1.1.length) d7 rfl s5 (fun (h1:(List Swp)) (t0:(Option Addr×Nat))=>[(1,(.pointer (some ⟨e2,0,none⟩))),(3,(.slice b2 b1.1.length c2)),(10,(.slice t0.1 h1.length t0.2)),(11,(.int .i64 m1.2)),(96,(.slice b2 b1.1.length c2))]) _ (fun h1 t0 w'=>∃ O':Lab,Bs w A w' O'∧Lc 2 w' O' e2 30 [(.slice A8 x0.vars.length c9),(.slice p1 x0.init.length q1),(.slice r1 x0.goal.length s1),(.slice t1 x0.ops.length u1)]∧Vb w' (Fr 0 w' O') (.slice A8 x0.vars.length c9) x0.vars∧Vb w' (Fr 0 w' O') (.slice p1 x0.init.length q1) x0.init∧Vb w' (Fr 0 w' O') (.slice r1 x0.goal.length s1) x0.goal∧Vb w' (Fr 0 w' O') (.slice t1 x0.ops.length u1) x0.ops∧Vb w' (Fr 0 w' O') (.slice b2 b1.1.length c2) b1.1∧Rw 6 w' O' 43 (.slice t0.1 h1.length t0.2) h1) _ (z1.1,z1.2) ⟨bB,hB,j0,h7,h0,i0,f0,r0,m3⟩ ⟨rfl,rfl,rfl,rfl,rfl,rfl,rfl,trivial⟩ (fun _ _=>⟨rfl,rfl⟩) (fun _ _=>⟨rfl,rfl,rfl,rfl,trivial⟩) (fun _ _ _ ⟨O',hB,j0,h7,h0,i0,f0,r0,e1⟩=>⟨O',hB,j0,h7,h0,i0,f0,r0,e1⟩) ⟨rfl,rfl,rfl⟩ ⟨rfl,rfl⟩ ?_)
    rintro s4 w2 h1 t0 bG bD d5 ⟨dB,hB,j0,h7,h0,i0,f0,r0,e1⟩ n0 t4 k9
    have rk290:inI64 (s4:Int):=rngK d5 s5
    refine Ab (Aa ?_)
    obtain ⟨cG,dG,cD,e7,f7,g7,eG,fG,gG,rfl,n3,o3,p3⟩:=r0.elem' d5
    obtain ⟨u5,w5,rfl⟩:=n3.form
    obtain ⟨x5,y5,rfl⟩:=o3.form
    obtain ⟨z5,a6,rfl⟩:=p3.form
    refine Bv (hA:=e7) (hj:=rfl) (hlt:=f7) rfl rfl rfl ?_
    refine Ba (hl:=rfl) (hc:=g7) rfl rfl ?_
    refine Bd 7 dB rfl fun eB hG u4 u0 a4=>?_
    refine AD a4 rfl rfl rfl (AU rfl) (allOne rfl) fun fB v0 a4=>?_
    replace a4:Lc 7 fB u4 eB 43 [(.slice u5 w2.vars.length w5),(.slice x5 w2.vals.length y5),(.slice z5 w2.ops.length a6)]:=a4
    refine o_z ?_
    refine Ab ?_
    obtain ⟨f3,gB,n0⟩:=bs n0
    obtain ⟨y2,i7,n0⟩:=bs n0
    obtain ⟨g0,e5,n0⟩:=bs n0
    refine Ax (fun l' w'=>∃ (a0:Nat×(Option Addr×Nat)×(Option Addr×Nat)×(Option Addr×Nat)) (O':Lab),subs l' [(1,(.pointer (some ⟨e2,0,none⟩))),(3,(.slice b2 b1.1.length c2)),(10,(.slice t0.1 h1.length t0.2)),(11,(.int .i64 m1.2)),(14,(.pointer (some ⟨a0.1,0,none⟩))),(15,(errV y2.2.n)),(96,(.slice b2 b1.1.length c2)),(97,(.int .i64 (b1.1.length:Int))),(98,(.int .i64 (s4:Int)))]∧Bs w A w' O'∧Lc 2 w' O' e2 30 [(.slice A8 x0.vars.length c9),(.slice p1 x0.init.length q1),(.slice r1 x0.goal.length s1),(.slice t1 x0.ops.length u1)]∧Vb w' (Fr 0 w' O') (.slice A8 x0.vars.length c9) x0.vars∧Vb w' (Fr 0 w' O') (.slice p1 x0.init.length q1) x0.init∧Vb w' (Fr 0 w' O') (.slice r1 x0.goal.length s1) x0.goal∧Vb w' (Fr 0 w' O') (.slice t1 x0.ops.length u1) x0.ops∧Vb w' (Fr 0 w' O') (.slice b2 b1.1.length c2) b1.1∧Rw 6 w' O' 43 (.slice t0.1 h1.length t0.2) h1∧Lc 8 w' O' a0.1 43 [(.slice a0.2.1.1 g0.1.length a0.2.1.2),(.slice a0.2.2.1.1 g0.2.1.length a0.2.2.1.2),(.slice a0.2.2.2.1 g0.2.2.length a0.2.2.2.2)]∧Vb w' (Fr 0 w' O') (.slice a0.2.1.1 g0.1.length a0.2.1.2) g0.1∧Vb w' (Fr 0 w' O') (.slice a0.2.2.1.1 g0.2.1.length a0.2.2.1.2) g0.2.1∧Vb w' (Fr 0 w' O') (.slice a0.2.2.2.1 g0.2.2.length a0.2.2.2.2) g0.2.2∧inI64 y2.2.n) ?_ ?_
    ·
     refine Bc [(11,[8])] u4 ?_
     refine Az (fuel:=7) [] [(0,true),(1,true),(2,true),(3,true),(4,true),(5,true)] (by kernel_rfl) rfl ?_
     replace j0:=(j0.st u0).st v0
     refine Cl (hl:=rfl) (hb:=fun w' ⟨O',hq⟩=>((j0.st hq (by decide)).1).cellsAt) rfl rfl rfl ?_
     refine AH rfl rfl rfl (AH rfl rfl rfl ?_)
     obtain ⟨iB,jB⟩:=AO gB
     replace e1:=(e1.st u0).st v0
     obtain ⟨iG,jG,dD,j7,k7,l7,m7,kG,lG,mG,rfl,b4,c4,d4⟩:=e1.elemF jB
     obtain ⟨n7,o7,rfl⟩:=b4.form
     obtain ⟨p7,q7,rfl⟩:=c4.form
     obtain ⟨r7,s7,rfl⟩:=d4.form
     refine Bl (hA:=j7) (hj:=(Int.toNat_of_nonneg iB).symm) (hlt:=l7) rfl rfl rfl rfl ?_
     refine Cl (hl:=rfl) (hb:=fun w' ⟨O',hq⟩=>(AL (hq.agree (i:=6) (by decide)) k7 m7)) rfl rfl rfl ?_
     refine Cl (hl:=rfl) (hb:=fun w' ⟨O',hq⟩=>((a4.st hq (by decide)).1).cellsAt) rfl rfl rfl ?_
     refine As ?_
     refine Dk (i:=6) (j:=10) (by kernel_rfl) rfl rfl ?_ ?_
     ·
      replace h7:=(h7.st u0).st v0
      replace h0:=(h0.st u0).st v0
      replace i0:=(i0.st u0).st v0
      replace f0:=(f0.st u0).st v0
      replace n3:=(n3.st u0).st v0
      replace o3:=(o3.st u0).st v0
      replace p3:=(p3.st u0).st v0
      refine BQ (O:=u4) (R:=fun w' F v=>T2 w' F v y2) (FU Fr.lt (Vb.ofAgg (cs:=[(.slice A8 x0.vars.length c9),(.slice p1 x0.init.length q1),(.slice r1 x0.goal.length s1),(.slice t1 x0.ops.length u1)]) (x:=x0) rfl ⟨_,_,_,_,rfl,h7,h0,i0,f0⟩) (Vb.ofAgg (cs:=[(.slice n7 f3.vars.length o7),(.slice p7 f3.vals.length q7),(.slice r7 f3.ops.length s7)]) (x:=f3) rfl ⟨_,_,_,rfl,b4,c4,d4⟩) (Vb.ofAgg (cs:=[(.slice u5 w2.vars.length w5),(.slice x5 w2.vals.length y5),(.slice z5 w2.ops.length a6)]) (x:=w2) rfl ⟨_,_,_,rfl,n3,o3,p3⟩) i7) rfl rfl fun nG oG kB d3 lB=>?_
      obtain ⟨pG,qG,rfl,mB,nB⟩:=lB
      obtain ⟨eD,rfl,rG,sG,tG,rfl,t7,u7,v7⟩:=mB
      obtain ⟨w7,x7,rfl⟩:=t7.form
      obtain ⟨y7,z7,rfl⟩:=u7.form
      obtain ⟨a8,b8,rfl⟩:=v7.form
      obtain ⟨rfl,oB⟩:=nB.err
      have hZ:=d3.lst [] (fun _ h=>h.elim)
      refine Ay [(11,[8])] hZ (by kernel_rfl) ?_
      refine Az (fuel:=4) [] [(7,true),(8,true)] (by kernel_rfl) rfl ?_
      refine AH rfl rfl rfl (Kl rfl rfl rfl rfl (As ?_))
      refine Az (fuel:=3) [8] [(9,true)] (by kernel_rfl) rfl ?_
      refine Kl rfl rfl rfl rfl (As ?_)
      refine Au (i:=10) (by kernel_rfl) rfl ?_
      refine Bd 8 kB rfl fun c8 uG pB h2 e4=>?_
      have hZ:=h2.lst [] (fun _ h=>h.elim)
      refine Ay [(11,[8])] hZ (by kernel_rfl) ?_
      refine Au (i:=11) (by kernel_rfl) rfl ?_
      refine AD e4 rfl rfl rfl (AU rfl) (allOne rfl) fun qB i2 e4=>?_
      replace e4:Lc 8 qB pB c8 43 [(.slice w7 y2.1.vars.length x7),(.slice y7 y2.1.vals.length z7),(.slice a8 y2.1.ops.length b8)]:=e4
      have hZ:=i2.lst [8] (fun _ h=>by cases h;decide)
      refine Ay [] hZ (by kernel_rfl) ?_
      refine Az (fuel:=0) [] [(12,true)] (by kernel_rfl) rfl ?_
      refine Eh rfl rfl rfl (As ?_)
      refine AZ (by kernel_rfl) ?_
      obtain rfl:=sm e5
      exact ⟨(c8,(w7,x7),(y7,z7),(a8,b8)),_,⟨rfl,rfl,rfl,rfl,rfl,rfl,rfl,rfl,rfl,trivial⟩,((((hB.st u0).st v0).st d3).st h2).st i2,((j0.st d3).st h2).st i2,((h7.st d3).st h2).st i2,((h0.st d3).st h2).st i2,((i0.st d3).st h2).st i2,((f0.st d3).st h2).st i2,((((r0.st u0).st v0).st d3).st h2).st i2,((e1.st d3).st h2).st i2,e4,(t7.st h2).st i2,(u7.st h2).st i2,(v7.st h2).st i2,oB⟩
     refine Bd 8 u4 rfl fun d8 vG rB a2 q3=>?_
     have hZ:=a2.lst [] (fun _ h=>h.elim)
     refine Ay [(11,[8])] hZ (by kernel_rfl) ?_
     refine Au (i:=6) (by kernel_rfl) rfl ?_
     replace h7:=((h7.st u0).st v0).st a2
     replace h0:=((h0.st u0).st v0).st a2
     replace i0:=((i0.st u0).st v0).st a2
     replace f0:=((f0.st u0).st v0).st a2
     replace n3:=((n3.st u0).st v0).st a2
     replace o3:=((o3.st u0).st v0).st a2
     replace p3:=((p3.st u0).st v0).st a2
     replace b4:=b4.st a2
     replace c4:=c4.st a2
     replace d4:=d4.st a2
     refine BQ (O:=rB) (R:=fun w' F v=>T2 w' F v y2) (FU Fr.lt (Vb.ofAgg (cs:=[(.slice A8 x0.vars.length c9),(.slice p1 x0.init.length q1),(.slice r1 x0.goal.length s1),(.slice t1 x0.ops.length u1)]) (x:=x0) rfl ⟨_,_,_,_,rfl,h7,h0,i0,f0⟩) (Vb.ofAgg (cs:=[(.slice n7 f3.vars.length o7),(.slice p7 f3.vals.length q7),(.slice r7 f3.ops.length s7)]) (x:=f3) rfl ⟨_,_,_,rfl,b4,c4,d4⟩) (Vb.ofAgg (cs:=[(.slice u5 w2.vars.length w5),(.slice x5 w2.vals.length y5),(.slice z5 w2.ops.length a6)]) (x:=w2) rfl ⟨_,_,_,rfl,n3,o3,p3⟩) i7) rfl rfl fun wG xG sB z2 tB=>?_
     obtain ⟨yG,zG,rfl,uB,vB⟩:=tB
     obtain ⟨fD,rfl,aH,bH,cH,rfl,e8,f8,g8⟩:=uB
     obtain ⟨h8,i8,rfl⟩:=e8.form
     obtain ⟨j8,k8,rfl⟩:=f8.form
     obtain ⟨l8,m8,rfl⟩:=g8.form
     obtain ⟨rfl,wB⟩:=vB.err
     have hZ:=z2.lst [] (fun _ h=>h.elim)
     refine Ay [(11,[8])] hZ (by kernel_rfl) ?_
     refine Az (fuel:=3) [] [(7,true),(8,true)] (by kernel_rfl) rfl ?_
     refine AH rfl rfl rfl (Kl rfl rfl rfl rfl (As ?_))
     refine Az (fuel:=2) [8] [(9,true)] (by kernel_rfl) rfl ?_
     refine Kl rfl rfl rfl rfl (As ?_)
     refine Au (i:=11) (by kernel_rfl) rfl ?_
     replace q3:=q3.st z2
     refine AD q3 rfl rfl rfl (AU rfl) (allOne rfl) fun xB j2 q3=>?_
     replace q3:Lc 8 xB sB d8 43 [(.slice h8 y2.1.vars.length i8),(.slice j8 y2.1.vals.length k8),(.slice l8 y2.1.ops.length m8)]:=q3
     have hZ:=j2.lst [8] (fun _ h=>by cases h;decide)
     refine Ay [] hZ (by kernel_rfl) ?_
     refine Az (fuel:=0) [] [(12,true)] (by kernel_rfl) rfl ?_
     refine Eh rfl rfl rfl (As ?_)
     refine AZ (by kernel_rfl) ?_
     obtain rfl:=sm e5
     exact ⟨(d8,(h8,i8),(j8,k8),(l8,m8)),_,⟨rfl,rfl,rfl,rfl,rfl,rfl,rfl,rfl,rfl,trivial⟩,((((hB.st u0).st v0).st a2).st z2).st j2,((j0.st a2).st z2).st j2,(h7.st z2).st j2,(h0.st z2).st j2,(i0.st z2).st j2,(f0.st z2).st j2,((((r0.st u0).st v0).st a2).st z2).st j2,((e1.st a2).st z2).st j2,q3,e8.st j2,f8.st j2,g8.st j2,wB⟩
    replace hB:=(hB.st u0).st v0
    replace h7:=(h7.st u0).st v0
    replace h0:=(h0.st u0).st v0
    replace i0:=(i0.st u0).st v0
    replace f0:=(f0.st u0).st v0
    replace j0:=(j0.st u0).st v0
    replace r0:=(r0.st u0).st v0
    replace e1:=(e1.st u0).st v0
    rintro dH eH ⟨a0,yB,n8,hB,j0,h7,h0,i0,f0,r0,e1,k2,l2,m2,n2,fH⟩
    refine AE _ n8 ?_
    refine Ab (Ab (Aa (Aj rfl rfl (GS rfl rfl (fun b6=>?_) fun b6=>?_))))
    ·
     replace n0:=ip n0 b6
     refine o_z ?_
     refine Ah rfl (Ab (Aa (Am rfl rfl (o_z ?_))))
     refine AF ?_
     obtain rfl:=sm n0
     obtain rfl:=t4 _ rfl
     obtain rfl:=sm (Cq n1)
     obtain rfl:=q4 _ rfl
     obtain rfl:=sm (Cq hm)
     exact ret1v rfl (AC rfl) ⟨hB.ext,vBool⟩
    replace n0:=im n0 b6
    refine o_z ?_
    refine Ae rfl (AI (Ab (Aa (Am rfl rfl (o_z ?_)))))
    refine Ab (Ab (Aa (Aj rfl rfl (AX rfl rfl ?_))))
    have c6:h1.length≤9223372036854775807:=Nat.le_trans e1.len.2.1 e1.len.2.2
    have gH:inI64 (h1.length:Int):=rngNat c6
    refine Aj rfl rfl (o_z ?_)
    obtain ⟨d6,o8,n0⟩:=bs n0
    refine Ax (aft d6 (fun (r3:Bool) (w4:Unit)=>[(1,(.pointer (some ⟨e2,0,none⟩))),(3,(.slice b2 b1.1.length c2)),(10,(.slice t0.1 h1.length t0.2)),(11,(.int .i64 m1.2)),(14,(.pointer (some ⟨a0.1,0,none⟩))),(16,(.bool r3)),(96,(.slice b2 b1.1.length c2)),(97,(.int .i64 (b1.1.length:Int))),(98,(.int .i64 (s4:Int)))]) (fun r3 w4 w'=>∃ O':Lab,Bs w A w' O'∧Lc 2 w' O' e2 30 [(.slice A8 x0.vars.length c9),(.slice p1 x0.init.length q1),(.slice r1 x0.goal.length s1),(.slice t1 x0.ops.length u1)]∧Vb w' (Fr 0 w' O') (.slice A8 x0.vars.length c9) x0.vars∧Vb w' (Fr 0 w' O') (.slice p1 x0.init.length q1) x0.init∧Vb w' (Fr 0 w' O') (.slice r1 x0.goal.length s1) x0.goal∧Vb w' (Fr 0 w' O') (.slice t1 x0.ops.length u1) x0.ops∧Vb w' (Fr 0 w' O') (.slice b2 b1.1.length c2) b1.1∧Rw 6 w' O' 43 (.slice t0.1 h1.length t0.2) h1∧Lc 8 w' O' a0.1 43 [(.slice a0.2.1.1 g0.1.length a0.2.1.2),(.slice a0.2.2.1.1 g0.2.1.length a0.2.2.1.2),(.slice a0.2.2.2.1 g0.2.2.length a0.2.2.2.2)]∧Vb w' (Fr 0 w' O') (.slice a0.2.1.1 g0.1.length a0.2.1.2) g0.1∧Vb w' (Fr 0 w' O') (.slice a0.2.2.1.1 g0.2.1.length a0.2.2.1.2) g0.2.1∧Vb w' (Fr 0 w' O') (.slice a0.2.2.2.1 g0.2.2.length a0.2.2.2.2) g0.2.2)) ?_ ?_
    ·
     refine AG (Bk (σ:=Bool) (X:=Unit) (h1.length) o8 rfl c6 (fun (r3:Bool) (w4:Unit)=>[(1,(.pointer (some ⟨e2,0,none⟩))),(3,(.slice b2 b1.1.length c2)),(10,(.slice t0.1 h1.length t0.2)),(11,(.int .i64 m1.2)),(14,(.pointer (some ⟨a0.1,0,none⟩))),(16,(.bool r3)),(96,(.slice b2 b1.1.length c2)),(97,(.int .i64 (b1.1.length:Int))),(98,(.int .i64 (s4:Int))),(114,(.slice t0.1 h1.length t0.2))]) _ (fun r3 w4 w'=>∃ O':Lab,Bs w A w' O'∧Lc 2 w' O' e2 30 [(.slice A8 x0.vars.length c9),(.slice p1 x0.init.length q1),(.slice r1 x0.goal.length s1),(.slice t1 x0.ops.length u1)]∧Vb w' (Fr 0 w' O') (.slice A8 x0.vars.length c9) x0.vars∧Vb w' (Fr 0 w' O') (.slice p1 x0.init.length q1) x0.init∧Vb w' (Fr 0 w' O') (.slice r1 x0.goal.length s1) x0.goal∧Vb w' (Fr 0 w' O') (.slice t1 x0.ops.length u1) x0.ops∧Vb w' (Fr 0 w' O') (.slice b2 b1.1.length c2) b1.1∧Rw 6 w' O' 43 (.slice t0.1 h1.length t0.2) h1∧Lc 8 w' O' a0.1 43 [(.slice a0.2.1.1 g0.1.length a0.2.1.2),(.slice a0.2.2.1.1 g0.2.1.length a0.2.2.1.2),(.slice a0.2.2.2.1 g0.2.2.length a0.2.2.2.2)]∧Vb w' (Fr 0 w' O') (.slice a0.2.1.1 g0.1.length a0.2.1.2) g0.1∧Vb w' (Fr 0 w' O') (.slice a0.2.2.1.1 g0.2.1.length a0.2.2.1.2) g0.2.1∧Vb w' (Fr 0 w' O') (.slice a0.2.2.2.1 g0.2.2.length a0.2.2.2.2) g0.2.2) _ () ⟨yB,hB,j0,h7,h0,i0,f0,r0,e1,k2,l2,m2,n2⟩ ⟨rfl,rfl,rfl,rfl,rfl,rfl,rfl,rfl,rfl,rfl,rfl,rfl,trivial⟩ (fun _ _=>⟨rfl,rfl⟩) (fun _ _=>⟨rfl,rfl,rfl,rfl,rfl,rfl,rfl,rfl,rfl,trivial⟩) (fun _ _ _ ⟨O',hB,j0,h7,h0,i0,f0,r0,e1,k2,l2,m2,n2⟩=>⟨O',hB,j0,h7,h0,i0,f0,r0,e1,k2,l2,m2,n2⟩) ⟨rfl,rfl,rfl⟩ ⟨rfl,rfl⟩ ?_)
     rintro zB s3 r3 w4 hH gD f5 ⟨aC,hB,j0,h7,h0,i0,f0,r0,e1,k2,l2,m2,n2⟩ o1 l9 m9
     have rk436:inI64 (zB:Int):=rngK f5 c6
     refine Ab (Aa ?_)
     obtain ⟨iH,jH,hD,p8,q8,r8,kH,lH,mH,rfl,x4,y4,z4⟩:=e1.elem f5
     obtain ⟨s8,t8,rfl⟩:=x4.form
     obtain ⟨u8,v8,rfl⟩:=y4.form
     obtain ⟨w8,x8,rfl⟩:=z4.form
     refine Bv (hA:=p8) (hj:=rfl) (hlt:=q8) rfl rfl rfl ?_
     refine Ba (hl:=rfl) (hc:=r8) rfl rfl ?_
     refine Bd 9 aC rfl fun bC nH a5 o0 f4=>?_
     refine AD f4 rfl rfl rfl (AU rfl) (allOne rfl) fun b5 p0 f4=>?_
     replace f4:Lc 9 b5 a5 bC 43 [(.slice s8 s3.vars.length t8),(.slice u8 s3.vals.length v8),(.slice w8 s3.ops.length x8)]:=f4
     refine o_z ?_
     refine Aa (Aj rfl rfl (Aj rfl rfl ?_))
     rcases Bool.eq_false_or_eq_true r3 with g4|g4
     ·
      try rw [g4]
      replace o1:=ip o1 g4
      refine An rfl rfl rfl rfl (An rfl rfl rfl rfl (An rfl rfl rfl rfl (By rfl rfl rfl (Am rfl rfl (o_z ?_)))))
      obtain rfl:=sm o1
      exact show Exists _ from ⟨_,(),rfl,⟨rfl,rfl,rfl,rfl,rfl,rfl,rfl,rfl,rfl,rfl,rfl,rfl,trivial⟩,_,(hB.st o0).st p0,(j0.st o0).st p0,(h7.st o0).st p0,(h0.st o0).st p0,(i0.st o0).st p0,(f0.st o0).st p0,(r0.st o0).st p0,(e1.st o0).st p0,(k2.st o0).st p0,(l2.st o0).st p0,(m2.st o0).st p0,(n2.st o0).st p0⟩
     try rw [g4]
     replace o1:=im' o1 g4
     refine Ar rfl rfl ?_
     replace k2:=(k2.st o0).st p0
     refine Ba (hl:=rfl) (hc:=(k2.1).cellsAt) rfl rfl ?_
     refine Ar rfl rfl (Ba (hl:=rfl) (hc:=(f4.1).cellsAt) rfl rfl ?_)
     refine Ar rfl rfl ?_
     obtain ⟨y8,cC,o1⟩:=bs o1
     replace l2:=(l2.st o0).st p0
     replace m2:=(m2.st o0).st p0
     replace n2:=(n2.st o0).st p0
     replace x4:=(x4.st o0).st p0
     replace y4:=(y4.st o0).st p0
     replace z4:=(z4.st o0).st p0
     refine Bf (O:=a5) (A:=All b5) (R:=fun w' F v=>Vb w' F v y8) (HV (fun _ h=>h) (Vb.mono (F:=Fr 0 b5 a5) (Vb.ofAgg (cs:=[(.slice a0.2.1.1 g0.1.length a0.2.1.2),(.slice a0.2.2.1.1 g0.2.1.length a0.2.2.1.2),(.slice a0.2.2.2.1 g0.2.2.length a0.2.2.2.2)]) (x:=(⟨g0.1,g0.2.1,g0.2.2⟩:Swp)) rfl ⟨_,_,_,rfl,l2,m2,n2⟩) Fr.lt) (Vb.mono (F:=Fr 0 b5 a5) (Vb.ofAgg (cs:=[(.slice s8 s3.vars.length t8),(.slice u8 s3.vals.length v8),(.slice w8 s3.ops.length x8)]) (x:=s3) rfl ⟨_,_,_,rfl,x4,y4,z4⟩) Fr.lt) cC) rfl rfl fun oH pH qH f1 dC=>?_
     obtain rfl:=dC.bool
     cases y8
     case false =>
      replace o1:=iF o1
      refine Bz rfl rfl rfl (Am rfl rfl (o_z ?_))
      obtain rfl:=sm o1
      exact show Exists _ from ⟨_,(),rfl,⟨rfl,rfl,rfl,rfl,rfl,rfl,rfl,rfl,rfl,rfl,rfl,rfl,trivial⟩,_,((hB.st o0).st p0).st f1,((j0.st o0).st p0).st f1,((h7.st o0).st p0).st f1,((h0.st o0).st p0).st f1,((i0.st o0).st p0).st f1,((f0.st o0).st p0).st f1,((r0.st o0).st p0).st f1,((e1.st o0).st p0).st f1,k2.st f1,l2.st f1,m2.st f1,n2.st f1⟩
     replace o1:=iT o1
     refine Bz rfl rfl rfl (Am rfl rfl (o_z ?_))
     obtain rfl:=sm o1
     exact show Exists _ from ⟨_,(),rfl,⟨rfl,rfl,rfl,rfl,rfl,rfl,rfl,rfl,rfl,rfl,rfl,rfl,trivial⟩,_,((hB.st o0).st p0).st f1,((j0.st o0).st p0).st f1,((h7.st o0).st p0).st f1,((h0.st o0).st p0).st f1,((i0.st o0).st p0).st f1,((f0.st o0).st p0).st f1,((r0.st o0).st p0).st f1,((e1.st o0).st p0).st f1,k2.st f1,l2.st f1,m2.st f1,n2.st f1⟩
    rintro rH sH ⟨tH,uH,rfl,z8,vH,hB,j0,h7,h0,i0,f0,r0,e1,k2,l2,m2,n2⟩
    replace n0:=AV n0
    refine AE _ z8 ?_
    refine Ab (Aa (Aj rfl rfl (CU rfl rfl (o_z ?_))))
    refine Bp rfl (fun e6=>?_) (fun e6=>?_)
    ·
     replace n0:=ip n0 e6
     refine Aa (Aj rfl rfl (Ba (hl:=rfl) (hc:=(k2.1).cellsAt) rfl rfl ?_))
     obtain ⟨wH,f6,n0⟩:=bs n0
     obtain ⟨f6,eC,fC⟩:=AT f6
     refine CF rfl (a:=(⟨g0.1,g0.2.1,g0.2.2⟩:Swp)) e1 (Vb.ofAgg (cs:=[(.slice a0.2.1.1 g0.1.length a0.2.1.2),(.slice a0.2.2.1.1 g0.2.1.length a0.2.2.1.2),(.slice a0.2.2.2.1 g0.2.2.length a0.2.2.2.2)]) (x:=(⟨g0.1,g0.2.1,g0.2.2⟩:Swp)) rfl ⟨_,_,_,rfl,l2,m2,n2⟩) (fun _=>rfl) rfl (by decide) (by decide) eC fC ⟨rfl,rfl⟩ fun xH gC hC yH zH t3 a9=>?_
     rw [← f6] at a9 ⊢
     refine Am rfl rfl (o_z ?_)
     obtain rfl:=sm n0
     exact show Exists _ from ⟨_,(gC,hC),rfl,⟨rfl,rfl,rfl,rfl,rfl,rfl,rfl,trivial⟩,_,hB.st t3,j0.st t3,h7.st t3,h0.st t3,i0.st t3,f0.st t3,r0.st t3,a9⟩
    replace n0:=im' n0 e6
    refine AI ?_
    obtain rfl:=sm n0
    exact show Exists _ from ⟨_,(t0.1,t0.2),rfl,⟨rfl,rfl,rfl,rfl,rfl,rfl,rfl,trivial⟩,_,hB,j0,h7,h0,i0,f0,r0,e1⟩
   rintro aI bI ⟨cI,b9,rfl,d9,dI,hB,j0,h7,h0,i0,f0,r0,e1⟩
   replace n1:=AV n1
   refine AE _ d9 ?_
   refine Aa (Aj rfl rfl ?_)
   obtain ⟨eI,e9,n1⟩:=bs n1
   have iC:=(BG e9)
   refine EQ (he:=e9) rfl rfl rfl ?_
   refine Am rfl rfl (o_z ?_)
   obtain rfl:=sm n1
   exact show Exists _ from ⟨_,(b9.1,b9.2),rfl,⟨rfl,rfl,rfl,rfl,trivial⟩,_,hB,j0,h7,h0,i0,f0,r0,e1,iC⟩
  replace n1:=im n1 r5
  refine o_z ?_
  refine Ae rfl (Ck ?_)
  obtain rfl:=sm n1
  exact show Exists _ from ⟨_,(z1.1,z1.2),r4 _ rfl,⟨rfl,rfl,trivial⟩,_,hB,j0,h7,h0,i0,f0,m3,c7⟩
 replace hB:=hB.st f2
 replace h7:=h7.st f2
 replace h0:=h0.st f2
 replace i0:=i0.st f2
 replace f0:=f0.st f2
 replace j0:=j0.st f2
 rintro fI gI ⟨f9,hI,rfl,g9,jC,hB,j0,h7,h0,i0,f0,m3,c7⟩
 replace hm:=AV hm
 refine AE _ g9 ?_
 refine Ab ?_
 obtain ⟨kC,g2,hm⟩:=bs hm
 refine Ax (fun l' w'=>∃ (lC:Unit) (O':Lab),subs l' [(2,(.bool kC))]∧Bs w A w' O') ?_ ?_
 ·
  refine Aa (Aj rfl rfl (AX rfl rfl ?_))
  have mC:f9.1.length≤9223372036854775807:=Nat.le_trans m3.len.2.1 m3.len.2.2
  have iI:inI64 (f9.1.length:Int):=rngNat mC
  refine Ba (hl:=rfl) (hc:=(j0.1).cellsAt) rfl rfl ?_
  obtain ⟨g6,nC,g2⟩:=bs g2
  refine BQ (O:=jC) (R:=fun w' F v=>Vb w' F v g6) (MO Fr.lt (Vb.ofAgg (cs:=[(.slice A8 x0.vars.length c9),(.slice p1 x0.init.length q1),(.slice r1 x0.goal.length s1),(.slice t1 x0.ops.length u1)]) (x:=x0) rfl ⟨_,_,_,_,rfl,h7,h0,i0,f0⟩) nC) rfl rfl fun jI kI lI h9 h6=>?_
  obtain ⟨mI,nI,rfl⟩:=h6.form
  refine AX rfl rfl ?_
  have oC:g6.length≤9223372036854775807:=Nat.le_trans h6.len.2.1 h6.len.2.2
  have oI:inI64 (g6.length:Int):=rngNat oC
  refine FK rfl rfl rfl (fun i6=>?_) fun i6=>?_
  ·
   replace g2:=ip g2 i6
   refine Am rfl rfl (o_z ?_)
   obtain rfl:=sm g2
   exact ⟨(),_,⟨rfl,trivial⟩,hB.st h9⟩
  replace g2:=im g2 i6
  refine Am rfl rfl (o_z ?_)
  obtain rfl:=sm g2
  exact ⟨(),_,⟨rfl,trivial⟩,hB.st h9⟩
 rintro pI qI ⟨lC,rI,i9,hB⟩
 refine AE _ i9 ?_
 refine AF ?_
 obtain rfl:=sm hm
 exact ret1v rfl (AC rfl) ⟨hB.ext,vBool⟩
end
section
section
variable {α σ ρ : Type}
theorem BF {s:σ} {f:σ→Option ρ}:fin (.done s) f=f s:=rfl
theorem NJ {c:ρ} {f:σ→Option ρ}:fin (.ret c) f=some c:=rfl
theorem Bq {x y:α}:(if true=true then x else y)=x:=rfl
theorem BO {x y:α}:(if false=true then x else y)=y:=rfl
theorem Qu {x y:α}:(if (!true)=true then x else y)=y:=rfl
theorem Qv {x y:α}:(if (!false)=true then x else y)=x:=rfl
theorem Ik {f:Nat→α→σ→Option (Ctl σ ρ)} {I:Nat→σ→Prop} {R:ρ→Prop}:∀ (ys:List α) (j:Nat) (s:σ),I j s →
    (∀ k x s,ys[k]?=some x→I (j + k) s→(∃ s',f (j + k) x s=some (.next s')∧I (j + k + 1) s')∨(∃ r,f (j + k) x s=some (.ret r)∧R r)) →
    (∃ s',rng f ys j s=some (.done s')∧I (j + ys.length) s')∨∃ r,rng f ys j s=some (.ret r)∧R r
  | [],j,s,h0,_=>.inl ⟨s,rfl,h0⟩
  | y :: ys,j,s,h0,h=>by
    rcases h 0 y s rfl h0 with ⟨s',h1,h2⟩|⟨r,h1,h2⟩
    · have h1':f j y s=some (.next s'):=h1
      simp only [rng,h1']
      rcases Ik (I:=I) (R:=R) ys (j + 1) s' h2 (fun k x s hk hI=>by
        have:=h (k + 1) x s (by simpa using hk) (by rwa [show j + (k + 1)=j + 1 + k from by omega])
        rwa [show j + (k + 1)=j + 1 + k from by omega] at this) with ⟨s2,h3,h4⟩|h3
      · exact .inl ⟨s2,h3,by rw [List.length_cons,show j + (ys.length + 1)=j + 1 + ys.length from by omega];exact h4⟩
      · exact .inr h3
    · have h1':f j y s=some (.ret r):=h1
      simp only [rng,h1']
      exact .inr ⟨r,rfl,h2⟩
theorem Kv {f:Nat→α→σ→Option (Ctl σ ρ)} {xs:List α} {s₀:σ} (I:Nat→σ→Prop) (R:ρ→Prop) (h0:I 0 s₀)
    (h:∀ k x s,xs[k]?=some x→I k s→(∃ s',f k x s=some (.next s')∧I (k + 1) s')∨(∃ r,f k x s=some (.ret r)∧R r)) :
    (∃ s',rng f xs 0 s₀=some (.done s')∧I xs.length s')∨∃ r,rng f xs 0 s₀=some (.ret r)∧R r:=by
  have:=Ik (f:=f) (I:=I) (R:=R) xs 0 s₀ h0 (fun k x s hk hI=>by rw [Nat.zero_add] at hI ⊢;exact h k x s hk hI)
  rwa [Nat.zero_add] at this
theorem En {f:Nat→α→σ→Option (Ctl σ ρ)} {xs:List α} {s₀:σ} (I:Nat→σ→Prop) (h0:I 0 s₀) (h:∀ k x s,xs[k]?=some x→I k s→∃ s',f k x s=some (.next s')∧I (k + 1) s') :
    ∃ s',rng f xs 0 s₀=some (.done s')∧I xs.length s':=by
  rcases Kv I (fun _=>False) h0 (fun k x s hk hI=>.inl (h k x s hk hI)) with h|⟨_,_,h⟩
  · exact h
  · exact h.elim
theorem Kw {f:Nat→α→σ→Option (Ctl σ ρ)} {xs:List α} (g:Nat→σ) (h:∀ k x,xs[k]?=some x→f k x (g k)=some (.next (g (k + 1)))):rng f xs 0 (g 0)=some (.done (g xs.length)):=by
  obtain ⟨s',h1,h2⟩:=En (f:=f) (xs:=xs) (s₀:=g 0) (fun k s=>s=g k) rfl (fun k x s hk hI=>⟨_,by rw [hI];exact h k x hk,rfl⟩)
  rw [h1,h2]
theorem CQ {f:Nat→α→σ→Option (Ctl σ ρ)} {xs:List α} {s₀:σ} (g:Nat→σ) (h0:s₀=g 0) (h:∀ k x,xs[k]?=some x→f k x (g k)=some (.next (g (k + 1)))):rng f xs 0 s₀=some (.done (g xs.length)):=by
  rw [h0];exact Kw g h
theorem HD {f:Nat→α→Unit→Option (Ctl Unit ρ)} {xs:List α} (h:∀ k x,xs[k]?=some x→f k x ()=some (.next ())):rng f xs 0 ()=some (.done ()):=Kw (fun _=>()) h
theorem Pz {f:Nat→σ→Option (Ctl σ ρ)} {N:Nat} (g:Nat→σ) (h:∀ k,k < N→f k (g k)=some (.next (g (k + 1)))):rngN f N (g 0)=some (.done (g N)):=by
  have:=Kw (f:=fun _ k s=>f k s) (xs:=List.range N) g (fun k x hk=>by
    obtain ⟨hlt,rfl⟩:=List.getElem?_eq_some_iff.1 hk
    simpa using h k (by simpa using hlt))
  rwa [List.length_range] at this
theorem KR {f:Nat→σ→Option (Ctl σ ρ)} {N:Nat} {s₀:σ} (g:Nat→σ) (h0:s₀=g 0) (h:∀ k,k < N→f k (g k)=some (.next (g (k + 1)))):rngN f N s₀=some (.done (g N)):=by
  rw [h0];exact Pz g h
theorem PA {f:Nat→σ→Option (Ctl σ ρ)} {N:Nat} {s₀:σ} (I:Nat→σ→Prop) (h0:I 0 s₀) (h:∀ k s,k < N→I k s→∃ s',f k s=some (.next s')∧I (k + 1) s') :
    ∃ s',rngN f N s₀=some (.done s')∧I N s':=by
  have:=En (f:=fun _ k s=>f k s) (xs:=List.range N) (s₀:=s₀) I h0 (fun k x s hk hI=>by
    obtain ⟨hlt,rfl⟩:=List.getElem?_eq_some_iff.1 hk
    simpa using h k s (by simpa using hlt) hI)
  rwa [List.length_range] at this
end
end
section
open Go Go.RowKit
def rangeI (n:Nat):List Int:=(List.range n).map fun i:Nat=>(i:Int)
theorem HE {n:Nat} {x:Int}:x∈rangeI n↔0≤x∧x < n:=by
  unfold rangeI
  rw [List.mem_map]
  constructor
  · rintro ⟨i,hi,rfl⟩;have:=List.mem_range.1 hi;omega
  · rintro ⟨h1,h2⟩;exact ⟨x.toNat,List.mem_range.2 (by omega),by omega⟩
theorem Gk (n:Nat):(rangeI n).length=n:=by simp [rangeI]
theorem LZ (n:Nat):(rangeI n).Nodup:=by
  unfold rangeI
  rw [List.nodup_iff_pairwise_ne,List.pairwise_map]
  exact (List.nodup_iff_pairwise_ne.1 List.nodup_range).imp fun h=>by omega
def PermR (l:List Int) (n:Nat):Prop:=l.Perm (rangeI n)
theorem Hj:∀ {l₁ l₂:List Int},l₁.Nodup→(∀ x∈l₁,x∈l₂)→l₂.length≤l₁.length→l₁.Perm l₂
  | [],l₂,_,_,hl=>by
    have:l₂=[]:=List.eq_nil_of_length_eq_zero (by simpa using hl)
    rw [this]
  | x :: l₁,l₂,hn,hs,hl=>by
    have hx:=hs x List.mem_cons_self
    have hp:=List.perm_cons_erase hx
    obtain ⟨h1,h2⟩:=List.nodup_cons.1 hn
    refine (List.Perm.cons x (Hj h2 (fun y hy=>?_) ?_)).trans hp.symm
    · have:y≠x:=fun e=>h1 (e ▸ hy)
      exact (List.mem_erase_of_ne this).2 (hs y (List.mem_cons_of_mem _ hy))
    · rw [List.length_erase_of_mem hx]
      simp at hl;omega
theorem PermR.len {l:List Int} {n:Nat} (h:PermR l n):l.length=n:=by rw [h.length_eq,Gk]
theorem PermR.mem {l:List Int} {n:Nat} (h:PermR l n) {x:Int} (hx:x∈l):0≤x∧x < n:=HE.1 (h.mem_iff.1 hx)
theorem PermR.nodup {l:List Int} {n:Nat} (h:PermR l n):l.Nodup:=h.symm.nodup (LZ n)
theorem GF {l:List Int} {n:Nat} (h1:l.Nodup) (h2:∀ x∈l,0≤x∧x < n) (h3:l.length=n):PermR l n:=Hj h1 (fun x hx=>HE.2 (h2 x hx)) (by rw [Gk];omega)
theorem GG {p q:Prop} (h:p↔q):some (bof p)=some (bof q):=by rw [FS h]
theorem CZ {α:Type} {l:List α} {k:Nat} {x y:α} (h:l[k]?=some x):y∈l.take (k + 1)↔y∈l.take k∨y=x:=by
  rw [List.take_add_one,h,List.mem_append];simp
theorem QM      {l:List Int} {n:Int} (hl:l.length≤1000000∨(l.length:Int)≠n):BU l n=some (bof ((l.length:Int)=n∧PermR l l.length)):=by
  unfold BU
  by_cases hn:(l.length:Int)=n
  case neg=>rw [if_pos hn,AQ (fun h=>hn h.1)]
  have hl':l.length≤1000000:=hl.resolve_right fun h=>h hn
  subst hn
  rw [if_neg (by simp),Fv (by omega) (by omega),Af]
  rcases Kv (ρ:=Bool) (f:=fun (_:Nat) (a26:Int) (s23:(List Bool))=>bnd (if a26 < 0 then (some true) else (if (l.length:Int)≤a26 then (some true) else (bnd (atI s23 a26) fun a54=>some a54)):Option Bool) fun y48=>if y48=true then (some (.ret false)) else (bnd (atI s23 a26) fun _=>some (.next (s23.set (a26).toNat true)))) (xs:=l) (s₀:=List.replicate l.length false)
    (fun k s=>s.length=l.length∧(∀ j:Nat,j < l.length→s[j]?=some (bof ((j:Int)∈l.take k)))∧(l.take k).Nodup∧∀ x∈l.take k,0≤x∧x < l.length) (fun r=>r=false∧¬ PermR l l.length)
    ⟨by simp, fun j hj=>by rw [List.getElem?_replicate,if_pos hj,List.take_zero,AQ (List.not_mem_nil)],by simp,by simp⟩ (fun k x s hx hI=>by
      obtain ⟨i1,i2,i3,i4⟩:=hI
      by_cases h1:x < 0
      · rw [if_pos h1,Af,Bq]
        exact .inr ⟨_,rfl,rfl,fun hp=>by have:=hp.mem (List.mem_of_getElem? hx);omega⟩
      · rw [if_neg h1]
        by_cases h2:(l.length:Int)≤x
        · rw [if_pos h2,Af,Bq]
          exact .inr ⟨_,rfl,rfl,fun hp=>by have:=hp.mem (List.mem_of_getElem? hx);omega⟩
        · rw [if_neg h2]
          obtain ⟨j,rfl⟩:=Int.eq_ofNat_of_zero_le (by omega:0≤x)
          rw [BA,i2 j (by omega),Af,Af]
          by_cases hm:(j:Int)∈l.take k
          · rw [Be hm,Bq]
            refine .inr ⟨_,rfl,rfl,fun hp=>?_⟩
            have hnd:=hp.nodup
            rw [← List.take_append_drop k l,List.nodup_append] at hnd
            have hd:(j:Int)∈l.drop k:=List.mem_of_getElem? (i:=0) (by rw [List.getElem?_drop,Nat.add_zero];exact hx)
            exact hnd.2.2 _ hm _ hd rfl
          · rw [AQ hm,BO,Af]
            refine .inl ⟨_,rfl,by simpa using i1,fun q hq=>?_,?_,fun y hy=>?_⟩
            · rw [show ((j:Int)).toNat=j from by omega,List.getElem?_set]
              by_cases hjq:j=q
              · subst hjq
                rw [if_pos rfl,if_pos (by omega),Be ((CZ hx).2 (.inr rfl))]
              · rw [if_neg hjq,i2 q hq]
                refine GG ⟨fun h=>(CZ hx).2 (.inl h),fun h=>((CZ hx).1 h).resolve_right (by omega)⟩
            · rw [List.take_add_one,hx]
              refine List.nodup_append.2 ⟨i3,by simp,fun a ha b hb=>?_⟩
              have:b=(j:Int):=by simpa using hb
              rw [this];exact fun e=>hm (e ▸ ha)
            · rcases (CZ hx).1 hy with hy|rfl
              · exact i4 y hy
              · omega) with ⟨s,hr,_,_,hnd,hrg⟩|⟨r,hr,rfl,hno⟩
  · rw [hr,Af,BF]
    rw [List.take_length] at hnd hrg
    rw [Be ⟨rfl,GF hnd hrg rfl⟩]
  · rw [hr,Af,NJ,AQ (fun h=>hno h.2)]
end
section
open Go Go.RowKit
theorem Gq {α:Type} {f:Nat→α→Unit→Option (Ctl Unit Bool)} {xs:List α} (P:Nat→Prop) (h:∀ k x,xs[k]?=some x→f k x ()=if bof (P k)=true then some (.next ()) else some (.ret false)) :
    (bnd (rng (ρ:=Bool) f xs 0 ()) fun r=>fin r fun _=>some true)=some (bof (∀ k,k < xs.length→P k)):=by
  rcases Kv (f:=f) (xs:=xs) (s₀:=()) (fun k _=>∀ j,j < k→P j) (fun r=>r=false∧¬ ∀ k,k < xs.length→P k) (fun j hj=>by omega) (fun k x _ hx hI=>by
    rw [h k x hx]
    by_cases hp:P k
    · rw [Be hp,Bq]
      exact .inl ⟨_,rfl,CG hI hp⟩
    · rw [AQ hp,BO]
      exact .inr ⟨_,rfl,rfl,fun hh=>hp (hh k (Aw hx))⟩) with ⟨_,hr,hc⟩|⟨r,hr,rfl,hno⟩
  · rw [hr,Af,BF,Be hc]
  · rw [hr,Af,NJ,AQ hno]
theorem Ma {l:List Int} {n:Nat} (hn:n≤1000000):BU l (n:Int)=some (bof (PermR l n)):=by
  rw [QM (by omega)]
  exact GG ⟨fun h=>by       have:l.length=n:=by omega
                            rw [← this];exact h.2,fun h=>⟨by rw [h.len],by rw [h.len];exact h⟩⟩
def FactsPerm (t:Tsk) (x:Swp):Prop:=PermR x.vars t.vars.length∧x.vals.length=t.vars.length∧∀ (k:Nat),k < t.vars.length→∃ (n:Nat) (a:Int) (l:List Int),t.vars[k]?=some (n:Int)∧x.vars[k]?=some a∧x.vals[k]?=some l∧atI t.vars a=some (n:Int)∧PermR l n
theorem PB {t:Tsk} {x:Swp} (hok:TaskOk t):DI t x=some (bof (FactsPerm t x)):=by
  obtain ⟨hl,_,hv,_⟩:=hok
  unfold DI
  rw [Ma (by omega),Af]
  by_cases h1:PermR x.vars t.vars.length
  case neg=>rw [AQ h1,BO,Af,Bq,AQ (fun h=>h1 h.1)]
  rw [Be h1,Bq]
  by_cases h2:x.vals.length=t.vars.length
  case neg=>rw [if_pos (by omega),Af,Bq,AQ (fun h=>h2 h.2.1)]
  rw [if_neg (by omega),Af,BO]
  rw [Gq (fun k=>∃ (n:Nat) (a:Int) (l:List Int),t.vars[k]?=some (n:Int)∧x.vars[k]?=some a∧x.vals[k]?=some l∧atI t.vars a=some (n:Int)∧PermR l n) (fun k y hy=>by
    have hk:=Aw hy
    obtain ⟨a,ha⟩:=AR (l:=x.vars) (k:=k) (by rw [h1.len];omega)
    obtain ⟨l,hll⟩:=AR (l:=x.vals) (k:=k) (by omega)
    have hy2:=hv k y hy
    obtain ⟨n,rfl⟩:=Int.eq_ofNat_of_zero_le (by omega:0≤y)
    obtain ⟨ha1,ha2⟩:=h1.mem (List.mem_of_getElem? ha)
    obtain ⟨j,rfl⟩:=Int.eq_ofNat_of_zero_le ha1
    obtain ⟨m,hm⟩:=AR (l:=t.vars) (k:=j) (by omega)
    rw [ha,Af,BA,hm,Af]
    by_cases hmn:m=(n:Int)
    · rw [if_neg (by simpa using hmn),hll,Af,Ma (by omega),Af]
      by_cases hp:PermR l n
      · rw [Be hp,Bq,Af,BO,Be ⟨n,_,l,hy,rfl,rfl,by rw [BA,hm,hmn],hp⟩,Bq]
      · rw [AQ hp,BO,Af,Bq,AQ (fun ⟨n',a',l',q1,q2,q3,q4,q5⟩=>by
          have e1:(n:Int)=n':=by rw [hy] at q1;exact Option.some.inj q1
          have e2:l=l':=Option.some.inj q3
          have e3:n=n':=by omega
          subst e2 e3;exact hp q5),BO]
    · rw [if_pos hmn,Af,Bq,AQ (fun ⟨n',a',l',q1,q2,q3,q4,q5⟩=>by
        have e1:(n:Int)=n':=by rw [hy] at q1;exact Option.some.inj q1
        have e2:(j:Int)=a':=Option.some.inj q2
        rw [← e2,BA,hm] at q4
        exact hmn (by rw [e1];exact Option.some.inj q4)),BO])]
  exact GG ⟨fun h=>⟨h1,h2,h⟩,fun h=>h.2.2⟩
theorem Ff (a b:List Fct):Bo a b=some (bof (a=b)):=by
  unfold Bo
  by_cases hl:a.length=b.length
  case neg=>rw [if_pos (by omega),AQ (fun h=>hl (by rw [h]))]
  rw [if_neg (by omega),Gq (fun k=>a[k]?=b[k]?) (fun k y hy=>by
    obtain ⟨z,hz⟩:=AR (l:=b) (k:=k) (by have:=Aw hy;omega)
    rw [hz,Af]
    by_cases h:y=z
    · rw [if_neg (by simp [h]),Be (by rw [hy,h]),Bq]
    · rw [if_pos (fun hh=>h (by cases y;cases z;simpa using hh)),AQ (by rw [hy];simpa using h),BO])]
  refine GG ⟨fun h=>List.ext_getElem? fun k=>?_,fun h=>by rw [h];exact fun _ _=>rfl⟩
  by_cases hk:k < a.length
  · exact h k hk
  · rw [List.getElem?_eq_none (by omega),List.getElem?_eq_none (by omega)]
theorem HF (a b:List Fct):DJ a b=some (bof (a=b)):=Ff a b
theorem alike1 (a b:Eff):Db a b=some (bof (a=b)):=by
  unfold Db
  by_cases h1:a.var=b.var
  case neg=>rw [if_neg h1,Af,AQ (fun h=>h1 (by rw [h]))]
  by_cases h2:a.val=b.val
  case neg=>rw [if_pos h1,if_neg h2,Af,AQ (fun h=>h2 (by rw [h]))]
  rw [if_pos h1,if_pos h2,Ff,Af]
  by_cases h3:a.cond=b.cond
  · rw [Be h3,Bq,Af,Be (by cases a;cases b;simp_all)]
  · rw [AQ h3,BO,Af,AQ (fun h=>h3 (by rw [h]))]
theorem NK (a b:List Eff):AW a b=some (bof (a=b)):=by
  unfold AW
  by_cases hl:a.length=b.length
  case neg=>rw [if_pos (by omega),AQ (fun h=>hl (by rw [h]))]
  rw [if_neg (by omega),Gq (fun k=>a[k]?=b[k]?) (fun k y hy=>by
    obtain ⟨z,hz⟩:=AR (l:=b) (k:=k) (by have:=Aw hy;omega)
    rw [hz,Af,alike1,Af]
    by_cases h:y=z
    · rw [Be h,Bq,Be (by rw [hy,h]),Bq]
    · rw [AQ h,BO,AQ (by rw [hy];simpa using h),BO])]
  refine GG ⟨fun h=>List.ext_getElem? fun k=>?_,fun h=>by rw [h];exact fun _ _=>rfl⟩
  by_cases hk:k < a.length
  · exact h k hk
  · rw [List.getElem?_eq_none (by omega),List.getElem?_eq_none (by omega)]
theorem Mb (p q:Opr):Cm p q=some (bof (p.cost=q.cost∧p.pre=q.pre∧p.effs=q.effs)):=by
  unfold Cm
  by_cases h1:p.cost=q.cost
  case neg=>rw [if_neg h1,Af,AQ (fun h=>h1 h.1)]
  rw [if_pos h1,Ff,Af]
  by_cases h2:p.pre=q.pre
  case neg=>rw [AQ h2,BO,Af,AQ (fun h=>h2 h.2.1)]
  rw [Be h2,Bq,NK,Af]
  by_cases h3:p.effs=q.effs
  · rw [Be h3,Bq,Af,Be ⟨h1,h2,h3⟩]
  · rw [AQ h3,BO,Af,AQ (fun h=>h3 h.2.2)]
def imF (x:Swp) (f:Fct):Fct:=⟨(x.vars[f.var.toNat]?).getD 0,(((x.vals[f.var.toNat]?).getD [])[f.val.toNat]?).getD 0⟩
def imL (x:Swp) (fs:List Fct):List Fct:=AY (fs.map (imF x))
def imE (x:Swp) (e:Eff):Eff:=⟨imL x e.cond,(imF x ⟨e.var,e.val⟩).var,(imF x ⟨e.var,e.val⟩).val⟩
def imO (x:Swp) (o:Opr):Opr:=⟨⟨#[]⟩,o.cost,imL x o.pre,o.effs.map (imE x)⟩
theorem GH {t:Tsk} {x:Swp} {f:Fct} (hp:FactsPerm t x) (hf:FactOk t.vars f):∃ l,atI x.vars f.var=some (imF x f).var∧atI x.vals f.var=some l∧atI l f.val=some (imF x f).val∧0≤(imF x f).var∧0≤(imF x f).val:=by
  obtain ⟨h1,h2,n,hn,h3⟩:=hf
  obtain ⟨fv,fz⟩:=f
  simp only at h1 h2 hn h3 ⊢
  obtain ⟨j,rfl⟩:=Int.eq_ofNat_of_zero_le h1
  obtain ⟨i,rfl⟩:=Int.eq_ofNat_of_zero_le h2
  rw [show ((j:Int)).toNat=j from by omega] at hn
  obtain ⟨m,a,l,q1,q2,q3,q4,q5⟩:=hp.2.2 j (Aw hn)
  have e:(m:Int)=n:=by rw [hn] at q1;exact (Option.some.inj q1).symm
  obtain ⟨z,hz⟩:=AR (l:=l) (k:=i) (by rw [q5.len];omega)
  have ha:=hp.1.mem (List.mem_of_getElem? q2)
  have hz':=q5.mem (List.mem_of_getElem? hz)
  refine ⟨l,?_,?_,?_,?_,?_⟩<;>simp [imF,BA,q2,q3,hz]<;>omega
end
section
open Go Go.RowKit
theorem CX {vars:List Int} {f:List Fct} (h:FactsOk vars f):(∀ x∈f,FactOk vars x)∧f.Pairwise fun x y=>x.var < y.var:=by
  refine ⟨fun x hx=>by obtain ⟨i,hi⟩:=List.getElem?_of_mem hx;exact h.1 i x hi,?_⟩
  rw [List.pairwise_iff_getElem]
  intro i j hi hj hij
  exact JQ h j i _ _ hij (List.getElem?_eq_getElem hi) (List.getElem?_eq_getElem hj)
theorem KS {a b:List Fct} (hp:a.Perm b) (ha:a.Pairwise fun x y=>x.var < y.var) (hb:b.Pairwise fun x y=>x.var < y.var):a=b :=
  List.Perm.eq_of_pairwise (fun x y _ _ h1 h2=>by omega) ha hb hp
def VarsNe (f:List Fct):Prop:=f.Pairwise fun x y=>x.var≠y.var
theorem VarsNe.perm {a b:List Fct} (hp:a.Perm b) (h:VarsNe a):VarsNe b:=(hp.pairwise_iff (fun h e=>h e.symm)).1 h
theorem HG {a:List Fct} (h:VarsNe a):(AY a).Pairwise fun x y=>x.var < y.var:=by
  have h1:=ML a
  have h2:VarsNe (AY a):=h.perm (DU a).symm
  exact (h1.and h2).imp fun ⟨p,q⟩=>by omega
theorem QN {t:Tsk} {x:Swp} {f g:Fct} (hp:FactsPerm t x) (hf:FactOk t.vars f) (hg:FactOk t.vars g) (h:(imF x f).var=(imF x g).var):f.var=g.var:=by
  obtain ⟨_,hf1,_⟩:=GH hp hf
  obtain ⟨_,hg1,_⟩:=GH hp hg
  obtain ⟨i,hi,hi'⟩:=LM hf1
  obtain ⟨j,hj,hj'⟩:=LM hg1
  rw [h,← hj'] at hi'
  have h1:i < x.vars.length:=by rw [hj'] at hi';exact Aw hi'
  have h2:=Aw hj'
  rw [List.getElem?_eq_getElem h1,List.getElem?_eq_getElem h2] at hi'
  have hij:=(List.getElem_inj hp.1.nodup).1 (Option.some.inj hi')
  rw [hi,hj,hij]
theorem NL {t:Tsk} {x:Swp} {fs:List Fct} (hp:FactsPerm t x) (hf:FactsOk t.vars fs):VarsNe (fs.map (imF x)):=by
  obtain ⟨h1,h2⟩:=CX hf
  unfold VarsNe
  rw [List.pairwise_map]
  refine List.Pairwise.imp_of_mem (fun {a b} ha hb hab=>?_) h2
  intro e
  have:=QN hp (h1 a ha) (h1 b hb) e
  omega
theorem FW {t:Tsk} {fs:List Fct} (hok:TaskOk t) (hf:FactsOk t.vars fs):fs.length≤64:=by have:=IU hf;have:=hok.1;omega
theorem map_take {α β:Type} {f:α→β} {l:List α} {k:Nat} {x:α} (h:l[k]?=some x):(l.take (k + 1)).map f=(l.take k).map f ++ [f x]:=by
  rw [List.take_add_one,h];simp
theorem GU {t:Tsk} {x:Swp} {fs:List Fct} (hok:TaskOk t) (hp:FactsPerm t x) (hf:FactsOk t.vars fs):BX x fs=some (imL x fs):=by
  have hl:=FW hok hf
  unfold BX
  rw [CQ (fun k=>(fs.take k).map (imF x)) (by simp) (fun k f hk=>by
    obtain ⟨l,h1,h2,h3,_⟩:=GH hp (hf.1 k f hk)
    have:=Aw hk
    rw [h1,Af,h2,Af,h3,Af,BM (by simp;omega) (by simp;omega),Af,map_take hk]),Af,BF,List.take_length,if_pos (by simp;omega),Af]
  rfl
def insF (f:Fct):List Fct→List Fct
  | []=>[f]
  | a :: l=>if f.var < a.var then f :: a :: l else a :: insF f l
theorem OC {f:Fct} {ρ:Type}:∀ (l acc:List Fct) (k:Nat),acc.length + l.length≤1000→rng (ρ:=ρ) (fun (_:Nat) (a18:Fct) (s15:(List Fct)×Bool)=>bnd (bnd (if (!s15.2)=true then (if f.var < a18.var then (some true) else (some false)) else (some false):Option Bool) fun y54=>if y54=true then (bnd (appI 16 s15.1 [f]) fun u65=>some (u65,true)) else (some (s15.1,s15.2)):Option ((List Fct)×Bool)) fun y48=>bnd (appI 16 y48.1 [a18]) fun u81=>some (.next (u81,y48.2))) l k (acc,true)=some (.done (acc ++ l,true))
  | [],acc,k,_=>by simp [rng]
  | a :: l,acc,k,h=>by
    simp at h
    have:=OC (f:=f) (ρ:=ρ) l (acc ++ [a]) (k + 1) (by simp;omega)
    rw [rng,Qu,Af,BO,Af,BM (by simp;omega) (by simp;omega),Af]
    simp only
    rw [this];simp
theorem OD {f:Fct} {ρ:Type}:∀ (l acc:List Fct) (k:Nat),acc.length + l.length≤900→∃ r:List Fct×Bool,rng (ρ:=ρ) (fun (_:Nat) (a18:Fct) (s15:(List Fct)×Bool)=>bnd (bnd (if (!s15.2)=true then (if f.var < a18.var then (some true) else (some false)) else (some false):Option Bool) fun y54=>if y54=true then (bnd (appI 16 s15.1 [f]) fun u65=>some (u65,true)) else (some (s15.1,s15.2)):Option ((List Fct)×Bool)) fun y48=>bnd (appI 16 y48.1 [a18]) fun u81=>some (.next (u81,y48.2))) l k (acc,false)=some (.done r)∧r.1.length≤1000∧(if r.2=true then r.1 else r.1 ++ [f])=acc ++ insF f l
  | [],acc,k,h=>⟨(acc,false),by simp [rng],by simp at h;simp;omega,by simp [insF]⟩
  | a :: l,acc,k,h=>by
    simp at h
    rw [rng,Qv]
    by_cases hlt:f.var < a.var
    · have:=OC (f:=f) (ρ:=ρ) l (acc ++ [f] ++ [a]) (k + 1) (by simp;omega)
      refine ⟨(acc ++ [f] ++ [a] ++ l,true),?_,?_,?_⟩
      · rw [if_pos hlt,Af,Bq,BM (by simp;omega) (by simp;omega),Af,Af,BM (by simp;omega) (by simp;omega),Af]
        simp only
        rw [this]
      · simp;omega
      · simp [insF,hlt]
    · obtain ⟨r,h1,h2,h3⟩:=OD (f:=f) (ρ:=ρ) l (acc ++ [a]) (k + 1) (by simp;omega)
      refine ⟨r,?_,h2,?_⟩
      · rw [if_neg hlt,Af,BO,Af,BM (by simp;omega) (by simp;omega),Af]
        simp only
        rw [h1]
      · rw [h3];simp [insF,hlt]
theorem QO {f:Fct} {l:List Fct} (h:l.length≤900):Ei l f=some (insF f l):=by
  unfold Ei
  obtain ⟨⟨r1,r2⟩,h1,h2,h3⟩:=OD (f:=f) (ρ:=List Fct) l [] 0 (by simpa using h)
  rw [h1,Af,BF]
  simp only at h2 h3 ⊢
  cases r2 with
  | true=>rw [Qu,Af];simpa using h3
  | false=>rw [Qv,BM (by simp;omega) (by simp;omega),Af,Af];simpa using h3
theorem Il (f:Fct):∀ l,(insF f l).Perm (f :: l)
  | []=>by simp [insF]
  | a :: l=>by
    unfold insF
    split
    · exact List.Perm.refl _
    · exact ((Il f l).cons a).trans (List.Perm.swap f a l)
theorem IV {f:Fct}:∀ {l:List Fct},l.Pairwise (fun x y=>x.var < y.var)→(∀ y∈l,y.var≠f.var)→(insF f l).Pairwise fun x y=>x.var < y.var
  | [],_,_=>by simp [insF]
  | a :: l,h,hn=>by
    obtain ⟨h1,h2⟩:=List.pairwise_cons.1 h
    unfold insF
    split
    · rename_i hlt
      refine List.pairwise_cons.2 ⟨fun y hy=>?_,h⟩
      rcases List.mem_cons.1 hy with rfl|hy
      · exact hlt
      · have:=h1 y hy;omega
    · rename_i hlt
      refine List.pairwise_cons.2 ⟨fun y hy=>?_,IV h2 fun y hy=>hn y (List.mem_cons_of_mem _ hy)⟩
      rcases List.mem_cons.1 ((Il f l).mem_iff.1 hy) with rfl|hy
      · have:=hn a List.mem_cons_self;omega
      · exact h1 y hy
theorem PC {l:List Fct} {v:Int} (h:∀ y∈l,y.var≠v):DR l v=some (-1):=by
  unfold DR
  rw [HD (fun k y hy=>by rw [if_neg (h y (List.mem_of_getElem? hy))]),Af,BF]
theorem QP {l:List Fct} (hl:l.length≤64) (hv:∀ x∈l,0≤x.var∧0≤x.val) (hn:VarsNe l):EJ l=some (AY l,0):=by
  unfold EJ
  rw [HD (fun k y hy=>by
    have:=hv y (List.mem_of_getElem? hy)
    rw [if_neg (by omega),if_neg (by omega),Af,BO]),Af,BF]
  obtain ⟨s,h1,h2,h3⟩:=En (ρ:=List Fct×Int) (f:=fun (_:Nat) (a60:Fct) (s57:(List Fct))=>bnd (DR s57 a60.var) fun q88=>bnd (if 0≤q88 then (if q88≠a60.val then (some true) else (some false)) else (some false):Option Bool) fun y96=>if y96=true then (some (.ret (([]:List Fct),2))) else (if q88 < 0 then (bnd (Ei s57 a60) fun q108=>some (.next q108)) else (some (.next s57)))) (xs:=l) (s₀:=[]) (fun k s=>s.Perm (l.take k)∧s.Pairwise fun x y=>x.var < y.var) ⟨by simp,by simp⟩ (fun k f s hk hI=>by
    obtain ⟨i1,i2⟩:=hI
    have hne:∀ y∈s,y.var≠f.var:=fun y hy=>by
      have hy:=i1.mem_iff.1 hy
      have hd:f∈l.drop k:=List.mem_of_getElem? (i:=0) (by rw [List.getElem?_drop,Nat.add_zero];exact hk)
      have hn':=hn
      unfold VarsNe at hn'
      rw [← List.take_append_drop k l,List.pairwise_append] at hn'
      exact hn'.2.2 y hy f hd
    have hsl:s.length≤900:=by rw [i1.length_eq,List.length_take];omega
    rw [PC hne,Af,if_neg (by omega),Af,BO,if_pos (by omega),QO hsl,Af]
    refine ⟨_,rfl,?_,IV i2 hne⟩
    rw [List.take_add_one,hk]
    exact (Il f s).trans ((i1.cons f).trans (List.perm_append_singleton f _).symm))
  rw [h1,Af,BF]
  rw [List.take_length] at h2
  rw [KS (h2.trans (DU l).symm) h3 (HG hn)]
theorem JY {t:Tsk} {x:Swp} {f:Fct} (hp:FactsPerm t x) (hf:FactOk t.vars f):Ej x f=some (imF x f):=by
  unfold Ej
  obtain ⟨l,h1,h2,h3,_⟩:=GH hp hf
  rw [h1,Af,h2,Af,h3,Af]
theorem GZ {t:Tsk} {x:Swp} {fs:List Fct} (hok:TaskOk t) (hp:FactsPerm t x) (hf:FactsOk t.vars fs):CI x fs=some (imL x fs):=by
  have hl:=FW hok hf
  unfold CI
  rw [CQ (fun k=>(fs.take k).map (imF x)) (by simp) (fun k f hk=>by
    have:=Aw hk
    rw [JY hp (hf.1 k f hk),Af,BM (by simp;omega) (by simp;omega),Af,map_take hk]),Af,BF,List.take_length,QP (by simpa using hl) (fun y hy=>by
      obtain ⟨f,hf',rfl⟩:=List.mem_map.1 hy
      obtain ⟨_,_,_,_,h⟩:=GH hp ((CX hf).1 f hf')
      exact h) (NL hp hf),Af]
  rfl
theorem Mc {t:Tsk} {x:Swp} {o:Opr} (hok:TaskOk t) (hp:FactsPerm t x) (ho:OpOk t.vars o):CN x o=some (imO x o):=by
  obtain ⟨_,_,hl,_,hpre,heff⟩:=ho
  unfold CN
  rw [GU hok hp hpre,Af,Af,CQ (fun k=>(o.effs.take k).map (imE x)) (by simp) (fun k e hk=>by
    obtain ⟨h1,h2⟩:=heff k e hk
    obtain ⟨l,g1,g2,g3,_⟩:=GH hp h2
    have:=Aw hk
    rw [show e.var=(⟨e.var,e.val⟩:Fct).var from rfl,g1,Af,g2,Af,show e.val=(⟨e.var,e.val⟩:Fct).val from rfl,g3,Af,GU hok hp h1,Af,BM (by simp;omega) (by simp;omega),Af,map_take hk]
    rfl),Af,BF,List.take_length]
  rfl
theorem QQ {a b:Eff}:a=b↔a.var=b.var∧a.val=b.val∧a.cond=b.cond:=⟨fun h=>by rw [h];exact ⟨rfl,rfl,rfl⟩,fun ⟨h1,h2,h3⟩=>by cases a;cases b;simp_all⟩
theorem QR {t:Tsk} {x:Swp} {o p:Opr} (hok:TaskOk t) (hp:FactsPerm t x) (ho:OpOk t.vars o):CW x o p=some (bof (o.cost=p.cost∧imL x o.pre=p.pre∧o.effs.map (imE x)=p.effs)):=by
  obtain ⟨_,_,hl,_,hpre,heff⟩:=ho
  unfold CW
  by_cases h1:o.cost=p.cost
  case neg=>rw [if_pos h1,Af,Bq,AQ (fun h=>h1 h.1)]
  rw [if_neg (by simpa using h1)]
  by_cases h2:o.effs.length=p.effs.length
  case neg=>rw [if_pos (by omega),Af,Bq,AQ (fun h=>h2 (by rw [← h.2.2];simp))]
  rw [if_neg (by omega),GZ hok hp hpre,Af,HF,Af]
  by_cases h3:imL x o.pre=p.pre
  case neg=>rw [AQ h3,BO,Af,Bq,AQ (fun h=>h3 h.2.1)]
  rw [Be h3,Bq,Af,BO,Gq (fun k=>(o.effs.map (imE x))[k]?=p.effs[k]?) (fun k e hk=>by
    obtain ⟨g1,g2⟩:=heff k e hk
    obtain ⟨z,hz⟩:=AR (l:=p.effs) (k:=k) (by have:=Aw hk;omega)
    have hE:(o.effs.map (imE x))[k]?=some (imE x e):=by rw [List.getElem?_map,hk];rfl
    rw [JY hp g2,Af,hz,Af,hE]
    have hex:=@QQ (imE x e) z
    by_cases k1:(imF x ⟨e.var,e.val⟩).var=z.var
    case neg=>rw [if_pos k1,Af,Bq,AQ (fun h=>k1 (hex.1 (Option.some.inj h)).1),BO]
    rw [if_neg (by simpa using k1),Af]
    by_cases k2:(imF x ⟨e.var,e.val⟩).val=z.val
    case neg=>rw [if_pos k2,Af,Bq,AQ (fun h=>k2 (hex.1 (Option.some.inj h)).2.1),BO]
    rw [if_neg (by simpa using k2),Af,GZ hok hp g1,Af,HF,Af]
    by_cases k3:imL x e.cond=z.cond
    · rw [Be k3,Bq,Af,BO,Be (by rw [hex.2 ⟨k1,k2,k3⟩]),Bq]
    · rw [AQ k3,BO,Af,Bq,AQ (fun h=>k3 (hex.1 (Option.some.inj h)).2.2),BO])]
  refine GG ⟨fun h=>⟨h1,h3,List.ext_getElem? fun k=>?_⟩,fun h=>by rw [h.2.2];exact fun _ _=>rfl⟩
  by_cases hk:k < o.effs.length
  · exact h k hk
  · rw [List.getElem?_eq_none (by simp;omega),List.getElem?_eq_none (by omega)]
def SymP (t:Tsk) (x:Swp):Prop:=FactsPerm t x∧PermR x.ops t.ops.length∧imL x t.goal=t.goal∧∀ k,k < t.ops.length→∃ (o p:Opr) (a:Int),t.ops[k]?=some o∧x.ops[k]?=some a∧atI t.ops a=some p∧o.cost=p.cost∧imL x o.pre=p.pre∧o.effs.map (imE x)=p.effs
theorem JZ {t:Tsk} {x:Swp} (hok:TaskOk t):Dy t x=some (bof (SymP t x)):=by
  unfold Dy
  rw [PB hok,Af]
  by_cases h1:FactsPerm t x
  case neg=>rw [AQ h1,BO,Af,Bq,AQ (fun h=>h1 h.1)]
  have hlo:=hok.2.1
  rw [Be h1,Bq,Ma (by omega),Af]
  by_cases h2:PermR x.ops t.ops.length
  case neg=>rw [AQ h2,BO,Af,Bq,AQ (fun h=>h2 h.2.1)]
  rw [Be h2,Bq,GU hok h1 hok.2.2.2.2.1,Af,Ff,Af]
  by_cases h3:imL x t.goal=t.goal
  case neg=>rw [AQ h3,BO,Af,Bq,AQ (fun h=>h3 h.2.2.1)]
  rw [Be h3,Bq,Af,BO,Gq (fun k=>∃ (o p:Opr) (a:Int),t.ops[k]?=some o∧x.ops[k]?=some a∧atI t.ops a=some p∧o.cost=p.cost∧imL x o.pre=p.pre∧o.effs.map (imE x)=p.effs) (fun k o hk=>by
    have:=Aw hk
    obtain ⟨a,ha⟩:=AR (l:=x.ops) (k:=k) (by rw [h2.len];omega)
    obtain ⟨ha1,ha2⟩:=h2.mem (List.mem_of_getElem? ha)
    obtain ⟨j,rfl⟩:=Int.eq_ofNat_of_zero_le ha1
    obtain ⟨p,hp⟩:=AR (l:=t.ops) (k:=j) (by omega)
    rw [ha,Af,BA,hp,Af,Mc hok h1 (hok.2.2.2.2.2 k o hk),Af,Mb,Af]
    have e:(∃ (o p:Opr) (a:Int),t.ops[k]?=some o∧some (j:Int)=some a∧atI t.ops a=some p∧o.cost=p.cost∧imL x o.pre=p.pre∧o.effs.map (imE x)=p.effs)↔((imO x o).cost=p.cost∧(imO x o).pre=p.pre∧(imO x o).effs=p.effs):=by
      constructor
      · rintro ⟨o',p',a',q1,q2,q3,q4⟩
        obtain rfl:o=o':=by rw [hk] at q1;exact Option.some.inj q1
        obtain rfl:=Option.some.inj q2
        rw [BA,hp] at q3
        obtain rfl:=Option.some.inj q3
        exact q4
      · intro h
        exact ⟨o,p,j,hk,rfl,by rw [BA,hp],h⟩
    rw [FS e])]
  exact GG ⟨fun h=>⟨h1,h2,h3,h⟩,fun h=>h.2.2.2⟩
theorem Md {t:Tsk} {x:Swp}:CO t x=some (bof (TaskOk t∧SymP t x)):=by
  unfold CO Do
  rw [Af]
  by_cases hok:TaskOk t
  case neg=>rw [if_neg (fun h=>hok (FE.1 h)),Af,AQ (fun h=>hok h.1)]
  rw [if_pos (FE.2 hok),JZ hok,Af]
  by_cases h:SymP t x
  · rw [Be h,Bq,Af,Be ⟨hok,h⟩]
  · rw [AQ h,BO,Af,AQ (fun hh=>h hh.2)]
end
section
open Go Go.RowKit
theorem demand1 {t:Tsk} {x:Swp} (hok:TaskOk t):BE t [x]=some ⟨if bof (SymP t x)=true then 0 else 2⟩:=by
  unfold BE Do
  rw [Af,if_neg (by rw [FE.2 hok];simp)]
  by_cases h:SymP t x
  · rw [HD (fun k y hy=>by
      obtain rfl:y=x:=by simpa using List.mem_of_getElem? hy
      rw [JZ hok,Af,Be h,Bq]),Af,BF,Be h,Bq]
  · have:rng (ρ:=Err) (fun (_:Nat) (a41:Swp) (_:Unit)=>bnd (Dy t a41) fun q77=>if q77=true then some (.next ()) else some (.ret (⟨2⟩:Err))) [x] 0 ()=some (.ret ⟨2⟩):=by
      simp only [rng]
      rw [JZ hok,Af,AQ h,BO]
    rw [this,Af,NJ,AQ h,BO]
def exT:Tsk:=⟨[2,2],[0,0],([]:List Fct),[(⟨(⟨#[]⟩:ByteArray),0,([]:List Fct),[(⟨([]:List Fct),0,1⟩:Eff)]⟩:Opr),(⟨(⟨#[]⟩:ByteArray),0,([]:List Fct),[(⟨([]:List Fct),1,1⟩:Eff)]⟩:Opr)]⟩
def exX:Swp:=⟨[1,0],[[0,1],[0,1]],[1,0]⟩
theorem Me:PermR [1,0] 2:=by unfold PermR rangeI;decide
theorem Mf:PermR [0,1] 2:=by unfold PermR rangeI;decide
theorem below2 {k:Nat} (h:k < 2):k=0∨k=1:=by omega
theorem Mg (vars:List Int):FactsOk vars []:=⟨fun _ _ h=>by simp at h,fun _ _ _ h=>by simp at h⟩
theorem get2 {α:Type} {a b y:α} {k:Nat} (h:[a,b][k]?=some y):y=a∨y=b:=by
  have:=List.mem_of_getElem? h
  simpa using this
theorem OE:TaskOk exT:=by
  refine ⟨by decide,by decide,fun i n h=>?_,⟨rfl,fun i v n h1 h2=>?_⟩,Mg _,fun i o h=>?_⟩
  · rcases get2 h with rfl|rfl<;>omega
  · have e1:v=0:=by rcases get2 h1 with rfl|rfl<;>rfl
    have e2:n=2:=by rcases get2 h2 with rfl|rfl<;>rfl
    omega
  · have hone:∀ (c:Int),(c=0∨c=1)→OpOk exT.vars ⟨⟨#[]⟩,0,[],[⟨[],c,1⟩]⟩:=fun c hc=>by
      refine ⟨Int.le_refl 0,(by decide:(0:Int)≤1048576),(by decide:1≤64),?_,Mg _,fun j e he=>?_⟩
      · exact ⟨(by decide:0≤256),fun i h=>absurd h (Nat.not_lt_zero _)⟩
      · have:e=⟨[],c,1⟩:=by simpa using List.mem_of_getElem? he
        subst this
        refine ⟨Mg _,by simp;omega,by simp,2,?_,by simp⟩
        rcases hc with rfl|rfl<;>rfl
    rcases get2 h with rfl|rfl
    · exact hone 0 (.inl rfl)
    · exact hone 1 (.inr rfl)
theorem QS:AY []=[]:=List.eq_nil_of_length_eq_zero (by rw [CJ];rfl)
theorem Hk (x:Swp):imL x []=[]:=QS
theorem Na:SymP exT exX:=by
  refine ⟨⟨Me,rfl,fun k hk=>?_⟩,Me,Hk _,fun k hk=>?_⟩
  · rcases below2 hk with rfl|rfl
    · exact ⟨2,1,[0,1],rfl,rfl,rfl,rfl,Mf⟩
    · exact ⟨2,0,[0,1],rfl,rfl,rfl,rfl,Mf⟩
  · rcases below2 hk with rfl|rfl
    · refine ⟨_,_,1,rfl,rfl,rfl,rfl,Hk _,?_⟩
      show [imE exX ⟨[],0,1⟩]=_
      unfold imE
      rw [Hk];rfl
    · refine ⟨_,_,0,rfl,rfl,rfl,rfl,Hk _,?_⟩
      show [imE exX ⟨[],1,1⟩]=_
      unfold imE
      rw [Hk];rfl
theorem RF:StateOk exT.vars [1,0]:=⟨rfl,fun i v n h1 h2=>by
  have e1:v=1∨v=0:=get2 h1
  have e2:n=2:=by rcases get2 h2 with rfl|rfl<;>rfl
  omega⟩
theorem PD {t:Tsk} {x:Swp} {s:List Int} (hok:TaskOk t) (hx:SymP t x) (hs:StateOk t.vars s) {r:List Int} (hr:Ez x s=some r):Dg t x s=some (r,⟨0⟩):=by
  unfold Dg Gb
  rw [demand1 hok,Af,Be hx,Bq,if_neg (by simp),Af,Be hs,Bq,hr,Af]
theorem awake51:DS=some true:=by
  unfold DS
  change (bnd (Dg exT exX [1,0]) fun q103=>bnd (bnd (CO exT exX) fun q121=>if q121=true then if q103.2.n=0 then (bnd (DE q103.1 [0,1]) fun q135=>if q135=true then some true else some false) else (some false) else some false:Option Bool) fun y117=>some y117)=_
  rw [PD OE Na RF (r:=[0,1]) rfl,Af,Md,Be ⟨OE,Na⟩,Af,Bq,if_pos rfl]
  unfold DE
  rw [Af,Be rfl,Bq,Af]
end
section
open Go Go.RowKit
abbrev Pn:=Nat×Nat
def fc (p:Pn):Fct:=⟨(p.1:Int),(p.2:Int)⟩
theorem Hl {p q:Pn} (h:fc p=fc q):p=q:=by
  obtain ⟨a,b⟩:=p
  obtain ⟨c,d⟩:=q
  unfold fc at h
  injection h with h1 h2
  have e1:a=c:=by have:(a:Int)=c:=h1;omega
  have e2:b=d:=by have:(b:Int)=d:=h2;omega
  rw [e1,e2]
def szT (t:Tsk) (v:Nat):Nat:=((t.vars[v]?).getD 0).toNat
def rowT {α:Type} (t:Tsk) (g:Nat→α):List α:=(List.range t.vars.length).map g
def gridT {α:Type} (t:Tsk) (g:Nat→Nat→α):List (List α):=rowT t fun v=>(List.range (szT t v)).map (g v)
def InP (t:Tsk) (p:Pn):Prop:=p.1 < t.vars.length∧p.2 < szT t p.1
def allP (t:Tsk):List Pn:=(List.range t.vars.length).flatMap fun v=>(List.range (szT t v)).map fun a=>(v,a)
theorem BJ {t:Tsk} {p:Pn}:p∈allP t↔InP t p:=by
  unfold allP InP
  rw [List.mem_flatMap]
  constructor
  · rintro ⟨v,hv,hp⟩
    obtain ⟨a,ha,rfl⟩:=List.mem_map.1 hp
    exact ⟨List.mem_range.1 hv,List.mem_range.1 ha⟩
  · rintro ⟨h1,h2⟩
    exact ⟨p.1,List.mem_range.2 h1,List.mem_map.2 ⟨p.2,List.mem_range.2 h2,rfl⟩⟩
theorem Fx {α β:Type} {f:α→List β}:∀ {l:List α},l.Nodup→(∀ a∈l,(f a).Nodup)→(∀ a∈l,∀ b∈l,a≠b→∀ x,x∈f a→x ∉ f b)→(l.flatMap f).Nodup
  | [],_,_,_=>by simp
  | a :: l,h1,h2,h3=>by
    rw [List.flatMap_cons,List.nodup_append]
    obtain ⟨n1,n2⟩:=List.nodup_cons.1 h1
    refine ⟨h2 a List.mem_cons_self,Fx n2 (fun b hb=>h2 b (List.mem_cons_of_mem _ hb)) fun b hb c hc=>h3 b (List.mem_cons_of_mem _ hb) c (List.mem_cons_of_mem _ hc),fun x hx y hy e=>?_⟩
    subst e
    obtain ⟨b,hb,hxb⟩:=List.mem_flatMap.1 hy
    exact h3 a List.mem_cons_self b (List.mem_cons_of_mem _ hb) (fun e=>n1 (e ▸ hb)) x hx hxb
theorem Eu {α β:Type} {f:α→β} {l:List α} (h:l.Nodup) (hf:∀ a∈l,∀ b∈l,f a=f b→a=b):(l.map f).Nodup:=by
  rw [List.nodup_iff_pairwise_ne,List.pairwise_map]
  exact (List.nodup_iff_pairwise_ne.1 h).imp_of_mem fun ha hb hne e=>hne (hf _ ha _ hb e)
theorem ET (t:Tsk):(allP t).Nodup:=by
  refine Fx List.nodup_range (fun v _=>Eu List.nodup_range fun a _ b _ e=>by injection e) fun a _ b _ hab x hx hy=>?_
  obtain ⟨_,_,rfl⟩:=List.mem_map.1 hx
  obtain ⟨_,_,e⟩:=List.mem_map.1 hy
  injection e with e _
  exact hab e.symm
section
variable {α : Type} {t : Tsk}
theorem FO {n k:Nat} (g:Nat→α) (h:k < n):atI ((List.range n).map g) (k:Int)=some (g k):=by
  rw [BA,List.getElem?_map,List.getElem?_range h];rfl
theorem OF {n k:Nat} (g:Nat→α) (y:α):((List.range n).map g).set k y=(List.range n).map fun i=>if i=k then y else g i:=by
  apply List.ext_getElem?
  intro i
  rw [List.getElem?_set,List.getElem?_map,List.getElem?_map]
  by_cases hi:i < n
  · rw [List.getElem?_range hi]
    by_cases h:k=i
    · subst h;simp [hi]
    · simp [h,Ne.symm h]
  · have h0:(List.range n)[i]?=none:=List.getElem?_eq_none (by simp;omega)
    rw [h0]
    by_cases h:k=i
    · subst h;simp [hi]
    · simp [h]
theorem EU (g:Nat→α) {v:Nat} (h:v < t.vars.length):atI (rowT t g) (v:Int)=some (g v):=FO g h
theorem DL (g:Nat→Nat→α) {v:Nat} (h:v < t.vars.length):atI (gridT t g) (v:Int)=some ((List.range (szT t v)).map (g v)):=FO (fun v=>(List.range (szT t v)).map (g v)) h
theorem GJ (g:Nat→α) (v:Nat) (y:α):(rowT t g).set v y=rowT t fun i=>if i=v then y else g i:=OF g y
theorem Dm {g g':Nat→α} (h:∀ v,v < t.vars.length→g v=g' v):rowT t g=rowT t g':=List.map_congr_left fun v hv=>h v (List.mem_range.1 hv)
theorem Fg {g g':Nat→Nat→α} (h:∀ v a,v < t.vars.length→a < szT t v→g v a=g' v a):gridT t g=gridT t g' :=
  Dm fun v hv=>List.map_congr_left fun a ha=>h v a hv (List.mem_range.1 ha)
theorem FX (g:Nat→Nat→α) (v a:Nat) (y:α):(gridT t g).set v (((List.range (szT t v)).map (g v)).set a y)=gridT t fun v' a'=>if v'=v∧a'=a then y else g v' a':=by
  unfold gridT
  rw [OF,GJ]
  refine Dm fun v' _=>?_
  by_cases h:v'=v
  · subst h
    rw [if_pos rfl]
    exact List.map_congr_left fun a' _=>by simp
  · rw [if_neg h]
    exact List.map_congr_left fun a' _=>by simp [h]
end
abbrev Zs:=List (Pn×Pn)
def Vf (zs:Zs) (v:Nat):Int:=match zs.find? (fun z=>z.1.1 == v) with|some z=>(z.2.1:Int)|none=>-1
def Wf (zs:Zs) (v a:Nat):Int:=match zs.find? (fun z=>z.1 == (v,a)) with|some z=>(z.2.2:Int)|none=>-1
def Tf (zs:Zs) (v a:Nat):Bool:=zs.any fun z=>z.2 == (v,a)
def Uf (zs:Zs) (v:Nat):Bool:=zs.any fun z=>z.2.1 == v
def swF (t:Tsk) (zs:Zs):Swp:=⟨rowT t (Vf zs),gridT t (Wf zs),[]⟩
def mkF (t:Tsk) (sg:Nat→Nat→ByteArray) (zs:Zs) (s M:Int) (fl:Bool):Fnd:=⟨t,(allP t).map fc,gridT t sg,swF t zs,gridT t (Tf zs),rowT t (Uf zs),s,M,fl⟩
theorem Ka (zs:Zs) (x y:Pn) (v:Nat):Vf (zs ++ [(x,y)]) v=if v=x.1∧Vf zs v < 0 then (y.1:Int) else Vf zs v:=by
  unfold Vf
  rw [List.find?_append]
  cases h:zs.find? (fun z=>z.1.1 == v) with
  | some z=>simp;omega
  | none =>
    by_cases hv:x.1=v
    · simp [hv]
    · have:¬ v=x.1:=fun e=>hv e.symm
      simp [hv,this]
theorem OG {zs:Zs} {x y:Pn} (hx:∀ z∈zs,z.1≠x) (v a:Nat):Wf (zs ++ [(x,y)]) v a=if v=x.1∧a=x.2 then (y.2:Int) else Wf zs v a:=by
  unfold Wf
  rw [List.find?_append]
  obtain ⟨x1,x2⟩:=x
  cases h:zs.find? (fun z=>z.1 == (v,a)) with
  | some z =>
    have h1:=List.find?_some h
    have h2:=hx z (List.mem_of_find?_eq_some h)
    have h3:z.1=(v,a):=by simpa using h1
    have:¬ (v=x1∧a=x2):=fun e=>h2 (by rw [h3,e.1,e.2])
    simp [this]
  | none =>
    by_cases hv:v=x1∧a=x2
    · obtain ⟨rfl,rfl⟩:=hv
      simp
    · have:¬ ((x1,x2):Pn)=(v,a):=fun e=>hv (by injection e with e1 e2;exact ⟨e1.symm,e2.symm⟩)
      have h2:¬ (x1=v∧x2=a):=fun e=>hv ⟨e.1.symm,e.2.symm⟩
      simp [hv,h2]
theorem OH (zs:Zs) (x y:Pn) (v a:Nat):Tf (zs ++ [(x,y)]) v a=if v=y.1∧a=y.2 then true else Tf zs v a:=by
  unfold Tf
  rw [List.any_append]
  obtain ⟨y1,y2⟩:=y
  by_cases h:v=y1∧a=y2
  · obtain ⟨rfl,rfl⟩:=h;simp
  · have:¬ (y1=v∧y2=a):=fun e=>h ⟨e.1.symm,e.2.symm⟩
    simp [h,this]
theorem Kb (zs:Zs) (x y:Pn) (v:Nat):Uf (zs ++ [(x,y)]) v=if v=y.1 then true else Uf zs v:=by
  unfold Uf
  rw [List.any_append]
  by_cases h:v=y.1
  · simp [h]
  · have:¬ y.1=v:=fun e=>h e.symm
    simp [h,this]
structure Nw (zs:Zs) (x y:Pn):Prop where
  dom:∀ z∈zs,z.1≠x
  img:∀ z∈zs,z.2≠y
  var:∀ z∈zs,z.1.1=x.1↔z.2.1=y.1
theorem Hm {zs:Zs} {v:Nat}:Vf zs v < 0↔∀ z∈zs,z.1.1≠v:=by
  unfold Vf
  cases h:zs.find? (fun z=>z.1.1 == v) with
  | some z =>
    have h1:=List.find?_some h
    refine ⟨fun h=>absurd h (by simp),fun hh=>absurd (by simpa using h1) (hh z (List.mem_of_find?_eq_some h))⟩
  | none =>
    refine ⟨fun _ z hz=>?_,fun _=>by simp⟩
    have:=List.find?_eq_none.1 h z hz
    simpa using this
theorem Hn {zs:Zs} {v:Nat} (h:¬ Vf zs v < 0):∃ z∈zs,z.1.1=v∧Vf zs v=(z.2.1:Int):=by
  unfold Vf at *
  cases hq:zs.find? (fun z=>z.1.1 == v) with
  | some z=>exact ⟨z,List.mem_of_find?_eq_some hq,by simpa using List.find?_some hq,rfl⟩
  | none=>rw [hq] at h;exact absurd (by simp) h
theorem PE {zs:Zs} {v:Nat}:Uf zs v=false↔∀ z∈zs,z.2.1≠v:=by
  unfold Uf;simp
theorem NM {zs:Zs} {p:Pn}:Tf zs p.1 p.2=false↔∀ z∈zs,z.2≠p:=by
  obtain ⟨p1,p2⟩:=p
  unfold Tf;simp [not_and]
section
variable {t : Tsk} {sg : Nat → Nat → ByteArray} {zs : Zs} {x y : Pn} {s M : Int} {fl : Bool}
theorem KT (hx:InP t x) (hy:InP t y) (h:Nw zs x y):BW (mkF t sg zs s M fl) (fc x) (fc y)=some (decide (Vf zs x.1 < 0),mkF t sg (zs ++ [(x,y)]) s M fl):=by
  unfold BW
  simp only [mkF,swF,fc]
  rw [DL _ hx.1,Af,FO _ hx.2,Af,DL _ hy.1,Af,FO _ hy.2,Af,EU _ hx.1,Af]
  have e1:((x.1:Nat):Int).toNat=x.1:=by omega
  have e2:((x.2:Nat):Int).toNat=x.2:=by omega
  have e3:((y.1:Nat):Int).toNat=y.1:=by omega
  have e4:((y.2:Nat):Int).toNat=y.2:=by omega
  rw [e1,e2,e3,e4,FX,FX]
  have hW:gridT t (fun v' a'=>if v'=x.1∧a'=x.2 then (y.2:Int) else Wf zs v' a')=gridT t (Wf (zs ++ [(x,y)])):=Fg fun v a _ _=>(OG h.dom v a).symm
  have hT:gridT t (fun v' a'=>if v'=y.1∧a'=y.2 then true else Tf zs v' a')=gridT t (Tf (zs ++ [(x,y)])):=Fg fun v a _ _=>(OH zs x y v a).symm
  rw [hW,hT]
  by_cases hv:Vf zs x.1 < 0
  · rw [if_neg (by omega),Af,EU _ hy.1,Af,GJ,GJ]
    have hV:rowT t (fun i=>if i=x.1 then (y.1:Int) else Vf zs i)=rowT t (Vf (zs ++ [(x,y)])):=Dm fun v _=>by
      rw [Ka]
      by_cases hq:v=x.1
      · subst hq;simp [hv]
      · simp [hq]
    have hU:rowT t (fun i=>if i=y.1 then true else Uf zs i)=rowT t (Uf (zs ++ [(x,y)])):=Dm fun v _=>(Kb zs x y v).symm
    rw [hV,hU,decide_eq_true hv]
  · rw [if_pos (by omega),decide_eq_false hv]
    have hV:rowT t (Vf (zs ++ [(x,y)]))=rowT t (Vf zs):=Dm fun v _=>by
      rw [Ka]
      by_cases hq:v=x.1
      · subst hq;simp [hv]
      · simp [hq]
    have hU:rowT t (Uf (zs ++ [(x,y)]))=rowT t (Uf zs):=Dm fun v _=>by
      rw [Kb]
      by_cases hq:v=y.1
      · obtain ⟨z,hz,hz1,_⟩:=Hn hv
        rw [if_pos hq,hq]
        have:=(h.var z hz).1 hz1
        unfold Uf
        exact (List.any_eq_true.2 ⟨z,hz,by simp [this]⟩).symm
      · rw [if_neg hq]
    rw [hV,hU]
theorem Kx (hx:InP t x) (hy:InP t y) (h:Nw zs x y) {b:Bool} (hb:b=decide (Vf zs x.1 < 0)):BB (mkF t sg (zs ++ [(x,y)]) s M fl) (fc x) (fc y) b=some (mkF t sg zs s M fl):=by
  unfold BB
  simp only [mkF,swF,fc]
  rw [DL _ hx.1,Af,FO _ hx.2,Af,DL _ hy.1,Af,FO _ hy.2,Af]
  have e1:((x.1:Nat):Int).toNat=x.1:=by omega
  have e2:((x.2:Nat):Int).toNat=x.2:=by omega
  have e3:((y.1:Nat):Int).toNat=y.1:=by omega
  have e4:((y.2:Nat):Int).toNat=y.2:=by omega
  rw [e1,e2,e3,e4,FX,FX]
  have hW:gridT t (fun v' a'=>if v'=x.1∧a'=x.2 then (-1:Int) else Wf (zs ++ [(x,y)]) v' a')=gridT t (Wf zs):=Fg fun v a _ _=>by
    rw [OG h.dom]
    by_cases hq:v=x.1∧a=x.2
    · obtain ⟨rfl,rfl⟩:=hq
      rw [if_pos ⟨rfl,rfl⟩]
      unfold Wf
      rw [List.find?_eq_none.2 fun z hz=>by simpa using h.dom z hz]
    · rw [if_neg hq,if_neg hq]
  have hT:gridT t (fun v' a'=>if v'=y.1∧a'=y.2 then false else Tf (zs ++ [(x,y)]) v' a')=gridT t (Tf zs):=Fg fun v a _ _=>by
    rw [OH]
    by_cases hq:v=y.1∧a=y.2
    · obtain ⟨rfl,rfl⟩:=hq
      rw [if_pos ⟨rfl,rfl⟩]
      exact (NM.2 h.img).symm
    · rw [if_neg hq,if_neg hq]
  rw [hW,hT]
  by_cases hv:Vf zs x.1 < 0
  · rw [hb,decide_eq_true hv,Bq,EU _ hx.1,Af,EU _ hy.1,Af,GJ,GJ]
    have hV:rowT t (fun i=>if i=x.1 then (-1:Int) else Vf (zs ++ [(x,y)]) i)=rowT t (Vf zs):=Dm fun v _=>by
      rw [Ka]
      by_cases hq:v=x.1
      · subst hq
        rw [if_pos rfl]
        unfold Vf
        rw [List.find?_eq_none.2 fun z hz=>by simpa using Hm.1 hv z hz]
      · simp [hq]
    have hU:rowT t (fun i=>if i=y.1 then false else Uf (zs ++ [(x,y)]) i)=rowT t (Uf zs):=Dm fun v _=>by
      rw [Kb]
      by_cases hq:v=y.1
      · subst hq
        rw [if_pos rfl]
        exact (PE.2 fun z hz e=>Hm.1 hv z hz ((h.var z hz).2 e)).symm
      · rw [if_neg hq,if_neg hq]
    rw [hV,hU]
  · rw [hb,decide_eq_false hv,BO]
    have hV:rowT t (Vf (zs ++ [(x,y)]))=rowT t (Vf zs):=Dm fun v _=>by
      rw [Ka]
      by_cases hq:v=x.1
      · subst hq;simp [hv]
      · simp [hq]
    have hU:rowT t (Uf (zs ++ [(x,y)]))=rowT t (Uf zs):=Dm fun v _=>by
      rw [Kb]
      by_cases hq:v=y.1
      · obtain ⟨z,hz,hz1,_⟩:=Hn hv
        rw [if_pos hq,hq]
        have:=(h.var z hz).1 hz1
        unfold Uf
        exact (List.any_eq_true.2 ⟨z,hz,by simp [this]⟩).symm
      · rw [if_neg hq]
    rw [hV,hU]
def fitB (t:Tsk) (sg:Nat→Nat→ByteArray) (zs:Zs) (x y:Pn):Bool :=
  if Tf zs y.1 y.2=true∨sg x.1 x.2≠sg y.1 y.2 then false
  else if 0≤Vf zs x.1 then decide (Vf zs x.1=y.1) else !Uf zs y.1 && decide (szT t x.1=szT t y.1)
theorem Dw {v:Nat} (hok:TaskOk t) (h:v < t.vars.length):t.vars[v]?=some (szT t v:Int):=by
  obtain ⟨n,hn⟩:=AR h
  have:=hok.2.2.1 v n hn
  unfold szT
  rw [hn]
  simp
  omega
theorem Nb (hok:TaskOk t) (hx:InP t x) (hy:InP t y):BV (mkF t sg zs s M fl) (fc x) (fc y)=some (fitB t sg zs x y):=by
  unfold BV
  simp only [mkF,swF,fc]
  have hvx:atI t.vars (x.1:Int)=some (szT t x.1:Int):=by rw [BA,Dw hok hx.1]
  have hvy:atI t.vars (y.1:Int)=some (szT t y.1:Int):=by rw [BA,Dw hok hy.1]
  rw [DL _ hy.1,Af,FO _ hy.2,Af,DL _ hx.1,Af,FO _ hx.2,Af,DL _ hy.1,Af,FO _ hy.2,Af,EU _ hx.1,Af,EU _ hy.1,Af,hvx,Af,hvy,Af]
  unfold fitB
  cases hT:Tf zs y.1 y.2 with
  | true=>simp [Af]
  | false =>
    by_cases hs:sg x.1 x.2=sg y.1 y.2
    · by_cases hv:0≤Vf zs x.1
      · by_cases he:Vf zs x.1=(y.1:Int)<;>simp [hs,hv,he,Af]
      · cases hU:Uf zs y.1 with
        | true=>simp [hs,hv,Af]
        | false =>
          by_cases hz:szT t x.1=szT t y.1
          · simp [hs,hv,hz,Af]
          · have:¬ ((szT t x.1:Int)=(szT t y.1:Int)):=by omega
            simp [hs,hv,hz,this,Af]
    · simp [hs,Af]
theorem QT (h:fitB t sg zs x y=true) (hd:∀ z∈zs,z.1≠x) (hv:∀ z∈zs,∀ z'∈zs,z.1.1=z'.1.1↔z.2.1=z'.2.1):Nw zs x y:=by
  unfold fitB at h
  split at h
  · cases h
  · rename_i h1
    have hT:Tf zs y.1 y.2=false:=by simpa using fun e=>h1 (.inl e)
    refine ⟨hd,NM.1 hT,fun z hz=>?_⟩
    split at h
    · rename_i h2
      obtain ⟨z',hz',e1,e2⟩:=Hn (by omega:¬ Vf zs x.1 < 0)
      have h3:Vf zs x.1=(y.1:Int):=by simpa using h
      have h4:z'.2.1=y.1:=by omega
      rw [← e1,← h4]
      exact hv z hz z' hz'
    · rename_i h2
      have h3:Uf zs y.1=false:=by
        cases hq:Uf zs y.1 with
        | true=>rw [hq] at h;simp at h
        | false=>rfl
      have h4:=Hm.1 (by omega:Vf zs x.1 < 0) z hz
      have h5:=PE.1 h3 z hz
      exact ⟨fun e=>absurd e h4,fun e=>absurd e h5⟩
end
end
section
open Go Go.RowKit
structure Gz (t:Tsk) (zs:Zs):Prop where
  dom:zs.map (·.1)=(allP t).take zs.length
  len:zs.length≤(allP t).length
  img:∀ z∈zs,InP t z.2
  inj:(zs.map (·.2)).Nodup
  var:∀ z∈zs,∀ z'∈zs,z.1.1=z'.1.1↔z.2.1=z'.2.1
  siz:∀ z∈zs,szT t z.1.1=szT t z.2.1
theorem Gz.nil (t:Tsk):Gz t []:=⟨by simp,by simp,by simp,by simp,by simp,by simp⟩
theorem Gz.fresh {t:Tsk} {zs:Zs} {x:Pn} (h:Gz t zs) (hx:(allP t)[zs.length]?=some x):∀ z∈zs,z.1≠x:=fun z hz e=>by
  have h1:z.1∈(allP t).take zs.length:=h.dom ▸ List.mem_map.2 ⟨z,hz,rfl⟩
  have h2:=ET t
  rw [← List.take_append_drop zs.length (allP t),List.nodup_append] at h2
  have h3:x∈(allP t).drop zs.length:=List.mem_of_getElem? (i:=0) (by rw [List.getElem?_drop,Nat.add_zero];exact hx)
  exact h2.2.2 _ h1 _ h3 e
theorem Gz.snoc {t:Tsk} {zs:Zs} {x y:Pn} (h:Gz t zs) (hx:(allP t)[zs.length]?=some x) (hy:InP t y) (hn:Nw zs x y) (hs:szT t x.1=szT t y.1):Gz t (zs ++ [(x,y)]):=by
  have hlt:=Aw hx
  refine ⟨?_,by simp;omega,?_,?_,?_,?_⟩
  · rw [List.map_append,h.dom,List.length_append,List.length_singleton,List.take_add_one,hx];rfl
  · intro z hz
    rcases List.mem_append.1 hz with hz|hz
    · exact h.img z hz
    · simp at hz;subst hz;exact hy
  · rw [List.map_append,List.nodup_append]
    refine ⟨h.inj,by simp,fun a ha b hb e=>?_⟩
    obtain ⟨z,hz,rfl⟩:=List.mem_map.1 ha
    simp at hb
    exact hn.img z hz (e.trans hb)
  · intro z hz z' hz'
    rcases List.mem_append.1 hz with hz|hz<;>rcases List.mem_append.1 hz' with hz'|hz'
    · exact h.var z hz z' hz'
    · simp at hz';subst hz';exact hn.var z hz
    · simp at hz;subst hz
      have:=hn.var z' hz'
      exact ⟨fun e=>((this.1 e.symm)).symm,fun e=>(this.2 e.symm).symm⟩
    · simp at hz hz';subst hz;subst hz';exact ⟨fun _=>rfl,fun _=>rfl⟩
  · intro z hz
    rcases List.mem_append.1 hz with hz|hz
    · exact h.siz z hz
    · simp at hz;subst hz;exact hs
theorem PF {t:Tsk} {sg:Nat→Nat→ByteArray} {zs:Zs} {x y:Pn} (h:fitB t sg zs x y=true) (hz:Gz t zs):szT t x.1=szT t y.1:=by
  unfold fitB at h
  split at h
  · cases h
  · split at h
    · obtain ⟨z',hz',e1,e2⟩:=Hn (by omega:¬ Vf zs x.1 < 0)
      have h3:Vf zs x.1=(y.1:Int):=by simpa using h
      have h4:z'.2.1=y.1:=by omega
      rw [← e1,← h4]
      exact hz.siz z' hz'
    · simp at h;exact h.2
theorem Gz.fit {t:Tsk} {sg:Nat→Nat→ByteArray} {zs:Zs} {x y:Pn} (h:Gz t zs) (hx:(allP t)[zs.length]?=some x) (hy:InP t y) (hf:fitB t sg zs x y=true):Nw zs x y∧Gz t (zs ++ [(x,y)]):=by
  have hn:=QT hf (h.fresh hx) h.var
  exact ⟨hn,h.snoc hx hy hn (PF hf h)⟩
abbrev Rs:=Option Swp×Nat×Bool
def noX:Swp:=⟨[],[],[]⟩
def goL (M:Nat) (fit:Pn→Bool) (sub:Pn→Nat→Rs):List Pn→Nat→Rs
  | [],s=>(none,s,false)
  | y :: r,s=>if fit y=true then (if M≤s then (none,s,true) else if (sub y (s + 1)).1.isSome=true∨(sub y (s + 1)).2.2=true then sub y (s + 1) else goL M fit sub r (sub y (s + 1)).2.1) else goL M fit sub r s
section
variable (t : Tsk) (sg : Nat → Nat → ByteArray) (leaf : Zs → Option Swp) (M : Nat)
def xAt (zs:Zs):Pn:=((allP t)[zs.length]?).getD (0,0)
def ext:Nat→Zs→Nat→Rs
  | 0,zs,s=>(leaf zs,s,false)
  | d + 1,zs,s=>goL M (fitB t sg zs (xAt t zs)) (fun y s=>ext d (zs ++ [(xAt t zs,y)]) s) (allP t) s
def stp (d:Nat) (zs:Zs) (y:Pn) (s:Nat):Rs:=if M≤s then (none,s,true) else ext t sg leaf M d (zs ++ [(xAt t zs,y)]) (s + 1)
end
section
variable {t : Tsk} {sg : Nat → Nat → ByteArray} {leaf : Zs → Option Swp} {M : Nat}
def ansR (t:Tsk) (sg:Nat→Nat→ByteArray) (M:Nat) (zs:Zs) (r:Rs):Swp×Bool×Fnd:=(r.1.getD noX,r.1.isSome,mkF t sg zs (r.2.1:Int) (M:Int) r.2.2)
def LeafOk (t:Tsk) (sg:Nat→Nat→ByteArray) (leaf:Zs→Option Swp):Prop:=∀ (me:MeT) (zs:Zs) (s M:Nat),Gz t zs→zs.length=(allP t).length→DW me (mkF t sg zs (s:Int) (M:Int) false) (zs.length:Int)=some (ansR t sg M zs (leaf zs,s,false))
theorem Ho {zs:Zs} {s M:Int} {fl:Bool} {k:Nat} {x:Pn} (hx:(allP t)[k]?=some x):atI (mkF t sg zs s M fl).list (k:Int)=some (fc x):=by
  show atI ((allP t).map fc) (k:Int)=_
  rw [BA,List.getElem?_map,hx];rfl
theorem Ep {zs:Zs} (h:zs.length < (allP t).length):(allP t)[zs.length]?=some (xAt t zs):=by
  unfold xAt
  rw [List.getElem?_eq_getElem h];rfl
theorem Mh {zs:Zs} (h:zs.length < (allP t).length):InP t (xAt t zs):=BJ.1 (List.mem_of_getElem? (Ep h))
theorem Nc (hM:M≤1048576) (hn:(allP t).length≤4096) {d d':Nat} (ih:∀ (zs:Zs) (s:Nat),Gz t zs→zs.length + d=(allP t).length→DW (mxE d') (mkF t sg zs (s:Int) (M:Int) false) (zs.length:Int)=some (ansR t sg M zs (ext t sg leaf M d zs s)))
    {zs:Zs} {y:Pn} {s:Nat} (hz:Gz t zs) (hl:zs.length + (d + 1)=(allP t).length) (hy:InP t y) (hf:fitB t sg zs (xAt t zs) y=true) :
    ER (mxE (d' + 1)) (mkF t sg zs (s:Int) (M:Int) false) (zs.length:Int) (fc y)=some (ansR t sg M zs (stp t sg leaf M d zs y s)):=by
  have hlt:zs.length < (allP t).length:=by omega
  obtain ⟨hnw,hg⟩:=hz.fit (Ep hlt) hy hf
  unfold ER stp
  by_cases hs:M≤s
  · rw [if_pos (show (mkF t sg zs (s:Int) (M:Int) false).most≤(mkF t sg zs (s:Int) (M:Int) false).steps from by show (M:Int)≤(s:Int);omega),if_pos hs]
    rfl
  · rw [if_neg (show ¬ (mkF t sg zs (s:Int) (M:Int) false).most≤(mkF t sg zs (s:Int) (M:Int) false).steps from by show ¬ (M:Int)≤(s:Int);omega),if_neg hs]
    have e1:chkI ((mkF t sg zs (s:Int) (M:Int) false).steps + 1)=some (((s + 1:Nat)):Int):=by
      show chkI ((s:Int) + 1)=_
      rw [CR (by unfold inI64;omega)];rfl
    rw [e1,Af,Ho (Ep hlt),Af]
    have e2:=KT (t:=t) (sg:=sg) (s:=((s + 1:Nat):Int)) (M:=(M:Int)) (fl:=false) (Mh hlt) hy hnw
    unfold mkF at e2
    simp only [mkF]
    simp only [swF] at e2 ⊢
    rw [e2,Af]
    rw [CR (by unfold inI64;omega),Af]
    have e3:=ih (zs ++ [(xAt t zs,y)]) (s + 1) hg (by simp;omega)
    rw [show ((zs ++ [(xAt t zs,y)]).length:Int)=(zs.length:Int) + 1 from by simp] at e3
    unfold mkF at e3
    simp only [swF] at e3
    show (bnd (DW (mxE d') _ _) _)=_
    rw [e3,Af]
    generalize ext t sg leaf M d (zs ++ [(xAt t zs,y)]) (s + 1)=r
    unfold ansR
    simp only []
    rw [Ho (Ep hlt),Af,Kx (Mh hlt) hy hnw rfl,Af]
noncomputable def extF (me:MeT) (x1:Int):Nat→Fct→Fnd→Option (Ctl Fnd (Swp×Bool×Fnd)):=fun (_:Nat) (a219:Fct) (s216:Fnd)=>bnd (atI s216.list x1) fun a251=>bnd (BV s216 a251 a219) fun q264=>if q264=true then bnd (ER me s216 x1 a219) fun q273=>bnd (if q273.2.1=true then (some (true,true)) else (some (false,q273.2.2.full)):Option (Bool×Bool)) fun y305=>if y305.2=true then (some (.ret (q273.1,y305.1,q273.2.2))) else (some (.next q273.2.2)) else some (.next s216)
def finR (t:Tsk) (sg:Nat→Nat→ByteArray) (M:Nat) (zs:Zs) (r:Rs):Fin Fnd (Swp×Bool×Fnd):=if r.1.isSome=true∨r.2.2=true then .ret (ansR t sg M zs r) else .done (mkF t sg zs (r.2.1:Int) (M:Int) false)
theorem Mi (hok:TaskOk t) {me:MeT} {zs:Zs} (hlt:zs.length < (allP t).length) {sub:Pn→Nat→Rs} (hst:∀ (y:Pn) (s:Nat),InP t y→fitB t sg zs (xAt t zs) y=true→ER me (mkF t sg zs (s:Int) (M:Int) false) (zs.length:Int) (fc y)=some (ansR t sg M zs (if M≤s then (none,s,true) else sub y (s + 1)))) :
    ∀ (l:List Pn) (k s:Nat),(∀ y∈l,InP t y)→rng (extF me (zs.length:Int)) (l.map fc) k (mkF t sg zs (s:Int) (M:Int) false)=some (finR t sg M zs (goL M (fitB t sg zs (xAt t zs)) sub l s))
  | [],k,s,_=>rfl
  | y :: l, k,s,hl=>by
    have hy:=hl y List.mem_cons_self
    have ih:=Mi hok hlt hst l (k + 1)
    rw [List.map_cons]
    unfold rng goL
    have e1:extF me (zs.length:Int) k (fc y) (mkF t sg zs (s:Int) (M:Int) false)=(if fitB t sg zs (xAt t zs) y=true then bnd (ER me (mkF t sg zs (s:Int) (M:Int) false) (zs.length:Int) (fc y)) fun q273=>bnd (if q273.2.1=true then (some (true,true)) else (some (false,q273.2.2.full)):Option (Bool×Bool)) fun y305=>if y305.2=true then (some (.ret (q273.1,y305.1,q273.2.2))) else (some (.next q273.2.2)) else some (.next (mkF t sg zs (s:Int) (M:Int) false))):=by
      unfold extF
      rw [Ho (Ep hlt),Af,Nb hok (Mh hlt) hy,Af]
    rw [e1]
    by_cases hf:fitB t sg zs (xAt t zs) y=true
    · rw [if_pos hf,if_pos hf,hst y s hy hf,Af]
      by_cases hM:M≤s
      · rw [if_pos hM,if_pos hM]
        rfl
      · rw [if_neg hM,if_neg hM]
        rcases hr:sub y (s + 1) with ⟨o,s',fl⟩
        cases o with
        | some w=>rfl
        | none =>
          cases fl with
          | true=>rfl
          | false =>
            show rng (extF me (zs.length:Int)) (l.map fc) (k + 1) (mkF t sg zs (s':Int) (M:Int) false)=some (finR t sg M zs (goL M (fitB t sg zs (xAt t zs)) sub l s'))
            exact ih s' fun q hq=>hl q (List.mem_cons_of_mem _ hq)
    · rw [if_neg hf,if_neg hf]
      exact ih s fun q hq=>hl q (List.mem_cons_of_mem _ hq)
theorem OI (hok:TaskOk t) (hL:LeafOk t sg leaf) (hM:M≤1048576) (hn:(allP t).length≤4096):∀ (d d':Nat),d≤d'→∀ (zs:Zs) (s:Nat),Gz t zs→zs.length + d=(allP t).length→DW (mxE d') (mkF t sg zs (s:Int) (M:Int) false) (zs.length:Int)=some (ansR t sg M zs (ext t sg leaf M d zs s))
  | 0,d',_,zs,s,hz,hl=>hL _ zs s M hz (by omega)
  | d + 1,0,h,_,_,_,_=>absurd h (by omega)
  | d + 1,d' + 1,h,zs,s,hz,hl=>by
    have hlt:zs.length < (allP t).length:=by omega
    have ih:=OI hok hL hM hn d d' (by omega)
    unfold DW ext
    have hll:(mkF t sg zs (s:Int) (M:Int) false).list.length=(allP t).length:=List.length_map ..
    rw [if_neg (by rw [hll];omega)]
    have hlp:=Mi (sub:=fun y s=>ext t sg leaf M d (zs ++ [(xAt t zs,y)]) s) hok hlt (fun y s hy hf=>Nc hM hn ih hz (by omega) hy hf) (allP t) 0 s fun y hy=>BJ.1 hy
    unfold extF at hlp
    show bnd (rng _ ((allP t).map fc) 0 (mkF t sg zs (s:Int) (M:Int) false)) _=_
    rw [hlp,Af]
    generalize goL M (fitB t sg zs (xAt t zs)) (fun y s=>ext t sg leaf M d (zs ++ [(xAt t zs,y)]) s) (allP t) s=r
    obtain ⟨o,s',fl⟩:=r
    unfold finR
    cases o with
    | some w=>rfl
    | none=>cases fl<;>rfl
theorem QU (hok:TaskOk t) (hL:LeafOk t sg leaf) (hM:M≤1048576) (hn:(allP t).length≤4096) {d:Nat} {zs:Zs} {y:Pn} {s:Nat} (hz:Gz t zs) (hl:zs.length + (d + 1)=(allP t).length) (hy:InP t y) (hf:fitB t sg zs (xAt t zs) y=true) :
    Cr (mkF t sg zs (s:Int) (M:Int) false) (zs.length:Int) (fc y)=some (ansR t sg M zs (stp t sg leaf M d zs y s)):=by
  have hll:(mkF t sg zs (s:Int) (M:Int) false).list.length=(allP t).length:=List.length_map ..
  unfold Cr
  rw [hll]
  exact Nc hM hn (fun zs s hz hl=>OI hok hL hM hn d _ (by omega) zs s hz hl) hz hl hy hf
end
end
section
section
variable {α σ ρ β : Type}
theorem IJ {f:σ→Option (Ctl σ ρ)} (I:σ→Prop) (B:σ→Prop) (R:ρ→Prop) (μ:σ→Nat) (h:∀ s,I s→(∃ s',f s=some (.next s')∧I s'∧μ s' < μ s)∨(∃ s',f s=some (.brk s')∧B s')∨∃ r,f s=some (.ret r)∧R r) :
    ∀ s,I s→(∃ s',lop f s=some (.done s')∧B s')∨∃ r,lop f s=some (.ret r)∧R r:=by
  have key:∀ (n:Nat) s,I s→μ s < n→(∃ s',lop f s=some (.done s')∧B s')∨∃ r,lop f s=some (.ret r)∧R r:=by
    intro n
    induction n with
    | zero=>intro s _ hn;omega
    | succ n ih =>
      intro s hI hn
      rw [Gx]
      rcases h s hI with ⟨s',h1,h2,h3⟩|⟨s',h1,h2⟩|⟨r,h1,h2⟩
      · rw [h1];exact ih s' h2 (by omega)
      · rw [h1];exact .inl ⟨s',rfl,h2⟩
      · rw [h1];exact .inr ⟨r,rfl,h2⟩
  exact fun s hI=>key (μ s + 1) s hI (by omega)
theorem OJ {f:σ→Option (Ctl σ ρ)} {s₀:σ} {k:Fin σ ρ→Option β} {P:β→Prop} (I:σ→Prop) (B:σ→Prop) (R:ρ→Prop) (μ:σ→Nat) (h0:I s₀)
    (h:∀ s,I s→(∃ s',f s=some (.next s')∧I s'∧μ s' < μ s)∨(∃ s',f s=some (.brk s')∧B s')∨∃ r,f s=some (.ret r)∧R r)
    (hb:∀ s,B s→∃ r,k (.done s)=some r∧P r) (hr:∀ q,R q→∃ r,k (.ret q)=some r∧P r):∃ r,bnd (lop f s₀) k=some r∧P r:=by
  rcases IJ I B R μ h s₀ h0 with ⟨s,h1,h2⟩|⟨q,h1,h2⟩
  · rw [h1,Af];exact hb s h2
  · rw [h1,Af];exact hr q h2
theorem Kz {f:σ→Option (Ctl σ ρ)} {s₀:σ} {k:Fin σ ρ→Option β} {r:Option β} (I:σ→Prop) (B:σ→Prop) (μ:σ→Nat) (h0:I s₀)
    (h:∀ s,I s→(∃ s',f s=some (.next s')∧I s'∧μ s' < μ s)∨(∃ s',f s=some (.brk s')∧B s')) (hb:∀ s,B s→k (.done s)=r):bnd (lop f s₀) k=r:=by
  rcases IJ I B (fun _=>False) μ (fun s hI=>(h s hI).imp id .inl) s₀ h0 with ⟨s,h1,h2⟩|⟨q,_,h2⟩
  · rw [h1,Af];exact hb s h2
  · exact h2.elim
end
end
section
open Go Go.RowKit
def imP (g:Swp) (p:Pn):Pn:=((imF g (fc p)).var.toNat,(imF g (fc p)).val.toNat)
theorem InP.ok {t:Tsk} {p:Pn} (hok:TaskOk t) (h:InP t p):FactOk t.vars (fc p):=by
  refine ⟨by simp [fc],by simp [fc],(szT t p.1:Int),?_,?_⟩
  · show t.vars[((p.1:Nat):Int).toNat]?=_
    rw [show ((p.1:Nat):Int).toNat=p.1 from by omega]
    exact Dw hok h.1
  · have:=h.2
    show ((p.2:Nat):Int) < _
    omega
theorem Mj {t:Tsk} {g:Swp} {p:Pn} (hok:TaskOk t) (hp:FactsPerm t g) (h:InP t p):∃ l,atI g.vars (p.1:Int)=some ((imP g p).1:Int)∧atI g.vals (p.1:Int)=some l∧atI l (p.2:Int)=some ((imP g p).2:Int)∧imF g (fc p)=fc (imP g p):=by
  obtain ⟨l,h1,h2,h3,h4,h5⟩:=GH hp (h.ok hok)
  have e1:((imP g p).1:Int)=(imF g (fc p)).var:=by unfold imP;simp;omega
  have e2:((imP g p).2:Int)=(imF g (fc p)).val:=by unfold imP;simp;omega
  refine ⟨l,by rw [e1];exact h1,h2,by rw [e2];exact h3,?_⟩
  unfold fc at *
  rw [e1,e2]
theorem Eq {t:Tsk} {g:Swp} {p:Pn} (hok:TaskOk t) (hp:FactsPerm t g) (h:InP t p):∃ l:List Int,g.vars[p.1]?=some ((imP g p).1:Int)∧g.vals[p.1]?=some l∧l[p.2]?=some ((imP g p).2:Int)∧PermR l (szT t p.1)∧szT t (imP g p).1=szT t p.1∧(imP g p).1 < t.vars.length:=by
  obtain ⟨l,h1,h2,h3,_⟩:=Mj hok hp h
  rw [BA] at h1 h2 h3
  obtain ⟨n,a,l',q1,q2,q3,q4,q5⟩:=hp.2.2 p.1 h.1
  rw [h1] at q2
  rw [h2] at q3
  injection q2 with q2
  injection q3 with q3
  subst q2;subst q3
  have hn:=Dw hok h.1
  rw [hn] at q1
  injection q1 with q1
  have hlt:(imP g p).1 < t.vars.length:=by
    have:=hp.1.mem (List.mem_of_getElem? h1)
    omega
  have hm:=Dw hok hlt
  rw [BA,hm] at q4
  injection q4 with q4
  have e1:szT t p.1=n:=by omega
  exact ⟨l,h1,h2,h3,by rw [e1];exact q5,by omega,hlt⟩
theorem ED {t:Tsk} {g:Swp} {p:Pn} (hok:TaskOk t) (hp:FactsPerm t g) (h:InP t p):InP t (imP g p):=by
  obtain ⟨l,_,_,h3,h4,h5,h6⟩:=Eq hok hp h
  refine ⟨h6,?_⟩
  have:=h4.mem (List.mem_of_getElem? h3)
  rw [h5]
  omega
theorem IK {t:Tsk} {g:Swp} {p q:Pn} (hok:TaskOk t) (hp:FactsPerm t g) (h:InP t p) (h':InP t q):p.1=q.1↔(imP g p).1=(imP g q).1:=by
  obtain ⟨l,h1,_⟩:=Eq hok hp h
  obtain ⟨l',h1',_⟩:=Eq hok hp h'
  constructor
  · intro e
    rw [e,h1'] at h1
    injection h1 with h1
    omega
  · intro e
    have hn:=hp.1.nodup
    rw [List.nodup_iff_pairwise_ne,List.pairwise_iff_getElem] at hn
    have l1:=Aw h1
    have l2:=Aw h1'
    rw [List.getElem?_eq_getElem l1] at h1
    rw [List.getElem?_eq_getElem l2] at h1'
    injection h1 with h1
    injection h1' with h1'
    rcases Nat.lt_trichotomy p.1 q.1 with hlt|heq|hgt
    · exact absurd (by rw [h1,h1',e]) (hn p.1 q.1 l1 l2 hlt)
    · exact heq
    · exact absurd (by rw [h1,h1',e]) (hn q.1 p.1 l2 l1 hgt)
theorem IL {t:Tsk} {g:Swp} {p q:Pn} (hok:TaskOk t) (hp:FactsPerm t g) (h:InP t p) (h':InP t q) (e:imP g p=imP g q):p=q:=by
  have hv:=(IK hok hp h h').2 (by rw [e])
  obtain ⟨l,_,h2,h3,h4,_⟩:=Eq hok hp h
  obtain ⟨l',_,h2',h3',_⟩:=Eq hok hp h'
  rw [hv,h2'] at h2
  injection h2 with h2
  subst h2
  have hn:=h4.nodup
  rw [List.nodup_iff_pairwise_ne,List.pairwise_iff_getElem] at hn
  have l1:=Aw h3
  have l2:=Aw h3'
  rw [List.getElem?_eq_getElem l1] at h3
  rw [List.getElem?_eq_getElem l2] at h3'
  injection h3 with h3
  injection h3' with h3'
  have h5:p.2=q.2:=by
    rcases Nat.lt_trichotomy p.2 q.2 with hlt|heq|hgt
    · exact absurd (by rw [h3,h3',e]) (hn p.2 q.2 l1 l2 hlt)
    · exact heq
    · exact absurd (by rw [h3,h3',e]) (hn q.2 p.2 l2 l1 hgt)
  obtain ⟨a,b⟩:=p
  obtain ⟨c,d⟩:=q
  simp at hv h5
  rw [hv,h5]
inductive Reach (gens:List Swp) (x:Pn):Pn→Prop
  | one:Reach gens x x
  | step {y:Pn} {g:Swp}:Reach gens x y→g∈gens→Reach gens x (imP g y)
section
variable {V : Type}
theorem GV (z:V):∀ (l:List (Fct×V)) (k k':Fct) (v:V),fget z (fput l k v) k'=if k=k' then v else fget z l k'
  | [],k,k',v=>by simp [fput,fget]
  | p :: r,k,k',v=>by
    by_cases h:p.1=k
    · subst h
      by_cases h2:p.1=k'<;>simp [fput,fget,h2]
    · have ih:=GV z r k k' v
      by_cases h2:p.1=k'
      · have:¬ k=k':=fun e=>h (h2.trans e.symm)
        rw [fput,if_neg h,fget,if_pos h2,fget,if_pos h2,if_neg this]
      · simp [fput,fget,h,h2,ih]
end
theorem Ew {α:Type}:∀ {l₁ l₂:List α},l₁.Nodup→(∀ x∈l₁,x∈l₂)→l₁.length≤l₂.length
  | [],_,_,_=>Nat.zero_le _
  | x :: l₁,l₂,hn,hs=>by
    obtain ⟨h1,h2⟩:=List.nodup_cons.1 hn
    obtain ⟨a,b,rfl⟩:=List.append_of_mem (hs x List.mem_cons_self)
    have:=Ew (l₂:=a ++ b) h2 fun y hy=>by
      have h3:=hs y (List.mem_cons_of_mem _ hy)
      rw [List.mem_append,List.mem_cons] at h3
      rcases h3 with h3|h3|h3
      · exact List.mem_append.2 (.inl h3)
      · exact absurd (h3 ▸ hy) h1
      · exact List.mem_append.2 (.inr h3)
    simp at this ⊢
    omega
structure OrS (t:Tsk) (gens:List Swp) (x:Pn) (l:List Fct) (m:MapF Bool) (ps:List Pn):Prop where
  list:l=ps.map fc
  nodup:ps.Nodup
  inp:∀ p∈ps,InP t p
  self:x∈ps
  map:∀ p,fget false m.l (fc p)=true↔p∈ps
  rch:∀ p∈ps,Reach gens x p
theorem OrS.len {t:Tsk} {gens:List Swp} {x:Pn} {l:List Fct} {m:MapF Bool} {ps:List Pn} (h:OrS t gens x l m ps):ps.length≤(allP t).length:=Ew h.nodup fun p hp=>BJ.2 (h.inp p hp)
theorem PG {t:Tsk} (hok:TaskOk t) {gens:List Swp} (hg:∀ g∈gens,FactsPerm t g) {x:Pn} (hx:InP t x) (hn:(allP t).length≤4096):∃ r,Dh gens (fc x)=some r∧∀ p,fget false r.l (fc p)=true↔Reach gens x p:=by
  unfold Dh
  refine OJ (I:=fun s=>∃ (ps:List Pn) (i:Nat),OrS t gens x s.1 s.2.2 ps∧s.2.1=(i:Int)∧i≤ps.length∧∀ (j:Nat) p,j < i→ps[j]?=some p→∀ g∈gens,imP g p∈ps) (B:=fun s=>∃ ps,OrS t gens x s.1 s.2.2 ps∧∀ p∈ps,∀ g∈gens,imP g p∈ps) (R:=fun _=>False) (μ:=fun s=>(allP t).length + 1 - s.2.1.toNat) ?_ ?_ ?_ ?_
  · refine ⟨[x],0,⟨rfl,by simp,by simpa using hx,by simp,fun p=>?_,by simpa using Reach.one⟩,rfl,by omega,fun j p hj=>by omega⟩
    show fget false (fput [] (fc x) true) (fc p)=true↔_
    rw [GV]
    by_cases h:fc x=fc p
    · rw [if_pos h,Hl h];simp
    · rw [if_neg h]
      have:¬ p=x:=fun e=>h (by rw [e])
      simp [fget,this]
  · rintro ⟨l,iI,m⟩ ⟨ps,i,h,e,hi,hcl⟩
    simp only at e h ⊢
    subst e
    have hpl:=h.len
    by_cases hlt:(i:Int) < (l.length:Int)
    · rw [if_pos hlt]
      left
      have hll:l.length=ps.length:=by rw [h.list,List.length_map]
      obtain ⟨p,hp⟩:=AR (l:=ps) (k:=i) (by omega)
      have hpin:=h.inp p (List.mem_of_getElem? hp)
      obtain ⟨s', h1,h2⟩:=En (ρ:=Ctl ((List Fct)×Int×(MapF Bool)) (MapF Bool)) (f:=fun (_:Nat) (a61:Swp) (s58:(List Fct)×(MapF Bool))=>bnd (atI s58.1 (i:Int)) fun a103=>bnd (atI a61.vars a103.var) fun a116=>bnd (atI s58.1 (i:Int)) fun a128=>bnd (atI a61.vals a128.var) fun a141=>bnd (atI s58.1 (i:Int)) fun a156=>bnd (atI a141 a156.val) fun a169=>if (!(fget false s58.2.l (⟨a116,a169⟩:Fct)))=true then (bnd (appI 16 s58.1 [(⟨a116,a169⟩:Fct)]) fun u196=>some (.next (u196,(⟨fput s58.2.l (⟨a116,a169⟩:Fct) true⟩:MapF Bool)))) else (some (.next (s58.1,s58.2)))) (xs:=gens) (s₀:=(l,m))
        (fun k s=>∃ qs,OrS t gens x s.1 s.2 (ps ++ qs)∧∀ (j:Nat) g,j < k→gens[j]?=some g→imP g p∈ps ++ qs) ⟨[],by simpa using h,fun j g hj=>by omega⟩ (fun k g s hgk ⟨qs,hs,hc⟩=>by
          have hgm:=List.mem_of_getElem? hgk
          have hpq:(ps ++ qs)[i]?=some p:=by rw [List.getElem?_append_left (Aw hp)];exact hp
          have hat:atI s.1 (i:Int)=some (fc p):=by rw [hs.list,BA,List.getElem?_map,hpq];rfl
          obtain ⟨l',q1,q2,q3,q4⟩:=Mj hok (hg g hgm) hpin
          rw [hat,Af,show atI g.vars (fc p).var=_ from q1,Af,Af,show atI g.vals (fc p).var=_ from q2,Af,Af,show atI l' (fc p).val=_ from q3,Af]
          have hfe:(⟨((imP g p).1:Int),((imP g p).2:Int)⟩:Fct)=fc (imP g p):=rfl
          rw [hfe]
          cases hb:fget false s.2.l (fc (imP g p)) with
          | true =>
            refine ⟨_,rfl,qs,hs,fun j g' hj hg'=>?_⟩
            by_cases hjk:j=k
            · subst hjk
              rw [hgk] at hg'
              injection hg' with hg'
              rw [← hg']
              exact (hs.map _).1 hb
            · exact hc j g' (by omega) hg'
          | false =>
            have hnot:imP g p ∉ ps ++ qs:=fun e=>by rw [(hs.map _).2 e] at hb;cases hb
            have hlen:=hs.len
            have hl1:s.1.length=(ps ++ qs).length:=by rw [hs.list,List.length_map]
            rw [BM (by simp;omega) (by simp;omega),Af]
            refine ⟨_,rfl,qs ++ [imP g p],?_,fun j g' hj hg'=>?_⟩
            · rw [← List.append_assoc]
              refine ⟨by rw [hs.list];simp,?_,?_,List.mem_append.2 (.inl hs.self),fun q=>?_,?_⟩
              · rw [List.nodup_append]
                exact ⟨hs.nodup,by simp,fun a ha b hb e=>hnot (by simp at hb;rw [← hb,← e];exact ha)⟩
              · intro q hq
                rcases List.mem_append.1 hq with hq|hq
                · exact hs.inp q hq
                · simp at hq;subst hq;exact ED hok (hg g hgm) hpin
              · show fget false (fput s.2.l (fc (imP g p)) true) (fc q)=true↔_
                rw [GV]
                by_cases hq:fc (imP g p)=fc q
                · rw [if_pos hq,Hl hq];simp
                · rw [if_neg hq,hs.map,List.mem_append]
                  have:¬ q=imP g p:=fun e=>hq (by rw [e])
                  simp [this]
              · intro q hq
                rcases List.mem_append.1 hq with hq|hq
                · exact hs.rch q hq
                · simp at hq;subst hq
                  exact .step (hs.rch p (List.mem_of_getElem? hpq)) hgm
            · rw [← List.append_assoc]
              by_cases hjk:j=k
              · subst hjk
                rw [hgk] at hg'
                injection hg' with hg'
                rw [← hg']
                simp
              · exact List.mem_append.2 (.inl (hc j g' (by omega) hg')))
      rw [h1,Af,BF,CR (by unfold inI64;omega),Af]
      obtain ⟨qs,hs,hc⟩:=h2
      refine ⟨_,rfl,⟨ps ++ qs,i + 1,hs,rfl,by rw [List.length_append];omega,fun j q hj hq g hgm=>?_⟩,?_⟩
      · by_cases hji:j=i
        · subst hji
          rw [List.getElem?_append_left (Aw hp),hp] at hq
          injection hq with hq
          subst hq
          obtain ⟨z,hz⟩:=List.getElem?_of_mem hgm
          exact hc z g (Aw hz) hz
        · rw [List.getElem?_append_left (by omega)] at hq
          exact List.mem_append.2 (.inl (hcl j q (by omega) hq g hgm))
      · simp only [Int.toNat_natCast]
        have:((i:Int) + 1).toNat=i + 1:=by omega
        rw [this]
        omega
    · rw [if_neg hlt]
      have hll:l.length=ps.length:=by rw [h.list,List.length_map]
      refine .inr (.inl ⟨_,rfl,ps,h,fun p hp g hgm=>?_⟩)
      obtain ⟨j,hj⟩:=List.getElem?_of_mem hp
      exact hcl j p (by have:=Aw hj;omega) hj g hgm
  · rintro ⟨l,iI,m⟩ ⟨ps,h,hcl⟩
    rw [BF]
    refine ⟨_,rfl,fun p=>⟨fun hp=>h.rch p ((h.map p).1 hp),fun hr=>(h.map p).2 ?_⟩⟩
    induction hr with
    | one=>exact h.self
    | step _ hgm ih=>exact hcl _ ih _ hgm
  · exact fun _ h=>h.elim
end
section
open Go Go.RowKit
def idz (t:Tsk) (k:Nat):Zs:=((allP t).take k).map fun x=>(x,x)
theorem Fm {t:Tsk} {k:Nat} (h:k≤(allP t).length):(idz t k).length=k:=by unfold idz;simp;omega
theorem Jr {t:Tsk} {k:Nat} {x:Pn} (h:(allP t)[k]?=some x):idz t (k + 1)=idz t k ++ [(x,x)]:=by
  unfold idz
  rw [List.take_add_one,h,List.map_append];rfl
theorem Hp {t:Tsk} {k:Nat} {z:Pn×Pn} (h:z∈idz t k):z.1=z.2∧z.1∈(allP t).take k:=by
  obtain ⟨x,hx,rfl⟩:=List.mem_map.1 h
  exact ⟨rfl,hx⟩
theorem IN {t:Tsk}:∀ {k:Nat},k≤(allP t).length→Gz t (idz t k)
  | 0,_=>Gz.nil t
  | k + 1,h=>by
    have hlt:k < (allP t).length:=by omega
    have hx:=List.getElem?_eq_getElem hlt
    have ih:=IN (t:=t) (k:=k) (by omega)
    have hl:=Fm (t:=t) (k:=k) (by omega)
    rw [Jr hx]
    refine ih.snoc (by rw [hl];exact hx) (BJ.1 (List.mem_of_getElem? hx)) ⟨ih.fresh (by rw [hl];exact hx),fun z hz e=>?_,fun z hz=>?_⟩ rfl
    · have:=(Hp hz).1
      exact ih.fresh (by rw [hl];exact hx) z hz (this.trans e)
    · rw [(Hp hz).1]
theorem NN {t:Tsk} {k:Nat} {x:Pn} (hx:(allP t)[k]?=some x):Nw (idz t k) x x:=by
  have hlt:=Aw hx
  have ih:=IN (t:=t) (k:=k) (by omega)
  have hl:=Fm (t:=t) (k:=k) (by omega)
  refine ⟨ih.fresh (by rw [hl];exact hx),fun z hz e=>?_,fun z hz=>?_⟩
  · exact ih.fresh (by rw [hl];exact hx) z hz ((Hp hz).1.trans e)
  · rw [(Hp hz).1]
theorem PH (t:Tsk):(allP t).Pairwise fun p q=>p.1 < q.1∨p.1=q.1∧p.2 < q.2:=by
  unfold allP
  rw [List.pairwise_flatMap]
  refine ⟨fun v _=>?_,?_⟩
  · rw [List.pairwise_map]
    exact List.pairwise_lt_range.imp fun h=>.inr ⟨rfl,h⟩
  · refine List.pairwise_lt_range.imp fun {a b} h p hp q hq=>?_
    obtain ⟨_,_,rfl⟩:=List.mem_map.1 hp
    obtain ⟨_,_,rfl⟩:=List.mem_map.1 hq
    exact .inl h
theorem OK {t:Tsk} {k:Nat} {x:Pn} (hx:(allP t)[k]?=some x):Vf (idz t k) x.1 < 0↔x.2=0:=by
  have hlt:=Aw hx
  have hge:(allP t)[k]=x:=by rw [List.getElem?_eq_getElem hlt] at hx;injection hx
  have hlex:=List.pairwise_iff_getElem.1 (PH t)
  rw [Hm]
  constructor
  · intro h
    refine Classical.byContradiction fun h0=>?_
    have hin:=BJ.1 (List.mem_of_getElem? hx)
    have hp:(x.1,x.2 - 1)∈allP t:=BJ.2 ⟨hin.1,by have:=hin.2;show x.2 - 1 < szT t x.1;omega⟩
    obtain ⟨j,hj⟩:=List.getElem?_of_mem hp
    have hjl:=Aw hj
    have hje:(allP t)[j]=(x.1,x.2 - 1):=by rw [List.getElem?_eq_getElem hjl] at hj;injection hj
    have hjk:j < k:=by
      rcases Nat.lt_trichotomy j k with h|h|h
      · exact h
      · subst h
        rw [hge] at hje
        have:=congrArg Prod.snd hje
        simp at this
        omega
      · have:=hlex k j hlt hjl h
        rw [hge,hje] at this
        have h9:¬ (x.1 < x.1∨x.1=x.1∧x.2 < x.2 - 1):=by omega
        exact absurd this h9
    exact h ((x.1,x.2 - 1),(x.1,x.2 - 1)) (List.mem_map.2 ⟨_,List.mem_of_getElem? (i:=j) (by rw [List.getElem?_take,if_pos hjk];exact hj),rfl⟩) rfl
  · intro h z hz e
    obtain ⟨_,hm⟩:=Hp hz
    obtain ⟨j,hj⟩:=List.getElem?_of_mem hm
    rw [List.getElem?_take] at hj
    split at hj
    · rename_i hjk
      have hjl:=Aw hj
      have hje:(allP t)[j]=z.1:=by rw [List.getElem?_eq_getElem hjl] at hj;injection hj
      have:=hlex j k hjl hlt hjk
      rw [hge,hje] at this
      omega
    · cases hj
section
variable (t : Tsk) (sg : Nat → Nat → ByteArray) (leaf : Zs → Option Swp) (M : Nat)
def addG (g:List Swp):Option Swp→List Swp
  | some w=>g ++ [w]
  | none=>g
noncomputable def levL (i:Nat) (x:Pn):List Pn→List Swp→Nat→List Swp×Nat×Bool
  | [],g,s=>(g,s,false)
  | y :: r,g,s=>if fitB t sg (idz t i) x y=true∧bof (Reach g x y)=false then
      (if (stp t sg leaf M ((allP t).length - i - 1) (idz t i) y s).2.2=true then (addG g (stp t sg leaf M ((allP t).length - i - 1) (idz t i) y s).1,(stp t sg leaf M ((allP t).length - i - 1) (idz t i) y s).2.1,true)
        else levL i x r (addG g (stp t sg leaf M ((allP t).length - i - 1) (idz t i) y s).1) (stp t sg leaf M ((allP t).length - i - 1) (idz t i) y s).2.1)
    else levL i x r g s
noncomputable def fndL:Nat→List Swp→Nat→List Swp×Nat×Bool
  | 0,g,s=>(g,s,false)
  | i + 1,g,s=>if (levL t sg leaf M i (((allP t)[i]?).getD (0,0)) (allP t) g s).2.2=true then ([],(levL t sg leaf M i (((allP t)[i]?).getD (0,0)) (allP t) g s).2.1,true)
    else fndL i (levL t sg leaf M i (((allP t)[i]?).getD (0,0)) (allP t) g s).1 (levL t sg leaf M i (((allP t)[i]?).getD (0,0)) (allP t) g s).2.1
end
section
variable {t : Tsk} {sg : Nat → Nat → ByteArray} {leaf : Zs → Option Swp} {M : Nat}
theorem Js {fit:Pn→Bool} {sub:Pn→Nat→Rs} (h:∀ y s,s≤(sub y s).2.1):∀ (l:List Pn) (s:Nat),s≤(goL M fit sub l s).2.1
  | [],s=>Nat.le_refl _
  | y :: l,s=>by
    unfold goL
    split
    · split
      · exact Nat.le_refl _
      · have:=h y (s + 1)
        split
        · omega
        · have:=Js (fit:=fit) h l (sub y (s + 1)).2.1
          omega
    · exact Js h l s
theorem Mk:∀ (d:Nat) (zs:Zs) (s:Nat),s≤(ext t sg leaf M d zs s).2.1
  | 0,_,_=>Nat.le_refl _
  | d + 1,zs,s=>Js (fun y s=>Mk d _ s) _ s
theorem Jt {fit:Pn→Bool} {sub:Pn→Nat→Rs} {w:Swp}:∀ (l:List Pn) (s:Nat),(goL M fit sub l s).1=some w→∃ y∈l,fit y=true∧∃ s',(sub y s').1=some w
  | [],_,h=>by cases h
  | y :: l,s,h=>by
    unfold goL at h
    split at h
    · rename_i hf
      split at h
      · cases h
      · split at h
        · exact ⟨y,List.mem_cons_self,hf,_,h⟩
        · obtain ⟨z,h1,h2⟩:=Jt l _ h
          exact ⟨z,List.mem_cons_of_mem _ h1,h2⟩
    · obtain ⟨z,h1,h2⟩:=Jt l _ h
      exact ⟨z,List.mem_cons_of_mem _ h1,h2⟩
theorem Ml {w:Swp}:∀ (d:Nat) (zs:Zs) (s:Nat),Gz t zs→zs.length + d=(allP t).length→(ext t sg leaf M d zs s).1=some w→∃ ys,Gz t (zs ++ ys)∧(zs ++ ys).length=(allP t).length∧leaf (zs ++ ys)=some w
  | 0,zs,s,hz,hl,h=>⟨[],by simpa using hz,by simpa using hl,by rw [List.append_nil];exact h⟩
  | d + 1,zs,s,hz,hl,h=>by
    have hlt:zs.length < (allP t).length:=by omega
    obtain ⟨y,hy,hf,s',h1⟩:=Jt _ _ h
    obtain ⟨_,hg⟩:=hz.fit (Ep hlt) (BJ.1 hy) hf
    obtain ⟨ys,h2,h3,h4⟩:=Ml d (zs ++ [(xAt t zs,y)]) s' hg (by simp;omega) h1
    rw [List.append_assoc] at h2 h3 h4
    exact ⟨_,h2,h3,h4⟩
theorem Mm {w:Swp} {i:Nat} {y:Pn} {s:Nat} (hi:i < (allP t).length) (hy:InP t y) (hf:fitB t sg (idz t i) (xAt t (idz t i)) y=true) (h:(stp t sg leaf M ((allP t).length - i - 1) (idz t i) y s).1=some w):∃ ys,Gz t (idz t i ++ (xAt t (idz t i),y) :: ys)∧(idz t i ++ (xAt t (idz t i),y) :: ys).length=(allP t).length∧leaf (idz t i ++ (xAt t (idz t i),y) :: ys)=some w:=by
  have hl:=Fm (t:=t) (k:=i) (by omega)
  unfold stp at h
  split at h
  · cases h
  · obtain ⟨_,hg⟩:=(IN (t:=t) (k:=i) (by omega)).fit (Ep (by omega)) hy hf
    obtain ⟨ys,h2,h3,h4⟩:=Ml _ _ _ hg (by simp [hl];omega) h
    rw [List.append_assoc] at h2 h3 h4
    exact ⟨ys,h2,h3,h4⟩
theorem FY {i:Nat} (hi:i < (allP t).length):(allP t)[i]?=some (xAt t (idz t i)):=by
  have:=Ep (t:=t) (zs:=idz t i) (by rw [Fm (by omega)];exact hi)
  rwa [Fm (by omega)] at this
def LeafP (t:Tsk) (leaf:Zs→Option Swp):Prop:=∀ zs w,Gz t zs→zs.length=(allP t).length→leaf zs=some w→FactsPerm t w
noncomputable def levF (x1:Int):Nat→Fct→(List Swp)×Fnd→Option (Ctl ((List Swp)×Fnd) ((List Swp)×Fnd)):=fun (_:Nat) (a133:Fct) (s130:(List Swp)×Fnd)=>bnd (bnd (atI s130.2.list x1) fun a173=>bnd (BV s130.2 a173 a133) fun q186=>if q186=true then bnd (atI s130.2.list x1) fun a199=>bnd (Dh s130.1 a199) fun q212=>some (fget false q212.l a133) else some true:Option Bool) fun y165=>if y165=true then (some (.next (s130.1,s130.2))) else (bnd (Cr s130.2 x1 a133) fun q229=>bnd (if q229.2.1=true then (bnd (appI 72 s130.1 [q229.1]) fun u268=>some u268) else (some s130.1):Option (List Swp)) fun y261=>if q229.2.2.full=true then (some (.brk (y261,q229.2.2))) else (some (.next (y261,q229.2.2))))
theorem GK (hok:TaskOk t) (hL:LeafOk t sg leaf) (hP:LeafP t leaf) (hM:M≤1048576) (hn:(allP t).length≤4096) {i:Nat} (hi:i < (allP t).length) :
    ∀ (l:List Pn) (k:Nat) (g:List Swp) (s:Nat),(∀ y∈l,InP t y)→(∀ w∈g,FactsPerm t w)→g.length≤s →
      (∀ w∈(levL t sg leaf M i (xAt t (idz t i)) l g s).1,FactsPerm t w)∧(levL t sg leaf M i (xAt t (idz t i)) l g s).1.length≤(levL t sg leaf M i (xAt t (idz t i)) l g s).2.1 ∧
      rng (levF (i:Int)) (l.map fc) k (g,mkF t sg (idz t i) (s:Int) (M:Int) false)=some (.done ((levL t sg leaf M i (xAt t (idz t i)) l g s).1,mkF t sg (idz t i) ((levL t sg leaf M i (xAt t (idz t i)) l g s).2.1:Int) (M:Int) (levL t sg leaf M i (xAt t (idz t i)) l g s).2.2))
  | [],k,g,s,_,hg,hs=>⟨hg,hs,rfl⟩
  | y :: l, k,g,s,hl,hg,hs=>by
    have hy:=hl y List.mem_cons_self
    have hl':∀ q∈l,InP t q:=fun q hq=>hl q (List.mem_cons_of_mem _ hq)
    have hx:=FY hi
    have hxin:InP t (xAt t (idz t i)):=BJ.1 (List.mem_of_getElem? hx)
    have hli:=Fm (t:=t) (k:=i) (by omega)
    have hz:=IN (t:=t) (k:=i) (by omega)
    obtain ⟨r,ho,hr⟩:=PG hok hg hxin hn
    have hfb:fget false r.l (fc y)=bof (Reach g (xAt t (idz t i)) y):=by
      by_cases h:Reach g (xAt t (idz t i)) y
      · rw [Be h];exact (hr y).2 h
      · rw [AQ h]
        cases hb:fget false r.l (fc y) with
        | true=>exact absurd ((hr y).1 hb) h
        | false=>rfl
    have e1:levF (i:Int) k (fc y) (g,mkF t sg (idz t i) (s:Int) (M:Int) false)=bnd (if fitB t sg (idz t i) (xAt t (idz t i)) y=true then some (bof (Reach g (xAt t (idz t i)) y)) else some true:Option Bool) fun y165=>if y165=true then (some (.next (g,mkF t sg (idz t i) (s:Int) (M:Int) false))) else (bnd (Cr (mkF t sg (idz t i) (s:Int) (M:Int) false) (i:Int) (fc y)) fun q229=>bnd (if q229.2.1=true then (bnd (appI 72 g [q229.1]) fun u268=>some u268) else (some g):Option (List Swp)) fun y261=>if q229.2.2.full=true then (some (.brk (y261,q229.2.2))) else (some (.next (y261,q229.2.2)))):=by
      unfold levF
      simp only []
      rw [Ho hx,Af,Nb hok hxin hy,Af,Af,ho,Af,hfb]
    rw [List.map_cons]
    unfold rng levL
    rw [e1]
    by_cases hf:fitB t sg (idz t i) (xAt t (idz t i)) y=true
    · rw [if_pos hf,Af]
      by_cases hR:Reach g (xAt t (idz t i)) y
      · rw [Be hR,Bq,if_neg (fun h=>by simp at h)]
        exact GK hok hL hP hM hn hi l (k + 1) g s hl' hg hs
      · rw [AQ hR,BO,if_pos ⟨hf,rfl⟩]
        have hst:=QU (d:=(allP t).length - i - 1) hok hL hM hn hz (by omega) hy (s:=s) hf
        rw [hli] at hst
        rw [hst,Af]
        have hsome:=fun w=>Mm (w:=w) (s:=s) (leaf:=leaf) (M:=M) (sg:=sg) hi hy hf
        have hmono:s≤(stp t sg leaf M ((allP t).length - i - 1) (idz t i) y s).2.1∧((stp t sg leaf M ((allP t).length - i - 1) (idz t i) y s).1.isSome=true→s + 1≤(stp t sg leaf M ((allP t).length - i - 1) (idz t i) y s).2.1∧s < M):=by
          unfold stp
          split
          · exact ⟨Nat.le_refl _,fun h=>by cases h⟩
          · have:=Mk (t:=t) (sg:=sg) (leaf:=leaf) (M:=M) ((allP t).length - i - 1) (idz t i ++ [(xAt t (idz t i),y)]) (s + 1)
            exact ⟨by omega,fun _=>⟨this,by omega⟩⟩
        generalize stp t sg leaf M ((allP t).length - i - 1) (idz t i) y s=q at hsome hmono ⊢
        obtain ⟨o,s',fl⟩:=q
        cases o with
        | none =>
          cases fl with
          | true=>exact ⟨hg,by have h0:s≤s':=hmono.1;show g.length≤s';omega,rfl⟩
          | false=>exact GK hok hL hP hM hn hi l (k + 1) g s' hl' hg (by have h0:s≤s':=hmono.1;omega)
        | some w =>
          obtain ⟨h1,h2⟩:=hmono.2 rfl
          have h1':s + 1≤s':=h1
          obtain ⟨ys,hz1,hz2,hz3⟩:=hsome w rfl
          have hg':∀ w'∈g ++ [w],FactsPerm t w':=fun w' hw'=>by
            rcases List.mem_append.1 hw' with h|h
            · exact hg w' h
            · simp at h;subst h;exact hP _ _ hz1 hz2 hz3
          have hap:appI 72 g [w]=some (g ++ [w]):=BM (by simp;omega) (by simp;omega)
          have e2:(ansR t sg M (idz t i) (some w,s',fl)).1=w:=rfl
          rw [if_pos (show (ansR t sg M (idz t i) (some w,s',fl)).2.1=true from rfl),e2,hap,Af,Af]
          cases fl with
          | true=>exact ⟨hg',by show (g ++ [w]).length≤s';simp;omega,rfl⟩
          | false=>exact GK hok hL hP hM hn hi l (k + 1) (g ++ [w]) s' hl' hg' (by simp;omega)
    · rw [if_neg hf,Af,Bq,if_neg (fun h=>hf h.1)]
      exact GK hok hL hP hM hn hi l (k + 1) g s hl' hg hs
theorem PI {zs:Zs} {s M:Int} {fl:Bool} {k:Nat} {x:Pn} (hx:(allP t)[k]?=some x):(mkF t sg zs s M fl).list[k]?=some (fc x):=by
  show ((allP t).map fc)[k]?=_
  rw [List.getElem?_map,hx];rfl
theorem NO {i:Nat} (hi:i≤(allP t).length) {s M:Int} {ρ:Type}:rngN (ρ:=ρ) (fun (k8:Nat) (s6:Fnd)=>bnd (s6.list[k8]?) fun a25=>bnd (s6.list[k8]?) fun a40=>bnd (BW s6 a25 a40) fun q51=>some (.next q51.2)) i (mkF t sg [] s M false)=some (.done (mkF t sg (idz t i) s M false)):=by
  refine KR (fun k=>mkF t sg (idz t k) s M false) rfl fun k hk=>?_
  have hx:=List.getElem?_eq_getElem (show k < (allP t).length by omega)
  have hin:InP t (allP t)[k]:=BJ.1 (List.mem_of_getElem? hx)
  rw [PI hx,Af,Af,KT hin hin (NN hx),Af,Jr hx]
theorem Mn {s M:Int} {fl:Bool} {ρ:Type}:∀ (i:Nat),i≤(allP t).length→i≤4096→lop (ρ:=ρ) (fun (s361:Int×Fnd)=>if 0≤s361.1 then (bnd (bnd (atI s361.2.list s361.1) fun a439=>if a439.val=0 then (bnd (BB s361.2 a439 a439 true) fun q465=>some q465) else (bnd (BB s361.2 a439 a439 false) fun q478=>some q478):Option Fnd) fun y379=>bnd (chkI (s361.1 - 1)) fun n490=>some (.next (n490,y379))) else (some (.brk (s361.1,s361.2)))) ((i:Int) - 1,mkF t sg (idz t i) s M fl)=some (.done (-1,mkF t sg [] s M fl))
  | 0,_,_=>by
    rw [Gx]
    rfl
  | i + 1,hi,hb=>by
    have ih:=Mn (s:=s) (M:=M) (fl:=fl) (ρ:=ρ) i (by omega) (by omega)
    have hx:=List.getElem?_eq_getElem (show i < (allP t).length by omega)
    have hin:InP t (allP t)[i]:=BJ.1 (List.mem_of_getElem? hx)
    rw [Gx]
    have e0:(((i + 1:Nat):Int) - 1)=(i:Int):=by omega
    simp only [e0]
    have e1:(bnd (atI (mkF t sg (idz t (i + 1)) s M fl).list (i:Int)) fun a439=>if a439.val=0 then (bnd (BB (mkF t sg (idz t (i + 1)) s M fl) a439 a439 true) fun q465=>some q465) else (bnd (BB (mkF t sg (idz t (i + 1)) s M fl) a439 a439 false) fun q478=>some q478):Option Fnd)=some (mkF t sg (idz t i) s M fl):=by
      rw [Ho hx,Af,Jr hx]
      have hfi:=OK hx
      by_cases h0:((allP t)[i]).2=0
      · rw [if_pos (show (fc (allP t)[i]).val=0 by show ((((allP t)[i]).2:Nat):Int)=0;omega),Kx hin hin (NN hx) (by rw [decide_eq_true (hfi.2 h0)]),Af]
      · rw [if_neg (show ¬ (fc (allP t)[i]).val=0 by show ¬ ((((allP t)[i]).2:Nat):Int)=0;omega),Kx hin hin (NN hx) (by rw [decide_eq_false (fun h=>h0 (hfi.1 h))]),Af]
    rw [e1,Af,if_pos (by omega),CR (by unfold inI64;omega),Af]
    exact ih
theorem PJ (hok:TaskOk t) (hL:LeafOk t sg leaf) (hP:LeafP t leaf) (hM:M≤1048576) (hn:(allP t).length≤4096) {i:Nat} (hi:i < (allP t).length) {g:List Swp} {s:Nat} (hg:∀ w∈g,FactsPerm t w) (hs:g.length≤s) :
    (∀ w∈(levL t sg leaf M i (xAt t (idz t i)) (allP t) g s).1,FactsPerm t w)∧(levL t sg leaf M i (xAt t (idz t i)) (allP t) g s).1.length≤(levL t sg leaf M i (xAt t (idz t i)) (allP t) g s).2.1 ∧
    Cj (mkF t sg [] (s:Int) (M:Int) false) (i:Int) g=some ((levL t sg leaf M i (xAt t (idz t i)) (allP t) g s).1,mkF t sg [] ((levL t sg leaf M i (xAt t (idz t i)) (allP t) g s).2.1:Int) (M:Int) (levL t sg leaf M i (xAt t (idz t i)) (allP t) g s).2.2):=by
  obtain ⟨h1,h2,h3⟩:=GK hok hL hP hM hn hi (allP t) 0 g s (fun y hy=>BJ.1 hy) hg hs
  refine ⟨h1,h2,?_⟩
  unfold Cj
  rw [MT,Af,NO (by omega),Af,BF]
  unfold levF at h3
  show bnd (rng _ ((allP t).map fc) 0 (g,mkF t sg (idz t i) (s:Int) (M:Int) false)) _=_
  rw [h3,Af,BF,CR (by unfold inI64;omega),Af,Mn i (by omega) (by omega),Af,BF]
theorem KU (hok:TaskOk t) (hL:LeafOk t sg leaf) (hP:LeafP t leaf) (hM:M≤1048576) (hn:(allP t).length≤4096):∀ (i:Nat),i≤(allP t).length→∀ (g:List Swp) (s:Nat),(∀ w∈g,FactsPerm t w)→g.length≤s →
    (bnd (lop (ρ:=(List Swp)×Err) (fun (s112:(List Swp)×Int×Fnd)=>if 0≤s112.2.1 then (bnd (Cj s112.2.2 s112.2.1 s112.1) fun q134=>if q134.2.full=true then (some (.ret (([]:List Swp),(⟨10⟩:Err)))) else (bnd (chkI (s112.2.1 - 1)) fun n202=>some (.next (q134.1,n202,q134.2)))) else (some (.brk (s112.1,s112.2.1,s112.2.2)))) (g,(i:Int) - 1,mkF t sg [] (s:Int) (M:Int) false)) fun res110=>fin res110 fun (s214:(List Swp)×Int×Fnd)=>some (s214.1,(⟨0⟩:Err)))=some ((fndL t sg leaf M i g s).1,⟨if (fndL t sg leaf M i g s).2.2=true then 10 else 0⟩)
  | 0,_,g,s,_,_=>by
    rw [Gx]
    rfl
  | i + 1,hi,g,s,hg,hs=>by
    have hii:i < (allP t).length:=by omega
    obtain ⟨h1,h2,h3⟩:=PJ (M:=M) hok hL hP hM hn hii hg hs
    have hxe:((allP t)[i]?).getD (0,0)=xAt t (idz t i):=by rw [FY hii];rfl
    rw [Gx]
    have e0:(((i + 1:Nat):Int) - 1)=(i:Int):=by omega
    simp only [e0]
    rw [if_pos (by omega),h3,Af]
    unfold fndL
    rw [hxe]
    cases hfl:(levL t sg leaf M i (xAt t (idz t i)) (allP t) g s).2.2 with
    | true=>rfl
    | false =>
      have ih:=KU hok hL hP hM hn i (by omega) _ _ h1 h2
      rw [if_neg (show ¬ (mkF t sg [] ((levL t sg leaf M i (xAt t (idz t i)) (allP t) g s).2.1:Int) (M:Int) false).full=true by simp [mkF]),CR (by unfold inI64;omega),Af,if_neg (by simp)]
      exact ih
theorem NP {t:Tsk} (hok:TaskOk t):BE t []=some ⟨0⟩:=by
  unfold BE Do
  rw [Af,if_neg (by rw [FE.2 hok];simp)]
  rfl
theorem QV (hok:TaskOk t) (hL:LeafOk t sg leaf) (hP:LeafP t leaf) (hn:(allP t).length≤4096) {steps:Int} {M:Nat} (hM:max 0 (min steps 1048576)=(M:Int)) (hnew:Cn t (M:Int)=some (some (mkF t sg [] 0 (M:Int) false))) :
    CH t steps=some ((fndL t sg leaf M (allP t).length [] 0).1,⟨if (fndL t sg leaf M (allP t).length [] 0).2.2=true then 10 else 0⟩):=by
  unfold CH
  rw [NP hok,Af,if_neg (by simp),hM,hnew,Af,Af]
  have hll:(mkF t sg [] 0 (M:Int) false).list.length=(allP t).length:=List.length_map ..
  rw [hll,CR (by unfold inI64;omega),Af]
  have:=KU (M:=M) (leaf:=leaf) (sg:=sg) hok hL hP (by omega) hn (allP t).length (Nat.le_refl _) [] 0 (by simp) (by simp)
  exact this
end
end
section
open Go Go.RowKit
section
variable {t : Tsk} {zs : Zs}
theorem NQ (h:Gz t zs) {z:Pn×Pn} (hz:z∈zs):Vf zs z.1.1=(z.2.1:Int):=by
  have h1:¬ Vf zs z.1.1 < 0:=fun e=>Hm.1 e z hz rfl
  obtain ⟨z',hz',e1,e2⟩:=Hn h1
  rw [e2,(h.var z' hz' z hz).1 e1]
theorem Gz.uniq (h:Gz t zs) {z z':Pn×Pn} (hz:z∈zs) (hz':z'∈zs) (e:z.1=z'.1):z=z':=by
  have hn:(zs.map (·.1)).Nodup:=by
    rw [h.dom]
    have:=ET t
    rw [← List.take_append_drop zs.length (allP t),List.nodup_append] at this
    exact this.1
  rw [List.nodup_iff_pairwise_ne,List.pairwise_map,List.pairwise_iff_getElem] at hn
  obtain ⟨i,hi⟩:=List.getElem?_of_mem hz
  obtain ⟨j,hj⟩:=List.getElem?_of_mem hz'
  have li:=Aw hi
  have lj:=Aw hj
  rw [List.getElem?_eq_getElem li] at hi
  rw [List.getElem?_eq_getElem lj] at hj
  injection hi with hi
  injection hj with hj
  rcases Nat.lt_trichotomy i j with h1|h1|h1
  · exact absurd (by rw [hi,hj,e]) (hn i j li lj h1)
  · subst h1;rw [← hi,← hj]
  · exact absurd (by rw [hi,hj,e]) (hn j i lj li h1)
theorem Gz.uniq2 (h:Gz t zs) {z z':Pn×Pn} (hz:z∈zs) (hz':z'∈zs) (e:z.2=z'.2):z=z':=by
  have hn:=h.inj
  rw [List.nodup_iff_pairwise_ne,List.pairwise_map,List.pairwise_iff_getElem] at hn
  obtain ⟨i,hi⟩:=List.getElem?_of_mem hz
  obtain ⟨j,hj⟩:=List.getElem?_of_mem hz'
  have li:=Aw hi
  have lj:=Aw hj
  rw [List.getElem?_eq_getElem li] at hi
  rw [List.getElem?_eq_getElem lj] at hj
  injection hi with hi
  injection hj with hj
  rcases Nat.lt_trichotomy i j with h1|h1|h1
  · exact absurd (by rw [hi,hj,e]) (hn i j li lj h1)
  · subst h1;rw [← hi,← hj]
  · exact absurd (by rw [hi,hj,e]) (hn j i lj li h1)
theorem Kc (h:Gz t zs) {z:Pn×Pn} (hz:z∈zs):Wf zs z.1.1 z.1.2=(z.2.2:Int):=by
  unfold Wf
  cases hq:zs.find? (fun q=>q.1 == (z.1.1,z.1.2)) with
  | some q =>
    have h1:q.1=z.1:=by simpa using List.find?_some hq
    rw [h.uniq (List.mem_of_find?_eq_some hq) hz h1]
  | none =>
    have:=List.find?_eq_none.1 hq z hz
    simp at this
theorem Gz.full (h:Gz t zs) (hl:zs.length=(allP t).length) {p:Pn} (hp:InP t p):∃ q,(p,q)∈zs:=by
  have h1:p∈zs.map (·.1):=by rw [h.dom,hl,List.take_length];exact BJ.2 hp
  obtain ⟨z,hz,e⟩:=List.mem_map.1 h1
  exact ⟨z.2,by rw [← e];exact hz⟩
theorem Gz.inp (h:Gz t zs) {z:Pn×Pn} (hz:z∈zs):InP t z.1:=by
  have h1:z.1∈zs.map (·.1):=List.mem_map.2 ⟨z,hz,rfl⟩
  rw [h.dom] at h1
  exact BJ.1 (List.mem_of_mem_take h1)
theorem FG {v:Nat} (hok:TaskOk t) (h:v < t.vars.length):0 < szT t v∧szT t v≤64:=by
  have h1:=hok.2.2.1 v _ (Dw hok h)
  omega
theorem HH (hok:TaskOk t) (h:Gz t zs) (hl:zs.length=(allP t).length):FactsPerm t (swF t zs):=by
  have hv:∀ v,v < t.vars.length→∃ z∈zs,z.1.1=v∧Vf zs v=(z.2.1:Int):=fun v hv=>by
    obtain ⟨q,hq⟩:=h.full hl (p:=(v,0)) ⟨hv,(FG hok hv).1⟩
    exact ⟨_,hq,rfl,NQ h hq⟩
  refine ⟨GF ?_ ?_ ?_,?_,fun k hk=>?_⟩
  · refine Eu List.nodup_range fun a ha b hb e=>?_
    obtain ⟨z,hz,e1,e2⟩:=hv a (List.mem_range.1 ha)
    obtain ⟨z',hz',e1',e2'⟩:=hv b (List.mem_range.1 hb)
    rw [← e1,← e1']
    exact (h.var z hz z' hz').2 (by rw [e2,e2'] at e;omega)
  · intro x hx
    obtain ⟨v,hv1,rfl⟩:=List.mem_map.1 hx
    obtain ⟨z,hz,e1,e2⟩:=hv v (List.mem_range.1 hv1)
    have:=(h.img z hz).1
    rw [e2]
    omega
  · show (rowT t (Vf zs)).length=_
    simp [rowT]
  · show (gridT t (Wf zs)).length=_
    simp [gridT,rowT]
  · obtain ⟨z,hz,e1,e2⟩:=hv k hk
    have hzi:=h.img z hz
    refine ⟨szT t k,Vf zs k,(List.range (szT t k)).map (Wf zs k),Dw hok hk,?_,?_,?_,GF ?_ ?_ ?_⟩
    · have:=EU (t:=t) (Vf zs) hk
      rwa [BA] at this
    · have:=DL (t:=t) (Wf zs) hk
      rwa [BA] at this
    · rw [e2,BA,Dw hok hzi.1,← h.siz z hz,e1]
    · refine Eu List.nodup_range fun a ha b hb e=>?_
      obtain ⟨q,hq⟩:=h.full hl (p:=(k,a)) ⟨hk,List.mem_range.1 ha⟩
      obtain ⟨q',hq'⟩:=h.full hl (p:=(k,b)) ⟨hk,List.mem_range.1 hb⟩
      have w1:=Kc h hq
      have w2:=Kc h hq'
      have hvv:=(h.var _ hq _ hq').1 rfl
      simp only at w1 w2 hvv
      rw [w1,w2] at e
      have:q=q':=by
        obtain ⟨a1,a2⟩:=q
        obtain ⟨b1,b2⟩:=q'
        have e1:a1=b1:=hvv
        have e2:a2=b2:=by have:(a2:Int)=(b2:Int):=e;omega
        rw [e1,e2]
      have:=h.uniq2 hq hq' this
      injection this with this _
      injection this
    · intro x hx
      obtain ⟨a,ha,rfl⟩:=List.mem_map.1 hx
      obtain ⟨q,hq⟩:=h.full hl (p:=(k,a)) ⟨hk,List.mem_range.1 ha⟩
      have w1:=Kc h hq
      have h2:=(h.img _ hq).2
      have h3:=h.siz _ hq
      simp only at w1 h2 h3
      rw [w1]
      rw [← h3] at h2
      omega
    · simp
theorem QW (hok:TaskOk t) (h:Gz t zs) (hl:zs.length=(allP t).length) {z:Pn×Pn} (hz:z∈zs):imP (swF t zs) z.1=z.2:=by
  obtain ⟨l,h1,h2,h3,_⟩:=Eq hok (HH hok h hl) (h.inp hz)
  have hin:=h.inp hz
  have e1:=EU (t:=t) (Vf zs) hin.1
  have e2:=DL (t:=t) (Wf zs) hin.1
  rw [BA] at e1 e2
  have e3:(swF t zs).vars[z.1.1]?=some (Vf zs z.1.1):=e1
  have e4:(swF t zs).vals[z.1.1]?=some ((List.range (szT t z.1.1)).map (Wf zs z.1.1)):=e2
  rw [h1] at e3
  rw [h2] at e4
  injection e3 with e3
  injection e4 with e4
  subst e4
  rw [List.getElem?_map,List.getElem?_range hin.2] at h3
  injection h3 with h3
  rw [NQ h hz] at e3
  rw [Kc h hz] at h3
  have e5:(imP (swF t zs) z.1).1=z.2.1:=by omega
  have e6:(imP (swF t zs) z.1).2=z.2.2:=by omega
  exact Prod.ext e5 e6
end
def Mt (x:Swp) (o p:Opr):Prop:=o.cost=p.cost∧imL x o.pre=p.pre∧o.effs.map (imE x)=p.effs
noncomputable def fstM (x:Swp) (o:Opr):List Opr→List Bool→Nat→Option Nat
  | p :: ps,b :: bs,k=>if b=false∧bof (Mt x o p)=true then some k else fstM x o ps bs (k + 1)
  | _,_,_=>none
noncomputable def opsL (x:Swp) (all:List Opr):List Opr→List Bool→List Int→Option (List Int)
  | [],_,acc=>some acc
  | o :: os,tk,acc=>match fstM x o all tk 0 with
    | none=>none
    | some k=>opsL x all os (tk.set k true) (acc ++ [(k:Int)])
noncomputable def opsC (t:Tsk) (x:Swp):Option (List Int):=opsL x t.ops t.ops (List.replicate t.ops.length false) []
theorem KA {x:Swp} {o:Opr}:∀ (ps:List Opr) (bs:List Bool) (k j:Nat),fstM x o ps bs k=some j→k≤j∧j < k + bs.length∧j < k + ps.length
  | [],bs,k,j,h=>by simp [fstM] at h
  | p :: ps,[],k,j,h=>by simp [fstM] at h
  | p :: ps,b :: bs,k,j,h=>by
    unfold fstM at h
    split at h
    · injection h with h;subst h;simp
    · have:=KA ps bs (k + 1) j h
      simp
      omega
theorem Mo {x:Swp} {o:Opr} {q:Opr} {ρ:Type} (hq:∀ p,Cm q p=some (bof (Mt x o p))):∀ (ps:List Opr) (tk:List Bool) (k:Nat),tk.length=k + ps.length →
    rng (ρ:=ρ) (fun (k318:Nat) (a319:Opr) (s316:Int)=>bnd (bnd (tk[k318]?) fun a359=>if (!a359)=true then (bnd (Cm q a319) fun q369=>if q369=true then some true else some false) else (some false):Option Bool) fun y355=>if y355=true then (some (.brk (k318:Int))) else (some (.next s316))) ps k (-1)=some (.done (match fstM x o ps (tk.drop k) k with|some j=>(j:Int)|none=>-1))
  | [],tk,k,hl=>by
    have:tk.drop k=[]:=List.drop_of_length_le (by simp at hl;omega)
    rw [this]
    rfl
  | p :: ps,tk,k,hl=>by
    have hk:k < tk.length:=by simp at hl;omega
    have ih:=Mo (ρ:=ρ) hq ps tk (k + 1) (by simp at hl;omega)
    rw [List.drop_eq_getElem_cons hk]
    unfold rng fstM
    rw [List.getElem?_eq_getElem hk,Af,hq p]
    cases hb:tk[k] with
    | true=>exact ih
    | false =>
      by_cases hm:Mt x o p
      · rw [Be hm]
        simp [Af]
      · rw [AQ hm]
        exact ih
section
variable {t : Tsk}
theorem Mp (hok:TaskOk t) {f:Fnd} (hf:f.t=t) (hp:FactsPerm t f.x):Ci f=some (match opsC t f.x with|some l=>(l,true)|none=>([],false)):=by
  have hol:=hok.2.1
  unfold Ci
  rw [hf,Fv (by omega) (by omega),Af]
  have key2:∀ (os:List Opr) (k:Nat) (tk:List Bool) (acc:List Int),tk.length=t.ops.length→acc.length + os.length≤t.ops.length→(∀ o∈os,OpOk t.vars o) →
      (bnd (rng (ρ:=(List Int)×Bool) (fun (k83:Nat) (a84:Opr) (s81:(List Int)×(List Bool))=>bnd (CN f.x a84) fun q181=>bnd (some (q181.pre,q181.effs):Option ((List Fct)×(List Eff))) fun y183=>bnd (rng (ρ:=Ctl ((List Int)×(List Bool)) ((List Int)×Bool)) (fun (k318:Nat) (a319:Opr) (s316:Int)=>bnd (bnd (s81.2[k318]?) fun a359=>if (!a359)=true then (bnd (Cm (⟨q181.name,q181.cost,y183.1,y183.2⟩:Opr) a319) fun q369=>if q369=true then some true else some false) else (some false):Option Bool) fun y355=>if y355=true then (some (.brk (k318:Int))) else (some (.next s316))) t.ops 0 (-1)) fun res314=>fin res314 fun (s385:Int)=>if s385 < 0 then (some (.ret (([]:List Int),false))) else (bnd (atI s81.2 s385) fun a388=>bnd (appI 8 s81.1 [s385]) fun u401=>some (.next (u401,(s81.2.set (s385:Int).toNat true))))) os k (acc,tk)) fun res79=>fin res79 fun (s417:(List Int)×(List Bool))=>some (s417.1,true))
        = some (match opsL f.x t.ops os tk acc with|some l=>(l,true)|none=>([],false)):=by
    intro os
    induction os with
    | nil=>intro k tk acc _ _ _;rfl
    | cons o os ih =>
      intro k tk acc htk hacc hos
      have ho:=hos o List.mem_cons_self
      have hloop:=Mo (ρ:=Ctl ((List Int)×(List Bool)) ((List Int)×Bool)) (x:=f.x) (o:=o) (q:=(⟨(imO f.x o).name,(imO f.x o).cost,(imO f.x o).pre,(imO f.x o).effs⟩:Opr)) (fun p=>by rw [Mb];rfl) t.ops tk 0 (by omega)
      unfold rng opsL
      rw [Mc hok hp ho,Af,Af]
      simp only []
      rw [hloop,Af,BF,List.drop_zero]
      cases hj:fstM f.x o t.ops tk 0 with
      | none =>
        simp only []
        rw [if_pos (by decide),Af]
        rfl
      | some j =>
        simp only []
        have hjl:=KA t.ops tk 0 j hj
        have hat:atI tk (j:Int)=some tk[j]:=by rw [BA,List.getElem?_eq_getElem (by omega)]
        rw [if_neg (by omega),hat,Af,BM (by simp at hacc ⊢;omega) (by simp at hacc ⊢;omega),Af]
        have e1:((j:Nat):Int).toNat=j:=by omega
        simp only [e1]
        exact ih (k + 1) (tk.set j true) (acc ++ [(j:Int)]) (by simpa using htk) (by simp at hacc ⊢;omega) (fun q hq=>hos q (List.mem_cons_of_mem _ hq))
  exact key2 t.ops 0 (List.replicate t.ops.length false) [] (by simp) (by simp) (fun o ho=>by
    obtain ⟨i,hi⟩:=List.getElem?_of_mem ho
    exact hok.2.2.2.2.2 i o hi)
theorem OL {f:Fnd} {l:List Int} (h1:f.x.vars.length≤1000000) (h2:f.x.vals.length≤1000000) (h3:∀ r∈f.x.vals,r.length≤1000000):Cx f l=some (⟨f.x.vars,f.x.vals,l⟩:Swp):=by
  unfold Cx
  rw [show CB f.x.vars=some f.x.vars from if_pos ⟨by omega,by omega⟩,Af]
  rw [CQ (s₀:=([]:List (List Int))) (fun k=>f.x.vals.take k) rfl fun k x hx=>?_,Af,BF,List.take_length]
  have hk:=Aw hx
  have hxl:=h3 x (List.mem_of_getElem? hx)
  rw [show CB x=some x from if_pos ⟨by omega,by omega⟩,Af,BM (by simp;omega) (by simp;omega),Af,List.take_add_one,hx]
  rfl
noncomputable def leafC (t:Tsk) (zs:Zs):Option Swp:=match opsC t (swF t zs) with
  | some l=>if bof (imL (swF t zs) t.goal=t.goal)=true then some ⟨(swF t zs).vars,(swF t zs).vals,l⟩ else none
  | none=>none
theorem PK (hok:TaskOk t) (sg:Nat→Nat→ByteArray):LeafOk t sg (leafC t):=fun me zs s M hz hl=>by
  have hp:=HH hok hz hl
  have hll:(mkF t sg zs (s:Int) (M:Int) false).list.length=(allP t).length:=List.length_map ..
  unfold DW
  rw [if_pos (by rw [hll,hl]),Mp hok (f:=mkF t sg zs (s:Int) (M:Int) false) rfl hp,Af]
  have hx:(mkF t sg zs (s:Int) (M:Int) false).x=swF t zs:=rfl
  rw [hx]
  unfold leafC
  cases hop:opsC t (swF t zs) with
  | none=>rfl
  | some l =>
    have hg:BX (swF t zs) t.goal=some (imL (swF t zs) t.goal):=GU hok hp hok.2.2.2.2.1
    have hg':BX (swF t zs) (mkF t sg zs (s:Int) (M:Int) false).t.goal=some (imL (swF t zs) t.goal):=hg
    simp only [Bool.not_true,Bool.false_eq_true,if_false]
    rw [hg',Af,show (mkF t sg zs (s:Int) (M:Int) false).t.goal=t.goal from rfl,Ff,Af]
    by_cases h:imL (swF t zs) t.goal=t.goal
    · have hv:=hok.1
      have hc:=OL (f:=mkF t sg zs (s:Int) (M:Int) false) (l:=l) (by rw [hx,hp.1.len];omega) (by rw [hx,hp.2.1];omega) (fun r hr=>by
        rw [hx] at hr
        obtain ⟨v,hv,rfl⟩:=List.mem_map.1 hr
        have:=(FG hok (List.mem_range.1 hv)).2
        simp
        omega)
      rw [Be h,Bq,Af,if_neg (by simp),hc,Af]
      rfl
    · rw [AQ h,BO,Af,Bq]
      rfl
theorem NT (hok:TaskOk t):LeafP t (leafC t):=fun zs w hz hl h=>by
  have hp:=HH hok hz hl
  unfold leafC at h
  split at h
  · split at h
    · injection h with h
      rw [← h]
      exact hp
    · cases h
  · cases h
end
end
section
open Go Go.RowKit
theorem Nd {α:Type} (n:Nat) (z:α):List.replicate n z=(List.range n).map fun _=>z:=by
  apply List.ext_getElem?
  intro i
  rw [List.getElem?_replicate,List.getElem?_map]
  by_cases h:i < n
  · rw [if_pos h,List.getElem?_range h];rfl
  · rw [if_neg h,List.getElem?_eq_none (by simp;omega)];rfl
theorem QX:((List.range 65).all fun n=>decide (BitVec.ofNat 64 ((BitVec.ofInt 64 (1:Int)).toNat * (BitVec.ofInt 64 (n:Int)).toNat / 18446744073709551616)=BitVec.ofNat 64 0) && decide ((BitVec.ofNat 64 ((BitVec.ofInt 64 (1:Int)).toNat * (BitVec.ofInt 64 (n:Int)).toNat % 18446744073709551616)).toInt=(n:Int)) && decide ((BitVec.ofNat 64 ((BitVec.ofInt 64 (1:Int)).toNat * (BitVec.ofInt 64 (n:Int)).toNat % 18446744073709551616)).toNat=n))=true:=by decide +kernel
theorem PL {a:Int} {n k:Nat} (h0:0 < k) (h1:k < n) (h2:n≤64):cpyR (List.replicate k a ++ List.replicate (n - k) 0) (k:Int)=some (List.replicate (k + min k (n - k)) a ++ List.replicate (n - (k + min k (n - k))) 0,((min k (n - k):Nat):Int)):=by
  unfold cpyR
  have hlen:(List.replicate k a ++ List.replicate (n - k) (0:Int)).length=n:=by simp;omega
  rw [if_pos ⟨by omega,by rw [hlen];omega,by rw [hlen];omega⟩,hlen]
  have e1:((k:Nat):Int).toNat=k:=by omega
  rw [e1]
  have e2:(List.replicate k a ++ List.replicate (n - k) (0:Int)).take k=List.replicate k a:=by rw [List.take_append_of_le_length (by simp),List.take_of_length_le (by simp)]
  rw [e2,List.take_replicate]
  have e3:min (n - k) k=min k (n - k):=Nat.min_comm _ _
  rw [e3,List.length_replicate]
  congr 2
  rw [List.drop_append,List.length_replicate,List.drop_of_length_le (by simp),List.nil_append,List.drop_replicate,← List.append_assoc,List.replicate_append_replicate]
  congr 2
  omega
theorem OM {a:Int} {n:Nat} (h0:0 < n) (h:n≤64):Cy [a] (n:Int)=some (List.replicate n a):=by
  unfold Cy Fw
  have hall:=List.all_eq_true.1 QX n (List.mem_range.2 (by omega))
  simp only [Bool.and_eq_true,decide_eq_true_eq] at hall
  obtain ⟨⟨q1,q2⟩,q3⟩:=hall
  rw [if_neg (by omega),Af]
  have e0:([a]:List Int).length=1:=rfl
  simp only [e0]
  have e1:((1:Nat):Int)=1:=rfl
  simp only [e1,q1,q2,q3]
  have c1:¬ ((0:U64).toNat:Int) < ((BitVec.ofNat 64 0).toNat:Int):=by decide
  have c2:¬ ((9223372036854775807:U64).toNat:Int) < ((n:Nat):Int):=by
    have:((9223372036854775807:U64).toNat)=9223372036854775807:=by decide
    rw [this]
    omega
  rw [if_neg c1,if_neg c2,Af,if_neg (by simp),Fv (by omega) (by omega),Af]
  unfold ckN
  rw [if_pos ⟨by simp;omega,by simp,by simp;omega⟩,Af]
  have e2:(cpn (List.replicate n (0:Int)) [a]:Int)=1:=by unfold cpn;simp;omega
  have e3:cpyL (List.replicate n (0:Int)) [a]=List.replicate 1 a ++ List.replicate (n - 1) 0:=by
    unfold cpyL
    rw [List.length_replicate,List.take_of_length_le (by simp;omega),List.drop_replicate]
    rfl
  rw [e2,e3]
  refine Kz (I:=fun s=>∃ k:Nat,0 < k∧k≤n∧s=(List.replicate k a ++ List.replicate (n - k) 0,(k:Int))) (B:=fun s=>s.1=List.replicate n a) (μ:=fun s=>n - s.2.toNat) ⟨1,by omega,by omega,rfl⟩ ?_ ?_
  · rintro s ⟨k,k0,k1,rfl⟩
    simp only [List.length_replicate]
    by_cases hk:k < n
    · left
      rw [if_pos (by omega),PL k0 hk h,Af,CR (by unfold inI64;omega),Af]
      exact ⟨_,rfl,⟨k + min k (n - k),by omega,by omega,by simp⟩,by simp;omega⟩
    · right
      rw [if_neg (by omega)]
      have:k=n:=by omega
      subst this
      exact ⟨_,rfl,by simp⟩
  · rintro s hs
    rw [BF,hs]
def allK (t:Tsk) (k:Nat):List Pn:=(List.range k).flatMap fun v=>(List.range (szT t v)).map fun a=>(v,a)
theorem Im (t:Tsk) (k:Nat):allK t (k + 1)=allK t k ++ (List.range (szT t k)).map fun a=>(k,a):=by
  unfold allK
  rw [List.range_succ,List.flatMap_append]
  simp
theorem Ju {t:Tsk} (hok:TaskOk t):∀ k,k≤t.vars.length→(allK t k).length≤64 * k
  | 0,_=>by simp [allK]
  | k + 1,h=>by
    have:=Ju hok k (by omega)
    have h2:=(FG hok (show k < t.vars.length by omega)).2
    rw [Im,List.length_append,List.length_map,List.length_range]
    omega
theorem PM {t:Tsk} (hok:TaskOk t):(allP t).length≤4096:=by
  have:=Ju hok t.vars.length (Nat.le_refl _)
  have h2:=hok.1
  have:(allP t).length≤64 * t.vars.length:=this
  omega
def adS (sg:Nat→Nat→ByteArray) (x:Pn) (role:ByteArray):Nat→Nat→ByteArray:=fun v a=>if v=x.1∧a=x.2 then sg v a ++ (role ++ (⟨#[59]⟩:ByteArray)) else sg v a
theorem QY {t:Tsk} {sg:Nat→Nat→ByteArray} {s M:Int} {fl:Bool} {x:Pn} {role:ByteArray} (hx:InP t x) (h:(sg x.1 x.2).size + role.size≤1000000000000):BH (mkF t sg [] s M fl) (fc x) role=some (mkF t (adS sg x role) [] s M fl):=by
  unfold BH
  have hone:(⟨#[59]⟩:ByteArray).size=1:=rfl
  have c1:catI role (⟨#[59]⟩:ByteArray)=some (role ++ (⟨#[59]⟩:ByteArray)):=if_pos (by rw [hone];omega)
  have c2:catI (sg x.1 x.2) (role ++ (⟨#[59]⟩:ByteArray))=some (sg x.1 x.2 ++ (role ++ (⟨#[59]⟩:ByteArray))):=if_pos (by rw [ByteArray.size_append,hone];omega)
  simp only [mkF,fc]
  rw [DL _ hx.1,Af,FO _ hx.2,Af,c1,Af,c2,Af,Af]
  have e1:((x.1:Nat):Int).toNat=x.1:=by omega
  have e2:((x.2:Nat):Int).toNat=x.2:=by omega
  rw [e1,e2,FX]
  have:gridT t (fun v' a'=>if v'=x.1∧a'=x.2 then sg x.1 x.2 ++ (role ++ (⟨#[59]⟩:ByteArray)) else sg v' a')=gridT t (adS sg x role):=Fg fun v a _ _=>by
    unfold adS
    by_cases h:v=x.1∧a=x.2
    · rw [if_pos h,if_pos h,h.1,h.2]
    · rw [if_neg h,if_neg h]
  rw [this]
def pf (f:Fct):Pn:=(f.var.toNat,f.val.toNat)
theorem HI {t:Tsk} (hok:TaskOk t) {f:Fct} (h:FactOk t.vars f):InP t (pf f)∧f=fc (pf f):=by
  obtain ⟨h1,h2,y,h3,h4⟩:=h
  have hlt:=Aw h3
  have hs:=Dw hok hlt
  rw [h3] at hs
  injection hs with hs
  refine ⟨⟨hlt,?_⟩,?_⟩
  · show f.val.toNat < szT t f.var.toNat
    omega
  · obtain ⟨a,b⟩:=f
    unfold fc pf
    simp only at h1 h2 ⊢
    congr 1<;>omega
def addL (sg:Nat→Nat→ByteArray) (l:List Pn) (rl:Fct→ByteArray):Nat→Nat→ByteArray:=fun v a=>if (v,a)∈l then sg v a ++ (rl (fc (v,a)) ++ (⟨#[59]⟩:ByteArray)) else sg v a
theorem HJ {t:Tsk} {s M:Int} {fl:Bool} {ρ:Type} {rl:Fct→ByteArray} {R B:Nat} (hR:∀ x,(rl x).size≤R) (hb:B + R≤1000000000000):∀ (l:List Pn) (k:Nat) (sg:Nat→Nat→ByteArray),l.Nodup→(∀ x∈l,InP t x)→(∀ x∈l,(sg x.1 x.2).size≤B) →
    rng (ρ:=ρ) (fun (_:Nat) (a:Fct) (s:Fnd)=>bnd (BH s a (rl a)) fun q=>some (.next q)) (l.map fc) k (mkF t sg [] s M fl)=some (.done (mkF t (addL sg l rl) [] s M fl))
  | [],k,sg,_,_,_=>by
    have:addL sg [] rl=sg:=by funext v a;simp [addL]
    rw [this];rfl
  | x :: l,k,sg,hn,hl,hB=>by
    have hx:=hl x List.mem_cons_self
    have hxB:=hB x List.mem_cons_self
    have hr:=hR (fc x)
    obtain ⟨n1,n2⟩:=List.nodup_cons.1 hn
    have ih:=HJ (t:=t) (s:=s) (M:=M) (fl:=fl) (ρ:=ρ) hR hb l (k + 1) (adS sg x (rl (fc x))) n2 (fun q hq=>hl q (List.mem_cons_of_mem _ hq)) (fun q hq=>by
      unfold adS
      rw [if_neg (fun e=>n1 (by have:q=x:=Prod.ext e.1 e.2;rw [← this];exact hq))]
      exact hB q (List.mem_cons_of_mem _ hq))
    have he:addL (adS sg x (rl (fc x))) l rl=addL sg (x :: l) rl:=by
      funext v a
      unfold addL adS
      by_cases h1:v=x.1∧a=x.2
      · have hxe:(v,a)=x:=Prod.ext h1.1 h1.2
        rw [hxe,if_neg n1,if_pos List.mem_cons_self]
        rw [if_pos h1]
      · have hxe:¬ (v,a)=x:=fun e=>h1 ⟨congrArg Prod.fst e,congrArg Prod.snd e⟩
        rw [if_neg h1]
        by_cases h2:(v,a)∈l
        · rw [if_pos h2,if_pos (List.mem_cons_of_mem _ h2)]
        · rw [if_neg h2,if_neg (fun h=>(List.mem_cons.1 h).elim hxe h2)]
    rw [List.map_cons]
    unfold rng
    rw [QY hx (by omega),Af,← he]
    exact ih
def goalB:ByteArray:=⟨#[103,111,97,108]⟩
def sg0 (t:Tsk):Nat→Nat→ByteArray:=addL (fun _ _=>⟨#[]⟩) (t.goal.map pf) fun _=>goalB
theorem RG {t:Tsk} (hok:TaskOk t) {M:Int} {f:Fnd} (hr:BZ (mkF t (sg0 t) [] 0 M false)=some f):Cn t M=some (some f):=by
  have hv:=hok.1
  unfold Cn
  rw [Fv (by omega) (by omega),Af]
  rw [CQ (s₀:=(([]:List Fct),([]:List (List ByteArray)),([]:List Int),([]:List (List Int)),([]:List (List Bool)))) (fun k=>((allK t k).map fc,(List.range k).map (fun v=>(List.range (szT t v)).map fun _=>(⟨#[]⟩:ByteArray)),(List.range k).map (fun _=>(-1:Int)),(List.range k).map (fun v=>(List.range (szT t v)).map fun _=>(-1:Int)),(List.range k).map (fun v=>(List.range (szT t v)).map fun _=>false))) rfl (fun k a hk=>?_),Af,BF]
  · have e1:List.replicate t.vars.length false=rowT t (Uf []):=Nd _ _
    have e2:(⟨(⟨t.vars,t.init,t.goal,t.ops⟩:Tsk),(allK t t.vars.length).map fc,(List.range t.vars.length).map (fun v=>(List.range (szT t v)).map fun _=>(⟨#[]⟩:ByteArray)),(⟨(List.range t.vars.length).map (fun _=>(-1:Int)),(List.range t.vars.length).map (fun v=>(List.range (szT t v)).map fun _=>(-1:Int)),([]:List Int)⟩:Swp),(List.range t.vars.length).map (fun v=>(List.range (szT t v)).map fun _=>false),List.replicate t.vars.length false,0,M,false⟩:Fnd)=mkF t (fun _ _=>⟨#[]⟩) [] 0 M false:=by
      rw [e1];rfl
    rw [e2]
    have hgl:=FW hok hok.2.2.2.2.1
    have hin:∀ x∈t.goal.map pf,InP t x:=fun x hx=>by
      obtain ⟨g,hg,rfl⟩:=List.mem_map.1 hx
      exact (HI hok ((CX hok.2.2.2.2.1).1 g hg)).1
    have hgn:(t.goal.map pf).Nodup:=Eu ((CX hok.2.2.2.2.1).2.imp fun {a b} (h:a.var < b.var) (e:a=b)=>by rw [e] at h;omega) fun a ha b hb e=>by
      rw [(HI hok ((CX hok.2.2.2.2.1).1 a ha)).2,(HI hok ((CX hok.2.2.2.2.1).1 b hb)).2,e]
    have h1:=HJ (t:=t) (s:=0) (M:=M) (fl:=false) (ρ:=Option Fnd) (rl:=fun _=>goalB) (R:=4) (B:=0) (fun _=>Nat.le_refl _) (by omega) (t.goal.map pf) 0 (fun _ _=>⟨#[]⟩) hgn hin (fun _ _=>Nat.le_refl _)
    have hgm:(t.goal.map pf).map fc=t.goal:=by
      rw [List.map_map]
      refine (List.map_congr_left fun g hg=>?_).trans (List.map_id _)
      exact ((HI hok ((CX hok.2.2.2.2.1).1 g hg)).2).symm
    rw [hgm] at h1
    unfold goalB at h1
    rw [h1,Af,BF]
    show bnd (BZ (mkF t (sg0 t) [] 0 M false)) _=_
    rw [hr,Af]
  · have hkl:=Aw hk
    have hsz:=Dw hok hkl
    rw [hk] at hsz
    injection hsz with hsz
    subst hsz
    obtain ⟨p1,p2⟩:=FG hok hkl
    have hal:=Ju hok k (by omega)
    simp only []
    rw [Fv (by omega) (by omega),Af,BM (by simp;omega) (by simp;omega),Af,Fv (by omega) (by omega),Af,BM (by simp;omega) (by simp;omega),Af,Af,BM (by simp;omega) (by simp;omega),Af,OM p1 p2,Af,BM (by simp;omega) (by simp;omega),Af,Af,MT,Af]
    rw [KR (s₀:=(allK t k).map fc) (fun j=>(allK t k ++ (List.range j).map fun a=>(k,a)).map fc) (by simp) (fun j hj=>?_),Af,BF]
    · simp only [Im,List.range_succ,List.map_append,Nd,List.map_cons,List.map_nil]
    · rw [BM (by simp;omega) (by simp;omega),Af]
      simp only [List.range_succ,List.map_append,List.append_assoc,List.map_cons,List.map_nil]
      rfl
end
section
open Go Go.RowKit
theorem Jv (a b:Int):∃ c,CE a b=some c:=by
  unfold CE DX
  by_cases h:a < b
  · exact ⟨-1,by simp [bnd,h]⟩
  · by_cases h2:b < a
    · exact ⟨1,by simp [bnd,h,h2]⟩
    · exact ⟨0,by simp [bnd,h,h2]⟩
theorem QZ:∀ (l:List Int),∃ c,EL l=some c:=fun l=>by
  unfold EL
  have key:∀ (l:List Int) (k:Nat),∃ r,rng (ρ:=Int) (fun (_:Nat) (a11:Int) (_:Unit)=>if a11≠0 then (some (.ret a11)) else (some (.next ()))) l k ()=some r:=by
    intro l
    induction l with
    | nil=>exact fun k=>⟨_,rfl⟩
    | cons a l ih =>
      intro k
      unfold rng
      by_cases h:a≠0
      · rw [if_pos h];exact ⟨_,rfl⟩
      · rw [if_neg h];exact ih (k + 1)
  obtain ⟨r,h⟩:=key l 0
  rw [h,Af]
  cases r<;>exact ⟨_,rfl⟩
theorem Ra (a b:Opr):∃ c,Ca a b=some c:=by
  unfold Ca
  obtain ⟨c1,h1⟩:=Jv a.cost b.cost
  obtain ⟨c2,h2⟩:=Jv (a.pre.length:Int) (b.pre.length:Int)
  obtain ⟨c3,h3⟩:=Jv (a.effs.length:Int) (b.effs.length:Int)
  obtain ⟨c4,h4⟩:=QZ [c1,c2,c3]
  rw [h1,Af,h2,Af,h3,Af,h4,Af]
  exact ⟨_,rfl⟩
theorem ON {l:List Opr} {j:Nat} {a b:Opr} (h0:0 < j) (ha:l[j]?=some a) (hb:l[j - 1]?=some b):((l.set j b).set (j - 1) a).Perm l:=by
  have h1:=Aw ha
  have h2:=Aw hb
  have e1:l[j]=a:=by rw [List.getElem?_eq_getElem h1] at ha;injection ha
  have e2:l[j - 1]=b:=by rw [List.getElem?_eq_getElem h2] at hb;injection hb
  have:=List.set_set_perm h1 h2
  rwa [e1,e2] at this
theorem PN {l:List Opr} (hl:l.length≤1000):∃ r,Bb l 0 (l.length:Int)=some r∧r.Perm l:=by
  unfold Bb
  rw [CR (by decide),Af]
  refine OJ (I:=fun s=>∃ i:Nat,1≤i∧s.2=(i:Int)∧s.1.Perm l) (B:=fun s=>s.1.Perm l) (R:=fun _=>False) (μ:=fun s=>l.length + 1 - s.2.toNat) ⟨1,by omega,rfl,.refl _⟩ ?_ (fun s hs=>⟨_,rfl,hs⟩) (fun _ h=>h.elim)
  rintro ⟨m,ii⟩ ⟨i,hi,e,hp⟩
  simp only at e hp ⊢
  subst e
  have hml:m.length=l.length:=hp.length_eq
  by_cases hlt:(i:Int) < (l.length:Int)
  · left
    rw [if_pos hlt]
    rcases IJ (ρ:=Ctl ((List Opr)×Int) (List Opr)) (f:=fun (s32:(List Opr)×Int)=>bnd (if (0:Int) < s32.2 then (bnd (atI s32.1 s32.2) fun a56=>bnd (chkI (s32.2 - 1)) fun n77=>bnd (atI s32.1 n77) fun a80=>bnd (Ca a56 a80) fun q101=>if q101 < 0 then (some true) else (some false)) else (some false):Option Bool) fun y51=>if y51=true then (bnd (chkI (s32.2 - 1)) fun n115=>bnd (atI s32.1 n115) fun a118=>bnd (atI s32.1 s32.2) fun a139=>bnd (atI s32.1 s32.2) fun _=>bnd (chkI (s32.2 - 1)) fun n181=>bnd (atI (s32.1.set (s32.2:Int).toNat a118) n181) fun _=>bnd (chkI (s32.2 - 1)) fun n209=>some (.next (((s32.1.set (s32.2:Int).toNat a118).set (n181:Int).toNat a139),n209))) else (some (.brk (s32.1,s32.2))))
      (fun s=>∃ j:Nat,j < l.length∧s.2=(j:Int)∧s.1.Perm l) (fun s=>s.1.Perm l) (fun _=>False) (fun s=>s.2.toNat) (fun s hs=>by
        obtain ⟨q,jj⟩:=s
        obtain ⟨j,hj,e,hq⟩:=hs
        simp only at e hq ⊢
        subst e
        have hql:q.length=l.length:=hq.length_eq
        by_cases h0:(0:Int) < (j:Int)
        · obtain ⟨a,ha⟩:=AR (l:=q) (k:=j) (by omega)
          obtain ⟨b,hb⟩:=AR (l:=q) (k:=j - 1) (by omega)
          obtain ⟨c,hc⟩:=Ra a b
          have hA:atI q (j:Int)=some a:=by rw [BA,ha]
          have hB:atI q ((j:Int) - 1)=some b:=by rw [show (j:Int) - 1=((j - 1:Nat):Int) from by omega,BA,hb]
          have hC:chkI ((j:Int) - 1)=some ((j:Int) - 1):=CR (by unfold inI64;omega)
          rw [if_pos h0,hA,Af,hC,Af,hB,Af,hc,Af]
          by_cases hc0:c < 0
          · left
            have hD:atI (q.set j b) ((j:Int) - 1)=some b:=by
              rw [show (j:Int) - 1=((j - 1:Nat):Int) from by omega,BA,List.getElem?_set,if_neg (by omega),hb]
            rw [if_pos hc0,Af,Bq,Af,hB,Af,Af,Af,Af,show ((j:Nat):Int).toNat=j from by omega,hD,Af,Af]
            refine ⟨_,rfl,⟨j - 1,by omega,by omega,?_⟩,?_⟩
            · have:=(ON (by omega) ha hb).trans hq
              rwa [show ((j:Int) - 1).toNat=j - 1 from by omega]
            · show ((j:Int) - 1).toNat < ((j:Int)).toNat
              omega
          · right;left
            rw [if_neg hc0,Af,BO]
            exact ⟨_,rfl,hq⟩
        · right;left
          rw [if_neg h0,Af,BO]
          exact ⟨_,rfl,hq⟩) (m,(i:Int)) ⟨i,by omega,rfl,hp⟩ with ⟨s',h1,h2⟩|⟨_,_,h⟩
    · rw [h1,Af,BF,CR (by unfold inI64;omega),Af]
      refine ⟨_,rfl,⟨i + 1,by omega,rfl,h2⟩,?_⟩
      show l.length + 1 - ((i:Int) + 1).toNat < l.length + 1 - ((i:Int)).toNat
      omega
    · exact h.elim
  · right;left
    rw [if_neg hlt]
    exact ⟨_,rfl,hp⟩
theorem MP {l:List Opr} (hl:l.length < 20):∃ r,Bg l=some r∧r.Perm l:=by
  unfold Bg Bu
  obtain ⟨r,h1,h2⟩:=PN (l:=l) (by omega)
  rw [Gx,if_neg (show ¬ (20:Int)≤(l.length:Int) by omega)]
  simp only []
  rw [Af,BF,h1,Af,Gx,if_neg (show ¬ (20:Int) < (l.length:Int) by omega)]
  simp only []
  rw [Af,BF,Af]
  exact ⟨_,rfl,h2⟩
end
section
open Go Go.RowKit
section
variable {M M' : Nat}
theorem KB (hM:M≤M') {fit:Pn→Bool} {sub sub':Pn→Nat→Rs} (h:∀ y s,(sub y s).2.2=true∨sub y s=sub' y s):∀ (l:List Pn) (s:Nat),(goL M fit sub l s).2.2=true∨goL M fit sub l s=goL M' fit sub' l s
  | [],_=>.inr rfl
  | y :: l,s=>by
    unfold goL
    by_cases hf:fit y=true
    · rw [if_pos hf,if_pos hf]
      by_cases hs:M≤s
      · rw [if_pos hs];exact .inl rfl
      · rw [if_neg hs,if_neg (show ¬ M'≤s by omega)]
        rcases h y (s + 1) with e|e
        · rw [if_pos (.inr e)];exact .inl e
        · rw [← e]
          by_cases hq:(sub y (s + 1)).1.isSome=true∨(sub y (s + 1)).2.2=true
          · rw [if_pos hq,if_pos hq];exact .inr rfl
          · rw [if_neg hq,if_neg hq];exact KB hM h l _
    · rw [if_neg hf,if_neg hf];exact KB hM h l _
variable {t : Tsk} {sg : Nat → Nat → ByteArray} {leaf : Zs → Option Swp}
theorem Nf (hM:M≤M'):∀ (d:Nat) (zs:Zs) (s:Nat),(ext t sg leaf M d zs s).2.2=true∨ext t sg leaf M d zs s=ext t sg leaf M' d zs s
  | 0,_,_=>.inr rfl
  | d + 1,zs,s=>by
    unfold ext
    exact KB hM (fun y s=>Nf hM d _ s) _ s
theorem Rb (hM:M≤M') {d:Nat} {zs:Zs} {y:Pn} {s:Nat}:(stp t sg leaf M d zs y s).2.2=true∨stp t sg leaf M d zs y s=stp t sg leaf M' d zs y s:=by
  unfold stp
  by_cases hs:M≤s
  · rw [if_pos hs];exact .inl rfl
  · rw [if_neg hs,if_neg (show ¬ M'≤s by omega)]
    exact Nf hM d _ _
theorem Jw (hM:M≤M') {i:Nat} {x:Pn}:∀ (l:List Pn) (g:List Swp) (s:Nat),(levL t sg leaf M i x l g s).2.2=true∨levL t sg leaf M i x l g s=levL t sg leaf M' i x l g s
  | [],_,_=>.inr rfl
  | y :: l,g,s=>by
    unfold levL
    by_cases hf:fitB t sg (idz t i) x y=true∧bof (Reach g x y)=false
    · rw [if_pos hf,if_pos hf]
      rcases Rb (t:=t) (sg:=sg) (leaf:=leaf) hM (d:=(allP t).length - i - 1) (zs:=idz t i) (y:=y) (s:=s) with e|e
      · rw [if_pos e];exact .inl rfl
      · rw [← e]
        by_cases hq:(stp t sg leaf M ((allP t).length - i - 1) (idz t i) y s).2.2=true
        · rw [if_pos hq];exact .inl rfl
        · rw [if_neg hq,if_neg hq];exact Jw hM l _ _
    · rw [if_neg hf,if_neg hf];exact Jw hM l _ _
theorem Mq (hM:M≤M'):∀ (i:Nat) (g:List Swp) (s:Nat),((fndL t sg leaf M i g s).2.2=true∧(fndL t sg leaf M i g s).1=[])∨fndL t sg leaf M i g s=fndL t sg leaf M' i g s
  | 0,_,_=>.inr rfl
  | i + 1,g,s=>by
    unfold fndL
    rcases Jw (t:=t) (sg:=sg) (leaf:=leaf) hM (i:=i) (x:=((allP t)[i]?).getD (0,0)) (allP t) g s with e|e
    · rw [if_pos e];exact .inl ⟨rfl,rfl⟩
    · rw [← e]
      by_cases hq:(levL t sg leaf M i (((allP t)[i]?).getD (0,0)) (allP t) g s).2.2=true
      · rw [if_pos hq];exact .inl ⟨rfl,rfl⟩
      · rw [if_neg hq,if_neg hq];exact Mq hM i _ _
def stepsT:Nat→Nat
  | 0=>0
  | r + 1=>(r + 1) * (1 + stepsT r)
def fitN (fit:Pn→Bool) (l:List Pn):Nat:=(l.filter fit).length
theorem In {fit:Pn→Bool} {sub:Pn→Nat→Rs} {T:Nat} {P:Pn→Prop} (h:∀ y s,P y→fit y=true→s + T≤M→(sub y s).2.1≤s + T∧(sub y s).2.2=false):∀ (l:List Pn) (s:Nat),(∀ y∈l,P y)→s + fitN fit l * (1 + T)≤M→(goL M fit sub l s).2.1≤s + fitN fit l * (1 + T)∧(goL M fit sub l s).2.2=false
  | [],s,_,_=>⟨by show s≤_;omega,rfl⟩
  | y :: l,s,hP,hs=>by
    have hP':∀ q∈l,P q:=fun q hq=>hP q (List.mem_cons_of_mem _ hq)
    unfold goL
    by_cases hf:fit y=true
    · have hn:fitN fit (y :: l)=fitN fit l + 1:=by unfold fitN;rw [List.filter_cons_of_pos hf];rfl
      rw [hn,Nat.succ_mul] at hs ⊢
      obtain ⟨h1,h2⟩:=h y (s + 1) (hP y List.mem_cons_self) hf (by omega)
      rw [if_pos hf,if_neg (by omega)]
      by_cases hq:(sub y (s + 1)).1.isSome=true∨(sub y (s + 1)).2.2=true
      · rw [if_pos hq];exact ⟨by omega,h2⟩
      · rw [if_neg hq]
        have:=In h l (sub y (s + 1)).2.1 hP' (by omega)
        exact ⟨by omega,this.2⟩
    · have hn:fitN fit (y :: l)=fitN fit l:=by unfold fitN;rw [List.filter_cons_of_neg hf]
      rw [hn] at hs ⊢
      rw [if_neg hf]
      exact In h l s hP' hs
theorem OO {zs:Zs} {x y:Pn} (h:fitB t sg zs x y=true):y ∉ zs.map (·.2):=by
  unfold fitB at h
  split at h
  · cases h
  · rename_i h1
    intro hm
    obtain ⟨z,hz,e⟩:=List.mem_map.1 hm
    exact NM.1 (by simpa using fun e=>h1 (.inl e)) z hz e
theorem Ng {zs:Zs} {x:Pn} (h:Gz t zs):fitN (fitB t sg zs x) (allP t) + zs.length≤(allP t).length:=by
  have:((allP t).filter (fitB t sg zs x) ++ zs.map (·.2)).length≤(allP t).length:=Ew (List.nodup_append.2 ⟨(ET t).filter _,h.inj,fun a ha b hb e=>by
    subst e
    exact OO (List.mem_filter.1 ha).2 hb⟩) fun p hp=>by
      rcases List.mem_append.1 hp with hp|hp
      · exact (List.mem_filter.1 hp).1
      · obtain ⟨z,hz,rfl⟩:=List.mem_map.1 hp
        exact BJ.2 (h.img z hz)
  rw [List.length_append,List.length_map] at this
  exact this
theorem KV:∀ (d:Nat) (zs:Zs) (s:Nat),Gz t zs→zs.length + d=(allP t).length→s + stepsT d≤M→(ext t sg leaf M d zs s).2.1≤s + stepsT d∧(ext t sg leaf M d zs s).2.2=false
  | 0,_,s,_,_,_=>⟨by show s≤_;omega,rfl⟩
  | d + 1,zs,s,hz,hl,hs=>by
    have hlt:zs.length < (allP t).length:=by omega
    have hn:=Ng (sg:=sg) (x:=xAt t zs) hz
    have hle:fitN (fitB t sg zs (xAt t zs)) (allP t) * (1 + stepsT d)≤stepsT (d + 1):=Nat.mul_le_mul_right _ (by omega)
    unfold ext
    have:=In (M:=M) (P:=InP t) (fit:=fitB t sg zs (xAt t zs)) (sub:=fun y s=>ext t sg leaf M d (zs ++ [(xAt t zs,y)]) s) (T:=stepsT d) (fun y s hy hf hs=>KV d _ s (hz.fit (Ep hlt) hy hf).2 (by simp;omega) hs) (allP t) s (fun y hy=>BJ.1 hy) (by omega)
    exact ⟨by omega,this.2⟩
theorem OP {i:Nat} {y:Pn} {s:Nat} (hi:i < (allP t).length) (hy:InP t y) (hf:fitB t sg (idz t i) (xAt t (idz t i)) y=true) (hs:s + 1 + stepsT ((allP t).length - i - 1)≤M):(stp t sg leaf M ((allP t).length - i - 1) (idz t i) y s).2.1≤s + 1 + stepsT ((allP t).length - i - 1)∧(stp t sg leaf M ((allP t).length - i - 1) (idz t i) y s).2.2=false:=by
  have hl:=Fm (t:=t) (k:=i) (by omega)
  unfold stp
  rw [if_neg (by omega)]
  have hz:=IN (t:=t) (k:=i) (by omega)
  exact KV _ _ _ (hz.fit (Ep (by omega)) hy hf).2 (by simp [hl];omega) hs
theorem Gl {i:Nat} (hi:i < (allP t).length):∀ (l:List Pn) (g:List Swp) (s:Nat),(∀ y∈l,InP t y)→s + fitN (fitB t sg (idz t i) (xAt t (idz t i))) l * (1 + stepsT ((allP t).length - i - 1))≤M→(levL t sg leaf M i (xAt t (idz t i)) l g s).2.1≤s + fitN (fitB t sg (idz t i) (xAt t (idz t i))) l * (1 + stepsT ((allP t).length - i - 1))∧(levL t sg leaf M i (xAt t (idz t i)) l g s).2.2=false
  | [],g,s,_,_=>⟨by show s≤_;omega,rfl⟩
  | y :: l,g,s,hP,hs=>by
    have hP':∀ q∈l,InP t q:=fun q hq=>hP q (List.mem_cons_of_mem _ hq)
    unfold levL
    by_cases hf:fitB t sg (idz t i) (xAt t (idz t i)) y=true
    · have hn:fitN (fitB t sg (idz t i) (xAt t (idz t i))) (y :: l)=fitN (fitB t sg (idz t i) (xAt t (idz t i))) l + 1:=by unfold fitN;rw [List.filter_cons_of_pos hf];rfl
      rw [hn,Nat.succ_mul] at hs ⊢
      by_cases hR:bof (Reach g (xAt t (idz t i)) y)=false
      · rw [if_pos ⟨hf,hR⟩]
        obtain ⟨h1,h2⟩:=OP (leaf:=leaf) (M:=M) hi (hP y List.mem_cons_self) hf (s:=s) (by omega)
        rw [if_neg (by rw [h2];simp)]
        have:=Gl hi l (addG g (stp t sg leaf M ((allP t).length - i - 1) (idz t i) y s).1) (stp t sg leaf M ((allP t).length - i - 1) (idz t i) y s).2.1 hP' (by omega)
        exact ⟨by omega,this.2⟩
      · rw [if_neg (fun h=>hR h.2)]
        have:=Gl hi l g s hP' (by omega)
        exact ⟨by omega,this.2⟩
    · have hn:fitN (fitB t sg (idz t i) (xAt t (idz t i))) (y :: l)=fitN (fitB t sg (idz t i) (xAt t (idz t i))) l:=by unfold fitN;rw [List.filter_cons_of_neg hf]
      rw [hn] at hs ⊢
      rw [if_neg (fun h=>hf h.1)]
      exact Gl hi l g s hP' hs
def stepsU (n:Nat):Nat→Nat
  | 0=>0
  | i + 1=>stepsT (n - i) + stepsU n i
theorem Kd:∀ (i:Nat) (g:List Swp) (s:Nat),i≤(allP t).length→s + stepsU (allP t).length i≤M→(fndL t sg leaf M i g s).2.2=false
  | 0,_,_,_,_=>rfl
  | i + 1,g,s,hi,hs=>by
    have hii:i < (allP t).length:=by omega
    have hxe:((allP t)[i]?).getD (0,0)=xAt t (idz t i):=by rw [FY hii];rfl
    have hn:=Ng (sg:=sg) (x:=xAt t (idz t i)) (IN (t:=t) (k:=i) (by omega))
    rw [Fm (by omega)] at hn
    have hT:stepsT ((allP t).length - i)=((allP t).length - i) * (1 + stepsT ((allP t).length - i - 1)):=by
      have:(allP t).length - i=((allP t).length - i - 1) + 1:=by omega
      rw [this];rfl
    have hle:fitN (fitB t sg (idz t i) (xAt t (idz t i))) (allP t) * (1 + stepsT ((allP t).length - i - 1))≤stepsT ((allP t).length - i):=by
      rw [hT]
      exact Nat.mul_le_mul_right _ (by omega)
    have hU:stepsU (allP t).length (i + 1)=stepsT ((allP t).length - i) + stepsU (allP t).length i:=rfl
    unfold fndL
    rw [hxe]
    obtain ⟨h1,h2⟩:=Gl (sg:=sg) (leaf:=leaf) (M:=M) hii (allP t) g s (fun y hy=>BJ.1 hy) (by omega)
    rw [if_neg (by rw [h2];simp)]
    exact Kd i _ _ (by omega) (by omega)
end
end
section
open Go Go.RowKit
theorem HK {l:List Int} {n:Nat} (h:PermR l n) {k:Nat} (hk:k < n):∃ a:Nat,l[k]?=some (a:Int)∧a < n:=by
  obtain ⟨z,hz⟩:=AR (l:=l) (k:=k) (by rw [h.len];exact hk)
  obtain ⟨h1,h2⟩:=h.mem (List.mem_of_getElem? hz)
  obtain ⟨a,rfl⟩:=Int.eq_ofNat_of_zero_le h1
  exact ⟨a,hz,by omega⟩
theorem Ip {l:List Int} {n:Nat} (h:PermR l n) {a:Nat} (ha:a < n):∃ k:Nat,k < n∧l[k]?=some (a:Int):=by
  have:(a:Int)∈l:=h.mem_iff.2 (HE.2 ⟨by omega,by omega⟩)
  obtain ⟨k,hk⟩:=List.getElem?_of_mem this
  exact ⟨k,by rw [← h.len];exact Aw hk,hk⟩
theorem Jx {l:List Int} {n:Nat} (h:PermR l n) {i j:Nat} {a:Int} (hi:l[i]?=some a) (hj:l[j]?=some a):i=j:=by
  have h1:=Aw hi
  have h2:=Aw hj
  have:=hi.trans hj.symm
  rw [List.getElem?_eq_getElem h1,List.getElem?_eq_getElem h2] at this
  exact (List.getElem_inj h.nodup).1 (Option.some.inj this)
theorem KW {l:List Int} {n:Nat} (hl:l.length=n) (h1:∀ (k:Nat) (a:Int),l[k]?=some a→0≤a∧a < n) (h2:∀ (i j:Nat) (a:Int),l[i]?=some a→l[j]?=some a→i=j):PermR l n:=by
  refine GF ?_ (fun x hx=>?_) hl
  · rw [List.nodup_iff_pairwise_ne,List.pairwise_iff_getElem]
    intro i j hi hj hij e
    have:=h2 i j l[i] (List.getElem?_eq_getElem hi) (by rw [List.getElem?_eq_getElem hj,e])
    omega
  · obtain ⟨k,hk⟩:=List.getElem?_of_mem hx
    exact h1 k x hk
theorem EV {n k:Nat} (h:k < n):(rangeI n)[k]?=some (k:Int):=by
  unfold rangeI
  rw [List.getElem?_map,List.getElem?_range h];rfl
theorem Ha (n:Nat):PermR (rangeI n) n:=List.Perm.refl _
theorem OQ {l:List Int} {n:Nat} (hl:l.length=n) (h:∀ k,k < n→l[k]?=some (k:Int)):l=rangeI n:=List.ext_getElem? fun k=>by
  by_cases hk:k < n
  · rw [h k hk,EV hk]
  · rw [List.getElem?_eq_none (by omega),List.getElem?_eq_none (by rw [Gk];omega)]
theorem KC {n:Nat} (h:n≤1000000):CV (n:Int)=some (rangeI n):=by
  unfold CV
  rw [Fv (by omega) (by omega),Af,List.length_replicate]
  obtain ⟨s,h1,h2,h3⟩:=PA (ρ:=List Int) (f:=fun (k20:Nat) (s18:(List Int))=>bnd (s18[k20]?) fun _=>some (.next (s18.set k20 (k20:Int)))) (N:=n) (s₀:=List.replicate n 0) (fun k s=>s.length=n∧∀ j,j < k→s[j]?=some (j:Int)) ⟨by simp,fun j hj=>by omega⟩ (fun k s hk hI=>by
    obtain ⟨i1,i2⟩:=hI
    obtain ⟨z,hz⟩:=AR (l:=s) (k:=k) (by omega)
    rw [hz,Af]
    refine ⟨_,rfl,by simpa using i1,fun j hj=>?_⟩
    rw [List.getElem?_set]
    by_cases e:k=j
    · rw [if_pos e,if_pos (by omega),e]
    · rw [if_neg e];exact i2 j (by omega))
  rw [h1,Af,BF,OQ h2 h3]
def alongL (a b:List Int):List Int:=a.map fun k=>(b[k.toNat]?).getD 0
theorem Fo {a b:List Int} {n:Nat} (ha:PermR a n) (hb:b.length=n) {k i:Nat} {z:Int} (h1:a[k]?=some (i:Int)) (h2:b[i]?=some z):(alongL a b)[k]?=some z:=by
  unfold alongL
  rw [List.getElem?_map,h1]
  simp [h2]
theorem Jy {a b:List Int} {n:Nat} (ha:PermR a n) (hb:b.length=n) (hn:n≤1000000):CM a b=some (alongL a b):=by
  unfold CM
  have hl:=ha.len
  rw [Fv (by omega) (by omega),Af]
  obtain ⟨s,h1,h2,h3⟩:=En (ρ:=List Int) (f:=fun (k26:Nat) (a27:Int) (s24:(List Int))=>bnd (atI b a27) fun a49=>bnd (s24[k26]?) fun _=>some (.next (s24.set k26 a49))) (xs:=a) (s₀:=List.replicate a.length 0) (fun k s=>s.length=a.length∧∀ j,j < k→s[j]?=(alongL a b)[j]?) ⟨by simp,fun j hj=>by omega⟩ (fun k y s hk hI=>by
    obtain ⟨i1,i2⟩:=hI
    have hlt:=Aw hk
    obtain ⟨i,hi,hin⟩:=HK ha (k:=k) (by omega)
    obtain rfl:y=(i:Int):=by rw [hi] at hk;exact (Option.some.inj hk).symm
    obtain ⟨z,hz⟩:=AR (l:=b) (k:=i) (by omega)
    obtain ⟨u,hu⟩:=AR (l:=s) (k:=k) (by omega)
    rw [BA,hz,Af,hu,Af]
    refine ⟨_,rfl,by simpa using i1,fun j hj=>?_⟩
    rw [List.getElem?_set]
    by_cases e:k=j
    · subst e;rw [if_pos rfl,if_pos (by omega),Fo ha hb hi hz]
    · rw [if_neg e];exact i2 j (by omega))
  rw [h1,Af,BF]
  refine congrArg some (List.ext_getElem? fun k=>?_)
  by_cases hk:k < a.length
  · exact h3 k hk
  · rw [List.getElem?_eq_none (by omega),List.getElem?_eq_none (by simp [alongL];omega)]
theorem HL {a b:List Int} {n:Nat} (ha:PermR a n) (hb:PermR b n):PermR (alongL a b) n:=by
  have hl:(alongL a b).length=n:=by simp [alongL,ha.len]
  have key:∀ (k:Nat) (z:Int),(alongL a b)[k]?=some z→∃ i:Nat,a[k]?=some (i:Int)∧b[i]?=some z:=fun k z hz=>by
    obtain ⟨i,hi,hin⟩:=HK ha (k:=k) (by rw [← hl];exact Aw hz)
    obtain ⟨y,hy,_⟩:=HK hb hin
    rw [Fo ha hb.len hi hy] at hz
    exact ⟨i,hi,hy.trans hz⟩
  refine KW hl (fun k z hz=>?_) (fun k j z h1 h2=>?_)
  · obtain ⟨i,hi,hz⟩:=key k z hz
    exact hb.mem (List.mem_of_getElem? hz)
  · obtain ⟨i,hi,hz⟩:=key k z h1
    obtain ⟨i',hi',hz'⟩:=key j z h2
    have:=Jx hb hz hz'
    subst this
    exact Jx ha hi hi'
theorem Ke {x:Swp} {v u a z:Nat} {l:List Int} (h1:x.vars[v]?=some (a:Int)) (h2:x.vals[v]?=some l) (h3:l[u]?=some (z:Int)):imF x ⟨v,u⟩=⟨a,z⟩:=by simp [imF,h1,h2,h3]
theorem Fy {t:Tsk} {x:Swp} {f:Fct} (hok:TaskOk t) (hp:FactsPerm t x) (hf:FactOk t.vars f):∃ (v u n a z:Nat) (l:List Int),f=⟨v,u⟩∧v < t.vars.length∧t.vars[v]?=some (n:Int)∧n≤64∧u < n∧x.vars[v]?=some (a:Int)∧x.vals[v]?=some l∧PermR l n∧l[u]?=some (z:Int)∧z < n∧a < t.vars.length∧t.vars[a]?=some (n:Int)∧imF x f=⟨a,z⟩:=by
  obtain ⟨fv,fu⟩:=f
  obtain ⟨h1,h2,n,hn,h3⟩:=hf
  simp only at h1 h2 hn h3
  obtain ⟨v,rfl⟩:=Int.eq_ofNat_of_zero_le h1
  obtain ⟨u,rfl⟩:=Int.eq_ofNat_of_zero_le h2
  rw [show ((v:Int)).toNat=v from by omega] at hn
  have hlt:=Aw hn
  obtain ⟨m,a,l,q1,q2,q3,q4,q5⟩:=hp.2.2 v hlt
  have e:(m:Int)=n:=by rw [hn] at q1;exact (Option.some.inj q1).symm
  subst e
  obtain ⟨ha1,ha2⟩:=hp.1.mem (List.mem_of_getElem? q2)
  obtain ⟨a,rfl⟩:=Int.eq_ofNat_of_zero_le ha1
  obtain ⟨z,hz,hzn⟩:=HK q5 (k:=u) (by omega)
  have hm:=hok.2.2.1 v m hn
  rw [BA] at q4
  exact ⟨v,u,m,a,z,l,rfl,hlt,hn,by omega,by omega,q2,q3,q5,hz,hzn,by omega,q4,Ke q2 q3 hz⟩
theorem OR {t:Tsk} {x:Swp} {f:Fct} (hok:TaskOk t) (hp:FactsPerm t x) (hf:FactOk t.vars f):FactOk t.vars (imF x f):=by
  obtain ⟨v,u,n,a,z,l,rfl,_,_,_,_,_,_,_,_,hz,ha,hta,e⟩:=Fy hok hp hf
  rw [e]
  exact ⟨by simp,by simp,n,by simpa using hta,by simpa using hz⟩
theorem Mr {t:Tsk} {x:Swp} {fs:List Fct} (hok:TaskOk t) (hp:FactsPerm t x) (hf:FactsOk t.vars fs):(∀ f∈imL x fs,FactOk t.vars f)∧(imL x fs).Pairwise fun a b=>a.var < b.var:=by
  refine ⟨fun f h=>?_,HG (NL hp hf)⟩
  have h:=(DU _).mem_iff.1 h
  obtain ⟨g,hg,rfl⟩:=List.mem_map.1 h
  exact OR hok hp ((CX hf).1 g hg)
theorem OS {t:Tsk} {x:Swp} {fs gs:List Fct} (hp:FactsPerm t x) (hf:FactsOk t.vars fs) (hg:gs.Pairwise fun a b=>a.var < b.var) (h:gs.Perm (fs.map (imF x))):imL x fs=gs :=
  KS ((DU _).trans h.symm) (HG (NL hp hf)) hg
theorem Jz {t:Tsk} {x y z:Swp} {fs:List Fct} (hok:TaskOk t) (hx:FactsPerm t x) (hy:FactsPerm t y) (hz:FactsPerm t z) (hf:FactsOk t.vars fs) (hgs:FactsOk t.vars (imL x fs)) (h:∀ f,FactOk t.vars f→imF z f=imF y (imF x f)):imL z fs=imL y (imL x fs):=by
  refine OS hz hf (Mr hok hy hgs).2 ?_
  refine (DU _).trans ?_
  have e:fs.map (imF z)=(fs.map (imF x)).map (imF y):=by
    rw [List.map_map]
    exact List.map_congr_left fun f hf'=>h f ((CX hf).1 f hf')
  rw [e]
  exact (DU _).map _
theorem NU {vars:List Int} {f:List Fct} (h1:∀ x∈f,FactOk vars x) (h2:f.Pairwise fun x y=>x.var < y.var):FactsOk vars f:=by
  refine ⟨fun i x hx=>h1 x (List.mem_of_getElem? hx),fun i x y hx hy=>?_⟩
  obtain ⟨hi,rfl⟩:=List.getElem?_eq_some_iff.1 hx
  obtain ⟨hj,rfl⟩:=List.getElem?_eq_some_iff.1 hy
  exact List.pairwise_iff_getElem.1 h2 i (i + 1) hi hj (Nat.lt_succ_self i)
theorem Iq {t:Tsk} {x:Swp} {fs:List Fct} (hok:TaskOk t) (hp:FactsPerm t x) (hf:FactsOk t.vars fs):FactsOk t.vars (imL x fs):=NU (Mr hok hp hf).1 (Mr hok hp hf).2
theorem HM {t:Tsk} {x:Swp} {fs:List Fct} (hp:FactsPerm t x) (hf:FactsOk t.vars fs) (h:∀ f,FactOk t.vars f→imF x f=f):imL x fs=fs:=by
  refine OS hp hf (CX hf).2 ?_
  have:fs.map (imF x)=fs.map id:=List.map_congr_left fun f hf'=>h f ((CX hf).1 f hf')
  rw [this,List.map_id]
theorem Ms {t:Tsk} {x y z:Swp} {e:Eff} (hok:TaskOk t) (hx:FactsPerm t x) (hy:FactsPerm t y) (hz:FactsPerm t z) (he:EffOk t.vars e) (h:∀ f,FactOk t.vars f→imF z f=imF y (imF x f)):imE z e=imE y (imE x e):=by
  have h1:=Jz hok hx hy hz he.1 (Iq hok hx he.1) h
  have h2:=h ⟨e.var,e.val⟩ he.2
  show (⟨imL z e.cond,(imF z ⟨e.var,e.val⟩).var,(imF z ⟨e.var,e.val⟩).val⟩:Eff)=⟨imL y (imL x e.cond),(imF y (imF x ⟨e.var,e.val⟩)).var,(imF y (imF x ⟨e.var,e.val⟩)).val⟩
  rw [h1,h2]
theorem Mu {t:Tsk} {x:Swp} {e:Eff} (hp:FactsPerm t x) (he:EffOk t.vars e) (h:∀ f,FactOk t.vars f→imF x f=f):imE x e=e:=by
  show (⟨imL x e.cond,(imF x ⟨e.var,e.val⟩).var,(imF x ⟨e.var,e.val⟩).val⟩:Eff)=e
  rw [HM hp he.1 h,h _ he.2]
theorem Hq {vars:List Int} {o:Opr} (ho:OpOk vars o):∀ e∈o.effs,EffOk vars e:=fun e he=>by
  obtain ⟨j,hj⟩:=List.getElem?_of_mem he
  exact ho.2.2.2.2.2 j e hj
def idX (t:Tsk):Swp:=⟨rangeI t.vars.length,t.vars.map fun n=>rangeI n.toNat,rangeI t.ops.length⟩
theorem EF {t:Tsk} (hok:TaskOk t):FactsPerm t (idX t):=by
  refine ⟨Ha _,by simp [idX],fun k hk=>?_⟩
  obtain ⟨n,hn⟩:=AR (l:=t.vars) (k:=k) hk
  have:=hok.2.2.1 k n hn
  obtain ⟨m,rfl⟩:=Int.eq_ofNat_of_zero_le (by omega:0≤n)
  exact ⟨m,k,rangeI m,hn,EV hk,by simp [idX,hn],by rw [BA,hn],Ha _⟩
theorem Fp {t:Tsk} (hok:TaskOk t) {f:Fct} (hf:FactOk t.vars f):imF (idX t) f=f:=by
  obtain ⟨v,u,n,a,z,l,rfl,h1,h2,_,hu,h3,h4,_,h5,_,_,_,e⟩:=Fy hok (EF hok) hf
  have e1:(idX t).vars[v]?=some (v:Int):=EV h1
  have e2:(idX t).vals[v]?=some (rangeI n):=by simp [idX,h2]
  exact Ke e1 e2 (EV hu)
theorem OT {t:Tsk} (hok:TaskOk t):SymP t (idX t):=by
  refine ⟨EF hok,Ha _,HM (EF hok) hok.2.2.2.2.1 fun f=>Fp hok,fun k hk=>?_⟩
  obtain ⟨o,ho⟩:=AR (l:=t.ops) (k:=k) hk
  have hoo:=hok.2.2.2.2.2 k o ho
  refine ⟨o,o,k,ho,EV hk,by rw [BA,ho],rfl,HM (EF hok) hoo.2.2.2.2.1 fun f=>Fp hok,?_⟩
  have:o.effs.map (imE (idX t))=o.effs.map id:=List.map_congr_left fun e he=>Mu (EF hok) (Hq hoo e he) fun f=>Fp hok
  rw [this,List.map_id]
theorem demand0 {t:Tsk} (hok:TaskOk t):BE t []=some ⟨0⟩:=by
  unfold BE Do
  rw [Af,if_neg (by rw [FE.2 hok];simp)]
  rfl
theorem demand2 {t:Tsk} {x y:Swp} (hok:TaskOk t):BE t [x,y]=some ⟨if bof (SymP t x∧SymP t y)=true then 0 else 2⟩:=by
  unfold BE Do
  rw [Af,if_neg (by rw [FE.2 hok];simp)]
  simp only [rng]
  rw [JZ hok,JZ hok,Af,Af]
  by_cases hx:SymP t x
  · rw [Be hx,Bq]
    by_cases hy:SymP t y
    · rw [Be hy,Bq,Be (p:=SymP t x∧SymP t y) ⟨hx,hy⟩];rfl
    · rw [AQ hy,BO,AQ (p:=SymP t x∧SymP t y) (fun h=>hy h.2)];rfl
  · rw [AQ hx,BO,AQ (p:=SymP t x∧SymP t y) (fun h=>hx h.1)];rfl
def compX (x y:Swp):Swp:=⟨alongL x.vars y.vars,x.vals.mapIdx fun v l=>alongL l ((y.vals[((x.vars[v]?).getD 0).toNat]?).getD []),alongL x.ops y.ops⟩
theorem Ir {x y:Swp} {v a:Nat} {l m:List Int} (h1:x.vars[v]?=some (a:Int)) (h2:x.vals[v]?=some l) (h3:y.vals[a]?=some m):(compX x y).vals[v]?=some (alongL l m):=by
  simp [compX,List.getElem?_mapIdx,h1,h2,h3]
theorem KX {t:Tsk} {x y:Swp} (hx:FactsPerm t x) (hy:FactsPerm t y):FactsPerm t (compX x y):=by
  refine ⟨HL hx.1 hy.1,by simp [compX,hx.2.1],fun k hk=>?_⟩
  obtain ⟨n,a,l,q1,q2,q3,q4,q5⟩:=hx.2.2 k hk
  obtain ⟨ha1,ha2⟩:=hx.1.mem (List.mem_of_getElem? q2)
  obtain ⟨a,rfl⟩:=Int.eq_ofNat_of_zero_le ha1
  obtain ⟨n',b,m,p1,p2,p3,p4,p5⟩:=hy.2.2 a (by omega)
  rw [BA] at q4
  have e:n=n':=by rw [q4] at p1;have:=Option.some.inj p1;omega
  subst e
  exact ⟨n,b,alongL l m,q1,Fo hx.1 hy.1.len q2 p2,Ir q2 q3 p3,p4,HL q5 p5⟩
theorem KY {t:Tsk} {x y:Swp} (hok:TaskOk t) (hx:FactsPerm t x) (hy:FactsPerm t y) {f:Fct} (hf:FactOk t.vars f):imF (compX x y) f=imF y (imF x f):=by
  obtain ⟨v,u,n,a,z,l,rfl,h1,h2,h3,hu,h4,h5,h6,h7,h8,h9,h10,e⟩:=Fy hok hx hf
  have hf2:=OR hok hx hf
  rw [e] at hf2 ⊢
  obtain ⟨v',u',n',a',z',l',e',g1,g2,g3,gu,g4,g5,g6,g7,g8,g9,g10,e2⟩:=Fy hok hy hf2
  have e3:v'=a:=by have:=congrArg Fct.var e';simp at this;omega
  have e4:u'=z:=by have:=congrArg Fct.val e';simp at this;omega
  subst e3 e4
  rw [e2]
  have hn:n'=n:=by rw [g2] at h10;have:=Option.some.inj h10;omega
  subst hn
  exact Ke (Fo hx.1 hy.1.len h4 g4) (Ir h4 h5 g5) (Fo h6 g6.len h7 g7)
theorem EM {t:Tsk} {x:Swp} (hx:SymP t x) {k:Nat} (hk:k < t.ops.length):∃ (o p:Opr) (a:Nat),t.ops[k]?=some o∧x.ops[k]?=some (a:Int)∧a < t.ops.length∧t.ops[a]?=some p∧o.cost=p.cost∧imL x o.pre=p.pre∧o.effs.map (imE x)=p.effs:=by
  obtain ⟨o,p,a,h1,h2,h3,h4⟩:=hx.2.2.2 k hk
  obtain ⟨ha1,ha2⟩:=hx.2.1.mem (List.mem_of_getElem? h2)
  obtain ⟨a,rfl⟩:=Int.eq_ofNat_of_zero_le ha1
  rw [BA] at h3
  exact ⟨o,p,a,h1,h2,by omega,h3,h4⟩
theorem JA {t:Tsk} {x y:Swp} (hok:TaskOk t) (hx:SymP t x) (hy:SymP t y):SymP t (compX x y):=by
  have hz:=KX hx.1 hy.1
  have hc:∀ f,FactOk t.vars f→imF (compX x y) f=imF y (imF x f):=fun f=>KY hok hx.1 hy.1
  have hL:∀ fs,FactsOk t.vars fs→imL (compX x y) fs=imL y (imL x fs):=fun fs hf=>Jz hok hx.1 hy.1 hz hf (Iq hok hx.1 hf) hc
  refine ⟨hz,HL hx.2.1 hy.2.1,by rw [hL _ hok.2.2.2.2.1,hx.2.2.1,hy.2.2.1],fun k hk=>?_⟩
  obtain ⟨o,p,a,h1,h2,ha,h3,h4,h5,h6⟩:=EM hx hk
  obtain ⟨p',q,b,g1,g2,hb,g3,g4,g5,g6⟩:=EM hy ha
  obtain rfl:p=p':=by rw [g1] at h3;exact (Option.some.inj h3).symm
  have hoo:=hok.2.2.2.2.2 k o h1
  refine ⟨o,q,b,h1,Fo hx.2.1 hy.2.1.len h2 g2,by rw [BA,g3],h4.trans g4,by rw [hL _ hoo.2.2.2.2.1,h5,g5],?_⟩
  have:o.effs.map (imE (compX x y))=o.effs.map (imE y ∘ imE x):=List.map_congr_left fun e he=>Ms hok hx.1 hy.1 hz (Hq hoo e he) hc
  rw [this,← List.map_map,h6,g6]
end
section
open Go Go.RowKit
theorem FH {p:Prop} (h:bof p=true):p:=Classical.byContradiction fun hn=>by rw [AQ hn] at h;cases h
abbrev Ky:=Int×List Fct×List Eff
def kyO (x:Swp) (o:Opr):Ky:=(o.cost,imL x o.pre,o.effs.map (imE x))
def kyP (p:Opr):Ky:=(p.cost,p.pre,p.effs)
theorem Mv {x:Swp} {o p:Opr}:Mt x o p↔kyO x o=kyP p:=by
  unfold Mt kyO kyP
  constructor
  · rintro ⟨h1,h2,h3⟩;rw [h1,h2,h3]
  · intro h
    injection h with h1 h
    injection h with h2 h3
    exact ⟨h1,h2,h3⟩
theorem Is {x:Swp} {o:Opr}:∀ (ps:List Opr) (bs:List Bool) (k j:Nat),fstM x o ps bs k=some j→∃ i,j=k + i∧(∃ p,ps[i]?=some p∧Mt x o p)∧bs[i]?=some false∧∀ (i':Nat) (p':Opr),i' < i→ps[i']?=some p'→bs[i']?=some false→¬ Mt x o p'
  | [],bs,k,j,h=>by simp [fstM] at h
  | p :: ps,[],k,j,h=>by simp [fstM] at h
  | p :: ps,b :: bs,k,j,h=>by
    unfold fstM at h
    split at h
    · rename_i h1
      injection h with h
      exact ⟨0,by omega,⟨p,rfl,FH h1.2⟩,by rw [h1.1];rfl,fun i' p' hi=>absurd hi (by omega)⟩
    · rename_i h1
      obtain ⟨i,h2,⟨q,h3,h4⟩,h5,h6⟩:=Is ps bs (k + 1) j h
      refine ⟨i + 1,by omega,⟨q,h3,h4⟩,h5,fun i' p' hi hp hb=>?_⟩
      cases i' with
      | zero =>
        intro hm
        have hp':p=p':=by simpa using hp
        have hb':b=false:=by simpa using hb
        subst hp'
        exact h1 ⟨hb',Be hm⟩
      | succ i'=>exact h6 i' p' (by omega) hp hb
theorem KZ {x:Swp} {o:Opr}:∀ (ps:List Opr) (bs:List Bool) (k:Nat),ps.length=bs.length→fstM x o ps bs k=none→∀ (i:Nat) (p:Opr),ps[i]?=some p→bs[i]?=some false→¬ Mt x o p
  | [],bs,k,_,_=>fun i p hp=>by simp at hp
  | p :: ps,[],k,hl,_=>by simp at hl
  | p :: ps,b :: bs,k,hl,h=>by
    unfold fstM at h
    split at h
    · cases h
    · rename_i h1
      have ih:=KZ ps bs (k + 1) (by simpa using hl) h
      intro i q hq hb hm
      cases i with
      | zero =>
        have hq':p=q:=by simpa using hq
        have hb':b=false:=by simpa using hb
        subst hq'
        exact h1 ⟨hb',Be hm⟩
      | succ i=>exact ih i q hq hb hm
structure OpI (t:Tsk) (x:Swp) (tk:List Bool) (acc:List Int):Prop where
  len:tk.length=t.ops.length
  tak:∀ k:Nat,k < t.ops.length→(tk[k]?=some true↔(k:Int)∈acc)
  nod:acc.Nodup
  mat:∀ (j:Nat) (a:Int),acc[j]?=some a→∃ (o p:Opr) (k:Nat),a=(k:Int)∧t.ops[j]?=some o∧t.ops[k]?=some p∧Mt x o p
theorem OpI.nil (t:Tsk) (x:Swp):OpI t x (List.replicate t.ops.length false) []:=⟨by simp,fun k hk=>by simp [hk],by simp,fun j a h=>by simp at h⟩
theorem OpI.snoc {t:Tsk} {x:Swp} {tk:List Bool} {acc:List Int} (h:OpI t x tk acc) {o:Opr} (ho:t.ops[acc.length]?=some o) {k:Nat} {p:Opr} (hp:t.ops[k]?=some p) (hb:tk[k]?=some false) (hm:Mt x o p):OpI t x (tk.set k true) (acc ++ [(k:Int)]):=by
  have hk:=Aw hp
  have hnot:(k:Int) ∉ acc:=fun e=>by rw [(h.tak k hk).2 e] at hb;simp at hb
  refine ⟨by rw [List.length_set,h.len],fun j hj=>?_,?_,fun j a ha=>?_⟩
  · rw [List.getElem?_set,List.mem_append]
    by_cases e:k=j
    · subst e
      have:=h.len
      simp [show k < tk.length by omega]
    · rw [if_neg e,h.tak j hj]
      have:¬ (j:Int)=(k:Int):=by omega
      simp [this]
  · rw [List.nodup_append]
    exact ⟨h.nod,by simp,fun a ha b hb e=>hnot (by simp at hb;rw [← hb,← e];exact ha)⟩
  · by_cases hj:j < acc.length
    · rw [List.getElem?_append_left hj] at ha
      exact h.mat j a ha
    · have hj2:j=acc.length:=by have:=Aw ha;simp at this;omega
      subst hj2
      rw [List.getElem?_append_right (Nat.le_refl _),Nat.sub_self] at ha
      have:(k:Int)=a:=by simpa using ha
      exact ⟨o,p,k,this.symm,ho,hp,hm⟩
theorem Kf {t:Tsk} {x:Swp}:∀ (os:List Opr) (tk:List Bool) (acc l:List Int),OpI t x tk acc→os=t.ops.drop acc.length→acc.length + os.length=t.ops.length→opsL x t.ops os tk acc=some l→∃ tk',OpI t x tk' l∧l.length=t.ops.length
  | [],tk,acc,l,hi,_,hl,h=>by
    unfold opsL at h
    injection h with h
    subst h
    exact ⟨tk,hi,by simpa using hl⟩
  | o :: os,tk,acc,l,hi,hd,hl,h=>by
    unfold opsL at h
    cases hf:fstM x o t.ops tk 0 with
    | none=>rw [hf] at h;cases h
    | some j =>
      rw [hf] at h
      simp only at h
      obtain ⟨i,e,⟨p,hp,hm⟩,hb,_⟩:=Is _ _ _ _ hf
      have e:j=i:=by omega
      subst e
      have ho:t.ops[acc.length]?=some o:=by
        have:(t.ops.drop acc.length)[0]?=some o:=by rw [← hd];rfl
        rwa [List.getElem?_drop,Nat.add_zero] at this
      refine Kf os _ _ l (hi.snoc ho hp hb hm) ?_ ?_ h
      · have:t.ops.drop (acc.length + 1)=(o :: os).drop 1:=by rw [hd,List.drop_drop]
        rw [List.length_append,List.length_singleton,this];rfl
      · simp at hl ⊢;omega
theorem La {t:Tsk} {x:Swp} {π:Nat→Nat} (hπ:∀ i j,i < t.ops.length→j < t.ops.length→π i=π j→i=j) (hm:∀ (i:Nat) (o:Opr),t.ops[i]?=some o→∃ p,t.ops[π i]?=some p∧Mt x o p) :
    ∀ (os:List Opr) (tk:List Bool) (acc:List Int),OpI t x tk acc→os=t.ops.drop acc.length→acc.length + os.length=t.ops.length→∃ l,opsL x t.ops os tk acc=some l
  | [],tk,acc,_,_,_=>⟨acc,rfl⟩
  | o :: os,tk,acc,hi,hd,hl=>by
    have ho:t.ops[acc.length]?=some o:=by
      have:(t.ops.drop acc.length)[0]?=some o:=by rw [← hd];rfl
      rwa [List.getElem?_drop,Nat.add_zero] at this
    unfold opsL
    cases hf:fstM x o t.ops tk 0 with
    | some j =>
      obtain ⟨i,e,⟨p,hp,hmt⟩,hb,_⟩:=Is _ _ _ _ hf
      have e:j=i:=by omega
      subst e
      refine La hπ hm os _ _ (hi.snoc ho hp hb hmt) ?_ ?_
      · have:t.ops.drop (acc.length + 1)=(o :: os).drop 1:=by rw [hd,List.drop_drop]
        rw [List.length_append,List.length_singleton,this];rfl
      · simp at hl ⊢;omega
    | none =>
      exfalso
      have hno:=KZ t.ops tk 0 hi.len.symm hf
      have hlt:=Aw ho
      let kO:Nat→Bool:=fun i=>bof (∃ q,t.ops[i]?=some q∧kyO x q=kyO x o)
      let kP:Nat→Bool:=fun i=>bof (∃ q,t.ops[i]?=some q∧kyP q=kyO x o)
      let A:=(List.range t.ops.length).filter kO
      let A':=(List.range acc.length).filter kO
      let B:=(List.range t.ops.length).filter kP
      have h1:A.length≤B.length:=by
        have:=Ew (l₁:=A.map π) (l₂:=B) (Eu (List.nodup_range.filter _) fun a ha b hb e=>hπ a b (List.mem_range.1 (List.mem_filter.1 ha).1) (List.mem_range.1 (List.mem_filter.1 hb).1) e) fun b hb=>by
          obtain ⟨a,ha,rfl⟩:=List.mem_map.1 hb
          obtain ⟨ha1,ha2⟩:=List.mem_filter.1 ha
          obtain ⟨q,hq,hqe⟩:=FH ha2
          obtain ⟨p,hp,hpm⟩:=hm a q hq
          refine List.mem_filter.2 ⟨List.mem_range.2 (Aw hp),Be ⟨p,hp,?_⟩⟩
          rw [← Mv.1 hpm,hqe]
        rwa [List.length_map] at this
      have h2:B.length≤A'.length:=by
        have:=Ew (l₁:=B) (l₂:=A'.map fun j=>((acc[j]?).getD 0).toNat) (List.nodup_range.filter _) fun b hb=>by
          obtain ⟨hb1,hb2⟩:=List.mem_filter.1 hb
          obtain ⟨q,hq,hqe⟩:=FH hb2
          have hbl:=List.mem_range.1 hb1
          obtain ⟨c,hc⟩:=AR (l:=tk) (k:=b) (by rw [hi.len];exact hbl)
          cases c with
          | false=>exact absurd (Mv.2 hqe.symm) (hno b q hq hc)
          | true =>
            obtain ⟨j,hj⟩:=List.getElem?_of_mem ((hi.tak b hbl).1 hc)
            obtain ⟨o',p',k,e1,e2,e3,e4⟩:=hi.mat j _ hj
            have e5:k=b:=by omega
            subst e5
            rw [hq] at e3
            injection e3 with e3
            subst e3
            refine List.mem_map.2 ⟨j,List.mem_filter.2 ⟨List.mem_range.2 (Aw hj),Be ⟨o',e2,?_⟩⟩,by rw [hj];simp⟩
            rw [Mv.1 e4,hqe]
        rwa [List.length_map] at this
      have h3 : A'.length + 1≤A.length:=by
        have:=Ew (l₁:=A' ++ [acc.length]) (l₂:=A) (List.nodup_append.2 ⟨List.nodup_range.filter _,by simp,fun a ha b hb e=>by
          simp at hb
          have:=List.mem_range.1 (List.mem_filter.1 ha).1
          omega⟩) fun b hb=>by
            rcases List.mem_append.1 hb with hb|hb
            · obtain ⟨hb1,hb2⟩:=List.mem_filter.1 hb
              have:=List.mem_range.1 hb1
              exact List.mem_filter.2 ⟨List.mem_range.2 (by omega),hb2⟩
            · simp at hb
              subst hb
              exact List.mem_filter.2 ⟨List.mem_range.2 hlt,Be ⟨o,ho,rfl⟩⟩
        simpa using this
      omega
end
section
open Go Go.RowKit
def backN (l:List Int):List Int:=(List.range l.length).map fun k:Nat=>((l.idxOf (k:Int):Nat):Int)
theorem OU:∀ {l:List Int},l.Nodup→∀ {i:Nat} {x:Int},l[i]?=some x→l.idxOf x=i
  | [],_,i,x,h=>by simp at h
  | y :: l,hn,0,x,h=>by
    have:y=x:=by simpa using h
    rw [this,List.idxOf_cons_self]
  | y :: l,hn,i + 1,x,h=>by
    obtain ⟨h1,h2⟩:=List.nodup_cons.1 hn
    have hx:l[i]?=some x:=by simpa using h
    have hne:¬ y=x:=fun e=>h1 (e ▸ List.mem_of_getElem? hx)
    rw [List.idxOf_cons,OU h2 hx,show (y == x)=false from by simpa using hne]
    rfl
theorem Gr {l:List Int} {n:Nat} (hp:PermR l n) (_:n≤1000000):True∧(backN l).length=n∧∀ i k:Nat,l[i]?=some (k:Int)→(backN l)[k]?=some (i:Int):=by
  refine ⟨trivial,by simp [backN,hp.len],fun i k h=>?_⟩
  have:=hp.mem (List.mem_of_getElem? h)
  unfold backN
  rw [List.getElem?_map,List.getElem?_range (by rw [hp.len];omega)]
  show some ((l.idxOf (k:Int):Nat):Int)=_
  rw [OU hp.nodup h]
theorem It {l:List Int} {n:Nat} (hp:PermR l n) (hn:n≤1000000):PermR (backN l) n:=by
  obtain ⟨_,h2,h3⟩:=Gr hp hn
  have key:∀ (k:Nat) (z:Int),(backN l)[k]?=some z→∃ i:Nat,z=(i:Int)∧i < n∧l[i]?=some (k:Int):=fun k z hz=>by
    obtain ⟨i,hin,hi⟩:=Ip hp (a:=k) (by rw [← h2];exact Aw hz)
    have:=h3 i k hi
    rw [hz] at this
    exact ⟨i,Option.some.inj this,hin,hi⟩
  refine KW h2 (fun k z hz=>?_) (fun k j z g1 g2=>?_)
  · obtain ⟨i,rfl,hi,_⟩:=key k z hz;omega
  · obtain ⟨i,rfl,_,hi⟩:=key k z g1
    obtain ⟨i',e,_,hi'⟩:=key j _ g2
    obtain rfl:i=i':=by omega
    rw [hi] at hi'
    have:=Option.some.inj hi'
    omega
def invN (x:Swp):Swp:=⟨backN x.vars,(List.range x.vals.length).map fun w=>backN ((x.vals[(((backN x.vars)[w]?).getD 0).toNat]?).getD []),backN x.ops⟩
theorem Lb {t:Tsk} {x:Swp} (hok:TaskOk t) (hx:FactsPerm t x) {v a:Nat} {l:List Int} (h1:x.vars[v]?=some (a:Int)) (h2:x.vals[v]?=some l):(invN x).vals[a]?=some (backN l):=by
  obtain ⟨_,h4,h5⟩:=Gr hx.1 (by have:=hok.1;omega)
  have:=hx.1.mem (List.mem_of_getElem? h1)
  have h6:=h5 v a h1
  show ((List.range x.vals.length).map _)[a]?=_
  rw [List.getElem?_map,List.getElem?_range (by rw [hx.2.1];omega)]
  simp [h6,h2]
theorem EN {t:Tsk} {x:Swp} (hok:TaskOk t) (hx:FactsPerm t x):FactsPerm t (invN x):=by
  have hl:t.vars.length≤1000000:=by have:=hok.1;omega
  refine ⟨It hx.1 hl,by simp [invN,hx.2.1],fun k hk=>?_⟩
  obtain ⟨v,hv,hvk⟩:=Ip hx.1 hk
  obtain ⟨n,a,l,q1,q2,q3,q4,q5⟩:=hx.2.2 v hv
  obtain rfl:a=(k:Int):=by rw [hvk] at q2;exact (Option.some.inj q2).symm
  rw [BA] at q4
  have hn:=hok.2.2.1 v n q1
  obtain ⟨_,h4,h5⟩:=Gr hx.1 hl
  exact ⟨n,v,backN l,q4,h5 v k hvk,Lb hok hx hvk q3,by rw [BA,q1],It q5 (by omega)⟩
theorem Iu {t:Tsk} {x:Swp} (hok:TaskOk t) (hx:FactsPerm t x) {f:Fct} (hf:FactOk t.vars f):imF (invN x) (imF x f)=f:=by
  obtain ⟨v,u,n,a,z,l,rfl,h1,h2,h3,hu,h4,h5,h6,h7,h8,h9,h10,e⟩:=Fy hok hx hf
  rw [e]
  have hl:t.vars.length≤1000000:=by have:=hok.1;omega
  exact Ke ((Gr hx.1 hl).2.2 v a h4) (Lb hok hx h4 h5) ((Gr h6 (by omega)).2.2 u z h7)
theorem Ld {t:Tsk} {x:Swp} (hok:TaskOk t) (hx:FactsPerm t x) {fs:List Fct} (hf:FactsOk t.vars fs):imL (invN x) (imL x fs)=fs:=by
  rw [← Jz hok hx (EN hok hx) (EF hok) hf (Iq hok hx hf) (fun f hf=>by rw [Iu hok hx hf,Fp hok hf])]
  exact HM (EF hok) hf fun f=>Fp hok
theorem PO {t:Tsk} {x:Swp} (hok:TaskOk t) (hx:FactsPerm t x) {e:Eff} (he:EffOk t.vars e):imE (invN x) (imE x e)=e:=by
  rw [← Ms hok hx (EN hok hx) (EF hok) he (fun f hf=>by rw [Iu hok hx hf,Fp hok hf])]
  exact Mu (EF hok) he fun f=>Fp hok
theorem PP {t:Tsk} {x:Swp} (hok:TaskOk t) (hx:SymP t x):SymP t (invN x):=by
  have hl:t.ops.length≤1000000:=by have:=hok.2.1;omega
  refine ⟨EN hok hx.1,It hx.2.1 hl,?_,fun k hk=>?_⟩
  · have:=Ld hok hx.1 hok.2.2.2.2.1
    rwa [hx.2.2.1] at this
  · obtain ⟨j,hj,hjk⟩:=Ip hx.2.1 hk
    obtain ⟨o,p,a,h1,h2,ha,h3,h4,h5,h6⟩:=EM hx hj
    obtain rfl:a=k:=by rw [hjk] at h2;have:=Option.some.inj h2;omega
    have hoo:=hok.2.2.2.2.2 j o h1
    refine ⟨p,o,j,h3,(Gr hx.2.1 hl).2.2 j a hjk,by rw [BA,h1],h4.symm,by rw [← h5,Ld hok hx.1 hoo.2.2.2.2.1],?_⟩
    rw [← h6,List.map_map]
    have:o.effs.map (imE (invN x) ∘ imE x)=o.effs.map id:=List.map_congr_left fun e he=>PO hok hx.1 (Hq hoo e he)
    rw [this,List.map_id]
end
end Go.Proofs.YtdhaelekmjgbmaaGreatDoor

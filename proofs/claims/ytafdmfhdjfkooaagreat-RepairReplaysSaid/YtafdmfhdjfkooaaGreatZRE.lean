/- RepairReplays returns true for every task and every list of texts (a slice takes no more bytes than there are addresses: the form's own reach), and these read behind the call as before. No conditions. -/
import Derived.Test.YtafdmfhdjfkooaaGreatZRD
import Derived.Test.YtafdmfhdjfkooaaGreatRows
set_option linter.unusedVariables false
set_option linter.unusedSimpArgs false
namespace Go.Proofs.YtafdmfhdjfkooaaGreat
open Go Go.RowKit
section
open Go Go.RowKit
attribute [local irreducible] ewp owp hwp hwq hws Ev Evg Fn retPost loud loudS Res1
attribute [local irreducible] hwx loudX hwz zNext
noncomputable def DT (x0:Tsk) (x1:List ByteArray) (x2:Int) (x3:Int):Option (Rsl×Int×Err) :=
  bnd (Dz x0 x1 x2) fun q34=>if q34.2.2.n≠0 then (some ((⟨0,([]:List Int),0,0⟩:Rsl),0,(⟨q34.2.2.n⟩:Err))) else (bnd (Dp q34.1 x3) fun q77=>if q77.2.n≠0 then (some ((⟨0,([]:List Int),0,0⟩:Rsl),0,(⟨q77.2.n⟩:Err))) else (if q77.1.verdict≠1 then (some (q77.1,0,(⟨0⟩:Err))) else (bnd (rng (ρ:=Rsl×Int×Err) (fun (k116:Nat) (a117:Int) (s114:(List Int)×(List ByteArray))=>bnd (atI q34.2.1 a117) fun a143=>if 0≤a143.op then (bnd (atI x0.ops a143.op) fun a156=>bnd (appI 8 s114.1 ([a143.op]:List Int)) fun u158=>bnd (appI 16 s114.2 [a156.name]) fun u160=>some (.next (u158,u160))) else (some (.next (s114.1,s114.2)))) q77.1.plan 0 (([]:List Int),([]:List ByteArray))) fun res112=>fin res112 fun (s269:(List Int)×(List ByteArray))=>bnd (Dq s269.2 x1) fun q273=>some ((⟨q77.1.verdict,s269.1,q77.1.cost,q77.1.expanded⟩:Rsl),q273,(⟨0⟩:Err)))))
theorem JM {w:World} {A:Nat→Prop} (hA:∀ k,A k→k < w.heap.size) {vx0:Value} {x0:Tsk} (f4:Vb w A vx0 x0) {vx1:Value} {x1:List ByteArray} (v0:Vb w A vx1 x1) {x2:Int} (rx2:inI64 x2) {x3:Int} (rx3:inI64 x3) {r:Rsl×Int×Err} (hm:DT x0 x1 x2 x3=some r) :
    Fn Tryz.prog 11 [vx0,vx1,(.int .i64 x2),(.int .i64 x3)] w fun v w'=>Ext w w'∧T3 w' (upA A w w') v r:=by
 obtain ⟨O,hB,c6⟩:=enter hA
 replace f4:=f4.mono c6
 obtain ⟨n9,rfl,v6,v7,v8,v9,rfl,h1,i1,j1,g1⟩:=f4
 obtain ⟨n3,o3,rfl⟩:=h1.form
 obtain ⟨p3,q3,rfl⟩:=i1.form
 obtain ⟨r3,s3,rfl⟩:=j1.form
 obtain ⟨t3,u3,rfl⟩:=g1.form
 replace v0:=v0.mono c6
 obtain ⟨v3,w3,rfl⟩:=v0.form
 refine AD Tryz.func11 rfl Tryz.ntmps11 rfl ?_
 unfold DT at hm
 refine Al (Aj (CD 2 O rfl rfl fun g4 x6 d6 p1 f1=>?_))
 replace f1:Lc 2 x6 d6 g4 26 [(.slice n3 x0.vars.length o3),(.slice p3 x0.init.length q3),(.slice r3 x0.goal.length s3),(.slice t3 x0.ops.length u3)]:=f1
 refine Bv 3 d6 rfl fun v1 o9 y6 l1 e0=>?_
 refine Ar rfl rfl (Ar rfl rfl (o_z ?_))
 refine Al (Aj ?_)
 replace f1:=f1.st l1
 refine Bk (hl:=rfl) (hc:=(f1.1).cellsAt) rfl rfl ?_
 refine Am rfl rfl (Am rfl rfl ?_)
 obtain ⟨k1,z6,hm⟩:=bs hm
 replace v0:=(v0.st p1).st l1
 replace h1:=(h1.st p1).st l1
 replace i1:=(i1.st p1).st l1
 replace j1:=(j1.st p1).st l1
 replace g1:=(g1.st p1).st l1
 refine DQ (O:=y6) (R:=fun w' F v=>T3 w' F v k1) (Jh Fr.lt (Vb.ofAgg (cs:=[(.slice n3 x0.vars.length o3),(.slice p3 x0.init.length q3),(.slice r3 x0.goal.length s3),(.slice t3 x0.ops.length u3)]) (x:=x0) rfl ⟨_,_,_,_,rfl,h1,i1,j1,g1⟩) v0 rx2 z6) rfl rfl fun p9 q9 a7 c1 b7=>?_
 obtain ⟨r9,s9,t9,rfl,c7,m1,d7⟩:=b7
 obtain ⟨e7,rfl,u9,w9,x9,y9,rfl,y3,z3,a4,b4⟩:=c7
 obtain ⟨e6,f6,rfl⟩:=y3.form
 obtain ⟨g6,h6,rfl⟩:=z3.form
 obtain ⟨i6,j6,rfl⟩:=a4.form
 obtain ⟨k6,l6,rfl⟩:=b4.form
 obtain ⟨m6,n6,rfl⟩:=m1.form
 obtain ⟨rfl,f7⟩:=d7.err
 refine Am rfl rfl (Bp rfl rfl rfl (Bp rfl rfl rfl (Bp rfl rfl rfl (Bv 4 a7 rfl fun g7 z9 c4 w0 m2=>?_))))
 refine AO m2 rfl rfl rfl (Nat.le_of_ble_eq_true rfl) (by first|exact allOne rfl|simp [Value.cells,Value.oneCell',AH]) fun h7 y0 m2=>?_
 replace m2:Lc 4 h7 c4 g7 26 [(.slice e6 k1.1.vars.length f6),(.slice g6 k1.1.init.length h6),(.slice i6 k1.1.goal.length j6),(.slice k6 k1.1.ops.length l6)]:=m2
 refine Ar rfl rfl (Ar rfl rfl (o_z ?_))
 refine Al (Al (Aj (Am rfl rfl (DJ rfl rfl (fun h4=>?_) fun h4=>?_))))
 ·
  replace hm:=ip hm h4
  refine o_z ?_
  refine Ah rfl (Al (Aj (Cr rfl rfl rfl ?_)))
  refine Am rfl rfl ?_
  replace e0:=((e0.st c1).st w0).st y0
  refine AO e0 rfl rfl rfl (Nat.le_of_ble_eq_true rfl) (by first|exact allOne rfl|simp [Value.cells,Value.oneCell',AH]) fun o6 i7 e0=>?_
  replace e0:Lc 3 o6 c4 v1 32 [(.int .i64 0),(.slice none 0 0),(.int .i64 0),(.int .i64 0)]:=e0
  refine Ar rfl rfl (Ar rfl rfl (o_z ?_))
  refine AF ?_
  obtain rfl:=sm hm
  replace hB:=(((((hB.st p1).st l1).st c1).st w0).st y0).st i7
  exact ret3 rfl (BH (cs:=[(.int .i64 0),(.slice none 0 0),(.int .i64 0),(.int .i64 0)]) rfl rfl e0.1.cellsAt) (AA rfl) (AA rfl) ⟨hB.ext,_,_,_,rfl,(Vb.mono (F:=Fr 0 o6 c4) (Vb.ofAgg (cs:=[(.int .i64 0),(.slice none 0 0),(.int .i64 0),(.int .i64 0)]) (x:=(⟨0,([]:List Int),0,0⟩:Rsl)) rfl ⟨_,rfl,(Vb.nil _ _),(show inI64 0 from by decide),(show inI64 0 from by decide),(show inI64 0 from by decide)⟩) hB.out),(vInt (show inI64 (0) from by decide)),(vErr f7)⟩
 ·
  replace hm:=im hm h4
  refine o_z ?_
  refine Ae rfl (AJ (Al (Aj (Bk (hl:=rfl) (hc:=(m2.1).cellsAt) rfl rfl ?_))))
  refine Am rfl rfl ?_
  obtain ⟨c0,j7,hm⟩:=bs hm
  replace y3:=(y3.st w0).st y0
  replace z3:=(z3.st w0).st y0
  replace a4:=(a4.st w0).st y0
  replace b4:=(b4.st w0).st y0
  refine DQ (O:=c4) (R:=fun w' F v=>T2 w' F v c0) (IJ Fr.lt (Vb.ofAgg (cs:=[(.slice e6 k1.1.vars.length f6),(.slice g6 k1.1.init.length h6),(.slice i6 k1.1.goal.length j6),(.slice k6 k1.1.ops.length l6)]) (x:=k1.1) rfl ⟨_,_,_,_,rfl,y3,z3,a4,b4⟩) rx3 j7) rfl rfl fun aA bA k7 e1 l7=>?_
  obtain ⟨cA,dA,rfl,m7,n7⟩:=l7
  obtain ⟨o7,rfl,eA,rfl,b1,p6,q6,r6⟩:=m7
  obtain ⟨q1,r1,rfl⟩:=b1.form
  obtain ⟨rfl,p7⟩:=n7.err
  refine Am rfl rfl (Bp rfl rfl rfl (Bp rfl rfl rfl (Bv 5 k7 rfl fun k2 fA l2 g0 f0=>?_)))
  refine AO f0 rfl rfl rfl (Nat.le_of_ble_eq_true rfl) (by first|exact allOne rfl|simp [Value.cells,Value.oneCell',AH]) fun i4 h0 f0=>?_
  replace f0:Lc 5 i4 l2 k2 32 [(.int .i64 c0.1.verdict),(.slice q1 c0.1.plan.length r1),(.int .i64 c0.1.cost),(.int .i64 c0.1.expanded)]:=f0
  refine Ar rfl rfl (o_z ?_)
  refine Al (Al (Aj (Am rfl rfl (DJ rfl rfl (fun y1=>?_) fun y1=>?_))))
  ·
   replace hm:=ip hm y1
   refine o_z ?_
   refine Ah rfl (Al (Aj (Cr rfl rfl rfl ?_)))
   refine Am rfl rfl ?_
   replace e0:=(((((e0.st c1).st w0).st y0).st e1).st g0).st h0
   refine AO e0 rfl rfl rfl (Nat.le_of_ble_eq_true rfl) (by first|exact allOne rfl|simp [Value.cells,Value.oneCell',AH]) fun n2 j4 e0=>?_
   replace e0:Lc 3 n2 l2 v1 32 [(.int .i64 0),(.slice none 0 0),(.int .i64 0),(.int .i64 0)]:=e0
   refine Ar rfl rfl (Ar rfl rfl (o_z ?_))
   refine AF ?_
   obtain rfl:=sm hm
   replace hB:=((((((((hB.st p1).st l1).st c1).st w0).st y0).st e1).st g0).st h0).st j4
   exact ret3 rfl (BH (cs:=[(.int .i64 0),(.slice none 0 0),(.int .i64 0),(.int .i64 0)]) rfl rfl e0.1.cellsAt) (AA rfl) (AA rfl) ⟨hB.ext,_,_,_,rfl,(Vb.mono (F:=Fr 0 n2 l2) (Vb.ofAgg (cs:=[(.int .i64 0),(.slice none 0 0),(.int .i64 0),(.int .i64 0)]) (x:=(⟨0,([]:List Int),0,0⟩:Rsl)) rfl ⟨_,rfl,(Vb.nil _ _),(show inI64 0 from by decide),(show inI64 0 from by decide),(show inI64 0 from by decide)⟩) hB.out),(vInt (show inI64 (0) from by decide)),(vErr p7)⟩
  ·
   replace hm:=im hm y1
   refine o_z ?_
   refine Ae rfl (AJ (Al (Al (Aj (AE rfl rfl (AC (hc:=Blk.cell (i:=0) (f0.1) rfl) rfl rfl ?_))))))
   refine Hr rfl rfl rfl (fun z1=>?_) fun z1=>?_
   ·
    replace hm:=ip hm z1
    refine o_z ?_
    refine Ah rfl (Al (Aj (Bk (hl:=rfl) (hc:=(f0.1).cellsAt) rfl rfl ?_)))
    replace e0:=(((((e0.st c1).st w0).st y0).st e1).st g0).st h0
    refine AO e0 rfl rfl rfl (Nat.le_of_ble_eq_true rfl) (by first|exact allOne rfl|simp [Value.cells,Value.oneCell',AH]) fun o2 p2 e0=>?_
    replace e0:Lc 3 o2 l2 v1 32 [(.int .i64 c0.1.verdict),(.slice q1 c0.1.plan.length r1),(.int .i64 c0.1.cost),(.int .i64 c0.1.expanded)]:=e0
    refine Ar rfl rfl (Ar rfl rfl (o_z ?_))
    refine AF ?_
    obtain rfl:=sm hm
    replace hB:=((((((((hB.st p1).st l1).st c1).st w0).st y0).st e1).st g0).st h0).st p2
    replace b1:=((b1.st g0).st h0).st p2
    exact ret3 rfl (BH (cs:=[(.int .i64 c0.1.verdict),(.slice q1 c0.1.plan.length r1),(.int .i64 c0.1.cost),(.int .i64 c0.1.expanded)]) rfl rfl e0.1.cellsAt) (AA rfl) (AA rfl) ⟨hB.ext,_,_,_,rfl,(Vb.mono (F:=Fr 0 o2 l2) (Vb.ofAgg (cs:=[(.int .i64 c0.1.verdict),(.slice q1 c0.1.plan.length r1),(.int .i64 c0.1.cost),(.int .i64 c0.1.expanded)]) (x:=c0.1) rfl ⟨_,rfl,b1,p6,q6,r6⟩) hB.out),(vInt (show inI64 (0) from by decide)),(vErr (show inI64 0 from by decide))⟩
   ·
    replace hm:=im hm z1
    refine o_z ?_
    refine Ae rfl (AJ (Al (Aj (Ar rfl rfl (o_z ?_)))))
    refine Al (Aj (Ar rfl rfl (o_z ?_)))
    refine Al (Al (Aj (AE rfl rfl (AC (hc:=Blk.cell (i:=1) (f0.1) rfl) rfl rfl ?_))))
    refine AP rfl rfl ?_
    replace b1:=(b1.st g0).st h0
    have a2:c0.1.plan.length≤9223372036854775807:=Nat.le_trans b1.len.2.1 b1.len.2.2
    have q7:inI64 (c0.1.plan.length:Int):=rngNat a2
    refine Am rfl rfl (o_z ?_)
    obtain ⟨b2,q2,hm⟩:=bs hm
    refine AK (aft b2 (fun (j0:(List Int)×(List ByteArray)) (d0:(Option Addr×Nat)×(Option Addr×Nat))=>[(1,(.slice v3 x1.length w3)),(8,(.pointer (some ⟨v1,0,none⟩))),(14,(.pointer (some ⟨k2,0,none⟩))),(15,(.slice d0.1.1 j0.1.length d0.1.2)),(16,(.slice d0.2.1 j0.2.length d0.2.2))]) (fun j0 d0 w'=>∃ O':Lab,Bs w A w' O'∧Vb w' (Fr 0 w' O') (.slice v3 x1.length w3) x1∧Lc 3 w' O' v1 32 [(.int .i64 0),(.slice none 0 0),(.int .i64 0),(.int .i64 0)]∧Lc 5 w' O' k2 32 [(.int .i64 c0.1.verdict),(.slice q1 c0.1.plan.length r1),(.int .i64 c0.1.cost),(.int .i64 c0.1.expanded)]∧Vb w' (Fr 0 w' O') (.slice q1 c0.1.plan.length r1) c0.1.plan∧Rw 7 w' O' 3 (.slice d0.1.1 j0.1.length d0.1.2) j0.1∧Rw 9 w' O' 9 (.slice d0.2.1 j0.2.length d0.2.2) j0.2)) ?_ ?_
    ·
     refine AM ?_
     replace hB:=(((((((hB.st p1).st l1).st c1).st w0).st y0).st e1).st g0).st h0
     replace v0:=(((((v0.st c1).st w0).st y0).st e1).st g0).st h0
     replace h1:=(((((h1.st c1).st w0).st y0).st e1).st g0).st h0
     replace i1:=(((((i1.st c1).st w0).st y0).st e1).st g0).st h0
     replace j1:=(((((j1.st c1).st w0).st y0).st e1).st g0).st h0
     replace g1:=(((((g1.st c1).st w0).st y0).st e1).st g0).st h0
     replace f1:=(((((f1.st c1).st w0).st y0).st e1).st g0).st h0
     replace e0:=(((((e0.st c1).st w0).st y0).st e1).st g0).st h0
     replace m1:=((((m1.st w0).st y0).st e1).st g0).st h0
     refine Bw (σ:=(List Int)×(List ByteArray)) (X:=(Option Addr×Nat)×(Option Addr×Nat)) (c0.1.plan.length) q2 rfl a2 (fun (j0:(List Int)×(List ByteArray)) (d0:(Option Addr×Nat)×(Option Addr×Nat))=>[(1,(.slice v3 x1.length w3)),(4,(.pointer (some ⟨g4,0,none⟩))),(8,(.pointer (some ⟨v1,0,none⟩))),(12,(.slice m6 k1.2.1.length n6)),(14,(.pointer (some ⟨k2,0,none⟩))),(15,(.slice d0.1.1 j0.1.length d0.1.2)),(16,(.slice d0.2.1 j0.2.length d0.2.2)),(47,(.slice q1 c0.1.plan.length r1))]) _ (fun j0 d0 w'=>∃ O':Lab,Bs w A w' O'∧Vb w' (Fr 0 w' O') (.slice v3 x1.length w3) x1∧Lc 2 w' O' g4 26 [(.slice n3 x0.vars.length o3),(.slice p3 x0.init.length q3),(.slice r3 x0.goal.length s3),(.slice t3 x0.ops.length u3)]∧Vb w' (Fr 0 w' O') (.slice n3 x0.vars.length o3) x0.vars∧Vb w' (Fr 0 w' O') (.slice p3 x0.init.length q3) x0.init∧Vb w' (Fr 0 w' O') (.slice r3 x0.goal.length s3) x0.goal∧Vb w' (Fr 0 w' O') (.slice t3 x0.ops.length u3) x0.ops∧Lc 3 w' O' v1 32 [(.int .i64 0),(.slice none 0 0),(.int .i64 0),(.int .i64 0)]∧Vb w' (Fr 0 w' O') (.slice m6 k1.2.1.length n6) k1.2.1∧Lc 5 w' O' k2 32 [(.int .i64 c0.1.verdict),(.slice q1 c0.1.plan.length r1),(.int .i64 c0.1.cost),(.int .i64 c0.1.expanded)]∧Vb w' (Fr 0 w' O') (.slice q1 c0.1.plan.length r1) c0.1.plan∧Rw 7 w' O' 3 (.slice d0.1.1 j0.1.length d0.1.2) j0.1∧Rw 9 w' O' 9 (.slice d0.2.1 j0.2.length d0.2.2) j0.2) _ ((none,0),(none,0)) ⟨l2,hB,v0,f1,h1,i1,j1,g1,e0,m1,f0,b1,(Rw.nil 7 (by decide)),(Rw.nil 9 (by decide))⟩ ⟨rfl,rfl,rfl,rfl,rfl,rfl,rfl,rfl,rfl,rfl,trivial⟩ (fun _ _=>⟨rfl,rfl⟩) (fun _ _=>⟨rfl,rfl,rfl,rfl,rfl,trivial⟩) (fun _ _ _ ⟨O',hB,v0,f1,h1,i1,j1,g1,e0,m1,f0,b1,i0,k0⟩=>⟨O',hB,v0,e0,f0,b1,i0,k0⟩) ⟨rfl,rfl,rfl⟩ ⟨rfl,rfl⟩ ?_
     rintro k4 r7 j0 d0 s7 s6 w1 ⟨c2,hB,v0,f1,h1,i1,j1,g1,e0,m1,f0,b1,i0,k0⟩ b0 d4 e4
     have rk116:inI64 (k4:Int):=rngK w1 a2
     refine Al (Aj ?_)
     obtain ⟨t7,u7,t6,r2,s2,t2,rfl,w7⟩:=b1.elem' w1
     refine Bl (hA:=r2) (hj:=rfl) (hlt:=s2) rfl rfl rfl ?_
     refine AC (hc:=cat0 t2) rfl rfl ?_
     refine Ar rfl rfl (o_z ?_)
     refine Al (Aj (Am rfl rfl (Am rfl rfl ?_)))
     obtain ⟨u2,l4,b0⟩:=bs b0
     obtain ⟨m4,n4⟩:=AS l4
     obtain ⟨x7,y7,u6,v2,w2,y2,rfl,z2⟩:=m1.elem' n4
     refine Bl (hA:=v2) (hj:=(Int.toNat_of_nonneg m4).symm) (hlt:=w2) rfl rfl rfl ?_
     refine AE rfl rfl (AC (hc:=cat0 y2) rfl rfl ?_)
     refine Ar rfl rfl (o_z ?_)
     refine Al (Aj (Am rfl rfl (FP rfl rfl rfl (fun d2=>?_) fun d2=>?_)))
     ·
      replace b0:=ip b0 d2
      refine o_z ?_
      refine Ah rfl ?_
      obtain ⟨e2,o4,b0⟩:=bs b0
      obtain ⟨z7,z0,b0⟩:=bs b0
      obtain ⟨a8,a1,b0⟩:=bs b0
      refine BD [(3,[7]),(12,[9])] c2 ?_
      refine Ba (fuel:=13) [] [(0,true),(1,true)] (by kernel_rfl) rfl ?_
      refine AI rfl rfl rfl (AI rfl rfl rfl (AL ?_))
      refine Ba (fuel:=6) [7] [(4,true),(5,true),(6,true),(7,true),(8,true),(9,true),(10,true)] (by kernel_rfl) rfl ?_
      refine AI rfl rfl rfl (AY rfl rfl rfl (Bc (hc:=fun w' ⟨O',hq⟩=>Blk.cell (i:=3) ((f1.st hq (by decide)).1) rfl) rfl rfl rfl ?_))
      refine AI rfl rfl rfl ?_
      obtain ⟨p4,q4⟩:=AS o4
      obtain ⟨b8,c8,w6,a3,b3,c3,d3,d8,e8,rfl,r4,s4,f8,f2⟩:=g1.elem q4
      obtain ⟨g8,h8,rfl⟩:=r4.form
      obtain ⟨i8,j8,rfl⟩:=s4.form
      refine BU (hA:=a3) (hj:=(Int.toNat_of_nonneg p4).symm) (hlt:=c3) rfl rfl rfl rfl ?_
      refine AY rfl rfl rfl (Bc (hc:=fun w' ⟨O',hq⟩=>cat0 (Bo (hq.agree (i:=0) (by decide)) b3 d3)) rfl rfl rfl ?_)
      refine AL ?_
      refine JB (i:=2) (j:=11) (by kernel_rfl) rfl rfl ?_ ?_
      ·
       refine Br 6 (by decide) c2 (xs:=(([u2.op]:List Int):List Int)) rfl rfl rfl rfl ⟨(vInt z2),trivial⟩ (by decide) (by decide) rfl fun k8 l8 t4 a0 s1=>?_
       have hZ:=a0.lst [] (fun _ h=>h.elim)
       refine By [(3,[7]),(12,[9])] hZ (by kernel_rfl) ?_
       refine JB (i:=3) (j:=11) (by kernel_rfl) rfl rfl ?_ ?_
       ·
        obtain ⟨z0,u4,v4⟩:=AZ z0
        replace i0:=i0.st a0
        refine BI rfl i0 (s1.rd) rfl rfl (by decide) u4 v4 rfl fun w4 x4 m8 y4 r0 e3=>?_
        rw [← z0] at e3 ⊢
        have hZ:=r0.lst [7] (fun _ h=>by cases h;decide)
        refine By [(12,[9])] hZ (by kernel_rfl) ?_
        refine Bb (i:=11) (by kernel_rfl) rfl ?_
        refine Br 8 (by decide) y4 (xs:=([e2.name]:List ByteArray)) rfl rfl rfl rfl ⟨(vStr f2),trivial⟩ (by decide) (by decide) rfl fun n8 o8 p8 n0 z4=>?_
        have hZ:=n0.lst [] (fun _ h=>h.elim)
        refine By [(12,[9])] hZ (by kernel_rfl) ?_
        refine Bb (i:=12) (by kernel_rfl) rfl ?_
        obtain ⟨a1,a5,b5⟩:=AZ a1
        replace k0:=((k0.st a0).st r0).st n0
        refine BI rfl k0 (z4.rd) rfl rfl (by decide) a5 b5 rfl fun c5 d5 q8 r8 s0 f3=>?_
        rw [← a1] at f3 ⊢
        have hZ:=s0.lst [9] (fun _ h=>by cases h;decide)
        refine By [] hZ (by kernel_rfl) ?_
        refine Ba (fuel:=0) [] [(13,true),(14,true)] (by kernel_rfl) rfl ?_
        refine CB rfl rfl rfl (CB rfl rfl rfl (AL ?_))
        refine Cm (by kernel_rfl) ?_
        obtain rfl:=sm b0
        refine (?_:Exists _)
        exact ⟨_,((w4,x4),(c5,d5)),rfl,⟨rfl,rfl,rfl,rfl,rfl,rfl,rfl,rfl,rfl,rfl,trivial⟩,_,(((hB.st a0).st r0).st n0).st s0,(((v0.st a0).st r0).st n0).st s0,(((f1.st a0).st r0).st n0).st s0,(((h1.st a0).st r0).st n0).st s0,(((i1.st a0).st r0).st n0).st s0,(((j1.st a0).st r0).st n0).st s0,(((g1.st a0).st r0).st n0).st s0,(((e0.st a0).st r0).st n0).st s0,(((m1.st a0).st r0).st n0).st s0,(((f0.st a0).st r0).st n0).st s0,(((b1.st a0).st r0).st n0).st s0,(e3.st n0).st s0,f3⟩
       ·
        refine Br 8 (by decide) t4 (xs:=([e2.name]:List ByteArray)) rfl rfl rfl rfl ⟨(vStr f2),trivial⟩ (by decide) (by decide) rfl fun s8 t8 u8 l0 g2=>?_
        have hZ:=l0.lst [] (fun _ h=>h.elim)
        refine By [(3,[7]),(12,[9])] hZ (by kernel_rfl) ?_
        refine Bb (i:=3) (by kernel_rfl) rfl ?_
        obtain ⟨z0,e5,f5⟩:=AZ z0
        replace i0:=(i0.st a0).st l0
        replace s1:=s1.st l0
        refine BI rfl i0 (s1.rd) rfl rfl (by decide) e5 f5 rfl fun g5 h5 w8 x8 o0 g3=>?_
        rw [← z0] at g3 ⊢
        have hZ:=o0.lst [7] (fun _ h=>by cases h;decide)
        refine By [(12,[9])] hZ (by kernel_rfl) ?_
        refine Bb (i:=12) (by kernel_rfl) rfl ?_
        obtain ⟨a1,i5,j5⟩:=AZ a1
        replace k0:=((k0.st a0).st l0).st o0
        replace g2:=g2.st o0
        refine BI rfl k0 (g2.rd) rfl rfl (by decide) i5 j5 rfl fun k5 l5 y8 z8 t0 h3=>?_
        rw [← a1] at h3 ⊢
        have hZ:=t0.lst [9] (fun _ h=>by cases h;decide)
        refine By [] hZ (by kernel_rfl) ?_
        refine Ba (fuel:=0) [] [(13,true),(14,true)] (by kernel_rfl) rfl ?_
        refine CB rfl rfl rfl (CB rfl rfl rfl (AL ?_))
        refine Cm (by kernel_rfl) ?_
        obtain rfl:=sm b0
        refine (?_:Exists _)
        exact ⟨_,((g5,h5),(k5,l5)),rfl,⟨rfl,rfl,rfl,rfl,rfl,rfl,rfl,rfl,rfl,rfl,trivial⟩,_,(((hB.st a0).st l0).st o0).st t0,(((v0.st a0).st l0).st o0).st t0,(((f1.st a0).st l0).st o0).st t0,(((h1.st a0).st l0).st o0).st t0,(((i1.st a0).st l0).st o0).st t0,(((j1.st a0).st l0).st o0).st t0,(((g1.st a0).st l0).st o0).st t0,(((e0.st a0).st l0).st o0).st t0,(((m1.st a0).st l0).st o0).st t0,(((f0.st a0).st l0).st o0).st t0,(((b1.st a0).st l0).st o0).st t0,g3.st t0,h3⟩
      ·
       refine Br 8 (by decide) c2 (xs:=([e2.name]:List ByteArray)) rfl rfl rfl rfl ⟨(vStr f2),trivial⟩ (by decide) (by decide) rfl fun a9 b9 m5 p0 h2=>?_
       have hZ:=p0.lst [] (fun _ h=>h.elim)
       refine By [(3,[7]),(12,[9])] hZ (by kernel_rfl) ?_
       refine Bb (i:=2) (by kernel_rfl) rfl ?_
       refine Br 6 (by decide) m5 (xs:=(([u2.op]:List Int):List Int)) rfl rfl rfl rfl ⟨(vInt z2),trivial⟩ (by decide) (by decide) rfl fun c9 d9 e9 m0 n5=>?_
       have hZ:=m0.lst [] (fun _ h=>h.elim)
       refine By [(3,[7]),(12,[9])] hZ (by kernel_rfl) ?_
       refine Bb (i:=3) (by kernel_rfl) rfl ?_
       obtain ⟨z0,o5,p5⟩:=AZ z0
       replace i0:=(i0.st p0).st m0
       refine BI rfl i0 (n5.rd) rfl rfl (by decide) o5 p5 rfl fun q5 r5 f9 g9 q0 i3=>?_
       rw [← z0] at i3 ⊢
       have hZ:=q0.lst [7] (fun _ h=>by cases h;decide)
       refine By [(12,[9])] hZ (by kernel_rfl) ?_
       refine Bb (i:=12) (by kernel_rfl) rfl ?_
       obtain ⟨a1,s5,t5⟩:=AZ a1
       replace k0:=((k0.st p0).st m0).st q0
       replace h2:=(h2.st m0).st q0
       refine BI rfl k0 (h2.rd) rfl rfl (by decide) s5 t5 rfl fun u5 v5 h9 i9 u0 j3=>?_
       rw [← a1] at j3 ⊢
       have hZ:=u0.lst [9] (fun _ h=>by cases h;decide)
       refine By [] hZ (by kernel_rfl) ?_
       refine Ba (fuel:=0) [] [(13,true),(14,true)] (by kernel_rfl) rfl ?_
       refine CB rfl rfl rfl (CB rfl rfl rfl (AL ?_))
       refine Cm (by kernel_rfl) ?_
       obtain rfl:=sm b0
       refine (?_:Exists _)
       exact ⟨_,((q5,r5),(u5,v5)),rfl,⟨rfl,rfl,rfl,rfl,rfl,rfl,rfl,rfl,rfl,rfl,trivial⟩,_,(((hB.st p0).st m0).st q0).st u0,(((v0.st p0).st m0).st q0).st u0,(((f1.st p0).st m0).st q0).st u0,(((h1.st p0).st m0).st q0).st u0,(((i1.st p0).st m0).st q0).st u0,(((j1.st p0).st m0).st q0).st u0,(((g1.st p0).st m0).st q0).st u0,(((e0.st p0).st m0).st q0).st u0,(((m1.st p0).st m0).st q0).st u0,(((f0.st p0).st m0).st q0).st u0,(((b1.st p0).st m0).st q0).st u0,i3.st u0,j3⟩
     ·
      replace b0:=im b0 d2
      refine o_z ?_
      refine Ae rfl (AJ ?_)
      obtain rfl:=sm b0
      refine (?_:Exists _)
      exact ⟨_,((d0.1.1,d0.1.2),(d0.2.1,d0.2.2)),rfl,⟨rfl,rfl,rfl,rfl,rfl,rfl,rfl,rfl,rfl,rfl,trivial⟩,_,hB,v0,f1,h1,i1,j1,g1,e0,m1,f0,b1,i0,k0⟩
    replace hB:=(((((((hB.st p1).st l1).st c1).st w0).st y0).st e1).st g0).st h0
    replace v0:=(((((v0.st c1).st w0).st y0).st e1).st g0).st h0
    replace e0:=(((((e0.st c1).st w0).st y0).st e1).st g0).st h0
    rintro j9 k9 ⟨n1,d1,rfl,k3,t1,hB,v0,e0,f0,b1,i0,k0⟩
    replace hm:=AX hm
    refine AN _ k3 ?_
    refine Al (Aj (Am rfl rfl (AE rfl rfl (AO f0 rfl rfl rfl (Nat.le_of_ble_eq_true rfl) (by first|exact allOne rfl|simp [Value.cells,Value.oneCell',AH]) fun i2 o1 f0=>?_))))
    replace f0:Lc 5 i2 t1 k2 32 [(.int .i64 c0.1.verdict),(.slice d1.1.1 n1.1.length d1.1.2),(.int .i64 c0.1.cost),(.int .i64 c0.1.expanded)]:=f0
    refine o_z ?_
    refine Al (BD [(4,[3])] t1 ?_)
    refine Ba (fuel:=4) [] [(0,true),(1,true),(2,true)] (by kernel_rfl) rfl ?_
    refine Hs (hl:=rfl) (hb:=fun w' ⟨O',hq⟩=>((f0.st hq (by decide)).1).cellsAt) rfl rfl rfl ?_
    refine AI rfl rfl rfl (AI rfl rfl rfl (AL ?_))
    refine Bb (i:=3) (by kernel_rfl) rfl ?_
    obtain ⟨w5,x5,hm⟩:=bs hm
    replace v0:=v0.st o1
    replace k0:=k0.st o1
    refine Bt (O:=t1) (A:=All i2) (R:=fun w' F v=>Vb w' F v w5) (IK (fun _ h=>h) (k0).all (Vb.mono (F:=Fr 0 i2 t1) v0 Fr.lt) x5) rfl rfl fun l9 m9 y5 u1 z5=>?_
    obtain ⟨rfl,a6⟩:=z5.int
    have hZ:=u1.lst [] (fun _ h=>h.elim)
    refine By [(4,[3])] hZ (by kernel_rfl) ?_
    refine Bb (i:=4) (by kernel_rfl) rfl ?_
    replace e0:=(e0.st o1).st u1
    refine AO e0 rfl rfl rfl (Nat.le_of_ble_eq_true rfl) (by first|exact allOne rfl|simp [Value.cells,Value.oneCell',AH]) fun l3 j2 e0=>?_
    replace e0:Lc 3 l3 y5 v1 32 [(.int .i64 c0.1.verdict),(.slice d1.1.1 n1.1.length d1.1.2),(.int .i64 c0.1.cost),(.int .i64 c0.1.expanded)]:=e0
    have hZ:=j2.lst [3] (fun _ h=>by cases h;decide)
    refine By [] hZ (by kernel_rfl) ?_
    refine Ba (fuel:=0) [] [(5,true),(6,true)] (by kernel_rfl) rfl ?_
    refine CB rfl rfl rfl (CB rfl rfl rfl (AL ?_))
    refine Cm (by kernel_rfl) ?_
    refine AF ?_
    replace i0:=((i0.st o1).st u1).st j2
    obtain ⟨b6,m3,i0⟩:=i0.freeze
    obtain rfl:=sm hm
    replace hB:=(((hB.st o1).st u1).st j2).st m3
    replace e0:=e0.st m3
    exact ret3 rfl (BH (cs:=[(.int .i64 c0.1.verdict),(.slice d1.1.1 n1.1.length d1.1.2),(.int .i64 c0.1.cost),(.int .i64 c0.1.expanded)]) rfl rfl e0.1.cellsAt) (AA rfl) (AA rfl) ⟨hB.ext,_,_,_,rfl,(Vb.mono (F:=Fr 0 l3 b6) (Vb.ofAgg (cs:=[(.int .i64 c0.1.verdict),(.slice d1.1.1 n1.1.length d1.1.2),(.int .i64 c0.1.cost),(.int .i64 c0.1.expanded)]) (x:=(⟨c0.1.verdict,n1.1,c0.1.cost,c0.1.expanded⟩:Rsl)) rfl ⟨_,rfl,i0,p6,q6,r6⟩) hB.out),(vInt a6),(vErr (show inI64 0 from by decide))⟩
noncomputable def Dn  : Option Bool :=
  bnd (DT (⟨([2]:List Int),([0]:List Int),[(⟨0,1⟩:Fct)],[(⟨(⟨#[97]⟩:ByteArray),3,([]:List Fct),[(⟨([]:List Fct),0,1⟩:Eff)]⟩:Opr)]⟩:Tsk) [(⟨#[97]⟩:ByteArray)] 5 100) fun q56=>bnd (if q56.2.2.n=0 then (if q56.2.1=0 then (if q56.1.verdict=1 then (if q56.1.cost=3 then (bnd (EB q56.1.plan ([0]:List Int)) fun q100=>if q100=true then some true else some false) else (some false)) else (some false)) else (some false)) else (some false):Option Bool) fun y86=>some y86
theorem HR {w:World} {A:Nat→Prop} (hA:∀ k,A k→k < w.heap.size)  {r:Bool} (hm:Dn  = some r) :
    Fn Tryz.prog 10 [] w fun v w'=>Ext w w'∧Vb w' (upA A w w') v r:=by
 obtain ⟨O,hB,s2⟩:=enter hA
 refine AD Tryz.func10 rfl Tryz.ntmps10 rfl ?_
 unfold Dn at hm
 refine Al (Aj (Ar rfl rfl (o_z ?_)))
 refine Al (Aj (Br 2 (by decide) O (xs:=(([2]:List Int):List Int)) rfl rfl rfl rfl ⟨(vInt (show inI64 (2) from by decide)),trivial⟩ (by decide) (by decide) rfl fun g1 w2 O3 S4 h5=>?_))
 refine Br 3 (by decide) O3 (xs:=(([0]:List Int):List Int)) rfl rfl rfl rfl ⟨(vInt (show inI64 (0) from by decide)),trivial⟩ (by decide) (by decide) rfl fun g7 w8 O9 n0 q0=>?_
 refine Cr rfl rfl rfl ?_
 refine Br 4 (by decide) O9 (xs:=([(⟨0,1⟩:Fct)]:List Fct)) rfl rfl rfl rfl ⟨(Vb.ofAgg (cs:=[(.int .i64 0),(.int .i64 1)]) (x:=(⟨0,1⟩:Fct)) rfl ⟨rfl,(show inI64 (0) from by decide),(show inI64 (1) from by decide)⟩),trivial⟩ (by decide) (by decide) rfl fun l1 t2 r1 m0 r0=>?_
 refine Cr rfl rfl rfl ?_
 refine Br 5 (by decide) r1 (xs:=([(⟨([]:List Fct),0,1⟩:Eff)]:List Eff)) rfl rfl rfl rfl ⟨(Vb.ofAgg (cs:=[(.slice none 0 0),(.int .i64 0),(.int .i64 1)]) (x:=(⟨([]:List Fct),0,1⟩:Eff)) rfl ⟨_,rfl,(Vb.nil _ _),(show inI64 (0) from by decide),(show inI64 (1) from by decide)⟩),trivial⟩ (by decide) (by decide) rfl fun s1 u2 v2 j0 c1=>?_
 refine Cr rfl rfl rfl ?_
 obtain ⟨t1,k0,c1⟩:=c1.freeze
 refine Br 6 (by decide) t1 (xs:=([(⟨(⟨#[97]⟩:ByteArray),3,([]:List Fct),[(⟨([]:List Fct),0,1⟩:Eff)]⟩:Opr)]:List Opr)) rfl rfl rfl rfl ⟨(Vb.ofAgg (cs:=[(.string (⟨#[97]⟩:ByteArray)),(.int .i64 3),(.slice none 0 0),(.slice (some ⟨s1,0,none⟩) [(⟨([]:List Fct),0,1⟩:Eff)].length 1)]) (x:=(⟨(⟨#[97]⟩:ByteArray),3,([]:List Fct),[(⟨([]:List Fct),0,1⟩:Eff)]⟩:Opr)) rfl ⟨_,_,rfl,(Vb.nil _ _),c1,(show inI64 (3) from by decide),(show (⟨#[97]⟩:ByteArray).size≤9223372036854775807 from by decide)⟩),trivial⟩ (by decide) (by decide) rfl fun m1 x2 u1 l0 s0=>?_
 refine Cr rfl rfl rfl ?_
 refine Bv 7 u1 rfl fun v1 y2 n1 b0 v0=>?_
 refine AO v0 rfl rfl rfl (Nat.le_of_ble_eq_true rfl) (by first|exact allOne rfl|simp [Value.cells,Value.oneCell',AH]) fun w1 c0 v0=>?_
 replace v0:Lc 7 w1 n1 v1 26 [(.slice (some ⟨g1,0,none⟩) ([2]:List Int).length 1),(.slice (some ⟨g7,0,none⟩) ([0]:List Int).length 1),(.slice (some ⟨l1,0,none⟩) [(⟨0,1⟩:Fct)].length 1),(.slice (some ⟨m1,0,none⟩) [(⟨(⟨#[97]⟩:ByteArray),3,([]:List Fct),[(⟨([]:List Fct),0,1⟩:Eff)]⟩:Opr)].length 1)]:=v0
 refine o_z ?_
 refine Al (Aj (Bk (hl:=rfl) (hc:=(v0.1).cellsAt) rfl rfl ?_))
 refine Br 8 (by decide) n1 (xs:=([(⟨#[97]⟩:ByteArray)]:List ByteArray)) rfl rfl rfl rfl ⟨(vStr (show (⟨#[97]⟩:ByteArray).size≤9223372036854775807 from by decide)),trivial⟩ (by decide) (by decide) rfl fun z2 a3 b3 d0 w0=>?_
 replace h5:=(((((((h5.st n0).st m0).st j0).st k0).st l0).st b0).st c0).st d0
 obtain ⟨c3,e0,h5⟩:=h5.freeze
 replace q0:=(((((((q0.st m0).st j0).st k0).st l0).st b0).st c0).st d0).st e0
 obtain ⟨d3,f0,q0⟩:=q0.freeze
 replace r0:=(((((((r0.st j0).st k0).st l0).st b0).st c0).st d0).st e0).st f0
 obtain ⟨e3,g0,r0⟩:=r0.freeze
 replace s0:=(((((s0.st b0).st c0).st d0).st e0).st f0).st g0
 obtain ⟨f3,h0,s0⟩:=s0.freeze
 replace w0:=(((w0.st e0).st f0).st g0).st h0
 obtain ⟨x1,i0,w0⟩:=w0.freeze
 obtain ⟨x0,y1,hm⟩:=bs hm
 replace h5:=(((h5.st f0).st g0).st h0).st i0
 replace q0:=((q0.st g0).st h0).st i0
 replace r0:=(r0.st h0).st i0
 replace s0:=s0.st i0
 refine DQ (O:=x1) (R:=fun w' F v=>T3 w' F v x0) (JM Fr.lt (Vb.ofAgg (cs:=[(.slice (some ⟨g1,0,none⟩) ([2]:List Int).length 1),(.slice (some ⟨g7,0,none⟩) ([0]:List Int).length 1),(.slice (some ⟨l1,0,none⟩) [(⟨0,1⟩:Fct)].length 1),(.slice (some ⟨m1,0,none⟩) [(⟨(⟨#[97]⟩:ByteArray),3,([]:List Fct),[(⟨([]:List Fct),0,1⟩:Eff)]⟩:Opr)].length 1)]) (x:=(⟨([2]:List Int),([0]:List Int),[(⟨0,1⟩:Fct)],[(⟨(⟨#[97]⟩:ByteArray),3,([]:List Fct),[(⟨([]:List Fct),0,1⟩:Eff)]⟩:Opr)]⟩:Tsk)) rfl ⟨_,_,_,_,rfl,h5,q0,r0,s0⟩) w0 (show inI64 (5) from by decide) (show inI64 (100) from by decide) y1) rfl rfl fun g3 h3 z1 t0 a2=>?_
 obtain ⟨i3,j3,k3,rfl,b2,c2,d2⟩:=a2
 obtain ⟨e2,rfl,l3,rfl,b1,m3,n3,o3⟩:=b2
 obtain ⟨f2,g2,rfl⟩:=b1.form
 obtain ⟨rfl,p3⟩:=c2.int
 obtain ⟨rfl,q3⟩:=d2.err
 refine Am rfl rfl (Bp rfl rfl rfl (Bp rfl rfl rfl (Bp rfl rfl rfl (Bv 9 z1 rfl fun h2 r3 o1 o0 u0=>?_))))
 refine AO u0 rfl rfl rfl (Nat.le_of_ble_eq_true rfl) (by first|exact allOne rfl|simp [Value.cells,Value.oneCell',AH]) fun i2 p0 u0=>?_
 replace u0:Lc 9 i2 o1 h2 32 [(.int .i64 x0.1.verdict),(.slice f2 x0.1.plan.length g2),(.int .i64 x0.1.cost),(.int .i64 x0.1.expanded)]:=u0
 refine Ar rfl rfl (Ar rfl rfl (o_z ?_))
 refine Al ?_
 obtain ⟨j2,a0,hm⟩:=bs hm
 refine AK (fun l' w'=>∃ (k2:Unit) (O':Lab),subs l' [(0,(.bool j2))]∧Bs w A w' O') ?_ ?_
 ·
  refine Aj (Am rfl rfl (Ng rfl rfl (fun d1=>?_) fun d1=>?_))
  ·
   replace a0:=ip a0 d1
   refine Am rfl rfl (Aw rfl rfl (Am rfl rfl (Aw rfl rfl (Gl rfl rfl rfl (fun e1=>?_) fun e1=>?_))))
   ·
    replace a0:=ip a0 e1
    refine Be rfl rfl rfl (Am rfl rfl (Aw rfl rfl (AE rfl rfl (Aw rfl rfl (AC (hc:=Blk.cell (i:=0) (u0.1) rfl) rfl rfl ?_)))))
    refine Aw rfl rfl (Gl rfl rfl rfl (fun f1=>?_) fun f1=>?_)
    ·
     replace a0:=ip a0 f1
     refine Be rfl rfl rfl (Am rfl rfl (Aw rfl rfl (AE rfl rfl (Aw rfl rfl (AC (hc:=Blk.cell (i:=2) (u0.1) rfl) rfl rfl ?_)))))
     refine Aw rfl rfl (Gl rfl rfl rfl (fun h1=>?_) fun h1=>?_)
     ·
      replace a0:=ip a0 h1
      refine Be rfl rfl rfl (Am rfl rfl (Aw rfl rfl (AE rfl rfl (Aw rfl rfl (AC (hc:=Blk.cell (i:=1) (u0.1) rfl) rfl rfl ?_)))))
      refine Aw rfl rfl (Br 10 (by decide) o1 (xs:=(([0]:List Int):List Int)) rfl rfl rfl rfl ⟨(vInt (show inI64 (0) from by decide)),trivial⟩ (by decide) (by decide) rfl fun s3 p1 q1 i1 l2=>?_)
      refine Aw rfl rfl ?_
      obtain ⟨y0,j1,a0⟩:=bs a0
      replace b1:=((b1.st o0).st p0).st i1
      refine Bt (O:=q1) (A:=All p1) (R:=fun w' F v=>Vb w' F v y0) (IT (fun _ h=>h) (Vb.mono (F:=Fr 0 p1 q1) b1 Fr.lt) (l2).all j1) rfl rfl fun m2 n2 o2 z0 k1=>?_
      obtain rfl:=k1.bool
      cases y0
      case false =>
       replace a0:=iF a0
       refine Be rfl rfl rfl (Ar rfl rfl (o_z ?_))
       obtain rfl:=sm a0
       exact ⟨(),_,⟨rfl,trivial⟩,((((((((((((((((((hB.st S4).st n0).st m0).st j0).st k0).st l0).st b0).st c0).st d0).st e0).st f0).st g0).st h0).st i0).st t0).st o0).st p0).st i1).st z0⟩
      replace a0:=iT a0
      refine Be rfl rfl rfl (Ar rfl rfl (o_z ?_))
      obtain rfl:=sm a0
      exact ⟨(),_,⟨rfl,trivial⟩,((((((((((((((((((hB.st S4).st n0).st m0).st j0).st k0).st l0).st b0).st c0).st d0).st e0).st f0).st g0).st h0).st i0).st t0).st o0).st p0).st i1).st z0⟩
     ·
      replace a0:=im a0 h1
      refine Be rfl rfl rfl (Am rfl rfl (Au rfl rfl rfl rfl (Au rfl rfl rfl rfl (Au rfl rfl rfl rfl (Au rfl rfl rfl rfl (AU rfl rfl rfl (Ar rfl rfl (o_z ?_))))))))
      obtain rfl:=sm a0
      exact ⟨(),_,⟨rfl,trivial⟩,((((((((((((((((hB.st S4).st n0).st m0).st j0).st k0).st l0).st b0).st c0).st d0).st e0).st f0).st g0).st h0).st i0).st t0).st o0).st p0⟩
    ·
     replace a0:=im a0 f1
     refine Be rfl rfl rfl (Am rfl rfl (Au rfl rfl rfl rfl (Au rfl rfl rfl rfl (Au rfl rfl rfl rfl (AU rfl rfl rfl (Am rfl rfl (Au rfl rfl rfl rfl (Au rfl rfl rfl rfl (Au rfl rfl rfl rfl (Au rfl rfl rfl rfl (AU rfl rfl rfl (Ar rfl rfl (o_z ?_)))))))))))))
     obtain rfl:=sm a0
     exact ⟨(),_,⟨rfl,trivial⟩,((((((((((((((((hB.st S4).st n0).st m0).st j0).st k0).st l0).st b0).st c0).st d0).st e0).st f0).st g0).st h0).st i0).st t0).st o0).st p0⟩
   ·
    replace a0:=im a0 e1
    refine Be rfl rfl rfl (Am rfl rfl (Au rfl rfl rfl rfl (Au rfl rfl rfl rfl (Au rfl rfl rfl rfl (AU rfl rfl rfl (Am rfl rfl (Au rfl rfl rfl rfl (Au rfl rfl rfl rfl (Au rfl rfl rfl rfl (AU rfl rfl rfl (Am rfl rfl (Au rfl rfl rfl rfl (Au rfl rfl rfl rfl (Au rfl rfl rfl rfl ?_))))))))))))))
    refine Au rfl rfl rfl rfl (AU rfl rfl rfl (Ar rfl rfl (o_z ?_)))
    obtain rfl:=sm a0
    exact ⟨(),_,⟨rfl,trivial⟩,((((((((((((((((hB.st S4).st n0).st m0).st j0).st k0).st l0).st b0).st c0).st d0).st e0).st f0).st g0).st h0).st i0).st t0).st o0).st p0⟩
  ·
   replace a0:=im a0 d1
   refine Am rfl rfl (Au rfl rfl rfl rfl (Au rfl rfl rfl rfl (AU rfl rfl rfl (Am rfl rfl (Au rfl rfl rfl rfl (Au rfl rfl rfl rfl (Au rfl rfl rfl rfl (AU rfl rfl rfl (Am rfl rfl (Au rfl rfl rfl rfl (Au rfl rfl rfl rfl (Au rfl rfl rfl rfl (AU rfl rfl rfl (Am rfl rfl ?_))))))))))))))
   refine Au rfl rfl rfl rfl (Au rfl rfl rfl rfl (Au rfl rfl rfl rfl (Au rfl rfl rfl rfl (AU rfl rfl rfl (Ar rfl rfl (o_z ?_))))))
   obtain rfl:=sm a0
   exact ⟨(),_,⟨rfl,trivial⟩,((((((((((((((((hB.st S4).st n0).st m0).st j0).st k0).st l0).st b0).st c0).st d0).st e0).st f0).st g0).st h0).st i0).st t0).st o0).st p0⟩
 replace hB:=((((((((((((((((hB.st S4).st n0).st m0).st j0).st k0).st l0).st b0).st c0).st d0).st e0).st f0).st g0).st h0).st i0).st t0).st o0).st p0
 rintro p2 q2 ⟨k2,r2,a1,hB⟩
 refine AN _ a1 ?_
 refine AF ?_
 obtain rfl:=sm hm
 exact ret1v rfl (AA rfl) ⟨hB.ext,vBool⟩
end
section
open Go Go.RowKit
attribute [local irreducible] ewp owp hwp hwq hws Ev Evg Fn retPost loud loudS Res1
attribute [local irreducible] hwx loudX hwz zNext
noncomputable def CA (x0:Opr) (y0:ByteArray) (y1:List Int):Option Bool :=
  bnd (if x0.name=y0 then (bnd (Cv x0.pre y1) fun q28=>if q28=true then some true else some false) else (some false):Option Bool) fun y23=>some y23
theorem Iu {w:World} {A:Nat→Prop} (hA:∀ k,A k→k < w.heap.size) {vx0:Value} {x0:Opr} (h0:Vb w A vx0 x0) {py0:Nat} {csy0:List Value} {y0:ByteArray} (hby0:Blk w py0 9 csy0) (hay0:A py0) (hcy0:Rp.R w A csy0 y0) {py1:Nat} {csy1:List Value} {y1:List Int} (hby1:Blk w py1 22 csy1) (hay1:A py1) (hcy1:Rp.R w A csy1 y1) {r:Bool} (hm:CA x0 y0 y1=some r) :
    Fn Tryz.prog 42 [vx0,(.pointer (some ⟨py0,0,none⟩)),(.pointer (some ⟨py1,0,none⟩))] w fun v w'=>Ext w w'∧Vb w' (upA A w w') v r:=by
 obtain ⟨O,hB,c0⟩:=enter hA
 have hLy0:Lc 0 w O py0 9 csy0:=⟨hby0,(c0 py0 hay0).2⟩
 replace hcy0:=Rp.mono hcy0 c0
 obtain ⟨rfl,z2⟩:=hcy0
 have hLy1:Lc 0 w O py1 22 csy1:=⟨hby1,(c0 py1 hay1).2⟩
 replace hcy1:=Rp.mono hcy1 c0
 obtain ⟨v3,rfl,h4⟩:=hcy1
 replace h4:=Vb.of_slice h4
 obtain ⟨A5,c6,rfl⟩:=h4.form
 replace h0:=h0.mono c0
 obtain ⟨w0,rfl,v8,v9,rfl,d0,m0,z0,a1⟩:=h0
 obtain ⟨n0,o0,rfl⟩:=d0.form
 obtain ⟨p0,q0,rfl⟩:=m0.form
 refine AD Tryz.func42 rfl Tryz.ntmps42 rfl ?_
 unfold CA at hm
 refine Al (Aj (CD 2 O rfl rfl fun r0 e0 f0 b0 g0=>?_))
 replace g0:Lc 2 e0 f0 r0 67 [(.string x0.name),(.int .i64 x0.cost),(.slice n0 x0.pre.length o0),(.slice p0 x0.effs.length q0)]:=g0
 refine Ar rfl rfl (o_z ?_)
 refine Al ?_
 obtain ⟨s0,a0,hm⟩:=bs hm
 refine AK (fun l' w'=>∃ (t0:Unit) (O':Lab),subs l' [(4,(.bool s0))]∧Bs w A w' O') ?_ ?_
 ·
  refine Aj (AE rfl rfl (AC (hc:=Blk.cell (i:=0) (g0.1) rfl) rfl rfl ?_))
  replace hLy0:=hLy0.st b0
  refine AC (hc:=Blk.cell (i:=0) (hLy0.1) rfl) rfl rfl ?_
  refine KA rfl rfl rfl (fun i0=>?_) fun i0=>?_
  ·
   replace a0:=ip a0 i0
   refine Am rfl rfl (Aw rfl rfl (AE rfl rfl (Aw rfl rfl (AC (hc:=Blk.cell (i:=2) (g0.1) rfl) rfl rfl ?_))))
   refine Aw rfl rfl ?_
   replace hLy1:=hLy1.st b0
   refine AC (hc:=Blk.cell (i:=0) (hLy1.1) rfl) rfl rfl ?_
   refine Aw rfl rfl ?_
   obtain ⟨k0,u0,a0⟩:=bs a0
   replace h4:=h4.st b0
   replace d0:=d0.st b0
   refine Bt (O:=f0) (A:=All e0) (R:=fun w' F v=>Vb w' F v k0) (EO (fun _ h=>h) (Vb.mono (F:=Fr 0 e0 f0) d0 Fr.lt) (Vb.mono (F:=Fr 0 e0 f0) h4 Fr.lt) u0) rfl rfl fun b1 c1 d1 l0 v0=>?_
   obtain rfl:=v0.bool
   cases k0
   case false =>
    replace a0:=iF a0
    refine Be rfl rfl rfl (Ar rfl rfl (o_z ?_))
    obtain rfl:=sm a0
    exact ⟨(),_,⟨rfl,trivial⟩,(hB.st b0).st l0⟩
   replace a0:=iT a0
   refine Be rfl rfl rfl (Ar rfl rfl (o_z ?_))
   obtain rfl:=sm a0
   exact ⟨(),_,⟨rfl,trivial⟩,(hB.st b0).st l0⟩
  ·
   replace a0:=im a0 i0
   refine Am rfl rfl (Au rfl rfl rfl rfl (Au rfl rfl rfl rfl (Au rfl rfl rfl rfl (Au rfl rfl rfl rfl (AU rfl rfl rfl (Ar rfl rfl (o_z ?_)))))))
   obtain rfl:=sm a0
   exact ⟨(),_,⟨rfl,trivial⟩,hB.st b0⟩
 replace hB:=hB.st b0
 rintro e1 f1 ⟨t0,g1,j0,hB⟩
 refine AN _ j0 ?_
 refine AF ?_
 obtain rfl:=sm hm
 exact ret1v rfl (AA rfl) ⟨hB.ext,vBool⟩
noncomputable def AQ (x0:List Opr) (y0:ByteArray) (y1:List Int):Option Int :=
  bnd (rng (ρ:=Int) (fun (k16:Nat) (a17:Opr) (s14:Unit)=>bnd (CA a17 y0 y1) fun q44=>if q44=true then some (.ret (k16:Int)) else some (.next ())) x0 0 ()) fun res12=>fin res12 fun (s55:Unit)=>some (-1)
theorem Ds {w:World} {A:Nat→Prop} (hA:∀ k,A k→k < w.heap.size) {vx0:Value} {x0:List Opr} (b0:Vb w A vx0 x0) {py0:Nat} {csy0:List Value} {y0:ByteArray} (hby0:Blk w py0 9 csy0) (hay0:A py0) (hcy0:Rp.R w A csy0 y0) {py1:Nat} {csy1:List Value} {y1:List Int} (hby1:Blk w py1 22 csy1) (hay1:A py1) (hcy1:Rp.R w A csy1 y1) {r:Int} (hm:AQ x0 y0 y1=some r) :
    Fn Tryz.prog 41 [vx0,(.func (.func 42) #[] #[(.pointer (some ⟨py0,0,none⟩)),(.pointer (some ⟨py1,0,none⟩))])] w fun v w'=>Ext w w'∧Vb w' (upA A w w') v r:=by
 obtain ⟨O,hB,e0⟩:=enter hA
 have hLy0:Lc 0 w O py0 9 csy0:=⟨hby0,(e0 py0 hay0).2⟩
 replace hcy0:=Rp.mono hcy0 e0
 obtain ⟨rfl,z3⟩:=hcy0
 have hLy1:Lc 0 w O py1 22 csy1:=⟨hby1,(e0 py1 hay1).2⟩
 replace hcy1:=Rp.mono hcy1 e0
 obtain ⟨v4,rfl,h5⟩:=hcy1
 replace h5:=Vb.of_slice h5
 obtain ⟨A6,c7,rfl⟩:=h5.form
 replace b0:=b0.mono e0
 obtain ⟨A8,c9,rfl⟩:=b0.form
 refine AD Tryz.func41 rfl Tryz.ntmps41 rfl ?_
 unfold AQ at hm
 refine Al (Aj (Ar rfl rfl (o_z ?_)))
 refine Al (Al (Aj (Am rfl rfl (AP rfl rfl ?_))))
 have m0:x0.length≤9223372036854775807:=Nat.le_trans b0.len.2.1 b0.len.2.2
 have j1:inI64 (x0.length:Int):=rngNat m0
 refine Am rfl rfl (o_z ?_)
 obtain ⟨f0,n0,hm⟩:=bs hm
 refine AK (aft f0 (fun (i0:Unit) (j0:Unit)=>[]) (fun i0 j0 w'=>∃ O':Lab,Bs w A w' O')) ?_ ?_
 ·
  refine AM (Bw (σ:=Unit) (X:=Unit) (x0.length) n0 rfl m0 (fun (i0:Unit) (j0:Unit)=>[(0,(.slice A8 x0.length c9)),(1,(.func (.func 42) #[] #[(.pointer (some ⟨py0,0,none⟩)),(.pointer (some ⟨py1,0,none⟩))]))]) _ (fun i0 j0 w'=>∃ O':Lab,Bs w A w' O'∧Vb w' (Fr 0 w' O') (.slice A8 x0.length c9) x0∧Lc 0 w' O' py0 9 [(.string y0)]∧Lc 0 w' O' py1 22 [(.slice A6 y1.length c7)]∧Vb w' (Fr 0 w' O') (.slice A6 y1.length c7) y1) _ () ⟨O,hB,b0,hLy0,hLy1,h5⟩ ⟨rfl,rfl,rfl,rfl,trivial⟩ (fun _ _=>⟨rfl,rfl⟩) (fun _ _=>trivial) (fun _ _ _ ⟨O',hB,b0,hLy0,hLy1,h5⟩=>⟨O',hB⟩) ⟨rfl,rfl,rfl⟩ ⟨rfl,rfl⟩ ?_)
  rintro w0 g0 i0 j0 k0 z0 h0 ⟨l0,hB,b0,hLy0,hLy1,h5⟩ a0 c0 o0
  have rk16:inI64 (w0:Int):=rngK h0 m0
  refine Al (Aj (Am rfl rfl (Ar rfl rfl (o_z ?_))))
  refine Al (Aj (Am rfl rfl (Am rfl rfl (Am rfl rfl ?_))))
  obtain ⟨k1,l1,a1,p0,q0,r0,m1,n1,rfl,t0,u0,b1,c1⟩:=b0.elem' h0
  obtain ⟨d1,e1,rfl⟩:=t0.form
  obtain ⟨f1,g1,rfl⟩:=u0.form
  refine Bl (hA:=p0) (hj:=rfl) (hlt:=q0) rfl rfl rfl ?_
  refine Bk (hl:=rfl) (hc:=r0) rfl rfl ?_
  obtain ⟨v0,h1,a0⟩:=bs a0
  refine ME (O:=l0) (A:=All k0) (R:=fun w' F v=>Vb w' F v v0) (Iu (fun _ h=>h) (Vb.mono (F:=Fr 0 k0 l0) (Vb.ofAgg (cs:=[(.string g0.name),(.int .i64 g0.cost),(.slice d1 g0.pre.length e1),(.slice f1 g0.effs.length g1)]) (x:=g0) rfl ⟨_,_,rfl,t0,u0,b1,c1⟩) Fr.lt) hLy0.1 hLy0.1.lt (Rp.mono (F:=Fr 0 k0 l0) (x:=y0) (Vb.cells1 (vStr z3)) Fr.lt) hLy1.1 hLy1.1.lt (Rp.mono (F:=Fr 0 k0 l0) (x:=y1) (Vb.cells1 h5) Fr.lt) h1) rfl rfl rfl rfl fun o1 p1 q1 d0 i1=>?_
  obtain rfl:=i1.bool
  cases v0
  case false =>
   replace a0:=iF a0
   refine o_z ?_
   refine Ae rfl (AJ ?_)
   obtain rfl:=sm a0
   refine (?_:Exists _)
   exact ⟨_,(),rfl,⟨rfl,rfl,rfl,rfl,trivial⟩,_,hB.st d0,b0.st d0,hLy0.st d0,hLy1.st d0,h5.st d0⟩
  replace a0:=iT a0
  refine o_z ?_
  refine Ah rfl (Al (Aj (Am rfl rfl (Ar rfl rfl (o_z ?_)))))
  refine AF ?_
  obtain rfl:=sm a0
  obtain rfl:=c0 _ rfl
  obtain rfl:=sm (Ct hm)
  replace hB:=hB.st d0
  exact ret1v rfl (AA rfl) ⟨hB.ext,(vInt rk16)⟩
 rintro r1 s1 ⟨t1,u1,rfl,s0,v1,hB⟩
 replace hm:=AX hm
 refine AN _ s0 ?_
 refine Al (Aj (Ar rfl rfl (o_z ?_)))
 refine AF ?_
 obtain rfl:=sm hm
 exact ret1v rfl (AA rfl) ⟨hB.ext,(vInt (show inI64 (-1) from by decide))⟩
noncomputable def Dj (x0:Tsk) (x1:List Int) (x2:Int):Option ((List Int)×Err) :=
  bnd (CE x0) fun q28=>if q28.n≠0 then (some (([]:List Int),(⟨q28.n⟩:Err))) else (bnd (FC x0 x1 x2) fun q37=>some (q37.1,(⟨q37.2.n⟩:Err)))
theorem Lh {w:World} {A:Nat→Prop} (hA:∀ k,A k→k < w.heap.size) {vx0:Value} {x0:Tsk} (h0:Vb w A vx0 x0) {vx1:Value} {x1:List Int} (f0:Vb w A vx1 x1) {x2:Int} (rx2:inI64 x2) {r:(List Int)×Err} (hm:Dj x0 x1 x2=some r) :
    Fn Tryz.prog 44 [vx0,vx1,(.int .i64 x2)] w fun v w'=>Ext w w'∧T2 w' (upA A w w') v r:=by
 obtain ⟨O,hB,t0⟩:=enter hA
 replace h0:=h0.mono t0
 obtain ⟨l1,rfl,v5,v6,v7,v8,rfl,h9,b0,c0,d0⟩:=h0
 obtain ⟨i0,j0,rfl⟩:=h9.form
 obtain ⟨k0,l0,rfl⟩:=b0.form
 obtain ⟨m0,n0,rfl⟩:=c0.form
 obtain ⟨o0,p0,rfl⟩:=d0.form
 replace f0:=f0.mono t0
 obtain ⟨m1,n1,rfl⟩:=f0.form
 refine AD Tryz.func44 rfl Tryz.ntmps44 rfl ?_
 unfold Dj at hm
 refine Al (Aj (CD 2 O rfl rfl fun w0 q0 r0 e0 g0=>?_))
 replace g0:Lc 2 q0 r0 w0 26 [(.slice i0 x0.vars.length j0),(.slice k0 x0.init.length l0),(.slice m0 x0.goal.length n0),(.slice o0 x0.ops.length p0)]:=g0
 refine Ar rfl rfl (Ar rfl rfl (o_z ?_))
 refine Al (Al (Aj (Bk (hl:=rfl) (hc:=(g0.1).cellsAt) rfl rfl ?_)))
 obtain ⟨y0,z0,hm⟩:=bs hm
 replace h9:=h9.st e0
 replace b0:=b0.st e0
 replace c0:=c0.st e0
 replace d0:=d0.st e0
 refine Bt (O:=r0) (A:=All q0) (R:=fun w' F v=>Vb w' F v y0) (FB (fun _ h=>h) (Vb.mono (F:=Fr 0 q0 r0) (Vb.ofAgg (cs:=[(.slice i0 x0.vars.length j0),(.slice k0 x0.init.length l0),(.slice m0 x0.goal.length n0),(.slice o0 x0.ops.length p0)]) (x:=x0) rfl ⟨_,_,_,_,rfl,h9,b0,c0,d0⟩) Fr.lt) z0) rfl rfl fun o1 a1 u0 a0 b1=>?_
 obtain ⟨rfl,c1⟩:=b1.err
 refine Ar rfl rfl (o_z ?_)
 refine Al (Aj (Am rfl rfl (DJ rfl rfl (fun s0=>?_) fun s0=>?_)))
 ·
  replace hm:=ip hm s0
  refine o_z ?_
  refine Ah rfl (Al (Aj (Am rfl rfl (Ar rfl rfl (Ar rfl rfl (o_z ?_))))))
  refine AF ?_
  obtain rfl:=sm hm
  replace hB:=(hB.st e0).st a0
  exact ret2 rfl (AA rfl) (AA rfl) ⟨hB.ext,_,_,rfl,(Vb.mono (F:=Fr 0 a1 u0) (Vb.nil _ _) hB.out),(vErr c1)⟩
 ·
  replace hm:=im hm s0
  refine o_z ?_
  refine Ae rfl (AJ (Al (Aj ?_)))
  replace g0:=g0.st a0
  refine Bk (hl:=rfl) (hc:=(g0.1).cellsAt) rfl rfl ?_
  refine Am rfl rfl (Am rfl rfl ?_)
  obtain ⟨d1,e1,hm⟩:=bs hm
  replace f0:=(f0.st e0).st a0
  replace h9:=h9.st a0
  replace b0:=b0.st a0
  replace c0:=c0.st a0
  replace d0:=d0.st a0
  refine DQ (O:=u0) (R:=fun w' F v=>T2 w' F v d1) (KY Fr.lt (Vb.ofAgg (cs:=[(.slice i0 x0.vars.length j0),(.slice k0 x0.init.length l0),(.slice m0 x0.goal.length n0),(.slice o0 x0.ops.length p0)]) (x:=x0) rfl ⟨_,_,_,_,rfl,h9,b0,c0,d0⟩) f0 rx2 e1) rfl rfl fun p1 f1 g1 h1 i1=>?_
  obtain ⟨q1,r1,rfl,v0,j1⟩:=i1
  obtain ⟨s1,t1,rfl⟩:=v0.form
  obtain ⟨rfl,k1⟩:=j1.err
  refine Bp rfl rfl rfl (Bp rfl rfl rfl (Ar rfl rfl (Ar rfl rfl (o_z ?_))))
  refine AF ?_
  obtain rfl:=sm hm
  replace hB:=((hB.st e0).st a0).st h1
  exact ret2 rfl (AA rfl) (AA rfl) ⟨hB.ext,_,_,rfl,(Vb.mono (F:=Fr 0 f1 g1) v0 hB.out),(vErr k1)⟩
noncomputable def EJ (x0:Tsk) (x1:List ByteArray):Option ((List Int)×Int×Err) :=
  bnd (CE x0) fun q27=>if q27.n≠0 then (some (([]:List Int),0,(⟨q27.n⟩:Err))) else (bnd (rng (ρ:=(List Int)×Int×Err) (fun (k49:Nat) (a50:ByteArray) (s47:(List Int)×(List Int))=>bnd (AQ x0.ops a50 s47.2) fun q81=>if q81 < 0 then (some (.brk (s47.1,s47.2))) else (bnd (Dj x0 s47.2 q81) fun q90=>if q90.2.n≠0 then (some (.brk (s47.1,s47.2))) else (bnd (appI 8 s47.1 [q81]) fun u105=>some (.next (u105,q90.1))))) x1 0 (([]:List Int),x0.init)) fun res45=>fin res45 fun (s123:(List Int)×(List Int))=>some (s123.1,(s123.1.length:Int),(⟨0⟩:Err)))
theorem JN {w:World} {A:Nat→Prop} (hA:∀ k,A k→k < w.heap.size) {vx0:Value} {x0:Tsk} (r1:Vb w A vx0 x0) {vx1:Value} {x1:List ByteArray} (o0:Vb w A vx1 x1) {r:(List Int)×Int×Err} (hm:EJ x0 x1=some r) :
    Fn Tryz.prog 24 [vx0,vx1] w fun v w'=>Ext w w'∧T3 w' (upA A w w') v r:=by
 obtain ⟨O,hB,q2⟩:=enter hA
 replace r1:=r1.mono q2
 obtain ⟨y3,rfl,v4,v5,v6,v7,rfl,h8,h0,m0,g0⟩:=r1
 obtain ⟨A9,c1,rfl⟩:=h8.form
 obtain ⟨v0,w0,rfl⟩:=h0.form
 obtain ⟨d1,e1,rfl⟩:=m0.form
 obtain ⟨f1,g1,rfl⟩:=g0.form
 replace o0:=o0.mono q2
 obtain ⟨r2,s2,rfl⟩:=o0.form
 refine AD Tryz.func24 rfl Tryz.ntmps24 rfl ?_
 unfold EJ at hm
 refine Al (Aj (CD 2 O rfl rfl fun s1 t1 u1 s0 f0=>?_))
 replace f0:Lc 2 t1 u1 s1 26 [(.slice A9 x0.vars.length c1),(.slice v0 x0.init.length w0),(.slice d1 x0.goal.length e1),(.slice f1 x0.ops.length g1)]:=f0
 refine Ar rfl rfl (Ar rfl rfl (Ar rfl rfl (o_z ?_)))
 refine Al (Al (Aj (Bk (hl:=rfl) (hc:=(f0.1).cellsAt) rfl rfl ?_)))
 obtain ⟨a3,b3,hm⟩:=bs hm
 replace h8:=h8.st s0
 replace h0:=h0.st s0
 replace m0:=m0.st s0
 replace g0:=g0.st s0
 refine Bt (O:=u1) (A:=All t1) (R:=fun w' F v=>Vb w' F v a3) (FB (fun _ h=>h) (Vb.mono (F:=Fr 0 t1 u1) (Vb.ofAgg (cs:=[(.slice A9 x0.vars.length c1),(.slice v0 x0.init.length w0),(.slice d1 x0.goal.length e1),(.slice f1 x0.ops.length g1)]) (x:=x0) rfl ⟨_,_,_,_,rfl,h8,h0,m0,g0⟩) Fr.lt) b3) rfl rfl fun z3 c3 t2 r0 d3=>?_
 obtain ⟨rfl,e3⟩:=d3.err
 refine Ar rfl rfl (o_z ?_)
 refine Al (Aj (Am rfl rfl (DJ rfl rfl (fun v1=>?_) fun v1=>?_)))
 ·
  replace hm:=ip hm v1
  refine o_z ?_
  refine Ah rfl (Al (Aj (Am rfl rfl (Ar rfl rfl (Ar rfl rfl (Ar rfl rfl (o_z ?_)))))))
  refine AF ?_
  obtain rfl:=sm hm
  replace hB:=(hB.st s0).st r0
  exact ret3 rfl (AA rfl) (AA rfl) (AA rfl) ⟨hB.ext,_,_,_,rfl,(Vb.mono (F:=Fr 0 c3 t2) (Vb.nil _ _) hB.out),(vInt (show inI64 (0) from by decide)),(vErr e3)⟩
 ·
  replace hm:=im hm v1
  refine o_z ?_
  refine Ae rfl (AJ (Al (Aj (Ar rfl rfl (o_z ?_)))))
  refine Al (Aj (AE rfl rfl ?_))
  replace f0:=f0.st r0
  refine AC (hc:=Blk.cell (i:=1) (f0.1) rfl) rfl rfl ?_
  refine Bv 3 t2 rfl fun q1 a4 u2 t0 c0=>?_
  refine AO c0 rfl rfl rfl (Nat.le_of_ble_eq_true rfl) (by first|exact allOne rfl|simp [Value.cells,Value.oneCell',AH]) fun f3 u0 c0=>?_
  replace c0:Lc 3 f3 u2 q1 22 [(.slice v0 x0.init.length w0)]:=c0
  refine o_z ?_
  refine Al (Al (Aj (Am rfl rfl (AP rfl rfl ?_))))
  replace o0:=(((o0.st s0).st r0).st t0).st u0
  have w1:x1.length≤9223372036854775807:=Nat.le_trans o0.len.2.1 o0.len.2.2
  have b4:inI64 (x1.length:Int):=rngNat w1
  refine Am rfl rfl (o_z ?_)
  obtain ⟨h1,y1,hm⟩:=bs hm
  refine AK (aft h1 (fun (i0:(List Int)×(List Int)) (b0:(Option Addr×Nat)×(Option Addr×Nat))=>[(8,(.slice b0.1.1 i0.1.length b0.1.2))]) (fun i0 b0 w'=>∃ O':Lab,Bs w A w' O'∧Rw 5 w' O' 3 (.slice b0.1.1 i0.1.length b0.1.2) i0.1)) ?_ ?_
  ·
   refine AM ?_
   replace hB:=(((hB.st s0).st r0).st t0).st u0
   replace h8:=((h8.st r0).st t0).st u0
   replace h0:=((h0.st r0).st t0).st u0
   replace m0:=((m0.st r0).st t0).st u0
   replace g0:=((g0.st r0).st t0).st u0
   replace f0:=(f0.st t0).st u0
   refine Bw (σ:=(List Int)×(List Int)) (X:=(Option Addr×Nat)×(Option Addr×Nat)) (x1.length) y1 rfl w1 (fun (i0:(List Int)×(List Int)) (b0:(Option Addr×Nat)×(Option Addr×Nat))=>[(2,(.pointer (some ⟨s1,0,none⟩))),(8,(.slice b0.1.1 i0.1.length b0.1.2)),(9,(.pointer (some ⟨q1,0,none⟩))),(22,(.slice r2 x1.length s2))]) _ (fun i0 b0 w'=>∃ O':Lab,Bs w A w' O'∧Lc 2 w' O' s1 26 [(.slice A9 x0.vars.length c1),(.slice v0 x0.init.length w0),(.slice d1 x0.goal.length e1),(.slice f1 x0.ops.length g1)]∧Vb w' (Fr 0 w' O') (.slice A9 x0.vars.length c1) x0.vars∧Vb w' (Fr 0 w' O') (.slice v0 x0.init.length w0) x0.init∧Vb w' (Fr 0 w' O') (.slice d1 x0.goal.length e1) x0.goal∧Vb w' (Fr 0 w' O') (.slice f1 x0.ops.length g1) x0.ops∧Rw 5 w' O' 3 (.slice b0.1.1 i0.1.length b0.1.2) i0.1∧Lc 3 w' O' q1 22 [(.slice b0.2.1 i0.2.length b0.2.2)]∧Vb w' (Fr 0 w' O') (.slice b0.2.1 i0.2.length b0.2.2) i0.2∧Vb w' (Fr 0 w' O') (.slice r2 x1.length s2) x1) _ ((none,0),(v0,w0)) ⟨u2,hB,f0,h8,h0,m0,g0,(Rw.nil 5 (by decide)),c0,h0,o0⟩ ⟨rfl,rfl,rfl,rfl,rfl,rfl,trivial⟩ (fun _ _=>⟨rfl,rfl⟩) (fun _ _=>⟨rfl,trivial⟩) (fun _ _ _ ⟨O',hB,f0,h8,h0,m0,g0,n0,c0,y0,o0⟩=>⟨O',hB,n0⟩) ⟨rfl,rfl,rfl⟩ ⟨rfl,rfl⟩ ?_
   rintro g3 v2 i0 b0 c4 h3 i1 ⟨i3,hB,f0,h8,h0,m0,g0,n0,c0,y0,o0⟩ a0 z1 p0
   have rk49:inI64 (g3:Int):=rngK i1 w1
   refine Al (Aj ?_)
   obtain ⟨d4,e4,j3,a2,b2,c2,rfl,k3⟩:=o0.elem' i1
   refine Bl (hA:=a2) (hj:=rfl) (hlt:=b2) rfl rfl rfl ?_
   refine AC (hc:=cat0 c2) rfl rfl ?_
   refine Bv 4 i3 rfl fun l3 f4 j1 j0 b1=>?_
   refine AO b1 rfl rfl rfl (Nat.le_of_ble_eq_true rfl) (by first|exact allOne rfl|simp [Value.cells,Value.oneCell',AH]) fun k1 k0 b1=>?_
   replace b1:Lc 4 k1 j1 l3 9 [(.string v2)]:=b1
   refine o_z ?_
   refine Al (Aj (AE rfl rfl ?_))
   replace f0:=(f0.st j0).st k0
   refine AC (hc:=Blk.cell (i:=3) (f0.1) rfl) rfl rfl ?_
   refine OY rfl rfl rfl ?_
   obtain ⟨w2,m3,a0⟩:=bs a0
   replace g0:=(g0.st j0).st k0
   replace c0:=(c0.st j0).st k0
   replace y0:=(y0.st j0).st k0
   refine Bt (O:=j1) (A:=All k1) (R:=fun w' F v=>Vb w' F v w2) (Ds (fun _ h=>h) (Vb.mono (F:=Fr 0 k1 j1) g0 Fr.lt) b1.1 b1.1.lt (Rp.mono (F:=Fr 0 k1 j1) (x:=v2) (Vb.cells1 (vStr k3)) Fr.lt) c0.1 c0.1.lt (Rp.mono (F:=Fr 0 k1 j1) (x:=i0.2) (Vb.cells1 y0) Fr.lt) m3) rfl rfl fun g4 h4 n3 l0 o3=>?_
   obtain ⟨rfl,x2⟩:=o3.int
   refine Ar rfl rfl (o_z ?_)
   refine Al (Al (Aj (Am rfl rfl (Dl rfl rfl rfl (fun d2=>?_) fun d2=>?_))))
   ·
    replace a0:=ip a0 d2
    refine o_z ?_
    refine Ah rfl (CZ ?_)
    obtain rfl:=sm a0
    refine (?_:Exists _)
    exact ⟨_,((b0.1.1,b0.1.2),(b0.2.1,b0.2.2)),p0 _ rfl,⟨rfl,trivial⟩,_,((hB.st j0).st k0).st l0,((n0.st j0).st k0).st l0⟩
   ·
    replace a0:=im a0 d2
    refine o_z ?_
    refine Ae rfl (AJ (Al (Aj ?_)))
    replace f0:=f0.st l0
    refine Bk (hl:=rfl) (hc:=(f0.1).cellsAt) rfl rfl ?_
    replace c0:=c0.st l0
    refine AC (hc:=Blk.cell (i:=0) (c0.1) rfl) rfl rfl ?_
    refine Am rfl rfl ?_
    obtain ⟨y2,p3,a0⟩:=bs a0
    replace h8:=((h8.st j0).st k0).st l0
    replace h0:=((h0.st j0).st k0).st l0
    replace m0:=((m0.st j0).st k0).st l0
    replace g0:=g0.st l0
    replace y0:=y0.st l0
    refine DQ (O:=n3) (R:=fun w' F v=>T2 w' F v y2) (Lh Fr.lt (Vb.ofAgg (cs:=[(.slice A9 x0.vars.length c1),(.slice v0 x0.init.length w0),(.slice d1 x0.goal.length e1),(.slice f1 x0.ops.length g1)]) (x:=x0) rfl ⟨_,_,_,_,rfl,h8,h0,m0,g0⟩) y0 x2 p3) rfl rfl fun i4 j4 k4 q0 q3=>?_
    obtain ⟨l4,m4,rfl,z2,e2⟩:=q3
    obtain ⟨l1,m1,rfl⟩:=z2.form
    obtain ⟨rfl,r3⟩:=e2.err
    refine Am rfl rfl (Bp rfl rfl rfl (Bp rfl rfl rfl (Ar rfl rfl (Ar rfl rfl (o_z ?_)))))
    refine Al (Al (Aj (Am rfl rfl (DJ rfl rfl (fun z0=>?_) fun z0=>?_))))
    ·
     replace a0:=ip a0 z0
     refine o_z ?_
     refine Ah rfl (CZ ?_)
     obtain rfl:=sm a0
     refine (?_:Exists _)
     exact ⟨_,((b0.1.1,b0.1.2),(b0.2.1,b0.2.2)),p0 _ rfl,⟨rfl,trivial⟩,_,(((hB.st j0).st k0).st l0).st q0,(((n0.st j0).st k0).st l0).st q0⟩
    ·
     replace a0:=im a0 z0
     refine o_z ?_
     refine Ae rfl (AJ (Aj (Am rfl rfl (Am rfl rfl ?_))))
     obtain ⟨s3,a1,a0⟩:=bs a0
     obtain ⟨a1,f2,g2⟩:=AZ a1
     replace n0:=(((n0.st j0).st k0).st l0).st q0
     refine CN rfl (a:=w2) n0 (vInt x2) (fun _=>rfl) rfl (by decide) (by decide) f2 g2 ⟨rfl,rfl⟩ fun t3 h2 i2 u3 j2 d0 n1=>?_
     rw [← a1] at n1 ⊢
     refine Am rfl rfl (Ar rfl rfl ?_)
     replace c0:=(c0.st q0).st d0
     refine AO c0 rfl rfl rfl (Nat.le_of_ble_eq_true rfl) (by first|exact allOne rfl|simp [Value.cells,Value.oneCell',AH]) fun k2 e0 c0=>?_
     replace c0:Lc 3 k2 j2 q1 22 [(.slice l1 y2.1.length m1)]:=c0
     refine o_z ?_
     obtain rfl:=sm a0
     refine (?_:Exists _)
     exact ⟨_,((h2,i2),(l1,m1)),rfl,⟨rfl,rfl,rfl,rfl,rfl,rfl,trivial⟩,_,(((((hB.st j0).st k0).st l0).st q0).st d0).st e0,((f0.st q0).st d0).st e0,((h8.st q0).st d0).st e0,((h0.st q0).st d0).st e0,((m0.st q0).st d0).st e0,((g0.st q0).st d0).st e0,n1.st e0,c0,(z2.st d0).st e0,(((((o0.st j0).st k0).st l0).st q0).st d0).st e0⟩
  replace hB:=(((hB.st s0).st r0).st t0).st u0
  rintro v3 l2 ⟨o1,w3,rfl,p1,x3,hB,n0⟩
  replace hm:=AX hm
  refine AN _ p1 ?_
  refine Al (Aj (Am rfl rfl (Am rfl rfl (AP rfl rfl ?_))))
  have m2:o1.1.length≤9223372036854775807:=Nat.le_trans n0.len.2.1 n0.len.2.2
  have n2:inI64 (o1.1.length:Int):=rngNat m2
  refine Ar rfl rfl (Ar rfl rfl (Ar rfl rfl (o_z ?_)))
  refine AF ?_
  obtain ⟨o2,p2,n0⟩:=n0.freeze
  obtain rfl:=sm hm
  replace hB:=hB.st p2
  exact ret3 rfl (AA rfl) (AA rfl) (AA rfl) ⟨hB.ext,_,_,_,rfl,(Vb.mono (F:=Fr 0 l2 o2) n0 hB.out),(vInt n2),(vErr (show inI64 0 from by decide))⟩
noncomputable def EY (x0:Tsk) (x1:List ByteArray):Option (List Int) :=
  bnd (rng (ρ:=(List Int)) (fun (k33:Nat) (a34:ByteArray) (s31:(List Int)×(List Int))=>bnd (rng (ρ:=Ctl ((List Int)×(List Int)) (List Int)) (fun (k64:Nat) (a65:Opr) (s62:Int)=>bnd (BT x0 s31.2 (k64:Int)) fun q77=>bnd (if q77.2=true then (if s62 < 0 then (if a65.name=a34 then (some true) else (some false)) else (some false)) else (some false):Option Bool) fun y90=>if y90=true then (some (.next (k64:Int))) else (some (.next s62))) x0.ops 0 (-1)) fun res60=>fin res60 fun (s123:Int)=>if s123 < 0 then (some (.ret s31.1)) else (bnd (appI 8 s31.1 [s123]) fun u128=>bnd (BT x0 s31.2 s123) fun q140=>some (.next (u128,q140.1)))) x1 0 (([]:List Int),x0.init)) fun res29=>fin res29 fun (s157:(List Int)×(List Int))=>some s157.1
theorem Kb {w:World} {A:Nat→Prop} (hA:∀ k,A k→k < w.heap.size) {vx0:Value} {x0:Tsk} (w1:Vb w A vx0 x0) {vx1:Value} {x1:List ByteArray} (h0:Vb w A vx1 x1) {r:(List Int)} (hm:EY x0 x1=some r) :
    Fn Tryz.prog 27 [vx0,vx1] w fun v w'=>Ext w w'∧Vb w' (upA A w w') v r:=by
 obtain ⟨O,hB,f3⟩:=enter hA
 replace w1:=w1.mono f3
 obtain ⟨x4,rfl,v4,v5,v6,v7,rfl,h8,i0,j0,e0⟩:=w1
 obtain ⟨A9,r0,rfl⟩:=h8.form
 obtain ⟨p0,q0,rfl⟩:=i0.form
 obtain ⟨s0,t0,rfl⟩:=j0.form
 obtain ⟨u0,v0,rfl⟩:=e0.form
 replace h0:=h0.mono f3
 obtain ⟨z0,a1,rfl⟩:=h0.form
 refine AD Tryz.func27 rfl Tryz.ntmps27 rfl ?_
 unfold EY at hm
 refine Al (Aj (CD 2 O rfl rfl fun w0 j3 g3 b1 f0=>?_))
 replace f0:Lc 2 j3 g3 w0 26 [(.slice A9 x0.vars.length r0),(.slice p0 x0.init.length q0),(.slice s0 x0.goal.length t0),(.slice u0 x0.ops.length v0)]:=f0
 refine Ar rfl rfl (o_z ?_)
 refine Al (Aj (Ar rfl rfl (o_z ?_)))
 refine Al (Aj (AE rfl rfl (AC (hc:=Blk.cell (i:=1) (f0.1) rfl) rfl rfl ?_)))
 refine Ar rfl rfl (o_z ?_)
 refine Al (Al (Aj (Am rfl rfl (AP rfl rfl ?_))))
 replace h0:=h0.st b1
 have y1:x1.length≤9223372036854775807:=Nat.le_trans h0.len.2.1 h0.len.2.2
 have y4:inI64 (x1.length:Int):=rngNat y1
 refine Am rfl rfl (o_z ?_)
 obtain ⟨i1,z1,hm⟩:=bs hm
 refine AK (aft i1 (fun (d0:(List Int)×(List Int)) (b0:(Option Addr×Nat)×(Option Addr×Nat))=>[(5,(.slice b0.1.1 d0.1.length b0.1.2))]) (fun d0 b0 w'=>∃ O':Lab,Bs w A w' O'∧Rw 3 w' O' 3 (.slice b0.1.1 d0.1.length b0.1.2) d0.1)) ?_ ?_
 ·
  refine AM ?_
  replace hB:=hB.st b1
  replace h8:=h8.st b1
  replace i0:=i0.st b1
  replace j0:=j0.st b1
  replace e0:=e0.st b1
  refine Bw (σ:=(List Int)×(List Int)) (X:=(Option Addr×Nat)×(Option Addr×Nat)) (x1.length) z1 rfl y1 (fun (d0:(List Int)×(List Int)) (b0:(Option Addr×Nat)×(Option Addr×Nat))=>[(2,(.pointer (some ⟨w0,0,none⟩))),(5,(.slice b0.1.1 d0.1.length b0.1.2)),(6,(.slice b0.2.1 d0.2.length b0.2.2)),(15,(.slice z0 x1.length a1))]) _ (fun d0 b0 w'=>∃ O':Lab,Bs w A w' O'∧Lc 2 w' O' w0 26 [(.slice A9 x0.vars.length r0),(.slice p0 x0.init.length q0),(.slice s0 x0.goal.length t0),(.slice u0 x0.ops.length v0)]∧Vb w' (Fr 0 w' O') (.slice A9 x0.vars.length r0) x0.vars∧Vb w' (Fr 0 w' O') (.slice p0 x0.init.length q0) x0.init∧Vb w' (Fr 0 w' O') (.slice s0 x0.goal.length t0) x0.goal∧Vb w' (Fr 0 w' O') (.slice u0 x0.ops.length v0) x0.ops∧Rw 3 w' O' 3 (.slice b0.1.1 d0.1.length b0.1.2) d0.1∧Vb w' (Fr 0 w' O') (.slice b0.2.1 d0.2.length b0.2.2) d0.2∧Vb w' (Fr 0 w' O') (.slice z0 x1.length a1) x1) _ ((none,0),(p0,q0)) ⟨g3,hB,f0,h8,i0,j0,e0,(Rw.nil 3 (by decide)),i0,h0⟩ ⟨rfl,rfl,rfl,rfl,rfl,rfl,trivial⟩ (fun _ _=>⟨rfl,rfl⟩) (fun _ _=>⟨rfl,trivial⟩) (fun _ _ _ ⟨O',hB,f0,h8,i0,j0,e0,k0,m0,h0⟩=>⟨O',hB,k0⟩) ⟨rfl,rfl,rfl⟩ ⟨rfl,rfl⟩ ?_
  rintro u1 h3 d0 b0 z4 k3 j1 ⟨l3,hB,f0,h8,i0,j0,e0,k0,m0,h0⟩ g0 c1 a2
  have rk33:inI64 (u1:Int):=rngK j1 y1
  refine Al (Aj ?_)
  obtain ⟨a5,b5,m3,b2,c2,d2,rfl,c5⟩:=h0.elem' j1
  refine Bl (hA:=b2) (hj:=rfl) (hlt:=c2) rfl rfl rfl ?_
  refine AC (hc:=cat0 d2) rfl rfl ?_
  refine Ar rfl rfl (o_z ?_)
  refine Al (Aj (Ar rfl rfl (o_z ?_)))
  refine Al (Al (Aj (AE rfl rfl (AC (hc:=Blk.cell (i:=3) (f0.1) rfl) rfl rfl ?_))))
  refine AP rfl rfl ?_
  have e2:x0.ops.length≤9223372036854775807:=Nat.le_trans e0.len.2.1 e0.len.2.2
  have d5:inI64 (x0.ops.length:Int):=rngNat e2
  refine Am rfl rfl (o_z ?_)
  obtain ⟨k1,f2,g0⟩:=bs g0
  refine AK (aft k1 (fun (y0:Int) (v1:Unit)=>[(2,(.pointer (some ⟨w0,0,none⟩))),(5,(.slice b0.1.1 d0.1.length b0.1.2)),(6,(.slice b0.2.1 d0.2.length b0.2.2)),(9,(.int .i64 y0)),(15,(.slice z0 x1.length a1)),(16,(.int .i64 (x1.length:Int))),(17,(.int .i64 (u1:Int)))]) (fun y0 v1 w'=>∃ O':Lab,Bs w A w' O'∧Lc 2 w' O' w0 26 [(.slice A9 x0.vars.length r0),(.slice p0 x0.init.length q0),(.slice s0 x0.goal.length t0),(.slice u0 x0.ops.length v0)]∧Vb w' (Fr 0 w' O') (.slice A9 x0.vars.length r0) x0.vars∧Vb w' (Fr 0 w' O') (.slice p0 x0.init.length q0) x0.init∧Vb w' (Fr 0 w' O') (.slice s0 x0.goal.length t0) x0.goal∧Vb w' (Fr 0 w' O') (.slice u0 x0.ops.length v0) x0.ops∧Rw 3 w' O' 3 (.slice b0.1.1 d0.1.length b0.1.2) d0.1∧Vb w' (Fr 0 w' O') (.slice b0.2.1 d0.2.length b0.2.2) d0.2∧Vb w' (Fr 0 w' O') (.slice z0 x1.length a1) x1∧inI64 y0)) ?_ ?_
  ·
   refine AM (Bw (σ:=Int) (X:=Unit) (x0.ops.length) f2 rfl e2 (fun (y0:Int) (v1:Unit)=>[(2,(.pointer (some ⟨w0,0,none⟩))),(5,(.slice b0.1.1 d0.1.length b0.1.2)),(6,(.slice b0.2.1 d0.2.length b0.2.2)),(8,(.string h3)),(9,(.int .i64 y0)),(15,(.slice z0 x1.length a1)),(16,(.int .i64 (x1.length:Int))),(17,(.int .i64 (u1:Int)))]) _ (fun y0 v1 w'=>∃ O':Lab,Bs w A w' O'∧Lc 2 w' O' w0 26 [(.slice A9 x0.vars.length r0),(.slice p0 x0.init.length q0),(.slice s0 x0.goal.length t0),(.slice u0 x0.ops.length v0)]∧Vb w' (Fr 0 w' O') (.slice A9 x0.vars.length r0) x0.vars∧Vb w' (Fr 0 w' O') (.slice p0 x0.init.length q0) x0.init∧Vb w' (Fr 0 w' O') (.slice s0 x0.goal.length t0) x0.goal∧Vb w' (Fr 0 w' O') (.slice u0 x0.ops.length v0) x0.ops∧Rw 3 w' O' 3 (.slice b0.1.1 d0.1.length b0.1.2) d0.1∧Vb w' (Fr 0 w' O') (.slice b0.2.1 d0.2.length b0.2.2) d0.2∧Vb w' (Fr 0 w' O') (.slice z0 x1.length a1) x1∧inI64 y0) _ () ⟨l3,hB,f0,h8,i0,j0,e0,k0,m0,h0,(show inI64 (-1) from by decide)⟩ ⟨rfl,rfl,rfl,rfl,rfl,rfl,rfl,rfl,rfl,rfl,trivial⟩ (fun _ _=>⟨rfl,rfl⟩) (fun _ _=>⟨rfl,rfl,rfl,rfl,rfl,rfl,rfl,trivial⟩) (fun _ _ _ ⟨O',hB,f0,h8,i0,j0,e0,k0,m0,h0,h1⟩=>⟨O',hB,f0,h8,i0,j0,e0,k0,m0,h0,h1⟩) ⟨rfl,rfl,rfl⟩ ⟨rfl,rfl⟩ ?_)
   rintro g2 e5 y0 v1 f5 n3 l1 ⟨o3,hB,f0,h8,i0,j0,e0,k0,m0,h0,h1⟩ l0 h2 i2
   have rk64:inI64 (g2:Int):=rngK l1 e2
   refine Al (Aj (Am rfl rfl (Ar rfl rfl (o_z ?_))))
   refine Al (Aj (Bk (hl:=rfl) (hc:=(f0.1).cellsAt) rfl rfl ?_))
   refine Am rfl rfl (Am rfl rfl ?_)
   obtain ⟨i3,p3,l0⟩:=bs l0
   refine DQ (O:=o3) (R:=fun w' F v=>T2 w' F v i3) (Is Fr.lt (Vb.ofAgg (cs:=[(.slice A9 x0.vars.length r0),(.slice p0 x0.init.length q0),(.slice s0 x0.goal.length t0),(.slice u0 x0.ops.length v0)]) (x:=x0) rfl ⟨_,_,_,_,rfl,h8,i0,j0,e0⟩) m0 rk64 p3) rfl rfl fun g5 h5 i5 a0 q3=>?_
   obtain ⟨j5,k5,rfl,r3,s3⟩:=q3
   obtain ⟨l5,m5,rfl⟩:=r3.form
   obtain rfl:=s3.bool
   refine Am rfl rfl (Bp rfl rfl rfl (Bp rfl rfl rfl (Ar rfl rfl (Ar rfl rfl (o_z ?_)))))
   refine Al ?_
   obtain ⟨t3,c0,l0⟩:=bs l0
   refine AK (fun l' w'=>∃ (u3:Unit) (O':Lab),subs l' [(2,(.pointer (some ⟨w0,0,none⟩))),(5,(.slice b0.1.1 d0.1.length b0.1.2)),(6,(.slice b0.2.1 d0.2.length b0.2.2)),(8,(.string h3)),(9,(.int .i64 y0)),(10,(.int .i64 (g2:Int))),(15,(.slice z0 x1.length a1)),(16,(.int .i64 (x1.length:Int))),(17,(.int .i64 (u1:Int))),(23,(.int .i64 (x0.ops.length:Int))),(24,(.int .i64 (g2:Int))),(48,(.bool t3))]∧Bs w A w' O'∧Lc 2 w' O' w0 26 [(.slice A9 x0.vars.length r0),(.slice p0 x0.init.length q0),(.slice s0 x0.goal.length t0),(.slice u0 x0.ops.length v0)]∧Vb w' (Fr 0 w' O') (.slice A9 x0.vars.length r0) x0.vars∧Vb w' (Fr 0 w' O') (.slice p0 x0.init.length q0) x0.init∧Vb w' (Fr 0 w' O') (.slice s0 x0.goal.length t0) x0.goal∧Vb w' (Fr 0 w' O') (.slice u0 x0.ops.length v0) x0.ops∧Rw 3 w' O' 3 (.slice b0.1.1 d0.1.length b0.1.2) d0.1∧Vb w' (Fr 0 w' O') (.slice b0.2.1 d0.2.length b0.2.2) d0.2∧Vb w' (Fr 0 w' O') (.slice z0 x1.length a1) x1) ?_ ?_
   ·
    refine Aj (Am rfl rfl (Am rfl rfl ?_))
    rcases Bool.eq_false_or_eq_true i3.2 with m1|m1
    ·
     try simp only [m1]
     replace c0:=ip c0 m1
     refine Aw rfl rfl (Am rfl rfl (Aw rfl rfl (Dl rfl rfl rfl (fun j2=>?_) fun j2=>?_)))
     ·
      replace c0:=ip c0 j2
      refine Be rfl rfl rfl (Am rfl rfl (Aw rfl rfl (AE rfl rfl (Aw rfl rfl ?_))))
      replace f0:=f0.st a0
      refine AC (hc:=Blk.cell (i:=3) (f0.1) rfl) rfl rfl ?_
      refine Aw rfl rfl (Am rfl rfl (Aw rfl rfl ?_))
      replace e0:=e0.st a0
      obtain ⟨n5,o5,v3,k2,n1,o1,w3,x3,rfl,l2,m2,y3,z3⟩:=e0.elem' l1
      obtain ⟨a4,b4,rfl⟩:=l2.form
      obtain ⟨c4,d4,rfl⟩:=m2.form
      refine Bl (hA:=k2) (hj:=rfl) (hlt:=n1) rfl rfl rfl ?_
      refine Aw rfl rfl (AE rfl rfl (Aw rfl rfl (AC (hc:=cat0 o1) rfl rfl ?_)))
      refine Aw rfl rfl (Am rfl rfl (Aw rfl rfl (KA rfl rfl rfl (fun d1=>?_) fun d1=>?_)))
      ·
       replace c0:=ip c0 d1
       refine Be rfl rfl rfl (o_z ?_)
       obtain rfl:=sm c0
       exact ⟨(),_,⟨rfl,rfl,rfl,rfl,rfl,rfl,rfl,rfl,rfl,rfl,rfl,rfl,trivial⟩,hB.st a0,f0,h8.st a0,i0.st a0,j0.st a0,e0,k0.st a0,m0.st a0,h0.st a0⟩
      ·
       replace c0:=im c0 d1
       refine Be rfl rfl rfl (o_z ?_)
       obtain rfl:=sm c0
       exact ⟨(),_,⟨rfl,rfl,rfl,rfl,rfl,rfl,rfl,rfl,rfl,rfl,rfl,rfl,trivial⟩,hB.st a0,f0,h8.st a0,i0.st a0,j0.st a0,e0,k0.st a0,m0.st a0,h0.st a0⟩
     ·
      replace c0:=im c0 j2
      refine Be rfl rfl rfl (Am rfl rfl (Au rfl rfl rfl rfl (Au rfl rfl rfl rfl (Au rfl rfl rfl rfl (Au rfl rfl rfl rfl (Au rfl rfl rfl rfl (Au rfl rfl rfl rfl (Au rfl rfl rfl rfl (Au rfl rfl rfl rfl (AU rfl rfl rfl (o_z ?_)))))))))))
      obtain rfl:=sm c0
      exact ⟨(),_,⟨rfl,rfl,rfl,rfl,rfl,rfl,rfl,rfl,rfl,rfl,rfl,rfl,trivial⟩,hB.st a0,f0.st a0,h8.st a0,i0.st a0,j0.st a0,e0.st a0,k0.st a0,m0.st a0,h0.st a0⟩
    ·
     try simp only [m1]
     replace c0:=im' c0 m1
     refine Au rfl rfl rfl rfl (Au rfl rfl rfl rfl (AU rfl rfl rfl (Am rfl rfl (Au rfl rfl rfl rfl (Au rfl rfl rfl rfl (Au rfl rfl rfl rfl (Au rfl rfl rfl rfl (Au rfl rfl rfl rfl (Au rfl rfl rfl rfl (Au rfl rfl rfl rfl (Au rfl rfl rfl rfl (AU rfl rfl rfl (o_z ?_)))))))))))))
     obtain rfl:=sm c0
     exact ⟨(),_,⟨rfl,rfl,rfl,rfl,rfl,rfl,rfl,rfl,rfl,rfl,rfl,rfl,trivial⟩,hB.st a0,f0.st a0,h8.st a0,i0.st a0,j0.st a0,e0.st a0,k0.st a0,m0.st a0,h0.st a0⟩
   replace hB:=hB.st a0
   replace h0:=h0.st a0
   replace h8:=h8.st a0
   replace i0:=i0.st a0
   replace j0:=j0.st a0
   replace e0:=e0.st a0
   replace f0:=f0.st a0
   replace k0:=k0.st a0
   replace m0:=m0.st a0
   rintro e4 f4 ⟨u3,g4,p1,hB,f0,h8,i0,j0,e0,k0,m0,h0⟩
   refine AN _ p1 ?_
   refine CC rfl (fun e1=>?_) (fun e1=>?_)
   ·
    replace l0:=ip l0 e1
    refine Aj (Am rfl rfl (Ar rfl rfl (o_z ?_)))
    obtain rfl:=sm l0
    refine (?_:Exists _)
    exact ⟨_,(),rfl,⟨rfl,rfl,rfl,rfl,rfl,rfl,rfl,rfl,rfl,rfl,trivial⟩,_,hB,f0,h8,i0,j0,e0,k0,m0,h0,rk64⟩
   ·
    replace l0:=im' l0 e1
    refine AJ ?_
    obtain rfl:=sm l0
    refine (?_:Exists _)
    exact ⟨_,(),rfl,⟨rfl,rfl,rfl,rfl,rfl,rfl,rfl,rfl,rfl,rfl,trivial⟩,_,hB,f0,h8,i0,j0,e0,k0,m0,h0,h1⟩
  rintro h4 n2 ⟨o2,i4,rfl,q1,j4,hB,f0,h8,i0,j0,e0,k0,m0,h0,h1⟩
  replace g0:=AX g0
  refine AN _ q1 ?_
  refine Al (Al (Aj (Am rfl rfl (Dl rfl rfl rfl (fun f1=>?_) fun f1=>?_))))
  ·
   replace g0:=ip g0 f1
   refine o_z ?_
   refine Ah rfl (Al (Aj (Am rfl rfl (Ar rfl rfl (o_z ?_)))))
   refine AF ?_
   obtain ⟨p2,q2,k0⟩:=k0.freeze
   obtain rfl:=sm g0
   obtain rfl:=c1 _ rfl
   obtain rfl:=sm (Ct hm)
   replace hB:=hB.st q2
   exact ret1v rfl (AA rfl) ⟨hB.ext,(Vb.mono (F:=Fr 0 n2 p2) k0 hB.out)⟩
  ·
   replace g0:=im g0 f1
   refine o_z ?_
   refine Ae rfl (AJ (Al (Aj (Am rfl rfl (Am rfl rfl ?_)))))
   obtain ⟨k4,g1,g0⟩:=bs g0
   obtain ⟨g1,r2,s2⟩:=AZ g1
   refine CN rfl (a:=o2) k0 (vInt h1) (fun _=>rfl) rfl (by decide) (by decide) r2 s2 ⟨rfl,rfl⟩ fun l4 t2 u2 m4 v2 n0 r1=>?_
   rw [← g1] at r1 ⊢
   refine Ar rfl rfl (o_z ?_)
   refine Aj ?_
   replace f0:=f0.st n0
   refine Bk (hl:=rfl) (hc:=(f0.1).cellsAt) rfl rfl ?_
   refine Am rfl rfl (Am rfl rfl ?_)
   obtain ⟨w2,x2,g0⟩:=bs g0
   replace h8:=h8.st n0
   replace i0:=i0.st n0
   replace j0:=j0.st n0
   replace e0:=e0.st n0
   replace m0:=m0.st n0
   refine DQ (O:=v2) (R:=fun w' F v=>T2 w' F v w2) (Is Fr.lt (Vb.ofAgg (cs:=[(.slice A9 x0.vars.length r0),(.slice p0 x0.init.length q0),(.slice s0 x0.goal.length t0),(.slice u0 x0.ops.length v0)]) (x:=x0) rfl ⟨_,_,_,_,rfl,h8,i0,j0,e0⟩) m0 h1 x2) rfl rfl fun n4 o4 p4 o0 y2=>?_
   obtain ⟨q4,r4,rfl,s1,z2⟩:=y2
   obtain ⟨a3,b3,rfl⟩:=s1.form
   obtain rfl:=z2.bool
   refine Am rfl rfl (Bp rfl rfl rfl (Bp rfl rfl rfl (Ar rfl rfl (o_z ?_))))
   obtain rfl:=sm g0
   refine (?_:Exists _)
   exact ⟨_,((t2,u2),(a3,b3)),rfl,⟨rfl,rfl,rfl,rfl,rfl,rfl,trivial⟩,_,(hB.st n0).st o0,f0.st o0,h8.st o0,i0.st o0,j0.st o0,e0.st o0,r1.st o0,s1,(h0.st n0).st o0⟩
 replace hB:=hB.st b1
 rintro s4 c3 ⟨t4,u4,rfl,t1,w4,hB,k0⟩
 replace hm:=AX hm
 refine AN _ t1 ?_
 refine Al (Aj (Am rfl rfl (Ar rfl rfl (o_z ?_))))
 refine AF ?_
 obtain ⟨d3,e3,k0⟩:=k0.freeze
 obtain rfl:=sm hm
 replace hB:=hB.st e3
 exact ret1v rfl (AA rfl) ⟨hB.ext,(Vb.mono (F:=Fr 0 c3 d3) k0 hB.out)⟩
noncomputable def Dm (x0:Tsk) (x1:List ByteArray):Option Bool :=
  bnd (if 70 < (x0.vars.length:Int) then (some true) else (if 20 < (x0.ops.length:Int) then (some true) else (bnd (EQ x1) fun q37=>if q37=true then some true else bnd (Dn) fun q44=>if q44=true then some false else some true)):Option Bool) fun y27=>if y27=true then (bnd (bnd (Dn) fun q60=>if q60=true then some true else some false:Option Bool) fun y56=>some y56) else (bnd (EJ x0 x1) fun q71=>bnd (Ex x0) fun q88=>if q88≠0 then (bnd (bnd (HB (⟨q71.2.2.n⟩:Err)) fun q101=>if q101=q88 then (if (q71.1.length:Int)=0 then (if q71.2.1=0 then (some true) else (some false)) else (some false)) else (some false):Option Bool) fun y97=>some y97) else (bnd (if q71.2.2.n=0 then (if q71.2.1=(q71.1.length:Int) then (bnd (EY x0 x1) fun q126=>bnd (EB q71.1 q126) fun q135=>if q135=true then some true else some false) else (some false)) else (some false):Option Bool) fun y118=>some y118))
theorem Hl {w:World} {A:Nat→Prop} (hA:∀ k,A k→k < w.heap.size) {vx0:Value} {x0:Tsk} (m1:Vb w A vx0 x0) {vx1:Value} {x1:List ByteArray} (g0:Vb w A vx1 x1) {r:Bool} (hm:Dm x0 x1=some r) :
    Fn Tryz.prog 7 [vx0,vx1] w fun v w'=>Ext w w'∧Vb w' (upA A w w') v r:=by
 obtain ⟨O,hB,j2⟩:=enter hA
 replace m1:=m1.mono j2
 obtain ⟨l4,rfl,v4,v5,v6,v7,rfl,h8,k0,l0,f0⟩:=m1
 obtain ⟨A9,z0,rfl⟩:=h8.form
 obtain ⟨a1,b1,rfl⟩:=k0.form
 obtain ⟨c1,d1,rfl⟩:=l0.form
 obtain ⟨e1,f1,rfl⟩:=f0.form
 replace g0:=g0.mono j2
 obtain ⟨k2,l2,rfl⟩:=g0.form
 refine AD Tryz.func7 rfl Tryz.ntmps7 rfl ?_
 unfold Dm at hm
 refine Al (Aj (CD 2 O rfl rfl fun n1 o1 p1 d0 i0=>?_))
 replace i0:Lc 2 o1 p1 n1 26 [(.slice A9 x0.vars.length z0),(.slice a1 x0.init.length b1),(.slice c1 x0.goal.length d1),(.slice e1 x0.ops.length f1)]:=i0
 refine Ar rfl rfl (o_z ?_)
 refine Al (Al ?_)
 obtain ⟨u2,b0,hm⟩:=bs hm
 refine AK (fun l' w'=>∃ (v2:Unit) (O':Lab),subs l' [(1,(.slice k2 x1.length l2)),(2,(.pointer (some ⟨n1,0,none⟩))),(26,(.bool u2))]∧Bs w A w' O'∧Vb w' (Fr 0 w' O') (.slice k2 x1.length l2) x1∧Lc 2 w' O' n1 26 [(.slice A9 x0.vars.length z0),(.slice a1 x0.init.length b1),(.slice c1 x0.goal.length d1),(.slice e1 x0.ops.length f1)]∧Vb w' (Fr 0 w' O') (.slice A9 x0.vars.length z0) x0.vars∧Vb w' (Fr 0 w' O') (.slice a1 x0.init.length b1) x0.init∧Vb w' (Fr 0 w' O') (.slice c1 x0.goal.length d1) x0.goal∧Vb w' (Fr 0 w' O') (.slice e1 x0.ops.length f1) x0.ops) ?_ ?_
 ·
  refine Aj (AE rfl rfl (AC (hc:=Blk.cell (i:=0) (i0.1) rfl) rfl rfl ?_))
  refine AP rfl rfl ?_
  replace h8:=h8.st d0
  have w2:x0.vars.length≤9223372036854775807:=Nat.le_trans h8.len.2.1 h8.len.2.2
  have m4:inI64 (x0.vars.length:Int):=rngNat w2
  refine Cl rfl rfl rfl (fun q1=>?_) fun q1=>?_
  ·
   replace b0:=ip b0 q1
   refine Am rfl rfl (Au rfl rfl rfl rfl (Au rfl rfl rfl rfl (Au rfl rfl rfl rfl (Au rfl rfl rfl rfl (Be rfl rfl rfl (Am rfl rfl (Au rfl rfl rfl rfl (Au rfl rfl rfl rfl (Be rfl rfl rfl (Am rfl rfl (Au rfl rfl rfl rfl (Au rfl rfl rfl rfl (Be rfl rfl rfl (o_z ?_))))))))))))))
   obtain rfl:=sm b0
   exact ⟨(),_,⟨rfl,rfl,rfl,trivial⟩,hB.st d0,g0.st d0,i0,h8,k0.st d0,l0.st d0,f0.st d0⟩
  ·
   replace b0:=im b0 q1
   refine Am rfl rfl (Aw rfl rfl (AE rfl rfl (Aw rfl rfl (AC (hc:=Blk.cell (i:=3) (i0.1) rfl) rfl rfl ?_))))
   refine Aw rfl rfl (AP rfl rfl ?_)
   replace f0:=f0.st d0
   have x2:x0.ops.length≤9223372036854775807:=Nat.le_trans f0.len.2.1 f0.len.2.2
   have n4:inI64 (x0.ops.length:Int):=rngNat x2
   refine Aw rfl rfl (Cl rfl rfl rfl (fun r1=>?_) fun r1=>?_)
   ·
    replace b0:=ip b0 r1
    refine AU rfl rfl rfl (Am rfl rfl (Au rfl rfl rfl rfl (Au rfl rfl rfl rfl (Be rfl rfl rfl (Am rfl rfl (Au rfl rfl rfl rfl (Au rfl rfl rfl rfl (Be rfl rfl rfl (o_z ?_)))))))))
    obtain rfl:=sm b0
    exact ⟨(),_,⟨rfl,rfl,rfl,trivial⟩,hB.st d0,g0.st d0,i0,h8,k0.st d0,l0.st d0,f0⟩
   ·
    replace b0:=im b0 r1
    refine AU rfl rfl rfl (Am rfl rfl (Aw rfl rfl (Am rfl rfl (Aw rfl rfl ?_))))
    obtain ⟨m2,y2,b0⟩:=bs b0
    replace g0:=g0.st d0
    refine Bt (O:=p1) (A:=All o1) (R:=fun w' F v=>Vb w' F v m2) (Lg (fun _ h=>h) (Vb.mono (F:=Fr 0 o1 p1) g0 Fr.lt) y2) rfl rfl fun o4 z2 a3 e0 b3=>?_
    obtain rfl:=b3.bool
    cases m2
    case false =>
     replace b0:=iF b0
     refine AU rfl rfl rfl (Am rfl rfl (Aw rfl rfl ?_))
     obtain ⟨n2,c3,b0⟩:=bs b0
     refine Bt (O:=a3) (A:=All z2) (R:=fun w' F v=>Vb w' F v n2) (HR (fun _ h=>h)  c3) rfl rfl fun p4 q4 r4 n0 d3=>?_
     obtain rfl:=d3.bool
     cases n2
     case false =>
      replace b0:=iF b0
      refine Aw rfl rfl (De rfl rfl (AU rfl rfl rfl (o_z ?_)))
      obtain rfl:=sm b0
      exact ⟨(),_,⟨rfl,rfl,rfl,trivial⟩,((hB.st d0).st e0).st n0,(g0.st e0).st n0,(i0.st e0).st n0,(h8.st e0).st n0,((k0.st d0).st e0).st n0,((l0.st d0).st e0).st n0,(f0.st e0).st n0⟩
     replace b0:=iT b0
     refine Aw rfl rfl (Dd rfl rfl (AU rfl rfl rfl (o_z ?_)))
     obtain rfl:=sm b0
     exact ⟨(),_,⟨rfl,rfl,rfl,trivial⟩,((hB.st d0).st e0).st n0,(g0.st e0).st n0,(i0.st e0).st n0,(h8.st e0).st n0,((k0.st d0).st e0).st n0,((l0.st d0).st e0).st n0,(f0.st e0).st n0⟩
    replace b0:=iT b0
    refine AU rfl rfl rfl (Am rfl rfl (Au rfl rfl rfl rfl (Au rfl rfl rfl rfl (Be rfl rfl rfl (o_z ?_)))))
    obtain rfl:=sm b0
    exact ⟨(),_,⟨rfl,rfl,rfl,trivial⟩,(hB.st d0).st e0,g0.st e0,i0.st e0,h8.st e0,(k0.st d0).st e0,(l0.st d0).st e0,f0.st e0⟩
 replace hB:=hB.st d0
 replace g0:=g0.st d0
 replace h8:=h8.st d0
 replace k0:=k0.st d0
 replace l0:=l0.st d0
 replace f0:=f0.st d0
 rintro s4 e3 ⟨v2,o2,s1,hB,g0,i0,h8,k0,l0,f0⟩
 refine AN _ s1 ?_
 refine CC rfl (fun t1=>?_) (fun t1=>?_)
 ·
  replace hm:=ip hm t1
  refine Al ?_
  obtain ⟨f3,j0,hm⟩:=bs hm
  refine AK (fun l' w'=>∃ (g3:Unit) (O':Lab),subs l' [(4,(.bool f3))]∧Bs w A w' O') ?_ ?_
  ·
   refine Aj ?_
   obtain ⟨p2,h3,j0⟩:=bs j0
   refine Bt (O:=o2) (A:=All e3) (R:=fun w' F v=>Vb w' F v p2) (HR (fun _ h=>h)  h3) rfl rfl fun t4 u4 w4 q2 i3=>?_
   obtain rfl:=i3.bool
   cases p2
   case false =>
    replace j0:=iF j0
    refine Ar rfl rfl (o_z ?_)
    obtain rfl:=sm j0
    exact ⟨(),_,⟨rfl,trivial⟩,hB.st q2⟩
   replace j0:=iT j0
   refine Ar rfl rfl (o_z ?_)
   obtain rfl:=sm j0
   exact ⟨(),_,⟨rfl,trivial⟩,hB.st q2⟩
  rintro x4 y4 ⟨g3,z4,u1,hB⟩
  refine AN _ u1 ?_
  refine AF ?_
  obtain rfl:=sm hm
  exact ret1v rfl (AA rfl) ⟨hB.ext,vBool⟩
 ·
  replace hm:=im' hm t1
  refine AJ (Al (Aj (Bk (hl:=rfl) (hc:=(i0.1).cellsAt) rfl rfl ?_)))
  refine Am rfl rfl ?_
  obtain ⟨g1,j3,hm⟩:=bs hm
  refine DQ (O:=o2) (R:=fun w' F v=>T3 w' F v g1) (JN Fr.lt (Vb.ofAgg (cs:=[(.slice A9 x0.vars.length z0),(.slice a1 x0.init.length b1),(.slice c1 x0.goal.length d1),(.slice e1 x0.ops.length f1)]) (x:=x0) rfl ⟨_,_,_,_,rfl,h8,k0,l0,f0⟩) g0 j3) rfl rfl fun a5 r2 s2 m0 k3=>?_
  obtain ⟨b5,c5,d5,rfl,o0,l3,m3⟩:=k3
  obtain ⟨e5,f5,rfl⟩:=o0.form
  obtain ⟨rfl,g5⟩:=l3.int
  obtain ⟨rfl,n3⟩:=m3.err
  refine Am rfl rfl (Bp rfl rfl rfl (Bp rfl rfl rfl (Bp rfl rfl rfl (Ar rfl rfl (Ar rfl rfl (Ar rfl rfl (o_z ?_)))))))
  refine Al (Al (Aj ?_))
  replace i0:=i0.st m0
  refine Bk (hl:=rfl) (hc:=(i0.1).cellsAt) rfl rfl ?_
  obtain ⟨o3,p3,hm⟩:=bs hm
  replace h8:=h8.st m0
  replace k0:=k0.st m0
  replace l0:=l0.st m0
  replace f0:=f0.st m0
  refine Bt (O:=s2) (A:=All r2) (R:=fun w' F v=>Vb w' F v o3) (Ky (fun _ h=>h) (Vb.mono (F:=Fr 0 r2 s2) (Vb.ofAgg (cs:=[(.slice A9 x0.vars.length z0),(.slice a1 x0.init.length b1),(.slice c1 x0.goal.length d1),(.slice e1 x0.ops.length f1)]) (x:=x0) rfl ⟨_,_,_,_,rfl,h8,k0,l0,f0⟩) Fr.lt) p3) rfl rfl fun h5 q3 t2 h0 r3=>?_
  obtain ⟨rfl,i5⟩:=r3.int
  refine Ar rfl rfl (o_z ?_)
  refine Al (Aj (Am rfl rfl (Hr rfl rfl rfl (fun v1=>?_) fun v1=>?_)))
  ·
   replace hm:=ip hm v1
   refine o_z ?_
   refine Ah rfl (Al ?_)
   obtain ⟨s3,c0,hm⟩:=bs hm
   refine AK (fun l' w'=>∃ (w1:Unit) (O':Lab),subs l' [(4,(.bool s3))]∧Bs w A w' O') ?_ ?_
   ·
    refine Aj (Am rfl rfl ?_)
    obtain ⟨y1,z1,c0⟩:=bs c0
    refine Bt (O:=t2) (A:=All q3) (R:=fun w' F v=>Vb w' F v y1) (LV (fun _ h=>h) n3 z1) rfl rfl fun t3 u3 v3 p0 a2=>?_
    obtain ⟨rfl,w3⟩:=a2.int
    refine Am rfl rfl (Gl rfl rfl rfl (fun q0=>?_) fun q0=>?_)
    ·
     replace c0:=ip c0 q0
     refine Am rfl rfl (Aw rfl rfl (Am rfl rfl (Aw rfl rfl (AP rfl rfl ?_))))
     replace o0:=(o0.st h0).st p0
     have b2:g1.1.length≤9223372036854775807:=Nat.le_trans o0.len.2.1 o0.len.2.2
     have x3:inI64 (g1.1.length:Int):=rngNat b2
     refine Aw rfl rfl (Gl rfl rfl rfl (fun r0=>?_) fun r0=>?_)
     ·
      replace c0:=ip c0 r0
      refine Be rfl rfl rfl (Am rfl rfl (Aw rfl rfl (Am rfl rfl (Aw rfl rfl (Gl rfl rfl rfl (fun s0=>?_) fun s0=>?_)))))
      ·
       replace c0:=ip c0 s0
       refine Be rfl rfl rfl (Ar rfl rfl (o_z ?_))
       obtain rfl:=sm c0
       exact ⟨(),_,⟨rfl,trivial⟩,((hB.st m0).st h0).st p0⟩
      ·
       replace c0:=im c0 s0
       refine Be rfl rfl rfl (Ar rfl rfl (o_z ?_))
       obtain rfl:=sm c0
       exact ⟨(),_,⟨rfl,trivial⟩,((hB.st m0).st h0).st p0⟩
     ·
      replace c0:=im c0 r0
      refine Be rfl rfl rfl (Am rfl rfl (Au rfl rfl rfl rfl (Au rfl rfl rfl rfl (AU rfl rfl rfl (Ar rfl rfl (o_z ?_))))))
      obtain rfl:=sm c0
      exact ⟨(),_,⟨rfl,trivial⟩,((hB.st m0).st h0).st p0⟩
    ·
     replace c0:=im c0 q0
     refine Am rfl rfl (Au rfl rfl rfl rfl (Au rfl rfl rfl rfl (Au rfl rfl rfl rfl (AU rfl rfl rfl (Am rfl rfl (Au rfl rfl rfl rfl (Au rfl rfl rfl rfl (AU rfl rfl rfl (Ar rfl rfl (o_z ?_))))))))))
     obtain rfl:=sm c0
     exact ⟨(),_,⟨rfl,trivial⟩,((hB.st m0).st h0).st p0⟩
   replace hB:=(hB.st m0).st h0
   rintro y3 z3 ⟨w1,a4,h1,hB⟩
   refine AN _ h1 ?_
   refine AF ?_
   obtain rfl:=sm hm
   exact ret1v rfl (AA rfl) ⟨hB.ext,vBool⟩
  ·
   replace hm:=im hm v1
   refine o_z ?_
   refine Ae rfl (AJ (Al ?_))
   obtain ⟨c2,a0,hm⟩:=bs hm
   refine AK (fun l' w'=>∃ (d2:Unit) (O':Lab),subs l' [(4,(.bool c2))]∧Bs w A w' O') ?_ ?_
   ·
    refine Aj (Am rfl rfl (Ng rfl rfl (fun t0=>?_) fun t0=>?_))
    ·
     replace a0:=ip a0 t0
     refine Am rfl rfl (Aw rfl rfl (Am rfl rfl (Aw rfl rfl (Am rfl rfl (Aw rfl rfl (AP rfl rfl ?_))))))
     replace o0:=o0.st h0
     have e2:g1.1.length≤9223372036854775807:=Nat.le_trans o0.len.2.1 o0.len.2.2
     have b4:inI64 (g1.1.length:Int):=rngNat e2
     refine Aw rfl rfl (Gl rfl rfl rfl (fun u0=>?_) fun u0=>?_)
     ·
      replace a0:=ip a0 u0
      refine Be rfl rfl rfl (Am rfl rfl (Aw rfl rfl (Am rfl rfl (Aw rfl rfl ?_))))
      replace i0:=i0.st h0
      refine Bk (hl:=rfl) (hc:=(i0.1).cellsAt) rfl rfl ?_
      refine Aw rfl rfl (Am rfl rfl (Aw rfl rfl ?_))
      obtain ⟨f2,g2,a0⟩:=bs a0
      replace g0:=(g0.st m0).st h0
      replace h8:=h8.st h0
      replace k0:=k0.st h0
      replace l0:=l0.st h0
      replace f0:=f0.st h0
      refine DQ (O:=t2) (R:=fun w' F v=>Vb w' F v f2) (Kb Fr.lt (Vb.ofAgg (cs:=[(.slice A9 x0.vars.length z0),(.slice a1 x0.init.length b1),(.slice c1 x0.goal.length d1),(.slice e1 x0.ops.length f1)]) (x:=x0) rfl ⟨_,_,_,_,rfl,h8,k0,l0,f0⟩) g0 g2) rfl rfl fun c4 v0 w0 y0 i1=>?_
      obtain ⟨d4,e4,rfl⟩:=i1.form
      refine Aw rfl rfl ?_
      obtain ⟨j1,h2,a0⟩:=bs a0
      replace o0:=o0.st y0
      refine Bt (O:=w0) (A:=All v0) (R:=fun w' F v=>Vb w' F v j1) (IT (fun _ h=>h) (Vb.mono (F:=Fr 0 v0 w0) o0 Fr.lt) (Vb.mono (F:=Fr 0 v0 w0) i1 Fr.lt) h2) rfl rfl fun f4 g4 h4 k1 i2=>?_
      obtain rfl:=i2.bool
      cases j1
      case false =>
       replace a0:=iF a0
       refine Be rfl rfl rfl (Ar rfl rfl (o_z ?_))
       obtain rfl:=sm a0
       exact ⟨(),_,⟨rfl,trivial⟩,(((hB.st m0).st h0).st y0).st k1⟩
      replace a0:=iT a0
      refine Be rfl rfl rfl (Ar rfl rfl (o_z ?_))
      obtain rfl:=sm a0
      exact ⟨(),_,⟨rfl,trivial⟩,(((hB.st m0).st h0).st y0).st k1⟩
     ·
      replace a0:=im a0 u0
      refine Be rfl rfl rfl (Am rfl rfl (Au rfl rfl rfl rfl (Au rfl rfl rfl rfl (Au rfl rfl rfl rfl (Au rfl rfl rfl rfl (Au rfl rfl rfl rfl (AU rfl rfl rfl (Ar rfl rfl (o_z ?_)))))))))
      obtain rfl:=sm a0
      exact ⟨(),_,⟨rfl,trivial⟩,(hB.st m0).st h0⟩
    ·
     replace a0:=im a0 t0
     refine Am rfl rfl (Au rfl rfl rfl rfl (Au rfl rfl rfl rfl (Au rfl rfl rfl rfl (Au rfl rfl rfl rfl (AU rfl rfl rfl (Am rfl rfl (Au rfl rfl rfl rfl (Au rfl rfl rfl rfl (Au rfl rfl rfl rfl (Au rfl rfl rfl rfl (Au rfl rfl rfl rfl (AU rfl rfl rfl (Ar rfl rfl (o_z ?_))))))))))))))
     obtain rfl:=sm a0
     exact ⟨(),_,⟨rfl,trivial⟩,(hB.st m0).st h0⟩
   replace hB:=(hB.st m0).st h0
   rintro i4 j4 ⟨d2,k4,l1,hB⟩
   refine AN _ l1 ?_
   refine AF ?_
   obtain rfl:=sm hm
   exact ret1v rfl (AA rfl) ⟨hB.ext,vBool⟩
end
section
open Go Go.RowKit
theorem Mx (a:List ByteArray):∃ b,EQ a=some b:=by
  have key:∀ (xs:List ByteArray) (k:Nat) (s:Int),∃ s',rng (ρ:=Bool) (fun (_:Nat) (x:ByteArray) (s:Int)=>some (.next (wr (s + (x.size:Int))))) xs k s=some (.done s'):=by
    intro xs
    induction xs with
    | nil=>intro k s;exact ⟨s,rfl⟩
    | cons x xs ih=>intro k s;exact ih (k + 1) _
  obtain ⟨s,hs⟩:=key a 0 (a.length:Int)
  unfold EQ
  rw [hs,AG,EI]
  by_cases h:600 < s
  · exact ⟨true,by rw [if_pos h,AG]⟩
  · exact ⟨false,by rw [if_neg h,AG]⟩
end
section
open Go Go.RowKit
theorem Iv (f:List Fct) (s:List Int):Cv f s=some (holdsB f s):=rfl
end
section
open Go Go.RowKit
theorem GJ {p q:Prop}:(bof p || bof q)=bof (p∨q):=by
  by_cases h:p
  · rw [Bg h,Bg (p:=p∨q) (.inl h)];rfl
  · by_cases h2:q
    · rw [Bh h,Bg h2,Bg (p:=p∨q) (.inr h2)];rfl
    · rw [Bh h,Bh h2,Bh (p:=p∨q) (fun hh=>hh.elim h h2)];rfl
theorem OX:bof False=false:=Bh id
theorem FZ {α ρ:Type} {f:Nat→α→Bool→Option (Ctl Bool ρ)} {xs:List α} {b:Bool} (P:α→Prop) (h:∀ k x s,xs[k]?=some x→f k x s=some (.next (s || bof (P x)))):rng f xs 0 b=some (.done (b || bof (∃ x∈xs,P x))):=by
  rw [Ld (fun k=>b || bof (∃ x∈xs.take k,P x)) ?a ?b,List.take_length]
  case a=>simp [OX]
  case b =>
    intro k x hk
    rw [h k x _ hk,Bool.or_assoc,GJ]
    congr 3
    rw [Fy]
    rw [List.take_add_one,hk]
    constructor
    · rintro (⟨y,hy,hp⟩|hp)
      · exact ⟨y,List.mem_append.2 (.inl hy),hp⟩
      · exact ⟨x,List.mem_append.2 (.inr (by simp)),hp⟩
    · rintro ⟨y,hy,hp⟩
      rcases List.mem_append.1 hy with hy|hy
      · exact .inl ⟨y,hy,hp⟩
      · obtain rfl:y=x:=by simpa using hy
        exact .inr hp
theorem NC {ρ:Type} {f:Nat→Bool→Option (Ctl Bool ρ)} {n:Nat} {b:Bool} (P:Nat→Prop) (h:∀ k s,k < n→f k s=some (.next (s || bof (P k)))):rngN f n b=some (.done (b || bof (∃ k,k < n∧P k))):=by
  unfold rngN
  rw [FZ P (fun k x s hk=>h x s (List.mem_range.1 (List.mem_of_getElem? hk)))]
  congr 3
  rw [Fy]
  exact ⟨fun ⟨x,hx,hp⟩=>⟨x,List.mem_range.1 hx,hp⟩,fun ⟨x,hx,hp⟩=>⟨x,List.mem_range.2 hx,hp⟩⟩
theorem ND {p:Prop} {s:Bool}:(if s=true then some true else some (bof p))=some (s || bof p):=by cases s<;>rfl
theorem large5 (t:Tsk):Ew t=some (bof (Large t)):=by
  unfold Ew
  have e1:(if 64 < (t.vars.length:Int) then (some true) else (if 4096 < (t.ops.length:Int) then (some true) else (if 64 < (t.goal.length:Int) then (some true) else (some false))):Option Bool)=some (bof (64 < t.vars.length∨4096 < t.ops.length∨64 < t.goal.length)):=by
    by_cases h1:64 < t.vars.length
    · rw [if_pos (by omega),Bg (.inl h1)]
    · by_cases h2:4096 < t.ops.length
      · rw [if_neg (by omega),if_pos (by omega),Bg (.inr (.inl h2))]
      · by_cases h3:64 < t.goal.length
        · rw [if_neg (by omega),if_neg (by omega),if_pos (by omega),Bg (.inr (.inr h3))]
        · rw [if_neg (by omega),if_neg (by omega),if_neg (by omega),Bh (by omega)]
  rw [e1, AG,FZ (fun o:Opr=>64 < o.pre.length∨64 < o.effs.length∨∃ e∈o.effs,64 < e.cond.length) (fun k o s hk=>by
    have e2:(if s=true then (some true) else (if 64 < (o.pre.length:Int) then (some true) else (if 64 < (o.effs.length:Int) then (some true) else (some false))):Option Bool)=some (s || bof (64 < o.pre.length∨64 < o.effs.length)):=by
      cases s with
      | true=>rfl
      | false =>
        rw [EP,Bool.false_or]
        by_cases h1:64 < o.pre.length
        · rw [if_pos (by omega),Bg (.inl h1)]
        · by_cases h2:64 < o.effs.length
          · rw [if_neg (by omega),if_pos (by omega),Bg (.inr h2)]
          · rw [if_neg (by omega),if_neg (by omega),Bh (by omega)]
    rw [e2,AG,FZ (fun e:Eff=>64 < e.cond.length) (fun k e s hk=>by
      cases s with
      | true=>rfl
      | false =>
        rw [EP,Bool.false_or]
        by_cases h:64 < e.cond.length
        · rw [if_pos (by omega),Bg h]
        · rw [if_neg (by omega),Bh h]),AG,EI,Bool.or_assoc,GJ,Fy or_assoc]),AG,EI,GJ]
  refine congrArg some (Fy ?_)
  unfold Large
  constructor
  · rintro ((h|h|h)|⟨o,ho,h⟩)
    · exact .inl h
    · exact .inr (.inl h)
    · exact .inr (.inr (.inr ⟨_,Dg.2 (.inl rfl),h⟩))
    · obtain ⟨i,hi⟩:=List.getElem?_of_mem ho
      rcases h with h|h|⟨e,he,h⟩
      · exact .inr (.inr (.inr ⟨_,Dg.2 (.inr ⟨i,o,hi,.inl rfl⟩),h⟩))
      · exact .inr (.inr (.inl ⟨i,o,hi,h⟩))
      · obtain ⟨j,hj⟩:=List.getElem?_of_mem he
        exact .inr (.inr (.inr ⟨_,Dg.2 (.inr ⟨i,o,hi,.inr ⟨j,e,hj,rfl⟩⟩),h⟩))
  · rintro (h|h|⟨i,o,ho,h⟩|⟨f,hf,h⟩)
    · exact .inl (.inl h)
    · exact .inl (.inr (.inl h))
    · exact .inr ⟨o,List.mem_of_getElem? ho,.inr (.inl h)⟩
    · rcases Dg.1 hf with rfl|⟨i,o,ho,rfl|⟨j,e,he,rfl⟩⟩
      · exact .inl (.inr (.inr h))
      · exact .inr ⟨o,List.mem_of_getElem? ho,.inl h⟩
      · exact .inr ⟨o,List.mem_of_getElem? ho,.inr (.inr ⟨e,List.mem_of_getElem? he,h⟩)⟩
theorem outside5 (t:Tsk):DS t=some (bof (¬ (VarsOk t∧CostsOk t))):=by
  unfold DS
  rw [FZ (fun n:Int=>n < 1∨64 < n) (fun k n s hk=>by
    cases s with
    | true=>rfl
    | false =>
      rw [EP,Bool.false_or]
      by_cases h1:n < 1
      · rw [if_pos h1,Bg (.inl h1)]
      · by_cases h2:64 < n
        · rw [if_neg h1,if_pos h2,Bg (.inr h2)]
        · rw [if_neg h1,if_neg h2,Bh (by omega)]),AG,EI,FZ (fun o:Opr=>o.cost < 0∨1048576 < o.cost) (fun k o s hk=>by
    cases s with
    | true=>rfl
    | false =>
      rw [EP,Bool.false_or]
      by_cases h1:o.cost < 0
      · rw [if_pos h1,Bg (.inl h1)]
      · by_cases h2:1048576 < o.cost
        · rw [if_neg h1,if_pos h2,Bg (.inr h2)]
        · rw [if_neg h1,if_neg h2,Bh (by omega)]),AG,EI,Bool.false_or,GJ]
  refine congrArg some (Fy ?_)
  constructor
  · rintro (⟨n,hn,h⟩|⟨o,ho,h⟩) ⟨h1,h2⟩
    · obtain ⟨i,hi⟩:=List.getElem?_of_mem hn
      have:=h1 i n hi;omega
    · obtain ⟨i,hi⟩:=List.getElem?_of_mem ho
      have:=h2 i o hi;omega
  · intro h
    refine Classical.byContradiction fun hn=>h ⟨fun i n hi=>?_,fun i o hi=>?_⟩
    · refine Classical.byContradiction fun hh=>hn (.inl ⟨n,List.mem_of_getElem? hi,by omega⟩)
    · refine Classical.byContradiction fun hh=>hn (.inr ⟨o,List.mem_of_getElem? hi,by omega⟩)
theorem LL {p:Prop}:(if bof p=true then some false else some true)=some (bof (¬ p)):=by
  by_cases h:p
  · rw [Bg h,Bh (fun hh=>hh h)];rfl
  · rw [Bh h,Bg h];rfl
theorem malformed5 (t:Tsk):Dr t=some (bof (¬ (StateOk t.vars t.init∧CondsOk t∧EffsOk t))):=by
  unfold Dr GG DM
  have e1:(bnd (some (bof (StateOk t.vars t.init))) fun q27=>if q27=true then bnd (some (bof (FactsOk t.vars t.goal))) fun q34=>if q34=true then some false else some true else some true:Option Bool)=some (bof (¬ StateOk t.vars t.init∨¬ FactsOk t.vars t.goal)):=by
    rw [AG,AG,LL]
    by_cases h:StateOk t.vars t.init
    · rw [Bg h,Ha]
      exact congrArg some (Fy ⟨fun h=>.inr h,fun hh=>hh.resolve_left (fun hn=>hn h)⟩)
    · rw [Bh h,EP,Bg (.inl h)]
  rw [e1, AG,FZ (fun o:Opr=>¬ FactsOk t.vars o.pre∨∃ e∈o.effs,¬ EffOk t.vars e) (fun k o s hk=>by
    rw [AG,LL,ND,AG,FZ (fun e:Eff=>¬ EffOk t.vars e) (fun k e s hk=>by
      cases s with
      | true=>rfl
      | false =>
        rw [EP,Bool.false_or,AG]
        by_cases h1:FactsOk t.vars e.cond
        · rw [Bg h1,Ha,AG]
          by_cases h2:FactsOk t.vars [⟨e.var,e.val⟩]
          · rw [Bg h2,Ha,Bh (fun h=>h ⟨h1,FS.1 h2⟩)]
          · rw [Bh h2,EP,Bg (fun h=>h2 (FS.2 h.2))]
        · rw [Bh h1,EP,Bg (fun h=>h1 h.1)]),AG,EI,Bool.or_assoc,GJ]),AG,EI,GJ]
  refine congrArg some (Fy ?_)
  constructor
  · rintro ((h|h)|⟨o,ho,h⟩) ⟨h1,h2,h3⟩
    · exact h h1
    · exact h (h2 0 _ rfl)
    · obtain ⟨i,hi⟩:=List.getElem?_of_mem ho
      have hc:∀ f∈conds t,FactsOk t.vars f:=fun f hf=>by
        obtain ⟨i,hi⟩:=List.getElem?_of_mem hf
        exact h2 i f hi
      rcases h with h|⟨e,he,h⟩
      · exact h (hc _ (Dg.2 (.inr ⟨i,o,hi,.inl rfl⟩)))
      · obtain ⟨j,hj⟩:=List.getElem?_of_mem he
        exact h ⟨hc _ (Dg.2 (.inr ⟨i,o,hi,.inr ⟨j,e,hj,rfl⟩⟩)),h3 i o hi j e hj⟩
  · intro h
    refine Classical.byContradiction fun hn=>h ?_
    have g1:StateOk t.vars t.init:=Classical.byContradiction fun hh=>hn (.inl (.inl hh))
    have g2:FactsOk t.vars t.goal:=Classical.byContradiction fun hh=>hn (.inl (.inr hh))
    have g3:∀ o∈t.ops,FactsOk t.vars o.pre:=fun o ho=>Classical.byContradiction fun hh=>hn (.inr ⟨o,ho,.inl hh⟩)
    have g4:∀ o∈t.ops,∀ e∈o.effs,EffOk t.vars e:=fun o ho e he=>Classical.byContradiction fun hh=>hn (.inr ⟨o,ho,.inr ⟨e,he,hh⟩⟩)
    refine ⟨g1,fun i f hf=>?_,fun i o ho j e he=>(g4 o (List.mem_of_getElem? ho) e (List.mem_of_getElem? he)).2⟩
    rcases Dg.1 (List.mem_of_getElem? hf) with rfl|⟨i,o,ho,rfl|⟨j,e,he,rfl⟩⟩
    · exact g2
    · exact g3 o (List.mem_of_getElem? ho)
    · exact (g4 o (List.mem_of_getElem? ho) e (List.mem_of_getElem? he)).1
theorem misnamed5 (t:Tsk):DC t=some (bof (¬ NamesOk t)):=by
  unfold DC
  rw [FZ (fun o:Opr=>256 < o.name.size∨∃ k,k < o.name.size∧∃ h:k < o.name.size,(o.name[k]'h).toNat < 32∨126 < (o.name[k]'h).toNat) (fun k o s hk=>by
    have e2:(if s=true then (some true) else (if 256 < (o.name.size:Int) then (some true) else (some false)):Option Bool)=some (s || bof (256 < o.name.size)):=by
      cases s with
      | true=>rfl
      | false =>
        rw [EP,Bool.false_or]
        by_cases h:256 < o.name.size
        · rw [if_pos (by omega),Bg h]
        · rw [if_neg (by omega),Bh h]
    rw [e2,AG,NC (fun k=>∃ h:k < o.name.size,(o.name[k]'h).toNat < 32∨126 < (o.name[k]'h).toNat) (fun k s hk=>by
      cases s with
      | true=>rfl
      | false =>
        rw [EP,Bool.false_or,Nm hk,AG,AG]
        by_cases h1:(o.name[k]'hk).toNat < 32
        · rw [if_pos (by omega),Bg ⟨hk,.inl h1⟩]
        · by_cases h2:126 < (o.name[k]'hk).toNat
          · rw [if_neg (by omega),if_pos (by omega),Bg ⟨hk,.inr h2⟩]
          · rw [if_neg (by omega),if_neg (by omega),Bh (fun ⟨_,h⟩=>by omega)]),AG,EI,Bool.or_assoc,GJ]),AG,EI,Bool.false_or]
  refine congrArg some (Fy ?_)
  constructor
  · rintro ⟨o,ho,h⟩ hn
    obtain ⟨i,hi⟩:=List.getElem?_of_mem ho
    obtain ⟨h1,h2⟩:=hn i o hi
    rcases h with h|⟨k,hk,_,h⟩
    · omega
    · have:=h2 k hk;omega
  · intro h
    refine Classical.byContradiction fun hn=>h fun i o ho=>?_
    have hm:=List.mem_of_getElem? ho
    refine ⟨Nat.le_of_not_lt fun hh=>hn ⟨o,hm,.inl hh⟩,fun k hk=>?_⟩
    refine Classical.byContradiction fun hh=>hn ⟨o,hm,.inr ⟨k,hk,hk,by omega⟩⟩
theorem Kc {p:Prop}:bof (¬ p)=!bof p:=by
  by_cases h:p
  · rw [Bg h,Bh (fun hh=>hh h)];rfl
  · rw [Bh h,Bg h];rfl
theorem check5 (t:Tsk):Ex t=some (checkN t):=by
  unfold Ex checkN
  rw [large5,outside5,malformed5,misnamed5,Kc,Kc,Kc]
  cases bof (Large t)<;>cases bof (VarsOk t∧CostsOk t)<;>cases bof (StateOk t.vars t.init∧CondsOk t∧EffsOk t)<;>cases bof (NamesOk t)<;>rfl
end
section
open Go Go.RowKit
def Le {α:Type} (x y:Option α):Prop:=∀ r,x=some r→y=some r
theorem Le.rf {α:Type} {x:Option α}:Le x x:=fun _ h=>h
theorem Le.bnd {α β:Type} {x x':Option α} {f f':α→Option β} (h:Le x x') (hf:∀ a,Le (f a) (f' a)):Le (bnd x f) (bnd x' f'):=fun r hr=>by
  obtain ⟨a,ha,hb⟩:=bs hr
  rw [h a ha,AG]
  exact hf a r hb
theorem Le.ite {α:Type} {p:Prop} [Decidable p] {x x' y y':Option α} (h:Le x x') (k:Le y y'):Le (if p then x else y) (if p then x' else y'):=by
  by_cases hp:p
  · rw [if_pos hp,if_pos hp];exact h
  · rw [if_neg hp,if_neg hp];exact k
theorem Le.fin {σ κ:Type} {y:Fin σ κ} {f f':σ→Option κ} (hf:∀ a,Le (f a) (f' a)):Le (fin y f) (fin y f'):=by
  cases y with
  | done s=>exact hf s
  | ret c=>exact Le.rf
theorem Le.rng {α σ ρ:Type} {f f':Nat→α→σ→Option (Ctl σ ρ)} (hf:∀ k a s,Le (f k a s) (f' k a s)):∀ {xs:List α} {k:Nat} {s:σ},Le (rng f xs k s) (rng f' xs k s)
  | [],_,_=>Le.rf
  | x :: xs,k,s=>fun r hr=>by
    simp only [Proofs.YtafdmfhdjfkooaaGreat.rng] at hr ⊢
    cases hc:f k x s with
    | none=>rw [hc] at hr;cases hr
    | some c =>
      rw [hc] at hr
      rw [hf k x s c hc]
      cases c with
      | next s'=>exact Le.rng hf r hr
      | brk s'=>exact hr
      | ret q=>exact hr
theorem Le.rngN {σ ρ:Type} {f f':Nat→σ→Option (Ctl σ ρ)} {n:Nat} {s:σ} (hf:∀ k s,Le (f k s) (f' k s)):Le (rngN f n s) (rngN f' n s):=Le.rng fun _ k s=>hf k s
theorem Le.itr {σ ρ:Type} {f f':σ→Option (Ctl σ ρ)} (hf:∀ s,Le (f s) (f' s)):∀ (n:Nat) (s:σ),Le (itr f n s) (itr f' n s)
  | 0,_=>Le.rf
  | n + 1,s=>fun r hr=>by
    simp only [Proofs.YtafdmfhdjfkooaaGreat.itr] at hr ⊢
    cases hc:f s with
    | none=>rw [hc] at hr;cases hr
    | some c =>
      rw [hc] at hr
      rw [hf s c hc]
      cases c with
      | next s'=>exact Le.itr hf n s' r hr
      | brk s'=>exact hr
      | ret q=>exact hr
def lopE {σ ρ:Type} (f:σ→Option (Ctl σ ρ)) (s:σ):Option (Fin σ ρ):=itr f 600 s
theorem Le.lop {σ ρ:Type} {f f':σ→Option (Ctl σ ρ)} {s:σ} (hf:∀ s,Le (f s) (f' s)):Le (lopE f s) (lop f' s):=fun r hr=>KR.2 ⟨600,Le.itr hf 600 s r hr⟩
end
section
open Go Go.RowKit
def factB (vars:List Int) (x:Fct):Bool:=decide (0≤x.var) && (decide (0≤x.val) && (match vars[x.var.toNat]? with|some y=>decide (x.val < y)|none=>false))
theorem Li {vars:List Int} {x:Fct} (h:factB vars x=true):FactOk vars x:=by
  unfold factB at h
  simp only [Bool.and_eq_true,decide_eq_true_eq] at h
  obtain ⟨h1,h2,h3⟩:=h
  cases hv:vars[x.var.toNat]? with
  | none=>rw [hv] at h3;cases h3
  | some y=>rw [hv] at h3;exact ⟨h1,h2,y,hv,by simpa using h3⟩
def ascB:List Fct→Bool
  | x :: y :: r=>decide (x.var < y.var) && ascB (y :: r)
  | _=>true
theorem LM:∀ {f:List Fct},ascB f=true→∀ (i:Nat) x y,f[i]?=some x→f[i + 1]?=some y→x.var < y.var
  | [],_,i,x,y,h,_=>by simp at h
  | [_],_,i,x,y,_,h=>by simp at h
  | a :: b :: r,h,i,x,y,h1,h2=>by
    simp only [ascB,Bool.and_eq_true,decide_eq_true_eq] at h
    cases i with
    | zero=>simp at h1 h2;subst h1;subst h2;exact h.1
    | succ i=>exact LM h.2 i x y (by simpa using h1) (by simpa using h2)
def factsB (vars:List Int) (f:List Fct):Bool:=f.all (factB vars) && ascB f
theorem Iw {vars:List Int} {f:List Fct} (h:factsB vars f=true):FactsOk vars f:=by
  unfold factsB at h
  rw [Bool.and_eq_true,List.all_eq_true] at h
  exact ⟨fun i x hx=>Li (h.1 x (List.mem_of_getElem? hx)),LM h.2⟩
def stateB:List Int→List Int→Bool
  | [],[]=>true
  | y :: vars,x :: s=>decide (0≤x) && (decide (x < y) && stateB vars s)
  | _,_=>false
theorem Ix:∀ {vars s:List Int},stateB vars s=true→StateOk vars s
  | [],[],_=>⟨rfl,fun i x y h=>by simp at h⟩
  | y :: vars,x :: s,h=>by
    simp only [stateB,Bool.and_eq_true,decide_eq_true_eq] at h
    obtain ⟨h1,h2⟩:=Ix h.2.2
    refine ⟨by simp [h1],fun i a b ha hb=>?_⟩
    cases i with
    | zero=>simp at ha hb;subst ha;subst hb;exact ⟨h.1,h.2.1⟩
    | succ i=>exact h2 i a b (by simpa using ha) (by simpa using hb)
  | [],_ :: _,h=>by simp [stateB] at h
  | _ :: _,[],h=>by simp [stateB] at h
def nameB (s:ByteArray):Bool:=decide (s.size≤256) && s.data.toList.all fun c=>decide (32≤c.toNat) && decide (c.toNat≤126)
theorem MO {s:ByteArray} (h:nameB s=true):NameOk s:=by
  unfold nameB at h
  simp only [Bool.and_eq_true,decide_eq_true_eq,List.all_eq_true] at h
  refine ⟨h.1,fun i hi=>h.2 _ ?_⟩
  show s.data[i]∈_
  simp
def opB (vars:List Int) (o:Opr):Bool:=decide (0≤o.cost) && (decide (o.cost≤1048576) && (decide (o.effs.length≤64) && (nameB o.name && (factsB vars o.pre && o.effs.all fun e=>factsB vars e.cond && factB vars ⟨e.var,e.val⟩))))
theorem Ox {vars:List Int} {o:Opr} (h:opB vars o=true):OpOk vars o:=by
  unfold opB at h
  simp only [Bool.and_eq_true,decide_eq_true_eq,List.all_eq_true] at h
  obtain ⟨h1,h2,h3,h4,h5,h6⟩:=h
  exact ⟨h1,h2,h3,MO h4,Iw h5,fun i e he=>⟨Iw (h6 e (List.mem_of_getElem? he)).1,Li (h6 e (List.mem_of_getElem? he)).2⟩⟩
def taskB (t:Tsk):Bool:=decide (t.vars.length≤64) && (decide (t.ops.length≤4096) && ((t.vars.all fun n=>decide (1≤n) && decide (n≤64)) && (stateB t.vars t.init && (factsB t.vars t.goal && t.ops.all (opB t.vars)))))
theorem Lj {t:Tsk} (h:taskB t=true):TaskOk t:=by
  unfold taskB at h
  simp only [Bool.and_eq_true,decide_eq_true_eq,List.all_eq_true] at h
  obtain ⟨h1,h2,h3,h4,h5,h6⟩:=h
  exact ⟨h1,h2,fun i n hn=>h3 n (List.mem_of_getElem? hn),Ix h4,Iw h5,fun i o ho=>Ox (h6 o (List.mem_of_getElem? ho))⟩
def GK (t:Tsk):Option Err:=if taskB t=true then some ⟨0⟩ else none
theorem Kz (t:Tsk):Le (GK t) (CE t):=fun r h=>by
  obtain ⟨h1,rfl⟩:=EL h
  unfold CE
  rw [EM.2 (Lj h1)]
def Hc (x y:List Int):Option Bool:=some (decide (x=y))
theorem Lk (x y:List Int):Le (Hc x y) (EB x y):=fun r h=>by
  unfold Hc at h
  unfold EB
  rw [← h]
  by_cases hx:x=y
  · rw [Bg hx];simp [hx]
  · rw [Bh hx];simp [hx]
def GL (f:List Fct) (s:List Int):Option Bool:=Cv f s
theorem HS (f:List Fct) (s:List Int):Le (GL f s) (Cv f s):=Le.rf
def CS (x:List Int):Option (List Int):=Bx x
theorem ER (x:List Int):Le (CS x) (Bx x):=Le.rf
end
section
open Go Go.RowKit
set_option maxRecDepth 20000
attribute [local irreducible] bnd fin rng rngN chkI mkI appI atI quoT Bf Bq Bx BO
def DX (x:List U64):Option (List U64):=BO x
theorem FG (x:List U64):Le (DX x) (BO x):=Le.rf
def HT (t:Tsk):Option (Option Gnr×Err):=if taskB t=true then some (some ⟨t⟩,⟨0⟩) else none
theorem Kd (t:Tsk):Le (HT t) (Eu t):=fun r h=>by
  obtain ⟨h1,rfl⟩:=EL h
  exact Ov (Lj h1)
def CI (x:Option Gnr) (s:List Int):Option (List Int):=match x with
  | some g=>if stateB g.t.vars s=true then (if s.length≤1000000 then some (appl g.t s) else none) else none
  | none=>none
theorem Fu (x:Option Gnr) (s:List Int):Le (CI x s) (Cj x s):=fun r h=>by
  cases x with
  | none=>cases h
  | some g =>
    unfold CI at h
    dsimp only at h
    split at h
    · rename_i h1
      obtain ⟨h3,rfl⟩:=EL h
      unfold Cj
      rw [if_pos h3]
      show some (appS g.t s)=_
      rw [LJ (Ix h1)]
    · cases h
noncomputable def CX (x0:List Itm):Option Int :=
  some (x0.length:Int)
theorem Ep (x0:List Itm):Le (CX x0) (Cf x0):=by
  unfold CX Cf
  repeat' (first|apply Le.ite|apply Le.bnd|apply Le.fin|apply Le.rng|apply Le.rngN|apply Le.lop|exact Le.rf|intro _)
noncomputable def CJ (x0:List Itm) (x1:Int) (x2:Int):Option Bool :=
  bnd (bnd (atI x0 x1) fun a10=>bnd (atI x0 x2) fun a24=>if a10.cost < a24.cost then (some true) else (bnd (atI x0 x1) fun a39=>bnd (atI x0 x2) fun a53=>if a39.cost=a53.cost then (bnd (atI x0 x1) fun a68=>bnd (atI x0 x2) fun a82=>if a68.order < a82.order then (some true) else (some false)) else (some false)):Option Bool) fun y6=>some y6
theorem Ft (x0:List Itm) (x1:Int) (x2:Int):Le (CJ x0 x1 x2) (Cc x0 x1 x2):=by
  unfold CJ Cc
  repeat' (first|apply Le.ite|apply Le.bnd|apply Le.fin|apply Le.rng|apply Le.rngN|apply Le.lop|exact Le.rf|intro _)
noncomputable def CK (x0:List Itm) (x1:Int) (x2:Int):Option (List Itm) :=
  bnd (atI x0 x2) fun a4=>bnd (atI x0 x1) fun a18=>bnd (atI x0 x1) fun a32=>bnd (atI (x0.set (x1:Int).toNat a4) x2) fun a48=>some ((x0.set (x1:Int).toNat a4).set (x2:Int).toNat a18)
theorem Ed (x0:List Itm) (x1:Int) (x2:Int):Le (CK x0 x1 x2) (Cd x0 x1 x2):=by
  unfold CK Cd
  repeat' (first|apply Le.ite|apply Le.bnd|apply Le.fin|apply Le.rng|apply Le.rngN|apply Le.lop|exact Le.rf|intro _)
noncomputable def Eq (x0:BxR 99 97 Itm) (x1:An 97 Itm):Option (BxR 99 97 Itm) :=
  bnd (appI 24 x0.l [x1.x]) fun u31=>some (⟨u31⟩:BxR 99 97 Itm)
theorem Hm (x0:BxR 99 97 Itm) (x1:An 97 Itm):Le (Eq x0 x1) (CG x0 x1):=by
  unfold Eq CG
  repeat' (first|apply Le.ite|apply Le.bnd|apply Le.fin|apply Le.rng|apply Le.rngN|apply Le.lop|exact Le.rf|intro _)
noncomputable def EE (x0:BxR 99 97 Itm):Option ((An 97 Itm)×(BxR 99 97 Itm)) :=
  bnd (chkI ((x0.l.length:Int) - 1)) fun n13=>bnd (atI x0.l n13) fun a16=>bnd (cutI x0.l 0 n13) fun u37=>some ((⟨a16⟩:An 97 Itm),(⟨u37⟩:BxR 99 97 Itm))
theorem HG (x0:BxR 99 97 Itm):Le (EE x0) (CV x0):=by
  unfold EE CV
  repeat' (first|apply Le.ite|apply Le.bnd|apply Le.fin|apply Le.rng|apply Le.rngN|apply Le.lop|exact Le.rf|intro _)
noncomputable def EF (x0:BxR 99 97 Itm) (x1:Int):Option (BxR 99 97 Itm) :=
  bnd (lopE (ρ:=(BxR 99 97 Itm)) (fun (s5:Int×(BxR 99 97 Itm))=>bnd (chkI (s5.1 - 1)) fun n22=>bnd (quoT n22 2) fun n25=>bnd (if n25=s5.1 then (some true) else (bnd (CJ s5.2.l s5.1 n25) fun q42=>if q42=true then some false else some true):Option Bool) fun y28=>if y28=true then (some (.brk (s5.1,s5.2))) else (bnd (CK s5.2.l n25 s5.1) fun q73=>some (.next (n25,(⟨q73⟩:BxR 99 97 Itm))))) (x1,x0)) fun res3=>fin res3 fun (s90:Int×(BxR 99 97 Itm))=>some s90.2
theorem HH (x0:BxR 99 97 Itm) (x1:Int):Le (EF x0 x1) (CW x0 x1):=by
  unfold EF CW
  repeat' (first|apply Ft|apply Ed|apply Le.ite|apply Le.bnd|apply Le.fin|apply Le.rng|apply Le.rngN|apply Le.lop|exact Le.rf|intro _)
noncomputable def Ee (x0:BxR 99 97 Itm) (x1:Int) (x2:Int):Option (Bool×(BxR 99 97 Itm)) :=
  bnd (lopE (ρ:=Bool×(BxR 99 97 Itm)) (fun (s6:Int×(BxR 99 97 Itm))=>bnd (chkI (2 * s6.1)) fun n23=>bnd (chkI (n23 + 1)) fun n26=>bnd (if x2≤n26 then (some true) else (if n26 < 0 then (some true) else (some false)):Option Bool) fun y29=>if y29=true then (some (.brk (s6.1,s6.2))) else (bnd (bnd (chkI (n26 + 1)) fun n45=>bnd (if n45 < x2 then (bnd (CJ s6.2.l n45 n26) fun q62=>if q62=true then some true else some false) else (some false):Option Bool) fun y48=>if y48=true then (some n45) else (some n26):Option Int) fun y40=>bnd (CJ s6.2.l y40 s6.1) fun q97=>if q97=true then bnd (CK s6.2.l s6.1 y40) fun q109=>some (.next (y40,(⟨q109⟩:BxR 99 97 Itm))) else some (.brk (s6.1,s6.2)))) (x1,x0)) fun res4=>fin res4 fun (s126:Int×(BxR 99 97 Itm))=>bnd (if x1 < s126.1 then (some true) else (some false):Option Bool) fun y128=>some (y128,s126.2)
theorem Hd (x0:BxR 99 97 Itm) (x1:Int) (x2:Int):Le (Ee x0 x1 x2) (Cy x0 x1 x2):=by
  unfold Ee Cy
  repeat' (first|apply Ft|apply Ed|apply Le.ite|apply Le.bnd|apply Le.fin|apply Le.rng|apply Le.rngN|apply Le.lop|exact Le.rf|intro _)
noncomputable def Ef (x0:BxR 99 97 Itm) (x1:An 97 Itm):Option (BxR 99 97 Itm) :=
  bnd (Eq x0 (⟨x1.x⟩:An 97 Itm)) fun q9=>bnd (CX q9.l) fun q26=>bnd (chkI (q26 - 1)) fun n34=>bnd (EF q9 n34) fun q42=>some q42
theorem He (x0:BxR 99 97 Itm) (x1:An 97 Itm):Le (Ef x0 x1) (Cz x0 x1):=by
  unfold Ef Cz
  repeat' (first|apply Ep|apply Hm|apply HH|apply Le.ite|apply Le.bnd|apply Le.fin|apply Le.rng|apply Le.rngN|apply Le.lop|exact Le.rf|intro _)
noncomputable def Er (x0:BxR 99 97 Itm):Option ((An 97 Itm)×(BxR 99 97 Itm)) :=
  bnd (CX x0.l) fun q11=>bnd (chkI (q11 - 1)) fun n19=>bnd (CK x0.l 0 n19) fun q22=>bnd (Ee (⟨q22⟩:BxR 99 97 Itm) 0 n19) fun q35=>bnd (EE q35.2) fun q44=>some ((⟨q44.1.x⟩:An 97 Itm),q44.2)
theorem Hn (x0:BxR 99 97 Itm):Le (Er x0) (CH x0):=by
  unfold Er CH
  repeat' (first|apply Ep|apply HG|apply Ed|apply Hd|apply Le.ite|apply Le.bnd|apply Le.fin|apply Le.rng|apply Le.rngN|apply Le.lop|exact Le.rf|intro _)
noncomputable def HI (x0:List Int):Option ((Option Pkr)×Err) :=
  if 64 < (x0.length:Int) then (some (none,(⟨5⟩:Err))) else (bnd (rng (ρ:=(Option Pkr)×Err) (fun (k25:Nat) (a26:Int) (s23:Int×Pkr)=>bnd (if a26 < 1 then (some true) else (if 64 < a26 then (some true) else (some false)):Option Bool) fun y48=>if y48=true then (some (.ret (none,(⟨1⟩:Err)))) else (bnd (lopE (ρ:=Ctl (Int×Pkr) ((Option Pkr)×Err)) (fun (s61:Int)=>bnd (shlI 1 s61) fun n76=>if n76 < a26 then (bnd (chkI (s61 + 1)) fun n80=>some (.next n80)) else (some (.brk s61))) 0) fun res59=>fin res59 fun (s87:Int)=>bnd (bnd (chkI (s23.1 + s87)) fun n95=>if 64 < n95 then (bnd (chkI (s23.2.words + 1)) fun n109=>some (0,(⟨s23.2.fields,n109⟩:Pkr))) else (some (s23.1,s23.2)):Option (Int×Pkr)) fun y89=>bnd (chkI (y89.2.words - 1)) fun n133=>bnd (appI 32 y89.2.fields [(⟨n133,y89.1,s87,a26⟩:PFd)]) fun u142=>bnd (chkI (y89.1 + s87)) fun n155=>some (.next (n155,(⟨u142,y89.2.words⟩:Pkr))))) x0 0 (0,(⟨([]:List PFd),1⟩:Pkr))) fun res21=>fin res21 fun (s167:Int×Pkr)=>some ((some s167.2),(⟨0⟩:Err)))
theorem Ls (x0:List Int):Le (HI x0) (FD x0):=by
  unfold HI FD
  repeat' (first|apply Le.ite|apply Le.bnd|apply Le.fin|apply Le.rng|apply Le.rngN|apply Le.lop|exact Le.rf|intro _)
noncomputable def DY (x0:PFd):Option U64 :=
  bnd (shlU (1:U64) x0.width) fun n12=>bnd (shlU (n12 - (1:U64)) x0.bit) fun n14=>some n14
theorem Ga (x0:PFd):Le (DY x0) (CM x0):=by
  unfold DY CM
  repeat' (first|apply Le.ite|apply Le.bnd|apply Le.fin|apply Le.rng|apply Le.rngN|apply Le.lop|exact Le.rf|intro _)
noncomputable def Fk (x0:PFd) (x1:List U64):Option Int :=
  bnd (atI x1 x0.word) fun a15=>bnd (DY x0) fun q26=>bnd (shrU (a15 &&& q26) x0.bit) fun n33=>some n33.toInt
theorem IM (x0:PFd) (x1:List U64):Le (Fk x0 x1) (DA x0 x1):=by
  unfold Fk DA
  repeat' (first|apply Ga|apply Le.ite|apply Le.bnd|apply Le.fin|apply Le.rng|apply Le.rngN|apply Le.lop|exact Le.rf|intro _)
noncomputable def ES (x0:Pkr) (x1:List Int):Option ((List U64)×Err) :=
  if (x1.length:Int)≠(x0.fields.length:Int) then (some (([]:List U64),(⟨2⟩:Err))) else (bnd (mkI 8 ((0:U64):U64) x0.words) fun u25=>bnd (rng (ρ:=(List U64)×Err) (fun (k50:Nat) (a51:PFd) (s48:(List U64))=>bnd (bnd (x1[k50]?) fun a87=>if a87 < 0 then (some true) else (bnd (x1[k50]?) fun a98=>if a51.size≤a98 then (some true) else (some false)):Option Bool) fun y83=>if y83=true then (some (.ret (([]:List U64),(⟨2⟩:Err)))) else (bnd (atI s48 a51.word) fun a114=>bnd (x1[k50]?) fun a125=>bnd (shlU (BitVec.ofInt 64 a125) a51.bit) fun n135=>bnd (atI s48 a51.word) fun a137=>some (.next (s48.set (a51.word:Int).toNat (a114 ||| n135))))) x0.fields 0 u25) fun res46=>fin res46 fun (s154:(List U64))=>some (s154,(⟨0⟩:Err)))
theorem HY (x0:Pkr) (x1:List Int):Le (ES x0 x1) (Dh x0 x1):=by
  unfold ES Dh
  repeat' (first|apply Le.ite|apply Le.bnd|apply Le.fin|apply Le.rng|apply Le.rngN|apply Le.lop|exact Le.rf|intro _)
noncomputable def Es (x0:Pkr) (x1:List U64):Option ((List Int)×Err) :=
  if (x1.length:Int)≠x0.words then (some (([]:List Int),(⟨2⟩:Err))) else (bnd (mkI 8 (0:Int) (x0.fields.length:Int)) fun u25=>bnd (DX x1) fun q38=>bnd (rng (ρ:=(List Int)×Err) (fun (k60:Nat) (a61:PFd) (s58:(List Int)×(List U64))=>bnd (Fk a61 x1) fun q97=>bnd (s58.1[k60]?) fun a105=>bnd ((s58.1.set k60 q97)[k60]?) fun a117=>if a61.size≤a117 then (some (.ret (([]:List Int),(⟨2⟩:Err)))) else (bnd (atI s58.2 a61.word) fun a128=>bnd (DY a61) fun q139=>bnd (atI s58.2 a61.word) fun a146=>some (.next ((s58.1.set k60 q97),(s58.2.set (a61.word:Int).toNat (a128 &&& ~~~q139)))))) x0.fields 0 (u25,q38)) fun res56=>fin res56 fun (s163:(List Int)×(List U64))=>bnd (rng (ρ:=(List Int)×Err) (fun (k171:Nat) (a172:U64) (s169:Unit)=>bnd (s163.2[k171]?) fun a182=>if (a182.toNat:Int)≠((0:U64).toNat:Int) then (some (.ret (([]:List Int),(⟨2⟩:Err)))) else (some (.next ()))) q38 0 ()) fun res167=>fin res167 fun (s196:Unit)=>some (s163.1,(⟨0⟩:Err)))
theorem Ho (x0:Pkr) (x1:List U64):Le (Es x0 x1) (CF x0 x1):=by
  unfold Es CF
  repeat' (first|apply IM|apply Ga|apply FG|apply Le.ite|apply Le.bnd|apply Le.fin|apply Le.rng|apply Le.rngN|apply Le.lop|exact Le.rf|intro _)
noncomputable def ET (x0:Pkr) (x1:List U64):Option Int :=
  bnd (rng (ρ:=Int) (fun (k13:Nat) (a14:U64) (s11:U64)=>bnd (shrU ((s11 ^^^ a14) * (13787848793156543929:U64)) 29) fun n31=>some (.next (((s11 ^^^ a14) * (13787848793156543929:U64)) ^^^ n31))) x1 0 ((BitVec.ofInt 64 (x1.length:Int)) + (11400714819323198485:U64))) fun res9=>fin res9 fun (s37:U64)=>bnd (shrU s37 2) fun n39=>some n39.toInt
theorem HZ (x0:Pkr) (x1:List U64):Le (ET x0 x1) (Di x0 x1):=by
  unfold ET Di
  repeat' (first|apply Le.ite|apply Le.bnd|apply Le.fin|apply Le.rng|apply Le.rngN|apply Le.lop|exact Le.rf|intro _)
noncomputable def CP (x0:List U64) (x1:List U64):Option Bool :=
  if (x0.length:Int)≠(x1.length:Int) then (some false) else (bnd (rng (ρ:=Bool) (fun (k18:Nat) (a19:U64) (s16:Unit)=>bnd (x1[k18]?) fun a36=>if (a19.toNat:Int)≠(a36.toNat:Int) then (some (.ret false)) else (some (.next ()))) x0 0 ()) fun res14=>fin res14 fun (s50:Unit)=>some true)
theorem FH (x0:List U64) (x1:List U64):Le (CP x0 x1) (BP x0 x1):=by
  unfold CP BP
  repeat' (first|apply Le.ite|apply Le.bnd|apply Le.fin|apply Le.rng|apply Le.rngN|apply Le.lop|exact Le.rf|intro _)
noncomputable def FN (x0:List Int):Option ((Option Reg)×Err) :=
  bnd (HI x0) fun q4=>if q4.2.n≠0 then (some (none,(⟨q4.2.n⟩:Err))) else (bnd q4.1 fun o22=>some ((some (⟨o22,([]:List REn),(⟨[]⟩:MapR 3 Int Int)⟩:Reg)),(⟨0⟩:Err)))
theorem JO (x0:List Int):Le (FN x0) (Ec x0):=by
  unfold FN Ec
  repeat' (first|apply Ls|apply Le.ite|apply Le.bnd|apply Le.fin|apply Le.rng|apply Le.rngN|apply Le.lop|exact Le.rf|intro _)
noncomputable def DD (x0:Reg) (x1:List Int):Option ((List U64)×Int×Int×Err) :=
  bnd (ES x0.packer x1) fun q20=>if q20.2.n≠0 then (some (([]:List U64),0,(-1),(⟨2⟩:Err))) else (bnd (ET x0.packer q20.1) fun q41=>bnd (rng (ρ:=(List U64)×Int×Int×Err) (fun (k66:Nat) (a67:Int) (s64:Unit)=>bnd (atI x0.entries a67) fun a100=>bnd (CP a100.words q20.1) fun q118=>if q118=true then some (.ret (q20.1,q41,a67,(⟨0⟩:Err))) else some (.next ())) (mget ([]:List Int) x0.table.l q41) 0 ()) fun res62=>fin res62 fun (s139:Unit)=>some (q20.1,q41,(-1),(⟨0⟩:Err)))
theorem Gq (x0:Reg) (x1:List Int):Le (DD x0 x1) (Cp x0 x1):=by
  unfold DD Cp
  repeat' (first|apply HZ|apply HY|apply FH|apply Le.ite|apply Le.bnd|apply Le.fin|apply Le.rng|apply Le.rngN|apply Le.lop|exact Le.rf|intro _)
noncomputable def CT (x0:Reg) (x1:List Int):Option (Int×Bool×Err×Reg) :=
  bnd (DD x0 x1) fun q5=>if q5.2.2.2.n≠0 then (some (0,false,(⟨q5.2.2.2.n⟩:Err),x0)) else (if 0≤q5.2.2.1 then (some (q5.2.2.1,false,(⟨0⟩:Err),x0)) else (if 65536≤(x0.entries.length:Int) then (some (0,false,(⟨10⟩:Err),x0)) else (bnd (appI 48 x0.entries [(⟨q5.1,(⟨(-1),(-1),0⟩:RLk)⟩:REn)]) fun u53=>bnd (appI 8 (mget ([]:List Int) x0.table.l q5.2.1) ([(x0.entries.length:Int)]:List Int)) fun u82=>some ((x0.entries.length:Int),true,(⟨0⟩:Err),(⟨x0.packer,u53,(⟨mput x0.table.l q5.2.1 u82⟩:MapR 3 Int Int)⟩:Reg)))))
theorem EU (x0:Reg) (x1:List Int):Le (CT x0 x1) (BY x0 x1):=by
  unfold CT BY
  repeat' (first|apply Gq|apply Le.ite|apply Le.bnd|apply Le.fin|apply Le.rng|apply Le.rngN|apply Le.lop|exact Le.rf|intro _)
noncomputable def BZ (x0:Reg) (x1:Int):Option Bool :=
  bnd (if 0≤x1 then (if x1 < (x0.entries.length:Int) then (some true) else (some false)) else (some false):Option Bool) fun y3=>some y3
theorem DE (x0:Reg) (x1:Int):Le (BZ x0 x1) (BE x0 x1):=by
  unfold BZ BE
  repeat' (first|apply Le.ite|apply Le.bnd|apply Le.fin|apply Le.rng|apply Le.rngN|apply Le.lop|exact Le.rf|intro _)
noncomputable def Dt (x0:Reg) (x1:Int):Option ((List Int)×Err) :=
  bnd (BZ x0 x1) fun q3=>if q3=true then bnd (atI x0.entries x1) fun a27=>bnd (Es x0.packer a27.words) fun q45=>some (q45.1,(⟨q45.2.n⟩:Err)) else some (([]:List Int),(⟨1⟩:Err))
theorem Gg (x0:Reg) (x1:Int):Le (Dt x0 x1) (Ch x0 x1):=by
  unfold Dt Ch
  repeat' (first|apply Ho|apply DE|apply Le.ite|apply Le.bnd|apply Le.fin|apply Le.rng|apply Le.rngN|apply Le.lop|exact Le.rf|intro _)
noncomputable def Dk (x0:Reg) (x1:Int) (x2:Int) (x3:Int) (x4:Int):Option (Err×Reg) :=
  bnd (bnd (BZ x0 x1) fun q10=>if q10=true then if x2≠(-1) then (bnd (BZ x0 x2) fun q20=>if q20=true then some false else some true) else (some false) else some true:Option Bool) fun y6=>if y6=true then (some ((⟨1⟩:Err),x0)) else (bnd (atI x0.entries x1) fun a49=>some ((⟨0⟩:Err),(⟨x0.packer,(x0.entries.set (x1:Int).toNat ({ a49 with link:=(⟨x2,x3,x4⟩:RLk) }:REn)),x0.table⟩:Reg)))
theorem FO (x0:Reg) (x1:Int) (x2:Int) (x3:Int) (x4:Int):Le (Dk x0 x1 x2 x3 x4) (BX x0 x1 x2 x3 x4):=by
  unfold Dk BX
  repeat' (first|apply DE|apply Le.ite|apply Le.bnd|apply Le.fin|apply Le.rng|apply Le.rngN|apply Le.lop|exact Le.rf|intro _)
noncomputable def Du (x0:List Int):Option (List Int) :=
  bnd (chkI ((x0.length:Int) - 1)) fun n4=>bnd (lopE (ρ:=(List Int)) (fun (s9:(List Int)×Int×Int)=>if s9.2.1 < s9.2.2 then (bnd (atI s9.1 s9.2.2) fun a31=>bnd (atI s9.1 s9.2.1) fun a43=>bnd (atI s9.1 s9.2.1) fun a55=>bnd (atI (s9.1.set (s9.2.1:Int).toNat a31) s9.2.2) fun a69=>bnd (chkI (s9.2.1 + 1)) fun n83=>bnd (chkI (s9.2.2 - 1)) fun n86=>some (.next (((s9.1.set (s9.2.1:Int).toNat a31).set (s9.2.2:Int).toNat a43),n83,n86))) else (some (.brk (s9.1,s9.2.1,s9.2.2)))) (x0,0,n4)) fun res7=>fin res7 fun (s93:(List Int)×Int×Int)=>some s93.1
theorem Gh (x0:List Int):Le (Du x0) (Ci x0):=by
  unfold Du Ci
  repeat' (first|apply Le.ite|apply Le.bnd|apply Le.fin|apply Le.rng|apply Le.rngN|apply Le.lop|exact Le.rf|intro _)
noncomputable def DF (x0:Reg) (x1:Int):Option ((List Int)×Err) :=
  bnd (BZ x0 x1) fun q3=>if q3=true then bnd (lopE (ρ:=(List Int)×Err) (fun (s14:Int×(List Int))=>bnd (atI x0.entries s14.1) fun a48=>if a48.link.parent < 0 then (bnd (Du s14.2) fun q74=>some (.ret (q74,(⟨0⟩:Err)))) else (bnd (appI 8 s14.2 [a48.link.op]) fun u89=>if (x0.entries.length:Int) < (u89.length:Int) then (some (.ret (([]:List Int),(⟨21⟩:Err)))) else (some (.next (a48.link.parent,u89))))) (x1,([]:List Int))) fun res12=>fin res12 fun (_:Int×(List Int))=>none else some (([]:List Int),(⟨1⟩:Err))
theorem Gr (x0:Reg) (x1:Int):Le (DF x0 x1) (Cq x0 x1):=by
  unfold DF Cq
  repeat' (first|apply DE|apply Gh|apply Le.ite|apply Le.bnd|apply Le.fin|apply Le.rng|apply Le.rngN|apply Le.lop|exact Le.rf|intro _)
noncomputable def CL (x0:Option Gnr) (x1:List Int):Option (List Suc) :=
  bnd (CI x0 x1) fun q7=>bnd (rng (ρ:=(List Suc)) (fun (k23:Nat) (a24:Int) (s21:(List Suc))=>bnd (CS x1) fun q46=>bnd (x0) fun o56=>bnd (atI o56.t.ops a24) fun a88=>bnd (rng (ρ:=Ctl (List Suc) (List Suc)) (fun (k115:Nat) (a116:Eff) (s113:(List Int))=>bnd (GL a116.cond x1) fun q150=>if q150=true then bnd (atI s113 a116.var) fun a157=>some (.next (s113.set (a116.var:Int).toNat a116.val)) else some (.next s113)) a88.effs 0 q46) fun res111=>fin res111 fun (s175:(List Int))=>bnd (appI 32 s21 [(⟨a24,s175⟩:Suc)]) fun u179=>some (.next u179)) q7 0 ([]:List Suc)) fun res19=>fin res19 fun (s195:(List Suc))=>some s195
theorem Fv (x0:Option Gnr) (x1:List Int):Le (CL x0 x1) (BM x0 x1):=by
  unfold CL BM
  repeat' (first|apply ER|apply Fu|apply HS|apply Le.ite|apply Le.bnd|apply Le.fin|apply Le.rng|apply Le.rngN|apply Le.lop|exact Le.rf|intro _)
noncomputable def FI (x0:Tsk):Option ((Option Spc)×Err) :=
  bnd (HT x0) fun q24=>if q24.2.n≠0 then (some (none,(⟨q24.2.n⟩:Err))) else (bnd (FN x0.vars) fun q39=>if q39.2.n≠0 then (some (none,(⟨q39.2.n⟩:Err))) else (bnd q39.1 fun o52=>bnd (CT o52 x0.init) fun q55=>if q55.2.2.1.n≠0 then (some (none,(⟨q55.2.2.1.n⟩:Err))) else (some ((some (⟨(⟨x0.vars,x0.init,x0.goal,x0.ops⟩:Tsk),q55.2.2.2,q24.1⟩:Spc)),(⟨0⟩:Err)))))
theorem Jl (x0:Tsk):Le (FI x0) (DR x0):=by
  unfold FI DR
  repeat' (first|apply JO|apply EU|apply Kd|apply Le.ite|apply Le.bnd|apply Le.fin|apply Le.rng|apply Le.rngN|apply Le.lop|exact Le.rf|intro _)
noncomputable def DW (x0:Spc) (x1:Int) (x2:Int):Option (Rsl×Err) :=
  bnd (DF x0.reg x1) fun q36=>if q36.2.n≠0 then (some ((⟨0,([]:List Int),0,0⟩:Rsl),(⟨q36.2.n⟩:Err))) else (bnd (rng (ρ:=Rsl×Err) (fun (k77:Nat) (a78:Int) (s75:Int)=>bnd (atI x0.t.ops a78) fun a125=>bnd (chkI (s75 + a125.cost)) fun n146=>some (.next n146)) q36.1 0 0) fun res73=>fin res73 fun (s160:Int)=>some ((⟨1,q36.1,s160,x2⟩:Rsl),(⟨0⟩:Err)))
theorem GM (x0:Spc) (x1:Int) (x2:Int):Le (DW x0 x1 x2) (Cw x0 x1 x2):=by
  unfold DW Cw
  repeat' (first|apply Gr|apply Le.ite|apply Le.bnd|apply Le.fin|apply Le.rng|apply Le.rngN|apply Le.lop|exact Le.rf|intro _)
noncomputable def DG (x0:Int) (x1:Int):Option (Rsl×Err) :=
  some ((⟨x0,([]:List Int),0,x1⟩:Rsl),(⟨0⟩:Err))
theorem IN (x0:Int) (x1:Int):Le (DG x0 x1) (Cx x0 x1):=by
  unfold DG Cx
  repeat' (first|apply Le.ite|apply Le.bnd|apply Le.fin|apply Le.rng|apply Le.rngN|apply Le.lop|exact Le.rf|intro _)
noncomputable def Fb (x0:Tsk) (x1:Int):Option (Rsl×Err) :=
  bnd (FI x0) fun q30=>if q30.2.n≠0 then (some ((⟨0,([]:List Int),0,0⟩:Rsl),(⟨q30.2.n⟩:Err))) else (bnd q30.1 fun o68=>bnd (lopE (ρ:=Rsl×Err) (fun (s78:(List Int)×(List Bool)×Int×Int×Spc×(BxR 99 97 Itm))=>bnd (CX s78.2.2.2.2.2.l) fun q116=>if 0 < q116 then (bnd (Er s78.2.2.2.2.2) fun q130=>bnd (atI s78.2.1 q130.1.x.id) fun a152=>if a152=true then (some (.next (s78.1,s78.2.1,s78.2.2.1,s78.2.2.2.1,s78.2.2.2.2.1,q130.2))) else (bnd (Dt s78.2.2.2.2.1.reg q130.1.x.id) fun q191=>if q191.2.n≠0 then (some (.ret ((⟨0,([]:List Int),0,0⟩:Rsl),(⟨q191.2.n⟩:Err)))) else (bnd (GL x0.goal q191.1) fun q209=>if q209=true then bnd (DW s78.2.2.2.2.1 q130.1.x.id s78.2.2.2.1) fun q581=>some (.ret (q581.1,(⟨q581.2.n⟩:Err))) else if x1≤s78.2.2.2.1 then (bnd (DG 3 s78.2.2.2.1) fun q217=>some (.ret (q217.1,(⟨q217.2.n⟩:Err)))) else (bnd (atI s78.2.1 q130.1.x.id) fun a239=>bnd (chkI (s78.2.2.2.1 + 1)) fun n252=>bnd (CL s78.2.2.2.2.1.gen q191.1) fun q255=>bnd (rng (ρ:=Ctl ((List Int)×(List Bool)×Int×Int×Spc×(BxR 99 97 Itm)) (Rsl×Err)) (fun (k275:Nat) (a276:Suc) (s273:(List Int)×(List Bool)×Int×Spc×(BxR 99 97 Itm))=>bnd (CT s273.2.2.2.1.reg a276.state) fun q346=>if q346.2.2.1.n≠0 then (bnd (DG 3 n252) fun q363=>some (.ret (.ret (q363.1,(⟨q363.2.n⟩:Err))))) else (bnd (atI x0.ops a276.op) fun a385=>bnd (chkI (q130.1.x.cost + a385.cost)) fun n406=>bnd (if q346.2.1=true then (bnd (appI 8 s273.1 [n406]) fun u418=>bnd (appI 1 s273.2.1 [false]) fun u430=>some (.done (u418,u430))) else (bnd (bnd (atI s273.2.1 q346.1) fun a451=>if a451=true then (some true) else (bnd (atI s273.1 q346.1) fun a468=>if a468≤n406 then (some true) else (some false)):Option Bool) fun y447=>if y447=true then (some (.ret (.next (s273.1,s273.2.1,s273.2.2.1,(⟨(⟨s273.2.2.2.1.t.vars,s273.2.2.2.1.t.init,s273.2.2.2.1.t.goal,s273.2.2.2.1.t.ops⟩:Tsk),q346.2.2.2,s273.2.2.2.1.gen⟩:Spc),s273.2.2.2.2)))) else (some (.done (s273.1,s273.2.1)))):Option (Fin ((List Int)×(List Bool)) (Ctl ((List Int)×(List Bool)×Int×Spc×(BxR 99 97 Itm)) (Ctl ((List Int)×(List Bool)×Int×Int×Spc×(BxR 99 97 Itm)) (Rsl×Err))))) fun y409=>fin y409 fun (s411:(List Int)×(List Bool))=>bnd (atI s411.1 q346.1) fun a500=>bnd (Dk ((⟨(⟨s273.2.2.2.1.t.vars,s273.2.2.2.1.t.init,s273.2.2.2.1.t.goal,s273.2.2.2.1.t.ops⟩:Tsk),q346.2.2.2,s273.2.2.2.1.gen⟩:Spc).reg) q346.1 q130.1.x.id a276.op n406) fun q541=>if q541.1.n≠0 then (some (.ret (.ret ((⟨0,([]:List Int),0,0⟩:Rsl),(⟨q541.1.n⟩:Err))))) else (bnd (Ef s273.2.2.2.2 (⟨(⟨n406,s273.2.2.1,q346.1⟩:Itm)⟩:An 97 Itm)) fun q554=>bnd (chkI (s273.2.2.1 + 1)) fun n562=>some (.next ((s411.1.set (q346.1:Int).toNat n406),s411.2,n562,(⟨(⟨(⟨(⟨s273.2.2.2.1.t.vars,s273.2.2.2.1.t.init,s273.2.2.2.1.t.goal,s273.2.2.2.1.t.ops⟩:Tsk),q346.2.2.2,s273.2.2.2.1.gen⟩:Spc).t.vars,(⟨(⟨s273.2.2.2.1.t.vars,s273.2.2.2.1.t.init,s273.2.2.2.1.t.goal,s273.2.2.2.1.t.ops⟩:Tsk),q346.2.2.2,s273.2.2.2.1.gen⟩:Spc).t.init,(⟨(⟨s273.2.2.2.1.t.vars,s273.2.2.2.1.t.init,s273.2.2.2.1.t.goal,s273.2.2.2.1.t.ops⟩:Tsk),q346.2.2.2,s273.2.2.2.1.gen⟩:Spc).t.goal,(⟨(⟨s273.2.2.2.1.t.vars,s273.2.2.2.1.t.init,s273.2.2.2.1.t.goal,s273.2.2.2.1.t.ops⟩:Tsk),q346.2.2.2,s273.2.2.2.1.gen⟩:Spc).t.ops⟩:Tsk),q541.2,(⟨(⟨s273.2.2.2.1.t.vars,s273.2.2.2.1.t.init,s273.2.2.2.1.t.goal,s273.2.2.2.1.t.ops⟩:Tsk),q346.2.2.2,s273.2.2.2.1.gen⟩:Spc).gen⟩:Spc),q554))))) q255 0 (s78.1,(s78.2.1.set (q130.1.x.id:Int).toNat true),s78.2.2.1,s78.2.2.2.2.1,q130.2)) fun res271=>fin res271 fun (s574:(List Int)×(List Bool)×Int×Spc×(BxR 99 97 Itm))=>some (.next (s574.1,s574.2.1,s574.2.2.1,n252,s574.2.2.2.1,s574.2.2.2.2)))))) else (some (.brk (s78.1,s78.2.1,s78.2.2.1,s78.2.2.2.1,s78.2.2.2.2.1,s78.2.2.2.2.2)))) (([0]:List Int),[false],1,0,o68,(⟨[(⟨0,0,0⟩:Itm)]⟩:BxR 99 97 Itm))) fun res76=>fin res76 fun (s613:(List Int)×(List Bool)×Int×Int×Spc×(BxR 99 97 Itm))=>bnd (DG 2 s613.2.2.2.1) fun q615=>some (q615.1,(⟨q615.2.n⟩:Err)))
theorem Iy (x0:Tsk) (x1:Int):Le (Fb x0 x1) (Dp x0 x1):=by
  unfold Fb Dp
  repeat' (first|apply Jl|apply IN|apply Ep|apply GM|apply Hn|apply He|apply EU|apply FO|apply Gg|apply Fv|apply HS|apply Le.ite|apply Le.bnd|apply Le.fin|apply Le.rng|apply Le.rngN|apply Le.lop|exact Le.rf|intro _)
def BF (x:List Fct):Option (List Fct):=Bf x
theorem Cs (x:List Fct):Le (BF x) (Bf x):=Le.rf
def Ck (x:List Eff):Option (List Eff):=Bq x
theorem CY (x:List Eff):Le (Ck x) (Bq x):=Le.rf
noncomputable def Fc (x0:List ByteArray) (x1:List ByteArray):Option Int :=
  bnd (chkI ((x1.length:Int) + 1)) fun n9=>bnd (mkI 8 (0:Int) n9) fun u12=>bnd (rngN (ρ:=Int) (fun (k31:Nat) (s29:(List Int))=>bnd (s29[k31]?) fun a50=>some (.next (s29.set k31 (k31:Int)))) u12.length u12) fun res27=>fin res27 fun (s66:(List Int))=>bnd (rng (ρ:=Int) (fun (k74:Nat) (a75:ByteArray) (s72:(List Int))=>bnd (chkI ((x1.length:Int) + 1)) fun n99=>bnd (mkI 8 (0:Int) n99) fun u102=>bnd (chkI ((k74:Int) + 1)) fun n115=>bnd (atI u102 0) fun a118=>bnd (rng (ρ:=Ctl (List Int) Int) (fun (k138:Nat) (a139:ByteArray) (s136:(List Int))=>bnd (chkI ((k138:Int) + 1)) fun n161=>bnd (s136[k138]?) fun a164=>bnd (chkI ((k138:Int) + 1)) fun n174=>bnd (atI s72 n174) fun a177=>bnd (chkI ((min a164 a177) + 1)) fun n189=>bnd (atI s136 n161) fun a192=>if a75=a139 then (bnd (chkI ((k138:Int) + 1)) fun n207=>bnd (chkI ((k138:Int) + 1)) fun n210=>bnd (atI (s136.set (n161:Int).toNat n189) n210) fun a213=>bnd (s72[k138]?) fun a225=>bnd (atI (s136.set (n161:Int).toNat n189) n207) fun a235=>some (.next ((s136.set (n161:Int).toNat n189).set (n207:Int).toNat (min a213 a225)))) else (some (.next (s136.set (n161:Int).toNat n189)))) x1 0 (u102.set (0:Int).toNat n115)) fun res134=>fin res134 fun (s253:(List Int))=>some (.next s253)) x0 0 s66) fun res70=>fin res70 fun (s261:(List Int))=>bnd (s261[x1.length]?) fun a265=>some a265
theorem Iz (x0:List ByteArray) (x1:List ByteArray):Le (Fc x0 x1) (Dq x0 x1):=by
  unfold Fc Dq
  repeat' (first|apply Le.ite|apply Le.bnd|apply Le.fin|apply Le.rng|apply Le.rngN|apply Le.lop|exact Le.rf|intro _)
noncomputable def Fi (x0:Opr) (x1:Int) (x2:Int):Option Opr :=
  bnd (BF x0.pre) fun q25=>bnd (appI 16 q25 [(⟨x1,x2⟩:Fct)]) fun u35=>bnd (Ck x0.effs) fun q49=>bnd (chkI (x2 + 1)) fun n59=>bnd (appI 40 q49 [(⟨([]:List Fct),x1,n59⟩:Eff)]) fun u62=>some (⟨x0.name,x0.cost,u35,u62⟩:Opr)
theorem Ke (x0:Opr) (x1:Int) (x2:Int):Le (Fi x0 x1 x2) (DN x0 x1 x2):=by
  unfold Fi DN
  repeat' (first|apply CY|apply Cs|apply Le.ite|apply Le.bnd|apply Le.fin|apply Le.rng|apply Le.rngN|apply Le.lop|exact Le.rf|intro _)
noncomputable def EG (x0:List Eff):Option (List Eff) :=
  bnd (rngN (ρ:=(List Eff)) (fun (k8:Nat) (s6:(List Eff))=>bnd (s6[k8]?) fun a27=>bnd (BF a27.cond) fun q42=>bnd (s6[k8]?) fun a52=>some (.next (s6.set k8 ({ a52 with cond:=q42 }:Eff)))) x0.length x0) fun res4=>fin res4 fun (s81:(List Eff))=>some s81
theorem HJ (x0:List Eff):Le (EG x0) (CU x0):=by
  unfold EG CU
  repeat' (first|apply Cs|apply Le.ite|apply Le.bnd|apply Le.fin|apply Le.rng|apply Le.rngN|apply Le.lop|exact Le.rf|intro _)
noncomputable def Fl (x0:Tsk) (x1:List ByteArray) (x2:Int):Option (Tsk×(List Prt)×Err) :=
  bnd (GK x0) fun q33=>if q33.n≠0 then (some ((⟨([]:List Int),([]:List Int),([]:List Fct),([]:List Opr)⟩:Tsk),([]:List Prt),(⟨q33.n⟩:Err))) else (bnd (if x2 < 0 then (some true) else (if 1000 < x2 then (some true) else (some false)):Option Bool) fun y44=>if y44=true then (some ((⟨([]:List Int),([]:List Int),([]:List Fct),([]:List Opr)⟩:Tsk),([]:List Prt),(⟨1⟩:Err))) else (if 63 < (x1.length:Int) then (some ((⟨([]:List Int),([]:List Int),([]:List Fct),([]:List Opr)⟩:Tsk),([]:List Prt),(⟨5⟩:Err))) else (bnd (chkI ((x1.length:Int) + 1)) fun n64=>bnd (CS x0.vars) fun q66=>bnd (appI 8 q66 ([n64]:List Int)) fun u68=>bnd (CS x0.init) fun q70=>bnd (appI 8 q70 ([0]:List Int)) fun u72=>bnd (BF x0.goal) fun q74=>bnd (appI 16 q74 ([(⟨(x0.vars.length:Int),(x1.length:Int)⟩:Fct)]:List Fct)) fun u76=>bnd (some (u68,u72,u76):Option ((List Int)×(List Int)×(List Fct))) fun y78=>bnd (rng (ρ:=Tsk×(List Prt)×Err) (fun (k214:Nat) (a215:Opr) (s212:(List Prt)×(List Opr))=>bnd (chkI (a215.cost + x2)) fun n257=>bnd (BF a215.pre) fun q262=>bnd (Ck a215.effs) fun q272=>bnd (appI 72 s212.2 [(⟨a215.name,n257,q262,q272⟩:Opr)]) fun u288=>bnd (appI 8 s212.1 [(⟨(k214:Int)⟩:Prt)]) fun u300=>some (.next (u300,u288))) x0.ops 0 (([]:List Prt),([]:List Opr))) fun res210=>fin res210 fun (s318:(List Prt)×(List Opr))=>bnd (rng (ρ:=Tsk×(List Prt)×Err) (fun (k326:Nat) (a327:ByteArray) (s324:(List Prt)×(List Opr))=>bnd (rng (ρ:=Ctl ((List Prt)×(List Opr)) (Tsk×(List Prt)×Err)) (fun (k359:Nat) (a360:Opr) (s357:(List Prt)×(List Opr))=>if a360.name=a327 then (bnd (Fi a360 (x0.vars.length:Int) (k326:Int)) fun q403=>bnd (appI 72 s357.2 [q403]) fun u405=>bnd (appI 8 s357.1 [(⟨(k359:Int)⟩:Prt)]) fun u407=>some (.next (u407,u405))) else (some (.next (s357.1,s357.2)))) x0.ops 0 (s324.1,s324.2)) fun res355=>fin res355 fun (s563:(List Prt)×(List Opr))=>bnd (Fi (⟨(⟨#[]⟩:ByteArray),x2,([]:List Fct),([]:List Eff)⟩:Opr) (x0.vars.length:Int) (k326:Int)) fun q565=>bnd (appI 72 s563.2 [q565]) fun u587=>bnd (appI 8 s563.1 [(⟨(-1)⟩:Prt)]) fun u600=>if 4096 < (u587.length:Int) then (some (.brk (u600,u587))) else (some (.next (u600,u587)))) x1 0 (s318.1,s318.2)) fun res322=>fin res322 fun (s619:(List Prt)×(List Opr))=>bnd (rngN (ρ:=Tsk×(List Prt)×Err) (fun (k627:Nat) (s625:(List Opr))=>bnd (s625[k627]?) fun a646=>bnd (EG a646.effs) fun q663=>bnd (s625[k627]?) fun a671=>some (.next (s625.set k627 ({ a671 with effs:=q663 }:Opr)))) s619.2.length s619.2) fun res623=>fin res623 fun (s688:(List Opr))=>bnd (GK (⟨y78.1,y78.2.1,y78.2.2,s688⟩:Tsk)) fun q698=>if q698.n≠0 then (some ((⟨([]:List Int),([]:List Int),([]:List Fct),([]:List Opr)⟩:Tsk),([]:List Prt),(⟨q698.n⟩:Err))) else (some ((⟨y78.1,y78.2.1,y78.2.2,s688⟩:Tsk),s619.1,(⟨0⟩:Err))))))
theorem IO (x0:Tsk) (x1:List ByteArray) (x2:Int):Le (Fl x0 x1 x2) (Dz x0 x1 x2):=by
  unfold Fl Dz
  repeat' (first|apply HJ|apply Ke|apply CY|apply Cs|apply ER|apply Kz|apply Le.ite|apply Le.bnd|apply Le.fin|apply Le.rng|apply Le.rngN|apply Le.lop|exact Le.rf|intro _)
noncomputable def FJ (x0:Tsk) (x1:List ByteArray) (x2:Int) (x3:Int):Option (Rsl×Int×Err) :=
  bnd (Fl x0 x1 x2) fun q34=>if q34.2.2.n≠0 then (some ((⟨0,([]:List Int),0,0⟩:Rsl),0,(⟨q34.2.2.n⟩:Err))) else (bnd (Fb q34.1 x3) fun q77=>if q77.2.n≠0 then (some ((⟨0,([]:List Int),0,0⟩:Rsl),0,(⟨q77.2.n⟩:Err))) else (if q77.1.verdict≠1 then (some (q77.1,0,(⟨0⟩:Err))) else (bnd (rng (ρ:=Rsl×Int×Err) (fun (k116:Nat) (a117:Int) (s114:(List Int)×(List ByteArray))=>bnd (atI q34.2.1 a117) fun a143=>if 0≤a143.op then (bnd (atI x0.ops a143.op) fun a156=>bnd (appI 8 s114.1 ([a143.op]:List Int)) fun u158=>bnd (appI 16 s114.2 [a156.name]) fun u160=>some (.next (u158,u160))) else (some (.next (s114.1,s114.2)))) q77.1.plan 0 (([]:List Int),([]:List ByteArray))) fun res112=>fin res112 fun (s269:(List Int)×(List ByteArray))=>bnd (Fc s269.2 x1) fun q273=>some ((⟨q77.1.verdict,s269.1,q77.1.cost,q77.1.expanded⟩:Rsl),q273,(⟨0⟩:Err)))))
theorem Jm (x0:Tsk) (x1:List ByteArray) (x2:Int) (x3:Int):Le (FJ x0 x1 x2 x3) (DT x0 x1 x2 x3):=by
  unfold FJ DT
  repeat' (first|apply Iy|apply Iz|apply IO|apply Le.ite|apply Le.bnd|apply Le.fin|apply Le.rng|apply Le.rngN|apply Le.lop|exact Le.rf|intro _)
noncomputable def HU  : Option Bool :=
  bnd (FJ (⟨([2]:List Int),([0]:List Int),[(⟨0,1⟩:Fct)],[(⟨(⟨#[97]⟩:ByteArray),3,([]:List Fct),[(⟨([]:List Fct),0,1⟩:Eff)]⟩:Opr)]⟩:Tsk) [(⟨#[97]⟩:ByteArray)] 5 100) fun q56=>bnd (if q56.2.2.n=0 then (if q56.2.1=0 then (if q56.1.verdict=1 then (if q56.1.cost=3 then (bnd (Hc q56.1.plan ([0]:List Int)) fun q100=>if q100=true then some true else some false) else (some false)) else (some false)) else (some false)) else (some false):Option Bool) fun y86=>some y86
theorem Kf  : Le (HU ) (Dn ):=by
  unfold HU Dn
  repeat' (first|apply Lk|apply Jm|apply Le.ite|apply Le.bnd|apply Le.fin|apply Le.rng|apply Le.rngN|apply Le.lop|exact Le.rf|intro _)
set_option maxRecDepth 100000 in
theorem awake60:Dn=some true:=Kf true (by kernel_rfl)
end
section
open Go Go.RowKit
def fstI (name:ByteArray) (s:List Int):List Opr→Nat→Int
  | [],_=>-1
  | o :: r,k=>if o.name=name∧holdsB o.pre s=true then (k:Int) else fstI name s r (k + 1)
theorem Kg (name:ByteArray) (s:List Int):∀ (l:List Opr) (k:Nat),fstI name s l k=-1∨∃ (j:Nat) (o:Opr),fstI name s l k=((k + j:Nat):Int)∧l[j]?=some o∧o.name=name∧holdsB o.pre s=true
  | [],k=>.inl rfl
  | o :: r,k=>by
    unfold fstI
    by_cases h:o.name=name∧holdsB o.pre s=true
    · rw [if_pos h];exact .inr ⟨0,o,by simp,rfl,h.1,h.2⟩
    · rw [if_neg h]
      rcases Kg name s r (k + 1) with h1|⟨j,o',h1,h2,h3,h4⟩
      · exact .inl h1
      · exact .inr ⟨j + 1,o',by rw [h1];congr 1;omega,by simpa using h2,h3,h4⟩
theorem Ll (ops:List Opr) (name:ByteArray) (s:List Int):AQ ops name s=some (fstI name s ops 0):=by
  unfold AQ
  have key:∀ (l:List Opr) (k:Nat),bnd (rng (ρ:=Int) (fun (k16:Nat) (a17:Opr) (_:Unit)=>bnd (CA a17 name s) fun q44=>if q44=true then some (.ret (k16:Int)) else some (.next ())) l k ()) (fun res12=>fin res12 fun (_:Unit)=>some (-1))=some (fstI name s l k):=by
    intro l
    induction l with
    | nil=>intro k;rfl
    | cons o r ih =>
      intro k
      have h1:CA o name s=some (decide (o.name=name∧holdsB o.pre s=true)):=by
        unfold CA
        by_cases h:o.name=name
        · rw [if_pos h,Iv,AG]
          by_cases hb:holdsB o.pre s=true
          · rw [if_pos hb,AG];simp [h,hb]
          · rw [if_neg hb,AG];simp [hb]
        · rw [if_neg h,AG];simp [h]
      unfold fstI
      simp only [rng,h1,AG]
      by_cases h:o.name=name∧holdsB o.pre s=true
      · rw [if_pos h];simp only [decide_eq_true h,if_true];rfl
      · rw [if_neg h];simp only [h,decide_false,Bool.false_eq_true,if_false];exact ih (k + 1)
  exact key ops 0
theorem My {t:Tsk} (h:TaskOk t) {s:List Int} (hs:StateOk t.vars s) {k:Nat} {o:Opr} (ho:t.ops[k]?=some o) (hp:holdsB o.pre s=true):Dj t s (k:Int)=some (succ o s,⟨0⟩):=by
  have hk:=Bn ho
  unfold Dj CE
  rw [EM.2 h,AG,if_neg (by simp)]
  unfold FC Ge
  have hc:Bx s=some s:=if_pos ⟨by have:=hs.1;have:=h.1;omega,by have:=hs.1;have:=h.1;omega⟩
  rw [if_neg (by omega),if_neg (by omega),AG,EP,AG,Bg hs,Ha,Jy,ho,AG,Iv,AG,if_pos hp,hc,AG,AG,Lf (h.effs hs k o ho) Cv Iv s rfl,AG,EI]
  rfl
def replay (t:Tsk):List ByteArray→List Int→List Int
  | [],_=>[]
  | name :: r,s=>match t.ops[(fstI name s t.ops 0).toNat]? with
    | some o=>if fstI name s t.ops 0 < 0 then [] else fstI name s t.ops 0 :: replay t r (succ o s)
    | none=>[]
theorem Ku {t:Tsk} {name:ByteArray} {r:List ByteArray} {s:List Int} (h:fstI name s t.ops 0 < 0):replay t (name :: r) s=[]:=by
  unfold replay
  cases t.ops[(fstI name s t.ops 0).toNat]? with
  | none=>rfl
  | some o=>simp [h]
theorem JP {t:Tsk} {name:ByteArray} {r:List ByteArray} {s:List Int} {j:Nat} {o:Opr} (h:fstI name s t.ops 0=(j:Int)) (ho:t.ops[j]?=some o):replay t (name :: r) s=(j:Int) :: replay t r (succ o s):=by
  rw [replay,h,Int.toNat_natCast,ho]
  simp only
  rw [if_neg (by omega)]
theorem Lt {t:Tsk} (hok:TaskOk t):∀ (xs:List ByteArray) (k:Nat) (acc s:List Int),StateOk t.vars s→acc.length + xs.length≤8796093022208 →
    ∃ s',rng (ρ:=(List Int)×Int×Err) (fun (_:Nat) (a50:ByteArray) (s47:(List Int)×(List Int))=>bnd (AQ t.ops a50 s47.2) fun q81=>if q81 < 0 then (some (.brk (s47.1,s47.2))) else (bnd (Dj t s47.2 q81) fun q90=>if q90.2.n≠0 then (some (.brk (s47.1,s47.2))) else (bnd (appI 8 s47.1 [q81]) fun u105=>some (.next (u105,q90.1))))) xs k (acc,s)=some (.done (acc ++ replay t xs s,s')):=by
  intro xs
  induction xs with
  | nil=>intro k acc s _ _;exact ⟨s,by simp [rng,replay]⟩
  | cons x xs ih =>
    intro k acc s hs hl
    simp only [List.length_cons] at hl
    rcases Kg x s t.ops 0 with h1|⟨j,o,h1,h2,h3,h4⟩
    · have step:(bnd (AQ t.ops x s) fun q81=>if q81 < 0 then (some (.brk (acc,s))) else (bnd (Dj t s q81) fun q90=>if q90.2.n≠0 then (some (.brk (acc,s))) else (bnd (appI 8 acc [q81]) fun u105=>some (.next (u105,q90.1)))):Option (Ctl (List Int×List Int) (List Int×Int×Err)))=some (.brk (acc,s)):=by
        rw [Ll,AG,if_pos (by omega)]
      rw [Ku (by omega)]
      exact ⟨s,by simp only [rng,step,List.append_nil]⟩
    · rw [Nat.zero_add] at h1
      have step:(bnd (AQ t.ops x s) fun q81=>if q81 < 0 then (some (.brk (acc,s))) else (bnd (Dj t s q81) fun q90=>if q90.2.n≠0 then (some (.brk (acc,s))) else (bnd (appI 8 acc [q81]) fun u105=>some (.next (u105,q90.1)))):Option (Ctl (List Int×List Int) (List Int×Int×Err)))=some (.next (acc ++ [(j:Int)],succ o s)):=by
        rw [Ll,AG,h1,if_neg (by omega),My hok hs h2 h4,AG,if_neg (by simp),JV (by simp;omega) (by simp;omega),AG]
      obtain ⟨s',hs'⟩:=ih (k + 1) (acc ++ [(j:Int)]) (succ o s) (LK hok hs h2) (by simp;omega)
      refine ⟨s',?_⟩
      rw [JP h1 h2]
      simp only [rng,step,hs',List.append_assoc,List.singleton_append]
theorem MP {t:Tsk} (hok:TaskOk t) {s:List Int} (hs:StateOk t.vars s) (name:ByteArray):∀ (l:List Opr) (k:Nat) (f:Int),(∀ i,l[i]?=t.ops[k + i]?) →
    rng (ρ:=Ctl ((List Int)×(List Int)) (List Int)) (fun (k64:Nat) (a65:Opr) (s62:Int)=>bnd (BT t s (k64:Int)) fun q77=>bnd (if q77.2=true then (if s62 < 0 then (if a65.name=name then (some true) else (some false)) else (some false)) else (some false):Option Bool) fun y90=>if y90=true then (some (.next (k64:Int))) else (some (.next s62))) l k f=some (.done (if f < 0 then (if fstI name s l k < 0 then f else fstI name s l k) else f)):=by
  intro l
  induction l with
  | nil=>intro k f _;simp [rng,fstI]
  | cons o r ih =>
    intro k f hal
    have ho:t.ops[k]?=some o:=by have:=hal 0;rw [Nat.add_zero] at this;rw [← this];rfl
    have hal':∀ i,r[i]?=t.ops[k + 1 + i]?:=fun i=>by have:=hal (i + 1);rw [show k + (i + 1)=k + 1 + i from by omega] at this;rw [← this];simp
    have step:(bnd (BT t s (k:Int)) fun q77=>bnd (if q77.2=true then (if f < 0 then (if o.name=name then (some true) else (some false)) else (some false)) else (some false):Option Bool) fun y90=>if y90=true then (some (.next (k:Int))) else (some (.next f)):Option (Ctl Int (Ctl ((List Int)×(List Int)) (List Int))))=some (.next (if f < 0∧o.name=name∧holdsB o.pre s=true then (k:Int) else f)):=by
      rw [Kt hok hs ho,AG]
      by_cases hp:holdsB o.pre s=true
      · rw [if_pos hp]
        by_cases hf:f < 0
        · by_cases hn:o.name=name
          · rw [if_pos rfl,if_pos hf,if_pos hn,AG,Ha,if_pos ⟨hf,hn,hp⟩]
          · rw [if_pos rfl,if_pos hf,if_neg hn,AG,EP,if_neg (fun h=>hn h.2.1)]
        · rw [if_pos rfl,if_neg hf,AG,EP,if_neg (fun h=>hf h.1)]
      · rw [if_neg hp,if_neg (by simp),AG,EP,if_neg (fun h=>hp h.2.2)]
    simp only [rng,step]
    rw [ih (k + 1) _ hal']
    have hun:fstI name s (o :: r) k=if o.name=name∧holdsB o.pre s=true then (k:Int) else fstI name s r (k + 1):=rfl
    rw [hun]
    by_cases hf:f < 0
    · by_cases hc:o.name=name∧holdsB o.pre s=true
      · rw [if_pos (show f < 0∧o.name=name∧holdsB o.pre s=true from ⟨hf,hc⟩),if_pos hc,if_pos hf,if_neg (by omega),if_neg (by omega)]
      · rw [if_neg (show ¬ (f < 0∧o.name=name∧holdsB o.pre s=true) from fun h=>hc h.2),if_neg hc]
    · rw [if_neg (show ¬ (f < 0∧o.name=name∧holdsB o.pre s=true) from fun h=>hf h.1),if_neg hf,if_neg hf]
theorem Mc {t:Tsk} (hok:TaskOk t):∀ (xs:List ByteArray) (k:Nat) (acc s:List Int),StateOk t.vars s→acc.length + xs.length≤8796093022208 →
    bnd (rng (ρ:=(List Int)) (fun (_:Nat) (a34:ByteArray) (s31:(List Int)×(List Int))=>bnd (rng (ρ:=Ctl ((List Int)×(List Int)) (List Int)) (fun (k64:Nat) (a65:Opr) (s62:Int)=>bnd (BT t s31.2 (k64:Int)) fun q77=>bnd (if q77.2=true then (if s62 < 0 then (if a65.name=a34 then (some true) else (some false)) else (some false)) else (some false):Option Bool) fun y90=>if y90=true then (some (.next (k64:Int))) else (some (.next s62))) t.ops 0 (-1)) fun res60=>fin res60 fun (s123:Int)=>if s123 < 0 then (some (.ret s31.1)) else (bnd (appI 8 s31.1 [s123]) fun u128=>bnd (BT t s31.2 s123) fun q140=>some (.next (u128,q140.1)))) xs k (acc,s)) (fun res29=>fin res29 fun (s157:(List Int)×(List Int))=>some s157.1)=some (acc ++ replay t xs s):=by
  intro xs
  induction xs with
  | nil=>intro k acc s _ _;show some acc=_;simp [replay]
  | cons x xs ih =>
    intro k acc s hs hl
    simp only [List.length_cons] at hl
    have hin:=MP hok hs x t.ops 0 (-1) (fun i=>by rw [Nat.zero_add])
    rcases Kg x s t.ops 0 with h1|⟨j,o,h1,h2,h3,h4⟩
    · have e:(if (-1:Int) < 0 then (if fstI x s t.ops 0 < 0 then -1 else fstI x s t.ops 0) else -1)=-1:=by rw [h1];rfl
      rw [e] at hin
      rw [Ku (by omega)]
      simp only [rng,hin,AG,EI]
      simp [fin,bnd]
    · rw [Nat.zero_add] at h1
      have e:(if (-1:Int) < 0 then (if fstI x s t.ops 0 < 0 then -1 else fstI x s t.ops 0) else -1)=(j:Int):=by rw [h1,if_pos (by decide),if_neg (by omega)]
      rw [e] at hin
      have step:(bnd (some (Fin.done (j:Int):Fin Int (Ctl (List Int×List Int) (List Int)))) fun res60=>fin res60 fun (s123:Int)=>if s123 < 0 then (some (.ret acc)) else (bnd (appI 8 acc [s123]) fun u128=>bnd (BT t s s123) fun q140=>some (.next (u128,q140.1))):Option (Ctl (List Int×List Int) (List Int)))=some (.next (acc ++ [(j:Int)],succ o s)):=by
        rw [AG,EI,if_neg (by omega),JV (by simp;omega) (by simp;omega),AG,Kt hok hs h2,if_pos h4,AG]
      have hih:=ih (k + 1) (acc ++ [(j:Int)]) (succ o s) (LK hok hs h2) (by simp;omega)
      rw [JP h1 h2]
      simp only [rng,hin,step]
      simpa using hih
theorem Lu {t:Tsk} {names:List ByteArray} (hl:names.length≤8796093022208):Dm t names=some true:=by
  unfold Dm
  obtain ⟨l,hl'⟩:=Mx names
  rw [hl',awake60]
  by_cases g1:70 < (t.vars.length:Int)
  · rw [if_pos g1];rfl
  by_cases g2:20 < (t.ops.length:Int)
  · rw [if_neg g1,if_pos g2];rfl
  rw [if_neg g1,if_neg g2]
  cases l with
  | true=>rfl
  | false =>
  rw [AG,EP,AG,Ha,AG,EP]
  unfold EJ CE HB
  rw [check5]
  by_cases hok:TaskOk t
  case neg =>
    have hn:checkN t≠0:=fun h=>hok (EM.1 h)
    rw [AG,if_pos hn,AG,AG,if_pos hn,AG,if_pos rfl,if_pos (by simp),if_pos rfl,AG]
  obtain ⟨s',h1⟩:=Lt hok names 0 [] t.init hok.2.2.2.1 (by simpa using hl)
  have h2:=Mc hok names 0 [] t.init hok.2.2.2.1 (by simpa using hl)
  unfold EY
  rw [EM.2 hok,AG,if_neg (by simp),h1,AG,EI,AG,AG,if_neg (by simp),if_pos rfl,if_pos rfl,h2,AG]
  unfold EB
  rw [AG,Bg rfl,Ha,AG]
end
section
open Go Go.RowKit Go.ChangeShapes Go.WideShapes Go.Deep
theorem reach16 {n:Nat} (h:n * 16≤reachBytes):n≤8796093022208:=by unfold reachBytes at h;omega
theorem lawRReplays {w:World} {v0:Value} {a0:Tsk} (h0:V w v0 a0) {v1:Value} {a1:List ByteArray} (h1:V w v1 a1) (z1:a1.length * 16≤reachBytes):Fn Tryz.prog 7 [v0,v1] w fun v w'=>v=.bool true∧Ext w w' :=
  (Hl (fun _ h=>h) h0 h1 (Lu (t:=a0) (reach16 z1))).mono fun _ _ h=>⟨h.2.bool,h.1⟩
set_option maxRecDepth 100000 in
theorem HK (os:Os) (started:os.Started) (H:Type) (enc:TypeId×Value→H) :
    ReturnsInHanded {} Tryz.checked os 7 .any (Rows.repairReplaysSpec.pre6 enc Tryz.prog Tryz.f7 Rows.repairReplaysRow.domain false) (Rows.repairReplaysSpec.post enc Tryz.prog Tryz.f7 false true false false):=by
  refine returnsInHanded_of_change_sized (C:=Tryz.checked) ownTry started (by kernel_rfl) Tryz.func7 (ChangeSpec.witness6 (enc:=enc) (C:=Tryz.checked) false ⟨#[],#[(.agg #[.slice none 0 0,.slice none 0 0,.slice none 0 0,.slice none 0 0]),.slice none 0 0],[]⟩ 8 (by kernel_rfl) (by kernel_rfl) (by kernel_rfl) (by kernel_rfl)) ?_
  intro W base args ds gs before hval hW _ hz _
  have hopen:∀ p,DataW.TrodAll enc Tryz.prog W 0 (fun _=>true) true Tryz.f7.params.toList args.toList ds p→∃ v0 v1 d0 d1,args=#[v0,v1]∧ds=[d0,d1]∧(∃ a:Tsk,V W v0 a)∧(∃ a:List ByteArray,V W v1 a∧a.length * 16≤reachBytes):=by
    intro p hA
    rw [Tryz.params7] at hA
    replace hval:∀ (j:Nat) t v,(#[26,27]:Array TypeId)[j]?=some t→args[j]?=some v→Value.okWide Tryz.prog W .any base t v:=by rw [← Tryz.params7];exact hval
    obtain ⟨v0,vs0,d0,ds0,p0,q0,g0,e0,_,h0,r0⟩:=trodAll_cons hA
    obtain ⟨v1,vs1,d1,ds1,p1,q1,g1,e1,_,h1,r1⟩:=trodAll_cons r0
    obtain ⟨g,e,_⟩:=trodAll_nil r1
    rw [g] at g1;rw [e] at e1
    rw [g1] at g0;rw [e1] at e0
    obtain rfl:args=#[v0,v1]:=by cases args;simp_all
    exact ⟨v0,v1,d0,d1,rfl,e0,(by first|exact openAgg rfl (hval 0 26 v0 rfl rfl) h0|exact openOne rfl (hval 0 26 v0 rfl rfl) h0),(lenOpen (openOne rfl (hval 1 27 v1 rfl rfl) h1) Tryz.underlying27 h1 hz (j:=1) (by rw [Tryz.params7];rfl) (by rw [e0];rfl) (by kernel_rfl:Tryz.prog.bytesOf 9=16))⟩
  refine lawPost rfl (by kernel_rfl) (by rw [Tryz.params7];exact of_decide_eq_true (by kernel_rfl)) hW ?_ ?_
  · intro p hA
    obtain ⟨v0,v1,d0,d1,_,rfl,_⟩:=hopen p hA
    rfl
  · intro p hA
    obtain ⟨v0,v1,d0,d1,rfl,_,⟨a0,h0⟩,⟨a1,h1,z1⟩⟩:=hopen p hA
    exact lawRReplays h0 h1 z1
theorem repairReplays_holds:Rows.RepairReplaysSaid :=
  OpenClaim.holds_of_wide 7 Tryz.f7 rfl rfl rfl rfl rfl rfl rfl ⟨rfl,rfl,rfl,rfl,rfl⟩ rfl rfl rfl rfl rfl (by kernel_rfl) Tryz.func7 (by kernel_rfl)
    (of_decide_eq_true (by kernel_rfl)) (by unfold Func.isWrapper;first|(rw [if_pos (by decide +kernel)];kernel_rfl)|(rw [if_neg (by decide +kernel)];exact ⟨rfl,rfl⟩))
    (fun os started H enc _=>HK os started H enc)
#print axioms repairReplays_holds
end
end Go.Proofs.YtafdmfhdjfkooaaGreat

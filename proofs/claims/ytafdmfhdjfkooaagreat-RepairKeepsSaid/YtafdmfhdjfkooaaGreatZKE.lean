/- Own text: what the proof of repairKeeps_holds uses, part 5: rules, models and their proofs, plain laws. -/
import Derived.Test.YtafdmfhdjfkooaaGreatZKD
set_option linter.unusedVariables false
set_option linter.unusedSimpArgs false
namespace Go.Proofs.YtafdmfhdjfkooaaGreat
open Go Go.RowKit
section
open Go Go.RowKit
attribute [local irreducible] ewp owp hwp hwq hws Ev Evg Fn retPost loud loudS Res1
noncomputable def Gy (x0:Err) (x1:Int):Option Bool :=
  bnd (if x0.n≠0 then (bnd (Ik (⟨x0.n⟩:Err)) fun q8=>if q8=x1 then (some true) else (some false)) else (some false):Option Bool) fun y3=>some y3
theorem LE {w:World} {A:Nat→Prop} (hA:∀ k,A k→k < w.heap.size) {x0:Err} (rx0:inI64 x0.n) {x1:Int} (rx1:inI64 x1) {r:Bool} (hm:Gy x0 x1=some r) :
    Fn Tryz.prog 20 [(errV x0.n),(.int .i64 x1)] w fun v w'=>Ext w w'∧Vb w' (upA A w w') v r:=by
 obtain ⟨O,hB,f0⟩:=enter hA
 refine AG Tryz.func20 rfl Tryz.ntmps20 rfl ?_
 unfold Gy at hm
 refine Al (Aj (Au rfl rfl (o_z ?_)))
 refine Al ?_
 obtain ⟨y3,a0,hm⟩:=bs hm
 refine AN (fun l' w'=>∃ (x6:Unit) (O':Lab),subs l' [(4,(.bool y3))]∧Bs w A w' O') ?_ ?_
 ·
  refine Aj (Am rfl rfl (Eh rfl rfl (fun c7=>?_) fun c7=>?_))
  ·
   replace a0:=ip a0 c7
   refine Am rfl rfl (Az rfl rfl (Am rfl rfl (Az rfl rfl ?_)))
   obtain ⟨q8,e9,a0⟩:=bs a0
   refine BS (O:=O) (A:=All w) (R:=fun w' F v=>Vb w' F v q8) (Of (fun _ h=>h) rx0 e9) rfl rfl fun g0 h0 i0 d0 e0=>?_
   obtain ⟨rfl,j0⟩:=e0.int
   refine Az rfl rfl (Am rfl rfl (Az rfl rfl (Gi rfl rfl rfl (fun b0=>?_) fun b0=>?_)))
   ·
    replace a0:=ip a0 b0
    refine Bl rfl rfl rfl (Au rfl rfl (o_z ?_))
    obtain rfl:=sm a0
    exact ⟨(),_,⟨rfl,trivial⟩,hB.st d0⟩
   ·
    replace a0:=im a0 b0
    refine Bl rfl rfl rfl (Au rfl rfl (o_z ?_))
    obtain rfl:=sm a0
    exact ⟨(),_,⟨rfl,trivial⟩,hB.st d0⟩
  ·
   replace a0:=im a0 c7
   refine Am rfl rfl (Aw rfl rfl rfl rfl (Aw rfl rfl rfl rfl (Aw rfl rfl rfl rfl (Aw rfl rfl rfl rfl (Be rfl rfl rfl (Au rfl rfl (o_z ?_)))))))
   obtain rfl:=sm a0
   exact ⟨(),_,⟨rfl,trivial⟩,hB⟩
 rintro k0 l0 ⟨x6,m0,c0,hB⟩
 refine AS _ c0 ?_
 refine AK ?_
 obtain rfl:=sm hm
 exact ret1v rfl (AC rfl) ⟨hB.ext,vBool⟩
noncomputable def Ft (x0:List Int) (x1:Int):Option Int :=
  bnd (rng (ρ:=Int) (fun (k11:Nat) (a12:Int) (s9:Int)=>bnd (chkI (x1 + 1)) fun n32=>bnd (chkI (s9 * (min (max a12 0) n32))) fun n35=>if x1 < n35 then (bnd (chkI (x1 + 1)) fun n39=>some (.ret n39)) else (some (.next n35))) x0 0 1) fun res7=>fin res7 fun (s46:Int)=>some s46
theorem Nk {w:World} {A:Nat→Prop} (hA:∀ k,A k→k < w.heap.size) {vx0:Value} {x0:List Int} (b0:Vb w A vx0 x0) {x1:Int} (rx1:inI64 x1) {r:Int} (hm:Ft x0 x1=some r) :
    Fn Tryz.prog 29 [vx0,(.int .i64 x1)] w fun v w'=>Ext w w'∧Vb w' (upA A w w') v r:=by
 obtain ⟨O,hB,q0⟩:=enter hA
 replace b0:=b0.mono q0
 obtain ⟨A3,c4,rfl⟩:=b0.form
 refine AG Tryz.func29 rfl Tryz.ntmps29 rfl ?_
 unfold Ft at hm
 refine Al (Aj (Au rfl rfl (o_z ?_)))
 refine Al (Aj (Au rfl rfl (o_z ?_)))
 refine Al (Al (Aj (Am rfl rfl (AQ rfl rfl ?_))))
 have l6:x0.length≤9223372036854775807:=Nat.le_trans b0.len.2.1 b0.len.2.2
 have r5:inI64 (x0.length:Int):=rngNat l6
 refine Am rfl rfl (o_z ?_)
 obtain ⟨g0,r0,hm⟩:=bs hm
 refine AN (aft g0 (fun (s9:Int) (e0:Unit)=>[(5,(.int .i64 s9))]) (fun s9 e0 w'=>∃ O':Lab,Bs w A w' O'∧inI64 s9)) ?_ ?_
 ·
  refine AP (BM (σ:=Int) (X:=Unit) (x0.length) r0 rfl l6 (fun (s9:Int) (e0:Unit)=>[(1,(.int .i64 x1)),(5,(.int .i64 s9)),(8,(.slice A3 x0.length c4))]) _ (fun s9 e0 w'=>∃ O':Lab,Bs w A w' O'∧Vb w' (Fr 0 w' O') (.slice A3 x0.length c4) x0∧inI64 s9) _ () ⟨O,hB,b0,(show inI64 (1) from by decide)⟩ ⟨rfl,rfl,rfl,rfl,rfl,trivial⟩ (fun _ _=>⟨rfl,rfl⟩) (fun _ _=>⟨rfl,trivial⟩) (fun _ _ _ ⟨O',hB,b0,f0⟩=>⟨O',hB,f0⟩) ⟨rfl,rfl,rfl⟩ ⟨rfl,rfl⟩ ?_)
  rintro s0 y0 s9 e0 z0 t0 d0 ⟨a1,hB,b0,f0⟩ a0 c0 h0
  have rk11:inI64 (s0:Int):=rngK d0 l6
  refine Al (Aj ?_)
  obtain ⟨b1,c1,u0,i0,j0,k0,rfl,d1⟩:=b0.elem' d0
  refine Bu (hA:=i0) (hj:=rfl) (hlt:=j0) rfl rfl rfl ?_
  refine AF (hc:=cat0 k0) rfl rfl ?_
  refine Au rfl rfl (o_z ?_)
  refine Al (Aj (Am rfl rfl (Am rfl rfl (NX rfl rfl rfl ?_))))
  refine Am rfl rfl ?_
  obtain ⟨e1,n0,a0⟩:=bs a0
  have f1:=(Bg n0)
  refine Eg (he:=n0) rfl rfl rfl ?_
  refine NW rfl rfl rfl ?_
  obtain ⟨g1,o0,a0⟩:=bs a0
  have v0:=(Bg o0)
  refine Qp (he:=o0) rfl rfl rfl ?_
  refine Au rfl rfl (o_z ?_)
  refine Al (Aj (Am rfl rfl (Am rfl rfl (CI rfl rfl rfl (fun l0=>?_) fun l0=>?_))))
  ·
   replace a0:=ip a0 l0
   refine o_z ?_
   refine Ah rfl (Al (Aj (Am rfl rfl ?_)))
   obtain ⟨h1,p0,a0⟩:=bs a0
   have w0:=(Bg p0)
   refine Eg (he:=p0) rfl rfl rfl ?_
   refine Au rfl rfl (o_z ?_)
   refine AK ?_
   obtain rfl:=sm a0
   obtain rfl:=c0 _ rfl
   obtain rfl:=sm (CR hm)
   exact ret1v rfl (AC rfl) ⟨hB.ext,(vInt w0)⟩
  ·
   replace a0:=im a0 l0
   refine o_z ?_
   refine Ae rfl (AM ?_)
   obtain rfl:=sm a0
   refine (?_:Exists _)
   exact ⟨_,(),rfl,⟨rfl,rfl,rfl,rfl,rfl,trivial⟩,_,hB,b0,v0⟩
 rintro i1 j1 ⟨k1,l1,rfl,m0,m1,hB,f0⟩
 replace hm:=Bc hm
 refine AS _ m0 ?_
 refine Al (Aj (Am rfl rfl (Au rfl rfl (o_z ?_))))
 refine AK ?_
 obtain rfl:=sm hm
 exact ret1v rfl (AC rfl) ⟨hB.ext,(vInt f0)⟩
noncomputable def Fu (x0:Tsk):Option Int :=
  bnd (DS x0) fun q24=>bnd (DL x0.vars x0.init) fun q33=>bnd (atI q24 q33) fun a41=>some a41
theorem Nl {w:World} {A:Nat→Prop} (hA:∀ k,A k→k < w.heap.size) {vx0:Value} {x0:Tsk} (h0:Vb w A vx0 x0) {r:Int} (hm:Fu x0=some r) :
    Fn Tryz.prog 14 [vx0] w fun v w'=>Ext w w'∧Vb w' (upA A w w') v r:=by
 obtain ⟨O,hB,w0⟩:=enter hA
 replace h0:=h0.mono w0
 obtain ⟨k1,rfl,v3,v4,v5,v6,rfl,h7,a0,d0,e0⟩:=h0
 obtain ⟨A8,c9,rfl⟩:=h7.form
 obtain ⟨q0,r0,rfl⟩:=a0.form
 obtain ⟨s0,t0,rfl⟩:=d0.form
 obtain ⟨u0,v0,rfl⟩:=e0.form
 refine AG Tryz.func14 rfl Tryz.ntmps14 rfl ?_
 unfold Fu at hm
 refine Al (Aj (DB 2 O rfl rfl fun y0 z0 i0 b0 c0=>?_))
 replace c0:Lc 2 z0 i0 y0 26 [(.slice A8 x0.vars.length c9),(.slice q0 x0.init.length r0),(.slice s0 x0.goal.length t0),(.slice u0 x0.ops.length v0)]:=c0
 refine Au rfl rfl (o_z ?_)
 refine Al (BC [] i0 ?_)
 refine AX (fuel:=5) [] [(0,true),(2,true),(3,true),(4,true),(5,true)] (by kernel_rfl) rfl ?_
 refine Fx (hl:=rfl) (hb:=fun w' ⟨O',hq⟩=>((c0.st hq (by decide)).1).cellsAt) rfl rfl rfl ?_
 refine AY rfl rfl rfl (Bb (hc:=fun w' ⟨O',hq⟩=>Blk.cell (i:=0) ((c0.st hq (by decide)).1) rfl) rfl rfl rfl ?_)
 refine AY rfl rfl rfl (Bb (hc:=fun w' ⟨O',hq⟩=>Blk.cell (i:=1) ((c0.st hq (by decide)).1) rfl) rfl rfl rfl ?_)
 refine AL ?_
 refine AZ (i:=1) (by kernel_rfl) rfl ?_
 obtain ⟨a1,b1,hm⟩:=bs hm
 replace h7:=h7.st b0
 replace a0:=a0.st b0
 replace d0:=d0.st b0
 replace e0:=e0.st b0
 refine De (O:=i0) (R:=fun w' F v=>Vb w' F v a1) (Ki Fr.lt (Vb.ofAgg (cs:=[(.slice A8 x0.vars.length c9),(.slice q0 x0.init.length r0),(.slice s0 x0.goal.length t0),(.slice u0 x0.ops.length v0)]) (x:=x0) rfl ⟨_,_,_,_,rfl,h7,a0,d0,e0⟩) b1) rfl rfl fun l1 j0 k0 f0 g0=>?_
 obtain ⟨m1,n1,rfl⟩:=g0.form
 have hZ:=f0.lst [] (fun _ h=>h.elim)
 refine Bz [] hZ (by kernel_rfl) ?_
 refine AZ (i:=6) (by kernel_rfl) rfl ?_
 obtain ⟨c1,d1,hm⟩:=bs hm
 replace h7:=h7.st f0
 replace a0:=a0.st f0
 refine BS (O:=k0) (A:=All j0) (R:=fun w' F v=>Vb w' F v c1) (JT (fun _ h=>h) (Vb.mono (F:=Fr 0 j0 k0) h7 Fr.lt) (Vb.mono (F:=Fr 0 j0 k0) a0 Fr.lt) d1) rfl rfl fun o1 p1 q1 l0 e1=>?_
 obtain ⟨rfl,r1⟩:=e1.int
 have hZ:=l0.lst [] (fun _ h=>h.elim)
 refine Bz [] hZ (by kernel_rfl) ?_
 refine AX (fuel:=0) [] [(7,true),(8,true),(9,true)] (by kernel_rfl) rfl ?_
 obtain ⟨s1,f1,hm⟩:=bs hm
 obtain ⟨g1,h1⟩:=AR f1
 replace g0:=g0.st l0
 obtain ⟨t1,u1,i1,m0,n0,o0,p0,rfl,j1⟩:=g0.elem h1
 refine BV (hA:=m0) (hj:=(Int.toNat_of_nonneg g1).symm) (hlt:=o0) rfl rfl rfl rfl ?_
 refine Bb (hc:=fun w' ⟨O',hq⟩=>cat0 (Bo (hq.agree (i:=0) (by decide)) n0 p0)) rfl rfl rfl ?_
 refine CL rfl rfl rfl (AL ?_)
 refine Cv (by kernel_rfl) ?_
 refine AK ?_
 obtain rfl:=sm hm
 replace hB:=((hB.st b0).st f0).st l0
 exact ret1v rfl (AC rfl) ⟨hB.ext,(vInt j1)⟩
end
section
open Go Go.RowKit
attribute [local irreducible] ewp owp hwp hwq hws Ev Evg Fn retPost loud loudS Res1
attribute [local irreducible] hwx loudX hwz zNext
noncomputable def Cp (x0:Tsk) (x1:List ByteArray) (x2:Int) (x3:Int):Option (Rsl×Int×Err) :=
  bnd (Da x0 x1 x2) fun q34=>if q34.2.2.n≠0 then (some ((⟨0,([]:List Int),0,0⟩:Rsl),0,(⟨q34.2.2.n⟩:Err))) else (bnd (BW q34.1 x3) fun q77=>if q77.2.n≠0 then (some ((⟨0,([]:List Int),0,0⟩:Rsl),0,(⟨q77.2.n⟩:Err))) else (if q77.1.verdict≠1 then (some (q77.1,0,(⟨0⟩:Err))) else (bnd (rng (ρ:=Rsl×Int×Err) (fun (k116:Nat) (a117:Int) (s114:(List Int)×(List ByteArray))=>bnd (atI q34.2.1 a117) fun a143=>if 0≤a143.op then (bnd (atI x0.ops a143.op) fun a156=>bnd (appI 8 s114.1 ([a143.op]:List Int)) fun u158=>bnd (appI 16 s114.2 [a156.name]) fun u160=>some (.next (u158,u160))) else (some (.next (s114.1,s114.2)))) q77.1.plan 0 (([]:List Int),([]:List ByteArray))) fun res112=>fin res112 fun (s269:(List Int)×(List ByteArray))=>bnd (CT s269.2 x1) fun q273=>some ((⟨q77.1.verdict,s269.1,q77.1.cost,q77.1.expanded⟩:Rsl),q273,(⟨0⟩:Err)))))
theorem Hw {w:World} {A:Nat→Prop} (hA:∀ k,A k→k < w.heap.size) {vx0:Value} {x0:Tsk} (f4:Vb w A vx0 x0) {vx1:Value} {x1:List ByteArray} (v0:Vb w A vx1 x1) {x2:Int} (rx2:inI64 x2) {x3:Int} (rx3:inI64 x3) {r:Rsl×Int×Err} (hm:Cp x0 x1 x2 x3=some r) :
    Fn Tryz.prog 11 [vx0,vx1,(.int .i64 x2),(.int .i64 x3)] w fun v w'=>Ext w w'∧T3 w' (upA A w w') v r:=by
 obtain ⟨O,hB,c6⟩:=enter hA
 replace f4:=f4.mono c6
 obtain ⟨n9,rfl,v6,v7,v8,v9,rfl,h1,i1,j1,g1⟩:=f4
 obtain ⟨n3,o3,rfl⟩:=h1.form
 obtain ⟨p3,q3,rfl⟩:=i1.form
 obtain ⟨r3,s3,rfl⟩:=j1.form
 obtain ⟨t3,u3,rfl⟩:=g1.form
 replace v0:=v0.mono c6
 obtain ⟨v3,w3,rfl⟩:=v0.form
 refine AG Tryz.func11 rfl Tryz.ntmps11 rfl ?_
 unfold Cp at hm
 refine Al (Aj (DB 2 O rfl rfl fun g4 x6 d6 p1 f1=>?_))
 replace f1:Lc 2 x6 d6 g4 26 [(.slice n3 x0.vars.length o3),(.slice p3 x0.init.length q3),(.slice r3 x0.goal.length s3),(.slice t3 x0.ops.length u3)]:=f1
 refine Cj 3 d6 rfl fun v1 o9 y6 l1 e0=>?_
 refine Au rfl rfl (Au rfl rfl (o_z ?_))
 refine Al (Aj ?_)
 replace f1:=f1.st l1
 refine BA (hl:=rfl) (hc:=(f1.1).cellsAt) rfl rfl ?_
 refine Am rfl rfl (Am rfl rfl ?_)
 obtain ⟨k1,z6,hm⟩:=bs hm
 replace v0:=(v0.st p1).st l1
 replace h1:=(h1.st p1).st l1
 replace i1:=(i1.st p1).st l1
 replace j1:=(j1.st p1).st l1
 replace g1:=(g1.st p1).st l1
 refine De (O:=y6) (R:=fun w' F v=>T3 w' F v k1) (Kg Fr.lt (Vb.ofAgg (cs:=[(.slice n3 x0.vars.length o3),(.slice p3 x0.init.length q3),(.slice r3 x0.goal.length s3),(.slice t3 x0.ops.length u3)]) (x:=x0) rfl ⟨_,_,_,_,rfl,h1,i1,j1,g1⟩) v0 rx2 z6) rfl rfl fun p9 q9 a7 c1 b7=>?_
 obtain ⟨r9,s9,t9,rfl,c7,m1,d7⟩:=b7
 obtain ⟨e7,rfl,u9,w9,x9,y9,rfl,y3,z3,a4,b4⟩:=c7
 obtain ⟨e6,f6,rfl⟩:=y3.form
 obtain ⟨g6,h6,rfl⟩:=z3.form
 obtain ⟨i6,j6,rfl⟩:=a4.form
 obtain ⟨k6,l6,rfl⟩:=b4.form
 obtain ⟨m6,n6,rfl⟩:=m1.form
 obtain ⟨rfl,f7⟩:=d7.err
 refine Am rfl rfl (BB rfl rfl rfl (BB rfl rfl rfl (BB rfl rfl rfl (Cj 4 a7 rfl fun g7 z9 c4 w0 m2=>?_))))
 refine AT m2 rfl rfl rfl (Nat.le_of_ble_eq_true rfl) (by first|exact allOne rfl|simp [Value.cells,Value.oneCell',AO]) fun h7 y0 m2=>?_
 replace m2:Lc 4 h7 c4 g7 26 [(.slice e6 k1.1.vars.length f6),(.slice g6 k1.1.init.length h6),(.slice i6 k1.1.goal.length j6),(.slice k6 k1.1.ops.length l6)]:=m2
 refine Au rfl rfl (Au rfl rfl (o_z ?_))
 refine Al (Al (Aj (Am rfl rfl (Eh rfl rfl (fun h4=>?_) fun h4=>?_))))
 ·
  replace hm:=ip hm h4
  refine o_z ?_
  refine Ah rfl (Al (Aj (CF rfl rfl rfl ?_)))
  refine Am rfl rfl ?_
  replace e0:=((e0.st c1).st w0).st y0
  refine AT e0 rfl rfl rfl (Nat.le_of_ble_eq_true rfl) (by first|exact allOne rfl|simp [Value.cells,Value.oneCell',AO]) fun o6 i7 e0=>?_
  replace e0:Lc 3 o6 c4 v1 32 [(.int .i64 0),(.slice none 0 0),(.int .i64 0),(.int .i64 0)]:=e0
  refine Au rfl rfl (Au rfl rfl (o_z ?_))
  refine AK ?_
  obtain rfl:=sm hm
  replace hB:=(((((hB.st p1).st l1).st c1).st w0).st y0).st i7
  exact ret3 rfl (Cd (cs:=[(.int .i64 0),(.slice none 0 0),(.int .i64 0),(.int .i64 0)]) rfl rfl e0.1.cellsAt) (AC rfl) (AC rfl) ⟨hB.ext,_,_,_,rfl,(Vb.mono (F:=Fr 0 o6 c4) (Vb.ofAgg (cs:=[(.int .i64 0),(.slice none 0 0),(.int .i64 0),(.int .i64 0)]) (x:=(⟨0,([]:List Int),0,0⟩:Rsl)) rfl ⟨_,rfl,(Vb.nil _ _),(show inI64 0 from by decide),(show inI64 0 from by decide),(show inI64 0 from by decide)⟩) hB.out),(vInt (show inI64 (0) from by decide)),(vErr f7)⟩
 ·
  replace hm:=im hm h4
  refine o_z ?_
  refine Ae rfl (AM (Al (Aj (BA (hl:=rfl) (hc:=(m2.1).cellsAt) rfl rfl ?_))))
  refine Am rfl rfl ?_
  obtain ⟨c0,j7,hm⟩:=bs hm
  replace y3:=(y3.st w0).st y0
  replace z3:=(z3.st w0).st y0
  replace a4:=(a4.st w0).st y0
  replace b4:=(b4.st w0).st y0
  refine De (O:=c4) (R:=fun w' F v=>T2 w' F v c0) (JK Fr.lt (Vb.ofAgg (cs:=[(.slice e6 k1.1.vars.length f6),(.slice g6 k1.1.init.length h6),(.slice i6 k1.1.goal.length j6),(.slice k6 k1.1.ops.length l6)]) (x:=k1.1) rfl ⟨_,_,_,_,rfl,y3,z3,a4,b4⟩) rx3 j7) rfl rfl fun aA bA k7 e1 l7=>?_
  obtain ⟨cA,dA,rfl,m7,n7⟩:=l7
  obtain ⟨o7,rfl,eA,rfl,b1,p6,q6,r6⟩:=m7
  obtain ⟨q1,r1,rfl⟩:=b1.form
  obtain ⟨rfl,p7⟩:=n7.err
  refine Am rfl rfl (BB rfl rfl rfl (BB rfl rfl rfl (Cj 5 k7 rfl fun k2 fA l2 g0 f0=>?_)))
  refine AT f0 rfl rfl rfl (Nat.le_of_ble_eq_true rfl) (by first|exact allOne rfl|simp [Value.cells,Value.oneCell',AO]) fun i4 h0 f0=>?_
  replace f0:Lc 5 i4 l2 k2 32 [(.int .i64 c0.1.verdict),(.slice q1 c0.1.plan.length r1),(.int .i64 c0.1.cost),(.int .i64 c0.1.expanded)]:=f0
  refine Au rfl rfl (o_z ?_)
  refine Al (Al (Aj (Am rfl rfl (Eh rfl rfl (fun y1=>?_) fun y1=>?_))))
  ·
   replace hm:=ip hm y1
   refine o_z ?_
   refine Ah rfl (Al (Aj (CF rfl rfl rfl ?_)))
   refine Am rfl rfl ?_
   replace e0:=(((((e0.st c1).st w0).st y0).st e1).st g0).st h0
   refine AT e0 rfl rfl rfl (Nat.le_of_ble_eq_true rfl) (by first|exact allOne rfl|simp [Value.cells,Value.oneCell',AO]) fun n2 j4 e0=>?_
   replace e0:Lc 3 n2 l2 v1 32 [(.int .i64 0),(.slice none 0 0),(.int .i64 0),(.int .i64 0)]:=e0
   refine Au rfl rfl (Au rfl rfl (o_z ?_))
   refine AK ?_
   obtain rfl:=sm hm
   replace hB:=((((((((hB.st p1).st l1).st c1).st w0).st y0).st e1).st g0).st h0).st j4
   exact ret3 rfl (Cd (cs:=[(.int .i64 0),(.slice none 0 0),(.int .i64 0),(.int .i64 0)]) rfl rfl e0.1.cellsAt) (AC rfl) (AC rfl) ⟨hB.ext,_,_,_,rfl,(Vb.mono (F:=Fr 0 n2 l2) (Vb.ofAgg (cs:=[(.int .i64 0),(.slice none 0 0),(.int .i64 0),(.int .i64 0)]) (x:=(⟨0,([]:List Int),0,0⟩:Rsl)) rfl ⟨_,rfl,(Vb.nil _ _),(show inI64 0 from by decide),(show inI64 0 from by decide),(show inI64 0 from by decide)⟩) hB.out),(vInt (show inI64 (0) from by decide)),(vErr p7)⟩
  ·
   replace hm:=im hm y1
   refine o_z ?_
   refine Ae rfl (AM (Al (Al (Aj (AH rfl rfl (AF (hc:=Blk.cell (i:=0) (f0.1) rfl) rfl rfl ?_))))))
   refine Ho rfl rfl rfl (fun z1=>?_) fun z1=>?_
   ·
    replace hm:=ip hm z1
    refine o_z ?_
    refine Ah rfl (Al (Aj (BA (hl:=rfl) (hc:=(f0.1).cellsAt) rfl rfl ?_)))
    replace e0:=(((((e0.st c1).st w0).st y0).st e1).st g0).st h0
    refine AT e0 rfl rfl rfl (Nat.le_of_ble_eq_true rfl) (by first|exact allOne rfl|simp [Value.cells,Value.oneCell',AO]) fun o2 p2 e0=>?_
    replace e0:Lc 3 o2 l2 v1 32 [(.int .i64 c0.1.verdict),(.slice q1 c0.1.plan.length r1),(.int .i64 c0.1.cost),(.int .i64 c0.1.expanded)]:=e0
    refine Au rfl rfl (Au rfl rfl (o_z ?_))
    refine AK ?_
    obtain rfl:=sm hm
    replace hB:=((((((((hB.st p1).st l1).st c1).st w0).st y0).st e1).st g0).st h0).st p2
    replace b1:=((b1.st g0).st h0).st p2
    exact ret3 rfl (Cd (cs:=[(.int .i64 c0.1.verdict),(.slice q1 c0.1.plan.length r1),(.int .i64 c0.1.cost),(.int .i64 c0.1.expanded)]) rfl rfl e0.1.cellsAt) (AC rfl) (AC rfl) ⟨hB.ext,_,_,_,rfl,(Vb.mono (F:=Fr 0 o2 l2) (Vb.ofAgg (cs:=[(.int .i64 c0.1.verdict),(.slice q1 c0.1.plan.length r1),(.int .i64 c0.1.cost),(.int .i64 c0.1.expanded)]) (x:=c0.1) rfl ⟨_,rfl,b1,p6,q6,r6⟩) hB.out),(vInt (show inI64 (0) from by decide)),(vErr (show inI64 0 from by decide))⟩
   ·
    replace hm:=im hm z1
    refine o_z ?_
    refine Ae rfl (AM (Al (Aj (Au rfl rfl (o_z ?_)))))
    refine Al (Aj (Au rfl rfl (o_z ?_)))
    refine Al (Al (Aj (AH rfl rfl (AF (hc:=Blk.cell (i:=1) (f0.1) rfl) rfl rfl ?_))))
    refine AQ rfl rfl ?_
    replace b1:=(b1.st g0).st h0
    have a2:c0.1.plan.length≤9223372036854775807:=Nat.le_trans b1.len.2.1 b1.len.2.2
    have q7:inI64 (c0.1.plan.length:Int):=rngNat a2
    refine Am rfl rfl (o_z ?_)
    obtain ⟨b2,q2,hm⟩:=bs hm
    refine AN (aft b2 (fun (j0:(List Int)×(List ByteArray)) (d0:(Option Addr×Nat)×(Option Addr×Nat))=>[(1,(.slice v3 x1.length w3)),(8,(.pointer (some ⟨v1,0,none⟩))),(14,(.pointer (some ⟨k2,0,none⟩))),(15,(.slice d0.1.1 j0.1.length d0.1.2)),(16,(.slice d0.2.1 j0.2.length d0.2.2))]) (fun j0 d0 w'=>∃ O':Lab,Bs w A w' O'∧Vb w' (Fr 0 w' O') (.slice v3 x1.length w3) x1∧Lc 3 w' O' v1 32 [(.int .i64 0),(.slice none 0 0),(.int .i64 0),(.int .i64 0)]∧Lc 5 w' O' k2 32 [(.int .i64 c0.1.verdict),(.slice q1 c0.1.plan.length r1),(.int .i64 c0.1.cost),(.int .i64 c0.1.expanded)]∧Vb w' (Fr 0 w' O') (.slice q1 c0.1.plan.length r1) c0.1.plan∧Rw 7 w' O' 3 (.slice d0.1.1 j0.1.length d0.1.2) j0.1∧Rw 9 w' O' 9 (.slice d0.2.1 j0.2.length d0.2.2) j0.2)) ?_ ?_
    ·
     refine AP ?_
     replace hB:=(((((((hB.st p1).st l1).st c1).st w0).st y0).st e1).st g0).st h0
     replace v0:=(((((v0.st c1).st w0).st y0).st e1).st g0).st h0
     replace h1:=(((((h1.st c1).st w0).st y0).st e1).st g0).st h0
     replace i1:=(((((i1.st c1).st w0).st y0).st e1).st g0).st h0
     replace j1:=(((((j1.st c1).st w0).st y0).st e1).st g0).st h0
     replace g1:=(((((g1.st c1).st w0).st y0).st e1).st g0).st h0
     replace f1:=(((((f1.st c1).st w0).st y0).st e1).st g0).st h0
     replace e0:=(((((e0.st c1).st w0).st y0).st e1).st g0).st h0
     replace m1:=((((m1.st w0).st y0).st e1).st g0).st h0
     refine BM (σ:=(List Int)×(List ByteArray)) (X:=(Option Addr×Nat)×(Option Addr×Nat)) (c0.1.plan.length) q2 rfl a2 (fun (j0:(List Int)×(List ByteArray)) (d0:(Option Addr×Nat)×(Option Addr×Nat))=>[(1,(.slice v3 x1.length w3)),(4,(.pointer (some ⟨g4,0,none⟩))),(8,(.pointer (some ⟨v1,0,none⟩))),(12,(.slice m6 k1.2.1.length n6)),(14,(.pointer (some ⟨k2,0,none⟩))),(15,(.slice d0.1.1 j0.1.length d0.1.2)),(16,(.slice d0.2.1 j0.2.length d0.2.2)),(47,(.slice q1 c0.1.plan.length r1))]) _ (fun j0 d0 w'=>∃ O':Lab,Bs w A w' O'∧Vb w' (Fr 0 w' O') (.slice v3 x1.length w3) x1∧Lc 2 w' O' g4 26 [(.slice n3 x0.vars.length o3),(.slice p3 x0.init.length q3),(.slice r3 x0.goal.length s3),(.slice t3 x0.ops.length u3)]∧Vb w' (Fr 0 w' O') (.slice n3 x0.vars.length o3) x0.vars∧Vb w' (Fr 0 w' O') (.slice p3 x0.init.length q3) x0.init∧Vb w' (Fr 0 w' O') (.slice r3 x0.goal.length s3) x0.goal∧Vb w' (Fr 0 w' O') (.slice t3 x0.ops.length u3) x0.ops∧Lc 3 w' O' v1 32 [(.int .i64 0),(.slice none 0 0),(.int .i64 0),(.int .i64 0)]∧Vb w' (Fr 0 w' O') (.slice m6 k1.2.1.length n6) k1.2.1∧Lc 5 w' O' k2 32 [(.int .i64 c0.1.verdict),(.slice q1 c0.1.plan.length r1),(.int .i64 c0.1.cost),(.int .i64 c0.1.expanded)]∧Vb w' (Fr 0 w' O') (.slice q1 c0.1.plan.length r1) c0.1.plan∧Rw 7 w' O' 3 (.slice d0.1.1 j0.1.length d0.1.2) j0.1∧Rw 9 w' O' 9 (.slice d0.2.1 j0.2.length d0.2.2) j0.2) _ ((none,0),(none,0)) ⟨l2,hB,v0,f1,h1,i1,j1,g1,e0,m1,f0,b1,(Rw.nil 7 (by decide)),(Rw.nil 9 (by decide))⟩ ⟨rfl,rfl,rfl,rfl,rfl,rfl,rfl,rfl,rfl,rfl,trivial⟩ (fun _ _=>⟨rfl,rfl⟩) (fun _ _=>⟨rfl,rfl,rfl,rfl,rfl,trivial⟩) (fun _ _ _ ⟨O',hB,v0,f1,h1,i1,j1,g1,e0,m1,f0,b1,i0,k0⟩=>⟨O',hB,v0,e0,f0,b1,i0,k0⟩) ⟨rfl,rfl,rfl⟩ ⟨rfl,rfl⟩ ?_
     rintro k4 r7 j0 d0 s7 s6 w1 ⟨c2,hB,v0,f1,h1,i1,j1,g1,e0,m1,f0,b1,i0,k0⟩ b0 d4 e4
     have rk116:inI64 (k4:Int):=rngK w1 a2
     refine Al (Aj ?_)
     obtain ⟨t7,u7,t6,r2,s2,t2,rfl,w7⟩:=b1.elem' w1
     refine Bu (hA:=r2) (hj:=rfl) (hlt:=s2) rfl rfl rfl ?_
     refine AF (hc:=cat0 t2) rfl rfl ?_
     refine Au rfl rfl (o_z ?_)
     refine Al (Aj (Am rfl rfl (Am rfl rfl ?_)))
     obtain ⟨u2,l4,b0⟩:=bs b0
     obtain ⟨m4,n4⟩:=AR l4
     obtain ⟨x7,y7,u6,v2,w2,y2,rfl,z2⟩:=m1.elem' n4
     refine Bu (hA:=v2) (hj:=(Int.toNat_of_nonneg m4).symm) (hlt:=w2) rfl rfl rfl ?_
     refine AH rfl rfl (AF (hc:=cat0 y2) rfl rfl ?_)
     refine Au rfl rfl (o_z ?_)
     refine Al (Aj (Am rfl rfl (Gh rfl rfl rfl (fun d2=>?_) fun d2=>?_)))
     ·
      replace b0:=ip b0 d2
      refine o_z ?_
      refine Ah rfl ?_
      obtain ⟨e2,o4,b0⟩:=bs b0
      obtain ⟨z7,z0,b0⟩:=bs b0
      obtain ⟨a8,a1,b0⟩:=bs b0
      refine BC [(3,[7]),(12,[9])] c2 ?_
      refine AX (fuel:=13) [] [(0,true),(1,true)] (by kernel_rfl) rfl ?_
      refine AJ rfl rfl rfl (AJ rfl rfl rfl (AL ?_))
      refine AX (fuel:=6) [7] [(4,true),(5,true),(6,true),(7,true),(8,true),(9,true),(10,true)] (by kernel_rfl) rfl ?_
      refine AJ rfl rfl rfl (AY rfl rfl rfl (Bb (hc:=fun w' ⟨O',hq⟩=>Blk.cell (i:=3) ((f1.st hq (by decide)).1) rfl) rfl rfl rfl ?_))
      refine AJ rfl rfl rfl ?_
      obtain ⟨p4,q4⟩:=AR o4
      obtain ⟨b8,c8,w6,a3,b3,c3,d3,d8,e8,rfl,r4,s4,f8,f2⟩:=g1.elem q4
      obtain ⟨g8,h8,rfl⟩:=r4.form
      obtain ⟨i8,j8,rfl⟩:=s4.form
      refine BV (hA:=a3) (hj:=(Int.toNat_of_nonneg p4).symm) (hlt:=c3) rfl rfl rfl rfl ?_
      refine AY rfl rfl rfl (Bb (hc:=fun w' ⟨O',hq⟩=>cat0 (Bo (hq.agree (i:=0) (by decide)) b3 d3)) rfl rfl rfl ?_)
      refine AL ?_
      refine KE (i:=2) (j:=11) (by kernel_rfl) rfl rfl ?_ ?_
      ·
       refine Bq 6 (by decide) c2 (xs:=(([u2.op]:List Int):List Int)) rfl rfl rfl rfl ⟨(vInt z2),trivial⟩ (by decide) (by decide) rfl fun k8 l8 t4 a0 s1=>?_
       have hZ:=a0.lst [] (fun _ h=>h.elim)
       refine Bz [(3,[7]),(12,[9])] hZ (by kernel_rfl) ?_
       refine KE (i:=3) (j:=11) (by kernel_rfl) rfl rfl ?_ ?_
       ·
        obtain ⟨z0,u4,v4⟩:=AW z0
        replace i0:=i0.st a0
        refine BZ rfl i0 (s1.rd) rfl rfl (by decide) u4 v4 rfl fun w4 x4 m8 y4 r0 e3=>?_
        rw [← z0] at e3 ⊢
        have hZ:=r0.lst [7] (fun _ h=>by cases h;decide)
        refine Bz [(12,[9])] hZ (by kernel_rfl) ?_
        refine AZ (i:=11) (by kernel_rfl) rfl ?_
        refine Bq 8 (by decide) y4 (xs:=([e2.name]:List ByteArray)) rfl rfl rfl rfl ⟨(vStr f2),trivial⟩ (by decide) (by decide) rfl fun n8 o8 p8 n0 z4=>?_
        have hZ:=n0.lst [] (fun _ h=>h.elim)
        refine Bz [(12,[9])] hZ (by kernel_rfl) ?_
        refine AZ (i:=12) (by kernel_rfl) rfl ?_
        obtain ⟨a1,a5,b5⟩:=AW a1
        replace k0:=((k0.st a0).st r0).st n0
        refine BZ rfl k0 (z4.rd) rfl rfl (by decide) a5 b5 rfl fun c5 d5 q8 r8 s0 f3=>?_
        rw [← a1] at f3 ⊢
        have hZ:=s0.lst [9] (fun _ h=>by cases h;decide)
        refine Bz [] hZ (by kernel_rfl) ?_
        refine AX (fuel:=0) [] [(13,true),(14,true)] (by kernel_rfl) rfl ?_
        refine CL rfl rfl rfl (CL rfl rfl rfl (AL ?_))
        refine Cv (by kernel_rfl) ?_
        obtain rfl:=sm b0
        refine (?_:Exists _)
        exact ⟨_,((w4,x4),(c5,d5)),rfl,⟨rfl,rfl,rfl,rfl,rfl,rfl,rfl,rfl,rfl,rfl,trivial⟩,_,(((hB.st a0).st r0).st n0).st s0,(((v0.st a0).st r0).st n0).st s0,(((f1.st a0).st r0).st n0).st s0,(((h1.st a0).st r0).st n0).st s0,(((i1.st a0).st r0).st n0).st s0,(((j1.st a0).st r0).st n0).st s0,(((g1.st a0).st r0).st n0).st s0,(((e0.st a0).st r0).st n0).st s0,(((m1.st a0).st r0).st n0).st s0,(((f0.st a0).st r0).st n0).st s0,(((b1.st a0).st r0).st n0).st s0,(e3.st n0).st s0,f3⟩
       ·
        refine Bq 8 (by decide) t4 (xs:=([e2.name]:List ByteArray)) rfl rfl rfl rfl ⟨(vStr f2),trivial⟩ (by decide) (by decide) rfl fun s8 t8 u8 l0 g2=>?_
        have hZ:=l0.lst [] (fun _ h=>h.elim)
        refine Bz [(3,[7]),(12,[9])] hZ (by kernel_rfl) ?_
        refine AZ (i:=3) (by kernel_rfl) rfl ?_
        obtain ⟨z0,e5,f5⟩:=AW z0
        replace i0:=(i0.st a0).st l0
        replace s1:=s1.st l0
        refine BZ rfl i0 (s1.rd) rfl rfl (by decide) e5 f5 rfl fun g5 h5 w8 x8 o0 g3=>?_
        rw [← z0] at g3 ⊢
        have hZ:=o0.lst [7] (fun _ h=>by cases h;decide)
        refine Bz [(12,[9])] hZ (by kernel_rfl) ?_
        refine AZ (i:=12) (by kernel_rfl) rfl ?_
        obtain ⟨a1,i5,j5⟩:=AW a1
        replace k0:=((k0.st a0).st l0).st o0
        replace g2:=g2.st o0
        refine BZ rfl k0 (g2.rd) rfl rfl (by decide) i5 j5 rfl fun k5 l5 y8 z8 t0 h3=>?_
        rw [← a1] at h3 ⊢
        have hZ:=t0.lst [9] (fun _ h=>by cases h;decide)
        refine Bz [] hZ (by kernel_rfl) ?_
        refine AX (fuel:=0) [] [(13,true),(14,true)] (by kernel_rfl) rfl ?_
        refine CL rfl rfl rfl (CL rfl rfl rfl (AL ?_))
        refine Cv (by kernel_rfl) ?_
        obtain rfl:=sm b0
        refine (?_:Exists _)
        exact ⟨_,((g5,h5),(k5,l5)),rfl,⟨rfl,rfl,rfl,rfl,rfl,rfl,rfl,rfl,rfl,rfl,trivial⟩,_,(((hB.st a0).st l0).st o0).st t0,(((v0.st a0).st l0).st o0).st t0,(((f1.st a0).st l0).st o0).st t0,(((h1.st a0).st l0).st o0).st t0,(((i1.st a0).st l0).st o0).st t0,(((j1.st a0).st l0).st o0).st t0,(((g1.st a0).st l0).st o0).st t0,(((e0.st a0).st l0).st o0).st t0,(((m1.st a0).st l0).st o0).st t0,(((f0.st a0).st l0).st o0).st t0,(((b1.st a0).st l0).st o0).st t0,g3.st t0,h3⟩
      ·
       refine Bq 8 (by decide) c2 (xs:=([e2.name]:List ByteArray)) rfl rfl rfl rfl ⟨(vStr f2),trivial⟩ (by decide) (by decide) rfl fun a9 b9 m5 p0 h2=>?_
       have hZ:=p0.lst [] (fun _ h=>h.elim)
       refine Bz [(3,[7]),(12,[9])] hZ (by kernel_rfl) ?_
       refine AZ (i:=2) (by kernel_rfl) rfl ?_
       refine Bq 6 (by decide) m5 (xs:=(([u2.op]:List Int):List Int)) rfl rfl rfl rfl ⟨(vInt z2),trivial⟩ (by decide) (by decide) rfl fun c9 d9 e9 m0 n5=>?_
       have hZ:=m0.lst [] (fun _ h=>h.elim)
       refine Bz [(3,[7]),(12,[9])] hZ (by kernel_rfl) ?_
       refine AZ (i:=3) (by kernel_rfl) rfl ?_
       obtain ⟨z0,o5,p5⟩:=AW z0
       replace i0:=(i0.st p0).st m0
       refine BZ rfl i0 (n5.rd) rfl rfl (by decide) o5 p5 rfl fun q5 r5 f9 g9 q0 i3=>?_
       rw [← z0] at i3 ⊢
       have hZ:=q0.lst [7] (fun _ h=>by cases h;decide)
       refine Bz [(12,[9])] hZ (by kernel_rfl) ?_
       refine AZ (i:=12) (by kernel_rfl) rfl ?_
       obtain ⟨a1,s5,t5⟩:=AW a1
       replace k0:=((k0.st p0).st m0).st q0
       replace h2:=(h2.st m0).st q0
       refine BZ rfl k0 (h2.rd) rfl rfl (by decide) s5 t5 rfl fun u5 v5 h9 i9 u0 j3=>?_
       rw [← a1] at j3 ⊢
       have hZ:=u0.lst [9] (fun _ h=>by cases h;decide)
       refine Bz [] hZ (by kernel_rfl) ?_
       refine AX (fuel:=0) [] [(13,true),(14,true)] (by kernel_rfl) rfl ?_
       refine CL rfl rfl rfl (CL rfl rfl rfl (AL ?_))
       refine Cv (by kernel_rfl) ?_
       obtain rfl:=sm b0
       refine (?_:Exists _)
       exact ⟨_,((q5,r5),(u5,v5)),rfl,⟨rfl,rfl,rfl,rfl,rfl,rfl,rfl,rfl,rfl,rfl,trivial⟩,_,(((hB.st p0).st m0).st q0).st u0,(((v0.st p0).st m0).st q0).st u0,(((f1.st p0).st m0).st q0).st u0,(((h1.st p0).st m0).st q0).st u0,(((i1.st p0).st m0).st q0).st u0,(((j1.st p0).st m0).st q0).st u0,(((g1.st p0).st m0).st q0).st u0,(((e0.st p0).st m0).st q0).st u0,(((m1.st p0).st m0).st q0).st u0,(((f0.st p0).st m0).st q0).st u0,(((b1.st p0).st m0).st q0).st u0,i3.st u0,j3⟩
     ·
      replace b0:=im b0 d2
      refine o_z ?_
      refine Ae rfl (AM ?_)
      obtain rfl:=sm b0
      refine (?_:Exists _)
      exact ⟨_,((d0.1.1,d0.1.2),(d0.2.1,d0.2.2)),rfl,⟨rfl,rfl,rfl,rfl,rfl,rfl,rfl,rfl,rfl,rfl,trivial⟩,_,hB,v0,f1,h1,i1,j1,g1,e0,m1,f0,b1,i0,k0⟩
    replace hB:=(((((((hB.st p1).st l1).st c1).st w0).st y0).st e1).st g0).st h0
    replace v0:=(((((v0.st c1).st w0).st y0).st e1).st g0).st h0
    replace e0:=(((((e0.st c1).st w0).st y0).st e1).st g0).st h0
    rintro j9 k9 ⟨n1,d1,rfl,k3,t1,hB,v0,e0,f0,b1,i0,k0⟩
    replace hm:=Bc hm
    refine AS _ k3 ?_
    refine Al (Aj (Am rfl rfl (AH rfl rfl (AT f0 rfl rfl rfl (Nat.le_of_ble_eq_true rfl) (by first|exact allOne rfl|simp [Value.cells,Value.oneCell',AO]) fun i2 o1 f0=>?_))))
    replace f0:Lc 5 i2 t1 k2 32 [(.int .i64 c0.1.verdict),(.slice d1.1.1 n1.1.length d1.1.2),(.int .i64 c0.1.cost),(.int .i64 c0.1.expanded)]:=f0
    refine o_z ?_
    refine Al (BC [(4,[3])] t1 ?_)
    refine AX (fuel:=4) [] [(0,true),(1,true),(2,true)] (by kernel_rfl) rfl ?_
    refine Fx (hl:=rfl) (hb:=fun w' ⟨O',hq⟩=>((f0.st hq (by decide)).1).cellsAt) rfl rfl rfl ?_
    refine AJ rfl rfl rfl (AJ rfl rfl rfl (AL ?_))
    refine AZ (i:=3) (by kernel_rfl) rfl ?_
    obtain ⟨w5,x5,hm⟩:=bs hm
    replace v0:=v0.st o1
    replace k0:=k0.st o1
    refine BS (O:=t1) (A:=All i2) (R:=fun w' F v=>Vb w' F v w5) (JL (fun _ h=>h) (k0).all (Vb.mono (F:=Fr 0 i2 t1) v0 Fr.lt) x5) rfl rfl fun l9 m9 y5 u1 z5=>?_
    obtain ⟨rfl,a6⟩:=z5.int
    have hZ:=u1.lst [] (fun _ h=>h.elim)
    refine Bz [(4,[3])] hZ (by kernel_rfl) ?_
    refine AZ (i:=4) (by kernel_rfl) rfl ?_
    replace e0:=(e0.st o1).st u1
    refine AT e0 rfl rfl rfl (Nat.le_of_ble_eq_true rfl) (by first|exact allOne rfl|simp [Value.cells,Value.oneCell',AO]) fun l3 j2 e0=>?_
    replace e0:Lc 3 l3 y5 v1 32 [(.int .i64 c0.1.verdict),(.slice d1.1.1 n1.1.length d1.1.2),(.int .i64 c0.1.cost),(.int .i64 c0.1.expanded)]:=e0
    have hZ:=j2.lst [3] (fun _ h=>by cases h;decide)
    refine Bz [] hZ (by kernel_rfl) ?_
    refine AX (fuel:=0) [] [(5,true),(6,true)] (by kernel_rfl) rfl ?_
    refine CL rfl rfl rfl (CL rfl rfl rfl (AL ?_))
    refine Cv (by kernel_rfl) ?_
    refine AK ?_
    replace i0:=((i0.st o1).st u1).st j2
    obtain ⟨b6,m3,i0⟩:=i0.freeze
    obtain rfl:=sm hm
    replace hB:=(((hB.st o1).st u1).st j2).st m3
    replace e0:=e0.st m3
    exact ret3 rfl (Cd (cs:=[(.int .i64 c0.1.verdict),(.slice d1.1.1 n1.1.length d1.1.2),(.int .i64 c0.1.cost),(.int .i64 c0.1.expanded)]) rfl rfl e0.1.cellsAt) (AC rfl) (AC rfl) ⟨hB.ext,_,_,_,rfl,(Vb.mono (F:=Fr 0 l3 b6) (Vb.ofAgg (cs:=[(.int .i64 c0.1.verdict),(.slice d1.1.1 n1.1.length d1.1.2),(.int .i64 c0.1.cost),(.int .i64 c0.1.expanded)]) (x:=(⟨c0.1.verdict,n1.1,c0.1.cost,c0.1.expanded⟩:Rsl)) rfl ⟨_,rfl,i0,p6,q6,r6⟩) hB.out),(vInt a6),(vErr (show inI64 0 from by decide))⟩
noncomputable def Ec (x0:Tsk) (x1:List Int):Option (List ByteArray) :=
  bnd (rng (ρ:=(List ByteArray)) (fun (k33:Nat) (a34:Int) (s31:(List ByteArray))=>bnd (atI x0.ops a34) fun a56=>bnd (appI 16 s31 [a56.name]) fun u77=>some (.next u77)) x1 0 ([]:List ByteArray)) fun res29=>fin res29 fun (s93:(List ByteArray))=>some s93
theorem IF {w:World} {A:Nat→Prop} (hA:∀ k,A k→k < w.heap.size) {vx0:Value} {x0:Tsk} (n0:Vb w A vx0 x0) {vx1:Value} {x1:List Int} (a0:Vb w A vx1 x1) {r:(List ByteArray)} (hm:Ec x0 x1=some r) :
    Fn Tryz.prog 17 [vx0,vx1] w fun v w'=>Ext w w'∧Vb w' (upA A w w') v r:=by
 obtain ⟨O,hB,j1⟩:=enter hA
 replace n0:=n0.mono j1
 obtain ⟨i2,rfl,v4,v5,v6,v7,rfl,h8,f0,g0,e0⟩:=n0
 obtain ⟨A9,o0,rfl⟩:=h8.form
 obtain ⟨p0,q0,rfl⟩:=f0.form
 obtain ⟨r0,s0,rfl⟩:=g0.form
 obtain ⟨t0,u0,rfl⟩:=e0.form
 replace a0:=a0.mono j1
 obtain ⟨k1,l1,rfl⟩:=a0.form
 refine AG Tryz.func17 rfl Tryz.ntmps17 rfl ?_
 unfold Ec at hm
 refine Al (Aj (DB 2 O rfl rfl fun v0 o1 m1 h0 i0=>?_))
 replace i0:Lc 2 o1 m1 v0 26 [(.slice A9 x0.vars.length o0),(.slice p0 x0.init.length q0),(.slice r0 x0.goal.length s0),(.slice t0 x0.ops.length u0)]:=i0
 refine Au rfl rfl (o_z ?_)
 refine Al (Aj (Au rfl rfl (o_z ?_)))
 refine Al (Al (Aj (Am rfl rfl (AQ rfl rfl ?_))))
 replace a0:=a0.st h0
 have w0:x1.length≤9223372036854775807:=Nat.le_trans a0.len.2.1 a0.len.2.2
 have j2:inI64 (x1.length:Int):=rngNat w0
 refine Am rfl rfl (o_z ?_)
 obtain ⟨l0,y0,hm⟩:=bs hm
 refine AN (aft l0 (fun (d0:(List ByteArray)) (b0:(Option Addr×Nat))=>[(5,(.slice b0.1 d0.length b0.2))]) (fun d0 b0 w'=>∃ O':Lab,Bs w A w' O'∧Rw 3 w' O' 9 (.slice b0.1 d0.length b0.2) d0)) ?_ ?_
 ·
  refine AP ?_
  replace hB:=hB.st h0
  replace h8:=h8.st h0
  replace f0:=f0.st h0
  replace g0:=g0.st h0
  replace e0:=e0.st h0
  refine BM (σ:=(List ByteArray)) (X:=(Option Addr×Nat)) (x1.length) y0 rfl w0 (fun (d0:(List ByteArray)) (b0:(Option Addr×Nat))=>[(2,(.pointer (some ⟨v0,0,none⟩))),(5,(.slice b0.1 d0.length b0.2)),(8,(.slice k1 x1.length l1))]) _ (fun d0 b0 w'=>∃ O':Lab,Bs w A w' O'∧Lc 2 w' O' v0 26 [(.slice A9 x0.vars.length o0),(.slice p0 x0.init.length q0),(.slice r0 x0.goal.length s0),(.slice t0 x0.ops.length u0)]∧Vb w' (Fr 0 w' O') (.slice A9 x0.vars.length o0) x0.vars∧Vb w' (Fr 0 w' O') (.slice p0 x0.init.length q0) x0.init∧Vb w' (Fr 0 w' O') (.slice r0 x0.goal.length s0) x0.goal∧Vb w' (Fr 0 w' O') (.slice t0 x0.ops.length u0) x0.ops∧Rw 3 w' O' 9 (.slice b0.1 d0.length b0.2) d0∧Vb w' (Fr 0 w' O') (.slice k1 x1.length l1) x1) _ (none,0) ⟨m1,hB,i0,h8,f0,g0,e0,(Rw.nil 3 (by decide)),a0⟩ ⟨rfl,rfl,rfl,rfl,rfl,trivial⟩ (fun _ _=>⟨rfl,rfl⟩) (fun _ _=>⟨rfl,trivial⟩) (fun _ _ _ ⟨O',hB,i0,h8,f0,g0,e0,j0,a0⟩=>⟨O',hB,j0⟩) ⟨rfl,rfl,rfl⟩ ⟨rfl,rfl⟩ ?_
  rintro p1 k2 d0 b0 l2 q1 m0 ⟨m2,hB,i0,h8,f0,g0,e0,j0,a0⟩ c0 z0 a1
  have rk33:inI64 (p1:Int):=rngK m0 w0
  refine Al (Aj ?_)
  obtain ⟨n2,o2,r1,b1,c1,d1,rfl,p2⟩:=a0.elem' m0
  refine Bu (hA:=b1) (hj:=rfl) (hlt:=c1) rfl rfl rfl ?_
  refine AF (hc:=cat0 d1) rfl rfl ?_
  refine Au rfl rfl (o_z ?_)
  refine Aj (Am rfl rfl (AH rfl rfl (AF (hc:=Blk.cell (i:=3) (i0.1) rfl) rfl rfl ?_)))
  refine Am rfl rfl ?_
  obtain ⟨s1,t1,c0⟩:=bs c0
  obtain ⟨u1,v1⟩:=AR t1
  obtain ⟨q2,r2,w1,e1,f1,g1,s2,t2,rfl,y1,z1,u2,a2⟩:=e0.elem' v1
  obtain ⟨v2,w2,rfl⟩:=y1.form
  obtain ⟨x2,y2,rfl⟩:=z1.form
  refine Bu (hA:=e1) (hj:=(Int.toNat_of_nonneg u1).symm) (hlt:=f1) rfl rfl rfl ?_
  refine AH rfl rfl (AF (hc:=cat0 g1) rfl rfl ?_)
  obtain ⟨z2,h1,c0⟩:=bs c0
  obtain ⟨h1,b2,c2⟩:=AW h1
  refine CM rfl (a:=s1.name) j0 (vStr a2) (fun _=>rfl) rfl (by decide) (by decide) b2 c2 ⟨rfl,rfl⟩ fun a3 d2 e2 b3 c3 k0 n1=>?_
  rw [← h1] at n1 ⊢
  refine Au rfl rfl (o_z ?_)
  obtain rfl:=sm c0
  refine (?_:Exists _)
  exact ⟨_,(d2,e2),rfl,⟨rfl,rfl,rfl,rfl,rfl,trivial⟩,_,hB.st k0,i0.st k0,h8.st k0,f0.st k0,g0.st k0,e0.st k0,n1,a0.st k0⟩
 replace hB:=hB.st h0
 rintro d3 f2 ⟨e3,f3,rfl,i1,g3,hB,j0⟩
 replace hm:=Bc hm
 refine AS _ i1 ?_
 refine Al (Aj (Am rfl rfl (Au rfl rfl (o_z ?_))))
 refine AK ?_
 obtain ⟨g2,h2,j0⟩:=j0.freeze
 obtain rfl:=sm hm
 replace hB:=hB.st h2
 exact ret1v rfl (AC rfl) ⟨hB.ext,(Vb.mono (F:=Fr 0 f2 g2) j0 hB.out)⟩
noncomputable def DE  : Option Bool :=
  bnd (Cp (⟨([2]:List Int),([0]:List Int),[(⟨0,1⟩:Fct)],[(⟨(⟨#[97]⟩:ByteArray),3,([]:List Fct),[(⟨([]:List Fct),0,1⟩:Eff)]⟩:Opr)]⟩:Tsk) [(⟨#[97]⟩:ByteArray)] 5 100) fun q56=>bnd (if q56.2.2.n=0 then (if q56.2.1=0 then (if q56.1.verdict=1 then (if q56.1.cost=3 then (bnd (Gn q56.1.plan ([0]:List Int)) fun q100=>if q100=true then some true else some false) else (some false)) else (some false)) else (some false)) else (some false):Option Bool) fun y86=>some y86
theorem IG {w:World} {A:Nat→Prop} (hA:∀ k,A k→k < w.heap.size)  {r:Bool} (hm:DE  = some r) :
    Fn Tryz.prog 10 [] w fun v w'=>Ext w w'∧Vb w' (upA A w w') v r:=by
 obtain ⟨O,hB,s2⟩:=enter hA
 refine AG Tryz.func10 rfl Tryz.ntmps10 rfl ?_
 unfold DE at hm
 refine Al (Aj (Au rfl rfl (o_z ?_)))
 refine Al (Aj (Bq 2 (by decide) O (xs:=(([2]:List Int):List Int)) rfl rfl rfl rfl ⟨(vInt (show inI64 (2) from by decide)),trivial⟩ (by decide) (by decide) rfl fun g1 w2 O3 S4 h5=>?_))
 refine Bq 3 (by decide) O3 (xs:=(([0]:List Int):List Int)) rfl rfl rfl rfl ⟨(vInt (show inI64 (0) from by decide)),trivial⟩ (by decide) (by decide) rfl fun g7 w8 O9 n0 q0=>?_
 refine CF rfl rfl rfl ?_
 refine Bq 4 (by decide) O9 (xs:=([(⟨0,1⟩:Fct)]:List Fct)) rfl rfl rfl rfl ⟨(Vb.ofAgg (cs:=[(.int .i64 0),(.int .i64 1)]) (x:=(⟨0,1⟩:Fct)) rfl ⟨rfl,(show inI64 (0) from by decide),(show inI64 (1) from by decide)⟩),trivial⟩ (by decide) (by decide) rfl fun l1 t2 r1 m0 r0=>?_
 refine CF rfl rfl rfl ?_
 refine Bq 5 (by decide) r1 (xs:=([(⟨([]:List Fct),0,1⟩:Eff)]:List Eff)) rfl rfl rfl rfl ⟨(Vb.ofAgg (cs:=[(.slice none 0 0),(.int .i64 0),(.int .i64 1)]) (x:=(⟨([]:List Fct),0,1⟩:Eff)) rfl ⟨_,rfl,(Vb.nil _ _),(show inI64 (0) from by decide),(show inI64 (1) from by decide)⟩),trivial⟩ (by decide) (by decide) rfl fun s1 u2 v2 j0 c1=>?_
 refine CF rfl rfl rfl ?_
 obtain ⟨t1,k0,c1⟩:=c1.freeze
 refine Bq 6 (by decide) t1 (xs:=([(⟨(⟨#[97]⟩:ByteArray),3,([]:List Fct),[(⟨([]:List Fct),0,1⟩:Eff)]⟩:Opr)]:List Opr)) rfl rfl rfl rfl ⟨(Vb.ofAgg (cs:=[(.string (⟨#[97]⟩:ByteArray)),(.int .i64 3),(.slice none 0 0),(.slice (some ⟨s1,0,none⟩) [(⟨([]:List Fct),0,1⟩:Eff)].length 1)]) (x:=(⟨(⟨#[97]⟩:ByteArray),3,([]:List Fct),[(⟨([]:List Fct),0,1⟩:Eff)]⟩:Opr)) rfl ⟨_,_,rfl,(Vb.nil _ _),c1,(show inI64 (3) from by decide),(show (⟨#[97]⟩:ByteArray).size≤9223372036854775807 from by decide)⟩),trivial⟩ (by decide) (by decide) rfl fun m1 x2 u1 l0 s0=>?_
 refine CF rfl rfl rfl ?_
 refine Cj 7 u1 rfl fun v1 y2 n1 b0 v0=>?_
 refine AT v0 rfl rfl rfl (Nat.le_of_ble_eq_true rfl) (by first|exact allOne rfl|simp [Value.cells,Value.oneCell',AO]) fun w1 c0 v0=>?_
 replace v0:Lc 7 w1 n1 v1 26 [(.slice (some ⟨g1,0,none⟩) ([2]:List Int).length 1),(.slice (some ⟨g7,0,none⟩) ([0]:List Int).length 1),(.slice (some ⟨l1,0,none⟩) [(⟨0,1⟩:Fct)].length 1),(.slice (some ⟨m1,0,none⟩) [(⟨(⟨#[97]⟩:ByteArray),3,([]:List Fct),[(⟨([]:List Fct),0,1⟩:Eff)]⟩:Opr)].length 1)]:=v0
 refine o_z ?_
 refine Al (Aj (BA (hl:=rfl) (hc:=(v0.1).cellsAt) rfl rfl ?_))
 refine Bq 8 (by decide) n1 (xs:=([(⟨#[97]⟩:ByteArray)]:List ByteArray)) rfl rfl rfl rfl ⟨(vStr (show (⟨#[97]⟩:ByteArray).size≤9223372036854775807 from by decide)),trivial⟩ (by decide) (by decide) rfl fun z2 a3 b3 d0 w0=>?_
 replace h5:=(((((((h5.st n0).st m0).st j0).st k0).st l0).st b0).st c0).st d0
 obtain ⟨c3,e0,h5⟩:=h5.freeze
 replace q0:=(((((((q0.st m0).st j0).st k0).st l0).st b0).st c0).st d0).st e0
 obtain ⟨d3,f0,q0⟩:=q0.freeze
 replace r0:=(((((((r0.st j0).st k0).st l0).st b0).st c0).st d0).st e0).st f0
 obtain ⟨e3,g0,r0⟩:=r0.freeze
 replace s0:=(((((s0.st b0).st c0).st d0).st e0).st f0).st g0
 obtain ⟨f3,h0,s0⟩:=s0.freeze
 replace w0:=(((w0.st e0).st f0).st g0).st h0
 obtain ⟨x1,i0,w0⟩:=w0.freeze
 obtain ⟨x0,y1,hm⟩:=bs hm
 replace h5:=(((h5.st f0).st g0).st h0).st i0
 replace q0:=((q0.st g0).st h0).st i0
 replace r0:=(r0.st h0).st i0
 replace s0:=s0.st i0
 refine De (O:=x1) (R:=fun w' F v=>T3 w' F v x0) (Hw Fr.lt (Vb.ofAgg (cs:=[(.slice (some ⟨g1,0,none⟩) ([2]:List Int).length 1),(.slice (some ⟨g7,0,none⟩) ([0]:List Int).length 1),(.slice (some ⟨l1,0,none⟩) [(⟨0,1⟩:Fct)].length 1),(.slice (some ⟨m1,0,none⟩) [(⟨(⟨#[97]⟩:ByteArray),3,([]:List Fct),[(⟨([]:List Fct),0,1⟩:Eff)]⟩:Opr)].length 1)]) (x:=(⟨([2]:List Int),([0]:List Int),[(⟨0,1⟩:Fct)],[(⟨(⟨#[97]⟩:ByteArray),3,([]:List Fct),[(⟨([]:List Fct),0,1⟩:Eff)]⟩:Opr)]⟩:Tsk)) rfl ⟨_,_,_,_,rfl,h5,q0,r0,s0⟩) w0 (show inI64 (5) from by decide) (show inI64 (100) from by decide) y1) rfl rfl fun g3 h3 z1 t0 a2=>?_
 obtain ⟨i3,j3,k3,rfl,b2,c2,d2⟩:=a2
 obtain ⟨e2,rfl,l3,rfl,b1,m3,n3,o3⟩:=b2
 obtain ⟨f2,g2,rfl⟩:=b1.form
 obtain ⟨rfl,p3⟩:=c2.int
 obtain ⟨rfl,q3⟩:=d2.err
 refine Am rfl rfl (BB rfl rfl rfl (BB rfl rfl rfl (BB rfl rfl rfl (Cj 9 z1 rfl fun h2 r3 o1 o0 u0=>?_))))
 refine AT u0 rfl rfl rfl (Nat.le_of_ble_eq_true rfl) (by first|exact allOne rfl|simp [Value.cells,Value.oneCell',AO]) fun i2 p0 u0=>?_
 replace u0:Lc 9 i2 o1 h2 32 [(.int .i64 x0.1.verdict),(.slice f2 x0.1.plan.length g2),(.int .i64 x0.1.cost),(.int .i64 x0.1.expanded)]:=u0
 refine Au rfl rfl (Au rfl rfl (o_z ?_))
 refine Al ?_
 obtain ⟨j2,a0,hm⟩:=bs hm
 refine AN (fun l' w'=>∃ (k2:Unit) (O':Lab),subs l' [(0,(.bool j2))]∧Bs w A w' O') ?_ ?_
 ·
  refine Aj (Am rfl rfl (Sq rfl rfl (fun d1=>?_) fun d1=>?_))
  ·
   replace a0:=ip a0 d1
   refine Am rfl rfl (Az rfl rfl (Am rfl rfl (Az rfl rfl (Gi rfl rfl rfl (fun e1=>?_) fun e1=>?_))))
   ·
    replace a0:=ip a0 e1
    refine Bl rfl rfl rfl (Am rfl rfl (Az rfl rfl (AH rfl rfl (Az rfl rfl (AF (hc:=Blk.cell (i:=0) (u0.1) rfl) rfl rfl ?_)))))
    refine Az rfl rfl (Gi rfl rfl rfl (fun f1=>?_) fun f1=>?_)
    ·
     replace a0:=ip a0 f1
     refine Bl rfl rfl rfl (Am rfl rfl (Az rfl rfl (AH rfl rfl (Az rfl rfl (AF (hc:=Blk.cell (i:=2) (u0.1) rfl) rfl rfl ?_)))))
     refine Az rfl rfl (Gi rfl rfl rfl (fun h1=>?_) fun h1=>?_)
     ·
      replace a0:=ip a0 h1
      refine Bl rfl rfl rfl (Am rfl rfl (Az rfl rfl (AH rfl rfl (Az rfl rfl (AF (hc:=Blk.cell (i:=1) (u0.1) rfl) rfl rfl ?_)))))
      refine Az rfl rfl (Bq 10 (by decide) o1 (xs:=(([0]:List Int):List Int)) rfl rfl rfl rfl ⟨(vInt (show inI64 (0) from by decide)),trivial⟩ (by decide) (by decide) rfl fun s3 p1 q1 i1 l2=>?_)
      refine Az rfl rfl ?_
      obtain ⟨y0,j1,a0⟩:=bs a0
      replace b1:=((b1.st o0).st p0).st i1
      refine BS (O:=q1) (A:=All p1) (R:=fun w' F v=>Vb w' F v y0) (MX (fun _ h=>h) (Vb.mono (F:=Fr 0 p1 q1) b1 Fr.lt) (l2).all j1) rfl rfl fun m2 n2 o2 z0 k1=>?_
      obtain rfl:=k1.bool
      cases y0
      case false =>
       replace a0:=iF a0
       refine Bl rfl rfl rfl (Au rfl rfl (o_z ?_))
       obtain rfl:=sm a0
       exact ⟨(),_,⟨rfl,trivial⟩,((((((((((((((((((hB.st S4).st n0).st m0).st j0).st k0).st l0).st b0).st c0).st d0).st e0).st f0).st g0).st h0).st i0).st t0).st o0).st p0).st i1).st z0⟩
      replace a0:=iT a0
      refine Bl rfl rfl rfl (Au rfl rfl (o_z ?_))
      obtain rfl:=sm a0
      exact ⟨(),_,⟨rfl,trivial⟩,((((((((((((((((((hB.st S4).st n0).st m0).st j0).st k0).st l0).st b0).st c0).st d0).st e0).st f0).st g0).st h0).st i0).st t0).st o0).st p0).st i1).st z0⟩
     ·
      replace a0:=im a0 h1
      refine Bl rfl rfl rfl (Am rfl rfl (Aw rfl rfl rfl rfl (Aw rfl rfl rfl rfl (Aw rfl rfl rfl rfl (Aw rfl rfl rfl rfl (Be rfl rfl rfl (Au rfl rfl (o_z ?_))))))))
      obtain rfl:=sm a0
      exact ⟨(),_,⟨rfl,trivial⟩,((((((((((((((((hB.st S4).st n0).st m0).st j0).st k0).st l0).st b0).st c0).st d0).st e0).st f0).st g0).st h0).st i0).st t0).st o0).st p0⟩
    ·
     replace a0:=im a0 f1
     refine Bl rfl rfl rfl (Am rfl rfl (Aw rfl rfl rfl rfl (Aw rfl rfl rfl rfl (Aw rfl rfl rfl rfl (Be rfl rfl rfl (Am rfl rfl (Aw rfl rfl rfl rfl (Aw rfl rfl rfl rfl (Aw rfl rfl rfl rfl (Aw rfl rfl rfl rfl (Be rfl rfl rfl (Au rfl rfl (o_z ?_)))))))))))))
     obtain rfl:=sm a0
     exact ⟨(),_,⟨rfl,trivial⟩,((((((((((((((((hB.st S4).st n0).st m0).st j0).st k0).st l0).st b0).st c0).st d0).st e0).st f0).st g0).st h0).st i0).st t0).st o0).st p0⟩
   ·
    replace a0:=im a0 e1
    refine Bl rfl rfl rfl (Am rfl rfl (Aw rfl rfl rfl rfl (Aw rfl rfl rfl rfl (Aw rfl rfl rfl rfl (Be rfl rfl rfl (Am rfl rfl (Aw rfl rfl rfl rfl (Aw rfl rfl rfl rfl (Aw rfl rfl rfl rfl (Be rfl rfl rfl (Am rfl rfl (Aw rfl rfl rfl rfl (Aw rfl rfl rfl rfl (Aw rfl rfl rfl rfl ?_))))))))))))))
    refine Aw rfl rfl rfl rfl (Be rfl rfl rfl (Au rfl rfl (o_z ?_)))
    obtain rfl:=sm a0
    exact ⟨(),_,⟨rfl,trivial⟩,((((((((((((((((hB.st S4).st n0).st m0).st j0).st k0).st l0).st b0).st c0).st d0).st e0).st f0).st g0).st h0).st i0).st t0).st o0).st p0⟩
  ·
   replace a0:=im a0 d1
   refine Am rfl rfl (Aw rfl rfl rfl rfl (Aw rfl rfl rfl rfl (Be rfl rfl rfl (Am rfl rfl (Aw rfl rfl rfl rfl (Aw rfl rfl rfl rfl (Aw rfl rfl rfl rfl (Be rfl rfl rfl (Am rfl rfl (Aw rfl rfl rfl rfl (Aw rfl rfl rfl rfl (Aw rfl rfl rfl rfl (Be rfl rfl rfl (Am rfl rfl ?_))))))))))))))
   refine Aw rfl rfl rfl rfl (Aw rfl rfl rfl rfl (Aw rfl rfl rfl rfl (Aw rfl rfl rfl rfl (Be rfl rfl rfl (Au rfl rfl (o_z ?_))))))
   obtain rfl:=sm a0
   exact ⟨(),_,⟨rfl,trivial⟩,((((((((((((((((hB.st S4).st n0).st m0).st j0).st k0).st l0).st b0).st c0).st d0).st e0).st f0).st g0).st h0).st i0).st t0).st o0).st p0⟩
 replace hB:=((((((((((((((((hB.st S4).st n0).st m0).st j0).st k0).st l0).st b0).st c0).st d0).st e0).st f0).st g0).st h0).st i0).st t0).st o0).st p0
 rintro p2 q2 ⟨k2,r2,a1,hB⟩
 refine AS _ a1 ?_
 refine AK ?_
 obtain rfl:=sm hm
 exact ret1v rfl (AC rfl) ⟨hB.ext,vBool⟩
noncomputable def DM (x0:Tsk) (x1:List Int):Option (List Int) :=
  bnd (rng (ρ:=(List Int)) (fun (k33:Nat) (a34:Int) (s31:(List Int))=>bnd (if 0≤a34 then (if a34 < (x0.ops.length:Int) then (some true) else (some false)) else (some false):Option Bool) fun y56=>if y56=true then (bnd (appI 8 s31 [a34]) fun u69=>some (.next u69)) else (some (.next s31))) x1 0 ([]:List Int)) fun res29=>fin res29 fun (s85:(List Int))=>some s85
theorem HT {w:World} {A:Nat→Prop} (hA:∀ k,A k→k < w.heap.size) {vx0:Value} {x0:Tsk} (z0:Vb w A vx0 x0) {vx1:Value} {x1:List Int} (d0:Vb w A vx1 x1) {r:(List Int)} (hm:DM x0 x1=some r) :
    Fn Tryz.prog 19 [vx0,vx1] w fun v w'=>Ext w w'∧Vb w' (upA A w w') v r:=by
 obtain ⟨O,hB,n1⟩:=enter hA
 replace z0:=z0.mono n1
 obtain ⟨h2,rfl,v4,v5,v6,v7,rfl,h8,g0,h0,e0⟩:=z0
 obtain ⟨A9,m0,rfl⟩:=h8.form
 obtain ⟨n0,o0,rfl⟩:=g0.form
 obtain ⟨p0,q0,rfl⟩:=h0.form
 obtain ⟨r0,s0,rfl⟩:=e0.form
 replace d0:=d0.mono n1
 obtain ⟨w0,y0,rfl⟩:=d0.form
 refine AG Tryz.func19 rfl Tryz.ntmps19 rfl ?_
 unfold DM at hm
 refine Al (Aj (DB 2 O rfl rfl fun t0 s1 o1 k0 i0=>?_))
 replace i0:Lc 2 s1 o1 t0 26 [(.slice A9 x0.vars.length m0),(.slice n0 x0.init.length o0),(.slice p0 x0.goal.length q0),(.slice r0 x0.ops.length s0)]:=i0
 refine Au rfl rfl (o_z ?_)
 refine Al (Aj (Au rfl rfl (o_z ?_)))
 refine Al (Al (Aj (Am rfl rfl (AQ rfl rfl ?_))))
 replace d0:=d0.st k0
 have a1:x1.length≤9223372036854775807:=Nat.le_trans d0.len.2.1 d0.len.2.2
 have i2:inI64 (x1.length:Int):=rngNat a1
 refine Am rfl rfl (o_z ?_)
 obtain ⟨u0,b1,hm⟩:=bs hm
 refine AN (aft u0 (fun (f0:(List Int)) (c0:(Option Addr×Nat))=>[(5,(.slice c0.1 f0.length c0.2))]) (fun f0 c0 w'=>∃ O':Lab,Bs w A w' O'∧Rw 3 w' O' 3 (.slice c0.1 f0.length c0.2) f0)) ?_ ?_
 ·
  refine AP ?_
  replace hB:=hB.st k0
  replace h8:=h8.st k0
  replace g0:=g0.st k0
  replace h0:=h0.st k0
  replace e0:=e0.st k0
  refine BM (σ:=(List Int)) (X:=(Option Addr×Nat)) (x1.length) b1 rfl a1 (fun (f0:(List Int)) (c0:(Option Addr×Nat))=>[(2,(.pointer (some ⟨t0,0,none⟩))),(5,(.slice c0.1 f0.length c0.2)),(8,(.slice w0 x1.length y0))]) _ (fun f0 c0 w'=>∃ O':Lab,Bs w A w' O'∧Lc 2 w' O' t0 26 [(.slice A9 x0.vars.length m0),(.slice n0 x0.init.length o0),(.slice p0 x0.goal.length q0),(.slice r0 x0.ops.length s0)]∧Vb w' (Fr 0 w' O') (.slice A9 x0.vars.length m0) x0.vars∧Vb w' (Fr 0 w' O') (.slice n0 x0.init.length o0) x0.init∧Vb w' (Fr 0 w' O') (.slice p0 x0.goal.length q0) x0.goal∧Vb w' (Fr 0 w' O') (.slice r0 x0.ops.length s0) x0.ops∧Rw 3 w' O' 3 (.slice c0.1 f0.length c0.2) f0∧Vb w' (Fr 0 w' O') (.slice w0 x1.length y0) x1) _ (none,0) ⟨o1,hB,i0,h8,g0,h0,e0,(Rw.nil 3 (by decide)),d0⟩ ⟨rfl,rfl,rfl,rfl,rfl,trivial⟩ (fun _ _=>⟨rfl,rfl⟩) (fun _ _=>⟨rfl,trivial⟩) (fun _ _ _ ⟨O',hB,i0,h8,g0,h0,e0,j0,d0⟩=>⟨O',hB,j0⟩) ⟨rfl,rfl,rfl⟩ ⟨rfl,rfl⟩ ?_
  rintro p1 q1 f0 c0 j2 t1 v0 ⟨k2,hB,i0,h8,g0,h0,e0,j0,d0⟩ b0 c1 d1
  have rk33:inI64 (p1:Int):=rngK v0 a1
  refine Al (Aj ?_)
  obtain ⟨l2,m2,u1,e1,f1,g1,rfl,v1⟩:=d0.elem' v0
  refine Bu (hA:=e1) (hj:=rfl) (hlt:=f1) rfl rfl rfl ?_
  refine AF (hc:=cat0 g1) rfl rfl ?_
  refine Au rfl rfl (o_z ?_)
  refine Al ?_
  obtain ⟨w1,a0,b0⟩:=bs b0
  refine AN (fun l' w'=>∃ (y1:Unit) (O':Lab),subs l' [(2,(.pointer (some ⟨t0,0,none⟩))),(5,(.slice c0.1 f0.length c0.2)),(7,(.int .i64 q1)),(8,(.slice w0 x1.length y0)),(9,(.int .i64 (x1.length:Int))),(10,(.int .i64 (p1:Int))),(22,(.bool w1))]∧Bs w A w' O'∧Lc 2 w' O' t0 26 [(.slice A9 x0.vars.length m0),(.slice n0 x0.init.length o0),(.slice p0 x0.goal.length q0),(.slice r0 x0.ops.length s0)]∧Vb w' (Fr 0 w' O') (.slice A9 x0.vars.length m0) x0.vars∧Vb w' (Fr 0 w' O') (.slice n0 x0.init.length o0) x0.init∧Vb w' (Fr 0 w' O') (.slice p0 x0.goal.length q0) x0.goal∧Vb w' (Fr 0 w' O') (.slice r0 x0.ops.length s0) x0.ops∧Rw 3 w' O' 3 (.slice c0.1 f0.length c0.2) f0∧Vb w' (Fr 0 w' O') (.slice w0 x1.length y0) x1) ?_ ?_
  ·
   refine Aj (Am rfl rfl (Gh rfl rfl rfl (fun h1=>?_) fun h1=>?_))
   ·
    replace a0:=ip a0 h1
    refine Am rfl rfl (Az rfl rfl (Am rfl rfl (Az rfl rfl (AH rfl rfl (Az rfl rfl (AF (hc:=Blk.cell (i:=3) (i0.1) rfl) rfl rfl ?_))))))
    refine Az rfl rfl (AQ rfl rfl ?_)
    have z1:x0.ops.length≤9223372036854775807:=Nat.le_trans e0.len.2.1 e0.len.2.2
    have n2:inI64 (x0.ops.length:Int):=rngNat z1
    refine Az rfl rfl (Ef rfl rfl rfl (fun i1=>?_) fun i1=>?_)
    ·
     replace a0:=ip a0 i1
     refine Bl rfl rfl rfl (o_z ?_)
     obtain rfl:=sm a0
     exact ⟨(),_,⟨rfl,rfl,rfl,rfl,rfl,rfl,rfl,trivial⟩,hB,i0,h8,g0,h0,e0,j0,d0⟩
    ·
     replace a0:=im a0 i1
     refine Bl rfl rfl rfl (o_z ?_)
     obtain rfl:=sm a0
     exact ⟨(),_,⟨rfl,rfl,rfl,rfl,rfl,rfl,rfl,trivial⟩,hB,i0,h8,g0,h0,e0,j0,d0⟩
   ·
    replace a0:=im a0 h1
    refine Am rfl rfl (Aw rfl rfl rfl rfl (Aw rfl rfl rfl rfl (Aw rfl rfl rfl rfl (Aw rfl rfl rfl rfl (Aw rfl rfl rfl rfl (Be rfl rfl rfl (o_z ?_)))))))
    obtain rfl:=sm a0
    exact ⟨(),_,⟨rfl,rfl,rfl,rfl,rfl,rfl,rfl,trivial⟩,hB,i0,h8,g0,h0,e0,j0,d0⟩
  rintro o2 p2 ⟨y1,q2,j1,hB,i0,h8,g0,h0,e0,j0,d0⟩
  refine AS _ j1 ?_
  refine CB rfl (fun k1=>?_) (fun k1=>?_)
  ·
   replace b0:=ip b0 k1
   refine Aj (Am rfl rfl (Am rfl rfl ?_))
   obtain ⟨r2,l1,b0⟩:=bs b0
   obtain ⟨l1,a2,b2⟩:=AW l1
   refine CM rfl (a:=q1) j0 (vInt v1) (fun _=>rfl) rfl (by decide) (by decide) a2 b2 ⟨rfl,rfl⟩ fun s2 c2 d2 t2 u2 l0 r1=>?_
   rw [← l1] at r1 ⊢
   refine Au rfl rfl (o_z ?_)
   obtain rfl:=sm b0
   refine (?_:Exists _)
   exact ⟨_,(c2,d2),rfl,⟨rfl,rfl,rfl,rfl,rfl,trivial⟩,_,hB.st l0,i0.st l0,h8.st l0,g0.st l0,h0.st l0,e0.st l0,r1,d0.st l0⟩
  ·
   replace b0:=im' b0 k1
   refine AM ?_
   obtain rfl:=sm b0
   refine (?_:Exists _)
   exact ⟨_,(c0.1,c0.2),rfl,⟨rfl,rfl,rfl,rfl,rfl,trivial⟩,_,hB,i0,h8,g0,h0,e0,j0,d0⟩
 replace hB:=hB.st k0
 rintro v2 e2 ⟨w2,x2,rfl,m1,y2,hB,j0⟩
 replace hm:=Bc hm
 refine AS _ m1 ?_
 refine Al (Aj (Am rfl rfl (Au rfl rfl (o_z ?_))))
 refine AK ?_
 obtain ⟨f2,g2,j0⟩:=j0.freeze
 obtain rfl:=sm hm
 replace hB:=hB.st g2
 exact ret1v rfl (AC rfl) ⟨hB.ext,(Vb.mono (F:=Fr 0 e2 f2) j0 hB.out)⟩
noncomputable def Gs (x0:Int) (x1:Int) (x2:Int):Option Int :=
  some (max x1 (min x0 x2))
theorem Nm {w:World} {A:Nat→Prop} (hA:∀ k,A k→k < w.heap.size) {x0:Int} (rx0:inI64 x0) {x1:Int} (rx1:inI64 x1) {x2:Int} (rx2:inI64 x2) {r:Int} (hm:Gs x0 x1 x2=some r) :
    Fn Tryz.prog 18 [(.int .i64 x0),(.int .i64 x1),(.int .i64 x2)] w fun v w'=>Ext w w'∧Vb w' (upA A w w') v r:=by
 obtain ⟨O,hB,a0⟩:=enter hA
 refine AG Tryz.func18 rfl Tryz.ntmps18 rfl ?_
 unfold Gs at hm
 refine Al (Aj (Au rfl rfl (o_z ?_)))
 refine Al (Aj (Am rfl rfl (Am rfl rfl (Am rfl rfl (NW rfl rfl rfl ?_)))))
 refine NX rfl rfl rfl ?_
 refine Au rfl rfl (o_z ?_)
 refine AK ?_
 obtain rfl:=sm hm
 exact ret1v rfl (AC rfl) ⟨hB.ext,(vInt (rngMax rx1 (rngMin rx0 rx2)))⟩
noncomputable def Fv (x0:Tsk) (x1:List ByteArray):Option Bool :=
  bnd (bnd (Hf x0) fun q31=>if q31=true then if (x0.ops.length:Int)≤10 then (if (x1.length:Int)≤6 then (bnd (Ft x0.vars 81) fun q44=>if q44≤81 then (some true) else (some false)) else (some false)) else (some false) else some false:Option Bool) fun y27=>some y27
theorem Nn {w:World} {A:Nat→Prop} (hA:∀ k,A k→k < w.heap.size) {vx0:Value} {x0:Tsk} (i0:Vb w A vx0 x0) {vx1:Value} {x1:List ByteArray} (e0:Vb w A vx1 x1) {r:Bool} (hm:Fv x0 x1=some r) :
    Fn Tryz.prog 8 [vx0,vx1] w fun v w'=>Ext w w'∧Vb w' (upA A w w') v r:=by
 obtain ⟨O,hB,p0⟩:=enter hA
 replace i0:=i0.mono p0
 obtain ⟨m1,rfl,v4,v5,v6,v7,rfl,h8,g0,h0,d0⟩:=i0
 obtain ⟨A9,q0,rfl⟩:=h8.form
 obtain ⟨r0,s0,rfl⟩:=g0.form
 obtain ⟨t0,u0,rfl⟩:=h0.form
 obtain ⟨v0,w0,rfl⟩:=d0.form
 replace e0:=e0.mono p0
 obtain ⟨n1,o1,rfl⟩:=e0.form
 refine AG Tryz.func8 rfl Tryz.ntmps8 rfl ?_
 unfold Fv at hm
 refine Al (Aj (DB 2 O rfl rfl fun c1 j0 k0 b0 f0=>?_))
 replace f0:Lc 2 j0 k0 c1 26 [(.slice A9 x0.vars.length q0),(.slice r0 x0.init.length s0),(.slice t0 x0.goal.length u0),(.slice v0 x0.ops.length w0)]:=f0
 refine Au rfl rfl (o_z ?_)
 refine Al ?_
 obtain ⟨d1,a0,hm⟩:=bs hm
 refine AN (fun l' w'=>∃ (e1:Unit) (O':Lab),subs l' [(4,(.bool d1))]∧Bs w A w' O') ?_ ?_
 ·
  refine Aj (BA (hl:=rfl) (hc:=(f0.1).cellsAt) rfl rfl ?_)
  obtain ⟨y0,f1,a0⟩:=bs a0
  replace h8:=h8.st b0
  replace g0:=g0.st b0
  replace h0:=h0.st b0
  replace d0:=d0.st b0
  refine BS (O:=k0) (A:=All j0) (R:=fun w' F v=>Vb w' F v y0) (Mp (fun _ h=>h) (Vb.mono (F:=Fr 0 j0 k0) (Vb.ofAgg (cs:=[(.slice A9 x0.vars.length q0),(.slice r0 x0.init.length s0),(.slice t0 x0.goal.length u0),(.slice v0 x0.ops.length w0)]) (x:=x0) rfl ⟨_,_,_,_,rfl,h8,g0,h0,d0⟩) Fr.lt) f1) rfl rfl fun p1 z0 a1 c0 g1=>?_
  obtain rfl:=g1.bool
  cases y0
  case false =>
   replace a0:=iF a0
   refine Am rfl rfl (Aw rfl rfl rfl rfl (Aw rfl rfl rfl rfl (Aw rfl rfl rfl rfl (Aw rfl rfl rfl rfl (Be rfl rfl rfl (Am rfl rfl (Aw rfl rfl rfl rfl (Aw rfl rfl rfl rfl (Aw rfl rfl rfl rfl (Be rfl rfl rfl (Am rfl rfl (Aw rfl rfl rfl rfl (Aw rfl rfl rfl rfl (Aw rfl rfl rfl rfl ?_))))))))))))))
   refine Aw rfl rfl rfl rfl (Be rfl rfl rfl (Au rfl rfl (o_z ?_)))
   obtain rfl:=sm a0
   exact ⟨(),_,⟨rfl,trivial⟩,(hB.st b0).st c0⟩
  replace a0:=iT a0
  refine Am rfl rfl (Az rfl rfl (AH rfl rfl (Az rfl rfl ?_)))
  replace f0:=f0.st c0
  refine AF (hc:=Blk.cell (i:=3) (f0.1) rfl) rfl rfl ?_
  refine Az rfl rfl (AQ rfl rfl ?_)
  replace d0:=d0.st c0
  have h1:x0.ops.length≤9223372036854775807:=Nat.le_trans d0.len.2.1 d0.len.2.2
  have q1:inI64 (x0.ops.length:Int):=rngNat h1
  refine Az rfl rfl (Kz rfl rfl rfl (fun l0=>?_) fun l0=>?_)
  ·
   replace a0:=ip a0 l0
   refine Bl rfl rfl rfl (Am rfl rfl (Az rfl rfl (Am rfl rfl (Az rfl rfl (AQ rfl rfl ?_)))))
   replace e0:=(e0.st b0).st c0
   have i1:x1.length≤9223372036854775807:=Nat.le_trans e0.len.2.1 e0.len.2.2
   have r1:inI64 (x1.length:Int):=rngNat i1
   refine Az rfl rfl (Kz rfl rfl rfl (fun m0=>?_) fun m0=>?_)
   ·
    replace a0:=ip a0 m0
    refine Bl rfl rfl rfl (Am rfl rfl (Az rfl rfl (AH rfl rfl (Az rfl rfl (AF (hc:=Blk.cell (i:=0) (f0.1) rfl) rfl rfl ?_)))))
    refine Az rfl rfl ?_
    obtain ⟨j1,k1,a0⟩:=bs a0
    replace h8:=h8.st c0
    refine BS (O:=a1) (A:=All z0) (R:=fun w' F v=>Vb w' F v j1) (Nk (fun _ h=>h) (Vb.mono (F:=Fr 0 z0 a1) h8 Fr.lt) (show inI64 (81) from by decide) k1) rfl rfl fun s1 t1 u1 b1 l1=>?_
    obtain ⟨rfl,v1⟩:=l1.int
    refine Az rfl rfl (Kz rfl rfl rfl (fun n0=>?_) fun n0=>?_)
    ·
     replace a0:=ip a0 n0
     refine Bl rfl rfl rfl (Au rfl rfl (o_z ?_))
     obtain rfl:=sm a0
     exact ⟨(),_,⟨rfl,trivial⟩,((hB.st b0).st c0).st b1⟩
    ·
     replace a0:=im a0 n0
     refine Bl rfl rfl rfl (Au rfl rfl (o_z ?_))
     obtain rfl:=sm a0
     exact ⟨(),_,⟨rfl,trivial⟩,((hB.st b0).st c0).st b1⟩
   ·
    replace a0:=im a0 m0
    refine Bl rfl rfl rfl (Am rfl rfl (Aw rfl rfl rfl rfl (Aw rfl rfl rfl rfl (Aw rfl rfl rfl rfl (Aw rfl rfl rfl rfl (Be rfl rfl rfl (Au rfl rfl (o_z ?_))))))))
    obtain rfl:=sm a0
    exact ⟨(),_,⟨rfl,trivial⟩,(hB.st b0).st c0⟩
  ·
   replace a0:=im a0 l0
   refine Bl rfl rfl rfl (Am rfl rfl (Aw rfl rfl rfl rfl (Aw rfl rfl rfl rfl (Aw rfl rfl rfl rfl (Be rfl rfl rfl (Am rfl rfl (Aw rfl rfl rfl rfl (Aw rfl rfl rfl rfl (Aw rfl rfl rfl rfl (Aw rfl rfl rfl rfl (Be rfl rfl rfl (Au rfl rfl (o_z ?_)))))))))))))
   obtain rfl:=sm a0
   exact ⟨(),_,⟨rfl,trivial⟩,(hB.st b0).st c0⟩
 replace hB:=hB.st b0
 rintro w1 y1 ⟨e1,z1,o0,hB⟩
 refine AS _ o0 ?_
 refine AK ?_
 obtain rfl:=sm hm
 exact ret1v rfl (AC rfl) ⟨hB.ext,vBool⟩
end
section
open Go Go.RowKit
attribute [local irreducible] ewp owp hwp hwq hws Ev Evg Fn retPost loud loudS Res1
attribute [local irreducible] hwx loudX hwz zNext
noncomputable def DY (x0:Tsk) (x1:List Int) (x2:Int):Option Bool :=
  bnd (bnd (Fv x0 ([]:List ByteArray)) fun q32=>if q32=true then if 6 < (x1.length:Int) then (some true) else (bnd (DE) fun q42=>if q42=true then some false else some true) else some true:Option Bool) fun y28=>if y28=true then (bnd (bnd (DE) fun q58=>if q58=true then some true else some false:Option Bool) fun y54=>some y54) else (bnd (Gs x2 0 1000) fun q69=>bnd (DM x0 x1) fun q77=>bnd (Fs x0 x0.init q77) fun q86=>bnd (if (!q86.2)=true then (some true) else (bnd (Fu x0) fun q103=>if q86.1≠q103 then (some true) else (some false)):Option Bool) fun y98=>if y98=true then (some true) else (bnd (DM x0 x1) fun q117=>bnd (Ec x0 q117) fun q126=>bnd (Cp x0 q126 q69 5000) fun q135=>if q135.2.2.n≠0 then (bnd (bnd (Gy (⟨q135.2.2.n⟩:Err) 1) fun q170=>if q170=true then some true else bnd (Gy (⟨q135.2.2.n⟩:Err) 5) fun q177=>if q177=true then some true else some false:Option Bool) fun y166=>some y166) else (bnd (if q135.1.verdict=1 then (if q135.1.cost=q86.1 then (if q69=0 then (some true) else (if q135.2.1=0 then (bnd (Ec x0 q135.1.plan) fun q196=>bnd (Fa q196 q126) fun q205=>if q205=true then some true else some false) else (some false))) else (some false)) else (some false):Option Bool) fun y188=>some y188)))
theorem IN {w:World} {A:Nat→Prop} (hA:∀ k,A k→k < w.heap.size) {vx0:Value} {x0:Tsk} (p2:Vb w A vx0 x0) {vx1:Value} {x1:List Int} (p0:Vb w A vx1 x1) {x2:Int} (rx2:inI64 x2) {r:Bool} (hm:DY x0 x1 x2=some r) :
    Fn Tryz.prog 5 [vx0,vx1,(.int .i64 x2)] w fun v w'=>Ext w w'∧Vb w' (upA A w w') v r:=by
 obtain ⟨O,hB,f4⟩:=enter hA
 replace p2:=p2.mono f4
 obtain ⟨g7,rfl,v5,v6,v7,v8,rfl,h9,d0,g0,h0⟩:=p2
 obtain ⟨w0,y0,rfl⟩:=h9.form
 obtain ⟨z0,a1,rfl⟩:=d0.form
 obtain ⟨b1,c1,rfl⟩:=g0.form
 obtain ⟨d1,e1,rfl⟩:=h0.form
 replace p0:=p0.mono f4
 obtain ⟨l2,m2,rfl⟩:=p0.form
 refine AG Tryz.func5 rfl Tryz.ntmps5 rfl ?_
 unfold DY at hm
 refine Al (Aj (DB 2 O rfl rfl fun w1 q2 r2 s0 l0=>?_))
 replace l0:Lc 2 q2 r2 w1 26 [(.slice w0 x0.vars.length y0),(.slice z0 x0.init.length a1),(.slice b1 x0.goal.length c1),(.slice d1 x0.ops.length e1)]:=l0
 refine Au rfl rfl (o_z ?_)
 refine Al (Al ?_)
 obtain ⟨s4,c0,hm⟩:=bs hm
 refine AN (fun l' w'=>∃ (t4:Unit) (O':Lab),subs l' [(1,(.slice l2 x1.length m2)),(2,(.int .i64 x2)),(3,(.pointer (some ⟨w1,0,none⟩))),(24,(.bool s4))]∧Bs w A w' O'∧Vb w' (Fr 0 w' O') (.slice l2 x1.length m2) x1∧Lc 2 w' O' w1 26 [(.slice w0 x0.vars.length y0),(.slice z0 x0.init.length a1),(.slice b1 x0.goal.length c1),(.slice d1 x0.ops.length e1)]∧Vb w' (Fr 0 w' O') (.slice w0 x0.vars.length y0) x0.vars∧Vb w' (Fr 0 w' O') (.slice z0 x0.init.length a1) x0.init∧Vb w' (Fr 0 w' O') (.slice b1 x0.goal.length c1) x0.goal∧Vb w' (Fr 0 w' O') (.slice d1 x0.ops.length e1) x0.ops) ?_ ?_
 ·
  refine Aj (BA (hl:=rfl) (hc:=(l0.1).cellsAt) rfl rfl ?_)
  obtain ⟨g4,u4,c0⟩:=bs c0
  replace h9:=h9.st s0
  replace d0:=d0.st s0
  replace g0:=g0.st s0
  replace h0:=h0.st s0
  refine BS (O:=r2) (A:=All q2) (R:=fun w' F v=>Vb w' F v g4) (Nn (fun _ h=>h) (Vb.mono (F:=Fr 0 q2 r2) (Vb.ofAgg (cs:=[(.slice w0 x0.vars.length y0),(.slice z0 x0.init.length a1),(.slice b1 x0.goal.length c1),(.slice d1 x0.ops.length e1)]) (x:=x0) rfl ⟨_,_,_,_,rfl,h9,d0,g0,h0⟩) Fr.lt) (Vb.nil _ _) u4) rfl rfl fun h7 v4 w4 o0 x4=>?_
  obtain rfl:=x4.bool
  cases g4
  case false =>
   replace c0:=iF c0
   refine CK rfl rfl (Am rfl rfl (Aw rfl rfl rfl rfl (Aw rfl rfl rfl rfl (Aw rfl rfl rfl rfl (Bl rfl rfl rfl (Am rfl rfl (Aw rfl rfl rfl rfl (Aw rfl rfl rfl rfl (Bl rfl rfl rfl (o_z ?_))))))))))
   obtain rfl:=sm c0
   exact ⟨(),_,⟨rfl,rfl,rfl,rfl,trivial⟩,(hB.st s0).st o0,(p0.st s0).st o0,l0.st o0,h9.st o0,d0.st o0,g0.st o0,h0.st o0⟩
  replace c0:=iT c0
  refine CJ rfl rfl (Am rfl rfl (Az rfl rfl (Am rfl rfl (Az rfl rfl (AQ rfl rfl ?_)))))
  replace p0:=(p0.st s0).st o0
  have y4:x1.length≤9223372036854775807:=Nat.le_trans p0.len.2.1 p0.len.2.2
  have i7:inI64 (x1.length:Int):=rngNat y4
  refine Az rfl rfl (CI rfl rfl rfl (fun s2=>?_) fun s2=>?_)
  ·
   replace c0:=ip c0 s2
   refine Be rfl rfl rfl (Am rfl rfl (Aw rfl rfl rfl rfl (Aw rfl rfl rfl rfl (Bl rfl rfl rfl (o_z ?_)))))
   obtain rfl:=sm c0
   exact ⟨(),_,⟨rfl,rfl,rfl,rfl,trivial⟩,(hB.st s0).st o0,p0,l0.st o0,h9.st o0,d0.st o0,g0.st o0,h0.st o0⟩
  ·
   replace c0:=im c0 s2
   refine Be rfl rfl rfl (Am rfl rfl (Az rfl rfl ?_))
   obtain ⟨h4,z4,c0⟩:=bs c0
   refine BS (O:=w4) (A:=All v4) (R:=fun w' F v=>Vb w' F v h4) (IG (fun _ h=>h)  z4) rfl rfl fun j7 k7 l7 v0 a5=>?_
   obtain rfl:=a5.bool
   cases h4
   case false =>
    replace c0:=iF c0
    refine Az rfl rfl (CK rfl rfl (Be rfl rfl rfl (o_z ?_)))
    obtain rfl:=sm c0
    exact ⟨(),_,⟨rfl,rfl,rfl,rfl,trivial⟩,((hB.st s0).st o0).st v0,p0.st v0,(l0.st o0).st v0,(h9.st o0).st v0,(d0.st o0).st v0,(g0.st o0).st v0,(h0.st o0).st v0⟩
   replace c0:=iT c0
   refine Az rfl rfl (CJ rfl rfl (Be rfl rfl rfl (o_z ?_)))
   obtain rfl:=sm c0
   exact ⟨(),_,⟨rfl,rfl,rfl,rfl,trivial⟩,((hB.st s0).st o0).st v0,p0.st v0,(l0.st o0).st v0,(h9.st o0).st v0,(d0.st o0).st v0,(g0.st o0).st v0,(h0.st o0).st v0⟩
 replace hB:=hB.st s0
 replace p0:=p0.st s0
 replace h9:=h9.st s0
 replace d0:=d0.st s0
 replace g0:=g0.st s0
 replace h0:=h0.st s0
 rintro m7 i4 ⟨t4,j4,t2,hB,p0,l0,h9,d0,g0,h0⟩
 refine AS _ t2 ?_
 refine CB rfl (fun u2=>?_) (fun u2=>?_)
 ·
  replace hm:=ip hm u2
  refine Al ?_
  obtain ⟨b5,r0,hm⟩:=bs hm
  refine AN (fun l' w'=>∃ (c5:Unit) (O':Lab),subs l' [(6,(.bool b5))]∧Bs w A w' O') ?_ ?_
  ·
   refine Aj ?_
   obtain ⟨k4,d5,r0⟩:=bs r0
   refine BS (O:=j4) (A:=All i4) (R:=fun w' F v=>Vb w' F v k4) (IG (fun _ h=>h)  d5) rfl rfl fun n7 o7 p7 l4 e5=>?_
   obtain rfl:=e5.bool
   cases k4
   case false =>
    replace r0:=iF r0
    refine Au rfl rfl (o_z ?_)
    obtain rfl:=sm r0
    exact ⟨(),_,⟨rfl,trivial⟩,hB.st l4⟩
   replace r0:=iT r0
   refine Au rfl rfl (o_z ?_)
   obtain rfl:=sm r0
   exact ⟨(),_,⟨rfl,trivial⟩,hB.st l4⟩
  rintro q7 r7 ⟨c5,s7,v2,hB⟩
  refine AS _ v2 ?_
  refine AK ?_
  obtain rfl:=sm hm
  exact ret1v rfl (AC rfl) ⟨hB.ext,vBool⟩
 ·
  replace hm:=im' hm u2
  refine AM (Al (Aj (Am rfl rfl ?_)))
  obtain ⟨m4,f5,hm⟩:=bs hm
  refine BS (O:=j4) (A:=All i4) (R:=fun w' F v=>Vb w' F v m4) (Nm (fun _ h=>h) rx2 (show inI64 (0) from by decide) (show inI64 (1000) from by decide) f5) rfl rfl fun t7 u7 n4 i1 g5=>?_
  obtain ⟨rfl,h5⟩:=g5.int
  refine Au rfl rfl (o_z ?_)
  refine Al (BC [] n4 ?_)
  refine AX (fuel:=7) [] [(0,true),(1,true),(2,true),(3,true),(4,true)] (by kernel_rfl) rfl ?_
  replace l0:=l0.st i1
  refine Fx (hl:=rfl) (hb:=fun w' ⟨O',hq⟩=>((l0.st hq (by decide)).1).cellsAt) rfl rfl rfl ?_
  refine AY rfl rfl rfl (Bb (hc:=fun w' ⟨O',hq⟩=>Blk.cell (i:=1) ((l0.st hq (by decide)).1) rfl) rfl rfl rfl ?_)
  refine Fx (hl:=rfl) (hb:=fun w' ⟨O',hq⟩=>((l0.st hq (by decide)).1).cellsAt) rfl rfl rfl ?_
  refine AJ rfl rfl rfl (AL ?_)
  refine AZ (i:=5) (by kernel_rfl) rfl ?_
  obtain ⟨i5,j5,hm⟩:=bs hm
  replace p0:=p0.st i1
  replace h9:=h9.st i1
  replace d0:=d0.st i1
  replace g0:=g0.st i1
  replace h0:=h0.st i1
  refine De (O:=n4) (R:=fun w' F v=>Vb w' F v i5) (HT Fr.lt (Vb.ofAgg (cs:=[(.slice w0 x0.vars.length y0),(.slice z0 x0.init.length a1),(.slice b1 x0.goal.length c1),(.slice d1 x0.ops.length e1)]) (x:=x0) rfl ⟨_,_,_,_,rfl,h9,d0,g0,h0⟩) p0 j5) rfl rfl fun w7 n2 o2 t0 o4=>?_
  obtain ⟨x7,y7,rfl⟩:=o4.form
  have hZ:=t0.lst [] (fun _ h=>h.elim)
  refine Bz [] hZ (by kernel_rfl) ?_
  refine AZ (i:=6) (by kernel_rfl) rfl ?_
  obtain ⟨w2,k5,hm⟩:=bs hm
  replace h9:=h9.st t0
  replace d0:=d0.st t0
  replace g0:=g0.st t0
  replace h0:=h0.st t0
  refine BS (O:=o2) (A:=All n2) (R:=fun w' F v=>T2 w' F v w2) (Ni (fun _ h=>h) (Vb.mono (F:=Fr 0 n2 o2) (Vb.ofAgg (cs:=[(.slice w0 x0.vars.length y0),(.slice z0 x0.init.length a1),(.slice b1 x0.goal.length c1),(.slice d1 x0.ops.length e1)]) (x:=x0) rfl ⟨_,_,_,_,rfl,h9,d0,g0,h0⟩) Fr.lt) (Vb.mono (F:=Fr 0 n2 o2) d0 Fr.lt) (Vb.mono (F:=Fr 0 n2 o2) o4 Fr.lt) k5) rfl rfl fun z7 p4 q4 q0 l5=>?_
  obtain ⟨a8,b8,rfl,m5,n5⟩:=l5
  obtain ⟨rfl,c8⟩:=m5.int
  obtain rfl:=n5.bool
  have hZ:=q0.lst [] (fun _ h=>h.elim)
  refine Bz [] hZ (by kernel_rfl) ?_
  refine AX (fuel:=0) [] [(7,true),(8,true),(9,true),(10,true),(11,true)] (by kernel_rfl) rfl ?_
  refine AJ rfl rfl rfl (Ia rfl rfl rfl rfl (Ia rfl rfl rfl rfl (CL rfl rfl rfl (CL rfl rfl rfl (AL ?_)))))
  refine Cv (by kernel_rfl) ?_
  refine Al (Al ?_)
  obtain ⟨o5,n0,hm⟩:=bs hm
  refine AN (fun l' w'=>∃ (y2:Unit) (O':Lab),subs l' [(1,(.slice l2 x1.length m2)),(2,(.int .i64 m4)),(3,(.pointer (some ⟨w1,0,none⟩))),(7,(.int .i64 w2.1)),(45,(.bool o5))]∧Bs w A w' O'∧Vb w' (Fr 0 w' O') (.slice l2 x1.length m2) x1∧Lc 2 w' O' w1 26 [(.slice w0 x0.vars.length y0),(.slice z0 x0.init.length a1),(.slice b1 x0.goal.length c1),(.slice d1 x0.ops.length e1)]∧Vb w' (Fr 0 w' O') (.slice w0 x0.vars.length y0) x0.vars∧Vb w' (Fr 0 w' O') (.slice z0 x0.init.length a1) x0.init∧Vb w' (Fr 0 w' O') (.slice b1 x0.goal.length c1) x0.goal∧Vb w' (Fr 0 w' O') (.slice d1 x0.ops.length e1) x0.ops) ?_ ?_
  ·
   refine Aj (Am rfl rfl (Dl rfl rfl (Am rfl rfl ?_)))
   rcases Bool.eq_false_or_eq_true (!w2.2) with f1|f1
   ·
    try simp only [f1]
    replace n0:=ip n0 f1
    refine Aw rfl rfl rfl rfl (Aw rfl rfl rfl rfl (Aw rfl rfl rfl rfl (Aw rfl rfl rfl rfl (Bl rfl rfl rfl (o_z ?_)))))
    obtain rfl:=sm n0
    exact ⟨(),_,⟨rfl,rfl,rfl,rfl,rfl,trivial⟩,((hB.st i1).st t0).st q0,(p0.st t0).st q0,(l0.st t0).st q0,h9.st q0,d0.st q0,g0.st q0,h0.st q0⟩
   ·
    try simp only [f1]
    replace n0:=im' n0 f1
    refine Az rfl rfl (Am rfl rfl (Az rfl rfl ?_))
    replace l0:=(l0.st t0).st q0
    refine BA (hl:=rfl) (hc:=(l0.1).cellsAt) rfl rfl ?_
    refine Az rfl rfl ?_
    obtain ⟨z2,a3,n0⟩:=bs n0
    replace h9:=h9.st q0
    replace d0:=d0.st q0
    replace g0:=g0.st q0
    replace h0:=h0.st q0
    refine BS (O:=q4) (A:=All p4) (R:=fun w' F v=>Vb w' F v z2) (Nl (fun _ h=>h) (Vb.mono (F:=Fr 0 p4 q4) (Vb.ofAgg (cs:=[(.slice w0 x0.vars.length y0),(.slice z0 x0.init.length a1),(.slice b1 x0.goal.length c1),(.slice d1 x0.ops.length e1)]) (x:=x0) rfl ⟨_,_,_,_,rfl,h9,d0,g0,h0⟩) Fr.lt) a3) rfl rfl fun p5 q5 r5 m0 b3=>?_
    obtain ⟨rfl,s5⟩:=b3.int
    refine Az rfl rfl (Ho rfl rfl rfl (fun k1=>?_) fun k1=>?_)
    ·
     replace n0:=ip n0 k1
     refine Be rfl rfl rfl (o_z ?_)
     obtain rfl:=sm n0
     exact ⟨(),_,⟨rfl,rfl,rfl,rfl,rfl,trivial⟩,(((hB.st i1).st t0).st q0).st m0,((p0.st t0).st q0).st m0,l0.st m0,h9.st m0,d0.st m0,g0.st m0,h0.st m0⟩
    ·
     replace n0:=im n0 k1
     refine Be rfl rfl rfl (o_z ?_)
     obtain rfl:=sm n0
     exact ⟨(),_,⟨rfl,rfl,rfl,rfl,rfl,trivial⟩,(((hB.st i1).st t0).st q0).st m0,((p0.st t0).st q0).st m0,l0.st m0,h9.st m0,d0.st m0,g0.st m0,h0.st m0⟩
  replace hB:=((hB.st i1).st t0).st q0
  replace p0:=(p0.st t0).st q0
  replace h9:=h9.st q0
  replace d0:=d0.st q0
  replace g0:=g0.st q0
  replace h0:=h0.st q0
  replace l0:=(l0.st t0).st q0
  rintro t5 u5 ⟨y2,y1,z1,hB,p0,l0,h9,d0,g0,h0⟩
  refine AS _ z1 ?_
  refine CB rfl (fun l1=>?_) (fun l1=>?_)
  ·
   replace hm:=ip hm l1
   refine Al (Aj (Au rfl rfl (o_z ?_)))
   refine AK ?_
   obtain rfl:=sm hm
   exact ret1v rfl (AC rfl) ⟨hB.ext,vBool⟩
  ·
   replace hm:=im' hm l1
   refine AM (Al (BC [] y1 ?_))
   refine AX (fuel:=3) [] [(0,true),(1,true),(2,true)] (by kernel_rfl) rfl ?_
   refine Fx (hl:=rfl) (hb:=fun w' ⟨O',hq⟩=>((l0.st hq (by decide)).1).cellsAt) rfl rfl rfl ?_
   refine Fx (hl:=rfl) (hb:=fun w' ⟨O',hq⟩=>((l0.st hq (by decide)).1).cellsAt) rfl rfl rfl ?_
   refine AJ rfl rfl rfl (AL ?_)
   refine AZ (i:=3) (by kernel_rfl) rfl ?_
   obtain ⟨c3,d3,hm⟩:=bs hm
   refine De (O:=y1) (R:=fun w' F v=>Vb w' F v c3) (HT Fr.lt (Vb.ofAgg (cs:=[(.slice w0 x0.vars.length y0),(.slice z0 x0.init.length a1),(.slice b1 x0.goal.length c1),(.slice d1 x0.ops.length e1)]) (x:=x0) rfl ⟨_,_,_,_,rfl,h9,d0,g0,h0⟩) p0 d3) rfl rfl fun w5 x5 e3 i0 a2=>?_
   obtain ⟨y5,z5,rfl⟩:=a2.form
   have hZ:=i0.lst [] (fun _ h=>h.elim)
   refine Bz [] hZ (by kernel_rfl) ?_
   refine AZ (i:=4) (by kernel_rfl) rfl ?_
   obtain ⟨f3,g3,hm⟩:=bs hm
   replace h9:=h9.st i0
   replace d0:=d0.st i0
   replace g0:=g0.st i0
   replace h0:=h0.st i0
   refine De (O:=e3) (R:=fun w' F v=>Vb w' F v f3) (IF Fr.lt (Vb.ofAgg (cs:=[(.slice w0 x0.vars.length y0),(.slice z0 x0.init.length a1),(.slice b1 x0.goal.length c1),(.slice d1 x0.ops.length e1)]) (x:=x0) rfl ⟨_,_,_,_,rfl,h9,d0,g0,h0⟩) a2 g3) rfl rfl fun a6 b6 h3 j0 g1=>?_
   obtain ⟨c6,d6,rfl⟩:=g1.form
   have hZ:=j0.lst [] (fun _ h=>h.elim)
   refine Bz [] hZ (by kernel_rfl) ?_
   refine AX (fuel:=0) [] [(5,true)] (by kernel_rfl) rfl ?_
   refine CL rfl rfl rfl (AL ?_)
   refine Cv (by kernel_rfl) ?_
   refine Al (Aj ?_)
   replace l0:=(l0.st i0).st j0
   refine BA (hl:=rfl) (hc:=(l0.1).cellsAt) rfl rfl ?_
   refine Am rfl rfl (Am rfl rfl ?_)
   obtain ⟨h1,i3,hm⟩:=bs hm
   replace h9:=h9.st j0
   replace d0:=d0.st j0
   replace g0:=g0.st j0
   replace h0:=h0.st j0
   refine De (O:=h3) (R:=fun w' F v=>T3 w' F v h1) (Hw Fr.lt (Vb.ofAgg (cs:=[(.slice w0 x0.vars.length y0),(.slice z0 x0.init.length a1),(.slice b1 x0.goal.length c1),(.slice d1 x0.ops.length e1)]) (x:=x0) rfl ⟨_,_,_,_,rfl,h9,d0,g0,h0⟩) g1 h5 (show inI64 (5000) from by decide) i3) rfl rfl fun e6 f6 j3 k0 k3=>?_
   obtain ⟨g6,h6,i6,rfl,l3,m3,n3⟩:=k3
   obtain ⟨r4,rfl,j6,rfl,j1,k6,l6,m6⟩:=l3
   obtain ⟨o3,p3,rfl⟩:=j1.form
   obtain ⟨rfl,n6⟩:=m3.int
   obtain ⟨rfl,b2⟩:=n3.err
   refine Am rfl rfl (BB rfl rfl rfl (BB rfl rfl rfl (BB rfl rfl rfl (Cj 3 j3 rfl fun q3 o6 m1 e0 u0=>?_))))
   refine AT u0 rfl rfl rfl (Nat.le_of_ble_eq_true rfl) (by first|exact allOne rfl|simp [Value.cells,Value.oneCell',AO]) fun c2 f0 u0=>?_
   replace u0:Lc 3 c2 m1 q3 32 [(.int .i64 h1.1.verdict),(.slice o3 h1.1.plan.length p3),(.int .i64 h1.1.cost),(.int .i64 h1.1.expanded)]:=u0
   refine Au rfl rfl (Au rfl rfl (o_z ?_))
   refine Al (Al (Aj (Am rfl rfl (Eh rfl rfl (fun n1=>?_) fun n1=>?_))))
   ·
    replace hm:=ip hm n1
    refine o_z ?_
    refine Ah rfl (Al ?_)
    obtain ⟨r3,b0,hm⟩:=bs hm
    refine AN (fun l' w'=>∃ (s3:Unit) (O':Lab),subs l' [(6,(.bool r3))]∧Bs w A w' O') ?_ ?_
    ·
     refine Aj (Am rfl rfl ?_)
     obtain ⟨d2,t3,b0⟩:=bs b0
     refine BS (O:=m1) (A:=All c2) (R:=fun w' F v=>Vb w' F v d2) (LE (fun _ h=>h) b2 (show inI64 (1) from by decide) t3) rfl rfl fun p6 u3 v3 o1 w3=>?_
     obtain rfl:=w3.bool
     cases d2
     case false =>
      replace b0:=iF b0
      refine Am rfl rfl (Az rfl rfl (Am rfl rfl (Az rfl rfl ?_)))
      obtain ⟨e2,x3,b0⟩:=bs b0
      refine BS (O:=v3) (A:=All u3) (R:=fun w' F v=>Vb w' F v e2) (LE (fun _ h=>h) b2 (show inI64 (5) from by decide) x3) rfl rfl fun q6 r6 s6 f2 y3=>?_
      obtain rfl:=y3.bool
      cases e2
      case false =>
       replace b0:=iF b0
       refine Be rfl rfl rfl (Au rfl rfl (o_z ?_))
       obtain rfl:=sm b0
       exact ⟨(),_,⟨rfl,trivial⟩,((((((hB.st i0).st j0).st k0).st e0).st f0).st o1).st f2⟩
      replace b0:=iT b0
      refine Be rfl rfl rfl (Au rfl rfl (o_z ?_))
      obtain rfl:=sm b0
      exact ⟨(),_,⟨rfl,trivial⟩,((((((hB.st i0).st j0).st k0).st e0).st f0).st o1).st f2⟩
     replace b0:=iT b0
     refine Am rfl rfl (Aw rfl rfl rfl rfl (Aw rfl rfl rfl rfl (Bl rfl rfl rfl (Au rfl rfl (o_z ?_)))))
     obtain rfl:=sm b0
     exact ⟨(),_,⟨rfl,trivial⟩,(((((hB.st i0).st j0).st k0).st e0).st f0).st o1⟩
    replace hB:=((((hB.st i0).st j0).st k0).st e0).st f0
    rintro t6 u6 ⟨s3,w6,g2,hB⟩
    refine AS _ g2 ?_
    refine AK ?_
    obtain rfl:=sm hm
    exact ret1v rfl (AC rfl) ⟨hB.ext,vBool⟩
   ·
    replace hm:=im hm n1
    refine o_z ?_
    refine Ae rfl (AM (Al ?_))
    obtain ⟨z3,a0,hm⟩:=bs hm
    refine AN (fun l' w'=>∃ (a4:Unit) (O':Lab),subs l' [(6,(.bool z3))]∧Bs w A w' O') ?_ ?_
    ·
     refine Aj (AH rfl rfl (AF (hc:=Blk.cell (i:=0) (u0.1) rfl) rfl rfl ?_))
     refine Gi rfl rfl rfl (fun p1=>?_) fun p1=>?_
     ·
      replace a0:=ip a0 p1
      refine Am rfl rfl (Az rfl rfl (AH rfl rfl (Az rfl rfl (AF (hc:=Blk.cell (i:=2) (u0.1) rfl) rfl rfl ?_))))
      refine Az rfl rfl (Am rfl rfl (Az rfl rfl (Gi rfl rfl rfl (fun q1=>?_) fun q1=>?_)))
      ·
       replace a0:=ip a0 q1
       refine Bl rfl rfl rfl (Am rfl rfl (Az rfl rfl (Am rfl rfl (Az rfl rfl (Gi rfl rfl rfl (fun r1=>?_) fun r1=>?_)))))
       ·
        replace a0:=ip a0 r1
        refine Az rfl rfl (Am rfl rfl (Aw rfl rfl rfl rfl (Aw rfl rfl rfl rfl (Aw rfl rfl rfl rfl (Aw rfl rfl rfl rfl (Aw rfl rfl rfl rfl (Aw rfl rfl rfl rfl (Aw rfl rfl rfl rfl (Aw rfl rfl rfl rfl (Aw rfl rfl rfl rfl (Aw rfl rfl rfl rfl (Az rfl rfl (Bl rfl rfl rfl (Bl rfl rfl rfl ?_))))))))))))))
        refine Au rfl rfl (o_z ?_)
        obtain rfl:=sm a0
        exact ⟨(),_,⟨rfl,trivial⟩,((((hB.st i0).st j0).st k0).st e0).st f0⟩
       ·
        replace a0:=im a0 r1
        refine Az rfl rfl (Am rfl rfl (Az rfl rfl (Am rfl rfl (Az rfl rfl (Gi rfl rfl rfl (fun s1=>?_) fun s1=>?_)))))
        ·
         replace a0:=ip a0 s1
         refine Az rfl rfl (Am rfl rfl (Az rfl rfl ?_))
         replace l0:=((l0.st k0).st e0).st f0
         refine BA (hl:=rfl) (hc:=(l0.1).cellsAt) rfl rfl ?_
         refine Az rfl rfl (AH rfl rfl (Az rfl rfl (AF (hc:=Blk.cell (i:=1) (u0.1) rfl) rfl rfl ?_)))
         refine Az rfl rfl ?_
         obtain ⟨b4,c4,a0⟩:=bs a0
         replace h9:=((h9.st k0).st e0).st f0
         replace d0:=((d0.st k0).st e0).st f0
         replace g0:=((g0.st k0).st e0).st f0
         replace h0:=((h0.st k0).st e0).st f0
         replace j1:=(j1.st e0).st f0
         refine De (O:=m1) (R:=fun w' F v=>Vb w' F v b4) (IF Fr.lt (Vb.ofAgg (cs:=[(.slice w0 x0.vars.length y0),(.slice z0 x0.init.length a1),(.slice b1 x0.goal.length c1),(.slice d1 x0.ops.length e1)]) (x:=x0) rfl ⟨_,_,_,_,rfl,h9,d0,g0,h0⟩) j1 c4) rfl rfl fun x6 t1 u1 v1 h2=>?_
         obtain ⟨y6,z6,rfl⟩:=h2.form
         refine Az rfl rfl (Am rfl rfl (Az rfl rfl ?_))
         obtain ⟨i2,d4,a0⟩:=bs a0
         replace g1:=(((g1.st k0).st e0).st f0).st v1
         refine BS (O:=u1) (A:=All t1) (R:=fun w' F v=>Vb w' F v i2) (My (fun _ h=>h) (Vb.mono (F:=Fr 0 t1 u1) h2 Fr.lt) (Vb.mono (F:=Fr 0 t1 u1) g1 Fr.lt) d4) rfl rfl fun a7 b7 c7 j2 e4=>?_
         obtain rfl:=e4.bool
         cases i2
         case false =>
          replace a0:=iF a0
          refine Az rfl rfl (Bl rfl rfl rfl (Az rfl rfl (Be rfl rfl rfl (Bl rfl rfl rfl (Au rfl rfl (o_z ?_))))))
          obtain rfl:=sm a0
          exact ⟨(),_,⟨rfl,trivial⟩,((((((hB.st i0).st j0).st k0).st e0).st f0).st v1).st j2⟩
         replace a0:=iT a0
         refine Az rfl rfl (Bl rfl rfl rfl (Az rfl rfl (Be rfl rfl rfl (Bl rfl rfl rfl (Au rfl rfl (o_z ?_))))))
         obtain rfl:=sm a0
         exact ⟨(),_,⟨rfl,trivial⟩,((((((hB.st i0).st j0).st k0).st e0).st f0).st v1).st j2⟩
        ·
         replace a0:=im a0 s1
         refine Az rfl rfl (Am rfl rfl (Aw rfl rfl rfl rfl (Aw rfl rfl rfl rfl (Aw rfl rfl rfl rfl (Aw rfl rfl rfl rfl (Aw rfl rfl rfl rfl (Aw rfl rfl rfl rfl (Az rfl rfl (Be rfl rfl rfl (Az rfl rfl (Be rfl rfl rfl (Bl rfl rfl rfl (Au rfl rfl (o_z ?_))))))))))))))
         obtain rfl:=sm a0
         exact ⟨(),_,⟨rfl,trivial⟩,((((hB.st i0).st j0).st k0).st e0).st f0⟩
      ·
       replace a0:=im a0 q1
       refine Bl rfl rfl rfl (Am rfl rfl (Aw rfl rfl rfl rfl (Aw rfl rfl rfl rfl (Aw rfl rfl rfl rfl (Aw rfl rfl rfl rfl (Aw rfl rfl rfl rfl (Aw rfl rfl rfl rfl (Aw rfl rfl rfl rfl (Aw rfl rfl rfl rfl (Aw rfl rfl rfl rfl (Aw rfl rfl rfl rfl (Aw rfl rfl rfl rfl (Aw rfl rfl rfl rfl (Aw rfl rfl rfl rfl ?_))))))))))))))
       refine Aw rfl rfl rfl rfl (Be rfl rfl rfl (Au rfl rfl (o_z ?_)))
       obtain rfl:=sm a0
       exact ⟨(),_,⟨rfl,trivial⟩,((((hB.st i0).st j0).st k0).st e0).st f0⟩
     ·
      replace a0:=im a0 p1
      refine Am rfl rfl (Aw rfl rfl rfl rfl (Aw rfl rfl rfl rfl (Aw rfl rfl rfl rfl (Aw rfl rfl rfl rfl (Be rfl rfl rfl (Am rfl rfl (Aw rfl rfl rfl rfl (Aw rfl rfl rfl rfl (Aw rfl rfl rfl rfl (Aw rfl rfl rfl rfl (Aw rfl rfl rfl rfl (Aw rfl rfl rfl rfl (Aw rfl rfl rfl rfl (Aw rfl rfl rfl rfl ?_))))))))))))))
      refine Aw rfl rfl rfl rfl (Aw rfl rfl rfl rfl (Aw rfl rfl rfl rfl (Aw rfl rfl rfl rfl (Aw rfl rfl rfl rfl (Aw rfl rfl rfl rfl (Be rfl rfl rfl (Au rfl rfl (o_z ?_))))))))
      obtain rfl:=sm a0
      exact ⟨(),_,⟨rfl,trivial⟩,((((hB.st i0).st j0).st k0).st e0).st f0⟩
    replace hB:=((((hB.st i0).st j0).st k0).st e0).st f0
    rintro d7 e7 ⟨a4,f7,k2,hB⟩
    refine AS _ k2 ?_
    refine AK ?_
    obtain rfl:=sm hm
    exact ret1v rfl (AC rfl) ⟨hB.ext,vBool⟩
end
section
section
variable {α : Type}
inductive Scr:List α→List α→Nat→Prop
  | nil:Scr [] [] 0
  | del {x xs ys n}:Scr xs ys n→Scr (x :: xs) ys (n + 1)
  | ins {y xs ys n}:Scr xs ys n→Scr xs (y :: ys) (n + 1)
  | keep {x xs ys n}:Scr xs ys n→Scr (x :: xs) (x :: ys) n
theorem Scr.refl:∀ xs:List α,Scr xs xs 0
  | []=>.nil
  | _ :: xs=>.keep (Scr.refl xs)
theorem Scr.zero {xs ys:List α} {n:Nat} (h:Scr xs ys n):n=0→xs=ys:=by
  induction h with
  | nil=>intro _;rfl
  | del _ _=>intro h;omega
  | ins _ _=>intro h;omega
  | keep _ ih=>intro h;rw [ih h]
theorem Scr.bound {xs ys:List α} {n:Nat} (h:Scr xs ys n):n≤xs.length + ys.length∧xs.length≤ys.length + n∧ys.length≤xs.length + n∧(xs.length + ys.length - n) % 2=0:=by
  induction h with
  | nil=>simp
  | del _ ih=>simp only [List.length_cons];omega
  | ins _ ih=>simp only [List.length_cons];omega
  | keep _ ih=>simp only [List.length_cons];omega
theorem Scr.all:∀ xs ys:List α,Scr xs ys (xs.length + ys.length)
  | [],[]=>.nil
  | [],y :: ys=>.ins (Scr.all [] ys)
  | x :: xs,ys=>by
    have:=Scr.del (x:=x) (Scr.all xs ys)
    rwa [show xs.length + ys.length + 1=(x :: xs).length + ys.length from by simp only [List.length_cons];omega] at this
end
section
variable {α : Type} [DecidableEq α]
def ed:List α→List α→Nat
  | [],ys=>ys.length
  | xs,[]=>xs.length
  | x :: xs,y :: ys=>if x=y then min (min (ed (x :: xs) ys) (ed xs (y :: ys)) + 1) (ed xs ys) else min (ed (x :: xs) ys) (ed xs (y :: ys)) + 1
termination_by xs ys=>xs.length + ys.length
theorem Jn (ys:List α):ed [] ys=ys.length:=by cases ys<;>simp [ed]
theorem Lj (xs:List α):ed xs []=xs.length:=by cases xs<;>simp [ed]
theorem GV (x:α) (xs:List α) (y:α) (ys:List α):ed (x :: xs) (y :: ys)=if x=y then min (min (ed (x :: xs) ys) (ed xs (y :: ys)) + 1) (ed xs ys) else min (ed (x :: xs) ys) (ed xs (y :: ys)) + 1:=by rw [ed]
theorem RP (n:Nat):∀ xs ys:List α,xs.length + ys.length≤n→Scr xs ys (ed xs ys):=by
  induction n with
  | zero =>
    intro xs ys h
    have h1:xs=[]:=List.eq_nil_of_length_eq_zero (by omega)
    have h2:ys=[]:=List.eq_nil_of_length_eq_zero (by omega)
    subst h1 h2
    rw [Jn];exact .nil
  | succ n ih =>
    intro xs ys h
    match xs,ys,h with
    | [],ys,_=>rw [Jn];simpa using Scr.all [] ys
    | x :: xs,[],_=>rw [Lj];simpa using Scr.all (x :: xs) []
    | x :: xs,y :: ys,h =>
      simp only [List.length_cons] at h
      have h1:=ih (x :: xs) ys (by simp only [List.length_cons];omega)
      have h2:=ih xs (y :: ys) (by simp only [List.length_cons];omega)
      have h3:=ih xs ys (by omega)
      have hm:Scr (x :: xs) (y :: ys) (min (ed (x :: xs) ys) (ed xs (y :: ys)) + 1):=by
        rcases Nat.le_total (ed (x :: xs) ys) (ed xs (y :: ys)) with q|q
        · rw [Nat.min_eq_left q];exact .ins h1
        · rw [Nat.min_eq_right q];exact .del h2
      rw [GV]
      by_cases e:x=y
      · rw [if_pos e]
        subst e
        rcases Nat.le_total (min (ed (x :: xs) ys) (ed xs (x :: ys)) + 1) (ed xs ys) with q|q
        · rw [Nat.min_eq_left q];exact hm
        · rw [Nat.min_eq_right q];exact .keep h3
      · rw [if_neg e];exact hm
theorem Qt {xs ys:List α} {n:Nat} (h:Scr xs ys n):ed xs ys≤n:=by
  induction h with
  | nil=>rw [Jn];simp
  | @del x xs ys n _ ih =>
    cases ys with
    | nil=>rw [Lj] at ih ⊢;simp only [List.length_cons];omega
    | cons y ys=>rw [GV];split<;>omega
  | @ins y xs ys n _ ih =>
    cases xs with
    | nil=>rw [Jn] at ih ⊢;simp only [List.length_cons];omega
    | cons x xs=>rw [GV];split<;>omega
  | @keep x xs ys n _ ih=>rw [GV,if_pos rfl];omega
theorem On (xs ys:List α):Scr xs ys (ed xs ys):=RP _ xs ys (Nat.le_refl _)
theorem QK (xs ys:List α):ed xs ys=0↔xs=ys :=
  ⟨fun h=>(On xs ys).zero h,fun h=>by subst h;exact Nat.le_zero.1 (Qt (Scr.refl xs))⟩
end
end
section
section
variable {α σ ρ β : Type}
theorem NH {f:σ→Option (Ctl σ ρ)} (I:σ→Prop) (B:σ→Prop) (R:ρ→Prop) (μ:σ→Nat) (h:∀ s,I s→(∃ s',f s=some (.next s')∧I s'∧μ s' < μ s)∨(∃ s',f s=some (.brk s')∧B s')∨∃ r,f s=some (.ret r)∧R r) :
    ∀ s,I s→(∃ s',lop f s=some (.done s')∧B s')∨∃ r,lop f s=some (.ret r)∧R r:=by
  have key:∀ (n:Nat) s,I s→μ s < n→(∃ s',lop f s=some (.done s')∧B s')∨∃ r,lop f s=some (.ret r)∧R r:=by
    intro n
    induction n with
    | zero=>intro s _ hn;omega
    | succ n ih =>
      intro s hI hn
      rw [EM]
      rcases h s hI with ⟨s',h1,h2,h3⟩|⟨s',h1,h2⟩|⟨r,h1,h2⟩
      · rw [h1];exact ih s' h2 (by omega)
      · rw [h1];exact .inl ⟨s',rfl,h2⟩
      · rw [h1];exact .inr ⟨r,rfl,h2⟩
  exact fun s hI=>key (μ s + 1) s hI (by omega)
theorem Mz {f:σ→Option (Ctl σ ρ)} {s₀:σ} {k:Fin σ ρ→Option β} {P:β→Prop} (I:σ→Prop) (B:σ→Prop) (R:ρ→Prop) (μ:σ→Nat) (h0:I s₀)
    (h:∀ s,I s→(∃ s',f s=some (.next s')∧I s'∧μ s' < μ s)∨(∃ s',f s=some (.brk s')∧B s')∨∃ r,f s=some (.ret r)∧R r)
    (hb:∀ s,B s→∃ r,k (.done s)=some r∧P r) (hr:∀ q,R q→∃ r,k (.ret q)=some r∧P r):∃ r,bnd (lop f s₀) k=some r∧P r:=by
  rcases NH I B R μ h s₀ h0 with ⟨s,h1,h2⟩|⟨q,h1,h2⟩
  · rw [h1,Ar];exact hb s h2
  · rw [h1,Ar];exact hr q h2
theorem QL {f:σ→Option (Ctl σ ρ)} {s₀:σ} {k:Fin σ ρ→Option β} {r:Option β} (I:σ→Prop) (B:σ→Prop) (μ:σ→Nat) (h0:I s₀)
    (h:∀ s,I s→(∃ s',f s=some (.next s')∧I s'∧μ s' < μ s)∨(∃ s',f s=some (.brk s')∧B s')) (hb:∀ s,B s→k (.done s)=r):bnd (lop f s₀) k=r:=by
  rcases NH I B (fun _=>False) μ (fun s hI=>(h s hI).imp id .inl) s₀ h0 with ⟨s,h1,h2⟩|⟨q,_,h2⟩
  · rw [h1,Ar];exact hb s h2
  · exact h2.elim
theorem Hj {f:Nat→α→σ→Option (Ctl σ ρ)} {xs:List α} {s₀:σ} {k:Fin σ ρ→Option β} {P:β→Prop} (I:Nat→σ→Prop) (R:ρ→Prop) (h0:I 0 s₀)
    (h:∀ i x s,xs[i]?=some x→I i s→(∃ s',f i x s=some (.next s')∧I (i + 1) s')∨∃ q,f i x s=some (.ret q)∧R q)
    (hb:∀ s,I xs.length s→∃ r,k (.done s)=some r∧P r) (hr:∀ q,R q→∃ r,k (.ret q)=some r∧P r):∃ r,bnd (rng f xs 0 s₀) k=some r∧P r:=by
  have key:∀ (ys:List α) (j:Nat) (s:σ),(∀ i,ys[i]?=xs[j + i]?)→j + ys.length=xs.length→I j s→∃ r,bnd (rng f ys j s) k=some r∧P r:=by
    intro ys
    induction ys with
    | nil=>intro j s _ hl hI;exact hb s (by simp at hl;rw [← hl];exact hI)
    | cons y ys ih =>
      intro j s hg hl hI
      have hy:xs[j]?=some y:=by have:=hg 0;simpa using this.symm
      simp only [rng]
      rcases h j y s hy hI with ⟨s',h1,h2⟩|⟨q,h1,h2⟩
      · rw [h1]
        exact ih (j + 1) s' (fun i=>by have:=hg (i + 1);rw [show j + 1 + i=j + (i + 1) from by omega,← this];simp) (by simp at hl;omega) h2
      · rw [h1,Ar];exact hr q h2
  exact key xs 0 s₀ (fun i=>by rw [Nat.zero_add]) (by omega) h0
theorem Lk {f:Nat→α→σ→Option (Ctl σ ρ)} {xs:List α} {s₀:σ} {k:Fin σ ρ→Option β} {r:Option β} (I:Nat→σ→Prop) (h0:I 0 s₀)
    (h:∀ i x s,xs[i]?=some x→I i s→∃ s',f i x s=some (.next s')∧I (i + 1) s') (hb:∀ s,I xs.length s→k (.done s)=r):bnd (rng f xs 0 s₀) k=r:=by
  obtain ⟨s,h1,h2⟩:=ER I h0 h
  rw [h1,Ar]
  exact hb s h2
end
end
section
open Go Go.RowKit
def dE (ar b:List ByteArray) (j:Nat):Int:=((ed ar (b.take j).reverse:Nat):Int)
theorem Qu (ar b:List ByteArray) (j:Nat):0≤dE ar b j∧dE ar b j≤(ar.length:Int) + b.length:=by
  have h:=(On ar (b.take j).reverse).bound.1
  rw [List.length_reverse,List.length_take] at h
  unfold dE
  omega
theorem RQ (b:List ByteArray) {j:Nat} (h:j≤b.length):dE [] b j=(j:Int):=by
  unfold dE
  rw [Jn,List.length_reverse,List.length_take]
  omega
theorem QM (ar b:List ByteArray):dE ar b 0=(ar.length:Int):=by unfold dE;simp [Lj]
theorem Kk {α:Type} {b:List α} {k:Nat} {y:α} (h:b[k]?=some y):(b.take (k + 1)).reverse=y :: (b.take k).reverse:=by
  rw [List.take_add_one,h];simp
theorem RR {x:ByteArray} {ar b:List ByteArray} {k:Nat} (h:b[k]?=some x):dE (x :: ar) b (k + 1)=min (min (dE (x :: ar) b k) (dE ar b (k + 1)) + 1) (dE ar b k):=by
  unfold dE
  rw [Kk h,GV,if_pos rfl]
  omega
theorem SJ {x y:ByteArray} {ar b:List ByteArray} {k:Nat} (h:b[k]?=some y) (hn:¬ x=y):dE (x :: ar) b (k + 1)=min (dE (x :: ar) b k) (dE ar b (k + 1)) + 1:=by
  unfold dE
  rw [Kk h,GV,if_neg hn]
  omega
def RowK (ar b:List ByteArray) (k:Nat) (s:List Int):Prop:=s.length=b.length + 1∧∀ j,j≤k→s[j]?=some (dE ar b j)
theorem RowK.set {ar b:List ByteArray} {k:Nat} {s:List Int} (h:RowK ar b k s) (hk:k < b.length) {v:Int} (hv:v=dE ar b (k + 1)):RowK ar b (k + 1) (s.set (k + 1) v):=by
  refine ⟨by rw [List.length_set];exact h.1,fun j hj=>?_⟩
  rcases Nat.lt_or_ge j (k + 1) with hl|hl
  · rw [List.getElem?_set_ne (by omega)];exact h.2 j (by omega)
  · have:j=k + 1:=by omega
    subst this
    rw [List.getElem?_set_self (by rw [h.1];omega),hv]
theorem Pb {b:List ByteArray} {f:Nat→List Int→Option (Ctl (List Int) Int)} (hf:∀ (k:Nat) (s:List Int),f k s=bnd (s[k]?) fun _=>some (.next (s.set k (k:Int)))) :
    ∃ s,rngN (ρ:=Int) f (List.replicate (b.length + 1) (0:Int)).length (List.replicate (b.length + 1) (0:Int))=some (.done s)∧RowK [] b b.length s:=by
  obtain ⟨s,h1,h2,h3⟩:=PJ (f:=f) (N:=(List.replicate (b.length + 1) (0:Int)).length) (s₀:=List.replicate (b.length + 1) (0:Int)) (fun k s=>s.length=b.length + 1∧∀ j,j < k→s[j]?=some (j:Int))
    ⟨by simp,fun j hj=>by omega⟩ (fun k s hk ⟨hl,hs⟩=>by
      rw [List.length_replicate] at hk
      have hg:s[k]?=some (s[k]'(by omega)):=List.getElem?_eq_getElem _
      refine ⟨s.set k (k:Int),by rw [hf,hg,Ar],by rw [List.length_set];exact hl,fun j hj=>?_⟩
      rcases Nat.lt_or_ge j k with hl'|hl'
      · rw [List.getElem?_set_ne (by omega)];exact hs j hl'
      · have:j=k:=by omega
        subst this
        rw [List.getElem?_set_self (by omega)])
  refine ⟨s,h1,h2,fun j hj=>?_⟩
  rw [h3 j (by rw [List.length_replicate];omega),RQ b hj]
theorem Pc {ar b:List ByteArray}:RowK ar b 0 ((List.replicate (b.length + 1) (0:Int)).set (0:Int).toNat (ar.length:Int)):=by
  refine ⟨by simp,fun j hj=>?_⟩
  have:j=0:=by omega
  subst this
  rw [QM]
  exact List.getElem?_set_self (by simp)
theorem chk1 {k:Nat} (h:k≤8796093022208):chkI ((k:Int) + 1)=some ((k + 1:Nat):Int):=by rw [BF (by unfold inI64;omega)];simp
theorem RS {a b:List ByteArray} (ha:a.length≤8796093022208) (hb:b.length≤8796093022208):CT a b=some ((ed a.reverse b.reverse:Nat):Int):=by
  unfold CT
  rw [chk1 hb,Ar,IY (by omega) (by omega),Ar]
  obtain ⟨s0,h1,h2⟩:=Pb (b:=b) (f:=fun k s=>bnd (s[k]?) fun _=>some (.next (s.set k (k:Int)))) (fun _ _=>rfl)
  rw [h1,Ar,Cq]
  refine Lk (fun i s=>RowK (a.take i).reverse b b.length s) (by simpa using h2) ?_ ?_
  · intro i x s hx hI
    have hi:=AD hx
    rw [Ar,IY (by omega) (by omega),Ar,chk1 (k:=i) (by omega),Ar]
    rw [show atI (List.replicate (b.length + 1) (0:Int)) 0=some 0 from by rw [show (0:Int)=((0:Nat):Int) from rfl,Bv];simp,Ar]
    have hst:RowK (x :: (a.take i).reverse) b 0 ((List.replicate (b.length + 1) (0:Int)).set (0:Int).toNat ((i + 1:Nat):Int)):=by
      have:=Pc (ar:=x :: (a.take i).reverse) (b:=b)
      rwa [List.length_cons,List.length_reverse,List.length_take,Nat.min_eq_left (by omega)] at this
    have hlen:((a.take i).reverse).length=i:=by rw [List.length_reverse,List.length_take];omega
    obtain ⟨s',h3,h4⟩:=ER (f:=fun (k138:Nat) (a139:ByteArray) (s136:List Int)=>bnd (chkI ((k138:Int) + 1)) fun n161=>bnd (s136[k138]?) fun a164=>bnd (chkI ((k138:Int) + 1)) fun n174=>bnd (atI s n174) fun a177=>bnd (chkI ((min a164 a177) + 1)) fun n189=>bnd (atI s136 n161) fun _=>if x=a139 then (bnd (chkI ((k138:Int) + 1)) fun n207=>bnd (chkI ((k138:Int) + 1)) fun n210=>bnd (atI (s136.set (n161:Int).toNat n189) n210) fun a213=>bnd (s[k138]?) fun a225=>bnd (atI (s136.set (n161:Int).toNat n189) n207) fun _=>some (.next ((s136.set (n161:Int).toNat n189).set (n207:Int).toNat (min a213 a225)))) else (some (.next (s136.set (n161:Int).toNat n189):Ctl (List Int) (Ctl (List Int) Int)))) (xs:=b) (RowK (x :: (a.take i).reverse) b) hst (fun k y u hy hu=>by
        have hk:=AD hy
        have b1:=Qu (x :: (a.take i).reverse) b k
        have b2:=Qu (a.take i).reverse b (k + 1)
        rw [List.length_cons,hlen] at b1
        rw [hlen] at b2
        rw [chk1 (by omega),Ar,hu.2 k (Nat.le_refl _),Ar,Ar,Bv,hI.2 (k + 1) (by omega),Ar,BF (by unfold inI64;omega),Ar]
        rw [Bv,List.getElem?_eq_getElem (by rw [hu.1];omega),Ar,Int.toNat_natCast]
        by_cases e:x=y
        · subst e
          rw [if_pos rfl,Ar,Ar,Bv,List.getElem?_set_self (by rw [hu.1];omega),Ar,hI.2 k (by omega),Ar,Ar,Int.toNat_natCast,List.set_set]
          exact ⟨_,rfl,hu.set hk (RR hy).symm⟩
        · rw [if_neg e]
          exact ⟨_,rfl,hu.set hk (SJ hy e).symm⟩)
    rw [h3,Ar,Cq]
    refine ⟨s',rfl,?_⟩
    rw [Kk hx]
    exact h4
  · intro s hI
    rw [Cq,hI.2 b.length (Nat.le_refl _),Ar]
    unfold dE
    rw [List.take_length,List.take_length]
theorem PN (a b:List ByteArray):Fa a b=some (decide (a=b)):=by
  unfold Fa
  by_cases hl:(a.length:Int)≠(b.length:Int)
  · rw [if_pos hl,decide_eq_false (fun e=>hl (by rw [e]))]
  · rw [if_neg hl]
    have hl':a.length=b.length:=by omega
    rcases NF (f:=fun (k18:Nat) (a19:ByteArray) (_:Unit)=>bnd (b[k18]?) fun a37=>if a19≠a37 then (some (.ret false)) else (some (.next ():Ctl Unit Bool))) (xs:=a) (s₀:=()) (fun k _=>∀ j,j < k→a[j]?=b[j]?) (fun r=>r=false∧a≠b) (fun j hj=>by omega) (fun k x u hx hI=>by
      have hk:=AD hx
      have hg:b[k]?=some (b[k]'(by omega)):=List.getElem?_eq_getElem _
      rw [hg,Ar]
      by_cases e:x=b[k]'(by omega)
      · left
        refine ⟨(),by rw [if_neg (not_not_intro e)],fun j hj=>?_⟩
        rcases Nat.lt_or_ge j k with q|q
        · exact hI j q
        · have:j=k:=by omega
          subst this
          rw [hx,hg,e]
      · right
        refine ⟨false,by rw [if_pos e],rfl,fun h=>e ?_⟩
        subst h
        rw [hx] at hg
        exact Option.some.inj hg) with ⟨s,h1,h2⟩|⟨r,h1,h2,h3⟩
    · rw [h1,Ar,Cq]
      have:a=b:=by
        refine List.ext_getElem? fun j=>?_
        rcases Nat.lt_or_ge j a.length with q|q
        · exact h2 j q
        · rw [List.getElem?_eq_none q,List.getElem?_eq_none (by omega)]
      rw [decide_eq_true this]
    · rw [h1,Ar,decide_eq_false h3,h2];rfl
end
section
open Go Go.RowKit
def keptO (o:Opr) (v p:Int):Opr:=⟨o.name,o.cost,o.pre ++ [⟨v,p⟩],o.effs ++ [⟨[],v,p + 1⟩]⟩
def insL (t:Tsk) (w:Int):List (Opr×Prt):=t.ops.zipIdx.map fun q=>(⟨q.1.name,q.1.cost + w,q.1.pre,q.1.effs⟩,⟨(q.2:Int)⟩)
def keepL (ops:List (Opr×Nat)) (v p:Int) (name:ByteArray):List (Opr×Prt):=(ops.filter fun q=>decide (q.1.name=name)).map fun q=>(keptO q.1 v p,⟨(q.2:Int)⟩)
def delE (w v p:Int):Opr×Prt:=(keptO ⟨⟨#[]⟩,w,[],[]⟩ v p,⟨-1⟩)
def stepL (t:Tsk) (w v p:Int) (name:ByteArray):List (Opr×Prt):=keepL t.ops.zipIdx v p name ++ [delE w v p]
def delL (t:Tsk) (w v:Int):Nat→List ByteArray→List (Opr×Prt)
  | _,[]=>[]
  | p,name :: r=>stepL t w v (p:Int) name ++ delL t w v (p + 1) r
def cmpL (t:Tsk) (old:List ByteArray) (w:Int):List (Opr×Prt):=insL t w ++ delL t w (t.vars.length:Int) 0 old
def cmpT (t:Tsk) (old:List ByteArray) (w:Int):Tsk :=
  ⟨t.vars ++ [(old.length:Int) + 1],t.init ++ [0],t.goal ++ [⟨(t.vars.length:Int),(old.length:Int)⟩],(cmpL t old w).map (·.1)⟩
theorem LF (t:Tsk) (w v:Int) (name:ByteArray):∀ (l:List ByteArray) (p:Nat),delL t w v p (l ++ [name])=delL t w v p l ++ stepL t w v ((p + l.length:Nat):Int) name
  | [],p=>by simp [delL]
  | x :: l,p=>by
    rw [List.cons_append,delL,delL,LF t w v name l (p + 1),List.append_assoc,List.length_cons,show p + 1 + l.length=p + (l.length + 1) from by omega]
theorem Jo (ops:List (Opr×Nat)) (v p:Int) (name:ByteArray):(keepL ops v p name).length≤ops.length:=by
  unfold keepL;rw [List.length_map];exact List.length_filter_le _ _
theorem MA (t:Tsk) (w:Int):(insL t w).length=t.ops.length:=by unfold insL;simp
theorem Pd (t:Tsk) (w v p:Int) (name:ByteArray):(stepL t w v p name).length≤t.ops.length + 1:=by
  unfold stepL
  have:=Jo t.ops.zipIdx v p name
  simp only [List.length_append,List.length_singleton,List.length_zipIdx] at this ⊢
  omega
theorem Kl (t:Tsk) (w v:Int):∀ (l:List ByteArray) (p:Nat),(delL t w v p l).length≤l.length * (t.ops.length + 1)
  | [],p=>by simp [delL]
  | x :: l,p=>by
    rw [delL,List.length_append,List.length_cons,Nat.succ_mul]
    have:=Pd t w v p x
    have:=Kl t w v l (p + 1)
    omega
theorem MB (t:Tsk) (old:List ByteArray) (w:Int):(cmpL t old w).length≤t.ops.length + old.length * (t.ops.length + 1):=by
  unfold cmpL
  rw [List.length_append,MA]
  have:=Kl t w (t.vars.length:Int) old 0
  omega
theorem PO {α:Type} {l:List α} {k:Nat} {x:α} (h:l[k]?=some x):l.zipIdx.take (k + 1)=l.zipIdx.take k ++ [(x,k)]:=by
  rw [List.take_add_one,List.getElem?_zipIdx,h];simp
theorem Oo {ops:List (Opr×Nat)} {v p:Int} {name:ByteArray} {o:Opr} {k:Nat}:keepL (ops ++ [(o,k)]) v p name=keepL ops v p name ++ if o.name=name then [(keptO o v p,⟨(k:Int)⟩)] else []:=by
  unfold keepL
  rw [List.filter_append,List.map_append]
  by_cases h:o.name=name<;>simp [h]
theorem Hx {l:List Fct} (h:l.length≤1000000):Bd l=some l:=if_pos ⟨by omega,by omega⟩
theorem LG {l:List Eff} (h:l.length≤1000000):Bn l=some l:=if_pos ⟨by omega,by omega⟩
theorem LH {l:List Int} (h:l.length≤1000000):BI l=some l:=if_pos ⟨by omega,by omega⟩
theorem NI {o:Opr} {v:Int} {p:Nat} (h1:o.pre.length≤1000) (h2:o.effs.length≤1000) (hp:p≤1000):Dk o v (p:Int)=some (keptO o v (p:Int)):=by
  unfold Dk
  rw [Hx (by omega),Ar,BX (by simp;omega) (by simp;omega),Ar,LG (by omega),Ar,BF (by unfold inI64;omega),Ar,BX (by simp;omega) (by simp;omega),Ar]
  rfl
theorem MC {α:Type} {l:List α} {k:Nat} {x:α} (h:l[k]?=some x):l.set k x=l:=by
  refine List.ext_getElem? fun j=>?_
  rw [List.getElem?_set]
  split
  · rename_i e;subst e
    split
    · exact h.symm
    · rename_i h2;exact absurd (AD h) h2
  · rfl
theorem PP {l:List Eff} (h:∀ e∈l,e.cond.length≤1000000):CD l=some l:=by
  unfold CD
  rw [Jl (fun _=>l) rfl ?_,Ar,Cq]
  intro k hk
  have hg:l[k]?=some l[k]:=List.getElem?_eq_getElem hk
  rw [hg,Ar,Hx (h _ (List.getElem_mem hk)),Ar,Ar,MC hg]
def ShortO (o:Opr):Prop:=o.pre.length≤1000∧o.effs.length≤1000∧∀ e∈o.effs,e.cond.length≤1000
theorem OpOk.short {t:Tsk} (hok:TaskOk t) {k:Nat} {o:Opr} (ho:t.ops[k]?=some o):o.pre.length≤64∧o.effs.length≤64∧∀ e∈o.effs,e.cond.length≤64:=by
  obtain ⟨_,_,h1,_,h2,h3⟩:=hok.2.2.2.2.2 k o ho
  have hv:=hok.1
  refine ⟨by have:=Ek h2;omega,h1,fun e he=>?_⟩
  obtain ⟨i,hi⟩:=List.getElem?_of_mem he
  have:=Ek (h3 i e hi).1
  omega
theorem Oq {t:Tsk} (hok:TaskOk t) (old:List ByteArray) (w:Int):∀ q∈cmpL t old w,ShortO q.1:=by
  have hops:∀ q∈t.ops.zipIdx,q.1.pre.length≤64∧q.1.effs.length≤64∧∀ e∈q.1.effs,e.cond.length≤64:=fun q hq=>by
    obtain ⟨k,hk⟩:=List.getElem?_of_mem hq
    rw [List.getElem?_zipIdx] at hk
    obtain ⟨o,ho,rfl⟩:=Option.map_eq_some_iff.1 hk
    exact OpOk.short hok ho
  have hkept:∀ (o:Opr) (v p:Int),(o.pre.length≤64∧o.effs.length≤64∧∀ e∈o.effs,e.cond.length≤64)→ShortO (keptO o v p):=fun o v p ⟨h1,h2,h3⟩=>by
    refine ⟨by simp [keptO];omega,by simp [keptO];omega,fun e he=>?_⟩
    rcases List.mem_append.1 he with he|he
    · have:=h3 e he;omega
    · have:e=⟨[],v,p + 1⟩:=by simpa using he
      subst this;simp
  have hdel:∀ (l:List ByteArray) (p:Nat),∀ q∈delL t w (t.vars.length:Int) p l,ShortO q.1:=by
    intro l
    induction l with
    | nil=>intro p q hq;simp [delL] at hq
    | cons x l ih =>
      intro p q hq
      rw [delL] at hq
      rcases List.mem_append.1 hq with hq|hq
      · unfold stepL at hq
        rcases List.mem_append.1 hq with hq|hq
        · unfold keepL at hq
          obtain ⟨q',h1,rfl⟩:=List.mem_map.1 hq
          exact hkept _ _ _ (hops q' (List.mem_filter.1 h1).1)
        · have:q=delE w (t.vars.length:Int) p:=by simpa using hq
          subst this
          exact hkept _ _ _ ⟨by simp,by simp,by simp⟩
      · exact ih (p + 1) q hq
  intro q hq
  unfold cmpL at hq
  rcases List.mem_append.1 hq with hq|hq
  · unfold insL at hq
    obtain ⟨q',h1,rfl⟩:=List.mem_map.1 hq
    obtain ⟨h2,h3,h4⟩:=hops q' h1
    exact ⟨by show q'.1.pre.length≤1000;omega,by show q'.1.effs.length≤1000;omega,fun e he=>by have:=h4 e he;omega⟩
  · exact hdel old 0 q hq
def sp (l:List (Opr×Prt)):List Prt×List Opr:=(l.map (·.2),l.map (·.1))
theorem Ll (l:List (Opr×Prt)) (q:Opr×Prt):sp (l ++ [q])=((sp l).1 ++ [q.2],(sp l).2 ++ [q.1]):=by simp [sp]
theorem MD (l:List (Opr×Prt)):(sp l).1.length=l.length∧(sp l).2.length=l.length:=by simp [sp]
theorem KO {t:Tsk} (hok:TaskOk t) (hops:t.ops.length≤20) {old:List ByteArray} (hold:old.length≤63) {w:Int} (hw0:0≤w) (hw1:w≤1000) :
    Da t old w=some (if checkN (cmpT t old w)≠0 then (⟨[],[],[],[]⟩,[],⟨checkN (cmpT t old w)⟩) else (cmpT t old w,(cmpL t old w).map (·.2),⟨0⟩)):=by
  have hv:=hok.1
  have hi:=hok.2.2.2.1.1
  have hg:=Ek hok.2.2.2.2.1
  have hcl:(cmpL t old w).length≤2000:=by
    have:=MB t old w
    have h2:old.length * (t.ops.length + 1)≤63 * 21:=Nat.mul_le_mul hold (by omega)
    omega
  unfold Da Eu
  rw [EY.2 hok,Ar,if_neg (by simp),if_neg (by omega),if_neg (by omega),Ar,DH,if_neg (by omega),BF (by unfold inI64;omega),Ar,LH (by omega),Ar,BX (by simp;omega) (by simp;omega),Ar,LH (by omega),Ar,BX (by simp;omega) (by simp;omega),Ar,Hx (by omega),Ar,BX (by simp;omega) (by simp;omega),Ar,Ar]
  have zx:∀ k o,t.ops[k]?=some o→t.ops.zipIdx.take (k + 1)=t.ops.zipIdx.take k ++ [(o,k)]:=fun k o h=>PO h
  rw [El (fun k=>sp ((t.ops.zipIdx.take k).map fun q=>(⟨q.1.name,q.1.cost + w,q.1.pre,q.1.effs⟩,⟨(q.2:Int)⟩))) (by simp [sp]) ?gg1,Ar,Cq]
  case gg1 =>
    intro k o ho
    have hk:=AD ho
    obtain ⟨h1,h2,_⟩:=OpOk.short hok ho
    have hc:=(hok.2.2.2.2.2 k o ho).1
    have hc2:=(hok.2.2.2.2.2 k o ho).2.1
    have hl:((t.ops.zipIdx.take k).map fun q=>((⟨q.1.name,q.1.cost + w,q.1.pre,q.1.effs⟩:Opr),(⟨(q.2:Int)⟩:Prt))).length≤20:=by simp;omega
    obtain ⟨l1,l2⟩:=MD ((t.ops.zipIdx.take k).map fun q=>((⟨q.1.name,q.1.cost + w,q.1.pre,q.1.effs⟩:Opr),(⟨(q.2:Int)⟩:Prt)))
    rw [BF (by unfold inI64;omega),Ar,Hx (by omega),Ar,LG (by omega),Ar,BX (by rw [l2];simp;omega) (by rw [l2];simp;omega),Ar,BX (by rw [l1];simp;omega) (by rw [l1];simp;omega),Ar,zx k o ho,List.map_append,List.map_singleton,Ll]
  have hzx:t.ops.zipIdx.take t.ops.length=t.ops.zipIdx:=List.take_of_length_le (by simp)
  have hfull:(t.ops.zipIdx.take t.ops.length).map (fun q=>((⟨q.1.name,q.1.cost + w,q.1.pre,q.1.effs⟩:Opr),(⟨(q.2:Int)⟩:Prt)))=insL t w:=by
    unfold insL;rw [hzx]
  rw [hfull]
  rw [El (fun k=>sp (insL t w ++ delL t w (t.vars.length:Int) 0 (old.take k))) (by simp [delL]) ?gg2,Ar,Cq,List.take_length]
  case gg2 =>
    intro k name hn
    have hk:=AD hn
    have hbase:(insL t w ++ delL t w (t.vars.length:Int) 0 (old.take k)).length≤1500:=by
      have h1:=Kl t w (t.vars.length:Int) (old.take k) 0
      have h2:(old.take k).length * (t.ops.length + 1)≤63 * 21:=Nat.mul_le_mul (by simp;omega) (by omega)
      rw [List.length_append,MA];omega
    rw [El (fun j=>sp ((insL t w ++ delL t w (t.vars.length:Int) 0 (old.take k)) ++ keepL (t.ops.zipIdx.take j) (t.vars.length:Int) (k:Int) name)) (by simp [keepL]) ?gg3,Ar,Cq,hzx]
    case gg3 =>
      intro j o ho
      have hj:=AD ho
      obtain ⟨h1,h2,_⟩:=OpOk.short hok ho
      have hkl:=Jo (t.ops.zipIdx.take j) (t.vars.length:Int) (k:Int) name
      rw [List.length_take,List.length_zipIdx] at hkl
      obtain ⟨l1,l2⟩:=MD ((insL t w ++ delL t w (t.vars.length:Int) 0 (old.take k)) ++ keepL (t.ops.zipIdx.take j) (t.vars.length:Int) (k:Int) name)
      rw [List.length_append] at l1 l2
      rw [zx j o ho,Oo]
      by_cases he:o.name=name
      · rw [if_pos he,if_pos he,NI (by omega) (by omega) (by omega),Ar,BX (by rw [l2];simp only [List.length_singleton];omega) (by rw [l2];simp only [List.length_singleton];omega),Ar,BX (by rw [l1];simp only [List.length_singleton];omega) (by rw [l1];simp only [List.length_singleton];omega),Ar,← List.append_assoc,Ll]
      · rw [if_neg he,if_neg he,List.append_nil]
    have hkl:=Jo t.ops.zipIdx (t.vars.length:Int) (k:Int) name
    rw [List.length_zipIdx] at hkl
    obtain ⟨l1,l2⟩:=MD ((insL t w ++ delL t w (t.vars.length:Int) 0 (old.take k)) ++ keepL t.ops.zipIdx (t.vars.length:Int) (k:Int) name)
    rw [List.length_append] at l1 l2
    have htk:old.take (k + 1)=old.take k ++ [name]:=by rw [List.take_add_one,hn];rfl
    have hfin:sp (insL t w ++ delL t w (t.vars.length:Int) 0 (old.take (k + 1)))=((sp ((insL t w ++ delL t w (t.vars.length:Int) 0 (old.take k)) ++ keepL t.ops.zipIdx (t.vars.length:Int) (k:Int) name)).1 ++ [⟨-1⟩],(sp ((insL t w ++ delL t w (t.vars.length:Int) 0 (old.take k)) ++ keepL t.ops.zipIdx (t.vars.length:Int) (k:Int) name)).2 ++ [keptO ⟨⟨#[]⟩,w,[],[]⟩ (t.vars.length:Int) (k:Int)]):=by
      have hkk:(0 + (old.take k).length:Nat)=k:=by simp;omega
      rw [htk,LF,hkk,stepL,← List.append_assoc,← List.append_assoc,Ll]
      rfl
    rw [NI (by simp) (by simp) (by omega),Ar,BX (by rw [l2];simp only [List.length_singleton];omega) (by rw [l2];simp only [List.length_singleton];omega),Ar,BX (by rw [l1];simp only [List.length_singleton];omega) (by rw [l1];simp only [List.length_singleton];omega),Ar,if_neg (by rw [List.length_append,l2];simp only [List.length_singleton];omega),hfin]
  show bnd (rngN _ (sp (cmpL t old w)).2.length (sp (cmpL t old w)).2) _=_
  have hsh:∀ o∈(sp (cmpL t old w)).2,ShortO o:=fun o ho=>by
    obtain ⟨q,hq,rfl⟩:=List.mem_map.1 ho
    exact Oq hok old w q hq
  rw [Jl (fun _=>(sp (cmpL t old w)).2) rfl ?gg4,Ar,Cq,Ar]
  case gg4 =>
    intro k hk
    have hgk:(sp (cmpL t old w)).2[k]?=some (sp (cmpL t old w)).2[k]:=List.getElem?_eq_getElem hk
    have h3:=(hsh _ (List.getElem_mem hk)).2.2
    rw [hgk,Ar,PP (fun e he=>by have:=h3 e he;omega),Ar,Ar,MC hgk]
  show (if checkN (cmpT t old w)≠0 then _ else _)=_
  by_cases hc:checkN (cmpT t old w)≠0
  · rw [if_pos hc,if_pos hc];rfl
  · rw [if_neg hc,if_neg hc];rfl
end
section
open Go Go.RowKit
inductive PlanR (t:Tsk):List Int→List Int→List Int→Int→Prop
  | nil {s:List Int}:PlanR t s [] s 0
  | cons {s rest s':List Int} {k:Nat} {o:Opr} {C:Int}:t.ops[k]?=some o→holdsB o.pre s=true→PlanR t (succ o s) rest s' C→PlanR t s ((k:Int) :: rest) s' (o.cost + C)
theorem Pe (f:List Fct) (s:List Int):Dy f s=some (holdsB f s):=rfl
end
section
open Go Go.RowKit
inductive Walk (t:Tsk):List Int→Int→Prop
  | goal {s:List Int}:holdsB t.goal s=true→Walk t s 0
  | step {s:List Int} {k:Nat} {o:Opr} {c:Int}:t.ops[k]?=some o→holdsB o.pre s=true→Walk t (succ o s) c→Walk t s (c + o.cost)
def Inf:Int:=1125899906842624
theorem RT {σ ρ:Type} {f:σ→Option (Ctl σ ρ)} (I:σ→Prop) (B:σ→Prop) (μ:σ→Nat) (h:∀ s,I s→(∃ s',f s=some (.next s')∧I s'∧μ s' < μ s)∨(∃ s',f s=some (.brk s')∧B s')):∀ s,I s→∃ s',lop f s=some (.done s')∧B s':=by
  have key:∀ (n:Nat) s,I s→μ s < n→∃ s',itr f n s=some (.done s')∧B s':=by
    intro n
    induction n with
    | zero=>intro s _ h0;omega
    | succ n ih =>
      intro s hs hn
      rcases h s hs with ⟨s',h1,h2,h3⟩|⟨s',h1,h2⟩
      · obtain ⟨r,hr,hb⟩:=ih s' h2 (by omega)
        exact ⟨r,by simp only [itr,h1];exact hr,hb⟩
      · exact ⟨s',by simp only [itr,h1],h2⟩
  intro s hs
  obtain ⟨r,hr,hb⟩:=key (μ s + 1) s hs (by omega)
  exact ⟨r,Hd.2 ⟨_,hr⟩,hb⟩
def sumN:List Int→Nat
  | []=>0
  | x :: l=>x.toNat + sumN l
theorem ME:∀ (l:List Int) (i:Nat) (x y:Int),l[i]?=some x→0≤y→y < x→sumN (l.set i y) < sumN l
  | [],i,x,y,h,_,_=>by simp at h
  | a :: l,0,x,y,h,h1,h2=>by
    obtain rfl:a=x:=by simpa using h
    show y.toNat + sumN l < a.toNat + sumN l
    omega
  | a :: l,i + 1,x,y,h,h1,h2=>by
    have:=ME l i x y (by simpa using h) h1 h2
    show a.toNat + sumN (l.set i y) < a.toNat + sumN l
    omega
def DistI (t:Tsk) (d:List Int):Prop:=d.length=(statesL t.vars).length∧∀ (i:Nat) s,(statesL t.vars)[i]?=some s→∃ c,d[i]?=some c∧0≤c∧c≤Inf∧(c < Inf→Walk t s c)∧(holdsB t.goal s=true→c=0)
def DistP (t:Tsk) (d:List Int):Prop:=DistI t d∧∀ (i:Nat) s c C,(statesL t.vars)[i]?=some s→d[i]?=some c→Walk t s C→c≤C
theorem MF {α:Type} {l:List α} {k:Nat} {x y:α} (h:l[k]?=some x):y∈l.take (k + 1)↔y∈l.take k∨y=x:=by
  rw [List.take_add_one,h,List.mem_append];simp
theorem QN      {t:Tsk} (h:Mid t):∃ d,DS t=some d∧DistP t d:=by
  have hlen:(statesL t.vars).length≤600:=by have:=h.states t.vars.length;rwa [List.take_length] at this
  unfold DS
  rw [Jm h,Ar,IY (by omega) (by omega),Ar]
  obtain ⟨d0,h1,h2,h3⟩:=ER (ρ:=List Int) (f:=fun (k53:Nat) (a54:List Int) (s51:(List Int))=>bnd (s51[k53]?) fun _=>bnd (Dx t.goal a54) fun q91=>if q91=true then bnd ((s51.set k53 1125899906842624)[k53]?) fun _=>some (.next ((s51.set k53 1125899906842624).set k53 0)) else some (.next (s51.set k53 1125899906842624))) (xs:=statesL t.vars) (s₀:=List.replicate (statesL t.vars).length 0)
    (fun n d=>d.length=(statesL t.vars).length∧∀ (i:Nat) s,i < n→(statesL t.vars)[i]?=some s→d[i]?=some (if holdsB t.goal s=true then 0 else Inf)) ⟨by simp,fun i s hi=>by omega⟩ (fun n s d hn hI=>by
      obtain ⟨i1,i2⟩:=hI
      have hlt:=AD hn
      obtain ⟨u,hu⟩:=AE (l:=d) (k:=n) (by omega)
      rw [hu,Ar,Hi,Ar]
      by_cases hg:holdsB t.goal s=true
      · rw [if_pos hg,List.getElem?_set_self (by omega),Ar]
        refine ⟨_,rfl,by simpa using i1,fun i s' hi hs'=>?_⟩
        by_cases e:i=n
        · subst e
          obtain rfl:s'=s:=by rw [hn] at hs';exact (Option.some.inj hs').symm
          rw [List.getElem?_set_self (by simp;omega),if_pos hg]
        · rw [List.getElem?_set_ne (by omega),List.getElem?_set_ne (by omega)]
          exact i2 i s' (by omega) hs'
      · rw [if_neg hg]
        refine ⟨_,rfl,by simpa using i1,fun i s' hi hs'=>?_⟩
        by_cases e:i=n
        · subst e
          obtain rfl:s'=s:=by rw [hn] at hs';exact (Option.some.inj hs').symm
          rw [List.getElem?_set_self (by omega),if_neg hg];rfl
        · rw [List.getElem?_set_ne (by omega)]
          exact i2 i s' (by omega) hs')
  obtain ⟨es,he,hes⟩:=PL h
  rw [h1,Ar,Cq,he,Ar]
  have hd0:DistI t d0:=⟨h2,fun i s hi=>by
    refine ⟨_,h3 i s (AD hi) hi,?_⟩
    by_cases hg:holdsB t.goal s=true
    · rw [if_pos hg];exact ⟨by omega,by unfold Inf;omega,fun _=>.goal hg,fun _=>rfl⟩
    · rw [if_neg hg];exact ⟨by unfold Inf;omega,by omega,fun hh=>absurd hh (by omega),fun hh=>absurd hh hg⟩⟩
  -- one pass over the edges
  have pass : ∀ d,DistI t d→∃ (d':List Int) (b:Bool),rng (ρ:=Ctl ((List Int)×Bool) (List Int)) (fun (_:Nat) (a152:Edg) (s149:(List Int)×Bool)=>bnd (atI t.ops a152.op) fun a183=>bnd (bnd (atI s149.1 a152.dst) fun a208=>if a208 < 1125899906842624 then (bnd (atI s149.1 a152.dst) fun a221=>bnd (chkI (a221 + a183.cost)) fun n233=>bnd (atI s149.1 a152.src) fun a236=>if n233 < a236 then (some true) else (some false)) else (some false):Option Bool) fun y204=>if y204=true then (bnd (atI s149.1 a152.dst) fun a254=>bnd (chkI (a254 + a183.cost)) fun n266=>bnd (atI s149.1 a152.src) fun _=>some (.next ((s149.1.set (a152.src).toNat n266),true))) else (some (.next (s149.1,s149.2)))) es 0 (d,false)=some (.done (d',b))∧DistI t d'∧(b=true→sumN d' < sumN d)∧(b=false→d'=d∧∀ e∈es,∀ (i k j:Nat) o x y,e=⟨i,k,j⟩→t.ops[k]?=some o→d[i]?=some x→d[j]?=some y→y < Inf→x≤y + o.cost):=by
    intro d hd
    obtain ⟨⟨d',b⟩,g1,g2,g3,g4⟩:=ER (ρ:=Ctl ((List Int)×Bool) (List Int)) (f:=fun (_:Nat) (a152:Edg) (s149:(List Int)×Bool)=>bnd (atI t.ops a152.op) fun a183=>bnd (bnd (atI s149.1 a152.dst) fun a208=>if a208 < 1125899906842624 then (bnd (atI s149.1 a152.dst) fun a221=>bnd (chkI (a221 + a183.cost)) fun n233=>bnd (atI s149.1 a152.src) fun a236=>if n233 < a236 then (some true) else (some false)) else (some false):Option Bool) fun y204=>if y204=true then (bnd (atI s149.1 a152.dst) fun a254=>bnd (chkI (a254 + a183.cost)) fun n266=>bnd (atI s149.1 a152.src) fun _=>some (.next ((s149.1.set (a152.src).toNat n266),true))) else (some (.next (s149.1,s149.2)))) (xs:=es) (s₀:=(d,false))
      (fun m r=>DistI t r.1∧(r.2=true→sumN r.1 < sumN d)∧(r.2=false→r.1=d∧∀ e∈es.take m,∀ (i k j:Nat) o x y,e=⟨i,k,j⟩→t.ops[k]?=some o→d[i]?=some x→d[j]?=some y→y < Inf→x≤y + o.cost)) ⟨hd,fun hh=>by simp at hh,fun _=>⟨rfl,fun e he=>by simp at he⟩⟩ (fun m e r hm hI=>by
        obtain ⟨i1,i2,i3⟩:=hI
        obtain ⟨r1,r2⟩:=r
        simp only at i1 i2 i3
        obtain ⟨i,k,j,s,o,rfl,a1,a2,a3,a4⟩:=(hes e).1 (List.mem_of_getElem? hm)
        obtain ⟨x,x1,x2,x3,x4,x5⟩:=i1.2 i s a1
        obtain ⟨y,y1,y2,y3,y4,y5⟩:=i1.2 j _ a4
        have hco:=h.ok.2.2.2.2.2 k o a2
        have hc1:=hco.1
        have hc2:=hco.2.1
        simp only
        rw [Bv,a2,Ar,Bv,y1,Ar,Bv,x1]
        have keep:∀ (hx:y < Inf→x≤y + o.cost),DistI t r1∧(r2=true→sumN r1 < sumN d)∧(r2=false→r1=d∧∀ e∈es.take (m + 1),∀ (i k j:Nat) o x y,e=⟨i,k,j⟩→t.ops[k]?=some o→d[i]?=some x→d[j]?=some y→y < Inf→x≤y + o.cost):=fun hx=>by
          refine ⟨i1,i2,fun hf=>⟨(i3 hf).1,fun e' he'=>?_⟩⟩
          obtain ⟨e1,e2⟩:=i3 hf
          rcases (MF hm).1 he' with hh|rfl
          · exact e2 e' hh
          · intro i' k' j' o' x' y' hE ho' hx' hy' hlt
            injection hE with h1 h2 h3
            obtain rfl:i=i':=by omega
            obtain rfl:k=k':=by omega
            obtain rfl:j=j':=by omega
            obtain rfl:o=o':=by rw [a2] at ho';exact Option.some.inj ho'
            rw [← e1,x1] at hx'
            rw [← e1,y1] at hy'
            obtain rfl:=Option.some.inj hx'
            obtain rfl:=Option.some.inj hy'
            exact hx hlt
        by_cases hy:y < 1125899906842624
        · rw [if_pos hy,Ar,BF (by unfold inI64;unfold Inf at *;omega),Ar,Ar]
          by_cases hx:y + o.cost < x
          · rw [if_pos hx,Ar,Du,Ar,BF (by unfold inI64;unfold Inf at *;omega),Ar,Ar]
            refine ⟨_,rfl,⟨by simpa using i1.1,fun i' s' hs'=>?_⟩,fun _=>?_,fun hh=>by simp at hh⟩
            · show ∃ c,(r1.set ((i:Int)).toNat (y + o.cost))[i']?=some c∧_
              rw [show ((i:Int)).toNat=i from by omega]
              by_cases e:i=i'
              · subst e
                obtain rfl:s=s':=by rw [a1] at hs';exact Option.some.inj hs'
                refine ⟨_,by rw [List.getElem?_set_self (AD x1)],by omega,by omega,fun _=>.step a2 a3 (y4 hy),fun hg=>?_⟩
                have:=x5 hg;omega
              · rw [List.getElem?_set_ne e];exact i1.2 i' s' hs'
            · show sumN (r1.set ((i:Int)).toNat (y + o.cost)) < _
              rw [show ((i:Int)).toNat=i from by omega]
              have hlt:=ME r1 i x (y + o.cost) x1 (by omega) hx
              cases hr:r2 with
              | true=>have:=i2 hr;omega
              | false=>rw [(i3 hr).1] at hlt;rwa [(i3 hr).1]
          · rw [if_neg hx,Ar,DH]
            exact ⟨_,rfl,keep fun _=>by omega⟩
        · rw [if_neg hy,Ar,DH]
          exact ⟨_,rfl,keep fun hh=>absurd hh hy⟩)
    refine ⟨d',b,g1,g2,g3,fun hb=>?_⟩
    obtain ⟨e1,e2⟩:=g4 hb
    rw [List.take_length] at e2
    exact ⟨e1,e2⟩
  obtain ⟨⟨d,b⟩,l1,l2,l3⟩:=RT (ρ:=List Int) (f:=fun (s127:(List Int)×Bool)=>if s127.2=true then (bnd (rng (ρ:=Ctl ((List Int)×Bool) (List Int)) (fun (_:Nat) (a152:Edg) (s149:(List Int)×Bool)=>bnd (atI t.ops a152.op) fun a183=>bnd (bnd (atI s149.1 a152.dst) fun a208=>if a208 < 1125899906842624 then (bnd (atI s149.1 a152.dst) fun a221=>bnd (chkI (a221 + a183.cost)) fun n233=>bnd (atI s149.1 a152.src) fun a236=>if n233 < a236 then (some true) else (some false)) else (some false):Option Bool) fun y204=>if y204=true then (bnd (atI s149.1 a152.dst) fun a254=>bnd (chkI (a254 + a183.cost)) fun n266=>bnd (atI s149.1 a152.src) fun _=>some (.next ((s149.1.set (a152.src).toNat n266),true))) else (some (.next (s149.1,s149.2)))) es 0 (s127.1,false)) fun res147=>fin res147 fun (s287:(List Int)×Bool)=>some (.next (s287.1,s287.2))) else (some (.brk (s127.1,s127.2))))
    (fun r=>DistI t r.1∧(r.2=false→∀ e∈es,∀ (i k j:Nat) o x y,e=⟨i,k,j⟩→t.ops[k]?=some o→r.1[i]?=some x→r.1[j]?=some y→y < Inf→x≤y + o.cost)) (fun r=>DistI t r.1∧∀ e∈es,∀ (i k j:Nat) o x y,e=⟨i,k,j⟩→t.ops[k]?=some o→r.1[i]?=some x→r.1[j]?=some y→y < Inf→x≤y + o.cost) (fun r=>2 * sumN r.1 + if r.2=true then 1 else 0) (fun r hr=>by
      obtain ⟨r1,r2⟩:=r
      obtain ⟨i1,i2⟩:=hr
      cases r2 with
      | true =>
        obtain ⟨d',b,p1,p2,p3,p4⟩:=pass r1 i1
        refine .inl ⟨(d',b),?_,⟨p2,fun hb=>?_⟩,?_⟩
        · simp only [if_true]
          rw [p1,Ar,Cq]
        · obtain ⟨e1,e2⟩:=p4 hb
          show ∀ e∈es,_
          intro e he i k j o x y hE ho hx hy
          simp only at hx hy
          rw [e1] at hx hy
          exact e2 e he i k j o x y hE ho hx hy
        · cases b with
          | true=>have:=p3 rfl;simp;omega
          | false=>rw [(p4 rfl).1];simp
      | false=>exact .inr ⟨(r1,false),by simp,i1,i2 rfl⟩) (d0,true) ⟨hd0,fun hh=>by simp at hh⟩
  refine ⟨d,by rw [l1,Ar,Cq],l2,fun i s c C hi hc hw=>?_⟩
  induction hw generalizing i c with
  | goal hg =>
    obtain ⟨c',q1,_,_,_,q5⟩:=l2.2 i _ hi
    rw [hc] at q1
    obtain rfl:=Option.some.inj q1
    have:=q5 hg;omega
  | @step s k o C' ho hp hw ih =>
    have hs:StateOk t.vars s:=Gr.1 (List.mem_of_getElem? hi)
    obtain ⟨j,_,hj⟩:=Li h (HS h.ok hs ho)
    obtain ⟨y,y1,y2,y3,y4,y5⟩:=l2.2 j _ hj
    have h5:=ih j y hj y1
    obtain ⟨x,x1,x2,x3,x4,x5⟩:=l2.2 i s hi
    rw [x1] at hc
    obtain rfl:=Option.some.inj hc
    have hco:=(h.ok.2.2.2.2.2 k o ho).1
    by_cases hy:y < Inf
    · have:=l3 ⟨i,k,j⟩ ((hes _).2 ⟨i,k,j,s,o,rfl,hi,ho,hp,hj⟩) i k j o x y rfl ho x1 y1 hy
      omega
    · omega
end
section
open Go Go.RowKit
structure QEn where
  key:Int
  tie:Int
  item:Int
  number:Int
theorem LI {α:Type} {l:List α} {m i:Nat} {x:α} (h:(l.take m)[i]?=some x):l[i]?=some x:=by
  by_cases hi:i < m
  · rwa [List.getElem?_take_of_lt hi] at h
  · rw [List.getElem?_take_eq_none (by omega)] at h;cases h
def bfr (x y:QEn):Prop:=x.key < y.key∨(x.key=y.key∧(x.tie < y.tie∨(x.tie=y.tie∧x.number < y.number)))
instance (x y:QEn):Decidable (bfr x y):=by unfold bfr;infer_instance
def nb (x y:QEn):Prop:=¬ bfr x y
theorem Iq {x y z:QEn} (h1:nb x y) (h2:nb y z):nb x z:=by unfold nb bfr at *;omega
theorem LW {x y:QEn} (h:bfr x y):nb y x:=by unfold nb bfr at *;omega
theorem KQ (x:QEn):nb x x:=by unfold nb bfr;omega
theorem MG {x y:QEn} (h:nb x y):y.key≤x.key:=by unfold nb bfr at h;omega
def HeapOk (l:List QEn):Prop:=∀ (j:Nat) x y,0 < j→l[j]?=some x→l[(j - 1) / 2]?=some y→nb x y
def Over (l:List QEn) (i:Nat):Prop:=∀ (j:Nat) x y,0 < i→0 < j→(j - 1) / 2=i→l[j]?=some x→l[(i - 1) / 2]?=some y→nb x y
def UpI (l:List QEn) (i:Nat):Prop:=(∀ (j:Nat) x y,0 < j→j≠i→l[j]?=some x→l[(j - 1) / 2]?=some y→nb x y)∧Over l i
def DownI (l:List QEn) (i:Nat):Prop:=(∀ (j:Nat) x y,0 < j→(j - 1) / 2≠i→l[j]?=some x→l[(j - 1) / 2]?=some y→nb x y)∧Over l i
theorem HU {l:List QEn} {i j:Nat} {a b:QEn} (hi:l[i]?=some a) (hj:l[j]?=some b) (hne:i≠j) (k:Nat):((l.set i b).set j a)[k]?=if k=j then some a else if k=i then some b else l[k]?:=by
  by_cases h1:k=j
  · subst h1;rw [if_pos rfl,List.getElem?_set_self (by simpa using AD hj)]
  · rw [if_neg h1,List.getElem?_set_ne (by omega)]
    by_cases h2:k=i
    · subst h2;rw [if_pos rfl,List.getElem?_set_self (AD hi)]
    · rw [if_neg h2,List.getElem?_set_ne (by omega)]
theorem MH {l:List QEn} {i j:Nat} {a b:QEn} (hi:l[i]?=some a) (hj:l[j]?=some b):((l.set i b).set j a).Perm l:=by
  have h1:=AD hi
  have h2:=AD hj
  have e1:l[i]=a:=by rw [List.getElem?_eq_getElem h1] at hi;exact Option.some.inj hi
  have e2:l[j]=b:=by rw [List.getElem?_eq_getElem h2] at hj;exact Option.some.inj hj
  rw [← e1,← e2]
  exact List.set_set_perm h1 h2
theorem UpI.step {l:List QEn} {i:Nat} {a b:QEn} (h:UpI l i) (h0:0 < i) (hi:l[i]?=some a) (hj:l[(i - 1) / 2]?=some b) (hb:bfr a b):UpI ((l.set i b).set ((i - 1) / 2) a) ((i - 1) / 2):=by
  have hne:i≠(i - 1) / 2:=by omega
  constructor
  · intro j x y hj0 hjp hx hy
    rw [HU hi hj hne,if_neg hjp] at hx
    rw [HU hi hj hne] at hy
    by_cases e1:j=i
    · subst e1
      rw [if_pos rfl] at hx hy
      obtain rfl:=Option.some.inj hx
      obtain rfl:=Option.some.inj hy
      exact LW hb
    · rw [if_neg e1] at hx
      by_cases e2:(j - 1) / 2=(i - 1) / 2
      · rw [if_pos e2] at hy
        obtain rfl:=Option.some.inj hy
        have:=h.1 j x b hj0 e1 hx (by rw [e2];exact hj)
        exact Iq this (LW hb)
      · rw [if_neg e2] at hy
        by_cases e3:(j - 1) / 2=i
        · rw [if_pos e3] at hy
          obtain rfl:=Option.some.inj hy
          exact h.2 j x b h0 hj0 e3 hx hj
        · rw [if_neg e3] at hy
          exact h.1 j x y hj0 e1 hx hy
  · intro j x y hp0 hj0 hjp hx hy
    rw [HU hi hj hne] at hx hy
    have n1:((i - 1) / 2 - 1) / 2≠(i - 1) / 2:=by omega
    have n2:((i - 1) / 2 - 1) / 2≠i:=by omega
    rw [if_neg n1,if_neg n2] at hy
    have hpp:=h.1 ((i - 1) / 2) b y hp0 (by omega) hj hy
    rw [if_neg (by omega)] at hx
    by_cases e1:j=i
    · subst e1
      rw [if_pos rfl] at hx
      obtain rfl:=Option.some.inj hx
      exact hpp
    · rw [if_neg e1] at hx
      exact Iq (h.1 j x b hj0 e1 hx (by rw [hjp];exact hj)) hpp
theorem UpI.heap {l:List QEn} {i:Nat} (h:UpI l i) (hi:i=0∨∀ x y,l[i]?=some x→l[(i - 1) / 2]?=some y→nb x y):HeapOk l:=fun j x y hj hx hy=>by
  by_cases e:j=i
  · subst e
    rcases hi with h0|h1
    · omega
    · exact h1 x y hx hy
  · exact h.1 j x y hj e hx hy
theorem DownI.step {l:List QEn} {i c:Nat} {a b:QEn} (h:DownI l i) (hc:c=2 * i + 1∨c=2 * i + 2) (hi:l[i]?=some a) (hj:l[c]?=some b) (hb:bfr b a) (hs:∀ (j:Nat) x,0 < j→(j - 1) / 2=i→l[j]?=some x→nb x b):DownI ((l.set i b).set c a) c:=by
  have hne:i≠c:=by omega
  have hcp:(c - 1) / 2=i:=by omega
  constructor
  · intro j x y hj0 hjp hx hy
    rw [HU hi hj hne] at hx hy
    rw [if_neg hjp] at hy
    by_cases e1:j=c
    · subst e1
      rw [if_pos rfl] at hx
      rw [if_pos hcp] at hy
      obtain rfl:=Option.some.inj hx
      obtain rfl:=Option.some.inj hy
      exact LW hb
    · rw [if_neg e1] at hx
      by_cases e2:j=i
      · subst e2
        rw [if_pos rfl] at hx
        rw [if_neg (by omega)] at hy
        obtain rfl:=Option.some.inj hx
        exact h.2 c _ y hj0 (by omega) hcp hj hy
      · rw [if_neg e2] at hx
        by_cases e3:(j - 1) / 2=i
        · rw [if_pos e3] at hy
          obtain rfl:=Option.some.inj hy
          exact hs j x hj0 e3 hx
        · rw [if_neg e3] at hy
          exact h.1 j x y hj0 e3 hx hy
  · intro j x y hc0 hj0 hjc hx hy
    rw [HU hi hj hne] at hx hy
    rw [if_neg (by omega),if_neg (by omega)] at hx
    rw [if_neg (by omega),if_pos hcp] at hy
    obtain rfl:=Option.some.inj hy
    exact h.1 j x _ hj0 (by omega) hx (by rw [hjc];exact hj)
theorem DownI.heap {l:List QEn} {i:Nat} (h:DownI l i) (hi:∀ (j:Nat) x y,0 < j→(j - 1) / 2=i→l[j]?=some x→l[i]?=some y→nb x y):HeapOk l:=fun j x y hj hx hy=>by
  by_cases e:(j - 1) / 2=i
  · exact hi j x y hj e hx (by rw [← e];exact hy)
  · exact h.1 j x y hj e hx hy
theorem Pf {l:List QEn} (h:HeapOk l) {e:QEn} (he:l[0]?=some e):∀ x∈l,nb x e:=by
  have key:∀ (n j:Nat) x,j≤n→l[j]?=some x→nb x e:=by
    intro n
    induction n with
    | zero =>
      intro j x hj hx
      have hj0:j=0:=by omega
      rw [hj0,he] at hx
      rw [← Option.some.inj hx]
      exact KQ _
    | succ n ih =>
      intro j x hj hx
      by_cases h0:j=0
      · exact ih j x (by omega) hx
      · obtain ⟨y,hy⟩:=AE (l:=l) (k:=(j - 1) / 2) (by have:=AD hx;omega)
        exact Iq (h j x y (by omega) hx hy) (ih ((j - 1) / 2) y (by omega) hy)
  intro x hx
  obtain ⟨j,hj⟩:=List.getElem?_of_mem hx
  exact key j j x (by omega) hj
end
section
open Go Go.RowKit
theorem NJ {σ ρ:Type} {x:Option (Ctl σ ρ)} {I:σ→Prop} (h:∃ r,x=some r∧∃ s',r=Ctl.next s'∧I s'):∃ s',x=some (.next s')∧I s':=by
  obtain ⟨_,h1,s',rfl,h2⟩:=h
  exact ⟨s',h1,h2⟩
def FldOk (W:Nat) (f:PFd) (n:Int):Prop:=∃ k b w:Nat,f=⟨k,b,w,n⟩∧k < W∧b + w≤64∧w≤6∧n≤2 ^ w
def PkOk (vars:List Int) (p:Pkr):Prop:=p.fields.length=vars.length∧(∃ W:Nat,p.words=(W:Int)∧1≤W∧W≤vars.length + 1∧∀ (i:Nat) f n,p.fields[i]?=some f→vars[i]?=some n→FldOk W f n) ∧
  ∀ (i j:Nat) f g,i < j→p.fields[i]?=some f→p.fields[j]?=some g→f.word < g.word∨(f.word=g.word∧f.bit + f.width≤g.bit)
theorem QO:∀ {w:Nat},w≤6→shlI 1 (w:Int)=some ((2 ^ w:Nat):Int):=by
  intro w h
  have:w=0∨w=1∨w=2∨w=3∨w=4∨w=5∨w=6:=by omega
  rcases this with rfl|rfl|rfl|rfl|rfl|rfl|rfl<;>rfl
theorem QP {w:Nat} {n:Int} (hw:w≤6) (h:((2 ^ w:Nat):Int) < n) (hn:n≤64):w < 6:=by
  rcases Nat.lt_or_ge w 6 with hh|hh
  · exact hh
  · obtain rfl:w=6:=by omega
    simp at h;omega
def PkI (vars:List Int) (B W:Nat) (fs:List PFd):Prop:=(∀ (i:Nat) f n,fs[i]?=some f→vars[i]?=some n→FldOk W f n) ∧
  (∀ (i j:Nat) f g,i < j→fs[i]?=some f→fs[j]?=some g→f.word < g.word∨(f.word=g.word∧f.bit + f.width≤g.bit))∧∀ (i:Nat) f,fs[i]?=some f→f.word + 1 < (W:Int)∨(f.word + 1=(W:Int)∧f.bit + f.width≤(B:Int))
theorem PkI.over {vars:List Int} {B W:Nat} {fs:List PFd} (h:PkI vars B W fs):PkI vars 0 (W + 1) fs :=
  ⟨fun i f n hf hn=>by obtain ⟨k,b,w,e,e1,e2⟩:=h.1 i f n hf hn;exact ⟨k,b,w,e,by omega,e2⟩,h.2.1,fun i f hf=>by have:=h.2.2 i f hf;omega⟩
theorem DN {α:Type} {l:List α} {x y:α} {i:Nat} (h:(l ++ [x])[i]?=some y):l[i]?=some y∨(i=l.length∧y=x):=by
  rcases Nat.lt_trichotomy i l.length with hi|hi|hi
  · rw [List.getElem?_append_left hi] at h;exact .inl h
  · subst hi;simp at h;exact .inr ⟨rfl,h.symm⟩
  · rw [List.getElem?_append_right (by omega)] at h
    rw [List.getElem?_eq_none (by simp;omega)] at h
    cases h
theorem PkI.add {vars:List Int} {B W w:Nat} {fs:List PFd} {n:Int} (h:PkI vars B W fs) (hW:1≤W) (hn:vars[fs.length]?=some n) (hB:B + w≤64) (hw:w≤6) (hnw:n≤2 ^ w):PkI vars (B + w) W (fs ++ [⟨(W:Int) - 1,(B:Int),(w:Int),n⟩]):=by
  refine ⟨fun i f n' hf hn'=>?_,fun i j f g hij hf hg=>?_,fun i f hf=>?_⟩
  · rcases DN hf with hh|⟨rfl,rfl⟩
    · exact h.1 i f n' hh hn'
    · rw [hn] at hn'
      obtain rfl:=Option.some.inj hn'
      exact ⟨W - 1,B,w,by congr 1;omega,by omega,hB,hw,hnw⟩
  · rcases DN hg with hh|⟨rfl,rfl⟩
    · rcases DN hf with hk|⟨rfl,rfl⟩
      · exact h.2.1 i j f g hij hk hh
      · have:=AD hh;omega
    · rcases DN hf with hk|⟨rfl,rfl⟩
      · have:=h.2.2 i f hk
        dsimp only
        omega
      · omega
  · rcases DN hf with hh|⟨rfl,rfl⟩
    · have:=h.2.2 i f hh;omega
    · dsimp only;omega
theorem Or {vars:List Int} (hl:vars.length≤64) (hv:∀ (i:Nat) n,vars[i]?=some n→1≤n∧n≤64):∃ r,EE vars=some r∧∃ p,r=(some p,⟨0⟩)∧PkOk vars p:=by
  unfold EE
  rw [if_neg (by omega)]
  refine Hj (fun m s=>∃ B W:Nat,s.1=(B:Int)∧B≤64∧s.2.words=(W:Int)∧1≤W∧W≤m + 1∧s.2.fields.length=m∧PkI vars B W s.2.fields) (fun _=>False)
    ⟨0,1,rfl,by omega,rfl,by omega,by omega,rfl,fun i f n h=>by simp at h,fun i j f g _ h=>by simp at h,fun i f h=>by simp at h⟩ ?_ ?_ (fun q hq=>hq.elim)
  · rintro m n ⟨s1,s2⟩ hm ⟨B,W,hs1,hB,hW,hW1,hWm,hlen,hI⟩
    dsimp only at hs1 hW hlen hI
    subst hs1
    obtain ⟨hn1,hn2⟩:=hv m n hm
    have hml:=AD hm
    refine .inl (NJ ?_)
    rw [if_neg (by omega),if_neg (by omega),Ar,DH]
    refine Mz (fun c=>∃ w:Nat,c=(w:Int)∧w≤6) (fun c=>∃ w:Nat,c=(w:Int)∧w≤6∧n≤2 ^ w) (fun _=>False) (fun c=>7 - c.toNat) ⟨0,rfl,by omega⟩ ?_ ?_ (fun q hq=>hq.elim)
    · rintro c ⟨w,rfl,hw⟩
      rw [QO hw,Ar]
      by_cases hlt:((2 ^ w:Nat):Int) < n
      · have:=QP hw hlt hn2
        rw [if_pos hlt,BF (by unfold inI64;omega),Ar]
        exact .inl ⟨_,rfl,⟨w + 1,by omega,by omega⟩,by omega⟩
      · rw [if_neg hlt]
        refine .inr (.inl ⟨_,rfl,w,rfl,hw,?_⟩)
        have:((2 ^ w:Nat):Int)=(2:Int) ^ w:=by simp
        omega
    · rintro c ⟨w,rfl,hw,hnw⟩
      rw [Cq,BF (by unfold inI64;omega),Ar]
      have fin':∀ (B' W':Nat) (q:Pkr),B' + w≤64→1≤W'→W'≤m + 2→q.words=(W':Int)→q.fields=s2.fields→PkI vars B' W' s2.fields→∃ r,(bnd (chkI (q.words - 1)) fun n133=>bnd (appI 32 q.fields [(⟨n133,(B':Int),(w:Int),n⟩:PFd)]) fun u142=>bnd (chkI ((B':Int) + (w:Int))) fun n155=>some (Ctl.next (ρ:=(Option Pkr)×Err) (n155,(⟨u142,q.words⟩:Pkr))))=some r∧∃ s',r=Ctl.next s'∧∃ B W:Nat,s'.1=(B:Int)∧B≤64∧s'.2.words=(W:Int)∧1≤W∧W≤m + 1 + 1∧s'.2.fields.length=m + 1∧PkI vars B W s'.2.fields:=by
        intro B' W' q hB' hW' hWm' hq1 hq2 hI'
        rw [hq1,hq2,BF (by unfold inI64;omega),Ar,BX (by simp;omega) (by simp;omega),Ar,BF (by unfold inI64;omega),Ar]
        exact ⟨_,rfl,_,rfl,B' + w,W',by simp,hB',rfl,hW',by omega,by simp [hlen],hI'.add hW' (by rw [hlen];exact hm) hB' hw hnw⟩
      by_cases hover:64 < (B:Int) + (w:Int)
      · rw [if_pos hover]
        dsimp only
        rw [hW,BF (by unfold inI64;omega),Ar,Ar]
        exact fin' 0 (W + 1) ⟨s2.fields,(W:Int) + 1⟩ (by omega) (by omega) (by omega) (by simp) rfl hI.over
      · rw [if_neg hover,Ar]
        exact fin' B W s2 (by omega) hW1 (by omega) hW rfl hI
  · rintro ⟨s1,s2⟩ ⟨B,W,hs1,hB,hW,hW1,hWm,hlen,hI⟩
    exact ⟨_,rfl,s2,rfl,hlen,⟨W,hW,hW1,hWm,hI.1⟩,hI.2.1⟩
def InF (f:PFd) (x:Int) (k c:Nat):Prop:=f.word=(k:Int)∧f.bit≤(c:Int)∧(c:Int) < f.bit + f.width∧x.toNat.testBit (c - f.bit.toNat)=true
def Bits (fs:List PFd) (s:List Int) (p:Nat→Prop) (ws:List U64):Prop:=∀ (k c:Nat) a,ws[k]?=some a→c < 64→(a.getLsbD c=true↔∃ (i:Nat) (f:PFd) (x:Int),p i∧fs[i]?=some f∧s[i]?=some x∧InF f x k c)
theorem ones {w:Nat} (h:w≤6):((1:U64) <<< w) - (1:U64)=BitVec.ofNat 64 (2 ^ w - 1):=by
  have:w=0∨w=1∨w=2∨w=3∨w=4∨w=5∨w=6:=by omega
  rcases this with rfl|rfl|rfl|rfl|rfl|rfl|rfl<;>rfl
theorem MI {w b c:Nat} (hw:w≤6) (hc:c < 64):((((1:U64) <<< w) - (1:U64)) <<< b).getLsbD c=(decide (b≤c) && decide (c < b + w)):=by
  rw [ones hw,BitVec.getLsbD_shiftLeft,BitVec.getLsbD_ofNat,Nat.testBit_two_pow_sub_one]
  by_cases h1:b≤c<;>by_cases h2:c < b + w<;>simp [h1,h2,hc]<;>omega
theorem Lm {x:Int} {w j:Nat} (h0:0≤x) (h1:x < 2 ^ w) (ht:x.toNat.testBit j=true):j < w:=by
  rcases Nat.lt_or_ge j w with h|h
  · exact h
  · have h2:x.toNat < 2 ^ w:=by
      have:((2 ^ w:Nat):Int)=(2:Int) ^ w:=by simp
      omega
    rw [Nat.testBit_lt_two_pow (Nat.lt_of_lt_of_le h2 (Nat.pow_le_pow_right (by omega) h))] at ht
    cases ht
theorem PkOk.field {vars:List Int} {p:Pkr} (h:PkOk vars p) {s:List Int} (hs:StateOk vars s) {i:Nat} {f:PFd} (hf:p.fields[i]?=some f):∃ (k b w:Nat) (n x:Int),f=⟨k,b,w,n⟩∧(k:Int) < p.words∧b + w≤64∧w≤6∧s[i]?=some x∧0≤x∧x < n∧x < 2 ^ w:=by
  obtain ⟨h1,⟨W,hW,_,_,h2⟩,h3⟩:=h
  have hi:=AD hf
  obtain ⟨n,hn⟩:=AE (l:=vars) (k:=i) (by omega)
  obtain ⟨x,hx⟩:=AE (l:=s) (k:=i) (by have:=hs.1;omega)
  obtain ⟨k,b,w,e,e1,e2,e3,e4⟩:=h2 i f n hf hn
  have:=hs.2 i x n hx hn
  exact ⟨k,b,w,n,x,e,by omega,e2,e3,hx,this.1,this.2,by omega⟩
theorem PkOk.same {vars:List Int} {p:Pkr} (h:PkOk vars p) {i j:Nat} {f g:PFd} {k c:Nat} (hf:p.fields[i]?=some f) (hg:p.fields[j]?=some g) (h1:f.word=(k:Int)∧f.bit≤(c:Int)∧(c:Int) < f.bit + f.width) (h2:g.word=(k:Int)∧g.bit≤(c:Int)∧(c:Int) < g.bit + g.width):i=j:=by
  rcases Nat.lt_trichotomy i j with hh|hh|hh
  · have:=h.2.2 i j f g hh hf hg;omega
  · exact hh
  · have:=h.2.2 j i g f hh hg hf;omega
theorem JG {vars:List Int} {p:Pkr} (h:PkOk vars p) (hl:vars.length≤64) {s:List Int} (hs:StateOk vars s):∃ r,BO p s=some r∧r.2=⟨0⟩∧(r.1.length:Int)=p.words∧Bits p.fields s (fun _=>True) r.1:=by
  obtain ⟨W,hW,hW1,hW2,_⟩:=h.2.1
  unfold BO
  rw [if_neg (by have:=h.1;have:=hs.1;omega),hW,IY (by omega) (by omega),Ar]
  refine Hj (fun m ws=>(ws.length:Int)=(W:Int)∧Bits p.fields s (fun i=>i < m) ws) (fun _=>False) ⟨by simp,?_⟩ ?_ ?_ (fun q hq=>hq.elim)
  · intro k c a ha _
    have:=List.eq_of_mem_replicate (List.mem_of_getElem? ha)
    subst this
    constructor
    · intro hh;simp at hh
    · rintro ⟨i,_,_,hi,_⟩;omega
  · rintro m f ws hm ⟨hwl,hb⟩
    refine .inl (NJ ?_)
    obtain ⟨k,b,w,n,x,rfl,hk,hbw,hw,hx,hx0,hxn,hxw⟩:=h.field hs hm
    dsimp only
    obtain ⟨a,ha⟩:=AE (l:=ws) (k:=k) (by omega)
    rw [hx,Ar,if_neg (by omega),Ar,if_neg (by omega),Ar,DH,Bv,ha,Ar,Ar]
    unfold shlU
    rw [if_pos (by omega),Ar,Ar]
    refine ⟨_,rfl,_,rfl,by simpa using hwl,?_⟩
    simp only [Int.toNat_natCast]
    have hxb:∀ c:Nat,c < 64→((a ||| (BitVec.ofInt 64 x <<< b)).getLsbD c=true↔a.getLsbD c=true∨(b≤c∧x.toNat.testBit (c - b)=true)):=by
      intro c hc
      have hofi:BitVec.ofInt 64 x=BitVec.ofNat 64 x.toNat:=by
        rw [← BitVec.ofInt_natCast,Int.toNat_of_nonneg hx0]
      rw [BitVec.getLsbD_or,BitVec.getLsbD_shiftLeft,hofi,BitVec.getLsbD_ofNat]
      by_cases h1:b≤c
      · have:c - b < 64:=by omega
        simp [hc,h1,this,Nat.not_lt.2 h1]
      · simp [hc,h1,Nat.lt_of_not_le h1]
    intro k' c a' ha' hc
    by_cases e:k=k'
    · subst e
      rw [List.getElem?_set_self (AD ha)] at ha'
      obtain rfl:=Option.some.inj ha'
      rw [hxb c hc,hb k c a ha hc]
      constructor
      · rintro (⟨i,f,y,hi,hr⟩|⟨h1,h2⟩)
        · exact ⟨i,f,y,by omega,hr⟩
        · have:=Lm hx0 hxw h2
          exact ⟨m,_,x,by omega,hm,hx,rfl,by dsimp only;omega,by dsimp only;omega,by simpa using h2⟩
      · rintro ⟨i,f,y,hi,hf,hy,hin⟩
        by_cases he:i=m
        · subst he
          rw [hm] at hf
          obtain rfl:=Option.some.inj hf
          rw [hx] at hy
          obtain rfl:=Option.some.inj hy
          obtain ⟨_,i2,i3,i4⟩:=hin
          dsimp only at i2 i3 i4
          exact .inr ⟨by omega,by simpa using i4⟩
        · exact .inl ⟨i,f,y,by omega,hf,hy,hin⟩
    · rw [List.getElem?_set_ne e] at ha'
      rw [hb k' c a' ha' hc]
      constructor
      · rintro ⟨i,f,y,hi,hr⟩;exact ⟨i,f,y,by omega,hr⟩
      · rintro ⟨i,f,y,hi,hf,hy,hin⟩
        by_cases he:i=m
        · subst he
          rw [hm] at hf
          obtain rfl:=Option.some.inj hf
          have:=hin.1
          dsimp only at this
          omega
        · exact ⟨i,f,y,by omega,hf,hy,hin⟩
  · rintro ws ⟨hwl,hb⟩
    refine ⟨_,rfl,rfl,hwl,fun k c a ha hc=>?_⟩
    rw [hb k c a ha hc]
    constructor
    · rintro ⟨i,f,x,_,hr⟩;exact ⟨i,f,x,trivial,hr⟩
    · rintro ⟨i,f,x,_,hf,hr⟩;exact ⟨i,f,x,AD hf,hf,hr⟩
theorem NK {k b w:Nat} {n:Int}:CA ⟨k,b,w,n⟩=some ((((1:U64) <<< w) - (1:U64)) <<< b):=by
  unfold CA shlU
  dsimp only
  rw [if_pos (by omega),Ar,if_pos (by omega),Ar]
  simp
theorem RU {vars:List Int} {p:Pkr} (h:PkOk vars p) {s:List Int} (hs:StateOk vars s) {ws:List U64} (hwl:(ws.length:Int)=p.words) (hb:Bits p.fields s (fun _=>True) ws) {i:Nat} {f:PFd} {x:Int} (hf:p.fields[i]?=some f) (hx:s[i]?=some x):Db f ws=some x:=by
  obtain ⟨k,b,w,n,x',rfl,hk,hbw,hw,hx',hx0,hxn,hxw⟩:=h.field hs hf
  rw [hx] at hx'
  obtain rfl:=Option.some.inj hx'
  obtain ⟨a,ha⟩:=AE (l:=ws) (k:=k) (by omega)
  unfold Db
  dsimp only
  rw [Bv,ha,Ar,NK,Ar]
  unfold shrU
  rw [if_pos (by omega),Ar]
  have hval : (a &&& ((((1:U64) <<< w) - (1:U64)) <<< b)) >>> b=BitVec.ofNat 64 x.toNat:=by
    apply BitVec.eq_of_getLsbD_eq
    intro j hj
    rw [BitVec.getLsbD_ushiftRight,BitVec.getLsbD_and,BitVec.getLsbD_ofNat]
    by_cases hjb:b + j < 64
    · rw [MI hw hjb]
      by_cases hjw:j < w
      · have h1:=hb k (b + j) a ha hjb
        have h2:a.getLsbD (b + j)=x.toNat.testBit j:=by
          cases ht:x.toNat.testBit j with
          | true=>exact h1.2 ⟨i,_,x,trivial,hf,hx,rfl,by dsimp only;omega,by dsimp only;omega,by simpa using ht⟩
          | false =>
            cases hg:a.getLsbD (b + j) with
            | false=>rfl
            | true =>
              obtain ⟨i',f',x',_,hf',hx',hin⟩:=h1.1 hg
              have hii:=h.same (k:=k) (c:=b + j) hf hf' ⟨rfl,by dsimp only;omega,by dsimp only;omega⟩ ⟨hin.1,hin.2.1,hin.2.2.1⟩
              subst hii
              rw [hf] at hf'
              obtain rfl:=Option.some.inj hf'
              rw [hx] at hx'
              obtain rfl:=Option.some.inj hx'
              have:=hin.2.2.2
              simp at this
              rw [this] at ht
              cases ht
        rw [h2]
        simp [hj,hjw]
      · have hf0:x.toNat.testBit j=false:=by
          cases ht:x.toNat.testBit j with
          | false=>rfl
          | true=>exact absurd (Lm hx0 hxw ht) hjw
        simp [hf0,hjw]
    · have hf0:x.toNat.testBit j=false:=by
        cases ht:x.toNat.testBit j with
        | false=>rfl
        | true=>have:=Lm hx0 hxw ht;omega
      rw [BitVec.getLsbD_of_ge _ _ (by omega)]
      simp [hf0]
  have h64:(2:Int) ^ w≤64:=by
    have:w=0∨w=1∨w=2∨w=3∨w=4∨w=5∨w=6:=by omega
    rcases this with rfl|rfl|rfl|rfl|rfl|rfl|rfl<;>decide
  simp only [Int.toNat_natCast]
  rw [hval]
  congr 1
  rw [BitVec.toInt_eq_toNat_of_lt (by rw [BitVec.toNat_ofNat];omega),BitVec.toNat_ofNat]
  omega
theorem Jp {vars:List Int} {p:Pkr} (h:PkOk vars p) (hl:vars.length≤64) {s:List Int} (hs:StateOk vars s) {ws:List U64} (hwl:(ws.length:Int)=p.words) (hb:Bits p.fields s (fun _=>True) ws):Cy p ws=some (s,⟨0⟩):=by
  obtain ⟨W,hW,hW1,hW2,_⟩:=h.2.1
  have hsl:=hs.1
  have hfl:=h.1
  unfold Cy
  rw [if_neg (by omega),IY (by omega) (by omega),Ar]
  unfold BY
  rw [if_pos (by omega),Ar]
  refine Lk (fun m st=>st.1.length=s.length∧(∀ (i:Nat) x,i < m→s[i]?=some x→st.1[i]?=some x)∧st.2.length=ws.length∧Bits p.fields s (fun i=>m≤i) st.2) ⟨by simp;omega,fun i x hi=>by omega,rfl,?_⟩ ?_ ?_
  · intro k c a ha hc
    rw [hb k c a ha hc]
    constructor
    · rintro ⟨i,f,x,_,hr⟩;exact ⟨i,f,x,by omega,hr⟩
    · rintro ⟨i,f,x,_,hr⟩;exact ⟨i,f,x,trivial,hr⟩
  · rintro m f ⟨out,rest⟩ hm ⟨i1,i2,i3,i4⟩
    dsimp only at i1 i2 i3 i4 ⊢
    obtain ⟨k,b,w,n,x,rfl,hk,hbw,hw,hx,hx0,hxn,hxw⟩:=h.field hs hm
    have hml:=AD hx
    obtain ⟨u,hu⟩:=AE (l:=out) (k:=m) (by omega)
    obtain ⟨a,ha⟩:=AE (l:=rest) (k:=k) (by omega)
    rw [RU h hs hwl hb hm hx,Ar,hu,Ar,List.getElem?_set_self (by omega),Ar]
    dsimp only
    rw [if_neg (by omega),Bv,ha,Ar,NK,Ar,Ar]
    refine ⟨_,rfl,by simpa using i1,fun i y hi hy=>?_,by simpa using i3,?_⟩
    · by_cases e:i=m
      · subst e
        rw [hx] at hy
        obtain rfl:=Option.some.inj hy
        exact List.getElem?_set_self (by omega)
      · show (out.set m x)[i]?=_
        rw [List.getElem?_set_ne (by omega)]
        exact i2 i y (by omega) hy
    · show Bits p.fields s _ (rest.set ((k:Int)).toNat _)
      simp only [Int.toNat_natCast]
      intro k' c a' ha' hc
      by_cases e:k=k'
      · subst e
        rw [List.getElem?_set_self (AD ha)] at ha'
        obtain rfl:=Option.some.inj ha'
        rw [BitVec.getLsbD_and,BitVec.getLsbD_not,MI hw hc]
        have h1:=i4 k c a ha hc
        constructor
        · intro hh
          simp only [Bool.and_eq_true,Bool.not_eq_true',decide_eq_true_eq] at hh
          obtain ⟨i,f,y,hi,hf,hy,hin⟩:=h1.1 hh.1
          refine ⟨i,f,y,?_,hf,hy,hin⟩
          rcases Nat.lt_or_ge m i with hlt|hge
          · exact hlt
          · exfalso
            obtain rfl:i=m:=by omega
            rw [hm] at hf
            obtain rfl:=Option.some.inj hf
            obtain ⟨_,j2,j3,_⟩:=hin
            dsimp only at j2 j3
            have h2:=hh.2.2
            rw [show decide (b≤c)=true from by simp;omega,show decide (c < b + w)=true from by simp;omega] at h2
            cases h2
        · rintro ⟨i,f,y,hi,hf,hy,hin⟩
          have hg:=h1.2 ⟨i,f,y,by omega,hf,hy,hin⟩
          have hno:¬ (b≤c∧c < b + w):=fun hh=>by
            have:=h.same (k:=k) (c:=c) hm hf ⟨rfl,by dsimp only;omega,by dsimp only;omega⟩ ⟨hin.1,hin.2.1,hin.2.2.1⟩
            omega
          rw [hg]
          by_cases q1:b≤c
          · have q2:¬ c < b + w:=fun hh=>hno ⟨q1,hh⟩
            simp [hc,q1,q2]
          · simp [hc,q1]
      · rw [List.getElem?_set_ne e] at ha'
        rw [i4 k' c a' ha' hc]
        constructor
        · rintro ⟨i,f,y,hi,hf,hy,hin⟩
          refine ⟨i,f,y,?_,hf,hy,hin⟩
          rcases Nat.lt_or_ge m i with hlt|hge
          · exact hlt
          · exfalso
            obtain rfl:i=m:=by omega
            rw [hm] at hf
            obtain rfl:=Option.some.inj hf
            have:=hin.1
            dsimp only at this
            omega
        · rintro ⟨i,f,y,hi,hr⟩;exact ⟨i,f,y,by omega,hr⟩
  · rintro ⟨out,rest⟩ ⟨i1,i2,i3,i4⟩
    dsimp only at i1 i2 i3 i4
    rw [Cq]
    dsimp only
    have hout:out=s:=by
      apply List.ext_getElem?
      intro i
      rcases Nat.lt_or_ge i s.length with hi|hi
      · obtain ⟨x,hx⟩:=AE (l:=s) (k:=i) hi
        rw [hx];exact i2 i x (by omega) hx
      · rw [List.getElem?_eq_none hi,List.getElem?_eq_none (by omega)]
    subst hout
    refine Lk (fun _ _=>True) trivial (fun k a _ hk _=>⟨(),?_,trivial⟩) (fun _ _=>rfl)
    obtain ⟨a',ha'⟩:=AE (l:=rest) (k:=k) (by have:=AD hk;omega)
    rw [ha',Ar]
    have hz:a'=0:=by
      apply BitVec.eq_of_getLsbD_eq
      intro c hc
      cases hg:a'.getLsbD c with
      | false=>simp
      | true =>
        obtain ⟨i,f,x,hi,hf,_⟩:=(i4 k c a' ha' hc).1 hg
        have:=AD hf
        omega
    subst hz
    rw [if_neg (by simp)]
theorem PQ {vars:List Int} {p:Pkr} (h:PkOk vars p) (hl:vars.length≤64) {s s':List Int} (hs:StateOk vars s) (hs':StateOk vars s') {ws:List U64} (h1:BO p s=some (ws,⟨0⟩)) (h2:BO p s'=some (ws,⟨0⟩)):s=s':=by
  obtain ⟨r,r1,r2,r3,r4⟩:=JG h hl hs
  obtain ⟨q,q1,q2,q3,q4⟩:=JG h hl hs'
  rw [h1] at r1
  rw [h2] at q1
  obtain rfl:=Option.some.inj r1
  obtain rfl:=Option.some.inj q1
  have e1:=Jp h hl hs r3 r4
  have e2:=Jp h hl hs' q3 q4
  rw [e1] at e2
  have:=Option.some.inj e2
  exact congrArg Prod.fst this
end
section
open Go Go.RowKit
theorem LJ {K V:Type} [MKey K] (z:V) (k k':K) (v:V):∀ l:List (K×V),mget z (mput l k v) k'=if k=k' then v else mget z l k'
  | []=>by simp only [mput,mget]
  | p :: r=>by
    have ih:=LJ z k k' v r
    simp only [mput]
    by_cases h1:p.1=k
    · rw [if_pos h1]
      simp only [mget]
      by_cases h2:k=k'
      · rw [if_pos h2,if_pos h2]
      · rw [if_neg h2,if_neg h2,if_neg (by rw [h1];exact h2)]
    · rw [if_neg h1]
      simp only [mget,ih]
      by_cases h2:k=k'
      · rw [if_pos h2,if_pos h2,if_neg (by rw [← h2];exact h1)]
      · rw [if_neg h2,if_neg h2]
theorem Pg (p:Pkr) (ws:List U64):∃ h,Ca p ws=some h:=by
  have:∃ r,Ca p ws=some r∧True:=by
    unfold Ca
    refine Hj (fun _ _=>True) (fun _=>False) trivial (fun i x s _ _=>.inl ?_) (fun s _=>?_) (fun q hq=>hq.elim)
    · exact ⟨_,rfl,trivial⟩
    · exact ⟨_,rfl,trivial⟩
  obtain ⟨h,h1,_⟩:=this
  exact ⟨h,h1⟩
theorem RV (a b:List U64):BH a b=some (decide (a=b)):=by
  unfold BH
  by_cases hl:(a.length:Int)=(b.length:Int)
  · rw [if_neg (by omega)]
    have:∃ r,(bnd (rng (ρ:=Bool) (fun (k18:Nat) (a19:U64) (_:Unit)=>bnd (b[k18]?) fun a36=>if (a19.toNat:Int)≠(a36.toNat:Int) then (some (.ret false)) else (some (.next ()))) a 0 ()) fun res14=>fin res14 fun (_:Unit)=>some true)=some r∧r=decide (a=b):=by
      refine Hj (fun m _=>∀ (i:Nat),i < m→a[i]?=b[i]?) (fun r=>r=false∧a≠b) (fun i hi=>by omega) ?_ ?_ ?_
      · intro i x _ hx hI
        obtain ⟨y,hy⟩:=AE (l:=b) (k:=i) (by have:=AD hx;omega)
        rw [hy,Ar]
        by_cases he:x=y
        · subst he
          rw [if_neg (by simp)]
          refine .inl ⟨(),rfl,fun j hj=>?_⟩
          by_cases e:j=i
          · subst e;rw [hx,hy]
          · exact hI j (by omega)
        · rw [if_pos (fun h=>he (BitVec.eq_of_toNat_eq (by omega)))]
          refine .inr ⟨_,rfl,rfl,fun h=>he ?_⟩
          rw [h,hy] at hx
          exact (Option.some.inj hx).symm
      · intro _ hI
        refine ⟨_,rfl,?_⟩
        symm
        rw [decide_eq_true_eq]
        apply List.ext_getElem?
        intro i
        rcases Nat.lt_or_ge i a.length with h|h
        · exact hI i h
        · rw [List.getElem?_eq_none h,List.getElem?_eq_none (by omega)]
      · rintro q ⟨rfl,hne⟩
        exact ⟨_,rfl,by simp [hne]⟩
    obtain ⟨r,h1,h2⟩:=this
    rw [h1,h2]
  · rw [if_pos hl]
    congr 1
    symm
    rw [decide_eq_false_iff_not]
    exact fun h=>hl (by rw [h])
structure RegI (vars:List Int) (r:Reg) (L:List (List Int)):Prop where
  pk:PkOk vars r.packer
  len:r.entries.length=L.length
  st:∀ (i:Nat) s,L[i]?=some s→StateOk vars s
  words:∀ (i:Nat) s e,L[i]?=some s→r.entries[i]?=some e→BO r.packer s=some (e.words,⟨0⟩)
  nodup:∀ (i j:Nat) s,L[i]?=some s→L[j]?=some s→i=j
  tab:∀ (i:Nat) e,r.entries[i]?=some e→∃ h,Ca r.packer e.words=some h∧(i:Int)∈mget ([]:List Int) r.table.l h
  val:∀ h a,a∈mget ([]:List Int) r.table.l h→∃ i:Nat,a=(i:Int)∧i < L.length
  few:∀ h,(mget ([]:List Int) r.table.l h).length≤L.length
def links (r:Reg):List RLk:=r.entries.map (·.link)
theorem Ph {vars:List Int} (hl:vars.length≤64) (hv:∀ (i:Nat) n,vars[i]?=some n→1≤n∧n≤64):∃ r,Dt vars=some r∧∃ q,r=(some q,⟨0⟩)∧RegI vars q []∧links q=[]:=by
  obtain ⟨r,h1,p,rfl,hp⟩:=Or hl hv
  unfold Dt
  rw [h1,Ar,if_neg (by simp),Ar]
  exact ⟨_,rfl,_,rfl,⟨hp,rfl,fun i s h=>by simp at h,fun i s e h=>by simp at h,fun i j s h=>by simp at h,fun i e h=>by simp at h,fun h a ha=>by simp [mget] at ha,fun h=>by simp [mget]⟩,rfl⟩
theorem Ot {vars:List Int} (hl:vars.length≤64) {r:Reg} {L:List (List Int)} (h:RegI vars r L) {s:List Int} (hs:StateOk vars s):∃ (ws:List U64) (hh:Int),BO r.packer s=some (ws,⟨0⟩)∧Ca r.packer ws=some hh ∧
    ((∃ i:Nat,L[i]?=some s∧BE r s=some (ws,hh,(i:Int),⟨0⟩))∨((∀ i:Nat,L[i]?≠some s)∧BE r s=some (ws,hh,-1,⟨0⟩))):=by
  obtain ⟨⟨ws,er⟩,p1,p2,p3,p4⟩:=JG h.pk hl hs
  dsimp only at p2 p3 p4
  subst p2
  obtain ⟨hh,hhe⟩:=Pg r.packer ws
  refine ⟨ws,hh,p1,hhe,?_⟩
  have key:∃ res,BE r s=some res∧((∃ i:Nat,L[i]?=some s∧res=(ws,hh,(i:Int),⟨0⟩))∨((∀ i:Nat,L[i]?≠some s)∧res=(ws,hh,-1,⟨0⟩))):=by
    unfold BE
    rw [p1,Ar,if_neg (by simp),hhe,Ar]
    refine Hj (fun m _=>∀ (j:Nat) (i:Nat),j < m→(mget ([]:List Int) r.table.l hh)[j]?=some (i:Int)→L[i]?≠some s) (fun res=>∃ i:Nat,L[i]?=some s∧res=(ws,hh,(i:Int),⟨0⟩)) (fun j i hj=>by omega) ?_ ?_ ?_
    · intro m a _ hm hI
      obtain ⟨i,rfl,hi⟩:=h.val hh a (List.mem_of_getElem? hm)
      obtain ⟨e,he⟩:=AE (l:=r.entries) (k:=i) (by rw [h.len];exact hi)
      obtain ⟨s',hs'⟩:=AE (l:=L) (k:=i) hi
      have hw:=h.words i s' e hs' he
      rw [Bv,he,Ar,RV,Ar]
      by_cases hew:e.words=ws
      · rw [decide_eq_true hew,Du]
        rw [hew] at hw
        have:=PQ h.pk hl (h.st i s' hs') hs hw p1
        subst this
        exact .inr ⟨_,rfl,i,hs',rfl⟩
      · rw [decide_eq_false hew,DH]
        refine .inl ⟨(),rfl,fun j i' hj hi'=>?_⟩
        by_cases e1:j=m
        · subst e1
          rw [hm] at hi'
          have e2:i=i':=by have:=Option.some.inj hi';omega
          subst e2
          intro hL
          rw [hL] at hs'
          obtain rfl:=Option.some.inj hs'
          rw [p1] at hw
          exact hew (congrArg Prod.fst (Option.some.inj hw)).symm
        · exact hI j i' (by omega) hi'
    · intro _ hI
      refine ⟨_,rfl,.inr ⟨fun i hL=>?_,rfl⟩⟩
      obtain ⟨e,he⟩:=AE (l:=r.entries) (k:=i) (by rw [h.len];exact AD hL)
      have hw:=h.words i s e hL he
      rw [p1] at hw
      have hwe:ws=e.words:=congrArg Prod.fst (Option.some.inj hw)
      obtain ⟨h',t1,t2⟩:=h.tab i e he
      rw [← hwe,hhe] at t1
      obtain rfl:=Option.some.inj t1
      obtain ⟨j,hj⟩:=List.getElem?_of_mem t2
      exact hI j i (AD hj) hj hL
    · rintro q ⟨i,hi,rfl⟩
      exact ⟨_,rfl,.inl ⟨i,hi,rfl⟩⟩
  obtain ⟨res,k1,k2⟩:=key
  rcases k2 with ⟨i,hi,rfl⟩|⟨hn,rfl⟩
  · exact .inl ⟨i,hi,k1⟩
  · exact .inr ⟨hn,k1⟩
theorem LK {vars:List Int} (hl:vars.length≤64) {r:Reg} {L:List (List Int)} (h:RegI vars r L) {s:List Int} (hs:StateOk vars s) (hL:L.length < 65536) :
    (∃ i:Nat,L[i]?=some s∧By r s=some ((i:Int),false,⟨0⟩,r))∨((∀ i:Nat,L[i]?≠some s)∧∃ r',By r s=some ((L.length:Int),true,⟨0⟩,r')∧RegI vars r' (L ++ [s])∧links r'=links r ++ [⟨-1,-1,0⟩]):=by
  obtain ⟨ws,hh,p1,p2,hf⟩:=Ot hl h hs
  unfold By
  have hlen:=h.len
  rcases hf with ⟨i,hi,hf⟩|⟨hno,hf⟩
  · refine .inl ⟨i,hi,?_⟩
    rw [hf,Ar,if_neg (by simp),if_pos (by dsimp only;omega)]
  · refine .inr ⟨hno,?_⟩
    have hfew:=h.few hh
    rw [hf,Ar,if_neg (by simp),if_neg (by dsimp only;omega),if_neg (by omega)]
    dsimp only
    rw [BX (by simp;omega) (by simp;omega),Ar,BX (by simp;omega) (by simp;omega),Ar,hlen]
    have hget:∀ k,mget ([]:List Int) (mput r.table.l hh (mget ([]:List Int) r.table.l hh ++ [(L.length:Int)])) k=if hh=k then mget ([]:List Int) r.table.l hh ++ [(L.length:Int)] else mget ([]:List Int) r.table.l k:=fun k=>LJ _ _ _ _ _
    refine ⟨_,rfl,⟨h.pk,by simp [hlen],?_,?_,?_,?_,?_,?_⟩,by simp [links]⟩
    · intro i s' hi
      rcases DN hi with hi|⟨_,rfl⟩
      · exact h.st i s' hi
      · exact hs
    · intro i s' e hi he
      rcases DN hi with hi|⟨hi,rfl⟩
      · rcases DN he with he|⟨he,_⟩
        · exact h.words i s' e hi he
        · have:=AD hi;omega
      · rcases DN he with he|⟨he,rfl⟩
        · have:=AD he;omega
        · exact p1
    · intro i j s' hi hj
      rcases DN hi with hi2|⟨hi2,hs2⟩
      · rcases DN hj with hj2|⟨hj2,hs2⟩
        · exact h.nodup i j s' hi2 hj2
        · exact absurd (hs2 ▸ hi2) (hno i)
      · rcases DN hj with hj2|⟨hj2,_⟩
        · exact absurd (hs2 ▸ hj2) (hno j)
        · omega
    · intro i e he
      rcases DN he with he|⟨hi,rfl⟩
      · obtain ⟨k,k1,k2⟩:=h.tab i e he
        refine ⟨k,k1,?_⟩
        dsimp only
        rw [hget]
        by_cases e1:hh=k
        · subst e1;rw [if_pos rfl];exact List.mem_append_left _ k2
        · rw [if_neg e1];exact k2
      · refine ⟨hh,p2,?_⟩
        dsimp only
        rw [hget,if_pos rfl,hi,hlen]
        simp
    · intro k a ha
      dsimp only at ha
      rw [hget] at ha
      simp only [List.length_append,List.length_singleton]
      by_cases e1:hh=k
      · rw [if_pos e1] at ha
        rcases List.mem_append.1 ha with ha|ha
        · obtain ⟨i,h1,h2⟩:=h.val hh a ha;exact ⟨i,h1,by omega⟩
        · exact ⟨L.length,by simpa using ha,by omega⟩
      · rw [if_neg e1] at ha
        obtain ⟨i,h1,h2⟩:=h.val k a ha;exact ⟨i,h1,by omega⟩
    · intro k
      dsimp only
      rw [hget]
      have:=h.few k
      simp only [List.length_append,List.length_singleton]
      by_cases e1:hh=k
      · rw [if_pos e1];simp;omega
      · rw [if_neg e1];omega
theorem Hy {vars:List Int} {r:Reg} {L:List (List Int)} (h:RegI vars r L) {i:Nat} (hi:i < L.length):Bj r (i:Int)=some true:=by
  unfold Bj
  rw [if_pos (by omega),if_pos (by rw [h.len];omega)]
  rfl
theorem No {vars:List Int} (hl:vars.length≤64) {r:Reg} {L:List (List Int)} (h:RegI vars r L) {i:Nat} {s:List Int} (hi:L[i]?=some s):BJ r (i:Int)=some (s,⟨0⟩):=by
  obtain ⟨e,he⟩:=AE (l:=r.entries) (k:=i) (by rw [h.len];exact AD hi)
  have hs:=h.st i s hi
  obtain ⟨⟨ws,er⟩,p1,p2,p3,p4⟩:=JG h.pk hl hs
  have hw:=h.words i s e hi he
  rw [p1] at hw
  have hwe:ws=e.words:=congrArg Prod.fst (Option.some.inj hw)
  dsimp only at p3 p4
  rw [hwe] at p3 p4
  unfold BJ
  rw [Hy h (AD hi),Ar,Du,Bv,he,Ar,Jp h.pk hl hs p3 p4,Ar]
theorem KR {vars:List Int} {r:Reg} {L:List (List Int)} (h:RegI vars r L) {i:Nat} (hi:i < L.length) {p o c:Int} (hp:p=-1∨∃ j:Nat,p=(j:Int)∧j < L.length):∃ r',BD r (i:Int) p o c=some (⟨0⟩,r')∧RegI vars r' L∧links r'=(links r).set i ⟨p,o,c⟩:=by
  obtain ⟨e,he⟩:=AE (l:=r.entries) (k:=i) (by rw [h.len];exact hi)
  unfold BD
  have hcond:(bnd (Bj r (i:Int)) fun q10=>if q10=true then if p≠(-1) then (bnd (Bj r p) fun q20=>if q20=true then some false else some true) else (some false) else some true:Option Bool)=some false:=by
    rw [Hy h hi,Ar,Du]
    rcases hp with rfl|⟨j,rfl,hj⟩
    · rfl
    · rw [if_pos (by omega),Hy h hj];rfl
  rw [hcond,Ar,DH,Bv,he,Ar]
  have hge:∀ (j:Nat) x,(r.entries.set ((i:Int)).toNat ({ e with link:=(⟨p,o,c⟩:RLk) }:REn))[j]?=some x→∃ y,r.entries[j]?=some y∧x.words=y.words:=by
    intro j x hx
    rw [Int.toNat_natCast] at hx
    by_cases e1:i=j
    · subst e1
      rw [List.getElem?_set_self (AD he)] at hx
      obtain rfl:=Option.some.inj hx
      exact ⟨e,he,rfl⟩
    · rw [List.getElem?_set_ne e1] at hx
      exact ⟨x,hx,rfl⟩
  refine ⟨_,rfl,⟨h.pk,by simp [h.len],h.st,?_,h.nodup,?_,h.val,h.few⟩,?_⟩
  · intro j s x hj hx
    obtain ⟨y,hy,hxy⟩:=hge j x hx
    rw [hxy];exact h.words j s y hj hy
  · intro j x hx
    obtain ⟨y,hy,hxy⟩:=hge j x hx
    rw [hxy];exact h.tab j y hy
  · simp [links,List.map_set]
theorem RW {xs:List Int} (hl:xs.length≤1000000):BK xs=some xs.reverse:=by
  unfold BK
  rw [BF (by unfold inI64;omega),Ar]
  refine QL (fun s=>∃ i:Nat,s.2.1=(i:Int)∧s.2.1 + s.2.2=(xs.length:Int) - 1∧i≤xs.length∧s.1.length=xs.length∧∀ k:Nat,k < xs.length→s.1[k]?=if k < i∨xs.length - 1 - k < i then xs[xs.length - 1 - k]? else xs[k]?) (fun s=>s.1=xs.reverse) (fun s=>(s.2.2 - s.2.1 + 1).toNat) ⟨0,rfl,by dsimp only;omega,by omega,rfl,fun k hk=>by rw [if_neg (by omega)]⟩ ?_ (fun s hs=>by rw [Cq,hs])
  rintro ⟨ys,i',j⟩ ⟨i,hi,hij,hil,hlen,hg⟩
  dsimp only at hi hij hlen hg ⊢
  subst hi
  by_cases hlt:(i:Int) < j
  · obtain ⟨jn,rfl⟩:∃ jn:Nat,j=(jn:Int):=⟨j.toNat,by omega⟩
    obtain ⟨a,ha⟩:=AE (l:=ys) (k:=jn) (by omega)
    obtain ⟨b,hb⟩:=AE (l:=ys) (k:=i) (by omega)
    rw [if_pos hlt,Bv,ha,Ar,Bv,hb,Ar,Ar,Int.toNat_natCast,Int.toNat_natCast,Bv,List.getElem?_set_ne (by omega),ha,Ar,BF (by unfold inI64;omega),Ar,BF (by unfold inI64;omega),Ar]
    refine .inl ⟨_,rfl,⟨i + 1,by dsimp only;omega,by dsimp only;omega,by omega,by simp [hlen],fun k hk=>?_⟩,by dsimp only;omega⟩
    dsimp only
    have hga:=hg jn (by omega)
    rw [ha,if_neg (by omega)] at hga
    have hgb:=hg i (by omega)
    rw [hb,if_neg (by omega)] at hgb
    by_cases e1:k=jn
    · subst e1
      rw [List.getElem?_set_self (by simp;omega),if_pos (by omega),hgb]
      congr 1;omega
    · rw [List.getElem?_set_ne (by omega)]
      by_cases e2:k=i
      · subst e2
        rw [List.getElem?_set_self (by omega),if_pos (by omega),hga]
        congr 1;omega
      · rw [List.getElem?_set_ne (by omega),hg k hk]
        by_cases e3:k < i∨xs.length - 1 - k < i
        · rw [if_pos e3,if_pos (by omega)]
        · rw [if_neg e3,if_neg (by omega)]
  · rw [if_neg hlt]
    refine .inr ⟨_,rfl,?_⟩
    dsimp only
    apply List.ext_getElem?
    intro k
    rcases Nat.lt_or_ge k xs.length with hk|hk
    · rw [List.getElem?_reverse hk,hg k hk]
      by_cases e3:k < i∨xs.length - 1 - k < i
      · rw [if_pos e3]
      · rw [if_neg e3];congr 1;omega
    · rw [List.getElem?_eq_none (by omega),List.getElem?_eq_none (by simp;omega)]
inductive PathL (lk:List RLk):Nat→List Int→Prop
  | root {i:Nat} {k:RLk}:lk[i]?=some k→k.parent < 0→PathL lk i []
  | step {i j:Nat} {k:RLk} {p:List Int}:lk[i]?=some k→k.parent=(j:Int)→PathL lk j p→PathL lk i (p ++ [k.op])
theorem QQ {vars:List Int} {r:Reg} {L:List (List Int)} (h:RegI vars r L) (hL:L.length≤65536) {i:Nat} {p:List Int} (hp:PathL (links r) i p) (hl:p.length≤L.length):Ce r (i:Int)=some (p,⟨0⟩):=by
  have hget:∀ {i:Nat} {k:RLk},(links r)[i]?=some k→∃ e:REn,r.entries[i]?=some e∧e.link=k:=by
    intro i k hk
    unfold links at hk
    rw [List.getElem?_map] at hk
    cases he:r.entries[i]? with
    | none=>rw [he] at hk;cases hk
    | some e=>rw [he] at hk;exact ⟨e,rfl,by simpa using hk⟩
  have hil:i < L.length:=by
    have:∃ k,(links r)[i]?=some k:=by cases hp with|root h1 _=>exact ⟨_,h1⟩|step h1 _ _=>exact ⟨_,h1⟩
    obtain ⟨k,hk⟩:=this
    obtain ⟨e,he,_⟩:=hget hk
    rw [← h.len];exact AD he
  unfold Ce
  rw [Hy h hil,Ar,Du]
  have key:∀ {i p},PathL (links r) i p→∀ acc:List Int,acc.length + p.length≤L.length→lop (ρ:=(List Int)×Err) (fun (s14:Int×(List Int))=>bnd (atI r.entries s14.1) fun a48=>if a48.link.parent < 0 then (bnd (BK s14.2) fun q74=>some (.ret (q74,(⟨0⟩:Err)))) else (bnd (appI 8 s14.2 [a48.link.op]) fun u89=>if (r.entries.length:Int) < (u89.length:Int) then (some (.ret (([]:List Int),(⟨21⟩:Err)))) else (some (.next (a48.link.parent,u89))))) ((i:Int),acc)=some (.ret (p ++ acc.reverse,⟨0⟩)):=by
    intro i p hp
    induction hp with
    | root h1 h2 =>
      intro acc ha
      obtain ⟨e,he,rfl⟩:=hget h1
      rw [EM]
      dsimp only
      rw [Bv,he,Ar,if_pos h2,RW (by omega),Ar]
      rfl
    | @step i j k p h1 h2 _ ih =>
      intro acc ha
      obtain ⟨e,he,rfl⟩:=hget h1
      simp at ha
      rw [EM]
      dsimp only
      rw [Bv,he,Ar,if_neg (by omega),BX (by simp;omega) (by simp;omega),Ar,if_neg (by rw [h.len];simp;omega),h2]
      dsimp only
      rw [ih (acc ++ [e.link.op]) (by simp;omega)]
      simp
  rw [key hp [] (by simpa using hl),Ar]
  simp [fin]
end
section
open Go Go.RowKit
inductive Rch (t:Tsk):List Int→Prop
  | init:Rch t t.init
  | step {s:List Int} {k:Nat} {o:Opr}:Rch t s→t.ops[k]?=some o→holdsB o.pre s=true→Rch t (succ o s)
theorem Rch.ok {t:Tsk} (h:TaskOk t) {s:List Int} (hr:Rch t s):StateOk t.vars s:=by
  induction hr with
  | init=>exact h.2.2.2.1
  | step _ ho _ ih=>exact HS h ih ho
theorem PlanR.snoc {t:Tsk} {s p s':List Int} {C:Int} (h:PlanR t s p s' C) {k:Nat} {o:Opr} (ho:t.ops[k]?=some o) (hp:holdsB o.pre s'=true):PlanR t s (p ++ [(k:Int)]) (succ o s') (C + o.cost):=by
  induction h with
  | nil=>have:=PlanR.cons ho hp (PlanR.nil (t:=t) (s:=succ o _));simpa [Int.add_comm] using this
  | cons ho' hp' _ ih=>have:=PlanR.cons ho' hp' (ih hp);rw [Int.add_assoc];exact this
theorem PlanR.walk {t:Tsk} {s p s':List Int} {C:Int} (h:PlanR t s p s' C) (hg:holdsB t.goal s'=true):Walk t s C:=by
  induction h with
  | nil=>exact .goal hg
  | cons ho hp _ ih=>have:=Walk.step ho hp (ih hg);rwa [Int.add_comm] at this
inductive WalkS (t:Tsk) (sel:List Int→List Int):List Int→Int→Prop
  | goal {s:List Int}:holdsB t.goal s=true→WalkS t sel s 0
  | step {s:List Int} {k:Nat} {o:Opr} {C:Int}:t.ops[k]?=some o→(k:Int)∈sel s→WalkS t sel (succ o s) C→WalkS t sel s (C + o.cost)
theorem Pi {t:Tsk} (h:TaskOk t) {sel:List Int→List Int} {s:List Int} {C:Int} (hw:WalkS t sel s C):0≤C:=by
  induction hw with
  | goal _=>omega
  | @step s k o C ho _ _ ih=>have:=(h.2.2.2.2.2 k o ho).1;omega
def UpL {α:Type} (i:Nat) (x:α) (l l':List α):Prop:=l'[i]?=some x∧∀ j,j≠i→l'[j]?=l[j]?
theorem NL {α:Type} {i:Nat} {x:α} {l:List α} (h:i < l.length):UpL i x l (l.set i x):=⟨List.getElem?_set_self h,fun j hj=>List.getElem?_set_ne (by omega)⟩
theorem MJ {α:Type} {i:Nat} {x:α} {l:List α} (h:l[i]?=some x):UpL i x l l:=⟨h,fun _ _=>rfl⟩
theorem JH {α:Type} {x:α} {l:List α}:UpL l.length x l (l ++ [x]):=⟨by simp,fun j hj=>by
  rcases Nat.lt_or_ge j l.length with h|h
  · exact List.getElem?_append_left h
  · rw [List.getElem?_append_right h,List.getElem?_eq_none (l:=l) h,List.getElem?_eq_none (by simp;omega)]⟩
def cnt (l:List Bool):Nat:=(l.filter id).length
theorem Pj (l:List Bool):cnt l≤l.length:=List.length_filter_le _ _
theorem QR (l:List Bool):cnt (l ++ [false])=cnt l:=by simp [cnt]
theorem NM:∀ {l:List Bool} {i:Nat},l[i]?=some false→cnt (l.set i true)=cnt l + 1
  | [],i,h=>by simp at h
  | b :: l,0,h=>by simp at h;subst h;simp [cnt]
  | b :: l,i + 1,h=>by
    have:=NM (l:=l) (i:=i) (by simpa using h)
    simp only [cnt] at this ⊢
    cases b<;>simp [this]
theorem NN:∀ {l:List Bool} {i:Nat},l[i]?=some true→0 < cnt l
  | [],i,h=>by simp at h
  | b :: l,0,h=>by simp at h;subst h;simp [cnt]
  | b :: l,i + 1,h=>by
    have:=NN (l:=l) (i:=i) (by simpa using h)
    unfold cnt at this ⊢
    rw [List.filter_cons]
    split
    · simp
    · exact this
structure SrI (t:Tsk) (sel:List Int→List Int) (D:Nat→Int→Prop) (L:List (List Int)) (lk:List RLk) (g:List Int) (fn:List Bool) (hp:List QEn) (ord:Nat→Nat) (E:Nat):Prop where
  root:L[0]?=some t.init
  root0:g[0]?=some 0
  lenk:lk.length=L.length
  leng:g.length=L.length
  lenf:fn.length=L.length
  link:∀ (i:Nat) s k c,L[i]?=some s→lk[i]?=some k→g[i]?=some c→(i=0∧k.parent=-1∧c=0)∨∃ (p q:Nat) (o:Opr) (s':List Int) (c':Int),k.parent=(p:Int)∧k.op=(q:Int)∧t.ops[q]?=some o∧L[p]?=some s'∧fn[p]?=some true∧holdsB o.pre s'=true∧succ o s'=s∧g[p]?=some c'∧c=c' + o.cost∧(fn[i]?=some true→ord p < ord i)
  ordl:∀ i:Nat,fn[i]?=some true→ord i < E
  lower:∀ (j:Nat) c,fn[j]?=some true→g[j]?=some c→∀ e∈hp,c≤e.key
  ent:∀ e∈hp,∃ i:Nat,e.item=(i:Int)∧i < L.length∧∀ c,g[i]?=some c→c≤e.key
  opn:∀ (i:Nat) c,fn[i]?=some false→g[i]?=some c→∃ e∈hp,e.key=c∧e.item=(i:Int)
  bound:∀ (i:Nat) c,g[i]?=some c→0≤c∧c≤(E:Int) * 1048576
  nogoal:∀ (j:Nat) s,fn[j]?=some true→L[j]?=some s→holdsB t.goal s=false
  rel:∀ (j:Nat) s q,fn[j]?=some true→L[j]?=some s→q∈sel s→D j q→∃ (k:Nat) (o:Opr) (i:Nat) (c c':Int),q=(k:Int)∧t.ops[k]?=some o∧L[i]?=some (succ o s)∧g[j]?=some c∧g[i]?=some c'∧c'≤c + o.cost
  num:cnt fn=E
  rch:∀ (i:Nat) s,L[i]?=some s→Rch t s
  first:0 < E→fn[0]?=some true
section
variable {t : Tsk} {sel : List Int → List Int} {D : Nat → Int → Prop} {L L' : List (List Int)} {lk lk' : List RLk} {g g' : List Int} {fn fn' : List Bool} {hp hp' : List QEn} {ord : Nat → Nat} {E : Nat}
theorem SrI.upd (h:SrI t sel D L lk g fn hp ord E) (hok:TaskOk t) {i p q:Nat} {o:Opr} {s sp:List Int} {x cp lc:Int} {e:QEn} (hL:UpL i s L L') (hk:UpL i ⟨(p:Int),(q:Int),lc⟩ lk lk') (hg:UpL i x g g') (hf:UpL i false fn fn') (hh:hp'.Perm (e :: hp)) (ek:e.key=x) (ei:e.item=(i:Int))
    (l1:lk'.length=L'.length) (l2:g'.length=L'.length) (l3:fn'.length=L'.length) (l4:L.length≤L'.length) (hc:cnt fn'=cnt fn) (hi:L[i]?=none∨(L[i]?=some s∧fn[i]?=some false∧∀ c,g[i]?=some c→x < c))
    (ho:t.ops[q]?=some o) (hsp:L[p]?=some sp) (hfp:fn[p]?=some true) (hpre:holdsB o.pre sp=true) (hs:succ o sp=s) (hgp:g[p]?=some cp) (hx:x=cp + o.cost) (hmax:∀ (j:Nat) c,fn[j]?=some true→g[j]?=some c→c≤cp) (hxE:x≤(E:Int) * 1048576) :
    SrI t sel D L' lk' g' fn' hp' ord E:=by
  have hoc:=(hok.2.2.2.2.2 q o ho).1
  have hcp:=(h.bound p cp hgp).1
  have hfin:∀ j:Nat,fn[j]?=some true→j≠i:=fun j hj e=>by
    subst e
    rcases hi with hn|⟨_,hn,_⟩
    · have:=AD hj
      rw [h.lenf] at this
      rw [List.getElem?_eq_none_iff] at hn
      omega
    · rw [hj] at hn;cases hn
  have hfin':∀ j:Nat,fn'[j]?=some true→j≠i∧fn[j]?=some true:=fun j hj=>by
    have hne:j≠i:=fun e=>by subst e;rw [hf.1] at hj;cases hj
    exact ⟨hne,by rw [← hf.2 j hne];exact hj⟩
  have h0:(0:Nat)≠i:=fun e=>by
    subst e
    rcases hi with hn|⟨_,_,hn⟩
    · rw [h.root] at hn;cases hn
    · have:=hn 0 h.root0;omega
  have hpi:=hfin p hfp
  have hiL:i < L'.length:=AD hL.1
  refine ⟨by rw [hL.2 0 h0];exact h.root,by rw [hg.2 0 h0];exact h.root0,l1,l2,l3,?_,?_,?_,?_,?_,?_,?_,?_,by rw [hc];exact h.num,?_,?_⟩
  · intro j s' k c hs' hk' hc'
    by_cases e1:j=i
    · subst e1
      rw [hL.1] at hs'
      rw [hk.1] at hk'
      rw [hg.1] at hc'
      obtain rfl:=Option.some.inj hs'
      obtain rfl:=Option.some.inj hk'
      obtain rfl:=Option.some.inj hc'
      exact .inr ⟨p,q,o,sp,cp,rfl,rfl,ho,by rw [hL.2 p hpi];exact hsp,by rw [hf.2 p hpi];exact hfp,hpre,hs,by rw [hg.2 p hpi];exact hgp,hx,fun hh=>by rw [hf.1] at hh;cases hh⟩
    · rw [hL.2 j e1] at hs'
      rw [hk.2 j e1] at hk'
      rw [hg.2 j e1] at hc'
      rcases h.link j s' k c hs' hk' hc' with hh|⟨p',q',o',sp',c',a1,a2,a3,a4,a5,a6,a7,a8,a9,a10⟩
      · exact .inl hh
      · have hne:=hfin p' a5
        exact .inr ⟨p',q',o',sp',c',a1,a2,a3,by rw [hL.2 p' hne];exact a4,by rw [hf.2 p' hne];exact a5,a6,a7,by rw [hg.2 p' hne];exact a8,a9,fun hh=>a10 (hfin' j hh).2⟩
  · exact fun j hj=>h.ordl j (hfin' j hj).2
  · intro j c hj hcj e' he'
    obtain ⟨hne,hj⟩:=hfin' j hj
    rw [hg.2 j hne] at hcj
    rcases List.mem_cons.1 (hh.mem_iff.1 he') with rfl|hm
    · have:=hmax j c hj hcj;omega
    · exact h.lower j c hj hcj e' hm
  · intro e' he'
    rcases List.mem_cons.1 (hh.mem_iff.1 he') with rfl|hm
    · exact ⟨i,ei,hiL,fun c hc=>by rw [hg.1] at hc;have:=Option.some.inj hc;omega⟩
    · obtain ⟨j,j1,j2,j3⟩:=h.ent e' hm
      refine ⟨j,j1,by omega,fun c hc=>?_⟩
      by_cases e1:j=i
      · subst e1
        rw [hg.1] at hc
        obtain rfl:=Option.some.inj hc
        rcases hi with hn|⟨_,_,hn⟩
        · rw [List.getElem?_eq_none_iff] at hn;omega
        · obtain ⟨c0,hc0⟩:=AE (l:=g) (k:=j) (by rw [h.leng];exact j2)
          have:=j3 c0 hc0
          have:=hn c0 hc0
          omega
      · rw [hg.2 j e1] at hc;exact j3 c hc
  · intro j c hj hcj
    by_cases e1:j=i
    · subst e1
      rw [hg.1] at hcj
      obtain rfl:=Option.some.inj hcj
      exact ⟨e,hh.mem_iff.2 List.mem_cons_self,ek,ei⟩
    · rw [hf.2 j e1] at hj
      rw [hg.2 j e1] at hcj
      obtain ⟨e',m,r⟩:=h.opn j c hj hcj
      exact ⟨e',hh.mem_iff.2 (List.mem_cons_of_mem _ m),r⟩
  · intro j c hcj
    by_cases e1:j=i
    · subst e1
      rw [hg.1] at hcj
      obtain rfl:=Option.some.inj hcj
      omega
    · rw [hg.2 j e1] at hcj;exact h.bound j c hcj
  · intro j s' hj hs'
    obtain ⟨hne,hj⟩:=hfin' j hj
    rw [hL.2 j hne] at hs'
    exact h.nogoal j s' hj hs'
  · intro j s' q' hj hs' hq hD
    obtain ⟨hne,hj⟩:=hfin' j hj
    rw [hL.2 j hne] at hs'
    obtain ⟨k,o',i',c,c',a1,a2,a3,a4,a5,a6⟩:=h.rel j s' q' hj hs' hq hD
    by_cases e1:i'=i
    · subst e1
      rcases hi with hn|⟨hn1,_,hn⟩
      · rw [hn] at a3;cases a3
      · rw [hn1] at a3
        have:=hn c' a5
        exact ⟨k,o',i',c,x,a1,a2,by rw [hL.1];exact a3,by rw [hg.2 j hne];exact a4,hg.1,by omega⟩
    · exact ⟨k,o',i',c,c',a1,a2,by rw [hL.2 i' e1];exact a3,by rw [hg.2 j hne];exact a4,by rw [hg.2 i' e1];exact a5,a6⟩
  · intro j s' hs'
    by_cases e1:j=i
    · subst e1
      rw [hL.1] at hs'
      obtain rfl:=Option.some.inj hs'
      rw [← hs]
      exact (h.rch p sp hsp).step ho hpre
    · rw [hL.2 j e1] at hs';exact h.rch j s' hs'
  · intro hE
    rw [hf.2 0 h0];exact h.first hE
theorem SrI.drop (h:SrI t sel D L lk g fn hp ord E) {e:QEn} (hh:hp.Perm (e :: hp')) {i:Nat} (hi:e.item=(i:Int)) (hd:fn[i]?=some true∨g[i]?≠some e.key):SrI t sel D L lk g fn hp' ord E :=
  { h with
    lower:=fun j c hj hc e' he'=>h.lower j c hj hc e' (hh.mem_iff.2 (List.mem_cons_of_mem _ he'))
    ent:=fun e' he'=>h.ent e' (hh.mem_iff.2 (List.mem_cons_of_mem _ he'))
    opn := fun j c hj hc=>by
      obtain ⟨e',m,k1,k2⟩:=h.opn j c hj hc
      rcases List.mem_cons.1 (hh.mem_iff.1 m) with rfl|hm
      · exfalso
        have e1:i=j:=by omega
        subst e1
        rcases hd with hd|hd
        · rw [hj] at hd;cases hd
        · exact hd (by rw [k1];exact hc)
      · exact ⟨e',hm,k1,k2⟩ }
theorem SrI.mark (h:SrI t sel (fun _ _=>True) L lk g fn hp ord E) {e:QEn} (hh:hp.Perm (e :: hp')) (hmin:∀ x∈hp,nb x e) {i:Nat} {s:List Int} (hi:e.item=(i:Int)) (hf:fn[i]?=some false) (hc:g[i]?=some e.key) (hs:L[i]?=some s) (hg:holdsB t.goal s=false) :
    SrI t sel (fun j _=>j≠i) L lk g (fn.set i true) hp' (fun j=>if j=i then E else ord j) (E + 1):=by
  have hil:=AD hf
  have hset:∀ j:Nat,(fn.set i true)[j]?=some true→j=i∨(j≠i∧fn[j]?=some true):=fun j hj=>by
    by_cases e1:j=i
    · exact .inl e1
    · rw [List.getElem?_set_ne (by omega)] at hj;exact .inr ⟨e1,hj⟩
  have hkeep:∀ j:Nat,fn[j]?=some true→j≠i∧(fn.set i true)[j]?=some true:=fun j hj=>by
    have hne:j≠i:=fun e1=>by subst e1;rw [hf] at hj;cases hj
    exact ⟨hne,by rw [List.getElem?_set_ne (by omega)];exact hj⟩
  refine ⟨h.root,h.root0,h.lenk,h.leng,by simp [h.lenf],?_,?_,?_,?_,?_,?_,?_,?_,by rw [NM hf,h.num],h.rch,?_⟩
  · intro j s' k c hs' hk' hc'
    rcases h.link j s' k c hs' hk' hc' with hh|⟨p',q',o',sp',c',a1,a2,a3,a4,a5,a6,a7,a8,a9,a10⟩
    · exact .inl hh
    · obtain ⟨hne,hp2⟩:=hkeep p' a5
      refine .inr ⟨p',q',o',sp',c',a1,a2,a3,a4,hp2,a6,a7,a8,a9,fun hj=>?_⟩
      rw [if_neg hne]
      rcases hset j hj with rfl|⟨hne2,hj2⟩
      · rw [if_pos rfl];exact h.ordl p' a5
      · rw [if_neg hne2];exact a10 hj2
  · intro j hj
    rcases hset j hj with rfl|⟨hne2,hj2⟩
    · rw [if_pos rfl];omega
    · rw [if_neg hne2];have:=h.ordl j hj2;omega
  · intro j c hj hcj e' he'
    have hm:e'∈hp:=hh.mem_iff.2 (List.mem_cons_of_mem _ he')
    rcases hset j hj with rfl|⟨_,hj2⟩
    · rw [hc] at hcj
      obtain rfl:=Option.some.inj hcj
      exact MG (hmin e' hm)
    · exact h.lower j c hj2 hcj e' hm
  · exact fun e' he'=>h.ent e' (hh.mem_iff.2 (List.mem_cons_of_mem _ he'))
  · intro j c hj hcj
    have hne:j≠i:=fun e1=>by subst e1;rw [List.getElem?_set_self hil] at hj;cases hj
    rw [List.getElem?_set_ne (by omega)] at hj
    obtain ⟨e',m,k1,k2⟩:=h.opn j c hj hcj
    rcases List.mem_cons.1 (hh.mem_iff.1 m) with rfl|hm
    · omega
    · exact ⟨e',hm,k1,k2⟩
  · intro j c hcj
    have:=h.bound j c hcj
    omega
  · intro j s' hj hs'
    rcases hset j hj with rfl|⟨_,hj2⟩
    · rw [hs] at hs';obtain rfl:=Option.some.inj hs';exact hg
    · exact h.nogoal j s' hj2 hs'
  · intro j s' q hj hs' hq hD
    rcases hset j hj with rfl|⟨_,hj2⟩
    · exact absurd rfl hD
    · exact h.rel j s' q hj2 hs' hq trivial
  · intro _
    by_cases h0:i=0
    · subst h0;exact List.getElem?_set_self hil
    · have hE:0 < E:=by
        obtain ⟨k,hk⟩:=AE (l:=lk) (k:=i) (by rw [h.lenk,← h.lenf];exact hil)
        rcases h.link i s k _ hs hk hc with ⟨hh,_⟩|⟨p',_,_,_,_,_,_,_,_,a5,_⟩
        · exact absurd hh h0
        · rw [← h.num];exact NN a5
      exact (hkeep 0 (h.first hE)).2
theorem SrI.front (h:SrI t sel (fun _ _=>True) L lk g fn hp ord E) (hok:TaskOk t) {s:List Int} {C:Int} (hw:WalkS t sel s C):∀ (i:Nat) c,L[i]?=some s→g[i]?=some c→∃ e∈hp,e.key≤c + C:=by
  induction hw with
  | @goal s hg =>
    intro i c hi hc
    obtain ⟨b,hb⟩:=AE (l:=fn) (k:=i) (by rw [h.lenf];exact AD hi)
    cases b with
    | false=>obtain ⟨e,m,k1,_⟩:=h.opn i c hb hc;exact ⟨e,m,by omega⟩
    | true=>have:=h.nogoal i s hb hi;rw [hg] at this;cases this
  | @step s k o C ho hk hw ih =>
    intro i c hi hc
    have h1:=Pi hok hw
    have h2:=(hok.2.2.2.2.2 k o ho).1
    obtain ⟨b,hb⟩:=AE (l:=fn) (k:=i) (by rw [h.lenf];exact AD hi)
    cases b with
    | false=>obtain ⟨e,m,k1,_⟩:=h.opn i c hb hc;exact ⟨e,m,by omega⟩
    | true =>
      obtain ⟨k',o',i',c0,c',a1,a2,a3,a4,a5,a6⟩:=h.rel i s _ hb hi hk trivial
      have e1:k=k':=by omega
      subst e1
      rw [ho] at a2
      obtain rfl:=Option.some.inj a2
      rw [hc] at a4
      obtain rfl:=Option.some.inj a4
      obtain ⟨e,m,k1⟩:=ih i' c' a3 a5
      exact ⟨e,m,by omega⟩
theorem SrI.pathF (h:SrI t sel D L lk g fn hp ord E):∀ (n i:Nat) s c,ord i < n→fn[i]?=some true→L[i]?=some s→g[i]?=some c→∃ p,PathL lk i p∧PlanR t t.init p s c∧p.length≤ord i:=by
  intro n
  induction n with
  | zero=>intro i s c hn;omega
  | succ n ih =>
    intro i s c hn hf hi hc
    obtain ⟨k,hk⟩:=AE (l:=lk) (k:=i) (by rw [h.lenk];exact AD hi)
    rcases h.link i s k c hi hk hc with ⟨rfl,h1,rfl⟩|⟨p',q',o',sp',c',a1,a2,a3,a4,a5,a6,a7,a8,a9,a10⟩
    · rw [h.root] at hi
      obtain rfl:=Option.some.inj hi
      exact ⟨[],.root hk (by omega),.nil,by simp⟩
    · have ho:=a10 hf
      obtain ⟨p,b1,b2,b3⟩:=ih p' sp' c' (by omega) a5 a4 a8
      refine ⟨p ++ [k.op],.step hk a1 b1,?_,by simp;omega⟩
      rw [a2,a9,← a7]
      exact b2.snoc a3 a6
theorem SrI.path (h:SrI t sel D L lk g fn hp ord E) {i:Nat} {s:List Int} {c:Int} (hi:L[i]?=some s) (hc:g[i]?=some c):∃ p,PathL lk i p∧PlanR t t.init p s c∧p.length≤E:=by
  obtain ⟨k,hk⟩:=AE (l:=lk) (k:=i) (by rw [h.lenk];exact AD hi)
  rcases h.link i s k c hi hk hc with ⟨rfl,h1,rfl⟩|⟨p',q',o',sp',c',a1,a2,a3,a4,a5,a6,a7,a8,a9,a10⟩
  · rw [h.root] at hi
    obtain rfl:=Option.some.inj hi
    exact ⟨[],.root hk (by omega),.nil,by simp⟩
  · have ho:=h.ordl p' a5
    obtain ⟨p,b1,b2,b3⟩:=h.pathF (ord p' + 1) p' sp' c' (by omega) a5 a4 a8
    refine ⟨p ++ [k.op],.step hk a1 b1,?_,by simp;omega⟩
    rw [a2,a9,← a7]
    exact b2.snoc a3 a6
theorem SrI.more (h:SrI t sel D L lk g fn hp ord E) {D':Nat→Int→Prop} {j₀:Nat} {q₀:Int} (hD:∀ j q,D' j q→D j q∨(j=j₀∧q=q₀)) {s:List Int} (hs:L[j₀]?=some s) {k:Nat} {o:Opr} {i:Nat} {c c':Int} (h1:q₀=(k:Int)) (h2:t.ops[k]?=some o) (h3:L[i]?=some (succ o s)) (h4:g[j₀]?=some c) (h5:g[i]?=some c') (h6:c'≤c + o.cost):SrI t sel D' L lk g fn hp ord E :=
  { h with
    rel := fun j s' q hj hs' hq hd=>by
      rcases hD j q hd with hd|⟨rfl,rfl⟩
      · exact h.rel j s' q hj hs' hq hd
      · rw [hs] at hs'
        obtain rfl:=Option.some.inj hs'
        exact ⟨k,o,i,c,c',h1,h2,h3,h4,h5,h6⟩ }
end
end
section
open Go Go.RowKit
theorem Scr.append {α:Type} {a b:List α} {n:Nat} (h:Scr a b n):∀ {c d:List α} {m:Nat},Scr c d m→Scr (a ++ c) (b ++ d) (n + m):=by
  induction h with
  | nil=>intro c d m h2;simpa using h2
  | del _ ih=>intro c d m h2;have:=(ih h2).del (x:=‹α›);rw [Nat.add_right_comm] at this;exact this
  | ins _ ih=>intro c d m h2;have:=(ih h2).ins (y:=‹α›);rw [Nat.add_right_comm] at this;exact this
  | keep _ ih=>intro c d m h2;exact (ih h2).keep
theorem Scr.rev {α:Type} {a b:List α} {n:Nat} (h:Scr a b n):Scr a.reverse b.reverse n:=by
  induction h with
  | nil=>exact .nil
  | @del x xs ys n _ ih=>have:=ih.append (.del (x:=x) .nil);simpa using this
  | @ins y xs ys n _ ih=>have:=ih.append (.ins (y:=y) .nil);simpa using this
  | @keep x xs ys n _ ih=>have:=ih.append (.keep (x:=x) .nil);simpa using this
def dist2 (a b:List ByteArray):Nat:=ed a.reverse b.reverse
theorem MK {a b:List ByteArray} {n:Nat} (h:Scr a b n):dist2 a b≤n:=Qt h.rev
theorem LL (a b:List ByteArray):Scr a b (dist2 a b):=by have:=(On a.reverse b.reverse).rev;simpa [dist2] using this
def nmO (t:Tsk) (i:Int):ByteArray:=match t.ops[i.toNat]? with|some o=>o.name|none=>⟨#[]⟩
theorem KS {t:Tsk} {i:Nat} {o:Opr} (h:t.ops[i]?=some o):nmO t (i:Int)=o.name:=by unfold nmO;rw [Int.toNat_natCast,h]
theorem JI {α:Type} {l:List α} {q:α×Nat}:q∈l.zipIdx↔l[q.2]?=some q.1:=by
  constructor
  · intro h
    obtain ⟨k,hk⟩:=List.getElem?_of_mem h
    rw [List.getElem?_zipIdx] at hk
    obtain ⟨o,ho,rfl⟩:=Option.map_eq_some_iff.1 hk
    simpa using ho
  · intro h
    refine List.mem_of_getElem? (i:=q.2) ?_
    rw [List.getElem?_zipIdx,h];simp
theorem LM {t:Tsk} {v p:Int} {name:ByteArray} {q:Opr×Prt}:q∈keepL t.ops.zipIdx v p name↔∃ (i:Nat) (o:Opr),t.ops[i]?=some o∧o.name=name∧q=(keptO o v p,⟨(i:Int)⟩):=by
  unfold keepL
  rw [List.mem_map]
  constructor
  · rintro ⟨x,hx,rfl⟩
    obtain ⟨h1,h2⟩:=List.mem_filter.1 hx
    exact ⟨x.2,x.1,JI.1 h1,by simpa using h2,rfl⟩
  · rintro ⟨i,o,h1,h2,rfl⟩
    exact ⟨(o,i),List.mem_filter.2 ⟨JI.2 h1,by simpa using h2⟩,rfl⟩
theorem ML {t:Tsk} {w v:Int} {q:Opr×Prt}:∀ {l:List ByteArray} {p:Nat},q∈delL t w v p l↔∃ (j:Nat) (name:ByteArray),l[j]?=some name∧q∈stepL t w v ((p + j:Nat):Int) name
  | [],p=>by simp [delL]
  | x :: l,p=>by
    rw [delL,List.mem_append,ML (l:=l)]
    constructor
    · rintro (h|⟨j,name,h1,h2⟩)
      · exact ⟨0,x,rfl,by simpa using h⟩
      · exact ⟨j + 1,name,by simpa using h1,by rw [show p + (j + 1)=p + 1 + j from by omega];exact h2⟩
    · rintro ⟨j,name,h1,h2⟩
      cases j with
      | zero=>simp at h1;subst h1;exact .inl (by simpa using h2)
      | succ j=>exact .inr ⟨j,name,by simpa using h1,by rw [show p + 1 + j=p + (j + 1) from by omega];exact h2⟩
theorem Ge {t:Tsk} {old:List ByteArray} {w:Int} {q:Opr×Prt}:q∈cmpL t old w ↔
    (∃ (i:Nat) (o:Opr),t.ops[i]?=some o∧q=(⟨o.name,o.cost + w,o.pre,o.effs⟩,⟨(i:Int)⟩)) ∨
    (∃ (p i:Nat) (o:Opr),old[p]?=some o.name∧t.ops[i]?=some o∧q=(keptO o (t.vars.length:Int) (p:Int),⟨(i:Int)⟩)) ∨
    (∃ (p:Nat) (name:ByteArray),old[p]?=some name∧q=delE w (t.vars.length:Int) (p:Int)):=by
  unfold cmpL
  rw [List.mem_append,ML]
  constructor
  · rintro (h|⟨j,name,h1,h2⟩)
    · obtain ⟨x,hx,rfl⟩:=List.mem_map.1 h
      exact .inl ⟨x.2,x.1,JI.1 hx,rfl⟩
    · rw [Nat.zero_add] at h2
      unfold stepL at h2
      rcases List.mem_append.1 h2 with h2|h2
      · obtain ⟨i,o,g1,g2,rfl⟩:=LM.1 h2
        exact .inr (.inl ⟨j,i,o,by rw [g2];exact h1,g1,rfl⟩)
      · exact .inr (.inr ⟨j,name,h1,by simpa using h2⟩)
  · rintro (⟨i,o,h,rfl⟩|⟨p,i,o,h1,h2,rfl⟩|⟨p,name,h1,rfl⟩)
    · exact .inl (List.mem_map.2 ⟨(o,i),JI.2 h,rfl⟩)
    · exact .inr ⟨p,o.name,h1,by rw [Nat.zero_add];exact List.mem_append_left _ (LM.2 ⟨i,o,h2,rfl,rfl⟩)⟩
    · exact .inr ⟨p,name,h1,by rw [Nat.zero_add];exact List.mem_append_right _ (by simp)⟩
section
variable {vars x : List Int}
theorem QS {f:Fct} (hf:FactOk vars f) (hx:x.length=vars.length) (p:Int):hasB (x ++ [p]) f=hasB x f:=by
  obtain ⟨h1,_,y,h3,_⟩:=hf
  have:=AD h3
  unfold hasB
  rw [List.getElem?_append_left (by omega)]
theorem Hz {fs:List Fct} (hf:FactsOk vars fs) (hx:x.length=vars.length) (p:Int):holdsB fs (x ++ [p])=holdsB fs x:=by
  have key:∀ l:List Fct,(∀ f∈l,FactOk vars f)→l.all (hasB (x ++ [p]))=l.all (hasB x):=fun l hl=>by
    induction l with
    | nil=>rfl
    | cons f l ih=>rw [List.all_cons,List.all_cons,QS (hl f List.mem_cons_self) hx,ih fun g hg=>hl g (List.mem_cons_of_mem _ hg)]
  exact key fs fun f hm=>by obtain ⟨i,hi⟩:=List.getElem?_of_mem hm;exact hf.1 i f hi
theorem Km {v:Nat} (hx:x.length=v) (p p0:Int):hasB (x ++ [p]) ⟨(v:Int),p0⟩=decide (p=p0):=by
  unfold hasB
  subst hx
  simp
theorem Ir {fs:List Fct} (hf:FactsOk vars fs) (hx:x.length=vars.length) (p p0:Int):holdsB (fs ++ [⟨(vars.length:Int),p0⟩]) (x ++ [p])=(holdsB fs x && decide (p=p0)):=by
  have:=Hz hf hx p
  unfold holdsB at this ⊢
  rw [List.all_append,this,List.all_cons,List.all_nil,Km hx,Bool.and_true]
theorem MM {effs:List Eff} (he:∀ e∈effs,EffOk vars e) (hx:x.length=vars.length) (p:Int):∀ y:List Int,y.length=vars.length→effsOn (x ++ [p]) effs (y ++ [p])=effsOn x effs y ++ [p]:=by
  induction effs with
  | nil=>intro y _;rfl
  | cons e l ih =>
    intro y hy
    obtain ⟨h1,h2,_,z,h3,_⟩:=he e List.mem_cons_self
    have hlt:=AD h3
    simp only at h2 hlt
    simp only [effsOn]
    rw [Hz h1 hx]
    by_cases hb:holdsB e.cond x=true
    · rw [if_pos hb,if_pos hb,List.set_append_left _ _ (by omega)]
      exact ih (fun e' h'=>he e' (List.mem_cons_of_mem _ h')) _ (by simpa using hy)
    · rw [if_neg hb,if_neg hb]
      exact ih (fun e' h'=>he e' (List.mem_cons_of_mem _ h')) _ hy
end
theorem JJ {t:Tsk} (hok:TaskOk t) {k:Nat} {o:Opr} (ho:t.ops[k]?=some o):∀ e∈o.effs,EffOk t.vars e:=fun e he=>by
  obtain ⟨i,hi⟩:=List.getElem?_of_mem he
  exact (hok.2.2.2.2.2 k o ho).2.2.2.2.2 i e hi
theorem FB (o:Opr) (x:List Int):(succ o x).length=x.length:=Fy x o.effs x
section
variable {t : Tsk} {old : List ByteArray} {w : Int}
theorem MN (hok:TaskOk t) {i:Nat} {o:Opr} (ho:t.ops[i]?=some o) {x:List Int} (hx:x.length=t.vars.length) (p c:Int):succ ⟨o.name,c,o.pre,o.effs⟩ (x ++ [p])=succ o x ++ [p]:=MM (JJ hok ho) hx p x hx
theorem LN {x y:List Int} {v:Nat} (hy:y.length=v) (p q:Int):effsOn (x ++ [p]) [⟨[],(v:Int),q⟩] (y ++ [p])=y ++ [q]:=by
  show (y ++ [p]).set (v:Int).toNat q=_
  subst hy
  rw [Int.toNat_natCast,List.set_append_right _ _ (Nat.le_refl _)]
  simp
theorem LO (hok:TaskOk t) {i:Nat} {o:Opr} (ho:t.ops[i]?=some o) {x:List Int} (hx:x.length=t.vars.length) (p p0:Int):succ (keptO o (t.vars.length:Int) p0) (x ++ [p])=succ o x ++ [p0 + 1]:=by
  show effsOn (x ++ [p]) (o.effs ++ [⟨[],(t.vars.length:Int),p0 + 1⟩]) (x ++ [p])=_
  rw [GF,MM (JJ hok ho) hx p x hx]
  exact LN (by rw [Fy];exact hx) p (p0 + 1)
theorem MO {x:List Int} (hx:x.length=t.vars.length) (p p0:Int):succ (delE w (t.vars.length:Int) p0).1 (x ++ [p])=x ++ [p0 + 1]:=by
  show effsOn (x ++ [p]) ([] ++ [⟨[],(t.vars.length:Int),p0 + 1⟩]) (x ++ [p])=_
  exact LN hx p (p0 + 1)
def partI (L:List (Opr×Prt)) (k:Int):List Int:=match L[k.toNat]? with|some q=>if 0≤q.2.op then [q.2.op] else []|none=>[]
def mapP (L:List (Opr×Prt)) (P:List Int):List Int:=P.flatMap (partI L)
theorem LP {L:List (Opr×Prt)} {k:Nat} {q:Opr×Prt} (h:L[k]?=some q) (P:List Int):mapP L ((k:Int) :: P)=(if 0≤q.2.op then [q.2.op] else []) ++ mapP L P:=by
  unfold mapP
  rw [List.flatMap_cons]
  unfold partI
  rw [Int.toNat_natCast,h]
theorem NO {k:Nat} {o:Opr} (h:(cmpT t old w).ops[k]?=some o):∃ q,(cmpL t old w)[k]?=some q∧q.1=o:=by
  have h':((cmpL t old w).map (·.1))[k]?=some o:=h
  rw [List.getElem?_map] at h'
  obtain ⟨q,h1,h2⟩:=Option.map_eq_some_iff.1 h'
  exact ⟨q,h1,h2⟩
theorem Is {α:Type} {l:List α} {p:Nat} {x:α} (h:l[p]?=some x):l.drop p=x :: l.drop (p + 1):=by
  obtain ⟨hlt,rfl⟩:=List.getElem?_eq_some_iff.1 h
  exact List.drop_eq_getElem_cons hlt
theorem PR (hok:TaskOk t) {s s' P:List Int} {C:Int} (h:PlanR (cmpT t old w) s P s' C):∀ (x:List Int) (p:Nat),s=x ++ [(p:Int)]→x.length=t.vars.length→p≤old.length →
    ∃ (x':List Int) (p':Nat) (c:Int) (n:Nat),s'=x' ++ [(p':Int)]∧p≤p'∧p'≤old.length∧PlanR t x (mapP (cmpL t old w) P) x' c∧Scr ((mapP (cmpL t old w) P).map (nmO t)) ((old.take p').drop p) n∧C=c + w * n:=by
  induction h with
  | nil =>
    rintro x p rfl hx hp
    refine ⟨x,p,0,0,rfl,Nat.le_refl _,hp,.nil,?_,by simp⟩
    have:(old.take p).drop p=[]:=List.drop_eq_nil_of_le (by simp;omega)
    rw [this];exact .nil
  | @cons s rest s' k o C ho hpre _ ih =>
    rintro x p rfl hx hp
    obtain ⟨q,hq,rfl⟩:=NO ho
    rw [LP hq]
    rcases Ge.1 (List.mem_of_getElem? hq) with ⟨i,o,hi,rfl⟩|⟨p0,i,o,hn,hi,rfl⟩|⟨p0,name,hn,rfl⟩
    · have hf:=(hok.2.2.2.2.2 i o hi).2.2.2.2.1
      have hpre':holdsB o.pre x=true:=by rw [← Hz hf hx];exact hpre
      obtain ⟨x',p',c,n,h1,h2,h3,h4,h5,h6⟩:=ih (succ o x) p (MN hok hi hx _ _) (by rw [FB];exact hx) hp
      refine ⟨x',p',o.cost + c,n + 1,h1,h2,h3,?_,?_,?_⟩
      · rw [if_pos (by show (0:Int)≤(i:Int);omega)];exact .cons hi hpre' h4
      · rw [if_pos (by show (0:Int)≤(i:Int);omega)]
        simp only [List.singleton_append,List.map_cons]
        exact h5.del
      · show o.cost + w + C=_
        rw [h6,Int.natCast_add,Int.mul_add];simp;omega
    · have hf:=(hok.2.2.2.2.2 i o hi).2.2.2.2.1
      have hpre':holdsB (o.pre ++ [⟨(t.vars.length:Int),(p0:Int)⟩]) (x ++ [(p:Int)])=true:=hpre
      rw [Ir hf hx,Bool.and_eq_true,decide_eq_true_eq] at hpre'
      have hpp:p0=p:=by omega
      subst hpp
      have hlt:=AD hn
      obtain ⟨x',p',c,n,h1,h2,h3,h4,h5,h6⟩:=ih (succ o x) (p0 + 1) (by rw [LO hok hi hx];simp) (by rw [FB];exact hx) hlt
      have hdr:(old.take p').drop p0=o.name :: (old.take p').drop (p0 + 1):=Is (by rw [List.getElem?_take,if_pos (by omega)];exact hn)
      refine ⟨x',p',o.cost + c,n,h1,by omega,h3,?_,?_,?_⟩
      · rw [if_pos (by show (0:Int)≤(i:Int);omega)];exact .cons hi hpre'.1 h4
      · rw [if_pos (by show (0:Int)≤(i:Int);omega),hdr]
        simp only [List.singleton_append,List.map_cons]
        rw [KS hi]
        exact h5.keep
      · show o.cost + C=_
        omega
    · have hpre':holdsB ([] ++ [⟨(t.vars.length:Int),(p0:Int)⟩]) (x ++ [(p:Int)])=true:=hpre
      have hp0:hasB (x ++ [(p:Int)]) ⟨(t.vars.length:Int),(p0:Int)⟩=true:=by simpa [holdsB] using hpre'
      rw [Km hx,decide_eq_true_eq] at hp0
      have hpp:p0=p:=by omega
      subst hpp
      have hlt:=AD hn
      obtain ⟨x',p',c,n,h1,h2,h3,h4,h5,h6⟩:=ih x (p0 + 1) (by rw [MO hx];simp) hx hlt
      have hdr:(old.take p').drop p0=name :: (old.take p').drop (p0 + 1):=Is (by rw [List.getElem?_take,if_pos (by omega)];exact hn)
      refine ⟨x',p',c,n + 1,h1,by omega,h3,?_,?_,?_⟩
      · rw [if_neg (by show ¬ (0:Int)≤-1;omega)];exact h4
      · rw [if_neg (by show ¬ (0:Int)≤-1;omega),hdr];exact h5.ins
      · show w + C=_
        rw [h6,Int.natCast_add,Int.mul_add];simp;omega
theorem MP {q:Opr×Prt} (h:q∈cmpL t old w):∃ k:Nat,(cmpT t old w).ops[k]?=some q.1:=by
  obtain ⟨k,hk⟩:=List.getElem?_of_mem h
  exact ⟨k,by show ((cmpL t old w).map (·.1))[k]?=_;rw [List.getElem?_map,hk];rfl⟩
theorem Pk (hok:TaskOk t) {xs ys:List ByteArray} {n:Nat} (h:Scr xs ys n):∀ (x x' π:List Int) (c:Int) (p:Nat),PlanR t x π x' c→π.map (nmO t)=xs→ys=old.drop p→p≤old.length→x.length=t.vars.length →
    ∃ P,PlanR (cmpT t old w) (x ++ [(p:Int)]) P (x' ++ [(old.length:Int)]) (c + w * n):=by
  induction h with
  | nil =>
    intro x x' π c p hp hn hy hl hx
    have hπ:π=[]:=by simpa using hn
    subst hπ
    have hpl:p=old.length:=by
      have:=congrArg List.length hy
      simp at this;omega
    subst hpl
    cases hp
    exact ⟨[],by simpa using PlanR.nil⟩
  | @del y xs ys n _ ih =>
    intro x x' π c p hp hn hy hl hx
    cases hp with
    | nil=>simp at hn
    | @cons _ rest _ i o C hi hpre hr =>
      simp only [List.map_cons,List.cons.injEq] at hn
      have hf:=(hok.2.2.2.2.2 i o hi).2.2.2.2.1
      obtain ⟨P,hP⟩:=ih (succ o x) x' rest C p hr hn.2 hy hl (by rw [FB];exact hx)
      obtain ⟨k,hk⟩:=MP (old:=old) (w:=w) (Ge.2 (.inl ⟨i,o,hi,rfl⟩))
      refine ⟨(k:Int) :: P,?_⟩
      have h3:PlanR (cmpT t old w) (succ ⟨o.name,o.cost + w,o.pre,o.effs⟩ (x ++ [(p:Int)])) P (x' ++ [(old.length:Int)]) (C + w * n):=by rw [MN hok hi hx];exact hP
      have h2:=PlanR.cons hk (by show holdsB o.pre (x ++ [(p:Int)])=true;rw [Hz hf hx];exact hpre) h3
      have e:o.cost + C + w * ((n + 1:Nat):Int)=o.cost + w + (C + w * n):=by rw [Int.natCast_add,Int.mul_add];simp;omega
      rw [e];exact h2
  | @ins y xs ys n _ ih =>
    intro x x' π c p hp hn hy hl hx
    have hlt:p < old.length:=by
      rcases Nat.lt_or_ge p old.length with h|h
      · exact h
      · rw [List.drop_eq_nil_of_le h] at hy;cases hy
    have hg:old[p]?=some old[p]:=List.getElem?_eq_getElem hlt
    rw [Is hg] at hy
    injection hy with e1 e2
    obtain ⟨P,hP⟩:=ih x x' π c (p + 1) hp hn e2 hlt hx
    obtain ⟨k,hk⟩:=MP (old:=old) (w:=w) (Ge.2 (.inr (.inr ⟨p,old[p],hg,rfl⟩)))
    refine ⟨(k:Int) :: P,?_⟩
    have h3:PlanR (cmpT t old w) (succ (delE w (t.vars.length:Int) (p:Int)).1 (x ++ [(p:Int)])) P (x' ++ [(old.length:Int)]) (c + w * n):=by rw [MO hx];simpa using hP
    have h2:=PlanR.cons hk (by show holdsB ([] ++ [⟨(t.vars.length:Int),(p:Int)⟩]) (x ++ [(p:Int)])=true;simp only [holdsB,List.nil_append,List.all_cons,List.all_nil,Bool.and_true];rw [Km hx];simp) h3
    have e:c + w * ((n + 1:Nat):Int)=w + (c + w * n):=by rw [Int.natCast_add,Int.mul_add];simp;omega
    rw [e];exact h2
  | @keep y xs ys n _ ih =>
    intro x x' π c p hp hn hy hl hx
    have hlt:p < old.length:=by
      rcases Nat.lt_or_ge p old.length with h|h
      · exact h
      · rw [List.drop_eq_nil_of_le h] at hy;cases hy
    have hg:old[p]?=some old[p]:=List.getElem?_eq_getElem hlt
    rw [Is hg] at hy
    injection hy with e1 e2
    cases hp with
    | nil=>simp at hn
    | @cons _ rest _ i o C hi hpre hr =>
      simp only [List.map_cons,List.cons.injEq] at hn
      have hf:=(hok.2.2.2.2.2 i o hi).2.2.2.2.1
      obtain ⟨P,hP⟩:=ih (succ o x) x' rest C (p + 1) hr hn.2 e2 hlt (by rw [FB];exact hx)
      have hnm:old[p]?=some o.name:=by rw [hg,← e1,← hn.1,KS hi]
      obtain ⟨k,hk⟩:=MP (old:=old) (w:=w) (Ge.2 (.inr (.inl ⟨p,i,o,hnm,hi,rfl⟩)))
      refine ⟨(k:Int) :: P,?_⟩
      have h3:PlanR (cmpT t old w) (succ (keptO o (t.vars.length:Int) (p:Int)) (x ++ [(p:Int)])) P (x' ++ [(old.length:Int)]) (C + w * n):=by rw [LO hok hi hx];simpa using hP
      have h2:=PlanR.cons hk (by show holdsB (o.pre ++ [⟨(t.vars.length:Int),(p:Int)⟩]) (x ++ [(p:Int)])=true;rw [Ir hf hx,hpre];simp) h3
      have e:o.cost + C + w * (n:Int)=o.cost + (C + w * n):=by omega
      rw [e];exact h2
theorem Kn (hok:TaskOk t) {x:List Int} (hx:x.length=t.vars.length) (p:Int):holdsB (cmpT t old w).goal (x ++ [p])=(holdsB t.goal x && decide (p=(old.length:Int))):=Ir hok.2.2.2.2.1 hx p _
end
end
section
open Go Go.RowKit
abbrev BQ:=BxR 99 97 Itm
abbrev AI:=An 97 Itm
def toQ (x:Itm):QEn:=⟨x.cost,0,x.id,x.order⟩
def qs (l:List Itm):List QEn:=l.map toQ
theorem Fw (l:List Itm):(qs l).length=l.length:=by simp [qs]
theorem Gz {l:List Itm} {i:Nat} {x:Itm} (h:l[i]?=some x):(qs l)[i]?=some (toQ x):=by unfold qs;rw [List.getElem?_map,h];rfl
theorem Jq (l:List Itm) (i:Nat) (x:Itm):qs (l.set i x)=(qs l).set i (toQ x):=by unfold qs;rw [List.map_set]
theorem QT (l:List Itm) (n:Nat):qs (l.take n)=(qs l).take n:=by unfold qs;rw [List.map_take]
theorem Ko {l:List Itm} {i j:Nat} {a b:Itm} (ha:l[i]?=some a) (hb:l[j]?=some b):Bx l (i:Int) (j:Int)=some (decide (bfr (toQ a) (toQ b))):=by
  unfold Bx
  rw [Bv,ha,Ar,Bv,hb,Ar,Ar,Ar,Ar,Ar]
  unfold bfr toQ
  by_cases h1:a.cost < b.cost
  · rw [if_pos h1,Ar];simp [h1]
  · rw [if_neg h1]
    by_cases h2:a.cost=b.cost
    · rw [if_pos h2]
      by_cases h3:a.order < b.order
      · rw [if_pos h3,Ar];simp [h2,h3]
      · rw [if_neg h3,Ar];simp [h2,h3]
    · rw [if_neg h2,Ar];simp [h1,h2]
theorem Kp {l:List Itm} {i j:Nat} {a b:Itm} (ha:l[i]?=some a) (hb:l[j]?=some b):Bp l (i:Int) (j:Int)=some ((l.set i b).set j a):=by
  have hil:=AD ha
  have hjl:=AD hb
  obtain ⟨c,hc⟩:=AE (l:=l.set i b) (k:=j) (by simp;exact hjl)
  unfold Bp
  rw [Bv,hb,Ar,Bv,ha,Ar,Ar,Int.toNat_natCast,Bv,hc,Ar,Int.toNat_natCast]
theorem RX {q:BQ} {i:Nat} (hi:i < q.l.length) (hl:q.l.length≤1000000) (h:UpI (qs q.l) i):∃ r,CE q (i:Int)=some r∧HeapOk (qs r.l)∧(qs r.l).Perm (qs q.l):=by
  unfold CE
  refine Mz (fun s=>∃ i:Nat,s.1=(i:Int)∧i < s.2.l.length∧UpI (qs s.2.l) i∧(qs s.2.l).Perm (qs q.l)) (fun s=>HeapOk (qs s.2.l)∧(qs s.2.l).Perm (qs q.l)) (fun _=>False) (fun s=>s.1.toNat) ⟨i,rfl,hi,h,List.Perm.refl _⟩ ?_ (fun s hs=>⟨_,rfl,hs⟩) (fun s hs=>hs.elim)
  rintro ⟨c,s⟩ ⟨i,hc,hi,hu,hp⟩
  dsimp only at hc hi hu hp ⊢
  subst hc
  have hlen:=hp.length_eq
  rw [Fw,Fw] at hlen
  rw [BF (by unfold inI64;omega),Ar]
  by_cases h0:0 < (i:Int)
  · have hq:quoT ((i:Int) - 1) 2=some (((i - 1) / 2:Nat):Int):=by
      unfold quoT;rw [if_pos (by omega),if_pos (by omega)];congr 1;omega
    obtain ⟨a,ha⟩:=AE (l:=s.l) (k:=i) hi
    obtain ⟨b,hb⟩:=AE (l:=s.l) (k:=(i - 1) / 2) (by omega)
    rw [hq,Ar,if_neg (by omega),Ko ha hb,Ar]
    by_cases hab:bfr (toQ a) (toQ b)
    · rw [decide_eq_true hab,Du,Ar,DH,Kp hb ha,Ar]
      have e1:qs ((s.l.set ((i - 1) / 2) a).set i b)=((qs s.l).set i (toQ b)).set ((i - 1) / 2) (toQ a):=by
        rw [Jq,Jq,List.set_comm _ _ (by omega)]
      refine .inl ⟨_,rfl,⟨(i - 1) / 2,rfl,by simp;omega,?_,?_⟩,?_⟩
      · dsimp only;rw [e1];exact hu.step (by omega) (Gz ha) (Gz hb) hab
      · dsimp only;rw [e1];exact (MH (Gz ha) (Gz hb)).trans hp
      · dsimp only;omega
    · rw [decide_eq_false hab,DH,Ar,Du]
      refine .inr (.inl ⟨_,rfl,hu.heap (.inr fun x y hx hy=>?_),hp⟩)
      rw [Gz ha] at hx
      rw [Gz hb] at hy
      obtain rfl:=Option.some.inj hx
      obtain rfl:=Option.some.inj hy
      exact hab
  · have h00:i=0:=by omega
    subst h00
    have hq:quoT (((0:Nat):Int) - 1) 2=some 0:=rfl
    rw [hq,Ar,if_pos (show (0:Int)=((0:Nat):Int) from rfl),Ar,Du]
    exact .inr (.inl ⟨_,rfl,hu.heap (.inl rfl),hp⟩)
theorem MQ {q:BQ} (h:HeapOk (qs q.l)) (hl:q.l.length≤900000) (x:Itm):∃ r,Ck q ⟨x⟩=some r∧HeapOk (qs r.l)∧(qs r.l).Perm (toQ x :: qs q.l):=by
  unfold Ck CS Bt
  rw [BX (by simp;omega) (by simp;omega),Ar,Ar,Ar,BF (by unfold inI64;simp;omega),Ar]
  have hlen:(((q.l ++ [x]).length:Int) - 1)=((q.l.length:Nat):Int):=by simp
  rw [hlen]
  have eq1:qs (q.l ++ [x])=qs q.l ++ [toQ x]:=by simp [qs]
  obtain ⟨r,r1,r2,r3⟩:=RX (q:=⟨q.l ++ [x]⟩) (i:=q.l.length) (by simp) (by simp;omega) ⟨fun j y z hj hji hx hy=>by
    dsimp only at hx hy
    rw [eq1] at hx hy
    have hjl:j < (qs q.l).length:=by have:=AD hx;simp at this;rw [Fw] at this ⊢;omega
    rw [List.getElem?_append_left hjl] at hx
    rw [List.getElem?_append_left (by omega)] at hy
    exact h j y z hj hx hy,fun j y z h1 h2 h3 hx hy=>by
    dsimp only at hx
    have:=AD hx
    rw [Fw] at this
    simp at this
    omega⟩
  rw [r1,Ar]
  refine ⟨_,rfl,r2,r3.trans ?_⟩
  dsimp only
  rw [eq1]
  exact List.perm_append_comm (l₁:=qs q.l) (l₂:=[_])
theorem PS {q:BQ} {n:Nat} (hn:n≤q.l.length) (hl:q.l.length≤1000000) (h:DownI (qs (q.l.take n)) 0):∃ r,Cu q 0 (n:Int)=some r∧HeapOk (qs (r.2.l.take n))∧(qs (r.2.l.take n)).Perm (qs (q.l.take n))∧r.2.l.drop n=q.l.drop n∧r.2.l.length=q.l.length:=by
  unfold Cu
  refine Mz (fun s=>∃ i:Nat,s.1=(i:Int)∧DownI (qs (s.2.l.take n)) i∧i≤n∧(qs (s.2.l.take n)).Perm (qs (q.l.take n))∧s.2.l.drop n=q.l.drop n∧s.2.l.length=q.l.length) (fun s=>HeapOk (qs (s.2.l.take n))∧(qs (s.2.l.take n)).Perm (qs (q.l.take n))∧s.2.l.drop n=q.l.drop n∧s.2.l.length=q.l.length) (fun _=>False) (fun s=>n - s.1.toNat) ⟨0,rfl,h,by omega,List.Perm.refl _,rfl,rfl⟩ ?_ ?_ (fun s hs=>hs.elim)
  · rintro ⟨c,s⟩ ⟨i,hc,hd,hi,hp,hdr,hsl⟩
    dsimp only at hc hd hi hp hdr hsl ⊢
    subst hc
    rw [BF (by unfold inI64;omega),Ar,BF (by unfold inI64;omega),Ar]
    by_cases h1:(n:Int)≤2 * (i:Int) + 1
    · rw [if_pos h1,Ar,Du]
      refine .inr (.inl ⟨_,rfl,hd.heap fun j x y hj hji hx _=>?_,hp,hdr,hsl⟩)
      have:=AD hx
      rw [Fw,List.length_take] at this
      omega
    rw [if_neg h1,if_neg (by omega),Ar,DH]
    obtain ⟨a,ha⟩:=AE (l:=s.l) (k:=i) (by omega)
    obtain ⟨b,hb⟩:=AE (l:=s.l) (k:=2 * i + 1) (by omega)
    have tk:∀ {k:Nat} {x:Itm},k < n→s.l[k]?=some x→(qs (s.l.take n))[k]?=some (toQ x):=fun {k x} hk hx=>Gz (by rw [List.getElem?_take_of_lt hk];exact hx)
    have cast1:2 * (i:Int) + 1=((2 * i + 1:Nat):Int):=by omega
    have cast2:2 * (i:Int) + 1 + 1=((2 * i + 2:Nat):Int):=by omega
    have rest:∀ (c:Nat) (d:Itm),(c=2 * i + 1∨c=2 * i + 2)→c < n→s.l[c]?=some d→(∀ (j:Nat) x,0 < j→(j - 1) / 2=i→(qs (s.l.take n))[j]?=some x→nb x (toQ d))→(∃ s',(bnd (Bx s.l (c:Int) (i:Int)) fun q97=>if q97=true then bnd (Bp s.l (i:Int) (c:Int)) fun q109=>some (Ctl.next (ρ:=Bool×BQ) ((c:Int),(⟨q109⟩:BQ))) else some (.brk ((i:Int),s)))=some (.next s')∧(∃ i:Nat,s'.1=(i:Int)∧DownI (qs (s'.2.l.take n)) i∧i≤n∧(qs (s'.2.l.take n)).Perm (qs (q.l.take n))∧s'.2.l.drop n=q.l.drop n∧s'.2.l.length=q.l.length)∧n - s'.1.toNat < n - ((i:Int)).toNat)∨(∃ s',(bnd (Bx s.l (c:Int) (i:Int)) fun q97=>if q97=true then bnd (Bp s.l (i:Int) (c:Int)) fun q109=>some (Ctl.next (ρ:=Bool×BQ) ((c:Int),(⟨q109⟩:BQ))) else some (.brk ((i:Int),s)))=some (.brk s')∧HeapOk (qs (s'.2.l.take n))∧(qs (s'.2.l.take n)).Perm (qs (q.l.take n))∧s'.2.l.drop n=q.l.drop n∧s'.2.l.length=q.l.length)∨∃ r,(bnd (Bx s.l (c:Int) (i:Int)) fun q97=>if q97=true then bnd (Bp s.l (i:Int) (c:Int)) fun q109=>some (Ctl.next (ρ:=Bool×BQ) ((c:Int),(⟨q109⟩:BQ))) else some (.brk ((i:Int),s)))=some (.ret r)∧False:=by
      intro c d hc hcn hd' hs
      rw [Ko hd' ha,Ar]
      have e1:qs (((s.l.set i d).set c a).take n)=((qs (s.l.take n)).set i (toQ d)).set c (toQ a):=by
        rw [List.take_set,List.take_set,Jq,Jq]
      by_cases hda:bfr (toQ d) (toQ a)
      · rw [decide_eq_true hda,Du,Kp ha hd',Ar]
        refine .inl ⟨_,rfl,⟨c,rfl,?_,by omega,?_,?_,by simp;exact hsl⟩,?_⟩
        · dsimp only;rw [e1];exact hd.step hc (tk (by omega) ha) (tk hcn hd') hda hs
        · dsimp only;rw [e1];exact (MH (tk (by omega) ha) (tk hcn hd')).trans hp
        · dsimp only
          rw [← hdr]
          apply List.ext_getElem?
          intro k
          rw [List.getElem?_drop,List.getElem?_drop,List.getElem?_set_ne (by omega),List.getElem?_set_ne (by omega)]
        · dsimp only;omega
      · rw [decide_eq_false hda,DH]
        refine .inr (.inl ⟨_,rfl,hd.heap fun j x y hj hji hx hy=>?_,hp,hdr,hsl⟩)
        rw [tk (by omega) ha] at hy
        obtain rfl:=Option.some.inj hy
        exact Iq (hs j x hj hji hx) hda
    rw [BF (by unfold inI64;omega),Ar]
    by_cases h2:2 * (i:Int) + 1 + 1 < (n:Int)
    · obtain ⟨d,hd'⟩:=AE (l:=s.l) (k:=2 * i + 2) (by omega)
      rw [if_pos h2,cast2,cast1,Ko hd' hb,Ar]
      by_cases hdb:bfr (toQ d) (toQ b)
      · rw [decide_eq_true hdb,Du,Ar,Du,Ar]
        refine rest (2 * i + 2) d (.inr rfl) (by omega) hd' fun j x hj hji hx=>?_
        have:j=2 * i + 1∨j=2 * i + 2:=by omega
        rcases this with rfl|rfl
        · rw [tk (by omega) hb] at hx;obtain rfl:=Option.some.inj hx;exact LW hdb
        · rw [tk (by omega) hd'] at hx;obtain rfl:=Option.some.inj hx;exact KQ _
      · rw [decide_eq_false hdb,DH,Ar,DH,Ar]
        refine rest (2 * i + 1) b (.inl rfl) (by omega) hb fun j x hj hji hx=>?_
        have:j=2 * i + 1∨j=2 * i + 2:=by omega
        rcases this with rfl|rfl
        · rw [tk (by omega) hb] at hx;obtain rfl:=Option.some.inj hx;exact KQ _
        · rw [tk (by omega) hd'] at hx;obtain rfl:=Option.some.inj hx;exact hdb
    · rw [if_neg h2,Ar,DH,Ar,cast1]
      refine rest (2 * i + 1) b (.inl rfl) (by omega) hb fun j x hj hji hx=>?_
      have:j=2 * i + 1:=by have:=AD hx;rw [Fw,List.length_take] at this;omega
      subst this
      rw [tk (by omega) hb] at hx;obtain rfl:=Option.some.inj hx;exact KQ _
  · intro s hs
    by_cases hz:0 < s.1
    · rw [Cq,if_pos hz,Ar];exact ⟨_,rfl,hs⟩
    · rw [Cq,if_neg hz,Ar];exact ⟨_,rfl,hs⟩
theorem QU {q:BQ} (h:HeapOk (qs q.l)) (h0:0 < q.l.length) (hl:q.l.length≤900000):∃ r,Cn q=some r∧∃ (e:Itm) (q':BQ),r=((⟨e⟩:AI),q')∧HeapOk (qs q'.l)∧(qs q.l).Perm (toQ e :: qs q'.l)∧∀ x∈qs q.l,nb x (toQ e):=by
  obtain ⟨e,he⟩:=AE (l:=q.l) (k:=0) h0
  obtain ⟨z,hz⟩:=AE (l:=q.l) (k:=q.l.length - 1) (by omega)
  have cz:((q.l.length:Int) - 1)=((q.l.length - 1:Nat):Int):=by omega
  have sw:Bp q.l 0 ((q.l.length - 1:Nat):Int)=some ((q.l.set 0 z).set (q.l.length - 1) e):=Kp (i:=0) he hz
  unfold Cn Bt
  rw [Ar,BF (by unfold inI64;omega),Ar,cz,sw,Ar]
  have tk:((q.l.set 0 z).set (q.l.length - 1) e).take (q.l.length - 1)=(q.l.set 0 z).take (q.l.length - 1):=by
    rw [List.take_set]
    exact List.set_eq_of_length_le (by simp)
  have hperm:(qs q.l).Perm (toQ e :: qs ((q.l.set 0 z).take (q.l.length - 1))):=by
    have:q.l.Perm (e :: (q.l.set 0 z).take (q.l.length - 1)):=by
      cases hq:q.l with
      | nil=>rw [hq] at h0;simp at h0
      | cons a tl =>
        rw [hq] at he hz
        simp at he
        subst he
        cases htl:tl.reverse with
        | nil =>
          have:tl=[]:=by simpa using htl
          subst this
          simp
        | cons w r =>
          have htl':tl=r.reverse ++ [w]:=by have:=congrArg List.reverse htl;simpa using this
          subst htl'
          simp at hz
          subst hz
          simp
    exact this.map toQ
  obtain ⟨r,r1,r2,r3,r4,r5⟩:=PS (q:=⟨(q.l.set 0 z).set (q.l.length - 1) e⟩) (n:=q.l.length - 1) (by simp) (by simp;omega) (by
    dsimp only
    rw [tk]
    refine ⟨fun j x y hj hjp hx hy=>?_,fun j x y h1=>by omega⟩
    rw [QT,Jq] at hx hy
    have hx':=LI hx
    have hy':=LI hy
    rw [List.getElem?_set_ne (by omega)] at hx' hy'
    exact h j x y hj hx' hy')
  dsimp only at r3 r4 r5
  rw [tk] at r3
  simp only [List.length_set] at r5
  rw [r1,Ar]
  unfold CX
  have hlast:r.2.l[q.l.length - 1]?=some e:=by
    have:(r.2.l.drop (q.l.length - 1))[0]?=some e:=by
      rw [r4,List.getElem?_drop,Nat.add_zero,List.getElem?_set_self (by simp;omega)]
    rwa [List.getElem?_drop,Nat.add_zero] at this
  have hcut:cutI r.2.l 0 ((q.l.length - 1:Nat):Int)=some (r.2.l.take (q.l.length - 1)):=by
    unfold cutI
    rw [if_pos (by simp;omega)]
    simp
  rw [r5,cz,BF (by unfold inI64;omega),Ar,Bv,hlast,Ar,hcut,Ar,Ar]
  exact ⟨_,rfl,e,⟨r.2.l.take (q.l.length - 1)⟩,rfl,r2,hperm.trans (List.Perm.cons _ r3.symm),Pf h (Gz he)⟩
end
section
open Go Go.RowKit
theorem QV {t:Tsk} (h:Mid t):∃ b,Fu t=some b∧0≤b∧b≤Inf∧(b < Inf→Walk t t.init b)∧∀ C,Walk t t.init C→b≤C:=by
  obtain ⟨d,hd,hdP⟩:=QN h
  obtain ⟨i0,hi0,hi0'⟩:=Li h h.ok.2.2.2.1
  obtain ⟨c,c1,c2,c3,c4,_⟩:=hdP.1.2 i0 _ hi0'
  refine ⟨c,?_,c2,c3,c4,fun C hw=>hdP.2 i0 _ c C hi0' c1 hw⟩
  unfold Fu
  rw [hd,Ar,hi0,Ar,Bv,c1,Ar]
theorem PlanR.bound {t:Tsk} (h:TaskOk t) {s p s':List Int} {C:Int} (hr:PlanR t s p s' C):0≤C∧C≤(p.length:Int) * 1048576:=by
  induction hr with
  | nil=>simp
  | @cons s rest s' k o C ho _ _ ih =>
    have h1:=(h.2.2.2.2.2 k o ho).1
    have h2:=(h.2.2.2.2.2 k o ho).2.1
    simp only [List.length_cons]
    omega
theorem Jr {α:Type} [DecidableEq α]:∀ {a b:List α},a.Nodup→(∀ x∈a,x∈b)→a.length≤b.length
  | [],_,_,_=>Nat.zero_le _
  | x :: a,b,hn,hs=>by
    have hx:=hs x List.mem_cons_self
    have h1:=Jr (a:=a) (b:=b.erase x) (List.nodup_cons.1 hn).2 fun y hy=>(List.mem_erase_of_ne (fun e=>(List.nodup_cons.1 hn).1 (by rw [← e];exact hy))).2 (hs y (List.mem_cons_of_mem _ hy))
    have h2:=List.length_erase_of_mem hx
    have h3:=List.length_pos_of_mem hx
    simp only [List.length_cons]
    omega
def marked:List (List Int)→List Bool→List (List Int)
  | s :: l,b :: bs=>if b=true then s :: marked l bs else marked l bs
  | _,_=>[]
theorem KT:∀ (l:List (List Int)) (bs:List Bool),bs.length=l.length→(marked l bs).length=cnt bs
  | [],bs,h=>by have:bs=[]:=List.length_eq_zero_iff.1 h;subst this;rfl
  | s :: l,[],h=>by simp at h
  | s :: l,b :: bs,h=>by
    have:=KT l bs (by simpa using h)
    simp only [marked,cnt] at this ⊢
    cases b<;>simp [this]
theorem It:∀ {l:List (List Int)} {bs:List Bool} {i:Nat} {s:List Int},l[i]?=some s→bs[i]?=some true→s∈marked l bs
  | [],bs,i,s,h,_=>by simp at h
  | s :: l,[],i,s',_,h=>by simp at h
  | s :: l,b :: bs,0,s',h1,h2=>by simp at h1 h2;subst h1 h2;simp [marked]
  | s :: l,b :: bs,i + 1,s',h1,h2=>by
    have:=It (l:=l) (bs:=bs) (i:=i) (by simpa using h1) (by simpa using h2)
    simp only [marked]
    split
    · exact List.mem_cons_of_mem _ this
    · exact this
theorem MR {L:List (List Int)} (h:∀ (i j:Nat) s,L[i]?=some s→L[j]?=some s→i=j):L.Nodup:=by
  rw [List.nodup_iff_pairwise_ne,List.pairwise_iff_getElem]
  intro i j hi hj hij he
  have:=h i j L[i] (List.getElem?_eq_getElem hi) (by rw [he];exact List.getElem?_eq_getElem hj)
  omega
end
section
open Go Go.RowKit
abbrev Few (t:Tsk):Prop:=Mid t
def appB (t:Tsk) (s:List Int) (k:Nat):Bool:=match t.ops[k]? with|some o=>holdsB o.pre s|none=>false
def appN (t:Tsk) (s:List Int) (m:Nat):List Nat:=(List.range m).filter (appB t s)
def sucN (t:Tsk) (s:List Int) (k:Nat):List Int:=match t.ops[k]? with|some o=>succ o s|none=>s
theorem RY (t:Tsk) (s:List Int):appl t s=(appN t s t.ops.length).map fun k:Nat=>(k:Int):=rfl
theorem QW (t:Tsk) (s:List Int) (k:Nat):sucOf t s (k:Int)=⟨(k:Int),sucN t s k⟩:=rfl
theorem NP {t:Tsk} {s:List Int} {k:Nat} {o:Opr} (ho:t.ops[k]?=some o):appB t s k=holdsB o.pre s∧sucN t s k=succ o s:=by unfold appB sucN;rw [ho];exact ⟨rfl,rfl⟩
theorem PlanR.rch {t:Tsk} {s p s':List Int} {C:Int} (h:PlanR t s p s' C) (hs:Rch t s):Rch t s':=by
  induction h with
  | nil=>exact hs
  | cons ho hp _ ih=>exact ih (hs.step ho hp)
end
section
open Go Go.RowKit
theorem PT {t:Tsk} (hok:TaskOk t):∃ reg,CW t=some (some ⟨t,reg,some ⟨t⟩⟩,⟨0⟩)∧RegI t.vars reg [t.init]∧links reg=[⟨-1,-1,0⟩]:=by
  obtain ⟨rr,n1,reg,rfl,n2,n3⟩:=Ph hok.1 hok.2.2.1
  rcases LK hok.1 n2 hok.2.2.2.1 (by simp) with ⟨i,hi,_⟩|⟨_,r',hadd,hr',hlk⟩
  · simp at hi
  refine ⟨r',?_,hr',by rw [hlk,n3];rfl⟩
  unfold CW
  rw [Pa hok,Ar,if_neg (by simp),n1,Ar,if_neg (by simp),Ar,hadd,Ar,if_neg (by simp)]
theorem Pm {vars:List Int} {r:Reg} {L:List (List Int)} (h:RegI vars r L):(links r).length=L.length:=by unfold links;rw [List.length_map,h.len]
theorem RZ {t:Tsk} (h:TaskOk t) {s p s':List Int} {C:Int} (hr:PlanR t s p s' C):∀ (j:Nat) (c:Int),0≤c→c + p.length * 1048576≤1000000000000000 →
    rng (ρ:=Rsl×Err) (fun (_:Nat) (a78:Int) (s75:Int)=>bnd (atI t.ops a78) fun a125=>bnd (chkI (s75 + a125.cost)) fun n146=>some (.next n146)) p j c=some (.done (c + C)):=by
  induction hr with
  | nil=>intro j c _ _;simp [rng]
  | @cons s rest s' k o C ho hp hr ih =>
    intro j c hc hb
    simp only [List.length_cons] at hb
    have hoo:=h.2.2.2.2.2 k o ho
    have h1:=hoo.1
    have h2:=hoo.2.1
    have e2:(bnd (atI t.ops (k:Int)) fun a125=>bnd (chkI (c + a125.cost)) fun n146=>some (Ctl.next (ρ:=Rsl×Err) n146))=some (.next (c + o.cost)):=by
      rw [Bv,ho,Ar,BF (by unfold inI64;omega),Ar]
    simp only [rng,e2]
    rw [ih (j + 1) (c + o.cost) (by omega) (by omega),Int.add_assoc]
theorem Pn {t:Tsk} {s:List Int} (h:TaskOk t) (hs:StateOk t.vars s):s.length≤1000000:=by have:=hs.1;have:=h.1;omega
end
section
open Go Go.RowKit
structure SQ (t:Tsk) (L:List (List Int)) (x:Spc):Prop where
  tt:x.t=t
  gen:x.gen=some ⟨t⟩
  reg:RegI t.vars x.reg L
theorem KU:∀ (l:List (List Int)) (bs:List Bool),(marked l bs).Sublist l
  | [],bs=>by simp [marked]
  | s :: l,[]=>by simp [marked]
  | s :: l,b :: bs=>by
    have ih:=KU l bs
    simp only [marked]
    split
    · exact ih.cons_cons s
    · exact ih.cons s
theorem GO:∀ {l:List (List Int)} {bs:List Bool} {s:List Int},s∈marked l bs→∃ i:Nat,l[i]?=some s∧bs[i]?=some true
  | [],bs,s,h=>by simp [marked] at h
  | s :: l,[],s',h=>by simp [marked] at h
  | s :: l,b :: bs,s',h=>by
    simp only [marked] at h
    by_cases hb:b=true
    · rw [if_pos hb] at h
      rcases List.mem_cons.1 h with rfl|h
      · exact ⟨0,rfl,by simp [hb]⟩
      · obtain ⟨i,h1,h2⟩:=GO h;exact ⟨i + 1,by simpa using h1,by simpa using h2⟩
    · rw [if_neg hb] at h
      obtain ⟨i,h1,h2⟩:=GO h;exact ⟨i + 1,by simpa using h1,by simpa using h2⟩
end
section
open Go Go.RowKit
abbrev US:=(List Int)×(List Bool)×Int×Int×Spc×BQ
abbrev UT:=(List Int)×(List Bool)×Int×Spc×BQ
noncomputable def uIn (t:Tsk) (n2 cst idd:Int) (s:UT) (a:Suc):Option (Ctl UT (Ctl US (Rsl×Err))):=bnd (By s.2.2.2.1.reg a.state) fun q=>if q.2.2.1.n≠0 then (bnd (Cf 3 n2) fun z=>some (.ret (.ret (z.1,(⟨z.2.n⟩:Err))))) else (bnd (atI t.ops a.op) fun o=>bnd (chkI (cst + o.cost)) fun n=>bnd (if q.2.1=true then (bnd (appI 8 s.1 [n]) fun u=>bnd (appI 1 s.2.1 [false]) fun v=>some (.done (u,v))) else (bnd (bnd (atI s.2.1 q.1) fun b=>if b=true then (some true) else (bnd (atI s.1 q.1) fun c=>if c≤n then (some true) else (some false)):Option Bool) fun y=>if y=true then (some (.ret (.next (s.1,s.2.1,s.2.2.1,(⟨s.2.2.2.1.t,q.2.2.2,s.2.2.2.1.gen⟩:Spc),s.2.2.2.2)))) else (some (.done (s.1,s.2.1)))):Option (Fin ((List Int)×(List Bool)) (Ctl UT (Ctl US (Rsl×Err))))) fun y=>fin y fun (z:(List Int)×(List Bool))=>bnd (atI z.1 q.1) fun _=>bnd (BD q.2.2.2 q.1 idd a.op n) fun k=>if k.1.n≠0 then (some (.ret (.ret ((⟨0,([]:List Int),0,0⟩:Rsl),(⟨k.1.n⟩:Err))))) else (bnd (Ck s.2.2.2.2 (⟨(⟨n,s.2.2.1,q.1⟩:Itm)⟩:AI)) fun h=>bnd (chkI (s.2.2.1 + 1)) fun m=>some (.next ((z.1.set (q.1:Int).toNat n),z.2,m,(⟨s.2.2.2.1.t,k.2,s.2.2.2.1.gen⟩:Spc),h))))
noncomputable def uniF (t:Tsk) (lim:Int):US→Option (Ctl US (Rsl×Err)):=fun s=>bnd (Bt s.2.2.2.2.2.l) fun q=>if 0 < q then (bnd (Cn s.2.2.2.2.2) fun e=>bnd (atI s.2.1 e.1.x.id) fun b=>if b=true then (some (.next (s.1,s.2.1,s.2.2.1,s.2.2.2.1,s.2.2.2.2.1,e.2))) else (bnd (BJ s.2.2.2.2.1.reg e.1.x.id) fun w=>if w.2.n≠0 then (some (.ret ((⟨0,([]:List Int),0,0⟩:Rsl),(⟨w.2.n⟩:Err)))) else (bnd (Dy t.goal w.1) fun g=>if g=true then bnd (Cb s.2.2.2.2.1 e.1.x.id s.2.2.2.1) fun z=>some (.ret (z.1,(⟨z.2.n⟩:Err))) else if lim≤s.2.2.2.1 then (bnd (Cf 3 s.2.2.2.1) fun z=>some (.ret (z.1,(⟨z.2.n⟩:Err)))) else (bnd (atI s.2.1 e.1.x.id) fun _=>bnd (chkI (s.2.2.2.1 + 1)) fun n2=>bnd (Bi s.2.2.2.2.1.gen w.1) fun l=>bnd (rng (ρ:=Ctl US (Rsl×Err)) (fun (_:Nat) (a:Suc) (y:UT)=>uIn t n2 e.1.x.cost e.1.x.id y a) l 0 (s.1,(s.2.1.set (e.1.x.id:Int).toNat true),s.2.2.1,s.2.2.2.2.1,e.2)) fun r=>fin r fun (z:UT)=>some (.next (z.1,z.2.1,z.2.2.1,n2,z.2.2.2.1,z.2.2.2.2)))))) else (some (.brk s))
noncomputable def uniE:Fin US (Rsl×Err)→Option (Rsl×Err):=fun r=>fin r fun (s:US)=>bnd (Cf 2 s.2.2.2.1) fun q=>some (q.1,(⟨q.2.n⟩:Err))
theorem QX (t:Tsk) (lim:Int):BW t lim=bnd (CW t) fun q=>if q.2.n≠0 then (some ((⟨0,([]:List Int),0,0⟩:Rsl),(⟨q.2.n⟩:Err))) else (bnd q.1 fun o=>bnd (lop (uniF t lim) (([0]:List Int),[false],1,0,o,(⟨[(⟨0,0,0⟩:Itm)]⟩:BQ))) uniE):=rfl
theorem MS {t:Tsk} {s:List Int} {k:Nat} {o:Opr} (ho:t.ops[k]?=some o) (hp:holdsB o.pre s=true):(k:Int)∈appl t s:=by
  rw [RY,List.mem_map]
  exact ⟨k,List.mem_filter.2 ⟨List.mem_range.2 (AD ho),by rw [(NP ho).1];exact hp⟩,rfl⟩
theorem Js {t:Tsk} {s:List Int} {C:Int} (hw:Walk t s C):WalkS t (appl t) s C:=by
  induction hw with
  | goal h=>exact .goal h
  | step ho hp _ ih=>exact .step ho (MS ho hp) ih
theorem Iu {t:Tsk} (hs:Few t) {r:Reg} {L:List (List Int)} (h:RegI t.vars r L):L.length≤600:=by
  refine Nat.le_trans (Jr (MR h.nodup) fun s hm=>?_) hs.many
  obtain ⟨i,hi⟩:=List.getElem?_of_mem hm
  exact Gr.2 (h.st i s hi)
def KP (L:List (List Int)) (g:List Int) (fn:List Bool) (L':List (List Int)) (g':List Int) (fn':List Bool):Prop:=∀ j:Nat,fn'[j]?=some true→fn[j]?=some true∧g'[j]?=g[j]?∧L'[j]?=L[j]?
def HM (g:List Int) (fn:List Bool) (c:Int):Prop:=∀ (j:Nat) c',fn[j]?=some true→g[j]?=some c'→c'≤c
def CO (t:Tsk) (g:List Int) (fn:List Bool):Prop:=∀ (j:Nat) c',fn[j]?=some true→g[j]?=some c'→∀ C,Walk t t.init C→c'≤C
theorem KP.rfl {L:List (List Int)} {g:List Int} {fn:List Bool}:KP L g fn L g fn:=fun _ h=>⟨h,Eq.refl _,Eq.refl _⟩
theorem KP.upd {L L':List (List Int)} {g g':List Int} {fn fn':List Bool} {i:Nat} {s:List Int} {x:Int} (h1:UpL i s L L') (h2:UpL i x g g') (h3:UpL i false fn fn'):KP L g fn L' g' fn':=fun j hj=>by
  have hne:j≠i:=fun e=>by subst e;rw [h3.1] at hj;cases hj
  exact ⟨by rw [← h3.2 j hne];exact hj,h2.2 j hne,h1.2 j hne⟩
theorem HM.kp {L L':List (List Int)} {g g':List Int} {fn fn':List Bool} {c:Int} (h:HM g fn c) (k:KP L g fn L' g' fn'):HM g' fn' c:=fun j c' hj hc=>by
  obtain ⟨k1,k2,_⟩:=k j hj
  exact h j c' k1 (by rw [← k2];exact hc)
theorem CO.kp {t:Tsk} {L L':List (List Int)} {g g':List Int} {fn fn':List Bool} (h:CO t g fn) (k:KP L g fn L' g' fn'):CO t g' fn':=fun j c' hj hc=>by
  obtain ⟨k1,k2,_⟩:=k j hj
  exact h j c' k1 (by rw [← k2];exact hc)
theorem SK {t:Tsk} (hs:Few t) {D:Nat→Int→Prop} {ord:Nat→Nat} {L:List (List Int)} {E:Nat} {g:List Int} {fn:List Bool} {order:Int} {x:Spc} {q:BQ} (hx:SQ t L x) (hinv:SrI t (appl t) D L (links x.reg) g fn (qs q.l) ord E) (hh:HeapOk (qs q.l)) (ho0:0≤order) (ho1:order≤100000) (hql:q.l.length≤100000) (hE:E≤601)
    {p k:Nat} {o:Opr} {sp:List Int} {cp n2:Int} (ho:t.ops[k]?=some o) (hsp:L[p]?=some sp) (hfp:fn[p]?=some true) (hpre:holdsB o.pre sp=true) (hgp:g[p]?=some cp) (hmax:HM g fn cp) (hcb:cp + 1048576≤(E:Int) * 1048576) :
    ∃ y:UT,uIn t n2 cp (p:Int) (g,fn,order,x,q) ⟨(k:Int),succ o sp⟩=some (.next y)∧∃ L',SQ t L' y.2.2.2.1∧SrI t (appl t) D L' (links y.2.2.2.1.reg) y.1 y.2.1 (qs y.2.2.2.2.l) ord E∧HeapOk (qs y.2.2.2.2.l)∧0≤y.2.2.1∧y.2.2.1≤order + 1∧y.2.2.2.2.l.length≤q.l.length + 1∧KP L g fn L' y.1 y.2.1∧L'[p]?=some sp∧y.2.1[p]?=some true∧y.1[p]?=some cp∧∃ (i:Nat) (c':Int),L'[i]?=some (succ o sp)∧y.1[i]?=some c'∧c'≤cp + o.cost:=by
  have hok:=hs.ok
  have hoo:=hok.2.2.2.2.2 k o ho
  have ho1':=hoo.1
  have ho2:=hoo.2.1
  have hL:=Iu hs hx.reg
  have hcp:=(hinv.bound p cp hgp).1
  have hsok:StateOk t.vars (succ o sp):=HS hok (hx.reg.st p sp hsp) ho
  have hgl:=hinv.leng
  have hfl:=hinv.lenf
  have hlkl:=Pm hx.reg
  have hpl:=AD hsp
  unfold uIn
  dsimp only
  rcases LK hok.1 hx.reg hsok (by omega) with ⟨i,hi,hadd⟩|⟨hno,r',hadd,hr',hlk⟩
  · have hil:=AD hi
    obtain ⟨ci,hci⟩:=AE (l:=g) (k:=i) (by omega)
    obtain ⟨b,hb⟩:=AE (l:=fn) (k:=i) (by omega)
    rw [hadd,Ar,if_neg (by simp),Bv,ho,Ar,BF (by unfold inI64;omega),Ar]
    dsimp only
    rw [DH,Bv,hb,Ar,Bv,hci,Ar]
    have keep:ci≤cp + o.cost→∃ y:UT,(some (.next (g,fn,order,(⟨x.t,x.reg,x.gen⟩:Spc),q)):Option (Ctl UT (Ctl US (Rsl×Err))))=some (.next y)∧∃ L',SQ t L' y.2.2.2.1∧SrI t (appl t) D L' (links y.2.2.2.1.reg) y.1 y.2.1 (qs y.2.2.2.2.l) ord E∧HeapOk (qs y.2.2.2.2.l)∧0≤y.2.2.1∧y.2.2.1≤order + 1∧y.2.2.2.2.l.length≤q.l.length + 1∧KP L g fn L' y.1 y.2.1∧L'[p]?=some sp∧y.2.1[p]?=some true∧y.1[p]?=some cp∧∃ (i:Nat) (c':Int),L'[i]?=some (succ o sp)∧y.1[i]?=some c'∧c'≤cp + o.cost:=fun hle =>
      ⟨_,rfl,L,hx,hinv,hh,ho0,by dsimp only;omega,by dsimp only;omega,KP.rfl,hsp,hfp,hgp,i,ci,hi,hci,hle⟩
    cases b with
    | true =>
      rw [Du,Ar,Du,Ar]
      exact keep (by have:=hmax i ci hb hci;omega)
    | false =>
      rw [DH]
      by_cases hle:ci≤cp + o.cost
      · rw [if_pos hle,Ar,Du,Ar]
        exact keep hle
      · have hip:p≠i:=fun e=>by subst e;rw [hfp] at hb;cases hb
        obtain ⟨reg',s1,s2,s3⟩:=KR hx.reg hil (p:=(p:Int)) (o:=(k:Int)) (c:=cp + o.cost) (.inr ⟨p,rfl,hpl⟩)
        obtain ⟨q',u1,u2,u3⟩:=MQ hh (by omega) ⟨cp + o.cost,order,(i:Int)⟩
        have hplen:=u3.length_eq
        simp only [List.length_cons,Fw] at hplen
        rw [if_neg hle,Ar,DH,Ar,Cq]
        dsimp only
        rw [Bv,hci,Ar,s1,Ar,if_neg (by simp),u1,Ar,BF (by unfold inI64;omega),Ar,Int.toNat_natCast]
        have v1:UpL i (succ o sp) L L:=MJ hi
        have v3:UpL i (cp + o.cost) g (g.set i (cp + o.cost)):=NL (by omega)
        have v4:UpL i false fn fn:=MJ hb
        refine ⟨_,rfl,L,⟨hx.tt,hx.gen,s2⟩,?_,u2,by dsimp only;omega,by dsimp only;omega,by dsimp only;omega,KP.upd v1 v3 v4,hsp,hfp,?_,i,cp + o.cost,hi,v3.1,Int.le_refl _⟩
        · dsimp only
          rw [s3]
          exact hinv.upd hok v1 (NL (by omega)) v3 v4 u3 rfl rfl (by simp;omega) (by simp;omega) (by omega) (by omega) rfl (.inr ⟨hi,hb,fun c hc=>by rw [hci] at hc;have:=Option.some.inj hc;omega⟩) ho hsp hfp hpre rfl hgp rfl hmax (by omega)
        · dsimp only;rw [v3.2 p hip];exact hgp
  · rw [hadd,Ar,if_neg (by simp),Bv,ho,Ar,BF (by unfold inI64;omega),Ar]
    dsimp only
    have hg2:(g ++ [cp + o.cost])[L.length]?=some (cp + o.cost):=by rw [← hgl];simp
    obtain ⟨reg',s1,s2,s3⟩:=KR hr' (i:=L.length) (by simp) (p:=(p:Int)) (o:=(k:Int)) (c:=cp + o.cost) (.inr ⟨p,rfl,by simp;omega⟩)
    obtain ⟨q',u1,u2,u3⟩:=MQ hh (by omega) ⟨cp + o.cost,order,((L.length:Nat):Int)⟩
    have hplen:=u3.length_eq
    simp only [List.length_cons,Fw] at hplen
    rw [Du,BX (by simp;omega) (by simp;omega),Ar,BX (by simp;omega) (by simp;omega),Ar,Ar,Cq]
    dsimp only
    rw [Bv,hg2,Ar,s1,Ar,if_neg (by simp),u1,Ar,BF (by unfold inI64;omega),Ar,Int.toNat_natCast]
    have sc:(g ++ [cp + o.cost]).set L.length (cp + o.cost)=g ++ [cp + o.cost]:=by rw [← hgl];simp
    rw [sc]
    have hlk2:links reg'=links x.reg ++ [⟨(p:Int),(k:Int),cp + o.cost⟩]:=by rw [s3,hlk,← hlkl];simp
    have v1:UpL L.length (succ o sp) L (L ++ [succ o sp]):=JH
    have v2:UpL L.length (⟨(p:Int),(k:Int),cp + o.cost⟩:RLk) (links x.reg) (links x.reg ++ [⟨(p:Int),(k:Int),cp + o.cost⟩]):=by rw [← hlkl];exact JH
    have v3:UpL L.length (cp + o.cost) g (g ++ [cp + o.cost]):=by rw [← hgl];exact JH
    have v4:UpL L.length false fn (fn ++ [false]):=by rw [← hfl];exact JH
    have hne:p≠L.length:=by omega
    refine ⟨_,rfl,L ++ [succ o sp],⟨hx.tt,hx.gen,s2⟩,?_,u2,by dsimp only;omega,by dsimp only;omega,by dsimp only;omega,KP.upd v1 v3 v4,by rw [v1.2 p hne];exact hsp,by dsimp only;rw [v4.2 p hne];exact hfp,by dsimp only;rw [v3.2 p hne];exact hgp,L.length,cp + o.cost,v1.1,v3.1,Int.le_refl _⟩
    dsimp only
    rw [hlk2]
    exact hinv.upd hok v1 v2 v3 v4 u3 rfl rfl (by simp;omega) (by simp;omega) (by simp;omega) (by simp) (QR _) (.inl (List.getElem?_eq_none (Nat.le_refl _))) ho hsp hfp hpre rfl hgp rfl hmax (by omega)
structure UJ (t:Tsk) (D:Nat→Int→Prop) (ord:Nat→Nat) (E N:Nat) (i:Nat) (s:List Int) (c:Int) (L:List (List Int)) (y:UT):Prop where
  sq:SQ t L y.2.2.2.1
  inv:SrI t (appl t) D L (links y.2.2.2.1.reg) y.1 y.2.1 (qs y.2.2.2.2.l) ord E
  heap:HeapOk (qs y.2.2.2.2.l)
  ord0:0≤y.2.2.1
  ord1:y.2.2.1≤(N:Int) + 1
  qlen:y.2.2.2.2.l.length≤N
  hi:L[i]?=some s
  hf:y.2.1[i]?=some true
  hc:y.1[i]?=some c
  hm:HM y.1 y.2.1 c
  co:CO t y.1 y.2.1
theorem SL {t:Tsk} (hs:Few t) {ord:Nat→Nat} {E N i:Nat} {s:List Int} {c n2:Int} {L:List (List Int)} {y:UT} (h:UJ t (fun j _=>j≠i) ord E N i s c L y) (hN:N≤90000) (hE:E≤601) (hcb:c + 1048576≤(E:Int) * 1048576) :
    ∃ y':UT,rng (ρ:=Ctl US (Rsl×Err)) (fun (_:Nat) (a:Suc) (y:UT)=>uIn t n2 c (i:Int) y a) ((appS t s).map (sucOf t s)) 0 y=some (.done y')∧∃ L',UJ t (fun _ _=>True) ord E (N + 80) i s c L' y':=by
  have hok:=hs.ok
  have hops:t.ops.length≤80:=hs.ops
  have hsok:=h.sq.reg.st i s h.hi
  have hlen:(appl t s).length≤80:=Nat.le_trans (Mu t s) hops
  rw [HR hsok]
  obtain ⟨y',h1,h2⟩:=ER (ρ:=Ctl US (Rsl×Err)) (f:=fun (_:Nat) (a:Suc) (y:UT)=>uIn t n2 c (i:Int) y a) (xs:=(appl t s).map (sucOf t s)) (s₀:=y) (fun m z=>∃ L',UJ t (fun j q=>j≠i∨q∈(appl t s).take m) ord E (N + m) i s c L' z)
    ⟨L, { h with inv:={ h.inv with rel:=fun j s' q hj hs' hq hd=>h.inv.rel j s' q hj hs' hq (by rcases hd with hd|hd;exact hd;simp at hd) } }⟩ (fun m a z hm hz=>by
      rw [List.getElem?_map] at hm
      obtain ⟨op,hop,rfl⟩:=Option.map_eq_some_iff.1 hm
      obtain ⟨L',hz⟩:=hz
      obtain ⟨k,o,rfl,ho,hp⟩:=Mt (List.mem_of_getElem? hop)
      have hml:=AD hop
      have hq:=hz.qlen
      have hoo:=hz.ord1
      have e1:sucOf t s (k:Int)=⟨(k:Int),succ o s⟩:=by rw [QW,(NP ho).2]
      obtain ⟨g,fn,order,x,q⟩:=z
      obtain ⟨z',z1,L'',z2,z3,z4,z5,z6,z7,z8,z9,z10,z11,i',c',z12,z13,z14⟩:=SK hs (n2:=n2) hz.sq hz.inv hz.heap hz.ord0 (by have:=hz.ord1;dsimp only at this;omega) (by have:=hz.qlen;dsimp only at this;omega) hE ho hz.hi hz.hf hp hz.hc hz.hm hcb
      try dsimp only at hq
      try dsimp only at hoo
      try dsimp only at z6
      try dsimp only at z7
      refine ⟨z',by rw [e1];exact z1,L'',⟨z2,?_,z4,z5,by omega,by omega,z9,z10,z11,hz.hm.kp z8,hz.co.kp z8⟩⟩
      refine z3.more (j₀:=i) (q₀:=(k:Int)) (fun j q hd=>?_) z9 rfl ho z12 z11 z13 z14
      rcases hd with hd|hd
      · exact .inl (.inl hd)
      · rcases (MF hop).1 hd with hd|rfl
        · exact .inl (.inr hd)
        · by_cases e:j=i
          · exact .inr ⟨e,rfl⟩
          · exact .inl (.inl e))
  obtain ⟨L',h2⟩:=h2
  rw [List.length_map] at h2
  refine ⟨y',h1,L',?_⟩
  have hinv:=h2.inv
  have hq:=h2.qlen
  have hoo:=h2.ord1
  exact { h2 with
    inv:={ hinv with rel:=fun j s' q hj hs' hq hd=>hinv.rel j s' q hj hs' hq (by
      by_cases e:j=i
      · right;rw [List.take_length];subst e;rw [h2.hi] at hs';obtain rfl:=Option.some.inj hs';exact hq
      · exact .inl e) }
    ord1:=by omega
    qlen:=by omega }
structure UI (t:Tsk) (ord:Nat→Nat) (N:Nat) (L:List (List Int)) (s:US):Prop where
  sq:SQ t L s.2.2.2.2.1
  inv:SrI t (appl t) (fun _ _=>True) L (links s.2.2.2.2.1.reg) s.1 s.2.1 (qs s.2.2.2.2.2.l) ord s.2.2.2.1.toNat
  heap:HeapOk (qs s.2.2.2.2.2.l)
  ord0:0≤s.2.2.1
  ord1:s.2.2.1≤(N:Int) + 1
  qlen:s.2.2.2.2.2.l.length≤N
  exp0:0≤s.2.2.2.1
  co:CO t s.1 s.2.1
  nn:(N:Int)≤1 + 80 * s.2.2.2.1
theorem UI.exp {t:Tsk} (hs:Few t) {ord:Nat→Nat} {N:Nat} {L:List (List Int)} {s:US} (h:UI t ord N L s):s.2.2.2.1≤600:=by
  have h1:=h.inv.num
  have h2:=Pj s.2.1
  have h3:=h.inv.lenf
  have h4:=Iu hs h.sq.reg
  have:=h.exp0
  omega
theorem SrI.ways {t:Tsk} {L:List (List Int)} {lk:List RLk} {g:List Int} {fn:List Bool} {hp:List QEn} {ord:Nat→Nat} {E:Nat} (h:SrI t (appl t) (fun _ _=>True) L lk g fn hp ord E) (hok:TaskOk t) {s0 p s:List Int} {C:Int} (hw:PlanR t s0 p s C):∀ (i:Nat) c,L[i]?=some s0→g[i]?=some c→(∃ e∈hp,e.key≤c + C)∨∃ i:Nat,L[i]?=some s∧fn[i]?=some true:=by
  induction hw with
  | nil =>
    intro i c hi hc
    obtain ⟨b,hb⟩:=AE (l:=fn) (k:=i) (by rw [h.lenf];exact AD hi)
    cases b with
    | false=>obtain ⟨e,m,k1,_⟩:=h.opn i c hb hc;exact .inl ⟨e,m,by omega⟩
    | true=>exact .inr ⟨i,hi,hb⟩
  | @cons s0 rest s' k o C ho hpre hr ih =>
    intro i c hi hc
    have h1:=(hr.bound hok).1
    have h2:=(hok.2.2.2.2.2 k o ho).1
    obtain ⟨b,hb⟩:=AE (l:=fn) (k:=i) (by rw [h.lenf];exact AD hi)
    cases b with
    | false=>obtain ⟨e,m,k1,_⟩:=h.opn i c hb hc;exact .inl ⟨e,m,by omega⟩
    | true =>
      obtain ⟨k',o',i',c0,c',a1,a2,a3,a4,a5,a6⟩:=h.rel i s0 _ hb hi (MS ho hpre) trivial
      have e1:k=k':=by omega
      subst e1
      rw [ho] at a2
      obtain rfl:=Option.some.inj a2
      rw [hc] at a4
      obtain rfl:=Option.some.inj a4
      rcases ih i' c' a3 a5 with ⟨e,m,k1⟩|h3
      · exact .inl ⟨e,m,by omega⟩
      · exact .inr h3
theorem Sa {t:Tsk} (hs:Few t) {ord:Nat→Nat} {N:Nat} {L:List (List Int)} {st:US} (h:UI t ord N L st) :
    (∃ st':US,(∀ lim,uniF t lim st=some (.next st'))∧UI t ord N L st'∧st'.2.2.2.1=st.2.2.2.1∧st'.2.2.2.2.2.l.length < st.2.2.2.2.2.l.length) ∨
    ((∀ lim,uniF t lim st=some (.brk st))∧st.2.2.2.2.2.l.length=0) ∨
    (∃ p c,(∀ lim,uniF t lim st=some (.ret (⟨1,p,c,st.2.2.2.1⟩,⟨0⟩)))∧p.length≤600∧(∃ s',PlanR t t.init p s' c∧holdsB t.goal s'=true)∧(∀ e∈qs st.2.2.2.2.2.l,c≤e.key)) ∨
    (∃ (st':US) (ord':Nat→Nat) (N':Nat) (L':List (List Int)),(∀ lim,uniF t lim st=if lim≤st.2.2.2.1 then some (.ret (⟨3,[],0,st.2.2.2.1⟩,⟨0⟩)) else some (.next st'))∧UI t ord' N' L' st'∧st'.2.2.2.1=st.2.2.2.1 + 1∧∃ (i:Nat) (s:List Int) (c:Int),L[i]?=some s∧st.2.1[i]?=some false∧st.1[i]?=some c∧holdsB t.goal s=false∧∀ C,Walk t t.init C→c≤C):=by
  have hok:=hs.ok
  have hE:=h.exp hs
  have hE0:=h.exp0
  have hnn:=h.nn
  have hql:=h.qlen
  obtain ⟨g,fn,order,exp,x,q⟩:=st
  dsimp only at hE hE0 hnn hql ⊢
  by_cases h0:q.l.length=0
  · refine .inr (.inl ⟨fun lim=>?_,h0⟩)
    unfold uniF Bt
    dsimp only
    rw [Ar,if_neg (by omega)]
  obtain ⟨pr,p1,e,q',rfl,p3,p4,p5⟩:=QU (q:=q) h.heap (by omega) (by omega)
  have hem:toQ e∈qs q.l:=p4.mem_iff.2 List.mem_cons_self
  obtain ⟨i,hei,hil,hek⟩:=h.inv.ent _ hem
  change e.id=(i:Int) at hei
  obtain ⟨s,hsi⟩:=AE (l:=L) (k:=i) hil
  obtain ⟨b,hb⟩:=AE (l:=fn) (k:=i) (by have:=h.inv.lenf;dsimp only at this;omega)
  obtain ⟨c,hc⟩:=AE (l:=g) (k:=i) (by have:=h.inv.leng;dsimp only at this;omega)
  have hpl:=p4.length_eq
  simp only [List.length_cons,Fw] at hpl
  cases b with
  | true =>
    refine .inl ⟨(g,fn,order,exp,x,q'),fun lim=>?_,⟨h.sq,h.inv.drop p4 hei (.inl hb),p3,h.ord0,h.ord1,by dsimp only;omega,h.exp0,h.co,h.nn⟩,rfl,by dsimp only;omega⟩
    unfold uniF Bt
    dsimp only
    rw [Ar,if_pos (by omega),p1,Ar]
    dsimp only
    rw [hei,Bv,hb,Ar,Du]
  | false =>
    have hke:e.cost=c:=by
      obtain ⟨e',m,k1,_⟩:=h.inv.opn i c hb hc
      have h1:=MG (p5 e' m)
      have h2:=hek c hc
      change c≤e.cost at h2
      change e.cost≤e'.key at h1
      omega
    have start:∀ lim,uniF t lim (g,fn,order,exp,x,q)=if holdsB t.goal s=true then bnd (Cb x (i:Int) exp) fun z=>some (.ret (z.1,(⟨z.2.n⟩:Err))) else if lim≤exp then (some (.ret (⟨3,[],0,exp⟩,⟨0⟩))) else (bnd (atI fn (i:Int)) fun _=>bnd (chkI (exp + 1)) fun n2=>bnd (Bi x.gen s) fun l=>bnd (rng (ρ:=Ctl US (Rsl×Err)) (fun (_:Nat) (a:Suc) (y:UT)=>uIn t n2 c (i:Int) y a) l 0 (g,(fn.set i true),order,x,q')) fun r=>fin r fun (z:UT)=>some (.next (z.1,z.2.1,z.2.2.1,n2,z.2.2.2.1,z.2.2.2.2))):=by
      intro lim
      unfold uniF Bt Cf
      dsimp only
      rw [Ar,if_pos (by omega),p1,Ar]
      dsimp only
      rw [hei,hke,Bv,hb,Ar,DH,No hok.1 h.sq.reg hsi,Ar,if_neg (by simp),Pe,Ar,Int.toNat_natCast,Ar]
    have hkey:g[i]?=some (toQ e).key:=by rw [hc,← hke];rfl
    have hleast:∀ e'∈qs q.l,c≤e'.key:=fun e' m=>by have:=MG (p5 e' m);change e.cost≤e'.key at this;omega
    have hchp:∀ C,Walk t t.init C→c≤C:=fun C hw=>by
      obtain ⟨e',m,k1⟩:=h.inv.front hok (Js hw) 0 0 h.inv.root h.inv.root0
      have:=hleast e' m
      omega
    by_cases hg:holdsB t.goal s=true
    · obtain ⟨p,g1,g2,g3⟩:=h.inv.path hsi hc
      have hL:=Iu hs h.sq.reg
      have hnum:=h.inv.num
      have hcl:=Pj fn
      have hfl:=h.inv.lenf
      dsimp only at g1 g2 g3 hnum hcl hfl
      refine .inr (.inr (.inl ⟨p,c,fun lim=>?_,by omega,⟨s,g2,hg⟩,hleast⟩))
      rw [start,if_pos hg]
      unfold Cb
      rw [QQ h.sq.reg (by omega) g1 (by omega),Ar,if_neg (by simp),h.sq.tt,RZ hok g2 0 0 (by omega) (by omega),Ar,Cq,Int.zero_add,Ar]
    · have hgf:holdsB t.goal s=false:=by simpa using hg
      have hm:=h.inv.mark p4 p5 hei hb hkey hsi hgf
      have hbd:=h.inv.bound i c hc
      dsimp only at hm hbd
      rw [Int.toNat_of_nonneg hE0] at hbd
      have hfl:i < fn.length:=AD hb
      have hset:∀ (j:Nat) c',(fn.set i true)[j]?=some true→g[j]?=some c'→c'≤c∧∀ C,Walk t t.init C→c'≤C:=fun j c' hj hc'=>by
        by_cases e1:i=j
        · subst e1
          rw [hc] at hc'
          obtain rfl:=Option.some.inj hc'
          exact ⟨Int.le_refl _,hchp⟩
        · rw [List.getElem?_set_ne e1] at hj
          exact ⟨by have:=h.inv.lower j c' hj hc' _ hem;change c'≤e.cost at this;omega,h.co j c' hj hc'⟩
      obtain ⟨y',y1,L',y2⟩:=SL hs (n2:=exp + 1) (E:=exp.toNat + 1) (N:=N) (i:=i) (s:=s) (c:=c) (L:=L) (y:=(g,fn.set i true,order,x,q')) ⟨h.sq,hm,p3,h.ord0,h.ord1,by dsimp only;omega,hsi,List.getElem?_set_self hfl,hc,fun j c' hj hc'=>(hset j c' hj hc').1,fun j c' hj hc'=>(hset j c' hj hc').2⟩ (by omega) (by omega) (by
        have:((exp.toNat + 1:Nat):Int)=exp + 1:=by omega
        rw [this];omega)
      have hsok:=h.sq.reg.st i s hsi
      refine .inr (.inr (.inr ⟨(y'.1,y'.2.1,y'.2.2.1,exp + 1,y'.2.2.2.1,y'.2.2.2.2),(fun j=>if j=i then exp.toNat else ord j),N + 80,L',fun lim=>?_,⟨y2.sq,?_,y2.heap,y2.ord0,y2.ord1,y2.qlen,by dsimp only;omega,y2.co,by dsimp only;omega⟩,rfl,i,s,c,hsi,hb,hc,hgf,hchp⟩))
      · rw [start,if_neg hg]
        by_cases hlim:lim≤exp
        · rw [if_pos hlim,if_pos hlim]
        · rw [if_neg hlim,if_neg hlim,Bv,hb,Ar,BF (by unfold inI64;omega),Ar,h.sq.gen,QJ hok (Pn hok hsok),Ar,y1,Ar,Cq]
      · dsimp only
        rw [show (exp + 1).toNat=exp.toNat + 1 from by omega]
        exact y2.inv
end
section
open Go Go.RowKit
def Cheap (t:Tsk) (s:List Int):Prop:=holdsB t.goal s=false∧∃ p c,PlanR t t.init p s c∧c≤1000000000∧∀ C,Walk t t.init C→c≤C
def ResU (t:Tsk) (m:Int) (r:Rsl):Prop:=0≤r.expanded∧r.expanded≤m∧∃ M:List (List Int),M.Nodup∧(M.length:Int)=r.expanded∧(∀ s∈M,Cheap t s) ∧
  ((r.verdict=1∧r.plan.length≤600∧(∃ s',PlanR t t.init r.plan s' r.cost∧holdsB t.goal s'=true)∧(∀ C,Walk t t.init C→r.cost≤C)∧∀ s p c,PlanR t t.init p s c→c < r.cost→s∈M) ∨
   (r.verdict=2∧r.plan=[]∧r.cost=0∧(∀ C,¬ Walk t t.init C)∧∀ s p c,PlanR t t.init p s c→s∈M) ∨
   (r.verdict=3∧r.plan=[]∧r.cost=0∧m≤r.expanded∧∃ s,¬ s∈M∧Cheap t s))
def outU:Fin US (Rsl×Err)→Rsl
  | .done s=>⟨2,[],0,s.2.2.2.1⟩
  | .ret r=>r.1
section
variable {t : Tsk} {ord : Nat → Nat} {N : Nat} {L : List (List Int)} {st : US}
theorem UI.set (hs:Few t) (h:UI t ord N L st):(marked L st.2.1).Nodup∧((marked L st.2.1).length:Int)=st.2.2.2.1∧∀ s∈marked L st.2.1,Cheap t s:=by
  have hE:=h.exp hs
  have hE0:=h.exp0
  refine ⟨(MR h.sq.reg.nodup).sublist (KU _ _),?_,fun s hm=>?_⟩
  · rw [KT L st.2.1 h.inv.lenf,h.inv.num,Int.toNat_of_nonneg h.exp0]
  · obtain ⟨i,hi,hb⟩:=GO hm
    obtain ⟨c,hc⟩:=AE (l:=st.1) (k:=i) (by rw [h.inv.leng];exact AD hi)
    obtain ⟨p,_,g2,_⟩:=h.inv.path hi hc
    have:=h.inv.bound i c hc
    rw [Int.toNat_of_nonneg hE0] at this
    exact ⟨h.inv.nogoal i s hb hi,p,c,g2,by omega,h.co i c hb hc⟩
theorem UI.len (hs:Few t) (h:UI t ord N L st):st.2.2.2.2.2.l.length≤90000:=by
  have h1:=h.exp hs
  have h2:=h.qlen
  have h3:=h.nn
  have:=h.exp0
  omega
end
theorem QY {M K a q q' n:Nat} (ha:a < M) (h:(M - a) * K + q < n + 1) (hq:q' < K):(M - (a + 1)) * K + q' < n:=by
  obtain ⟨b,hb⟩:∃ b,M - a=b + 1:=⟨M - a - 1,by omega⟩
  have hb':M - (a + 1)=b:=by omega
  rw [hb,Nat.add_mul,Nat.one_mul] at h
  rw [hb']
  omega
theorem SM {t:Tsk} (hs:Few t) (lim:Int):∀ (n:Nat) (st:US) (ord:Nat→Nat) (N:Nat) (L:List (List Int)),UI t ord N L st→st.2.2.2.1≤max lim 0→(601 - st.2.2.2.1.toNat) * 100000 + st.2.2.2.2.2.l.length < n→∃ f,lop (uniF t lim) st=some f∧uniE f=some (outU f,⟨0⟩)∧ResU t (max lim 0) (outU f)∧st.2.2.2.1≤(outU f).expanded∧∀ lim',(outU f).verdict≠3→(outU f).expanded≤max lim' 0→lop (uniF t lim') st=some f:=by
  intro n
  induction n with
  | zero=>intro st ord N L _ _ hn;omega
  | succ n ih =>
    intro st ord N L h hsl hn
    have hE:=h.exp hs
    have hE0:=h.exp0
    have hok:=hs.ok
    obtain ⟨m1,m2,m3⟩:=h.set hs
    rcases Sa hs h with ⟨st',h1,h2,h3,h4⟩|⟨h1,h2⟩|⟨p,c,h1,h2,h3,h4⟩|⟨st',ord',N',L',h1,h2,h3,i,s,c,h4,h5,h6,h7,h8⟩
    · obtain ⟨f,f1,f0,f2,f3,f4⟩:=ih st' ord N L h2 (by omega) (by rw [h3];omega)
      refine ⟨f,by rw [EM,h1];exact f1,f0,f2,by omega,fun lim' hv hl=>?_⟩
      rw [EM,h1];exact f4 lim' hv hl
    · have hnil:∀ e,¬ e∈qs st.2.2.2.2.2.l:=fun e he=>by
        have:=List.length_pos_of_mem he
        rw [Fw] at this
        omega
      refine ⟨.done st,by rw [EM,h1],rfl,⟨hE0,hsl,marked L st.2.1,m1,m2,m3,.inr (.inl ⟨rfl,rfl,rfl,fun C hw=>?_,fun s p c hp=>?_⟩)⟩,Int.le_refl _,fun lim' _ _=>by rw [EM,h1]⟩
      · obtain ⟨e',m,_⟩:=h.inv.front hok (Js hw) 0 0 h.inv.root h.inv.root0
        exact hnil e' m
      · rcases h.inv.ways hok hp 0 0 h.inv.root h.inv.root0 with ⟨e,m,_⟩|⟨i,i1,i2⟩
        · exact absurd m (hnil e)
        · exact It i1 i2
    · refine ⟨.ret (⟨1,p,c,st.2.2.2.1⟩,⟨0⟩),by rw [EM,h1],rfl,⟨hE0,hsl,marked L st.2.1,m1,m2,m3,.inl ⟨rfl,h2,h3,fun C hw=>?_,fun s p' c' hp hlt=>?_⟩⟩,Int.le_refl _,fun lim' _ _=>by rw [EM,h1]⟩
      · obtain ⟨e',m,k⟩:=h.inv.front hok (Js hw) 0 0 h.inv.root h.inv.root0
        have:=h4 e' m
        show c≤C
        omega
      · rcases h.inv.ways hok hp 0 0 h.inv.root h.inv.root0 with ⟨e,m,k⟩|⟨i,i1,i2⟩
        · have:=h4 e m
          change c' < c at hlt
          omega
        · exact It i1 i2
    · by_cases hlim:lim≤st.2.2.2.1
      · refine ⟨.ret (⟨3,[],0,st.2.2.2.1⟩,⟨0⟩),by rw [EM,h1,if_pos hlim],rfl,⟨hE0,hsl,marked L st.2.1,m1,m2,m3,.inr (.inr ⟨rfl,rfl,rfl,by show max lim 0≤st.2.2.2.1;omega,s,fun hm=>?_,?_⟩)⟩,Int.le_refl _,fun lim' hv _=>absurd rfl hv⟩
        · obtain ⟨j,j1,j2⟩:=GO hm
          have:=h.sq.reg.nodup i j s h4 j1
          subst this
          rw [h5] at j2
          cases j2
        · obtain ⟨p,_,g2,_⟩:=h.inv.path h4 h6
          have:=h.inv.bound i c h6
          rw [Int.toNat_of_nonneg hE0] at this
          exact ⟨h7,p,c,g2,by omega,h8⟩
      · have hmany:=h2.len hs
        obtain ⟨f,f1,f0,f2,f3,f4⟩:=ih st' ord' N' L' h2 (by omega) (by
          have:st'.2.2.2.1.toNat=st.2.2.2.1.toNat + 1:=by omega
          rw [this];exact QY (by omega) hn (by omega))
        refine ⟨f,by rw [EM,h1,if_neg hlim];exact f1,f0,f2,by omega,fun lim' hv hl=>?_⟩
        rw [EM,h1,if_neg (by omega)];exact f4 lim' hv hl
theorem Sb {t:Tsk} {reg:Reg} (hr:RegI t.vars reg [t.init]) (hlk:links reg=[⟨-1,-1,0⟩]):UI t (fun _=>0) 1 [t.init] (([0]:List Int),[false],1,0,⟨t,reg,some ⟨t⟩⟩,(⟨[(⟨0,0,0⟩:Itm)]⟩:BQ)):=by
  have one:∀ {α:Type} {a b:α} {i:Nat},[a][i]?=some b→i=0∧b=a:=fun {α a b i} h=>by
    cases i with
    | zero=>simp at h;exact ⟨rfl,h.symm⟩
    | succ i=>simp at h
  refine ⟨⟨rfl,rfl,hr⟩,?_,fun j x y hj hx=>by have:=(one hx).1;omega,by simp,by simp,by simp,by simp,(fun j c hj=>by have:=(one hj).2;cases this),by simp⟩
  dsimp only
  rw [hlk]
  refine ⟨rfl,rfl,rfl,rfl,rfl,fun i s k c hi hk hc=>?_,fun i hi=>?_,fun j c hj=>?_,fun e he=>?_,fun i c hi hc=>?_,fun i c hc=>?_,fun j s hj=>?_,fun j s q hj=>?_,rfl,fun i s hi=>?_,fun hE=>by simp at hE⟩
  · obtain ⟨rfl,rfl⟩:=one hi
    obtain ⟨_,rfl⟩:=one hk
    obtain ⟨_,rfl⟩:=one hc
    exact .inl ⟨rfl,rfl,rfl⟩
  · have:=(one hi).2;cases this
  · have:=(one hj).2;cases this
  · have he':e=toQ ⟨0,0,0⟩:=by simpa [qs] using he
    subst he'
    refine ⟨0,rfl,by simp,fun c hc=>?_⟩
    have:=(one hc).2
    rw [this]
    decide
  · obtain ⟨rfl,_⟩:=one hi
    have:=(one hc).2
    refine ⟨toQ ⟨0,0,0⟩,by simp [qs],?_,rfl⟩
    rw [this];rfl
  · have:=(one hc).2
    rw [this]
    decide
  · have:=(one hj).2;cases this
  · have:=(one hj).2;cases this
  · obtain ⟨_,rfl⟩:=one hi;exact .init
theorem Ou {t:Tsk} (hs:Few t) (lim:Int):∃ r,BW t lim=some (r,⟨0⟩)∧ResU t (max lim 0) r∧(r.verdict≠3→∀ lim',r.expanded≤max lim' 0→BW t lim'=some (r,⟨0⟩)):=by
  obtain ⟨reg,b1,b2,b3⟩:=PT hs.ok
  have unf:∀ l,BW t l=bnd (lop (uniF t l) (([0]:List Int),[false],1,0,(⟨t,reg,some ⟨t⟩⟩:Spc),(⟨[(⟨0,0,0⟩:Itm)]⟩:BQ))) uniE:=fun l=>by
    rw [QX,b1,Ar,if_neg (by simp),Ar]
  obtain ⟨f,f1,f0,f2,f3,f4⟩:=SM hs lim _ _ _ _ _ (Sb b2 b3) (by dsimp only;omega) (Nat.lt_succ_self _)
  refine ⟨outU f,by rw [unf,f1,Ar,f0],f2,fun hv lim' hl=>?_⟩
  rw [unf,f4 lim' hv hl,Ar,f0]
theorem Ov {t:Tsk} (hs:Few t) {m:Int} {r:Rsl} (h:ResU t m r) (hm:600≤m):r.verdict≠3:=fun hv=>by
  obtain ⟨_,_,M,m1,m2,m3,h1|h1|⟨_,_,_,h4,s,h5,h6⟩⟩:=h
  · omega
  · omega
  · have h7:(s :: M).length≤(statesL t.vars).length:=Jr (List.nodup_cons.2 ⟨h5,m1⟩) fun s' hm'=>by
      have hc:Cheap t s':=by
        rcases List.mem_cons.1 hm' with rfl|hm'
        · exact h6
        · exact m3 s' hm'
      obtain ⟨_,p,c,hp,_⟩:=hc
      exact Gr.2 ((hp.rch .init).ok hs.ok)
    have:=hs.many
    rw [List.length_cons] at h7
    omega
end
section
open Go Go.RowKit
structure Fit (t:Tsk) (old:List ByteArray):Prop where
  ok:TaskOk t
  ops:t.ops.length≤10
  old:old.length≤6
  states:∀ k,(statesL (t.vars.take k)).length≤81
theorem Ox {t:Tsk} (hok:TaskOk t):∃ r,Ft t.vars 81=some r∧(r≤81→∀ k,(statesL (t.vars.take k)).length≤81):=by
  have hv:=hok.2.2.1
  have hz:∀ k,k≤0→(statesL (t.vars.take k)).length≤81:=fun k hk=>by
    have:k=0:=by omega
    subst this
    simp [statesL]
  unfold Ft
  refine Hj (fun m s=>s=((statesL (t.vars.take m)).length:Int)∧∀ k,k≤m→(statesL (t.vars.take k)).length≤81) (fun q=>q=82) ⟨by simp [statesL],hz⟩ ?_ ?_ ?_
  · rintro m n s hn ⟨rfl,hI⟩
    obtain ⟨n1,n2⟩:=hv m n hn
    have h1:=hI m (Nat.le_refl _)
    have h3:((statesL (t.vars.take (m + 1))).length:Int)=((statesL (t.vars.take m)).length:Int) * n:=by
      rw [Ew hn,grows,Gx,Int.natCast_mul,Int.toNat_of_nonneg (by omega)]
    have h4:((statesL (t.vars.take m)).length:Int) * n≤81 * 64:=Int.le_trans (Int.mul_le_mul_of_nonneg_right (show ((statesL (t.vars.take m)).length:Int)≤81 by omega) (by omega)) (Int.mul_le_mul_of_nonneg_left (by omega) (by omega))
    have h5:0≤((statesL (t.vars.take m)).length:Int) * n:=Int.mul_nonneg (by omega) (by omega)
    rw [BF (by unfold inI64;omega),Ar,show min (max n 0) (81 + 1)=n from by omega,BF (by unfold inI64;omega),Ar]
    by_cases hq:81 < ((statesL (t.vars.take m)).length:Int) * n
    · rw [if_pos hq]
      exact .inr ⟨82,rfl,rfl⟩
    · rw [if_neg hq]
      refine .inl ⟨_,rfl,h3.symm,fun k hk=>?_⟩
      by_cases e:k=m + 1
      · subst e;omega
      · exact hI k (by omega)
  · rintro s ⟨rfl,hI⟩
    refine ⟨_,rfl,fun _ k=>?_⟩
    rcases Nat.lt_or_ge t.vars.length k with h|h
    · have h2:=hI t.vars.length (Nat.le_refl _)
      rw [List.take_of_length_le (by omega)]
      rwa [List.take_length] at h2
    · exact hI k h
  · rintro q rfl
    exact ⟨82,rfl,fun h=>by omega⟩
theorem PU (t:Tsk) (old:List ByteArray):∃ b,Fv t old=some b∧(b=true→SmallOk t∧Fit t old):=by
  unfold Fv Hf
  by_cases hs:SmallOk t
  case neg=>rw [Br hs,Ar,DH,Ar];exact ⟨false,rfl,fun h=>by cases h⟩
  rw [Cr hs,Ar,Du]
  by_cases h1:(t.ops.length:Int)≤10
  case neg=>rw [if_neg h1,Ar];exact ⟨false,rfl,fun h=>by cases h⟩
  rw [if_pos h1]
  by_cases h2:(old.length:Int)≤6
  case neg=>rw [if_neg h2,Ar];exact ⟨false,rfl,fun h=>by cases h⟩
  rw [if_pos h2]
  obtain ⟨r,hr,hr2⟩:=Ox hs.ok
  rw [hr,Ar]
  by_cases h3:r≤81
  · rw [if_pos h3,Ar];exact ⟨true,rfl,fun _=>⟨hs,hs.ok,by omega,by omega,hr2 h3⟩⟩
  · rw [if_neg h3,Ar];exact ⟨false,rfl,fun h=>by cases h⟩
section
variable {t : Tsk} {old : List ByteArray} {w : Int}
theorem Fit.mid (h:Fit t old) (hu:TaskOk (cmpT t old w)):Mid (cmpT t old w):=by
  refine ⟨hu,fun k=>?_,?_⟩
  · show (statesL ((t.vars ++ [(old.length:Int) + 1]).take k)).length≤600
    rcases Nat.lt_or_ge t.vars.length k with hk|hk
    · have e:(t.vars ++ [(old.length:Int) + 1]).take k=(t.vars ++ [(old.length:Int) + 1]).take (t.vars.length + 1):=by
        rw [List.take_of_length_le (by simp;omega),List.take_of_length_le (by simp)]
      rw [e,Ew (n:=(old.length:Int) + 1) (by simp),grows,Gx,List.take_append_of_le_length (Nat.le_refl _),List.take_length]
      have h1:=h.states t.vars.length
      rw [List.take_length] at h1
      have h2:=h.old
      have:(statesL t.vars).length * ((old.length:Int) + 1).toNat≤81 * 7:=Nat.mul_le_mul h1 (by omega)
      omega
    · rw [List.take_append_of_le_length hk]
      have:=h.states k
      omega
  · show ((cmpL t old w).map (·.1)).length≤80
    rw [List.length_map]
    have h1:=MB t old w
    have h2:old.length * (t.ops.length + 1)≤6 * 11:=Nat.mul_le_mul h.old (by have:=h.ops;omega)
    have:=h.ops
    omega
theorem NQ {u:Tsk} {s P s':List Int} {C:Int} (h:PlanR u s P s' C):∀ (i:Nat) (k:Int),P[i]?=some k→∃ (j:Nat) (o:Opr),k=(j:Int)∧u.ops[j]?=some o:=by
  induction h with
  | nil=>intro i k hi;simp at hi
  | @cons s rest s' j o C ho _ _ ih =>
    intro i k hi
    cases i with
    | zero=>simp at hi;exact ⟨j,o,hi.symm,ho⟩
    | succ i=>exact ih i k (by simpa using hi)
theorem Po (L:List (Opr×Prt)) (P:List Int) (k:Int):mapP L (P ++ [k])=mapP L P ++ mapP L [k]:=by unfold mapP;rw [List.flatMap_append]
theorem Iv (L:List (Opr×Prt)):∀ P:List Int,(mapP L P).length≤P.length
  | []=>by simp [mapP]
  | k :: P=>by
    have:=Iv L P
    unfold mapP at this ⊢
    rw [List.flatMap_cons,List.length_append,List.length_cons]
    have h1:(partI L k).length≤1:=by
      unfold partI
      split
      · split<;>simp
      · simp
    omega
theorem Oy (h:Fit t old) (hw0:0≤w) (hw1:w≤1000) (hu:¬ TaskOk (cmpT t old w)) (lim:Int):Cp t old w lim=some (⟨0,[],0,0⟩,0,⟨checkN (cmpT t old w)⟩)∧checkN (cmpT t old w)≠0:=by
  have hn:checkN (cmpT t old w)≠0:=fun h=>hu (EY.1 h)
  refine ⟨?_,hn⟩
  unfold Cp
  rw [KO h.ok (by have:=h.ops;omega) (by have:=h.old;omega) hw0 hw1,if_pos hn,Ar,if_pos hn]
theorem Oz (h:Fit t old) (hw0:0≤w) (hw1:w≤1000) (hu:TaskOk (cmpT t old w)) (lim:Int):∃ r,BW (cmpT t old w) lim=some (r,⟨0⟩)∧ResU (cmpT t old w) (max lim 0) r∧(r.verdict≠3→∀ lim',r.expanded≤max lim' 0→BW (cmpT t old w) lim'=some (r,⟨0⟩)) ∧
    Cp t old w lim=some (if r.verdict≠1 then (r,0,⟨0⟩) else (⟨r.verdict,mapP (cmpL t old w) r.plan,r.cost,r.expanded⟩,(dist2 ((mapP (cmpL t old w) r.plan).map (nmO t)) old:Int),⟨0⟩)):=by
  obtain ⟨r,r1,r2,r3⟩:=Ou (h.mid hu) lim
  refine ⟨r,r1,r2,r3,?_⟩
  unfold Cp
  rw [KO h.ok (by have:=h.ops;omega) (by have:=h.old;omega) hw0 hw1,if_neg (by rw [EY.2 hu];simp),Ar,if_neg (by simp)]
  dsimp only
  rw [r1,Ar,if_neg (by simp)]
  by_cases hv:r.verdict≠1
  · rw [if_pos hv,if_pos hv]
  rw [if_neg hv,if_neg hv]
  obtain ⟨_,_,M,_,_,_,⟨_,hl,⟨s',hp,_⟩,_,_⟩|⟨hv2,_⟩|⟨hv2,_⟩⟩:=r2
  · have hol:=h.ops
    have hold:=h.old
    rw [El (fun i=>(mapP (cmpL t old w) (r.plan.take i),(mapP (cmpL t old w) (r.plan.take i)).map (nmO t))) (by simp [mapP]) ?gg1,Ar,Cq,List.take_length]
    case gg1 =>
      intro i k hk
      have hkl:=AD hk
      obtain ⟨j,o,rfl,hj⟩:=NQ hp i k hk
      obtain ⟨q,hq,_⟩:=NO hj
      have hml:=Iv (cmpL t old w) (r.plan.take i)
      rw [List.length_take] at hml
      have htk:r.plan.take (i + 1)=r.plan.take i ++ [(j:Int)]:=by rw [List.take_add_one,hk];rfl
      rw [htk,Po,LP hq,Bv,List.getElem?_map,hq,Option.map_some,Ar]
      have hno:(0:Int)≤q.2.op→∃ (m:Nat) (o:Opr),q.2.op=(m:Int)∧t.ops[m]?=some o:=fun hop=>by
        rcases Ge.1 (List.mem_of_getElem? hq) with ⟨m,o,hm,rfl⟩|⟨_,m,o,_,hm,rfl⟩|⟨p,_,_,rfl⟩
        · exact ⟨m,o,rfl,hm⟩
        · exact ⟨m,o,rfl,hm⟩
        · exact absurd (show (0:Int)≤-1 from hop) (by omega)
      by_cases hop:0≤q.2.op
      · obtain ⟨m,o',hm,hmo⟩:=hno hop
        rw [if_pos hop,if_pos hop,hm,Bv,hmo,Ar,BX (by simp;omega) (by simp;omega),Ar,BX (by simp;omega) (by simp;omega),Ar]
        simp [mapP,KS hmo]
      · rw [if_neg hop,if_neg hop]
        simp [mapP]
    have hml:=Iv (cmpL t old w) r.plan
    dsimp only
    rw [RS (by simp;omega) (by omega),Ar]
    rfl
  · exact absurd (by rw [hv2];decide) hv
  · exact absurd (by rw [hv2];decide) hv
theorem QZ (h:Fit t old) (hw0:0≤w) {m:Int} {r:Rsl} (hr:ResU (cmpT t old w) m r) (hv:r.verdict=1):∃ x c,PlanR t t.init (mapP (cmpL t old w) r.plan) x c∧holdsB t.goal x=true∧r.cost=c + w * (dist2 ((mapP (cmpL t old w) r.plan).map (nmO t)) old:Int) ∧
    ∀ π' x' c',PlanR t t.init π' x' c'→holdsB t.goal x'=true→r.cost≤c' + w * (dist2 (π'.map (nmO t)) old:Int):=by
  have hi:=h.ok.2.2.2.1.1
  have best:∀ π' x' c',(∀ C,Walk (cmpT t old w) (cmpT t old w).init C→r.cost≤C)→PlanR t t.init π' x' c'→holdsB t.goal x'=true→r.cost≤c' + w * (dist2 (π'.map (nmO t)) old:Int):=fun π' x' c' hb hp hg=>by
    have hx':x'.length=t.vars.length:=by
      have:∀ {s p s':List Int} {C:Int},PlanR t s p s' C→s'.length=s.length:=fun hp=>by
        induction hp with
        | nil=>rfl
        | cons _ _ _ ih=>rw [ih,FB]
      rw [this hp,hi]
    obtain ⟨P,hP⟩:=Pk (w:=w) h.ok (LL (π'.map (nmO t)) old) t.init x' π' c' 0 hp rfl rfl (by omega) hi
    refine hb _ (hP.walk ?_)
    rw [Kn h.ok hx',hg];simp
  obtain ⟨_,_,M,_,_,_,⟨_,_,⟨s',hp,hg⟩,hb,_⟩|⟨hv2,_⟩|⟨hv2,_⟩⟩:=hr
  · obtain ⟨x',p',c,n,rfl,_,hp2,hpl,hscr,hC⟩:=PR h.ok hp t.init 0 rfl hi (by omega)
    have hx':x'.length=t.vars.length:=by
      have:∀ {s p s':List Int} {C:Int},PlanR t s p s' C→s'.length=s.length:=fun hp=>by
        induction hp with
        | nil=>rfl
        | cons _ _ _ ih=>rw [ih,FB]
      rw [this hpl,hi]
    rw [Kn h.ok hx',Bool.and_eq_true,decide_eq_true_eq] at hg
    have hpe:p'=old.length:=by omega
    subst hpe
    rw [List.take_length,List.drop_zero] at hscr
    have hle:=MK hscr
    have hbb:=best _ _ _ hb hpl hg.1
    refine ⟨x',c,hpl,hg.1,?_,fun π' x' c' h1 h2=>best π' x' c' hb h1 h2⟩
    have h1:w * (dist2 ((mapP (cmpL t old w) r.plan).map (nmO t)) old:Int)≤w * (n:Int):=Int.mul_le_mul_of_nonneg_left (by omega) hw0
    omega
  · omega
  · omega
theorem PV (h:Fit t old) {m:Int} {r:Rsl} (hr:ResU (cmpT t old w) m r) (hv:r.verdict=2):r.plan=[]∧r.cost=0∧∀ π' x' c',PlanR t t.init π' x' c'→holdsB t.goal x'=true→False:=by
  have hi:=h.ok.2.2.2.1.1
  obtain ⟨_,_,M,_,_,_,⟨hv2,_⟩|⟨_,h1,h2,h3,_⟩|⟨hv2,_⟩⟩:=hr
  · omega
  · refine ⟨h1,h2,fun π' x' c' hp hg=>?_⟩
    have hx':x'.length=t.vars.length:=by
      have:∀ {s p s':List Int} {C:Int},PlanR t s p s' C→s'.length=s.length:=fun hp=>by
        induction hp with
        | nil=>rfl
        | cons _ _ _ ih=>rw [ih,FB]
      rw [this hp,hi]
    obtain ⟨P,hP⟩:=Pk (w:=w) h.ok (LL (π'.map (nmO t)) old) t.init x' π' c' 0 hp rfl rfl (by omega) hi
    exact h3 _ (hP.walk (by rw [Kn h.ok hx',hg];simp))
  · omega
theorem ResU.verd {u:Tsk} {m:Int} {r:Rsl} (h:ResU u m r):r.verdict=1∨r.verdict=2∨r.verdict=3:=by
  obtain ⟨_,_,M,_,_,_,⟨h,_⟩|⟨h,_⟩|⟨h,_⟩⟩:=h<;>simp [h]
end
end
section
open Go Go.RowKit
theorem MT {t:Tsk} {p:List Int} (hp:∀ (i:Nat) (k:Int),p[i]?=some k→∃ (j:Nat) (o:Opr),k=(j:Int)∧t.ops[j]?=some o) (hl:p.length≤1000000):Ec t p=some (p.map (nmO t)):=by
  unfold Ec
  rw [El (fun k=>(p.take k).map (nmO t)) (by simp) ?gg1,Ar,Cq,List.take_length]
  intro i k hk
  have hkl:=AD hk
  obtain ⟨j,o,rfl,hj⟩:=hp i k hk
  rw [Bv,hj,Ar,BX (by simp;omega) (by simp;omega),Ar,List.take_add_one,hk,List.map_append]
  simp [KS hj]
end
section
open Go Go.RowKit
def Le {α:Type} (x y:Option α):Prop:=∀ r,x=some r→y=some r
theorem Le.rf {α:Type} {x:Option α}:Le x x:=fun _ h=>h
theorem Le.bnd {α β:Type} {x x':Option α} {f f':α→Option β} (h:Le x x') (hf:∀ a,Le (f a) (f' a)):Le (bnd x f) (bnd x' f'):=fun r hr=>by
  obtain ⟨a,ha,hb⟩:=bs hr
  rw [h a ha,Ar]
  exact hf a r hb
theorem Le.ite {α:Type} {p:Prop} [Decidable p] {x x' y y':Option α} (h:Le x x') (k:Le y y'):Le (if p then x else y) (if p then x' else y'):=by
  by_cases hp:p
  · rw [if_pos hp,if_pos hp];exact h
  · rw [if_neg hp,if_neg hp];exact k
theorem Le.fin {σ κ:Type} {y:Fin σ κ} {f f':σ→Option κ} (hf:∀ a,Le (f a) (f' a)):Le (fin y f) (fin y f'):=by
  cases y with
  | done s=>exact hf s
  | ret c=>exact Le.rf
theorem Le.rng {α σ ρ:Type} {f f':Nat→α→σ→Option (Ctl σ ρ)} (hf:∀ k a s,Le (f k a s) (f' k a s)):∀ {xs:List α} {k:Nat} {s:σ},Le (rng f xs k s) (rng f' xs k s)
  | [],_,_=>Le.rf
  | x :: xs,k,s=>fun r hr=>by
    simp only [Proofs.YtafdmfhdjfkooaaGreat.rng] at hr ⊢
    cases hc:f k x s with
    | none=>rw [hc] at hr;cases hr
    | some c =>
      rw [hc] at hr
      rw [hf k x s c hc]
      cases c with
      | next s'=>exact Le.rng hf r hr
      | brk s'=>exact hr
      | ret q=>exact hr
theorem Le.rngN {σ ρ:Type} {f f':Nat→σ→Option (Ctl σ ρ)} {n:Nat} {s:σ} (hf:∀ k s,Le (f k s) (f' k s)):Le (rngN f n s) (rngN f' n s):=Le.rng fun _ k s=>hf k s
theorem Le.itr {σ ρ:Type} {f f':σ→Option (Ctl σ ρ)} (hf:∀ s,Le (f s) (f' s)):∀ (n:Nat) (s:σ),Le (itr f n s) (itr f' n s)
  | 0,_=>Le.rf
  | n + 1,s=>fun r hr=>by
    simp only [Proofs.YtafdmfhdjfkooaaGreat.itr] at hr ⊢
    cases hc:f s with
    | none=>rw [hc] at hr;cases hr
    | some c =>
      rw [hc] at hr
      rw [hf s c hc]
      cases c with
      | next s'=>exact Le.itr hf n s' r hr
      | brk s'=>exact hr
      | ret q=>exact hr
def lopE {σ ρ:Type} (f:σ→Option (Ctl σ ρ)) (s:σ):Option (Fin σ ρ):=itr f 600 s
theorem Le.lop {σ ρ:Type} {f f':σ→Option (Ctl σ ρ)} {s:σ} (hf:∀ s,Le (f s) (f' s)):Le (lopE f s) (lop f' s):=fun r hr=>Hd.2 ⟨600,Le.itr hf 600 s r hr⟩
end
section
open Go Go.RowKit
def factB (vars:List Int) (x:Fct):Bool:=decide (0≤x.var) && (decide (0≤x.val) && (match vars[x.var.toNat]? with|some y=>decide (x.val < y)|none=>false))
theorem MU {vars:List Int} {x:Fct} (h:factB vars x=true):FactOk vars x:=by
  unfold factB at h
  simp only [Bool.and_eq_true,decide_eq_true_eq] at h
  obtain ⟨h1,h2,h3⟩:=h
  cases hv:vars[x.var.toNat]? with
  | none=>rw [hv] at h3;cases h3
  | some y=>rw [hv] at h3;exact ⟨h1,h2,y,hv,by simpa using h3⟩
def ascB:List Fct→Bool
  | x :: y :: r=>decide (x.var < y.var) && ascB (y :: r)
  | _=>true
theorem NS:∀ {f:List Fct},ascB f=true→∀ (i:Nat) x y,f[i]?=some x→f[i + 1]?=some y→x.var < y.var
  | [],_,i,x,y,h,_=>by simp at h
  | [_],_,i,x,y,_,h=>by simp at h
  | a :: b :: r,h,i,x,y,h1,h2=>by
    simp only [ascB,Bool.and_eq_true,decide_eq_true_eq] at h
    cases i with
    | zero=>simp at h1 h2;subst h1;subst h2;exact h.1
    | succ i=>exact NS h.2 i x y (by simpa using h1) (by simpa using h2)
def factsB (vars:List Int) (f:List Fct):Bool:=f.all (factB vars) && ascB f
theorem Jt {vars:List Int} {f:List Fct} (h:factsB vars f=true):FactsOk vars f:=by
  unfold factsB at h
  rw [Bool.and_eq_true,List.all_eq_true] at h
  exact ⟨fun i x hx=>MU (h.1 x (List.mem_of_getElem? hx)),NS h.2⟩
def stateB:List Int→List Int→Bool
  | [],[]=>true
  | y :: vars,x :: s=>decide (0≤x) && (decide (x < y) && stateB vars s)
  | _,_=>false
theorem Ju:∀ {vars s:List Int},stateB vars s=true→StateOk vars s
  | [],[],_=>⟨rfl,fun i x y h=>by simp at h⟩
  | y :: vars,x :: s,h=>by
    simp only [stateB,Bool.and_eq_true,decide_eq_true_eq] at h
    obtain ⟨h1,h2⟩:=Ju h.2.2
    refine ⟨by simp [h1],fun i a b ha hb=>?_⟩
    cases i with
    | zero=>simp at ha hb;subst ha;subst hb;exact ⟨h.1,h.2.1⟩
    | succ i=>exact h2 i a b (by simpa using ha) (by simpa using hb)
  | [],_ :: _,h=>by simp [stateB] at h
  | _ :: _,[],h=>by simp [stateB] at h
def nameB (s:ByteArray):Bool:=decide (s.size≤256) && s.data.toList.all fun c=>decide (32≤c.toNat) && decide (c.toNat≤126)
theorem PW {s:ByteArray} (h:nameB s=true):NameOk s:=by
  unfold nameB at h
  simp only [Bool.and_eq_true,decide_eq_true_eq,List.all_eq_true] at h
  refine ⟨h.1,fun i hi=>h.2 _ ?_⟩
  show s.data[i]∈_
  simp
def opB (vars:List Int) (o:Opr):Bool:=decide (0≤o.cost) && (decide (o.cost≤1048576) && (decide (o.effs.length≤64) && (nameB o.name && (factsB vars o.pre && o.effs.all fun e=>factsB vars e.cond && factB vars ⟨e.var,e.val⟩))))
theorem Sc {vars:List Int} {o:Opr} (h:opB vars o=true):OpOk vars o:=by
  unfold opB at h
  simp only [Bool.and_eq_true,decide_eq_true_eq,List.all_eq_true] at h
  obtain ⟨h1,h2,h3,h4,h5,h6⟩:=h
  exact ⟨h1,h2,h3,PW h4,Jt h5,fun i e he=>⟨Jt (h6 e (List.mem_of_getElem? he)).1,MU (h6 e (List.mem_of_getElem? he)).2⟩⟩
def taskB (t:Tsk):Bool:=decide (t.vars.length≤64) && (decide (t.ops.length≤4096) && ((t.vars.all fun n=>decide (1≤n) && decide (n≤64)) && (stateB t.vars t.init && (factsB t.vars t.goal && t.ops.all (opB t.vars)))))
theorem MV {t:Tsk} (h:taskB t=true):TaskOk t:=by
  unfold taskB at h
  simp only [Bool.and_eq_true,decide_eq_true_eq,List.all_eq_true] at h
  obtain ⟨h1,h2,h3,h4,h5,h6⟩:=h
  exact ⟨h1,h2,fun i n hn=>h3 n (List.mem_of_getElem? hn),Ju h4,Jt h5,fun i o ho=>Sc (h6 o (List.mem_of_getElem? ho))⟩
def Hk (t:Tsk):Option Err:=if taskB t=true then some ⟨0⟩ else none
theorem LR (t:Tsk):Le (Hk t) (Eu t):=fun r h=>by
  obtain ⟨h1,rfl⟩:=EX h
  unfold Eu
  rw [EY.2 (MV h1)]
def HG (x y:List Int):Option Bool:=some (decide (x=y))
theorem MW (x y:List Int):Le (HG x y) (Gn x y):=fun r h=>by
  unfold HG at h
  unfold Gn
  rw [← h]
  by_cases hx:x=y
  · rw [Cr hx];simp [hx]
  · rw [Br hx];simp [hx]
def Hl (f:List Fct) (s:List Int):Option Bool:=Dy f s
theorem IH (f:List Fct) (s:List Int):Le (Hl f s) (Dy f s):=Le.rf
def Do (x:List Int):Option (List Int):=BI x
theorem Fb (x:List Int):Le (Do x) (BI x):=Le.rf
end
end Go.Proofs.YtafdmfhdjfkooaaGreat

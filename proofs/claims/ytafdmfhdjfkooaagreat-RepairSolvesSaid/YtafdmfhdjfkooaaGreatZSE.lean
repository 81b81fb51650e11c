/- Own text: what the proof of repairSolves_holds uses, part 5: rules, models and their proofs, plain laws. -/
import Derived.Test.YtafdmfhdjfkooaaGreatZSD
set_option linter.unusedVariables false
set_option linter.unusedSimpArgs false
namespace Go.Proofs.YtafdmfhdjfkooaaGreat
open Go Go.RowKit
section
open Go Go.RowKit
attribute [local irreducible] ewp owp hwp hwq hws Ev Evg Fn retPost loud loudS Res1
noncomputable def FL (x0:List Int) (x1:Int):Option Int :=
  bnd (rng (ρ:=Int) (fun (k11:Nat) (a12:Int) (s9:Int)=>bnd (chkI (x1 + 1)) fun n32=>bnd (chkI (s9 * (min (max a12 0) n32))) fun n35=>if x1 < n35 then (bnd (chkI (x1 + 1)) fun n39=>some (.ret n39)) else (some (.next n35))) x0 0 1) fun res7=>fin res7 fun (s46:Int)=>some s46
theorem NM {w:World} {A:Nat→Prop} (hA:∀ k,A k→k < w.heap.size) {vx0:Value} {x0:List Int} (b0:Vb w A vx0 x0) {x1:Int} (rx1:inI64 x1) {r:Int} (hm:FL x0 x1=some r) :
    Fn Tryz.prog 29 [vx0,(.int .i64 x1)] w fun v w'=>Ext w w'∧Vb w' (upA A w w') v r:=by
 obtain ⟨O,hB,q0⟩:=enter hA
 replace b0:=b0.mono q0
 obtain ⟨A3,c4,rfl⟩:=b0.form
 refine AH Tryz.func29 rfl Tryz.ntmps29 rfl ?_
 unfold FL at hm
 refine Al (Aj (Au rfl rfl (o_z ?_)))
 refine Al (Aj (Au rfl rfl (o_z ?_)))
 refine Al (Al (Aj (Ar rfl rfl (AP rfl rfl ?_))))
 have l6:x0.length≤9223372036854775807:=Nat.le_trans b0.len.2.1 b0.len.2.2
 have r5:inI64 (x0.length:Int):=rngNat l6
 refine Ar rfl rfl (o_z ?_)
 obtain ⟨g0,r0,hm⟩:=bs hm
 refine AL (aft g0 (fun (s9:Int) (e0:Unit)=>[(5,(.int .i64 s9))]) (fun s9 e0 w'=>∃ O':Lab,Bs w A w' O'∧inI64 s9)) ?_ ?_
 ·
  refine AN (Bp (σ:=Int) (X:=Unit) (x0.length) r0 rfl l6 (fun (s9:Int) (e0:Unit)=>[(1,(.int .i64 x1)),(5,(.int .i64 s9)),(8,(.slice A3 x0.length c4))]) _ (fun s9 e0 w'=>∃ O':Lab,Bs w A w' O'∧Vb w' (Fr 0 w' O') (.slice A3 x0.length c4) x0∧inI64 s9) _ () ⟨O,hB,b0,(show inI64 (1) from by decide)⟩ ⟨rfl,rfl,rfl,rfl,rfl,trivial⟩ (fun _ _=>⟨rfl,rfl⟩) (fun _ _=>⟨rfl,trivial⟩) (fun _ _ _ ⟨O',hB,b0,f0⟩=>⟨O',hB,f0⟩) ⟨rfl,rfl,rfl⟩ ⟨rfl,rfl⟩ ?_)
  rintro s0 y0 s9 e0 z0 t0 d0 ⟨a1,hB,b0,f0⟩ a0 c0 h0
  have rk11:inI64 (s0:Int):=rngK d0 l6
  refine Al (Aj ?_)
  obtain ⟨b1,c1,u0,i0,j0,k0,rfl,d1⟩:=b0.elem' d0
  refine Bi (hA:=i0) (hj:=rfl) (hlt:=j0) rfl rfl rfl ?_
  refine AE (hc:=cat0 k0) rfl rfl ?_
  refine Au rfl rfl (o_z ?_)
  refine Al (Aj (Ar rfl rfl (Ar rfl rfl (QI rfl rfl rfl ?_))))
  refine Ar rfl rfl ?_
  obtain ⟨e1,n0,a0⟩:=bs a0
  have f1:=(AW n0)
  refine Dv (he:=n0) rfl rfl rfl ?_
  refine QH rfl rfl rfl ?_
  obtain ⟨g1,o0,a0⟩:=bs a0
  have v0:=(AW o0)
  refine OJ (he:=o0) rfl rfl rfl ?_
  refine Au rfl rfl (o_z ?_)
  refine Al (Aj (Ar rfl rfl (Ar rfl rfl (Ce rfl rfl rfl (fun l0=>?_) fun l0=>?_))))
  ·
   replace a0:=ip a0 l0
   refine o_z ?_
   refine Ah rfl (Al (Aj (Ar rfl rfl ?_)))
   obtain ⟨h1,p0,a0⟩:=bs a0
   have w0:=(AW p0)
   refine Dv (he:=p0) rfl rfl rfl ?_
   refine Au rfl rfl (o_z ?_)
   refine AK ?_
   obtain rfl:=sm a0
   obtain rfl:=c0 _ rfl
   obtain rfl:=sm (Dc hm)
   exact ret1v rfl (AB rfl) ⟨hB.ext,(vInt w0)⟩
  replace a0:=im a0 l0
  refine o_z ?_
  refine Ae rfl (AO ?_)
  obtain rfl:=sm a0
  exact show Exists _ from ⟨_,(),rfl,⟨rfl,rfl,rfl,rfl,rfl,trivial⟩,_,hB,b0,v0⟩
 rintro i1 j1 ⟨k1,l1,rfl,m0,m1,hB,f0⟩
 replace hm:=AV hm
 refine AQ _ m0 ?_
 refine Al (Aj (Ar rfl rfl (Au rfl rfl (o_z ?_))))
 refine AK ?_
 obtain rfl:=sm hm
 exact ret1v rfl (AB rfl) ⟨hB.ext,(vInt f0)⟩
noncomputable def FM (x0:Tsk):Option Int :=
  bnd (Ef x0) fun q24=>bnd (DZ x0.vars x0.init) fun q33=>bnd (atI q24 q33) fun a41=>some a41
theorem NN {w:World} {A:Nat→Prop} (hA:∀ k,A k→k < w.heap.size) {vx0:Value} {x0:Tsk} (h0:Vb w A vx0 x0) {r:Int} (hm:FM x0=some r) :
    Fn Tryz.prog 14 [vx0] w fun v w'=>Ext w w'∧Vb w' (upA A w w') v r:=by
 obtain ⟨O,hB,w0⟩:=enter hA
 replace h0:=h0.mono w0
 obtain ⟨k1,rfl,v3,v4,v5,v6,rfl,h7,a0,d0,e0⟩:=h0
 obtain ⟨A8,c9,rfl⟩:=h7.form
 obtain ⟨q0,r0,rfl⟩:=a0.form
 obtain ⟨s0,t0,rfl⟩:=d0.form
 obtain ⟨u0,v0,rfl⟩:=e0.form
 refine AH Tryz.func14 rfl Tryz.ntmps14 rfl ?_
 unfold FM at hm
 refine Al (Aj (Da 2 O rfl rfl fun y0 z0 i0 b0 c0=>?_))
 replace c0:Lc 2 z0 i0 y0 26 [(.slice A8 x0.vars.length c9),(.slice q0 x0.init.length r0),(.slice s0 x0.goal.length t0),(.slice u0 x0.ops.length v0)]:=c0
 refine Au rfl rfl (o_z ?_)
 refine Al (BC [] i0 ?_)
 refine AY (fuel:=5) [] [(0,true),(2,true),(3,true),(4,true),(5,true)] (by kernel_rfl) rfl ?_
 refine Hd (hl:=rfl) (hb:=fun w' ⟨O',hq⟩=>((c0.st hq (by decide)).1).cellsAt) rfl rfl rfl ?_
 refine Bc rfl rfl rfl (AZ (hc:=fun w' ⟨O',hq⟩=>Blk.cell (i:=0) ((c0.st hq (by decide)).1) rfl) rfl rfl rfl ?_)
 refine Bc rfl rfl rfl (AZ (hc:=fun w' ⟨O',hq⟩=>Blk.cell (i:=1) ((c0.st hq (by decide)).1) rfl) rfl rfl rfl ?_)
 refine AM ?_
 refine Bb (i:=1) (by kernel_rfl) rfl ?_
 obtain ⟨a1,b1,hm⟩:=bs hm
 replace h7:=h7.st b0
 replace a0:=a0.st b0
 replace d0:=d0.st b0
 replace e0:=e0.st b0
 refine Dl (O:=i0) (R:=fun w' F v=>Vb w' F v a1) (KD Fr.lt (Vb.ofAgg (cs:=[(.slice A8 x0.vars.length c9),(.slice q0 x0.init.length r0),(.slice s0 x0.goal.length t0),(.slice u0 x0.ops.length v0)]) (x:=x0) rfl ⟨_,_,_,_,rfl,h7,a0,d0,e0⟩) b1) rfl rfl fun l1 j0 k0 f0 g0=>?_
 obtain ⟨m1,n1,rfl⟩:=g0.form
 have hZ:=f0.lst [] (fun _ h=>h.elim)
 refine BG [] hZ (by kernel_rfl) ?_
 refine Bb (i:=6) (by kernel_rfl) rfl ?_
 obtain ⟨c1,d1,hm⟩:=bs hm
 replace h7:=h7.st f0
 replace a0:=a0.st f0
 refine BE (O:=k0) (A:=All j0) (R:=fun w' F v=>Vb w' F v c1) (Kp (fun _ h=>h) (Vb.mono (F:=Fr 0 j0 k0) h7 Fr.lt) (Vb.mono (F:=Fr 0 j0 k0) a0 Fr.lt) d1) rfl rfl fun o1 p1 q1 l0 e1=>?_
 obtain ⟨rfl,r1⟩:=e1.int
 have hZ:=l0.lst [] (fun _ h=>h.elim)
 refine BG [] hZ (by kernel_rfl) ?_
 refine AY (fuel:=0) [] [(7,true),(8,true),(9,true)] (by kernel_rfl) rfl ?_
 obtain ⟨s1,f1,hm⟩:=bs hm
 obtain ⟨g1,h1⟩:=AS f1
 replace g0:=g0.st l0
 obtain ⟨t1,u1,i1,m0,n0,o0,p0,rfl,j1⟩:=g0.elem h1
 refine BP (hA:=m0) (hj:=(Int.toNat_of_nonneg g1).symm) (hlt:=o0) rfl rfl rfl rfl ?_
 refine AZ (hc:=fun w' ⟨O',hq⟩=>cat0 (Bh (hq.agree (i:=0) (by decide)) n0 p0)) rfl rfl rfl ?_
 refine De rfl rfl rfl (AM ?_)
 refine Cn (by kernel_rfl) ?_
 refine AK ?_
 obtain rfl:=sm hm
 replace hB:=((hB.st b0).st f0).st l0
 exact ret1v rfl (AB rfl) ⟨hB.ext,(vInt j1)⟩
end
section
open Go Go.RowKit
attribute [local irreducible] ewp owp hwp hwq hws Ev Evg Fn retPost loud loudS Res1
noncomputable def Fd (x0:Tsk):Option Bool :=
  bnd (if 64 < (x0.vars.length:Int) then (some true) else (if 4096 < (x0.ops.length:Int) then (some true) else (if 64 < (x0.goal.length:Int) then (some true) else (some false))):Option Bool) fun y24=>bnd (rng (ρ:=Bool) (fun (k47:Nat) (a48:Opr) (s45:Bool)=>bnd (if s45=true then (some true) else (if 64 < (a48.pre.length:Int) then (some true) else (if 64 < (a48.effs.length:Int) then (some true) else (some false))):Option Bool) fun y82=>bnd (rng (ρ:=Ctl Bool Bool) (fun (k103:Nat) (a104:Eff) (s101:Bool)=>if s101=true then (some (.next true)) else (if 64 < (a104.cond.length:Int) then (some (.next true)) else (some (.next false)))) a48.effs 0 y82) fun res99=>fin res99 fun (s142:Bool)=>some (.next s142)) x0.ops 0 y24) fun res43=>fin res43 fun (s148:Bool)=>some s148
theorem Mo {w:World} {A:Nat→Prop} (hA:∀ k,A k→k < w.heap.size) {vx0:Value} {x0:Tsk} (t1:Vb w A vx0 x0) {r:Bool} (hm:Fd x0=some r) :
    Fn Tryz.prog 45 [vx0] w fun v w'=>Ext w w'∧Vb w' (upA A w w') v r:=by
 obtain ⟨O,hB,b3⟩:=enter hA
 replace t1:=t1.mono b3
 obtain ⟨n4,rfl,v3,v4,v5,v6,rfl,h7,a1,o0,b0⟩:=t1
 obtain ⟨A8,c9,rfl⟩:=h7.form
 obtain ⟨u1,v1,rfl⟩:=a1.form
 obtain ⟨w1,x1,rfl⟩:=o0.form
 obtain ⟨r0,s0,rfl⟩:=b0.form
 refine AH Tryz.func45 rfl Tryz.ntmps45 rfl ?_
 unfold Fd at hm
 refine Al (Aj (Da 2 O rfl rfl fun y1 c3 d3 i0 t0=>?_))
 replace t0:Lc 2 c3 d3 y1 26 [(.slice A8 x0.vars.length c9),(.slice u1 x0.init.length v1),(.slice w1 x0.goal.length x1),(.slice r0 x0.ops.length s0)]:=t0
 refine Au rfl rfl (o_z ?_)
 refine Al ?_
 obtain ⟨e3,c0,hm⟩:=bs hm
 refine AL (fun l' w'=>∃ (f3:Unit) (O':Lab),subs l' [(1,(.pointer (some ⟨y1,0,none⟩))),(3,(.bool e3))]∧Bs w A w' O'∧Lc 2 w' O' y1 26 [(.slice A8 x0.vars.length c9),(.slice u1 x0.init.length v1),(.slice w1 x0.goal.length x1),(.slice r0 x0.ops.length s0)]∧Vb w' (Fr 0 w' O') (.slice A8 x0.vars.length c9) x0.vars∧Vb w' (Fr 0 w' O') (.slice u1 x0.init.length v1) x0.init∧Vb w' (Fr 0 w' O') (.slice w1 x0.goal.length x1) x0.goal∧Vb w' (Fr 0 w' O') (.slice r0 x0.ops.length s0) x0.ops) ?_ ?_
 ·
  refine Aj (AG rfl rfl (AE (hc:=Blk.cell (i:=0) (t0.1) rfl) rfl rfl ?_))
  refine AP rfl rfl ?_
  replace h7:=h7.st i0
  have g3:x0.vars.length≤9223372036854775807:=Nat.le_trans h7.len.2.1 h7.len.2.2
  have o4:inI64 (x0.vars.length:Int):=rngNat g3
  refine Ce rfl rfl rfl (fun z1=>?_) fun z1=>?_
  ·
   replace c0:=ip c0 z1
   refine Ar rfl rfl (At rfl rfl rfl rfl (At rfl rfl rfl rfl (At rfl rfl rfl rfl (At rfl rfl rfl rfl (AX rfl rfl rfl (Ar rfl rfl (At rfl rfl rfl rfl (At rfl rfl rfl rfl (At rfl rfl rfl rfl (At rfl rfl rfl rfl (AX rfl rfl rfl (Au rfl rfl (o_z ?_)))))))))))))
   obtain rfl:=sm c0
   exact ⟨(),_,⟨rfl,rfl,trivial⟩,hB.st i0,t0,h7,a1.st i0,o0.st i0,b0.st i0⟩
  replace c0:=im c0 z1
  refine Ar rfl rfl (Ay rfl rfl (AG rfl rfl (Ay rfl rfl (AE (hc:=Blk.cell (i:=3) (t0.1) rfl) rfl rfl ?_))))
  refine Ay rfl rfl (AP rfl rfl ?_)
  replace b0:=b0.st i0
  have h3:x0.ops.length≤9223372036854775807:=Nat.le_trans b0.len.2.1 b0.len.2.2
  have p4:inI64 (x0.ops.length:Int):=rngNat h3
  refine Ay rfl rfl (Ce rfl rfl rfl (fun a2=>?_) fun a2=>?_)
  ·
   replace c0:=ip c0 a2
   refine AT rfl rfl rfl (Ar rfl rfl (At rfl rfl rfl rfl (At rfl rfl rfl rfl (At rfl rfl rfl rfl (At rfl rfl rfl rfl (AX rfl rfl rfl (Au rfl rfl (o_z ?_))))))))
   obtain rfl:=sm c0
   exact ⟨(),_,⟨rfl,rfl,trivial⟩,hB.st i0,t0,h7,a1.st i0,o0.st i0,b0⟩
  replace c0:=im c0 a2
  refine AT rfl rfl rfl (Ar rfl rfl (Ay rfl rfl (AG rfl rfl (Ay rfl rfl (AE (hc:=Blk.cell (i:=2) (t0.1) rfl) rfl rfl ?_)))))
  refine Ay rfl rfl (AP rfl rfl ?_)
  replace o0:=o0.st i0
  have i3:x0.goal.length≤9223372036854775807:=Nat.le_trans o0.len.2.1 o0.len.2.2
  have q4:inI64 (x0.goal.length:Int):=rngNat i3
  refine Ay rfl rfl (Ce rfl rfl rfl (fun b2=>?_) fun b2=>?_)
  ·
   replace c0:=ip c0 b2
   refine AT rfl rfl rfl (Au rfl rfl (o_z ?_))
   obtain rfl:=sm c0
   exact ⟨(),_,⟨rfl,rfl,trivial⟩,hB.st i0,t0,h7,a1.st i0,o0,b0⟩
  replace c0:=im c0 b2
  refine AT rfl rfl rfl (Au rfl rfl (o_z ?_))
  obtain rfl:=sm c0
  exact ⟨(),_,⟨rfl,rfl,trivial⟩,hB.st i0,t0,h7,a1.st i0,o0,b0⟩
 replace hB:=hB.st i0
 replace h7:=h7.st i0
 replace a1:=a1.st i0
 replace o0:=o0.st i0
 replace b0:=b0.st i0
 rintro r4 s4 ⟨f3,j3,c2,hB,t0,h7,a1,o0,b0⟩
 refine AQ _ c2 ?_
 refine Al (Al (Aj (AG rfl rfl (AE (hc:=Blk.cell (i:=3) (t0.1) rfl) rfl rfl ?_))))
 refine AP rfl rfl ?_
 have d2:x0.ops.length≤9223372036854775807:=Nat.le_trans b0.len.2.1 b0.len.2.2
 have t4:inI64 (x0.ops.length:Int):=rngNat d2
 refine Ar rfl rfl (o_z ?_)
 obtain ⟨e1,e2,hm⟩:=bs hm
 refine AL (aft e1 (fun (c1:Bool) (p1:Unit)=>[(3,(.bool c1))]) (fun c1 p1 w'=>∃ O':Lab,Bs w A w' O')) ?_ ?_
 ·
  refine AN (Bp (σ:=Bool) (X:=Unit) (x0.ops.length) e2 rfl d2 (fun (c1:Bool) (p1:Unit)=>[(3,(.bool c1)),(25,(.slice r0 x0.ops.length s0))]) _ (fun c1 p1 w'=>∃ O':Lab,Bs w A w' O'∧Vb w' (Fr 0 w' O') (.slice r0 x0.ops.length s0) x0.ops) _ () ⟨j3,hB,b0⟩ ⟨rfl,rfl,rfl,rfl,trivial⟩ (fun _ _=>⟨rfl,rfl⟩) (fun _ _=>⟨rfl,trivial⟩) (fun _ _ _ ⟨O',hB,b0⟩=>⟨O',hB⟩) ⟨rfl,rfl,rfl⟩ ⟨rfl,rfl⟩ ?_)
  rintro q1 e0 c1 p1 u4 k3 f1 ⟨l3,hB,b0⟩ l0 f2 g2
  have rk47:inI64 (q1:Int):=rngK f1 d2
  refine Al (Aj ?_)
  obtain ⟨w4,x4,m3,h2,i2,j2,y4,z4,rfl,p0,f0,a5,b5⟩:=b0.elem' f1
  obtain ⟨k2,l2,rfl⟩:=p0.form
  obtain ⟨g1,h1,rfl⟩:=f0.form
  refine Bi (hA:=h2) (hj:=rfl) (hlt:=i2) rfl rfl rfl ?_
  refine Bk (hl:=rfl) (hc:=j2) rfl rfl ?_
  refine BD 3 l3 rfl fun m2 c5 n3 j0 q0=>?_
  refine AR q0 rfl rfl rfl (Ba rfl) (allOne rfl) fun o3 k0 q0=>?_
  replace q0:Lc 3 o3 n3 m2 67 [(.string e0.name),(.int .i64 e0.cost),(.slice k2 e0.pre.length l2),(.slice g1 e0.effs.length h1)]:=q0
  refine o_z ?_
  refine Al ?_
  obtain ⟨p3,d0,l0⟩:=bs l0
  refine AL (fun l' w'=>∃ (q3:Unit) (O':Lab),subs l' [(3,(.bool p3)),(5,(.pointer (some ⟨m2,0,none⟩))),(25,(.slice r0 x0.ops.length s0)),(26,(.int .i64 (x0.ops.length:Int))),(27,(.int .i64 (q1:Int)))]∧Bs w A w' O'∧Lc 3 w' O' m2 67 [(.string e0.name),(.int .i64 e0.cost),(.slice k2 e0.pre.length l2),(.slice g1 e0.effs.length h1)]∧Vb w' (Fr 0 w' O') (.slice k2 e0.pre.length l2) e0.pre∧Vb w' (Fr 0 w' O') (.slice g1 e0.effs.length h1) e0.effs∧Vb w' (Fr 0 w' O') (.slice r0 x0.ops.length s0) x0.ops) ?_ ?_
  ·
   refine Aj (Ar rfl rfl (Ar rfl rfl ?_))
   rcases Bool.eq_false_or_eq_true c1 with i1|i1
   ·
    try rw [i1]
    replace d0:=ip d0 i1
    refine At rfl rfl rfl rfl (At rfl rfl rfl rfl (At rfl rfl rfl rfl (At rfl rfl rfl rfl (AX rfl rfl rfl (Ar rfl rfl (At rfl rfl rfl rfl (At rfl rfl rfl rfl (At rfl rfl rfl rfl (At rfl rfl rfl rfl (AX rfl rfl rfl (Au rfl rfl (o_z ?_))))))))))))
    obtain rfl:=sm d0
    exact ⟨(),_,⟨rfl,rfl,rfl,rfl,rfl,trivial⟩,(hB.st j0).st k0,q0,(p0.st j0).st k0,(f0.st j0).st k0,(b0.st j0).st k0⟩
   try rw [i1]
   replace d0:=im' d0 i1
   refine Ay rfl rfl (AG rfl rfl (Ay rfl rfl (AE (hc:=Blk.cell (i:=2) (q0.1) rfl) rfl rfl ?_)))
   refine Ay rfl rfl (AP rfl rfl ?_)
   replace p0:=(p0.st j0).st k0
   have r3:e0.pre.length≤9223372036854775807:=Nat.le_trans p0.len.2.1 p0.len.2.2
   have d5:inI64 (e0.pre.length:Int):=rngNat r3
   refine Ay rfl rfl (Ce rfl rfl rfl (fun n2=>?_) fun n2=>?_)
   ·
    replace d0:=ip d0 n2
    refine AT rfl rfl rfl (Ar rfl rfl (At rfl rfl rfl rfl (At rfl rfl rfl rfl (At rfl rfl rfl rfl (At rfl rfl rfl rfl (AX rfl rfl rfl (Au rfl rfl (o_z ?_))))))))
    obtain rfl:=sm d0
    exact ⟨(),_,⟨rfl,rfl,rfl,rfl,rfl,trivial⟩,(hB.st j0).st k0,q0,p0,(f0.st j0).st k0,(b0.st j0).st k0⟩
   replace d0:=im d0 n2
   refine AT rfl rfl rfl (Ar rfl rfl (Ay rfl rfl (AG rfl rfl (Ay rfl rfl (AE (hc:=Blk.cell (i:=3) (q0.1) rfl) rfl rfl ?_)))))
   refine Ay rfl rfl (AP rfl rfl ?_)
   replace f0:=(f0.st j0).st k0
   have s3:e0.effs.length≤9223372036854775807:=Nat.le_trans f0.len.2.1 f0.len.2.2
   have e5:inI64 (e0.effs.length:Int):=rngNat s3
   refine Ay rfl rfl (Ce rfl rfl rfl (fun o2=>?_) fun o2=>?_)
   ·
    replace d0:=ip d0 o2
    refine AT rfl rfl rfl (Au rfl rfl (o_z ?_))
    obtain rfl:=sm d0
    exact ⟨(),_,⟨rfl,rfl,rfl,rfl,rfl,trivial⟩,(hB.st j0).st k0,q0,p0,f0,(b0.st j0).st k0⟩
   replace d0:=im d0 o2
   refine AT rfl rfl rfl (Au rfl rfl (o_z ?_))
   obtain rfl:=sm d0
   exact ⟨(),_,⟨rfl,rfl,rfl,rfl,rfl,trivial⟩,(hB.st j0).st k0,q0,p0,f0,(b0.st j0).st k0⟩
  replace hB:=(hB.st j0).st k0
  replace b0:=(b0.st j0).st k0
  replace p0:=(p0.st j0).st k0
  replace f0:=(f0.st j0).st k0
  rintro f5 g5 ⟨q3,t3,p2,hB,q0,p0,f0,b0⟩
  refine AQ _ p2 ?_
  refine Al (Aj (AG rfl rfl (AE (hc:=Blk.cell (i:=3) (q0.1) rfl) rfl rfl ?_)))
  refine AP rfl rfl ?_
  have q2:e0.effs.length≤9223372036854775807:=Nat.le_trans f0.len.2.1 f0.len.2.2
  have h5:inI64 (e0.effs.length:Int):=rngNat q2
  refine Ar rfl rfl (o_z ?_)
  obtain ⟨j1,k1,l0⟩:=bs l0
  refine AL (aft j1 (fun (m0:Bool) (z0:Unit)=>[(3,(.bool m0)),(25,(.slice r0 x0.ops.length s0)),(26,(.int .i64 (x0.ops.length:Int))),(27,(.int .i64 (q1:Int)))]) (fun m0 z0 w'=>∃ O':Lab,Bs w A w' O'∧Vb w' (Fr 0 w' O') (.slice r0 x0.ops.length s0) x0.ops)) ?_ ?_
  ·
   refine AN (Bp (σ:=Bool) (X:=Unit) (e0.effs.length) k1 rfl q2 (fun (m0:Bool) (z0:Unit)=>[(3,(.bool m0)),(25,(.slice r0 x0.ops.length s0)),(26,(.int .i64 (x0.ops.length:Int))),(27,(.int .i64 (q1:Int))),(45,(.slice g1 e0.effs.length h1))]) _ (fun m0 z0 w'=>∃ O':Lab,Bs w A w' O'∧Vb w' (Fr 0 w' O') (.slice r0 x0.ops.length s0) x0.ops∧Vb w' (Fr 0 w' O') (.slice g1 e0.effs.length h1) e0.effs) _ () ⟨t3,hB,b0,f0⟩ ⟨rfl,rfl,rfl,rfl,rfl,rfl,rfl,trivial⟩ (fun _ _=>⟨rfl,rfl⟩) (fun _ _=>⟨rfl,rfl,rfl,rfl,trivial⟩) (fun _ _ _ ⟨O',hB,b0,f0⟩=>⟨O',hB,b0⟩) ⟨rfl,rfl,rfl⟩ ⟨rfl,rfl⟩ ?_)
   rintro r2 u0 m0 z0 u3 z2 b1 ⟨s2,hB,b0,f0⟩ a0 r1 s1
   have rk103:inI64 (r2:Int):=rngK b1 q2
   refine Al (Aj ?_)
   obtain ⟨w3,x3,a3,l1,m1,n1,y3,rfl,v0,z3,a4⟩:=f0.elem' b1
   obtain ⟨t2,u2,rfl⟩:=v0.form
   refine Bi (hA:=l1) (hj:=rfl) (hlt:=m1) rfl rfl rfl ?_
   refine Bk (hl:=rfl) (hc:=n1) rfl rfl ?_
   refine BD 4 s2 rfl fun v2 b4 w2 g0 w0=>?_
   refine AR w0 rfl rfl rfl (Ba rfl) (allOne rfl) fun x2 h0 w0=>?_
   replace w0:Lc 4 x2 w2 v2 64 [(.slice t2 u0.cond.length u2),(.int .i64 u0.var),(.int .i64 u0.val)]:=w0
   refine o_z ?_
   refine Aj (Ar rfl rfl (Ar rfl rfl ?_))
   rcases Bool.eq_false_or_eq_true m0 with y0|y0
   ·
    try rw [y0]
    replace a0:=ip a0 y0
    refine At rfl rfl rfl rfl (At rfl rfl rfl rfl (At rfl rfl rfl rfl (At rfl rfl rfl rfl (AX rfl rfl rfl (Au rfl rfl (o_z ?_))))))
    obtain rfl:=sm a0
    exact show Exists _ from ⟨_,(),rfl,⟨rfl,rfl,rfl,rfl,rfl,rfl,rfl,trivial⟩,_,(hB.st g0).st h0,(b0.st g0).st h0,(f0.st g0).st h0⟩
   try rw [y0]
   replace a0:=im' a0 y0
   refine Ay rfl rfl (AG rfl rfl (Ay rfl rfl (AE (hc:=Blk.cell (i:=0) (w0.1) rfl) rfl rfl ?_)))
   refine Ay rfl rfl (AP rfl rfl ?_)
   replace v0:=(v0.st g0).st h0
   have y2:u0.cond.length≤9223372036854775807:=Nat.le_trans v0.len.2.1 v0.len.2.2
   have c4:inI64 (u0.cond.length:Int):=rngNat y2
   refine Ay rfl rfl (Ce rfl rfl rfl (fun d1=>?_) fun d1=>?_)
   ·
    replace a0:=ip a0 d1
    refine AT rfl rfl rfl (Au rfl rfl (o_z ?_))
    obtain rfl:=sm a0
    exact show Exists _ from ⟨_,(),rfl,⟨rfl,rfl,rfl,rfl,rfl,rfl,rfl,trivial⟩,_,(hB.st g0).st h0,(b0.st g0).st h0,(f0.st g0).st h0⟩
   replace a0:=im a0 d1
   refine AT rfl rfl rfl (Au rfl rfl (o_z ?_))
   obtain rfl:=sm a0
   exact show Exists _ from ⟨_,(),rfl,⟨rfl,rfl,rfl,rfl,rfl,rfl,rfl,trivial⟩,_,(hB.st g0).st h0,(b0.st g0).st h0,(f0.st g0).st h0⟩
  rintro d4 e4 ⟨f4,g4,rfl,n0,h4,hB,b0⟩
  replace l0:=AV l0
  obtain rfl:=sm l0
  exact show Exists _ from ⟨_,(),rfl,⟨(Bn n0 _ _ rfl),(Bn n0 _ _ rfl),(Bn n0 _ _ rfl),(Bn n0 _ _ rfl),trivial⟩,_,hB,b0⟩
 rintro i4 j4 ⟨k4,l4,rfl,o1,m4,hB⟩
 replace hm:=AV hm
 refine AQ _ o1 ?_
 refine Al (Aj (Ar rfl rfl (Au rfl rfl (o_z ?_))))
 refine AK ?_
 obtain rfl:=sm hm
 exact ret1v rfl (AB rfl) ⟨hB.ext,vBool⟩
noncomputable def Ez (x0:Tsk):Option Bool :=
  bnd (rng (ρ:=Bool) (fun (k30:Nat) (a31:Int) (s28:Bool)=>if s28=true then (some (.next true)) else (if a31 < 1 then (some (.next true)) else (if 64 < a31 then (some (.next true)) else (some (.next false))))) x0.vars 0 false) fun res26=>fin res26 fun (s56:Bool)=>bnd (rng (ρ:=Bool) (fun (k64:Nat) (a65:Opr) (s62:Bool)=>if s62=true then (some (.next true)) else (if a65.cost < 0 then (some (.next true)) else (if 1048576 < a65.cost then (some (.next true)) else (some (.next false))))) x0.ops 0 s56) fun res60=>fin res60 fun (s106:Bool)=>some s106
theorem Ln {w:World} {A:Nat→Prop} (hA:∀ k,A k→k < w.heap.size) {vx0:Value} {x0:Tsk} (g1:Vb w A vx0 x0) {r:Bool} (hm:Ez x0=some r) :
    Fn Tryz.prog 46 [vx0] w fun v w'=>Ext w w'∧Vb w' (upA A w w') v r:=by
 obtain ⟨O,hB,z1⟩:=enter hA
 replace g1:=g1.mono z1
 obtain ⟨x2,rfl,v3,v4,v5,v6,rfl,h7,d0,e0,c0⟩:=g1
 obtain ⟨A8,c9,rfl⟩:=h7.form
 obtain ⟨q0,r0,rfl⟩:=d0.form
 obtain ⟨s0,t0,rfl⟩:=e0.form
 obtain ⟨j0,k0,rfl⟩:=c0.form
 refine AH Tryz.func46 rfl Tryz.ntmps46 rfl ?_
 unfold Ez at hm
 refine Al (Aj (Da 2 O rfl rfl fun u0 a2 y1 g0 f0=>?_))
 replace f0:Lc 2 a2 y1 u0 26 [(.slice A8 x0.vars.length c9),(.slice q0 x0.init.length r0),(.slice s0 x0.goal.length t0),(.slice j0 x0.ops.length k0)]:=f0
 refine Au rfl rfl (o_z ?_)
 refine Al (Aj (Au rfl rfl (o_z ?_)))
 refine Al (Al (Aj (AG rfl rfl (AE (hc:=Blk.cell (i:=0) (f0.1) rfl) rfl rfl ?_))))
 refine AP rfl rfl ?_
 replace h7:=h7.st g0
 have h1:x0.vars.length≤9223372036854775807:=Nat.le_trans h7.len.2.1 h7.len.2.2
 have y2:inI64 (x0.vars.length:Int):=rngNat h1
 refine Ar rfl rfl (o_z ?_)
 obtain ⟨v0,i1,hm⟩:=bs hm
 refine AL (aft v0 (fun (l0:Bool) (d1:Unit)=>[(1,(.pointer (some ⟨u0,0,none⟩))),(3,(.bool l0))]) (fun l0 d1 w'=>∃ O':Lab,Bs w A w' O'∧Lc 2 w' O' u0 26 [(.slice A8 x0.vars.length c9),(.slice q0 x0.init.length r0),(.slice s0 x0.goal.length t0),(.slice j0 x0.ops.length k0)]∧Vb w' (Fr 0 w' O') (.slice A8 x0.vars.length c9) x0.vars∧Vb w' (Fr 0 w' O') (.slice q0 x0.init.length r0) x0.init∧Vb w' (Fr 0 w' O') (.slice s0 x0.goal.length t0) x0.goal∧Vb w' (Fr 0 w' O') (.slice j0 x0.ops.length k0) x0.ops)) ?_ ?_
 ·
  refine AN ?_
  replace hB:=hB.st g0
  replace d0:=d0.st g0
  replace e0:=e0.st g0
  replace c0:=c0.st g0
  refine Bp (σ:=Bool) (X:=Unit) (x0.vars.length) i1 rfl h1 (fun (l0:Bool) (d1:Unit)=>[(1,(.pointer (some ⟨u0,0,none⟩))),(3,(.bool l0)),(9,(.slice A8 x0.vars.length c9))]) _ (fun l0 d1 w'=>∃ O':Lab,Bs w A w' O'∧Lc 2 w' O' u0 26 [(.slice A8 x0.vars.length c9),(.slice q0 x0.init.length r0),(.slice s0 x0.goal.length t0),(.slice j0 x0.ops.length k0)]∧Vb w' (Fr 0 w' O') (.slice A8 x0.vars.length c9) x0.vars∧Vb w' (Fr 0 w' O') (.slice q0 x0.init.length r0) x0.init∧Vb w' (Fr 0 w' O') (.slice s0 x0.goal.length t0) x0.goal∧Vb w' (Fr 0 w' O') (.slice j0 x0.ops.length k0) x0.ops) _ () ⟨y1,hB,f0,h7,d0,e0,c0⟩ ⟨rfl,rfl,rfl,rfl,rfl,trivial⟩ (fun _ _=>⟨rfl,rfl⟩) (fun _ _=>⟨rfl,rfl,trivial⟩) (fun _ _ _ ⟨O',hB,f0,h7,d0,e0,c0⟩=>⟨O',hB,f0,h7,d0,e0,c0⟩) ⟨rfl,rfl,rfl⟩ ⟨rfl,rfl⟩ ?_
  rintro b2 z2 l0 d1 a3 c2 w0 ⟨b3,hB,f0,h7,d0,e0,c0⟩ a0 j1 k1
  have rk30:inI64 (b2:Int):=rngK w0 h1
  refine Al (Aj ?_)
  obtain ⟨c3,d3,d2,l1,m1,n1,rfl,e3⟩:=h7.elem' w0
  refine Bi (hA:=l1) (hj:=rfl) (hlt:=m1) rfl rfl rfl ?_
  refine AE (hc:=cat0 n1) rfl rfl ?_
  refine Au rfl rfl (o_z ?_)
  refine Aj (Ar rfl rfl (Ar rfl rfl ?_))
  rcases Bool.eq_false_or_eq_true l0 with y0|y0
  ·
   try rw [y0]
   replace a0:=ip a0 y0
   refine At rfl rfl rfl rfl (At rfl rfl rfl rfl (AX rfl rfl rfl (Ar rfl rfl (At rfl rfl rfl rfl (At rfl rfl rfl rfl (AX rfl rfl rfl (Au rfl rfl (o_z ?_))))))))
   obtain rfl:=sm a0
   exact show Exists _ from ⟨_,(),rfl,⟨rfl,rfl,rfl,rfl,rfl,trivial⟩,_,hB,f0,h7,d0,e0,c0⟩
  try rw [y0]
  replace a0:=im' a0 y0
  refine Ay rfl rfl (Ar rfl rfl (Ay rfl rfl (DM rfl rfl rfl (fun o1=>?_) fun o1=>?_)))
  ·
   replace a0:=ip a0 o1
   refine AT rfl rfl rfl (Ar rfl rfl (At rfl rfl rfl rfl (At rfl rfl rfl rfl (AX rfl rfl rfl (Au rfl rfl (o_z ?_))))))
   obtain rfl:=sm a0
   exact show Exists _ from ⟨_,(),rfl,⟨rfl,rfl,rfl,rfl,rfl,trivial⟩,_,hB,f0,h7,d0,e0,c0⟩
  replace a0:=im a0 o1
  refine AT rfl rfl rfl (Ar rfl rfl (Ay rfl rfl (Ar rfl rfl (Ay rfl rfl (Ce rfl rfl rfl (fun p1=>?_) fun p1=>?_)))))
  ·
   replace a0:=ip a0 p1
   refine AT rfl rfl rfl (Au rfl rfl (o_z ?_))
   obtain rfl:=sm a0
   exact show Exists _ from ⟨_,(),rfl,⟨rfl,rfl,rfl,rfl,rfl,trivial⟩,_,hB,f0,h7,d0,e0,c0⟩
  replace a0:=im a0 p1
  refine AT rfl rfl rfl (Au rfl rfl (o_z ?_))
  obtain rfl:=sm a0
  exact show Exists _ from ⟨_,(),rfl,⟨rfl,rfl,rfl,rfl,rfl,trivial⟩,_,hB,f0,h7,d0,e0,c0⟩
 replace hB:=hB.st g0
 replace d0:=d0.st g0
 replace e0:=e0.st g0
 replace c0:=c0.st g0
 rintro f3 g3 ⟨h3,i3,rfl,q1,e2,hB,f0,h7,d0,e0,c0⟩
 replace hm:=AV hm
 refine AQ _ q1 ?_
 refine Al (Al (Aj (AG rfl rfl (AE (hc:=Blk.cell (i:=3) (f0.1) rfl) rfl rfl ?_))))
 refine AP rfl rfl ?_
 have r1:x0.ops.length≤9223372036854775807:=Nat.le_trans c0.len.2.1 c0.len.2.2
 have j3:inI64 (x0.ops.length:Int):=rngNat r1
 refine Ar rfl rfl (o_z ?_)
 obtain ⟨z0,s1,hm⟩:=bs hm
 refine AL (aft z0 (fun (m0:Bool) (e1:Unit)=>[(3,(.bool m0))]) (fun m0 e1 w'=>∃ O':Lab,Bs w A w' O')) ?_ ?_
 ·
  refine AN (Bp (σ:=Bool) (X:=Unit) (x0.ops.length) s1 rfl r1 (fun (m0:Bool) (e1:Unit)=>[(3,(.bool m0)),(26,(.slice j0 x0.ops.length k0))]) _ (fun m0 e1 w'=>∃ O':Lab,Bs w A w' O'∧Vb w' (Fr 0 w' O') (.slice j0 x0.ops.length k0) x0.ops) _ () ⟨e2,hB,c0⟩ ⟨rfl,rfl,rfl,rfl,trivial⟩ (fun _ _=>⟨rfl,rfl⟩) (fun _ _=>⟨rfl,trivial⟩) (fun _ _ _ ⟨O',hB,c0⟩=>⟨O',hB⟩) ⟨rfl,rfl,rfl⟩ ⟨rfl,rfl⟩ ?_)
  rintro f2 f1 m0 e1 k3 g2 a1 ⟨h2,hB,c0⟩ b0 t1 u1
  have rk64:inI64 (f2:Int):=rngK a1 r1
  refine Al (Aj ?_)
  obtain ⟨l3,m3,i2,v1,w1,x1,n3,o3,rfl,j2,k2,p3,q3⟩:=c0.elem' a1
  obtain ⟨l2,m2,rfl⟩:=j2.form
  obtain ⟨n2,o2,rfl⟩:=k2.form
  refine Bi (hA:=v1) (hj:=rfl) (hlt:=w1) rfl rfl rfl ?_
  refine Bk (hl:=rfl) (hc:=x1) rfl rfl ?_
  refine BD 3 h2 rfl fun p2 r3 q2 h0 p0=>?_
  refine AR p0 rfl rfl rfl (Ba rfl) (allOne rfl) fun r2 i0 p0=>?_
  replace p0:Lc 3 r2 q2 p2 67 [(.string f1.name),(.int .i64 f1.cost),(.slice l2 f1.pre.length m2),(.slice n2 f1.effs.length o2)]:=p0
  refine o_z ?_
  refine Aj (Ar rfl rfl (Ar rfl rfl ?_))
  rcases Bool.eq_false_or_eq_true m0 with b1|b1
  ·
   try rw [b1]
   replace b0:=ip b0 b1
   refine At rfl rfl rfl rfl (At rfl rfl rfl rfl (At rfl rfl rfl rfl (AX rfl rfl rfl (Ar rfl rfl (At rfl rfl rfl rfl (At rfl rfl rfl rfl (At rfl rfl rfl rfl (AX rfl rfl rfl (Au rfl rfl (o_z ?_))))))))))
   obtain rfl:=sm b0
   exact show Exists _ from ⟨_,(),rfl,⟨rfl,rfl,rfl,rfl,trivial⟩,_,(hB.st h0).st i0,(c0.st h0).st i0⟩
  try rw [b1]
  replace b0:=im' b0 b1
  refine Ay rfl rfl (AG rfl rfl (Ay rfl rfl (AE (hc:=Blk.cell (i:=1) (p0.1) rfl) rfl rfl ?_)))
  refine Ay rfl rfl (DM rfl rfl rfl (fun n0=>?_) fun n0=>?_)
  ·
   replace b0:=ip b0 n0
   refine AT rfl rfl rfl (Ar rfl rfl (At rfl rfl rfl rfl (At rfl rfl rfl rfl (At rfl rfl rfl rfl (AX rfl rfl rfl (Au rfl rfl (o_z ?_)))))))
   obtain rfl:=sm b0
   exact show Exists _ from ⟨_,(),rfl,⟨rfl,rfl,rfl,rfl,trivial⟩,_,(hB.st h0).st i0,(c0.st h0).st i0⟩
  replace b0:=im b0 n0
  refine AT rfl rfl rfl (Ar rfl rfl (Ay rfl rfl (AG rfl rfl (Ay rfl rfl (AE (hc:=Blk.cell (i:=1) (p0.1) rfl) rfl rfl ?_)))))
  refine Ay rfl rfl (Ce rfl rfl rfl (fun o0=>?_) fun o0=>?_)
  ·
   replace b0:=ip b0 o0
   refine AT rfl rfl rfl (Au rfl rfl (o_z ?_))
   obtain rfl:=sm b0
   exact show Exists _ from ⟨_,(),rfl,⟨rfl,rfl,rfl,rfl,trivial⟩,_,(hB.st h0).st i0,(c0.st h0).st i0⟩
  replace b0:=im b0 o0
  refine AT rfl rfl rfl (Au rfl rfl (o_z ?_))
  obtain rfl:=sm b0
  exact show Exists _ from ⟨_,(),rfl,⟨rfl,rfl,rfl,rfl,trivial⟩,_,(hB.st h0).st i0,(c0.st h0).st i0⟩
 rintro s2 t2 ⟨u2,v2,rfl,c1,w2,hB⟩
 replace hm:=AV hm
 refine AQ _ c1 ?_
 refine Al (Aj (Ar rfl rfl (Au rfl rfl (o_z ?_))))
 refine AK ?_
 obtain rfl:=sm hm
 exact ret1v rfl (AB rfl) ⟨hB.ext,vBool⟩
noncomputable def DR (x0:Tsk):Option Bool :=
  bnd (bnd (Hw x0.vars x0.init) fun q28=>if q28=true then bnd (Es x0.vars x0.goal) fun q35=>if q35=true then some false else some true else some true:Option Bool) fun y24=>bnd (rng (ρ:=Bool) (fun (k52:Nat) (a53:Opr) (s50:Bool)=>bnd (if s50=true then (some true) else (bnd (Es x0.vars a53.pre) fun q92=>if q92=true then some false else some true):Option Bool) fun y87=>bnd (rng (ρ:=Ctl Bool Bool) (fun (k109:Nat) (a110:Eff) (s107:Bool)=>if s107=true then (some (.next true)) else (bnd (Es x0.vars a110.cond) fun q141=>if q141=true then bnd (Es x0.vars [(⟨a110.var,a110.val⟩:Fct)]) fun q154=>if q154=true then some (.next false) else some (.next true) else some (.next true))) a53.effs 0 y87) fun res105=>fin res105 fun (s165:Bool)=>some (.next s165)) x0.ops 0 y24) fun res48=>fin res48 fun (s171:Bool)=>some s171
theorem Kh {w:World} {A:Nat→Prop} (hA:∀ k,A k→k < w.heap.size) {vx0:Value} {x0:Tsk} (p2:Vb w A vx0 x0) {r:Bool} (hm:DR x0=some r) :
    Fn Tryz.prog 47 [vx0] w fun v w'=>Ext w w'∧Vb w' (upA A w w') v r:=by
 obtain ⟨O,hB,x3⟩:=enter hA
 replace p2:=p2.mono x3
 obtain ⟨k5,rfl,v3,v4,v5,v6,rfl,h7,g0,h0,i0⟩:=p2
 obtain ⟨A8,c9,rfl⟩:=h7.form
 obtain ⟨c1,d1,rfl⟩:=g0.form
 obtain ⟨e1,f1,rfl⟩:=h0.form
 obtain ⟨u0,v0,rfl⟩:=i0.form
 refine AH Tryz.func47 rfl Tryz.ntmps47 rfl ?_
 unfold DR at hm
 refine Al (Aj (Da 2 O rfl rfl fun g1 h2 i2 w0 d0=>?_))
 replace d0:Lc 2 h2 i2 g1 26 [(.slice A8 x0.vars.length c9),(.slice c1 x0.init.length d1),(.slice e1 x0.goal.length f1),(.slice u0 x0.ops.length v0)]:=d0
 refine Au rfl rfl (o_z ?_)
 refine Al ?_
 obtain ⟨y3,f0,hm⟩:=bs hm
 refine AL (fun l' w'=>∃ (z3:Unit) (O':Lab),subs l' [(1,(.pointer (some ⟨g1,0,none⟩))),(3,(.bool y3))]∧Bs w A w' O'∧Lc 2 w' O' g1 26 [(.slice A8 x0.vars.length c9),(.slice c1 x0.init.length d1),(.slice e1 x0.goal.length f1),(.slice u0 x0.ops.length v0)]∧Vb w' (Fr 0 w' O') (.slice A8 x0.vars.length c9) x0.vars∧Vb w' (Fr 0 w' O') (.slice c1 x0.init.length d1) x0.init∧Vb w' (Fr 0 w' O') (.slice e1 x0.goal.length f1) x0.goal∧Vb w' (Fr 0 w' O') (.slice u0 x0.ops.length v0) x0.ops) ?_ ?_
 ·
  refine Aj (AG rfl rfl (AE (hc:=Blk.cell (i:=0) (d0.1) rfl) rfl rfl ?_))
  refine AG rfl rfl (AE (hc:=Blk.cell (i:=1) (d0.1) rfl) rfl rfl ?_)
  obtain ⟨r3,a4,f0⟩:=bs f0
  replace h7:=h7.st w0
  replace g0:=g0.st w0
  refine BE (O:=i2) (A:=All h2) (R:=fun w' F v=>Vb w' F v r3) (MR (fun _ h=>h) (Vb.mono (F:=Fr 0 h2 i2) h7 Fr.lt) (Vb.mono (F:=Fr 0 h2 i2) g0 Fr.lt) a4) rfl rfl fun l5 q2 r2 y0 b4=>?_
  obtain rfl:=b4.bool
  cases r3
  case false =>
   replace f0:=iF f0
   refine CC rfl rfl (Ar rfl rfl (At rfl rfl rfl rfl (At rfl rfl rfl rfl (At rfl rfl rfl rfl (At rfl rfl rfl rfl (At rfl rfl rfl rfl (At rfl rfl rfl rfl (AX rfl rfl rfl (Au rfl rfl (o_z ?_))))))))))
   obtain rfl:=sm f0
   exact ⟨(),_,⟨rfl,rfl,trivial⟩,(hB.st w0).st y0,d0.st y0,h7.st y0,g0.st y0,(h0.st w0).st y0,(i0.st w0).st y0⟩
  replace f0:=iT f0
  refine CB rfl rfl (Ar rfl rfl (Ay rfl rfl (AG rfl rfl (Ay rfl rfl ?_))))
  replace d0:=d0.st y0
  refine AE (hc:=Blk.cell (i:=0) (d0.1) rfl) rfl rfl ?_
  refine Ay rfl rfl (AG rfl rfl (Ay rfl rfl (AE (hc:=Blk.cell (i:=2) (d0.1) rfl) rfl rfl ?_)))
  refine Ay rfl rfl ?_
  obtain ⟨s3,c4,f0⟩:=bs f0
  replace h7:=h7.st y0
  replace h0:=(h0.st w0).st y0
  refine BE (O:=r2) (A:=All q2) (R:=fun w' F v=>Vb w' F v s3) (FP (fun _ h=>h) (Vb.mono (F:=Fr 0 q2 r2) h7 Fr.lt) (Vb.mono (F:=Fr 0 q2 r2) h0 Fr.lt) c4) rfl rfl fun m5 n5 o5 b1 d4=>?_
  obtain rfl:=d4.bool
  cases s3
  case false =>
   replace f0:=iF f0
   refine Ay rfl rfl (CC rfl rfl (AT rfl rfl rfl (Au rfl rfl (o_z ?_))))
   obtain rfl:=sm f0
   exact ⟨(),_,⟨rfl,rfl,trivial⟩,((hB.st w0).st y0).st b1,d0.st b1,h7.st b1,(g0.st y0).st b1,h0.st b1,((i0.st w0).st y0).st b1⟩
  replace f0:=iT f0
  refine Ay rfl rfl (CB rfl rfl (AT rfl rfl rfl (Au rfl rfl (o_z ?_))))
  obtain rfl:=sm f0
  exact ⟨(),_,⟨rfl,rfl,trivial⟩,((hB.st w0).st y0).st b1,d0.st b1,h7.st b1,(g0.st y0).st b1,h0.st b1,((i0.st w0).st y0).st b1⟩
 replace hB:=hB.st w0
 replace h7:=h7.st w0
 replace g0:=g0.st w0
 replace h0:=h0.st w0
 replace i0:=i0.st w0
 rintro p5 q5 ⟨z3,e4,s2,hB,d0,h7,g0,h0,i0⟩
 refine AQ _ s2 ?_
 refine Al (Al (Aj (AG rfl rfl (AE (hc:=Blk.cell (i:=3) (d0.1) rfl) rfl rfl ?_))))
 refine AP rfl rfl ?_
 have t2:x0.ops.length≤9223372036854775807:=Nat.le_trans i0.len.2.1 i0.len.2.2
 have r5:inI64 (x0.ops.length:Int):=rngNat t2
 refine Ar rfl rfl (o_z ?_)
 obtain ⟨s1,u2,hm⟩:=bs hm
 refine AL (aft s1 (fun (p1:Bool) (j2:Unit)=>[(3,(.bool p1))]) (fun p1 j2 w'=>∃ O':Lab,Bs w A w' O')) ?_ ?_
 ·
  refine AN (Bp (σ:=Bool) (X:=Unit) (x0.ops.length) u2 rfl t2 (fun (p1:Bool) (j2:Unit)=>[(1,(.pointer (some ⟨g1,0,none⟩))),(3,(.bool p1)),(23,(.slice u0 x0.ops.length v0))]) _ (fun p1 j2 w'=>∃ O':Lab,Bs w A w' O'∧Lc 2 w' O' g1 26 [(.slice A8 x0.vars.length c9),(.slice c1 x0.init.length d1),(.slice e1 x0.goal.length f1),(.slice u0 x0.ops.length v0)]∧Vb w' (Fr 0 w' O') (.slice A8 x0.vars.length c9) x0.vars∧Vb w' (Fr 0 w' O') (.slice c1 x0.init.length d1) x0.init∧Vb w' (Fr 0 w' O') (.slice e1 x0.goal.length f1) x0.goal∧Vb w' (Fr 0 w' O') (.slice u0 x0.ops.length v0) x0.ops) _ () ⟨e4,hB,d0,h7,g0,h0,i0⟩ ⟨rfl,rfl,rfl,rfl,rfl,trivial⟩ (fun _ _=>⟨rfl,rfl⟩) (fun _ _=>⟨rfl,trivial⟩) (fun _ _ _ ⟨O',hB,d0,h7,g0,h0,i0⟩=>⟨O',hB⟩) ⟨rfl,rfl,rfl⟩ ⟨rfl,rfl⟩ ?_)
  rintro k2 q0 p1 j2 s5 f4 t1 ⟨g4,hB,d0,h7,g0,h0,i0⟩ z0 v2 w2
  have rk52:inI64 (k2:Int):=rngK t1 t2
  refine Al (Aj ?_)
  obtain ⟨t5,u5,h4,x2,y2,z2,w5,x5,rfl,i1,s0,y5,z5⟩:=i0.elem' t1
  obtain ⟨a3,b3,rfl⟩:=i1.form
  obtain ⟨u1,v1,rfl⟩:=s0.form
  refine Bi (hA:=x2) (hj:=rfl) (hlt:=y2) rfl rfl rfl ?_
  refine Bk (hl:=rfl) (hc:=z2) rfl rfl ?_
  refine BD 3 g4 rfl fun c3 a6 l2 j0 j1=>?_
  refine AR j1 rfl rfl rfl (Ba rfl) (allOne rfl) fun m2 k0 j1=>?_
  replace j1:Lc 3 m2 l2 c3 67 [(.string q0.name),(.int .i64 q0.cost),(.slice a3 q0.pre.length b3),(.slice u1 q0.effs.length v1)]:=j1
  refine o_z ?_
  refine Al ?_
  obtain ⟨i4,m0,z0⟩:=bs z0
  refine AL (fun l' w'=>∃ (j4:Unit) (O':Lab),subs l' [(1,(.pointer (some ⟨g1,0,none⟩))),(3,(.bool i4)),(5,(.pointer (some ⟨c3,0,none⟩))),(23,(.slice u0 x0.ops.length v0)),(24,(.int .i64 (x0.ops.length:Int))),(25,(.int .i64 (k2:Int)))]∧Bs w A w' O'∧Lc 2 w' O' g1 26 [(.slice A8 x0.vars.length c9),(.slice c1 x0.init.length d1),(.slice e1 x0.goal.length f1),(.slice u0 x0.ops.length v0)]∧Vb w' (Fr 0 w' O') (.slice A8 x0.vars.length c9) x0.vars∧Vb w' (Fr 0 w' O') (.slice c1 x0.init.length d1) x0.init∧Vb w' (Fr 0 w' O') (.slice e1 x0.goal.length f1) x0.goal∧Vb w' (Fr 0 w' O') (.slice u0 x0.ops.length v0) x0.ops∧Lc 3 w' O' c3 67 [(.string q0.name),(.int .i64 q0.cost),(.slice a3 q0.pre.length b3),(.slice u1 q0.effs.length v1)]∧Vb w' (Fr 0 w' O') (.slice a3 q0.pre.length b3) q0.pre∧Vb w' (Fr 0 w' O') (.slice u1 q0.effs.length v1) q0.effs) ?_ ?_
  ·
   refine Aj (Ar rfl rfl (Ar rfl rfl ?_))
   rcases Bool.eq_false_or_eq_true p1 with w1|w1
   ·
    try rw [w1]
    replace m0:=ip m0 w1
    refine At rfl rfl rfl rfl (At rfl rfl rfl rfl (At rfl rfl rfl rfl (At rfl rfl rfl rfl (At rfl rfl rfl rfl (At rfl rfl rfl rfl (AX rfl rfl rfl (Au rfl rfl (o_z ?_))))))))
    obtain rfl:=sm m0
    exact ⟨(),_,⟨rfl,rfl,rfl,rfl,rfl,rfl,trivial⟩,(hB.st j0).st k0,(d0.st j0).st k0,(h7.st j0).st k0,(g0.st j0).st k0,(h0.st j0).st k0,(i0.st j0).st k0,j1,(i1.st j0).st k0,(s0.st j0).st k0⟩
   try rw [w1]
   replace m0:=im' m0 w1
   refine Ay rfl rfl (AG rfl rfl (Ay rfl rfl ?_))
   replace d0:=(d0.st j0).st k0
   refine AE (hc:=Blk.cell (i:=0) (d0.1) rfl) rfl rfl ?_
   refine Ay rfl rfl (AG rfl rfl (Ay rfl rfl (AE (hc:=Blk.cell (i:=2) (j1.1) rfl) rfl rfl ?_)))
   refine Ay rfl rfl ?_
   obtain ⟨t3,k4,m0⟩:=bs m0
   replace h7:=(h7.st j0).st k0
   replace i1:=(i1.st j0).st k0
   refine BE (O:=l2) (A:=All m2) (R:=fun w' F v=>Vb w' F v t3) (FP (fun _ h=>h) (Vb.mono (F:=Fr 0 m2 l2) h7 Fr.lt) (Vb.mono (F:=Fr 0 m2 l2) i1 Fr.lt) k4) rfl rfl fun b6 c6 d6 r0 l4=>?_
   obtain rfl:=l4.bool
   cases t3
   case false =>
    replace m0:=iF m0
    refine Ay rfl rfl (CC rfl rfl (AT rfl rfl rfl (Au rfl rfl (o_z ?_))))
    obtain rfl:=sm m0
    exact ⟨(),_,⟨rfl,rfl,rfl,rfl,rfl,rfl,trivial⟩,((hB.st j0).st k0).st r0,d0.st r0,h7.st r0,((g0.st j0).st k0).st r0,((h0.st j0).st k0).st r0,((i0.st j0).st k0).st r0,j1.st r0,i1.st r0,((s0.st j0).st k0).st r0⟩
   replace m0:=iT m0
   refine Ay rfl rfl (CB rfl rfl (AT rfl rfl rfl (Au rfl rfl (o_z ?_))))
   obtain rfl:=sm m0
   exact ⟨(),_,⟨rfl,rfl,rfl,rfl,rfl,rfl,trivial⟩,((hB.st j0).st k0).st r0,d0.st r0,h7.st r0,((g0.st j0).st k0).st r0,((h0.st j0).st k0).st r0,((i0.st j0).st k0).st r0,j1.st r0,i1.st r0,((s0.st j0).st k0).st r0⟩
  replace hB:=(hB.st j0).st k0
  replace h7:=(h7.st j0).st k0
  replace g0:=(g0.st j0).st k0
  replace h0:=(h0.st j0).st k0
  replace i0:=(i0.st j0).st k0
  replace d0:=(d0.st j0).st k0
  replace i1:=(i1.st j0).st k0
  replace s0:=(s0.st j0).st k0
  rintro e6 m4 ⟨j4,d3,x1,hB,d0,h7,g0,h0,i0,j1,i1,s0⟩
  refine AQ _ x1 ?_
  refine Al (Aj (AG rfl rfl (AE (hc:=Blk.cell (i:=3) (j1.1) rfl) rfl rfl ?_)))
  refine AP rfl rfl ?_
  have q1:q0.effs.length≤9223372036854775807:=Nat.le_trans s0.len.2.1 s0.len.2.2
  have n4:inI64 (q0.effs.length:Int):=rngNat q1
  refine Ar rfl rfl (o_z ?_)
  obtain ⟨r1,y1,z0⟩:=bs z0
  refine AL (aft r1 (fun (a1:Bool) (k1:Unit)=>[(1,(.pointer (some ⟨g1,0,none⟩))),(3,(.bool a1)),(23,(.slice u0 x0.ops.length v0)),(24,(.int .i64 (x0.ops.length:Int))),(25,(.int .i64 (k2:Int)))]) (fun a1 k1 w'=>∃ O':Lab,Bs w A w' O'∧Lc 2 w' O' g1 26 [(.slice A8 x0.vars.length c9),(.slice c1 x0.init.length d1),(.slice e1 x0.goal.length f1),(.slice u0 x0.ops.length v0)]∧Vb w' (Fr 0 w' O') (.slice A8 x0.vars.length c9) x0.vars∧Vb w' (Fr 0 w' O') (.slice c1 x0.init.length d1) x0.init∧Vb w' (Fr 0 w' O') (.slice e1 x0.goal.length f1) x0.goal∧Vb w' (Fr 0 w' O') (.slice u0 x0.ops.length v0) x0.ops)) ?_ ?_
  ·
   refine AN (Bp (σ:=Bool) (X:=Unit) (q0.effs.length) y1 rfl q1 (fun (a1:Bool) (k1:Unit)=>[(1,(.pointer (some ⟨g1,0,none⟩))),(3,(.bool a1)),(23,(.slice u0 x0.ops.length v0)),(24,(.int .i64 (x0.ops.length:Int))),(25,(.int .i64 (k2:Int))),(39,(.slice u1 q0.effs.length v1))]) _ (fun a1 k1 w'=>∃ O':Lab,Bs w A w' O'∧Lc 2 w' O' g1 26 [(.slice A8 x0.vars.length c9),(.slice c1 x0.init.length d1),(.slice e1 x0.goal.length f1),(.slice u0 x0.ops.length v0)]∧Vb w' (Fr 0 w' O') (.slice A8 x0.vars.length c9) x0.vars∧Vb w' (Fr 0 w' O') (.slice c1 x0.init.length d1) x0.init∧Vb w' (Fr 0 w' O') (.slice e1 x0.goal.length f1) x0.goal∧Vb w' (Fr 0 w' O') (.slice u0 x0.ops.length v0) x0.ops∧Vb w' (Fr 0 w' O') (.slice u1 q0.effs.length v1) q0.effs) _ () ⟨d3,hB,d0,h7,g0,h0,i0,s0⟩ ⟨rfl,rfl,rfl,rfl,rfl,rfl,rfl,rfl,trivial⟩ (fun _ _=>⟨rfl,rfl⟩) (fun _ _=>⟨rfl,rfl,rfl,rfl,rfl,trivial⟩) (fun _ _ _ ⟨O',hB,d0,h7,g0,h0,i0,s0⟩=>⟨O',hB,d0,h7,g0,h0,i0⟩) ⟨rfl,rfl,rfl⟩ ⟨rfl,rfl⟩ ?_)
   rintro e3 o0 a1 k1 o4 u3 o1 ⟨f3,hB,d0,h7,g0,h0,i0,s0⟩ a0 n2 o2
   have rk109:inI64 (e3:Int):=rngK o1 q1
   refine Al (Aj ?_)
   obtain ⟨p4,q4,w3,z1,a2,b2,r4,rfl,l1,g3,h3⟩:=s0.elem' o1
   obtain ⟨i3,j3,rfl⟩:=l1.form
   refine Bi (hA:=z1) (hj:=rfl) (hlt:=a2) rfl rfl rfl ?_
   refine Bk (hl:=rfl) (hc:=b2) rfl rfl ?_
   refine BD 4 f3 rfl fun k3 s4 m1 b0 p0=>?_
   refine AR p0 rfl rfl rfl (Ba rfl) (allOne rfl) fun n1 c0 p0=>?_
   replace p0:Lc 4 n1 m1 k3 64 [(.slice i3 o0.cond.length j3),(.int .i64 o0.var),(.int .i64 o0.val)]:=p0
   refine o_z ?_
   refine Aj (Ar rfl rfl (Ar rfl rfl ?_))
   rcases Bool.eq_false_or_eq_true a1 with h1|h1
   ·
    try rw [h1]
    replace a0:=ip a0 h1
    refine At rfl rfl rfl rfl (At rfl rfl rfl rfl (At rfl rfl rfl rfl (At rfl rfl rfl rfl (At rfl rfl rfl rfl (At rfl rfl rfl rfl (AX rfl rfl rfl (Ar rfl rfl (At rfl rfl rfl rfl (At rfl rfl rfl rfl (At rfl rfl rfl rfl (At rfl rfl rfl rfl (At rfl rfl rfl rfl (At rfl rfl rfl rfl (At rfl rfl rfl rfl ?_))))))))))))))
    refine At rfl rfl rfl rfl (At rfl rfl rfl rfl (At rfl rfl rfl rfl (AX rfl rfl rfl (Au rfl rfl (o_z ?_)))))
    obtain rfl:=sm a0
    exact show Exists _ from ⟨_,(),rfl,⟨rfl,rfl,rfl,rfl,rfl,rfl,rfl,rfl,trivial⟩,_,(hB.st b0).st c0,(d0.st b0).st c0,(h7.st b0).st c0,(g0.st b0).st c0,(h0.st b0).st c0,(i0.st b0).st c0,(s0.st b0).st c0⟩
   try rw [h1]
   replace a0:=im' a0 h1
   refine Ay rfl rfl (AG rfl rfl (Ay rfl rfl ?_))
   replace d0:=(d0.st b0).st c0
   refine AE (hc:=Blk.cell (i:=0) (d0.1) rfl) rfl rfl ?_
   refine Ay rfl rfl (AG rfl rfl (Ay rfl rfl (AE (hc:=Blk.cell (i:=0) (p0.1) rfl) rfl rfl ?_)))
   refine Ay rfl rfl ?_
   obtain ⟨c2,l3,a0⟩:=bs a0
   replace h7:=(h7.st b0).st c0
   replace l1:=(l1.st b0).st c0
   refine BE (O:=m1) (A:=All n1) (R:=fun w' F v=>Vb w' F v c2) (FP (fun _ h=>h) (Vb.mono (F:=Fr 0 n1 m1) h7 Fr.lt) (Vb.mono (F:=Fr 0 n1 m1) l1 Fr.lt) l3) rfl rfl fun t4 u4 m3 e0 n3=>?_
   obtain rfl:=n3.bool
   cases c2
   case false =>
    replace a0:=iF a0
    refine Ay rfl rfl (CC rfl rfl (AT rfl rfl rfl (Ar rfl rfl (At rfl rfl rfl rfl (At rfl rfl rfl rfl (At rfl rfl rfl rfl (At rfl rfl rfl rfl (At rfl rfl rfl rfl (At rfl rfl rfl rfl (At rfl rfl rfl rfl (At rfl rfl rfl rfl (At rfl rfl rfl rfl (At rfl rfl rfl rfl (AX rfl rfl rfl ?_))))))))))))))
    refine Au rfl rfl (o_z ?_)
    obtain rfl:=sm a0
    exact show Exists _ from ⟨_,(),rfl,⟨rfl,rfl,rfl,rfl,rfl,rfl,rfl,rfl,trivial⟩,_,((hB.st b0).st c0).st e0,d0.st e0,h7.st e0,((g0.st b0).st c0).st e0,((h0.st b0).st c0).st e0,((i0.st b0).st c0).st e0,((s0.st b0).st c0).st e0⟩
   replace a0:=iT a0
   refine Ay rfl rfl (CB rfl rfl (AT rfl rfl rfl (Ar rfl rfl (Ay rfl rfl (AG rfl rfl (Ay rfl rfl ?_))))))
   replace d0:=d0.st e0
   refine AE (hc:=Blk.cell (i:=0) (d0.1) rfl) rfl rfl ?_
   refine Ay rfl rfl (AG rfl rfl (Ay rfl rfl ?_))
   replace p0:=p0.st e0
   refine AE (hc:=Blk.cell (i:=1) (p0.1) rfl) rfl rfl ?_
   refine Ay rfl rfl (AG rfl rfl (Ay rfl rfl (AE (hc:=Blk.cell (i:=2) (p0.1) rfl) rfl rfl ?_)))
   refine Ay rfl rfl (Cw rfl rfl rfl ?_)
   refine Ay rfl rfl (Bv 5 (by decide) m3 (xs:=([(⟨o0.var,o0.val⟩:Fct)]:List Fct)) rfl rfl rfl rfl ⟨(Vb.ofAgg (cs:=[(.int .i64 o0.var),(.int .i64 o0.val)]) (x:=(⟨o0.var,o0.val⟩:Fct)) rfl ⟨rfl,g3,h3⟩),trivial⟩ (by decide) (by decide) rfl fun w4 d2 e2 n0 o3=>?_)
   refine Ay rfl rfl ?_
   obtain ⟨f2,p3,a0⟩:=bs a0
   replace h7:=(h7.st e0).st n0
   refine BE (O:=e2) (A:=All d2) (R:=fun w' F v=>Vb w' F v f2) (FP (fun _ h=>h) (Vb.mono (F:=Fr 0 d2 e2) h7 Fr.lt) (o3).all p3) rfl rfl fun x4 y4 z4 l0 q3=>?_
   obtain rfl:=q3.bool
   cases f2
   case false =>
    replace a0:=iF a0
    refine Ay rfl rfl (CC rfl rfl (AT rfl rfl rfl (Au rfl rfl (o_z ?_))))
    obtain rfl:=sm a0
    exact show Exists _ from ⟨_,(),rfl,⟨rfl,rfl,rfl,rfl,rfl,rfl,rfl,rfl,trivial⟩,_,((((hB.st b0).st c0).st e0).st n0).st l0,(d0.st n0).st l0,h7.st l0,((((g0.st b0).st c0).st e0).st n0).st l0,((((h0.st b0).st c0).st e0).st n0).st l0,((((i0.st b0).st c0).st e0).st n0).st l0,((((s0.st b0).st c0).st e0).st n0).st l0⟩
   replace a0:=iT a0
   refine Ay rfl rfl (CB rfl rfl (AT rfl rfl rfl (Au rfl rfl (o_z ?_))))
   obtain rfl:=sm a0
   exact show Exists _ from ⟨_,(),rfl,⟨rfl,rfl,rfl,rfl,rfl,rfl,rfl,rfl,trivial⟩,_,((((hB.st b0).st c0).st e0).st n0).st l0,(d0.st n0).st l0,h7.st l0,((((g0.st b0).st c0).st e0).st n0).st l0,((((h0.st b0).st c0).st e0).st n0).st l0,((((i0.st b0).st c0).st e0).st n0).st l0,((((s0.st b0).st c0).st e0).st n0).st l0⟩
  rintro a5 b5 ⟨c5,d5,rfl,t0,e5,hB,d0,h7,g0,h0,i0⟩
  replace z0:=AV z0
  obtain rfl:=sm z0
  exact show Exists _ from ⟨_,(),rfl,⟨(Bn t0 _ _ rfl),(Bn t0 _ _ rfl),(Bn t0 _ _ rfl),(Bn t0 _ _ rfl),(Bn t0 _ _ rfl),trivial⟩,_,hB,d0,h7,g0,h0,i0⟩
 rintro f5 g5 ⟨h5,i5,rfl,g2,j5,hB⟩
 replace hm:=AV hm
 refine AQ _ g2 ?_
 refine Al (Aj (Ar rfl rfl (Au rfl rfl (o_z ?_))))
 refine AK ?_
 obtain rfl:=sm hm
 exact ret1v rfl (AB rfl) ⟨hB.ext,vBool⟩
noncomputable def Eh (x0:Tsk):Option Bool :=
  bnd (rng (ρ:=Bool) (fun (k30:Nat) (a31:Opr) (s28:Bool)=>bnd (if s28=true then (some true) else (if 256 < (a31.name.size:Int) then (some true) else (some false)):Option Bool) fun y65=>bnd (rngN (ρ:=Ctl Bool Bool) (fun (k81:Nat) (s79:Bool)=>if s79=true then (some (.next true)) else (bnd (bytI a31.name (k81:Int)) fun n93=>if n93 < 32 then (some (.next true)) else (bnd (bytI a31.name (k81:Int)) fun n97=>if 126 < n97 then (some (.next true)) else (some (.next false))))) a31.name.size y65) fun res77=>fin res77 fun (s105:Bool)=>some (.next s105)) x0.ops 0 false) fun res26=>fin res26 fun (s111:Bool)=>some s111
theorem KG {w:World} {A:Nat→Prop} (hA:∀ k,A k→k < w.heap.size) {vx0:Value} {x0:Tsk} (f1:Vb w A vx0 x0) {r:Bool} (hm:Eh x0=some r) :
    Fn Tryz.prog 48 [vx0] w fun v w'=>Ext w w'∧Vb w' (upA A w w') v r:=by
 obtain ⟨O,hB,b2⟩:=enter hA
 replace f1:=f1.mono b2
 obtain ⟨e3,rfl,v3,v4,v5,v6,rfl,h7,c2,d2,b0⟩:=f1
 obtain ⟨A8,c9,rfl⟩:=h7.form
 obtain ⟨e2,f2,rfl⟩:=c2.form
 obtain ⟨g2,h2,rfl⟩:=d2.form
 obtain ⟨l0,m0,rfl⟩:=b0.form
 refine AH Tryz.func48 rfl Tryz.ntmps48 rfl ?_
 unfold Eh at hm
 refine Al (Aj (Da 2 O rfl rfl fun i2 j2 w1 g1 h1=>?_))
 replace h1:Lc 2 j2 w1 i2 26 [(.slice A8 x0.vars.length c9),(.slice e2 x0.init.length f2),(.slice g2 x0.goal.length h2),(.slice l0 x0.ops.length m0)]:=h1
 refine Au rfl rfl (o_z ?_)
 refine Al (Aj (Au rfl rfl (o_z ?_)))
 refine Al (Al (Aj (AG rfl rfl (AE (hc:=Blk.cell (i:=3) (h1.1) rfl) rfl rfl ?_))))
 refine AP rfl rfl ?_
 replace b0:=b0.st g1
 have i1:x0.ops.length≤9223372036854775807:=Nat.le_trans b0.len.2.1 b0.len.2.2
 have f3:inI64 (x0.ops.length:Int):=rngNat i1
 refine Ar rfl rfl (o_z ?_)
 obtain ⟨q0,j1,hm⟩:=bs hm
 refine AL (aft q0 (fun (n0:Bool) (c1:Unit)=>[(3,(.bool n0))]) (fun n0 c1 w'=>∃ O':Lab,Bs w A w' O')) ?_ ?_
 ·
  refine AN ?_
  replace hB:=hB.st g1
  refine Bp (σ:=Bool) (X:=Unit) (x0.ops.length) j1 rfl i1 (fun (n0:Bool) (c1:Unit)=>[(3,(.bool n0)),(8,(.slice l0 x0.ops.length m0))]) _ (fun n0 c1 w'=>∃ O':Lab,Bs w A w' O'∧Vb w' (Fr 0 w' O') (.slice l0 x0.ops.length m0) x0.ops) _ () ⟨w1,hB,b0⟩ ⟨rfl,rfl,rfl,rfl,trivial⟩ (fun _ _=>⟨rfl,rfl⟩) (fun _ _=>⟨rfl,trivial⟩) (fun _ _ _ ⟨O',hB,b0⟩=>⟨O',hB⟩) ⟨rfl,rfl,rfl⟩ ⟨rfl,rfl⟩ ?_
  rintro d1 c0 n0 c1 g3 k2 r0 ⟨l2,hB,b0⟩ h0 k1 l1
  have rk30:inI64 (d1:Int):=rngK r0 i1
  refine Al (Aj ?_)
  obtain ⟨h3,i3,m2,m1,n1,o1,j3,k3,rfl,i0,j0,l3,x1⟩:=b0.elem' r0
  obtain ⟨s0,t0,rfl⟩:=i0.form
  obtain ⟨u0,v0,rfl⟩:=j0.form
  refine Bi (hA:=m1) (hj:=rfl) (hlt:=n1) rfl rfl rfl ?_
  refine Bk (hl:=rfl) (hc:=o1) rfl rfl ?_
  refine BD 3 l2 rfl fun w0 m3 n2 f0 e0=>?_
  refine AR e0 rfl rfl rfl (Ba rfl) (allOne rfl) fun o2 g0 e0=>?_
  replace e0:Lc 3 o2 n2 w0 67 [(.string c0.name),(.int .i64 c0.cost),(.slice s0 c0.pre.length t0),(.slice u0 c0.effs.length v0)]:=e0
  refine o_z ?_
  refine Al ?_
  obtain ⟨p2,d0,h0⟩:=bs h0
  refine AL (fun l' w'=>∃ (q2:Unit) (O':Lab),subs l' [(3,(.bool p2)),(5,(.pointer (some ⟨w0,0,none⟩))),(8,(.slice l0 x0.ops.length m0)),(9,(.int .i64 (x0.ops.length:Int))),(10,(.int .i64 (d1:Int)))]∧Bs w A w' O'∧Lc 3 w' O' w0 67 [(.string c0.name),(.int .i64 c0.cost),(.slice s0 c0.pre.length t0),(.slice u0 c0.effs.length v0)]∧Vb w' (Fr 0 w' O') (.slice s0 c0.pre.length t0) c0.pre∧Vb w' (Fr 0 w' O') (.slice u0 c0.effs.length v0) c0.effs∧Vb w' (Fr 0 w' O') (.slice l0 x0.ops.length m0) x0.ops) ?_ ?_
  ·
   refine Aj (Ar rfl rfl (Ar rfl rfl ?_))
   rcases Bool.eq_false_or_eq_true n0 with y0|y0
   ·
    try rw [y0]
    replace d0:=ip d0 y0
    refine At rfl rfl rfl rfl (At rfl rfl rfl rfl (At rfl rfl rfl rfl (At rfl rfl rfl rfl (AX rfl rfl rfl (Au rfl rfl (o_z ?_))))))
    obtain rfl:=sm d0
    exact ⟨(),_,⟨rfl,rfl,rfl,rfl,rfl,trivial⟩,(hB.st f0).st g0,e0,(i0.st f0).st g0,(j0.st f0).st g0,(b0.st f0).st g0⟩
   try rw [y0]
   replace d0:=im' d0 y0
   refine Ay rfl rfl (AG rfl rfl (Ay rfl rfl (AE (hc:=Blk.cell (i:=0) (e0.1) rfl) rfl rfl ?_)))
   refine Ay rfl rfl (Jo rfl rfl ?_)
   have n3:inI64 (c0.name.size:Int):=rngNat x1
   refine Ay rfl rfl (Ce rfl rfl rfl (fun p1=>?_) fun p1=>?_)
   ·
    replace d0:=ip d0 p1
    refine AT rfl rfl rfl (Au rfl rfl (o_z ?_))
    obtain rfl:=sm d0
    exact ⟨(),_,⟨rfl,rfl,rfl,rfl,rfl,trivial⟩,(hB.st f0).st g0,e0,(i0.st f0).st g0,(j0.st f0).st g0,(b0.st f0).st g0⟩
   replace d0:=im d0 p1
   refine AT rfl rfl rfl (Au rfl rfl (o_z ?_))
   obtain rfl:=sm d0
   exact ⟨(),_,⟨rfl,rfl,rfl,rfl,rfl,trivial⟩,(hB.st f0).st g0,e0,(i0.st f0).st g0,(j0.st f0).st g0,(b0.st f0).st g0⟩
  replace hB:=(hB.st f0).st g0
  replace b0:=(b0.st f0).st g0
  replace i0:=(i0.st f0).st g0
  replace j0:=(j0.st f0).st g0
  rintro o3 p3 ⟨q2,r2,q1,hB,e0,i0,j0,b0⟩
  refine AQ _ q1 ?_
  refine Al (Aj (AG rfl rfl (AE (hc:=Blk.cell (i:=0) (e0.1) rfl) rfl rfl ?_)))
  refine Jo rfl rfl ?_
  have y1:inI64 (c0.name.size:Int):=rngNat x1
  refine Ar rfl rfl (o_z ?_)
  obtain ⟨z0,r1,h0⟩:=bs h0
  refine AL (aft z0 (fun (o0:Bool) (e1:Unit)=>[(3,(.bool o0)),(8,(.slice l0 x0.ops.length m0)),(9,(.int .i64 (x0.ops.length:Int))),(10,(.int .i64 (d1:Int)))]) (fun o0 e1 w'=>∃ O':Lab,Bs w A w' O'∧Vb w' (Fr 0 w' O') (.slice l0 x0.ops.length m0) x0.ops)) ?_ ?_
  ·
   refine AN (Gy (σ:=Bool) (X:=Unit) (c0.name.size) r1 (rngNat' y1) (fun (o0:Bool) (e1:Unit)=>[(3,(.bool o0)),(5,(.pointer (some ⟨w0,0,none⟩))),(8,(.slice l0 x0.ops.length m0)),(9,(.int .i64 (x0.ops.length:Int))),(10,(.int .i64 (d1:Int)))]) _ (fun o0 e1 w'=>∃ O':Lab,Bs w A w' O'∧Lc 3 w' O' w0 67 [(.string c0.name),(.int .i64 c0.cost),(.slice s0 c0.pre.length t0),(.slice u0 c0.effs.length v0)]∧Vb w' (Fr 0 w' O') (.slice s0 c0.pre.length t0) c0.pre∧Vb w' (Fr 0 w' O') (.slice u0 c0.effs.length v0) c0.effs∧Vb w' (Fr 0 w' O') (.slice l0 x0.ops.length m0) x0.ops) _ () ⟨r2,hB,e0,i0,j0,b0⟩ ⟨rfl,rfl,rfl,rfl,rfl,rfl,rfl,trivial⟩ (fun _ _=>⟨rfl,rfl⟩) (fun _ _=>⟨rfl,rfl,rfl,rfl,trivial⟩) (fun _ _ _ ⟨O',hB,e0,i0,j0,b0⟩=>⟨O',hB,b0⟩) ⟨rfl,rfl,rfl⟩ ⟨rfl,rfl⟩ ?_)
   rintro s2 o0 e1 q3 t2 s1 ⟨r3,hB,e0,i0,j0,b0⟩ a0 t1 u1
   have rk81:inI64 (s2:Int):=rngKN s1 (rngNat' y1)
   refine Al (Aj (Ar rfl rfl (Au rfl rfl (o_z ?_))))
   refine Aj (Ar rfl rfl (Ar rfl rfl ?_))
   rcases Bool.eq_false_or_eq_true o0 with a1|a1
   ·
    try rw [a1]
    replace a0:=ip a0 a1
    refine At rfl rfl rfl rfl (At rfl rfl rfl rfl (At rfl rfl rfl rfl (At rfl rfl rfl rfl (At rfl rfl rfl rfl (AX rfl rfl rfl (Ar rfl rfl (At rfl rfl rfl rfl (At rfl rfl rfl rfl (At rfl rfl rfl rfl (At rfl rfl rfl rfl (At rfl rfl rfl rfl (AX rfl rfl rfl (Au rfl rfl (o_z ?_))))))))))))))
    obtain rfl:=sm a0
    exact show Exists _ from ⟨_,(),rfl,⟨rfl,rfl,rfl,rfl,rfl,rfl,rfl,trivial⟩,_,hB,e0,i0,j0,b0⟩
   try rw [a1]
   replace a0:=im' a0 a1
   refine Ay rfl rfl (AG rfl rfl (Ay rfl rfl (AE (hc:=Blk.cell (i:=0) (e0.1) rfl) rfl rfl ?_)))
   refine Ay rfl rfl (Ar rfl rfl (Ay rfl rfl ?_))
   obtain ⟨s3,z1,a0⟩:=bs a0
   have t3:=ML z1
   refine QU (he:=z1) rfl rfl rfl ?_
   refine Ay rfl rfl (DM rfl rfl rfl (fun v1=>?_) fun v1=>?_)
   ·
    replace a0:=ip a0 v1
    refine AT rfl rfl rfl (Ar rfl rfl (At rfl rfl rfl rfl (At rfl rfl rfl rfl (At rfl rfl rfl rfl (At rfl rfl rfl rfl (At rfl rfl rfl rfl (AX rfl rfl rfl (Au rfl rfl (o_z ?_)))))))))
    obtain rfl:=sm a0
    exact show Exists _ from ⟨_,(),rfl,⟨rfl,rfl,rfl,rfl,rfl,rfl,rfl,trivial⟩,_,hB,e0,i0,j0,b0⟩
   replace a0:=im a0 v1
   refine AT rfl rfl rfl (Ar rfl rfl (Ay rfl rfl (AG rfl rfl (Ay rfl rfl (AE (hc:=Blk.cell (i:=0) (e0.1) rfl) rfl rfl ?_)))))
   refine Ay rfl rfl (Ar rfl rfl (Ay rfl rfl ?_))
   obtain ⟨u3,a2,a0⟩:=bs a0
   have w3:=ML a2
   refine QU (he:=a2) rfl rfl rfl ?_
   refine Ay rfl rfl (Ce rfl rfl rfl (fun p0=>?_) fun p0=>?_)
   ·
    replace a0:=ip a0 p0
    refine AT rfl rfl rfl (Au rfl rfl (o_z ?_))
    obtain rfl:=sm a0
    exact show Exists _ from ⟨_,(),rfl,⟨rfl,rfl,rfl,rfl,rfl,rfl,rfl,trivial⟩,_,hB,e0,i0,j0,b0⟩
   replace a0:=im a0 p0
   refine AT rfl rfl rfl (Au rfl rfl (o_z ?_))
   obtain rfl:=sm a0
   exact show Exists _ from ⟨_,(),rfl,⟨rfl,rfl,rfl,rfl,rfl,rfl,rfl,trivial⟩,_,hB,e0,i0,j0,b0⟩
  rintro u2 v2 ⟨w2,x2,rfl,k0,y2,hB,b0⟩
  replace h0:=AV h0
  obtain rfl:=sm h0
  exact show Exists _ from ⟨_,(),rfl,⟨(Bn k0 _ _ rfl),(Bn k0 _ _ rfl),(Bn k0 _ _ rfl),(Bn k0 _ _ rfl),trivial⟩,_,hB,b0⟩
 replace hB:=hB.st g1
 rintro z2 a3 ⟨b3,c3,rfl,b1,d3,hB⟩
 replace hm:=AV hm
 refine AQ _ b1 ?_
 refine Al (Aj (Ar rfl rfl (Au rfl rfl (o_z ?_))))
 refine AK ?_
 obtain rfl:=sm hm
 exact ret1v rfl (AB rfl) ⟨hB.ext,vBool⟩
noncomputable def DP (x0:Tsk):Option Int :=
  bnd (Fd x0) fun q24=>if q24=true then some 5 else bnd (Ez x0) fun q31=>if q31=true then some 1 else bnd (DR x0) fun q38=>if q38=true then some 2 else bnd (Eh x0) fun q45=>if q45=true then some 8 else some 0
theorem IX {w:World} {A:Nat→Prop} (hA:∀ k,A k→k < w.heap.size) {vx0:Value} {x0:Tsk} (o0:Vb w A vx0 x0) {r:Int} (hm:DP x0=some r) :
    Fn Tryz.prog 25 [vx0] w fun v w'=>Ext w w'∧Vb w' (upA A w w') v r:=by
 obtain ⟨O,hB,d1⟩:=enter hA
 replace o0:=o0.mono d1
 obtain ⟨n1,rfl,v3,v4,v5,v6,rfl,h7,a0,b0,c0⟩:=o0
 obtain ⟨A8,c9,rfl⟩:=h7.form
 obtain ⟨i0,j0,rfl⟩:=a0.form
 obtain ⟨k0,l0,rfl⟩:=b0.form
 obtain ⟨m0,n0,rfl⟩:=c0.form
 refine AH Tryz.func25 rfl Tryz.ntmps25 rfl ?_
 unfold DP at hm
 refine Al (Aj (Da 2 O rfl rfl fun e1 p0 q0 f0 d0=>?_))
 replace d0:Lc 2 p0 q0 e1 26 [(.slice A8 x0.vars.length c9),(.slice i0 x0.init.length j0),(.slice k0 x0.goal.length l0),(.slice m0 x0.ops.length n0)]:=d0
 refine Au rfl rfl (o_z ?_)
 refine Al (AN (Al (Aj (Bk (hl:=rfl) (hc:=(d0.1).cellsAt) rfl rfl ?_))))
 obtain ⟨r0,f1,hm⟩:=bs hm
 replace h7:=h7.st f0
 replace a0:=a0.st f0
 replace b0:=b0.st f0
 replace c0:=c0.st f0
 refine BE (O:=q0) (A:=All p0) (R:=fun w' F v=>Vb w' F v r0) (Mo (fun _ h=>h) (Vb.mono (F:=Fr 0 p0 q0) (Vb.ofAgg (cs:=[(.slice A8 x0.vars.length c9),(.slice i0 x0.init.length j0),(.slice k0 x0.goal.length l0),(.slice m0 x0.ops.length n0)]) (x:=x0) rfl ⟨_,_,_,_,rfl,h7,a0,b0,c0⟩) Fr.lt) f1) rfl rfl fun o1 s0 t0 e0 g1=>?_
 obtain rfl:=g1.bool
 cases r0
 case false =>
  replace hm:=iF hm
  refine Au rfl rfl (o_z ?_)
  refine Ae rfl (Al (Aj ?_))
  replace d0:=d0.st e0
  refine Bk (hl:=rfl) (hc:=(d0.1).cellsAt) rfl rfl ?_
  obtain ⟨u0,h1,hm⟩:=bs hm
  replace h7:=h7.st e0
  replace a0:=a0.st e0
  replace b0:=b0.st e0
  replace c0:=c0.st e0
  refine BE (O:=t0) (A:=All s0) (R:=fun w' F v=>Vb w' F v u0) (Ln (fun _ h=>h) (Vb.mono (F:=Fr 0 s0 t0) (Vb.ofAgg (cs:=[(.slice A8 x0.vars.length c9),(.slice i0 x0.init.length j0),(.slice k0 x0.goal.length l0),(.slice m0 x0.ops.length n0)]) (x:=x0) rfl ⟨_,_,_,_,rfl,h7,a0,b0,c0⟩) Fr.lt) h1) rfl rfl fun p1 v0 w0 g0 i1=>?_
  obtain rfl:=i1.bool
  cases u0
  case false =>
   replace hm:=iF hm
   refine Au rfl rfl (o_z ?_)
   refine Ae rfl (Al (Aj ?_))
   replace d0:=d0.st g0
   refine Bk (hl:=rfl) (hc:=(d0.1).cellsAt) rfl rfl ?_
   obtain ⟨y0,j1,hm⟩:=bs hm
   replace h7:=h7.st g0
   replace a0:=a0.st g0
   replace b0:=b0.st g0
   replace c0:=c0.st g0
   refine BE (O:=w0) (A:=All v0) (R:=fun w' F v=>Vb w' F v y0) (Kh (fun _ h=>h) (Vb.mono (F:=Fr 0 v0 w0) (Vb.ofAgg (cs:=[(.slice A8 x0.vars.length c9),(.slice i0 x0.init.length j0),(.slice k0 x0.goal.length l0),(.slice m0 x0.ops.length n0)]) (x:=x0) rfl ⟨_,_,_,_,rfl,h7,a0,b0,c0⟩) Fr.lt) j1) rfl rfl fun q1 z0 a1 h0 k1=>?_
   obtain rfl:=k1.bool
   cases y0
   case false =>
    replace hm:=iF hm
    refine Au rfl rfl (o_z ?_)
    refine Ae rfl (Al (Aj ?_))
    replace d0:=d0.st h0
    refine Bk (hl:=rfl) (hc:=(d0.1).cellsAt) rfl rfl ?_
    obtain ⟨b1,l1,hm⟩:=bs hm
    replace h7:=h7.st h0
    replace a0:=a0.st h0
    replace b0:=b0.st h0
    replace c0:=c0.st h0
    refine BE (O:=a1) (A:=All z0) (R:=fun w' F v=>Vb w' F v b1) (KG (fun _ h=>h) (Vb.mono (F:=Fr 0 z0 a1) (Vb.ofAgg (cs:=[(.slice A8 x0.vars.length c9),(.slice i0 x0.init.length j0),(.slice k0 x0.goal.length l0),(.slice m0 x0.ops.length n0)]) (x:=x0) rfl ⟨_,_,_,_,rfl,h7,a0,b0,c0⟩) Fr.lt) l1) rfl rfl fun r1 s1 t1 c1 m1=>?_
    obtain rfl:=m1.bool
    cases b1
    case false =>
     replace hm:=iF hm
     refine Au rfl rfl (o_z ?_)
     refine Ae rfl (AO (Al (Aj (Au rfl rfl (o_z ?_)))))
     refine AK ?_
     obtain rfl:=sm hm
     replace hB:=((((hB.st f0).st e0).st g0).st h0).st c1
     exact ret1v rfl (AB rfl) ⟨hB.ext,(vInt (show inI64 (0) from by decide))⟩
    replace hm:=iT hm
    refine Au rfl rfl (o_z ?_)
    refine Ah rfl (Al (Aj (Au rfl rfl (o_z ?_))))
    refine AK ?_
    obtain rfl:=sm hm
    replace hB:=((((hB.st f0).st e0).st g0).st h0).st c1
    exact ret1v rfl (AB rfl) ⟨hB.ext,(vInt (show inI64 (8) from by decide))⟩
   replace hm:=iT hm
   refine Au rfl rfl (o_z ?_)
   refine Ah rfl (Al (Aj (Au rfl rfl (o_z ?_))))
   refine AK ?_
   obtain rfl:=sm hm
   replace hB:=(((hB.st f0).st e0).st g0).st h0
   exact ret1v rfl (AB rfl) ⟨hB.ext,(vInt (show inI64 (2) from by decide))⟩
  replace hm:=iT hm
  refine Au rfl rfl (o_z ?_)
  refine Ah rfl (Al (Aj (Au rfl rfl (o_z ?_))))
  refine AK ?_
  obtain rfl:=sm hm
  replace hB:=((hB.st f0).st e0).st g0
  exact ret1v rfl (AB rfl) ⟨hB.ext,(vInt (show inI64 (1) from by decide))⟩
 replace hm:=iT hm
 refine Au rfl rfl (o_z ?_)
 refine Ah rfl (Al (Aj (Au rfl rfl (o_z ?_))))
 refine AK ?_
 obtain rfl:=sm hm
 replace hB:=(hB.st f0).st e0
 exact ret1v rfl (AB rfl) ⟨hB.ext,(vInt (show inI64 (5) from by decide))⟩
end
section
open Go Go.RowKit
attribute [local irreducible] ewp owp hwp hwq hws Ev Evg Fn retPost loud loudS Res1
attribute [local irreducible] hwx loudX hwz zNext
noncomputable def Ca (x0:Tsk) (x1:List ByteArray) (x2:Int) (x3:Int):Option (Rsl×Int×Err) :=
  bnd (Cd x0 x1 x2) fun q34=>if q34.2.2.n≠0 then (some ((⟨0,([]:List Int),0,0⟩:Rsl),0,(⟨q34.2.2.n⟩:Err))) else (bnd (Cf q34.1 x3) fun q77=>if q77.2.n≠0 then (some ((⟨0,([]:List Int),0,0⟩:Rsl),0,(⟨q77.2.n⟩:Err))) else (if q77.1.verdict≠1 then (some (q77.1,0,(⟨0⟩:Err))) else (bnd (rng (ρ:=Rsl×Int×Err) (fun (k116:Nat) (a117:Int) (s114:(List Int)×(List ByteArray))=>bnd (atI q34.2.1 a117) fun a143=>if 0≤a143.op then (bnd (atI x0.ops a143.op) fun a156=>bnd (appI 8 s114.1 ([a143.op]:List Int)) fun u158=>bnd (appI 16 s114.2 [a156.name]) fun u160=>some (.next (u158,u160))) else (some (.next (s114.1,s114.2)))) q77.1.plan 0 (([]:List Int),([]:List ByteArray))) fun res112=>fin res112 fun (s269:(List Int)×(List ByteArray))=>bnd (CX s269.2 x1) fun q273=>some ((⟨q77.1.verdict,s269.1,q77.1.cost,q77.1.expanded⟩:Rsl),q273,(⟨0⟩:Err)))))
theorem HP {w:World} {A:Nat→Prop} (hA:∀ k,A k→k < w.heap.size) {vx0:Value} {x0:Tsk} (f4:Vb w A vx0 x0) {vx1:Value} {x1:List ByteArray} (v0:Vb w A vx1 x1) {x2:Int} (rx2:inI64 x2) {x3:Int} (rx3:inI64 x3) {r:Rsl×Int×Err} (hm:Ca x0 x1 x2 x3=some r) :
    Fn Tryz.prog 11 [vx0,vx1,(.int .i64 x2),(.int .i64 x3)] w fun v w'=>Ext w w'∧T3 w' (upA A w w') v r:=by
 obtain ⟨O,hB,c6⟩:=enter hA
 replace f4:=f4.mono c6
 obtain ⟨n9,rfl,v6,v7,v8,v9,rfl,h1,i1,j1,g1⟩:=f4
 obtain ⟨n3,o3,rfl⟩:=h1.form
 obtain ⟨p3,q3,rfl⟩:=i1.form
 obtain ⟨r3,s3,rfl⟩:=j1.form
 obtain ⟨t3,u3,rfl⟩:=g1.form
 replace v0:=v0.mono c6
 obtain ⟨v3,w3,rfl⟩:=v0.form
 refine AH Tryz.func11 rfl Tryz.ntmps11 rfl ?_
 unfold Ca at hm
 refine Al (Aj (Da 2 O rfl rfl fun g4 x6 d6 p1 f1=>?_))
 replace f1:Lc 2 x6 d6 g4 26 [(.slice n3 x0.vars.length o3),(.slice p3 x0.init.length q3),(.slice r3 x0.goal.length s3),(.slice t3 x0.ops.length u3)]:=f1
 refine BD 3 d6 rfl fun v1 o9 y6 l1 e0=>?_
 refine Au rfl rfl (Au rfl rfl (o_z ?_))
 refine Al (Aj ?_)
 replace f1:=f1.st l1
 refine Bk (hl:=rfl) (hc:=(f1.1).cellsAt) rfl rfl ?_
 refine Ar rfl rfl (Ar rfl rfl ?_)
 obtain ⟨k1,z6,hm⟩:=bs hm
 replace v0:=(v0.st p1).st l1
 replace h1:=(h1.st p1).st l1
 replace i1:=(i1.st p1).st l1
 replace j1:=(j1.st p1).st l1
 replace g1:=(g1.st p1).st l1
 refine Dl (O:=y6) (R:=fun w' F v=>T3 w' F v k1) (KB Fr.lt (Vb.ofAgg (cs:=[(.slice n3 x0.vars.length o3),(.slice p3 x0.init.length q3),(.slice r3 x0.goal.length s3),(.slice t3 x0.ops.length u3)]) (x:=x0) rfl ⟨_,_,_,_,rfl,h1,i1,j1,g1⟩) v0 rx2 z6) rfl rfl fun p9 q9 a7 c1 b7=>?_
 obtain ⟨r9,s9,t9,rfl,c7,m1,d7⟩:=b7
 obtain ⟨e7,rfl,u9,w9,x9,y9,rfl,y3,z3,a4,b4⟩:=c7
 obtain ⟨e6,f6,rfl⟩:=y3.form
 obtain ⟨g6,h6,rfl⟩:=z3.form
 obtain ⟨i6,j6,rfl⟩:=a4.form
 obtain ⟨k6,l6,rfl⟩:=b4.form
 obtain ⟨m6,n6,rfl⟩:=m1.form
 obtain ⟨rfl,f7⟩:=d7.err
 refine Ar rfl rfl (BH rfl rfl rfl (BH rfl rfl rfl (BH rfl rfl rfl (BD 4 a7 rfl fun g7 z9 c4 w0 m2=>?_))))
 refine AR m2 rfl rfl rfl (Ba rfl) (allOne rfl) fun h7 y0 m2=>?_
 replace m2:Lc 4 h7 c4 g7 26 [(.slice e6 k1.1.vars.length f6),(.slice g6 k1.1.init.length h6),(.slice i6 k1.1.goal.length j6),(.slice k6 k1.1.ops.length l6)]:=m2
 refine Au rfl rfl (Au rfl rfl (o_z ?_))
 refine Al (Al (Aj (Ar rfl rfl (ER rfl rfl (fun h4=>?_) fun h4=>?_))))
 ·
  replace hm:=ip hm h4
  refine o_z ?_
  refine Ah rfl (Al (Aj (Cw rfl rfl rfl ?_)))
  refine Ar rfl rfl ?_
  replace e0:=((e0.st c1).st w0).st y0
  refine AR e0 rfl rfl rfl (Ba rfl) (allOne rfl) fun o6 i7 e0=>?_
  replace e0:Lc 3 o6 c4 v1 32 [(.int .i64 0),(.slice none 0 0),(.int .i64 0),(.int .i64 0)]:=e0
  refine Au rfl rfl (Au rfl rfl (o_z ?_))
  refine AK ?_
  obtain rfl:=sm hm
  replace hB:=(((((hB.st p1).st l1).st c1).st w0).st y0).st i7
  exact ret3 rfl (BM (cs:=[(.int .i64 0),(.slice none 0 0),(.int .i64 0),(.int .i64 0)]) rfl rfl e0.1.cellsAt) (AB rfl) (AB rfl) ⟨hB.ext,_,_,_,rfl,(Vb.mono (F:=Fr 0 o6 c4) (Vb.ofAgg (cs:=[(.int .i64 0),(.slice none 0 0),(.int .i64 0),(.int .i64 0)]) (x:=(⟨0,([]:List Int),0,0⟩:Rsl)) rfl ⟨_,rfl,(Vb.nil _ _),(show inI64 0 from by decide),(show inI64 0 from by decide),(show inI64 0 from by decide)⟩) hB.out),(vInt (show inI64 (0) from by decide)),(vErr f7)⟩
 replace hm:=im hm h4
 refine o_z ?_
 refine Ae rfl (AO (Al (Aj (Bk (hl:=rfl) (hc:=(m2.1).cellsAt) rfl rfl ?_))))
 refine Ar rfl rfl ?_
 obtain ⟨c0,j7,hm⟩:=bs hm
 replace y3:=(y3.st w0).st y0
 replace z3:=(z3.st w0).st y0
 replace a4:=(a4.st w0).st y0
 replace b4:=(b4.st w0).st y0
 refine Dl (O:=c4) (R:=fun w' F v=>T2 w' F v c0) (Kf Fr.lt (Vb.ofAgg (cs:=[(.slice e6 k1.1.vars.length f6),(.slice g6 k1.1.init.length h6),(.slice i6 k1.1.goal.length j6),(.slice k6 k1.1.ops.length l6)]) (x:=k1.1) rfl ⟨_,_,_,_,rfl,y3,z3,a4,b4⟩) rx3 j7) rfl rfl fun aA bA k7 e1 l7=>?_
 obtain ⟨cA,dA,rfl,m7,n7⟩:=l7
 obtain ⟨o7,rfl,eA,rfl,b1,p6,q6,r6⟩:=m7
 obtain ⟨q1,r1,rfl⟩:=b1.form
 obtain ⟨rfl,p7⟩:=n7.err
 refine Ar rfl rfl (BH rfl rfl rfl (BH rfl rfl rfl (BD 5 k7 rfl fun k2 fA l2 g0 f0=>?_)))
 refine AR f0 rfl rfl rfl (Ba rfl) (allOne rfl) fun i4 h0 f0=>?_
 replace f0:Lc 5 i4 l2 k2 32 [(.int .i64 c0.1.verdict),(.slice q1 c0.1.plan.length r1),(.int .i64 c0.1.cost),(.int .i64 c0.1.expanded)]:=f0
 refine Au rfl rfl (o_z ?_)
 refine Al (Al (Aj (Ar rfl rfl (ER rfl rfl (fun y1=>?_) fun y1=>?_))))
 ·
  replace hm:=ip hm y1
  refine o_z ?_
  refine Ah rfl (Al (Aj (Cw rfl rfl rfl ?_)))
  refine Ar rfl rfl ?_
  replace e0:=(((((e0.st c1).st w0).st y0).st e1).st g0).st h0
  refine AR e0 rfl rfl rfl (Ba rfl) (allOne rfl) fun n2 j4 e0=>?_
  replace e0:Lc 3 n2 l2 v1 32 [(.int .i64 0),(.slice none 0 0),(.int .i64 0),(.int .i64 0)]:=e0
  refine Au rfl rfl (Au rfl rfl (o_z ?_))
  refine AK ?_
  obtain rfl:=sm hm
  replace hB:=((((((((hB.st p1).st l1).st c1).st w0).st y0).st e1).st g0).st h0).st j4
  exact ret3 rfl (BM (cs:=[(.int .i64 0),(.slice none 0 0),(.int .i64 0),(.int .i64 0)]) rfl rfl e0.1.cellsAt) (AB rfl) (AB rfl) ⟨hB.ext,_,_,_,rfl,(Vb.mono (F:=Fr 0 n2 l2) (Vb.ofAgg (cs:=[(.int .i64 0),(.slice none 0 0),(.int .i64 0),(.int .i64 0)]) (x:=(⟨0,([]:List Int),0,0⟩:Rsl)) rfl ⟨_,rfl,(Vb.nil _ _),(show inI64 0 from by decide),(show inI64 0 from by decide),(show inI64 0 from by decide)⟩) hB.out),(vInt (show inI64 (0) from by decide)),(vErr p7)⟩
 replace hm:=im hm y1
 refine o_z ?_
 refine Ae rfl (AO (Al (Al (Aj (AG rfl rfl (AE (hc:=Blk.cell (i:=0) (f0.1) rfl) rfl rfl ?_))))))
 refine Hb rfl rfl rfl (fun z1=>?_) fun z1=>?_
 ·
  replace hm:=ip hm z1
  refine o_z ?_
  refine Ah rfl (Al (Aj (Bk (hl:=rfl) (hc:=(f0.1).cellsAt) rfl rfl ?_)))
  replace e0:=(((((e0.st c1).st w0).st y0).st e1).st g0).st h0
  refine AR e0 rfl rfl rfl (Ba rfl) (allOne rfl) fun o2 p2 e0=>?_
  replace e0:Lc 3 o2 l2 v1 32 [(.int .i64 c0.1.verdict),(.slice q1 c0.1.plan.length r1),(.int .i64 c0.1.cost),(.int .i64 c0.1.expanded)]:=e0
  refine Au rfl rfl (Au rfl rfl (o_z ?_))
  refine AK ?_
  obtain rfl:=sm hm
  replace hB:=((((((((hB.st p1).st l1).st c1).st w0).st y0).st e1).st g0).st h0).st p2
  replace b1:=((b1.st g0).st h0).st p2
  exact ret3 rfl (BM (cs:=[(.int .i64 c0.1.verdict),(.slice q1 c0.1.plan.length r1),(.int .i64 c0.1.cost),(.int .i64 c0.1.expanded)]) rfl rfl e0.1.cellsAt) (AB rfl) (AB rfl) ⟨hB.ext,_,_,_,rfl,(Vb.mono (F:=Fr 0 o2 l2) (Vb.ofAgg (cs:=[(.int .i64 c0.1.verdict),(.slice q1 c0.1.plan.length r1),(.int .i64 c0.1.cost),(.int .i64 c0.1.expanded)]) (x:=c0.1) rfl ⟨_,rfl,b1,p6,q6,r6⟩) hB.out),(vInt (show inI64 (0) from by decide)),(vErr (show inI64 0 from by decide))⟩
 replace hm:=im hm z1
 refine o_z ?_
 refine Ae rfl (AO (Al (Aj (Au rfl rfl (o_z ?_)))))
 refine Al (Aj (Au rfl rfl (o_z ?_)))
 refine Al (Al (Aj (AG rfl rfl (AE (hc:=Blk.cell (i:=1) (f0.1) rfl) rfl rfl ?_))))
 refine AP rfl rfl ?_
 replace b1:=(b1.st g0).st h0
 have a2:c0.1.plan.length≤9223372036854775807:=Nat.le_trans b1.len.2.1 b1.len.2.2
 have q7:inI64 (c0.1.plan.length:Int):=rngNat a2
 refine Ar rfl rfl (o_z ?_)
 obtain ⟨b2,q2,hm⟩:=bs hm
 refine AL (aft b2 (fun (j0:(List Int)×(List ByteArray)) (d0:(Option Addr×Nat)×(Option Addr×Nat))=>[(1,(.slice v3 x1.length w3)),(8,(.pointer (some ⟨v1,0,none⟩))),(14,(.pointer (some ⟨k2,0,none⟩))),(15,(.slice d0.1.1 j0.1.length d0.1.2)),(16,(.slice d0.2.1 j0.2.length d0.2.2))]) (fun j0 d0 w'=>∃ O':Lab,Bs w A w' O'∧Vb w' (Fr 0 w' O') (.slice v3 x1.length w3) x1∧Lc 3 w' O' v1 32 [(.int .i64 0),(.slice none 0 0),(.int .i64 0),(.int .i64 0)]∧Lc 5 w' O' k2 32 [(.int .i64 c0.1.verdict),(.slice q1 c0.1.plan.length r1),(.int .i64 c0.1.cost),(.int .i64 c0.1.expanded)]∧Vb w' (Fr 0 w' O') (.slice q1 c0.1.plan.length r1) c0.1.plan∧Rw 7 w' O' 3 (.slice d0.1.1 j0.1.length d0.1.2) j0.1∧Rw 9 w' O' 9 (.slice d0.2.1 j0.2.length d0.2.2) j0.2)) ?_ ?_
 ·
  refine AN ?_
  replace hB:=(((((((hB.st p1).st l1).st c1).st w0).st y0).st e1).st g0).st h0
  replace v0:=(((((v0.st c1).st w0).st y0).st e1).st g0).st h0
  replace h1:=(((((h1.st c1).st w0).st y0).st e1).st g0).st h0
  replace i1:=(((((i1.st c1).st w0).st y0).st e1).st g0).st h0
  replace j1:=(((((j1.st c1).st w0).st y0).st e1).st g0).st h0
  replace g1:=(((((g1.st c1).st w0).st y0).st e1).st g0).st h0
  replace f1:=(((((f1.st c1).st w0).st y0).st e1).st g0).st h0
  replace e0:=(((((e0.st c1).st w0).st y0).st e1).st g0).st h0
  replace m1:=((((m1.st w0).st y0).st e1).st g0).st h0
  refine Bp (σ:=(List Int)×(List ByteArray)) (X:=(Option Addr×Nat)×(Option Addr×Nat)) (c0.1.plan.length) q2 rfl a2 (fun (j0:(List Int)×(List ByteArray)) (d0:(Option Addr×Nat)×(Option Addr×Nat))=>[(1,(.slice v3 x1.length w3)),(4,(.pointer (some ⟨g4,0,none⟩))),(8,(.pointer (some ⟨v1,0,none⟩))),(12,(.slice m6 k1.2.1.length n6)),(14,(.pointer (some ⟨k2,0,none⟩))),(15,(.slice d0.1.1 j0.1.length d0.1.2)),(16,(.slice d0.2.1 j0.2.length d0.2.2)),(47,(.slice q1 c0.1.plan.length r1))]) _ (fun j0 d0 w'=>∃ O':Lab,Bs w A w' O'∧Vb w' (Fr 0 w' O') (.slice v3 x1.length w3) x1∧Lc 2 w' O' g4 26 [(.slice n3 x0.vars.length o3),(.slice p3 x0.init.length q3),(.slice r3 x0.goal.length s3),(.slice t3 x0.ops.length u3)]∧Vb w' (Fr 0 w' O') (.slice n3 x0.vars.length o3) x0.vars∧Vb w' (Fr 0 w' O') (.slice p3 x0.init.length q3) x0.init∧Vb w' (Fr 0 w' O') (.slice r3 x0.goal.length s3) x0.goal∧Vb w' (Fr 0 w' O') (.slice t3 x0.ops.length u3) x0.ops∧Lc 3 w' O' v1 32 [(.int .i64 0),(.slice none 0 0),(.int .i64 0),(.int .i64 0)]∧Vb w' (Fr 0 w' O') (.slice m6 k1.2.1.length n6) k1.2.1∧Lc 5 w' O' k2 32 [(.int .i64 c0.1.verdict),(.slice q1 c0.1.plan.length r1),(.int .i64 c0.1.cost),(.int .i64 c0.1.expanded)]∧Vb w' (Fr 0 w' O') (.slice q1 c0.1.plan.length r1) c0.1.plan∧Rw 7 w' O' 3 (.slice d0.1.1 j0.1.length d0.1.2) j0.1∧Rw 9 w' O' 9 (.slice d0.2.1 j0.2.length d0.2.2) j0.2) _ ((none,0),(none,0)) ⟨l2,hB,v0,f1,h1,i1,j1,g1,e0,m1,f0,b1,(Rw.nil 7 (by decide)),(Rw.nil 9 (by decide))⟩ ⟨rfl,rfl,rfl,rfl,rfl,rfl,rfl,rfl,rfl,rfl,trivial⟩ (fun _ _=>⟨rfl,rfl⟩) (fun _ _=>⟨rfl,rfl,rfl,rfl,rfl,trivial⟩) (fun _ _ _ ⟨O',hB,v0,f1,h1,i1,j1,g1,e0,m1,f0,b1,i0,k0⟩=>⟨O',hB,v0,e0,f0,b1,i0,k0⟩) ⟨rfl,rfl,rfl⟩ ⟨rfl,rfl⟩ ?_
  rintro k4 r7 j0 d0 s7 s6 w1 ⟨c2,hB,v0,f1,h1,i1,j1,g1,e0,m1,f0,b1,i0,k0⟩ b0 d4 e4
  have rk116:inI64 (k4:Int):=rngK w1 a2
  refine Al (Aj ?_)
  obtain ⟨t7,u7,t6,r2,s2,t2,rfl,w7⟩:=b1.elem' w1
  refine Bi (hA:=r2) (hj:=rfl) (hlt:=s2) rfl rfl rfl ?_
  refine AE (hc:=cat0 t2) rfl rfl ?_
  refine Au rfl rfl (o_z ?_)
  refine Al (Aj (Ar rfl rfl (Ar rfl rfl ?_)))
  obtain ⟨u2,l4,b0⟩:=bs b0
  obtain ⟨m4,n4⟩:=AS l4
  obtain ⟨x7,y7,u6,v2,w2,y2,rfl,z2⟩:=m1.elem' n4
  refine Bi (hA:=v2) (hj:=(Int.toNat_of_nonneg m4).symm) (hlt:=w2) rfl rfl rfl ?_
  refine AG rfl rfl (AE (hc:=cat0 y2) rfl rfl ?_)
  refine Au rfl rfl (o_z ?_)
  refine Al (Aj (Ar rfl rfl (Ha rfl rfl rfl (fun d2=>?_) fun d2=>?_)))
  ·
   replace b0:=ip b0 d2
   refine o_z ?_
   refine Ah rfl ?_
   obtain ⟨e2,o4,b0⟩:=bs b0
   obtain ⟨z7,z0,b0⟩:=bs b0
   obtain ⟨a8,a1,b0⟩:=bs b0
   refine BC [(3,[7]),(12,[9])] c2 ?_
   refine AY (fuel:=13) [] [(0,true),(1,true)] (by kernel_rfl) rfl ?_
   refine AJ rfl rfl rfl (AJ rfl rfl rfl (AM ?_))
   refine AY (fuel:=6) [7] [(4,true),(5,true),(6,true),(7,true),(8,true),(9,true),(10,true)] (by kernel_rfl) rfl ?_
   refine AJ rfl rfl rfl (Bc rfl rfl rfl (AZ (hc:=fun w' ⟨O',hq⟩=>Blk.cell (i:=3) ((f1.st hq (by decide)).1) rfl) rfl rfl rfl ?_))
   refine AJ rfl rfl rfl ?_
   obtain ⟨p4,q4⟩:=AS o4
   obtain ⟨b8,c8,w6,a3,b3,c3,d3,d8,e8,rfl,r4,s4,f8,f2⟩:=g1.elem q4
   obtain ⟨g8,h8,rfl⟩:=r4.form
   obtain ⟨i8,j8,rfl⟩:=s4.form
   refine BP (hA:=a3) (hj:=(Int.toNat_of_nonneg p4).symm) (hlt:=c3) rfl rfl rfl rfl ?_
   refine Bc rfl rfl rfl (AZ (hc:=fun w' ⟨O',hq⟩=>cat0 (Bh (hq.agree (i:=0) (by decide)) b3 d3)) rfl rfl rfl ?_)
   refine AM ?_
   refine Lb (i:=2) (j:=11) (by kernel_rfl) rfl rfl ?_ ?_
   ·
    refine Bv 6 (by decide) c2 (xs:=(([u2.op]:List Int):List Int)) rfl rfl rfl rfl ⟨(vInt z2),trivial⟩ (by decide) (by decide) rfl fun k8 l8 t4 a0 s1=>?_
    have hZ:=a0.lst [] (fun _ h=>h.elim)
    refine BG [(3,[7]),(12,[9])] hZ (by kernel_rfl) ?_
    refine Lb (i:=3) (j:=11) (by kernel_rfl) rfl rfl ?_ ?_
    ·
     obtain ⟨z0,u4,v4⟩:=AU z0
     replace i0:=i0.st a0
     refine Bw rfl i0 (s1.rd) rfl rfl (by decide) u4 v4 rfl fun w4 x4 m8 y4 r0 e3=>?_
     rw [← z0] at e3 ⊢
     have hZ:=r0.lst [7] (fun _ h=>by cases h;decide)
     refine BG [(12,[9])] hZ (by kernel_rfl) ?_
     refine Bb (i:=11) (by kernel_rfl) rfl ?_
     refine Bv 8 (by decide) y4 (xs:=([e2.name]:List ByteArray)) rfl rfl rfl rfl ⟨(vStr f2),trivial⟩ (by decide) (by decide) rfl fun n8 o8 p8 n0 z4=>?_
     have hZ:=n0.lst [] (fun _ h=>h.elim)
     refine BG [(12,[9])] hZ (by kernel_rfl) ?_
     refine Bb (i:=12) (by kernel_rfl) rfl ?_
     obtain ⟨a1,a5,b5⟩:=AU a1
     replace k0:=((k0.st a0).st r0).st n0
     refine Bw rfl k0 (z4.rd) rfl rfl (by decide) a5 b5 rfl fun c5 d5 q8 r8 s0 f3=>?_
     rw [← a1] at f3 ⊢
     have hZ:=s0.lst [9] (fun _ h=>by cases h;decide)
     refine BG [] hZ (by kernel_rfl) ?_
     refine AY (fuel:=0) [] [(13,true),(14,true)] (by kernel_rfl) rfl ?_
     refine De rfl rfl rfl (De rfl rfl rfl (AM ?_))
     refine Cn (by kernel_rfl) ?_
     obtain rfl:=sm b0
     exact show Exists _ from ⟨_,((w4,x4),(c5,d5)),rfl,⟨rfl,rfl,rfl,rfl,rfl,rfl,rfl,rfl,rfl,rfl,trivial⟩,_,(((hB.st a0).st r0).st n0).st s0,(((v0.st a0).st r0).st n0).st s0,(((f1.st a0).st r0).st n0).st s0,(((h1.st a0).st r0).st n0).st s0,(((i1.st a0).st r0).st n0).st s0,(((j1.st a0).st r0).st n0).st s0,(((g1.st a0).st r0).st n0).st s0,(((e0.st a0).st r0).st n0).st s0,(((m1.st a0).st r0).st n0).st s0,(((f0.st a0).st r0).st n0).st s0,(((b1.st a0).st r0).st n0).st s0,(e3.st n0).st s0,f3⟩
    refine Bv 8 (by decide) t4 (xs:=([e2.name]:List ByteArray)) rfl rfl rfl rfl ⟨(vStr f2),trivial⟩ (by decide) (by decide) rfl fun s8 t8 u8 l0 g2=>?_
    have hZ:=l0.lst [] (fun _ h=>h.elim)
    refine BG [(3,[7]),(12,[9])] hZ (by kernel_rfl) ?_
    refine Bb (i:=3) (by kernel_rfl) rfl ?_
    obtain ⟨z0,e5,f5⟩:=AU z0
    replace i0:=(i0.st a0).st l0
    replace s1:=s1.st l0
    refine Bw rfl i0 (s1.rd) rfl rfl (by decide) e5 f5 rfl fun g5 h5 w8 x8 o0 g3=>?_
    rw [← z0] at g3 ⊢
    have hZ:=o0.lst [7] (fun _ h=>by cases h;decide)
    refine BG [(12,[9])] hZ (by kernel_rfl) ?_
    refine Bb (i:=12) (by kernel_rfl) rfl ?_
    obtain ⟨a1,i5,j5⟩:=AU a1
    replace k0:=((k0.st a0).st l0).st o0
    replace g2:=g2.st o0
    refine Bw rfl k0 (g2.rd) rfl rfl (by decide) i5 j5 rfl fun k5 l5 y8 z8 t0 h3=>?_
    rw [← a1] at h3 ⊢
    have hZ:=t0.lst [9] (fun _ h=>by cases h;decide)
    refine BG [] hZ (by kernel_rfl) ?_
    refine AY (fuel:=0) [] [(13,true),(14,true)] (by kernel_rfl) rfl ?_
    refine De rfl rfl rfl (De rfl rfl rfl (AM ?_))
    refine Cn (by kernel_rfl) ?_
    obtain rfl:=sm b0
    exact show Exists _ from ⟨_,((g5,h5),(k5,l5)),rfl,⟨rfl,rfl,rfl,rfl,rfl,rfl,rfl,rfl,rfl,rfl,trivial⟩,_,(((hB.st a0).st l0).st o0).st t0,(((v0.st a0).st l0).st o0).st t0,(((f1.st a0).st l0).st o0).st t0,(((h1.st a0).st l0).st o0).st t0,(((i1.st a0).st l0).st o0).st t0,(((j1.st a0).st l0).st o0).st t0,(((g1.st a0).st l0).st o0).st t0,(((e0.st a0).st l0).st o0).st t0,(((m1.st a0).st l0).st o0).st t0,(((f0.st a0).st l0).st o0).st t0,(((b1.st a0).st l0).st o0).st t0,g3.st t0,h3⟩
   refine Bv 8 (by decide) c2 (xs:=([e2.name]:List ByteArray)) rfl rfl rfl rfl ⟨(vStr f2),trivial⟩ (by decide) (by decide) rfl fun a9 b9 m5 p0 h2=>?_
   have hZ:=p0.lst [] (fun _ h=>h.elim)
   refine BG [(3,[7]),(12,[9])] hZ (by kernel_rfl) ?_
   refine Bb (i:=2) (by kernel_rfl) rfl ?_
   refine Bv 6 (by decide) m5 (xs:=(([u2.op]:List Int):List Int)) rfl rfl rfl rfl ⟨(vInt z2),trivial⟩ (by decide) (by decide) rfl fun c9 d9 e9 m0 n5=>?_
   have hZ:=m0.lst [] (fun _ h=>h.elim)
   refine BG [(3,[7]),(12,[9])] hZ (by kernel_rfl) ?_
   refine Bb (i:=3) (by kernel_rfl) rfl ?_
   obtain ⟨z0,o5,p5⟩:=AU z0
   replace i0:=(i0.st p0).st m0
   refine Bw rfl i0 (n5.rd) rfl rfl (by decide) o5 p5 rfl fun q5 r5 f9 g9 q0 i3=>?_
   rw [← z0] at i3 ⊢
   have hZ:=q0.lst [7] (fun _ h=>by cases h;decide)
   refine BG [(12,[9])] hZ (by kernel_rfl) ?_
   refine Bb (i:=12) (by kernel_rfl) rfl ?_
   obtain ⟨a1,s5,t5⟩:=AU a1
   replace k0:=((k0.st p0).st m0).st q0
   replace h2:=(h2.st m0).st q0
   refine Bw rfl k0 (h2.rd) rfl rfl (by decide) s5 t5 rfl fun u5 v5 h9 i9 u0 j3=>?_
   rw [← a1] at j3 ⊢
   have hZ:=u0.lst [9] (fun _ h=>by cases h;decide)
   refine BG [] hZ (by kernel_rfl) ?_
   refine AY (fuel:=0) [] [(13,true),(14,true)] (by kernel_rfl) rfl ?_
   refine De rfl rfl rfl (De rfl rfl rfl (AM ?_))
   refine Cn (by kernel_rfl) ?_
   obtain rfl:=sm b0
   exact show Exists _ from ⟨_,((q5,r5),(u5,v5)),rfl,⟨rfl,rfl,rfl,rfl,rfl,rfl,rfl,rfl,rfl,rfl,trivial⟩,_,(((hB.st p0).st m0).st q0).st u0,(((v0.st p0).st m0).st q0).st u0,(((f1.st p0).st m0).st q0).st u0,(((h1.st p0).st m0).st q0).st u0,(((i1.st p0).st m0).st q0).st u0,(((j1.st p0).st m0).st q0).st u0,(((g1.st p0).st m0).st q0).st u0,(((e0.st p0).st m0).st q0).st u0,(((m1.st p0).st m0).st q0).st u0,(((f0.st p0).st m0).st q0).st u0,(((b1.st p0).st m0).st q0).st u0,i3.st u0,j3⟩
  replace b0:=im b0 d2
  refine o_z ?_
  refine Ae rfl (AO ?_)
  obtain rfl:=sm b0
  exact show Exists _ from ⟨_,((d0.1.1,d0.1.2),(d0.2.1,d0.2.2)),rfl,⟨rfl,rfl,rfl,rfl,rfl,rfl,rfl,rfl,rfl,rfl,trivial⟩,_,hB,v0,f1,h1,i1,j1,g1,e0,m1,f0,b1,i0,k0⟩
 replace hB:=(((((((hB.st p1).st l1).st c1).st w0).st y0).st e1).st g0).st h0
 replace v0:=(((((v0.st c1).st w0).st y0).st e1).st g0).st h0
 replace e0:=(((((e0.st c1).st w0).st y0).st e1).st g0).st h0
 rintro j9 k9 ⟨n1,d1,rfl,k3,t1,hB,v0,e0,f0,b1,i0,k0⟩
 replace hm:=AV hm
 refine AQ _ k3 ?_
 refine Al (Aj (Ar rfl rfl (AG rfl rfl (AR f0 rfl rfl rfl (Ba rfl) (allOne rfl) fun i2 o1 f0=>?_))))
 replace f0:Lc 5 i2 t1 k2 32 [(.int .i64 c0.1.verdict),(.slice d1.1.1 n1.1.length d1.1.2),(.int .i64 c0.1.cost),(.int .i64 c0.1.expanded)]:=f0
 refine o_z ?_
 refine Al (BC [(4,[3])] t1 ?_)
 refine AY (fuel:=4) [] [(0,true),(1,true),(2,true)] (by kernel_rfl) rfl ?_
 refine Hd (hl:=rfl) (hb:=fun w' ⟨O',hq⟩=>((f0.st hq (by decide)).1).cellsAt) rfl rfl rfl ?_
 refine AJ rfl rfl rfl (AJ rfl rfl rfl (AM ?_))
 refine Bb (i:=3) (by kernel_rfl) rfl ?_
 obtain ⟨w5,x5,hm⟩:=bs hm
 replace v0:=v0.st o1
 replace k0:=k0.st o1
 refine BE (O:=t1) (A:=All i2) (R:=fun w' F v=>Vb w' F v w5) (Kg (fun _ h=>h) (k0).all (Vb.mono (F:=Fr 0 i2 t1) v0 Fr.lt) x5) rfl rfl fun l9 m9 y5 u1 z5=>?_
 obtain ⟨rfl,a6⟩:=z5.int
 have hZ:=u1.lst [] (fun _ h=>h.elim)
 refine BG [(4,[3])] hZ (by kernel_rfl) ?_
 refine Bb (i:=4) (by kernel_rfl) rfl ?_
 replace e0:=(e0.st o1).st u1
 refine AR e0 rfl rfl rfl (Ba rfl) (allOne rfl) fun l3 j2 e0=>?_
 replace e0:Lc 3 l3 y5 v1 32 [(.int .i64 c0.1.verdict),(.slice d1.1.1 n1.1.length d1.1.2),(.int .i64 c0.1.cost),(.int .i64 c0.1.expanded)]:=e0
 have hZ:=j2.lst [3] (fun _ h=>by cases h;decide)
 refine BG [] hZ (by kernel_rfl) ?_
 refine AY (fuel:=0) [] [(5,true),(6,true)] (by kernel_rfl) rfl ?_
 refine De rfl rfl rfl (De rfl rfl rfl (AM ?_))
 refine Cn (by kernel_rfl) ?_
 refine AK ?_
 replace i0:=((i0.st o1).st u1).st j2
 obtain ⟨b6,m3,i0⟩:=i0.freeze
 obtain rfl:=sm hm
 replace hB:=(((hB.st o1).st u1).st j2).st m3
 replace e0:=e0.st m3
 exact ret3 rfl (BM (cs:=[(.int .i64 c0.1.verdict),(.slice d1.1.1 n1.1.length d1.1.2),(.int .i64 c0.1.cost),(.int .i64 c0.1.expanded)]) rfl rfl e0.1.cellsAt) (AB rfl) (AB rfl) ⟨hB.ext,_,_,_,rfl,(Vb.mono (F:=Fr 0 l3 b6) (Vb.ofAgg (cs:=[(.int .i64 c0.1.verdict),(.slice d1.1.1 n1.1.length d1.1.2),(.int .i64 c0.1.cost),(.int .i64 c0.1.expanded)]) (x:=(⟨c0.1.verdict,n1.1,c0.1.cost,c0.1.expanded⟩:Rsl)) rfl ⟨_,rfl,i0,p6,q6,r6⟩) hB.out),(vInt a6),(vErr (show inI64 0 from by decide))⟩
noncomputable def Et (x0:Opr) (x1:Int) (x2:Int):Option Opr :=
  bnd (chkI (x2 + 1)) fun n25=>bnd (appI 16 ([]:List Fct) x0.pre) fun u41=>bnd (appI 16 u41 ([(⟨x1,x2⟩:Fct)]:List Fct)) fun u61=>bnd (appI 40 ([]:List Eff) x0.effs) fun u81=>bnd (appI 40 u81 ([(⟨([]:List Fct),x1,n25⟩:Eff)]:List Eff)) fun u101=>some (⟨x0.name,x0.cost,u61,u101⟩:Opr)
theorem IY {w:World} {A:Nat→Prop} (hA:∀ k,A k→k < w.heap.size) {vx0:Value} {x0:Opr} (j1:Vb w A vx0 x0) {x1:Int} (rx1:inI64 x1) {x2:Int} (rx2:inI64 x2) {r:Opr} (hm:Et x0 x1 x2=some r) :
    Fn Tryz.prog 33 [vx0,(.int .i64 x1),(.int .i64 x2)] w fun v w'=>Ext w w'∧Vb w' (upA A w w') v r:=by
 obtain ⟨O,hB,i2⟩:=enter hA
 replace j1:=j1.mono i2
 obtain ⟨l3,rfl,v5,v6,rfl,h7,y0,j2,k2⟩:=j1
 obtain ⟨A8,c9,rfl⟩:=h7.form
 obtain ⟨o0,p0,rfl⟩:=y0.form
 refine AH Tryz.func33 rfl Tryz.ntmps33 rfl ?_
 unfold Et at hm
 refine Al (Aj (Da 2 O rfl rfl fun l2 m2 z1 k1 k0=>?_))
 replace k0:Lc 2 m2 z1 l2 67 [(.string x0.name),(.int .i64 x0.cost),(.slice A8 x0.pre.length c9),(.slice o0 x0.effs.length p0)]:=k0
 refine BD 3 z1 rfl fun d0 m3 n2 z0 e0=>?_
 refine o_z ?_
 refine Al (BC [(7,[4]),(12,[4]),(16,[6]),(22,[6])] n2 ?_)
 refine AY (fuel:=23) [] [(5,true),(6,true)] (by kernel_rfl) rfl ?_
 refine Bc rfl rfl rfl ?_
 replace k0:=k0.st z0
 refine AZ (hc:=fun w' ⟨O',hq⟩=>Blk.cell (i:=2) ((k0.st hq (by decide)).1) rfl) rfl rfl rfl ?_
 refine AM ?_
 refine AY (fuel:=18) [4] [(8,true),(9,true),(10,true),(14,true),(15,true)] (by kernel_rfl) rfl ?_
 refine AJ rfl rfl rfl (AJ rfl rfl rfl (Gi rfl rfl rfl rfl ?_))
 refine Bc rfl rfl rfl (AZ (hc:=fun w' ⟨O',hq⟩=>Blk.cell (i:=3) ((k0.st hq (by decide)).1) rfl) rfl rfl rfl ?_)
 refine AM ?_
 refine AY (fuel:=10) [4,6] [(0,true),(1,true),(2,true),(3,true),(17,true),(18,true),(19,true),(20,true)] (by kernel_rfl) rfl ?_
 refine Bc rfl rfl rfl (AZ (hc:=fun w' ⟨O',hq⟩=>Blk.cell (i:=0) ((k0.st hq (by decide)).1) rfl) rfl rfl rfl ?_)
 refine Bc rfl rfl rfl (AZ (hc:=fun w' ⟨O',hq⟩=>Blk.cell (i:=1) ((k0.st hq (by decide)).1) rfl) rfl rfl rfl ?_)
 refine AJ rfl rfl rfl (AJ rfl rfl rfl ?_)
 obtain ⟨a0,a2,hm⟩:=bs hm
 have o2:=(AW a2)
 refine Ey (he:=a2) rfl rfl rfl rfl ?_
 refine Gi rfl rfl rfl rfl ?_
 refine AM ?_
 refine ES (z:=(zRow (α:=Fct) 4 11 4 62 0 ([]:List Fct))) [] (DC (by decide) rfl rfl rfl rfl rfl (fun _ _=>trivial) (by decide) (by decide) rfl) fun l1=>?_
 refine ES (z:=(zRow (α:=Fct) 11 18 5 62 1 ([(⟨x1,x2⟩:Fct)]:List Fct))) [(17,(.agg #[(.int .i64 x1),(.int .i64 x2)]))] (DC (by decide) rfl rfl rfl rfl rfl (fun _ _=>⟨(Vb.ofAgg (cs:=[(.int .i64 x1),(.int .i64 x2)]) (x:=(⟨x1,x2⟩:Fct)) rfl ⟨rfl,rx1,rx2⟩),trivial⟩) (by decide) (by decide) rfl) fun v0=>?_
 refine ES (z:=(zRow (α:=Eff) 13 20 6 64 0 ([]:List Eff))) [] (DC (by decide) rfl rfl rfl rfl rfl (fun _ _=>trivial) (by decide) (by decide) rfl) fun q0=>?_
 refine ES (z:=(zRow (α:=Eff) 21 28 7 64 1 ([(⟨([]:List Fct),x1,a0⟩:Eff)]:List Eff))) [(27,(.agg #[(.slice none 0 0),(.int .i64 x1),(.int .i64 a0)]))] (DC (by decide) rfl rfl rfl rfl rfl (fun _ _=>⟨(Vb.ofAgg (cs:=[(.slice none 0 0),(.int .i64 x1),(.int .i64 a0)]) (x:=(⟨([]:List Fct),x1,a0⟩:Eff)) rfl ⟨_,rfl,(Vb.nil _ _),rx1,o2⟩),trivial⟩) (by decide) (by decide) rfl) fun f0=>?_
 refine LC (zs:=[(zRow (α:=Fct) 4 11 4 62 0 ([]:List Fct)),(zRow (α:=Fct) 11 18 5 62 1 ([(⟨x1,x2⟩:Fct)]:List Fct)),(zRow (α:=Eff) 13 20 6 64 0 ([]:List Eff)),(zRow (α:=Eff) 21 28 7 64 1 ([(⟨([]:List Fct),x1,a0⟩:Eff)]:List Eff))]) (fuel:=6) [(6,(.pointer (some ⟨d0,0,none⟩))),(8,(.string x0.name)),(10,(.int .i64 x0.cost)),(13,(.slice A8 x0.pre.length c9)),(17,(.agg #[(.int .i64 x1),(.int .i64 x2)])),(22,(.slice o0 x0.effs.length p0)),(27,(.agg #[(.slice none 0 0),(.int .i64 x1),(.int .i64 a0)]))] ⟨rfl,rfl,rfl,rfl,rfl,rfl,rfl,trivial⟩ rfl (by kernel_rfl) ?_
 refine Dr (m:=7) (by kernel_rfl) rfl (by kernel_rfl) (by kernel_rfl) ⟨⟨_,l1,trivial⟩,⟨_,v0,⟨rfl,trivial⟩⟩,⟨_,q0,trivial⟩,⟨_,f0,⟨rfl,trivial⟩⟩,trivial⟩ fun m1 n3 o3 a1 n1=>?_
 obtain ⟨p2,q2,r2⟩:=n1.1 (by kernel_rfl)
 refine Ds [(6,(.pointer (some ⟨d0,0,none⟩))),(8,(.string x0.name)),(10,(.int .i64 x0.cost)),(11,(.slice (some ⟨p2,0,none⟩) ([]:List Fct).length 0)),(13,(.slice A8 x0.pre.length c9)),(17,(.agg #[(.int .i64 x1),(.int .i64 x2)])),(18,(m1 18)),(20,(m1 20)),(22,(.slice o0 x0.effs.length p0)),(27,(.agg #[(.slice none 0 0),(.int .i64 x1),(.int .i64 a0)])),(28,(m1 28))] ⟨rfl,rfl,rfl,(congrArg some q2),rfl,rfl,rfl,rfl,rfl,rfl,rfl,trivial⟩ ?_
 obtain ⟨b2,o1,hm⟩:=bs hm
 obtain ⟨o1,s2,t2⟩:=AU o1
 replace h7:=((h7.st k1).st z0).st a1
 refine Bw rfl r2 (h7.rd) rfl rfl (by decide) s2 t2 rfl fun c2 d2 p3 q3 b1 c1=>?_
 rw [← o1] at c1 ⊢
 have hZ:=b1.lst [4] (fun _ h=>by cases h;decide)
 refine FE (zs':=[(zRow (α:=Fct) 11 18 5 62 1 ([(⟨x1,x2⟩:Fct)]:List Fct)),(zRow (α:=Eff) 13 20 6 64 0 ([]:List Eff)),(zRow (α:=Eff) 21 28 7 64 1 ([(⟨([]:List Fct),x1,a0⟩:Eff)]:List Eff))]) [(12,[4]),(16,[6]),(22,[6])] [(6,(.pointer (some ⟨d0,0,none⟩))),(8,(.string x0.name)),(10,(.int .i64 x0.cost)),(14,(.slice c2 b2.length d2)),(17,(.agg #[(.int .i64 x1),(.int .i64 x2)])),(22,(.slice o0 x0.effs.length p0)),(27,(.agg #[(.slice none 0 0),(.int .i64 x1),(.int .i64 a0)]))] (by kernel_rfl) hZ (by kernel_rfl) ⟨rfl,rfl,rfl,trivial⟩ ⟨rfl,rfl,rfl,rfl,rfl,rfl,rfl,trivial⟩ ?_
 refine Dr (m:=12) (by kernel_rfl) rfl (by kernel_rfl) (by kernel_rfl) ⟨⟨_,v0,⟨rfl,trivial⟩⟩,⟨_,q0,trivial⟩,⟨_,f0,⟨rfl,trivial⟩⟩,trivial⟩ fun e2 r3 s3 d1 p1=>?_
 obtain ⟨u2,v2,w2⟩:=p1.1 (by kernel_rfl)
 refine Ds [(6,(.pointer (some ⟨d0,0,none⟩))),(8,(.string x0.name)),(10,(.int .i64 x0.cost)),(14,(.slice c2 b2.length d2)),(17,(.agg #[(.int .i64 x1),(.int .i64 x2)])),(18,(.slice (some ⟨u2,0,none⟩) ([(⟨x1,x2⟩:Fct)]:List Fct).length 1)),(20,(e2 20)),(22,(.slice o0 x0.effs.length p0)),(27,(.agg #[(.slice none 0 0),(.int .i64 x1),(.int .i64 a0)])),(28,(e2 28))] ⟨rfl,rfl,rfl,rfl,rfl,(congrArg some v2),rfl,rfl,rfl,rfl,trivial⟩ ?_
 obtain ⟨g0,q1,hm⟩:=bs hm
 obtain ⟨q1,y2,z2⟩:=AU q1
 replace c1:=c1.st d1
 refine Bw rfl c1 (w2.rd) rfl rfl (by decide) y2 z2 rfl fun l0 m0 t3 u3 e1 n0=>?_
 rw [← q1] at n0 ⊢
 have hZ:=e1.lst [4] (fun _ h=>by cases h;decide)
 refine FE (zs':=[(zRow (α:=Eff) 13 20 6 64 0 ([]:List Eff)),(zRow (α:=Eff) 21 28 7 64 1 ([(⟨([]:List Fct),x1,a0⟩:Eff)]:List Eff))]) [(16,[6]),(22,[6])] [(6,(.pointer (some ⟨d0,0,none⟩))),(8,(.string x0.name)),(10,(.int .i64 x0.cost)),(19,(.slice l0 g0.length m0)),(22,(.slice o0 x0.effs.length p0)),(27,(.agg #[(.slice none 0 0),(.int .i64 x1),(.int .i64 a0)]))] (by kernel_rfl) hZ (by kernel_rfl) ⟨rfl,rfl,trivial⟩ ⟨rfl,rfl,rfl,rfl,rfl,rfl,trivial⟩ ?_
 refine Dr (m:=16) (by kernel_rfl) rfl (by kernel_rfl) (by kernel_rfl) ⟨⟨_,q0,trivial⟩,⟨_,f0,⟨rfl,trivial⟩⟩,trivial⟩ fun a3 v3 w3 f1 r1=>?_
 obtain ⟨b3,c3,d3⟩:=r1.1 (by kernel_rfl)
 refine Ds [(6,(.pointer (some ⟨d0,0,none⟩))),(8,(.string x0.name)),(10,(.int .i64 x0.cost)),(19,(.slice l0 g0.length m0)),(20,(.slice (some ⟨b3,0,none⟩) ([]:List Eff).length 0)),(22,(.slice o0 x0.effs.length p0)),(27,(.agg #[(.slice none 0 0),(.int .i64 x1),(.int .i64 a0)])),(28,(a3 28))] ⟨rfl,rfl,rfl,rfl,(congrArg some c3),rfl,rfl,rfl,trivial⟩ ?_
 obtain ⟨f2,s1,hm⟩:=bs hm
 obtain ⟨s1,e3,f3⟩:=AU s1
 replace y0:=((((((y0.st k1).st z0).st a1).st b1).st d1).st e1).st f1
 refine Bw rfl d3 (y0.rd) rfl rfl (by decide) e3 f3 rfl fun g2 h2 x3 y3 g1 h1=>?_
 rw [← s1] at h1 ⊢
 have hZ:=g1.lst [6] (fun _ h=>by cases h;decide)
 refine FE (zs':=[(zRow (α:=Eff) 21 28 7 64 1 ([(⟨([]:List Fct),x1,a0⟩:Eff)]:List Eff))]) [(22,[6])] [(6,(.pointer (some ⟨d0,0,none⟩))),(8,(.string x0.name)),(10,(.int .i64 x0.cost)),(19,(.slice l0 g0.length m0)),(23,(.slice g2 f2.length h2)),(27,(.agg #[(.slice none 0 0),(.int .i64 x1),(.int .i64 a0)]))] (by kernel_rfl) hZ (by kernel_rfl) ⟨rfl,trivial⟩ ⟨rfl,rfl,rfl,rfl,rfl,rfl,trivial⟩ ?_
 refine Dr (m:=22) (by kernel_rfl) rfl (by kernel_rfl) (by kernel_rfl) ⟨⟨_,f0,⟨rfl,trivial⟩⟩,trivial⟩ fun z3 a4 b4 i1 t1=>?_
 obtain ⟨g3,h3,i3⟩:=t1.1 (by kernel_rfl)
 refine Ds [(6,(.pointer (some ⟨d0,0,none⟩))),(8,(.string x0.name)),(10,(.int .i64 x0.cost)),(19,(.slice l0 g0.length m0)),(23,(.slice g2 f2.length h2)),(27,(.agg #[(.slice none 0 0),(.int .i64 x1),(.int .i64 a0)])),(28,(.slice (some ⟨g3,0,none⟩) ([(⟨([]:List Fct),x1,a0⟩:Eff)]:List Eff).length 1))] ⟨rfl,rfl,rfl,rfl,rfl,rfl,(congrArg some h3),trivial⟩ ?_
 obtain ⟨c0,r0,hm⟩:=bs hm
 obtain ⟨r0,u1,v1⟩:=AU r0
 replace h1:=h1.st i1
 refine Bw rfl h1 (i3.rd) rfl rfl (by decide) u1 v1 rfl fun h0 i0 j3 w1 j0 b0=>?_
 rw [← r0] at b0 ⊢
 have hZ:=j0.lst [6] (fun _ h=>by cases h;decide)
 refine FE (zs':=[]) [] [(6,(.pointer (some ⟨d0,0,none⟩))),(8,(.string x0.name)),(10,(.int .i64 x0.cost)),(19,(.slice l0 g0.length m0)),(29,(.slice h0 c0.length i0))] (by kernel_rfl) hZ (by kernel_rfl) trivial ⟨rfl,rfl,rfl,rfl,rfl,trivial⟩ ?_
 refine Jt ?_
 refine AY (fuel:=1) [] [(23,true)] (by kernel_rfl) rfl ?_
 refine Gi rfl rfl rfl rfl ?_
 refine AM ?_
 refine Bb (i:=24) (by kernel_rfl) rfl ?_
 replace e0:=(((((((e0.st a1).st b1).st d1).st e1).st f1).st g1).st i1).st j0
 refine AR e0 rfl rfl rfl (Ba rfl) (allOne rfl) fun w0 s0 e0=>?_
 replace e0:Lc 3 w0 w1 d0 67 [(.string x0.name),(.int .i64 x0.cost),(.slice l0 g0.length m0),(.slice h0 c0.length i0)]:=e0
 refine Dm (by kernel_rfl) ?_
 refine Cn (by kernel_rfl) ?_
 refine AK ?_
 replace n0:=((((n0.st f1).st g1).st i1).st j0).st s0
 obtain ⟨k3,t0,n0⟩:=n0.freeze
 replace b0:=(b0.st s0).st t0
 obtain ⟨y1,u0,b0⟩:=b0.freeze
 obtain rfl:=sm hm
 replace hB:=((((((((((((hB.st k1).st z0).st a1).st b1).st d1).st e1).st f1).st g1).st i1).st j0).st s0).st t0).st u0
 replace e0:=(e0.st t0).st u0
 replace n0:=n0.st u0
 exact ret1v rfl (BM (cs:=[(.string x0.name),(.int .i64 x0.cost),(.slice l0 g0.length m0),(.slice h0 c0.length i0)]) rfl rfl e0.1.cellsAt) ⟨hB.ext,(Vb.mono (F:=Fr 0 w0 y1) (Vb.ofAgg (cs:=[(.string x0.name),(.int .i64 x0.cost),(.slice l0 g0.length m0),(.slice h0 c0.length i0)]) (x:=(⟨x0.name,x0.cost,g0,c0⟩:Opr)) rfl ⟨_,_,rfl,n0,b0,j2,k2⟩) hB.out)⟩
noncomputable def CA (x0:Tsk) (x1:List ByteArray) (x2:Int):Option (Tsk×Int) :=
  bnd (DP x0) fun q33=>if q33≠0 then (some ((⟨([]:List Int),([]:List Int),([]:List Fct),([]:List Opr)⟩:Tsk),q33)) else (bnd (if x2 < 0 then (some true) else (if 1000 < x2 then (some true) else (some false)):Option Bool) fun y44=>if y44=true then (some ((⟨([]:List Int),([]:List Int),([]:List Fct),([]:List Opr)⟩:Tsk),1)) else (if 63 < (x1.length:Int) then (some ((⟨([]:List Int),([]:List Int),([]:List Fct),([]:List Opr)⟩:Tsk),5)) else (bnd (chkI ((x1.length:Int) + 1)) fun n64=>bnd (appI 8 ([]:List Int) x0.vars) fun u66=>bnd (appI 8 u66 ([n64]:List Int)) fun u68=>bnd (appI 8 ([]:List Int) x0.init) fun u70=>bnd (appI 8 u70 ([0]:List Int)) fun u72=>bnd (appI 16 ([]:List Fct) x0.goal) fun u74=>bnd (appI 16 u74 ([(⟨(x0.vars.length:Int),(x1.length:Int)⟩:Fct)]:List Fct)) fun u76=>bnd (some (u68,u72,u76):Option ((List Int)×(List Int)×(List Fct))) fun y78=>bnd (rng (ρ:=Tsk×Int) (fun (k232:Nat) (a233:Opr) (s230:(List Opr))=>bnd (chkI (a233.cost + x2)) fun n271=>bnd (appI 72 s230 [(⟨a233.name,n271,a233.pre,a233.effs⟩:Opr)]) fun u276=>some (.next u276)) x0.ops 0 ([]:List Opr)) fun res228=>fin res228 fun (s294:(List Opr))=>bnd (rng (ρ:=Tsk×Int) (fun (k302:Nat) (a303:ByteArray) (s300:(List Opr))=>bnd (rng (ρ:=Ctl (List Opr) (Tsk×Int)) (fun (k331:Nat) (a332:Opr) (s329:(List Opr))=>if a332.name=a303 then (bnd (Et a332 (x0.vars.length:Int) (k302:Int)) fun q371=>bnd (appI 72 s329 [q371]) fun u395=>some (.next u395)) else (some (.next s329))) x0.ops 0 s300) fun res327=>fin res327 fun (s412:(List Opr))=>bnd (Et (⟨(⟨#[]⟩:ByteArray),x2,([]:List Fct),([]:List Eff)⟩:Opr) (x0.vars.length:Int) (k302:Int)) fun q414=>bnd (appI 72 s412 [q414]) fun u438=>some (.next u438)) x1 0 s294) fun res298=>fin res298 fun (s455:(List Opr))=>bnd (DP (⟨y78.1,y78.2.1,y78.2.2,s455⟩:Tsk)) fun q465=>if q465≠0 then (some ((⟨([]:List Int),([]:List Int),([]:List Fct),([]:List Opr)⟩:Tsk),q465)) else (some ((⟨y78.1,y78.2.1,y78.2.2,s455⟩:Tsk),0)))))
theorem Lo {w:World} {A:Nat→Prop} (hA:∀ k,A k→k < w.heap.size) {vx0:Value} {x0:Tsk} (c8:Vb w A vx0 x0) {vx1:Value} {x1:List ByteArray} (k0:Vb w A vx1 x1) {x2:Int} (rx2:inI64 x2) {r:Tsk×Int} (hm:CA x0 x1 x2=some r) :
    Fn Tryz.prog 12 [vx0,vx1,(.int .i64 x2)] w fun v w'=>Ext w w'∧T2 w' (upA A w w') v r:=by
 obtain ⟨O,hB,iC⟩:=enter hA
 replace c8:=c8.mono iC
 obtain ⟨tG,rfl,v5,v6,v7,v8,rfl,h9,s0,t0,p0⟩:=c8
 obtain ⟨v2,w2,rfl⟩:=h9.form
 obtain ⟨j2,k2,rfl⟩:=s0.form
 obtain ⟨w1,y1,rfl⟩:=t0.form
 obtain ⟨y2,z2,rfl⟩:=p0.form
 replace k0:=k0.mono iC
 obtain ⟨o1,p1,rfl⟩:=k0.form
 refine AH Tryz.func12 rfl Tryz.ntmps12 rfl ?_
 unfold CA at hm
 refine Al (Aj (Da 2 O rfl rfl fun n1 cD jC k3 l0=>?_))
 replace l0:Lc 2 cD jC n1 26 [(.slice v2 x0.vars.length w2),(.slice j2 x0.init.length k2),(.slice w1 x0.goal.length y1),(.slice y2 x0.ops.length z2)]:=l0
 refine BD 3 jC rfl fun q0 kC lC j3 c0=>?_
 refine Au rfl rfl (o_z ?_)
 refine Al (Al (Aj ?_))
 replace l0:=l0.st j3
 refine Bk (hl:=rfl) (hc:=(l0.1).cellsAt) rfl rfl ?_
 obtain ⟨dD,eD,hm⟩:=bs hm
 replace h9:=(h9.st k3).st j3
 replace s0:=(s0.st k3).st j3
 replace t0:=(t0.st k3).st j3
 replace p0:=(p0.st k3).st j3
 refine BE (O:=lC) (A:=All kC) (R:=fun w' F v=>Vb w' F v dD) (IX (fun _ h=>h) (Vb.mono (F:=Fr 0 kC lC) (Vb.ofAgg (cs:=[(.slice v2 x0.vars.length w2),(.slice j2 x0.init.length k2),(.slice w1 x0.goal.length y1),(.slice y2 x0.ops.length z2)]) (x:=x0) rfl ⟨_,_,_,_,rfl,h9,s0,t0,p0⟩) Fr.lt) eD) rfl rfl fun uG vG mC r0 fD=>?_
 obtain ⟨rfl,gD⟩:=fD.int
 refine Au rfl rfl (o_z ?_)
 refine Al (Aj (Ar rfl rfl (Hb rfl rfl rfl (fun d8=>?_) fun d8=>?_)))
 ·
  replace hm:=ip hm d8
  refine o_z ?_
  refine Ah rfl (Al (Aj (Cw rfl rfl rfl ?_)))
  refine Ar rfl rfl ?_
  replace c0:=c0.st r0
  refine AR c0 rfl rfl rfl (Ba rfl) (allOne rfl) fun nC hD c0=>?_
  replace c0:Lc 3 nC mC q0 26 [(.slice none 0 0),(.slice none 0 0),(.slice none 0 0),(.slice none 0 0)]:=c0
  refine Au rfl rfl (o_z ?_)
  refine AK ?_
  obtain rfl:=sm hm
  replace hB:=(((hB.st k3).st j3).st r0).st hD
  exact ret2 rfl (BM (cs:=[(.slice none 0 0),(.slice none 0 0),(.slice none 0 0),(.slice none 0 0)]) rfl rfl c0.1.cellsAt) (AB rfl) ⟨hB.ext,_,_,rfl,(Vb.mono (F:=Fr 0 nC mC) (Vb.ofAgg (cs:=[(.slice none 0 0),(.slice none 0 0),(.slice none 0 0),(.slice none 0 0)]) (x:=(⟨([]:List Int),([]:List Int),([]:List Fct),([]:List Opr)⟩:Tsk)) rfl ⟨_,_,_,_,rfl,(Vb.nil _ _),(Vb.nil _ _),(Vb.nil _ _),(Vb.nil _ _)⟩) hB.out),(vInt gD)⟩
 replace hm:=im hm d8
 refine o_z ?_
 refine Ae rfl (AO (Al (Al ?_)))
 obtain ⟨iD,g2,hm⟩:=bs hm
 refine AL (fun l' w'=>∃ (jD:Unit) (O':Lab),subs l' [(1,(.slice o1 x1.length p1)),(2,(.int .i64 x2)),(3,(.pointer (some ⟨n1,0,none⟩))),(6,(.pointer (some ⟨q0,0,none⟩))),(29,(.bool iD))]∧Bs w A w' O'∧Vb w' (Fr 0 w' O') (.slice o1 x1.length p1) x1∧Lc 2 w' O' n1 26 [(.slice v2 x0.vars.length w2),(.slice j2 x0.init.length k2),(.slice w1 x0.goal.length y1),(.slice y2 x0.ops.length z2)]∧Vb w' (Fr 0 w' O') (.slice v2 x0.vars.length w2) x0.vars∧Vb w' (Fr 0 w' O') (.slice j2 x0.init.length k2) x0.init∧Vb w' (Fr 0 w' O') (.slice w1 x0.goal.length y1) x0.goal∧Vb w' (Fr 0 w' O') (.slice y2 x0.ops.length z2) x0.ops∧Lc 3 w' O' q0 26 [(.slice none 0 0),(.slice none 0 0),(.slice none 0 0),(.slice none 0 0)]) ?_ ?_
 ·
  refine Aj (Ar rfl rfl (DM rfl rfl rfl (fun e8=>?_) fun e8=>?_))
  ·
   replace g2:=ip g2 e8
   refine Ar rfl rfl (At rfl rfl rfl rfl (At rfl rfl rfl rfl (AX rfl rfl rfl (o_z ?_))))
   obtain rfl:=sm g2
   exact ⟨(),_,⟨rfl,rfl,rfl,rfl,rfl,trivial⟩,((hB.st k3).st j3).st r0,((k0.st k3).st j3).st r0,l0.st r0,h9.st r0,s0.st r0,t0.st r0,p0.st r0,c0.st r0⟩
  replace g2:=im g2 e8
  refine Ar rfl rfl (Ay rfl rfl (Ar rfl rfl (Ay rfl rfl (Ce rfl rfl rfl (fun f8=>?_) fun f8=>?_))))
  ·
   replace g2:=ip g2 f8
   refine AT rfl rfl rfl (o_z ?_)
   obtain rfl:=sm g2
   exact ⟨(),_,⟨rfl,rfl,rfl,rfl,rfl,trivial⟩,((hB.st k3).st j3).st r0,((k0.st k3).st j3).st r0,l0.st r0,h9.st r0,s0.st r0,t0.st r0,p0.st r0,c0.st r0⟩
  replace g2:=im g2 f8
  refine AT rfl rfl rfl (o_z ?_)
  obtain rfl:=sm g2
  exact ⟨(),_,⟨rfl,rfl,rfl,rfl,rfl,trivial⟩,((hB.st k3).st j3).st r0,((k0.st k3).st j3).st r0,l0.st r0,h9.st r0,s0.st r0,t0.st r0,p0.st r0,c0.st r0⟩
 replace hB:=((hB.st k3).st j3).st r0
 replace k0:=((k0.st k3).st j3).st r0
 replace h9:=h9.st r0
 replace s0:=s0.st r0
 replace t0:=t0.st r0
 replace p0:=p0.st r0
 replace l0:=l0.st r0
 replace c0:=c0.st r0
 rintro wG xG ⟨jD,j5,g8,hB,k0,l0,h9,s0,t0,p0,c0⟩
 refine AQ _ g8 ?_
 refine CN rfl (fun h8=>?_) (fun h8=>?_)
 ·
  replace hm:=ip hm h8
  refine Al (Aj (Cw rfl rfl rfl ?_))
  refine AR c0 rfl rfl rfl (Ba rfl) (allOne rfl) fun oC kD c0=>?_
  replace c0:Lc 3 oC j5 q0 26 [(.slice none 0 0),(.slice none 0 0),(.slice none 0 0),(.slice none 0 0)]:=c0
  refine Au rfl rfl (o_z ?_)
  refine AK ?_
  obtain rfl:=sm hm
  replace hB:=hB.st kD
  exact ret2 rfl (BM (cs:=[(.slice none 0 0),(.slice none 0 0),(.slice none 0 0),(.slice none 0 0)]) rfl rfl c0.1.cellsAt) (AB rfl) ⟨hB.ext,_,_,rfl,(Vb.mono (F:=Fr 0 oC j5) (Vb.ofAgg (cs:=[(.slice none 0 0),(.slice none 0 0),(.slice none 0 0),(.slice none 0 0)]) (x:=(⟨([]:List Int),([]:List Int),([]:List Fct),([]:List Opr)⟩:Tsk)) rfl ⟨_,_,_,_,rfl,(Vb.nil _ _),(Vb.nil _ _),(Vb.nil _ _),(Vb.nil _ _)⟩) hB.out),(vInt (show inI64 (1) from by decide))⟩
 replace hm:=im' hm h8
 refine AO (Al (Al (Aj (Ar rfl rfl (AP rfl rfl ?_)))))
 have lD:x1.length≤9223372036854775807:=Nat.le_trans k0.len.2.1 k0.len.2.2
 have yG:inI64 (x1.length:Int):=rngNat lD
 refine Ce rfl rfl rfl (fun i8=>?_) fun i8=>?_
 ·
  replace hm:=ip hm i8
  refine o_z ?_
  refine Ah rfl (Al (Aj (Cw rfl rfl rfl ?_)))
  refine AR c0 rfl rfl rfl (Ba rfl) (allOne rfl) fun pC mD c0=>?_
  replace c0:Lc 3 pC j5 q0 26 [(.slice none 0 0),(.slice none 0 0),(.slice none 0 0),(.slice none 0 0)]:=c0
  refine Au rfl rfl (o_z ?_)
  refine AK ?_
  obtain rfl:=sm hm
  replace hB:=hB.st mD
  exact ret2 rfl (BM (cs:=[(.slice none 0 0),(.slice none 0 0),(.slice none 0 0),(.slice none 0 0)]) rfl rfl c0.1.cellsAt) (AB rfl) ⟨hB.ext,_,_,rfl,(Vb.mono (F:=Fr 0 pC j5) (Vb.ofAgg (cs:=[(.slice none 0 0),(.slice none 0 0),(.slice none 0 0),(.slice none 0 0)]) (x:=(⟨([]:List Int),([]:List Int),([]:List Fct),([]:List Opr)⟩:Tsk)) rfl ⟨_,_,_,_,rfl,(Vb.nil _ _),(Vb.nil _ _),(Vb.nil _ _),(Vb.nil _ _)⟩) hB.out),(vInt (show inI64 (5) from by decide))⟩
 replace hm:=im hm i8
 refine o_z ?_
 refine Ae rfl (AO (Al (Aj (AG rfl rfl (AE (hc:=Blk.cell (i:=0) (l0.1) rfl) rfl rfl ?_)))))
 refine AP rfl rfl ?_
 have nD:x0.vars.length≤9223372036854775807:=Nat.le_trans h9.len.2.1 h9.len.2.2
 have j8:inI64 (x0.vars.length:Int):=rngNat nD
 refine Au rfl rfl (o_z ?_)
 refine Al ?_
 obtain ⟨y3,qC,hm⟩:=bs hm
 obtain ⟨rC,k8,hm⟩:=bs hm
 obtain ⟨p3,l8,hm⟩:=bs hm
 obtain ⟨sC,m8,hm⟩:=bs hm
 obtain ⟨n4,n8,hm⟩:=bs hm
 obtain ⟨tC,o8,hm⟩:=bs hm
 obtain ⟨p8,q8,hm⟩:=bs hm
 obtain ⟨b0,k5,hm⟩:=bs hm
 refine AL (fun l' w'=>∃ (a0:Nat×(Option Addr×Nat)×(Option Addr×Nat)×(Option Addr×Nat)) (O':Lab),subs l' [(1,(.slice o1 x1.length p1)),(2,(.int .i64 x2)),(3,(.pointer (some ⟨n1,0,none⟩))),(6,(.pointer (some ⟨q0,0,none⟩))),(9,(.int .i64 (x0.vars.length:Int))),(10,(.pointer (some ⟨a0.1,0,none⟩)))]∧Bs w A w' O'∧Vb w' (Fr 0 w' O') (.slice o1 x1.length p1) x1∧Lc 2 w' O' n1 26 [(.slice v2 x0.vars.length w2),(.slice j2 x0.init.length k2),(.slice w1 x0.goal.length y1),(.slice y2 x0.ops.length z2)]∧Vb w' (Fr 0 w' O') (.slice v2 x0.vars.length w2) x0.vars∧Vb w' (Fr 0 w' O') (.slice j2 x0.init.length k2) x0.init∧Vb w' (Fr 0 w' O') (.slice w1 x0.goal.length y1) x0.goal∧Vb w' (Fr 0 w' O') (.slice y2 x0.ops.length z2) x0.ops∧Lc 3 w' O' q0 26 [(.slice none 0 0),(.slice none 0 0),(.slice none 0 0),(.slice none 0 0)]∧Lc 10 w' O' a0.1 26 [(.slice a0.2.1.1 b0.1.length a0.2.1.2),(.slice a0.2.2.1.1 b0.2.1.length a0.2.2.1.2),(.slice a0.2.2.2.1 b0.2.2.length a0.2.2.2.2),(.slice none 0 0)]∧Rw 4 w' O' 3 (.slice a0.2.1.1 b0.1.length a0.2.1.2) b0.1∧Rw 6 w' O' 3 (.slice a0.2.2.1.1 b0.2.1.length a0.2.2.1.2) b0.2.1∧Rw 8 w' O' 62 (.slice a0.2.2.2.1 b0.2.2.length a0.2.2.2.2) b0.2.2) ?_ ?_
 ·
  refine BC [(3,[4]),(8,[4]),(12,[6]),(14,[6]),(18,[8]),(24,[8])] j5 ?_
  refine AY (fuel:=26) [] [(1,true),(2,true)] (by kernel_rfl) rfl ?_
  refine Bc rfl rfl rfl (AZ (hc:=fun w' ⟨O',hq⟩=>Blk.cell (i:=0) ((l0.st hq (by decide)).1) rfl) rfl rfl rfl ?_)
  refine AM ?_
  refine AY (fuel:=21) [4] [(4,true),(5,true),(6,true),(10,true),(11,true)] (by kernel_rfl) rfl ?_
  refine AJ rfl rfl rfl (Jp rfl rfl rfl ?_)
  have oD:x1.length≤9223372036854775807:=Nat.le_trans k0.len.2.1 k0.len.2.2
  have zG:inI64 (x1.length:Int):=rngNat oD
  have pD:=(AW qC)
  refine Ey (he:=qC) rfl rfl rfl rfl ?_
  refine Bc rfl rfl rfl (AZ (hc:=fun w' ⟨O',hq⟩=>Blk.cell (i:=1) ((l0.st hq (by decide)).1) rfl) rfl rfl rfl ?_)
  refine AM ?_
  refine AY (fuel:=19) [4,6] [(16,true),(17,true)] (by kernel_rfl) rfl ?_
  refine Bc rfl rfl rfl (AZ (hc:=fun w' ⟨O',hq⟩=>Blk.cell (i:=2) ((l0.st hq (by decide)).1) rfl) rfl rfl rfl ?_)
  refine AM ?_
  refine AY (fuel:=15) [4,6,8] [(19,true),(20,true),(21,true),(22,true)] (by kernel_rfl) rfl ?_
  refine AJ rfl rfl rfl (AJ rfl rfl rfl (Jp rfl rfl rfl ?_))
  have qD:x1.length≤9223372036854775807:=Nat.le_trans k0.len.2.1 k0.len.2.2
  have rD:inI64 (x1.length:Int):=rngNat qD
  refine Gi rfl rfl rfl rfl ?_
  refine AM ?_
  refine ES (z:=(zRow (α:=Int) 0 38 4 3 0 ([]:List Int))) [] (DC (by decide) rfl rfl rfl rfl rfl (fun _ _=>trivial) (by decide) (by decide) rfl) fun r8=>?_
  refine ES (z:=(zRow (α:=Int) 7 45 5 3 1 ([y3]:List Int))) [(44,(.int .i64 y3))] (DC (by decide) rfl rfl rfl rfl rfl (fun _ _=>⟨(vInt pD),trivial⟩) (by decide) (by decide) rfl) fun l5=>?_
  refine ES (z:=(zRow (α:=Int) 9 47 6 3 0 ([]:List Int))) [] (DC (by decide) rfl rfl rfl rfl rfl (fun _ _=>trivial) (by decide) (by decide) rfl) fun o4=>?_
  refine ES (z:=(zRow (α:=Int) 13 51 7 3 1 ([0]:List Int))) [] (DC (by decide) rfl rfl rfl rfl rfl (fun _ _=>⟨(vInt (show inI64 (0) from by decide)),trivial⟩) (by decide) (by decide) rfl) fun z3=>?_
  refine ES (z:=(zRow (α:=Fct) 15 53 8 62 0 ([]:List Fct))) [] (DC (by decide) rfl rfl rfl rfl rfl (fun _ _=>trivial) (by decide) (by decide) rfl) fun q3=>?_
  refine ES (z:=(zRow (α:=Fct) 23 61 9 62 1 ([(⟨(x0.vars.length:Int),(x1.length:Int)⟩:Fct)]:List Fct))) [(60,(.agg #[(.int .i64 (x0.vars.length:Int)),(.int .i64 (x1.length:Int))]))] (DC (by decide) rfl rfl rfl rfl rfl (fun _ _=>⟨(Vb.ofAgg (cs:=[(.int .i64 (x0.vars.length:Int)),(.int .i64 (x1.length:Int))]) (x:=(⟨(x0.vars.length:Int),(x1.length:Int)⟩:Fct)) rfl ⟨rfl,j8,rD⟩),trivial⟩) (by decide) (by decide) rfl) fun l3=>?_
  refine ES (z:=(zVar 26 10 10 26 [(.slice none 0 0),(.slice none 0 0),(.slice none 0 0),(.slice none 0 0)])) [] (Od rfl rfl rfl) fun q2=>?_
  refine LC (zs:=[(zRow (α:=Int) 0 38 4 3 0 ([]:List Int)),(zRow (α:=Int) 7 45 5 3 1 ([y3]:List Int)),(zRow (α:=Int) 9 47 6 3 0 ([]:List Int)),(zRow (α:=Int) 13 51 7 3 1 ([0]:List Int)),(zRow (α:=Fct) 15 53 8 62 0 ([]:List Fct)),(zRow (α:=Fct) 23 61 9 62 1 ([(⟨(x0.vars.length:Int),(x1.length:Int)⟩:Fct)]:List Fct)),(zVar 26 10 10 26 [(.slice none 0 0),(.slice none 0 0),(.slice none 0 0),(.slice none 0 0)])]) (fuel:=8) [(1,(.slice o1 x1.length p1)),(2,(.int .i64 x2)),(3,(.pointer (some ⟨n1,0,none⟩))),(6,(.pointer (some ⟨q0,0,none⟩))),(9,(.int .i64 (x0.vars.length:Int))),(40,(.slice v2 x0.vars.length w2)),(44,(.int .i64 y3)),(49,(.slice j2 x0.init.length k2)),(55,(.slice w1 x0.goal.length y1)),(60,(.agg #[(.int .i64 (x0.vars.length:Int)),(.int .i64 (x1.length:Int))]))] ⟨rfl,rfl,rfl,rfl,rfl,rfl,rfl,rfl,rfl,rfl,trivial⟩ rfl (by kernel_rfl) ?_
  refine Dr (m:=3) (by kernel_rfl) rfl (by kernel_rfl) (by kernel_rfl) ⟨⟨_,r8,trivial⟩,⟨_,l5,⟨rfl,trivial⟩⟩,⟨_,o4,trivial⟩,⟨_,z3,trivial⟩,⟨_,q3,trivial⟩,⟨_,l3,⟨rfl,trivial⟩⟩,⟨_,q2,trivial⟩,trivial⟩ fun m3 sD tD q1 m5=>?_
  obtain ⟨s8,t8,u8⟩:=m5.1 (by kernel_rfl)
  refine Ds [(1,(.slice o1 x1.length p1)),(2,(.int .i64 x2)),(3,(.pointer (some ⟨n1,0,none⟩))),(6,(.pointer (some ⟨q0,0,none⟩))),(9,(.int .i64 (x0.vars.length:Int))),(10,(m3 10)),(38,(.slice (some ⟨s8,0,none⟩) ([]:List Int).length 0)),(40,(.slice v2 x0.vars.length w2)),(44,(.int .i64 y3)),(45,(m3 45)),(47,(m3 47)),(49,(.slice j2 x0.init.length k2)),(51,(m3 51)),(53,(m3 53)),(55,(.slice w1 x0.goal.length y1)),(60,(.agg #[(.int .i64 (x0.vars.length:Int)),(.int .i64 (x1.length:Int))])),(61,(m3 61))] ⟨rfl,rfl,rfl,rfl,rfl,rfl,(congrArg some t8),rfl,rfl,rfl,rfl,rfl,rfl,rfl,rfl,rfl,rfl,trivial⟩ ?_
  obtain ⟨k8,w8,x8⟩:=AU k8
  replace h9:=h9.st q1
  refine Bw rfl u8 (h9.rd) rfl rfl (by decide) w8 x8 rfl fun n5 o5 uD vD y0 a4=>?_
  rw [← k8] at a4 ⊢
  have hZ:=y0.lst [4] (fun _ h=>by cases h;decide)
  refine FE (zs':=[(zRow (α:=Int) 7 45 5 3 1 ([y3]:List Int)),(zRow (α:=Int) 9 47 6 3 0 ([]:List Int)),(zRow (α:=Int) 13 51 7 3 1 ([0]:List Int)),(zRow (α:=Fct) 15 53 8 62 0 ([]:List Fct)),(zRow (α:=Fct) 23 61 9 62 1 ([(⟨(x0.vars.length:Int),(x1.length:Int)⟩:Fct)]:List Fct)),(zVar 26 10 10 26 [(.slice none 0 0),(.slice none 0 0),(.slice none 0 0),(.slice none 0 0)])]) [(8,[4]),(12,[6]),(14,[6]),(18,[8]),(24,[8])] [(1,(.slice o1 x1.length p1)),(2,(.int .i64 x2)),(3,(.pointer (some ⟨n1,0,none⟩))),(6,(.pointer (some ⟨q0,0,none⟩))),(9,(.int .i64 (x0.vars.length:Int))),(41,(.slice n5 rC.length o5)),(44,(.int .i64 y3)),(49,(.slice j2 x0.init.length k2)),(55,(.slice w1 x0.goal.length y1)),(60,(.agg #[(.int .i64 (x0.vars.length:Int)),(.int .i64 (x1.length:Int))]))] (by kernel_rfl) hZ (by kernel_rfl) ⟨rfl,rfl,rfl,rfl,rfl,rfl,trivial⟩ ⟨rfl,rfl,rfl,rfl,rfl,rfl,rfl,rfl,rfl,rfl,trivial⟩ ?_
  refine Dr (m:=8) (by kernel_rfl) rfl (by kernel_rfl) (by kernel_rfl) ⟨⟨_,l5,⟨rfl,trivial⟩⟩,⟨_,o4,trivial⟩,⟨_,z3,trivial⟩,⟨_,q3,trivial⟩,⟨_,l3,⟨rfl,trivial⟩⟩,⟨_,q2,trivial⟩,trivial⟩ fun r3 wD xD z0 p5=>?_
  obtain ⟨y8,z8,a9⟩:=p5.1 (by kernel_rfl)
  refine Ds [(1,(.slice o1 x1.length p1)),(2,(.int .i64 x2)),(3,(.pointer (some ⟨n1,0,none⟩))),(6,(.pointer (some ⟨q0,0,none⟩))),(9,(.int .i64 (x0.vars.length:Int))),(10,(r3 10)),(41,(.slice n5 rC.length o5)),(44,(.int .i64 y3)),(45,(.slice (some ⟨y8,0,none⟩) ([y3]:List Int).length 1)),(47,(r3 47)),(49,(.slice j2 x0.init.length k2)),(51,(r3 51)),(53,(r3 53)),(55,(.slice w1 x0.goal.length y1)),(60,(.agg #[(.int .i64 (x0.vars.length:Int)),(.int .i64 (x1.length:Int))])),(61,(r3 61))] ⟨rfl,rfl,rfl,rfl,rfl,rfl,rfl,rfl,(congrArg some z8),rfl,rfl,rfl,rfl,rfl,rfl,rfl,trivial⟩ ?_
  obtain ⟨l8,b9,c9⟩:=AU l8
  replace a4:=a4.st z0
  refine Bw rfl a4 (a9.rd) rfl rfl (by decide) b9 c9 rfl fun r1 s1 yD zD a1 p4=>?_
  rw [← l8] at p4 ⊢
  have hZ:=a1.lst [4] (fun _ h=>by cases h;decide)
  refine FE (zs':=[(zRow (α:=Int) 9 47 6 3 0 ([]:List Int)),(zRow (α:=Int) 13 51 7 3 1 ([0]:List Int)),(zRow (α:=Fct) 15 53 8 62 0 ([]:List Fct)),(zRow (α:=Fct) 23 61 9 62 1 ([(⟨(x0.vars.length:Int),(x1.length:Int)⟩:Fct)]:List Fct)),(zVar 26 10 10 26 [(.slice none 0 0),(.slice none 0 0),(.slice none 0 0),(.slice none 0 0)])]) [(12,[6]),(14,[6]),(18,[8]),(24,[8])] [(1,(.slice o1 x1.length p1)),(2,(.int .i64 x2)),(3,(.pointer (some ⟨n1,0,none⟩))),(6,(.pointer (some ⟨q0,0,none⟩))),(9,(.int .i64 (x0.vars.length:Int))),(46,(.slice r1 p3.length s1)),(49,(.slice j2 x0.init.length k2)),(55,(.slice w1 x0.goal.length y1)),(60,(.agg #[(.int .i64 (x0.vars.length:Int)),(.int .i64 (x1.length:Int))]))] (by kernel_rfl) hZ (by kernel_rfl) ⟨rfl,rfl,rfl,rfl,rfl,trivial⟩ ⟨rfl,rfl,rfl,rfl,rfl,rfl,rfl,rfl,rfl,trivial⟩ ?_
  refine Dr (m:=12) (by kernel_rfl) rfl (by kernel_rfl) (by kernel_rfl) ⟨⟨_,o4,trivial⟩,⟨_,z3,trivial⟩,⟨_,q3,trivial⟩,⟨_,l3,⟨rfl,trivial⟩⟩,⟨_,q2,trivial⟩,trivial⟩ fun b4 aE bE u0 q5=>?_
  obtain ⟨d9,e9,f9⟩:=q5.1 (by kernel_rfl)
  refine Ds [(1,(.slice o1 x1.length p1)),(2,(.int .i64 x2)),(3,(.pointer (some ⟨n1,0,none⟩))),(6,(.pointer (some ⟨q0,0,none⟩))),(9,(.int .i64 (x0.vars.length:Int))),(10,(b4 10)),(46,(.slice r1 p3.length s1)),(47,(.slice (some ⟨d9,0,none⟩) ([]:List Int).length 0)),(49,(.slice j2 x0.init.length k2)),(51,(b4 51)),(53,(b4 53)),(55,(.slice w1 x0.goal.length y1)),(60,(.agg #[(.int .i64 (x0.vars.length:Int)),(.int .i64 (x1.length:Int))])),(61,(b4 61))] ⟨rfl,rfl,rfl,rfl,rfl,rfl,rfl,(congrArg some e9),rfl,rfl,rfl,rfl,rfl,rfl,trivial⟩ ?_
  obtain ⟨m8,g9,i9⟩:=AU m8
  replace s0:=((((s0.st q1).st y0).st z0).st a1).st u0
  refine Bw rfl f9 (s0.rd) rfl rfl (by decide) g9 i9 rfl fun r5 s5 cE dE m0 c4=>?_
  rw [← m8] at c4 ⊢
  have hZ:=m0.lst [6] (fun _ h=>by cases h;decide)
  refine FE (zs':=[(zRow (α:=Int) 13 51 7 3 1 ([0]:List Int)),(zRow (α:=Fct) 15 53 8 62 0 ([]:List Fct)),(zRow (α:=Fct) 23 61 9 62 1 ([(⟨(x0.vars.length:Int),(x1.length:Int)⟩:Fct)]:List Fct)),(zVar 26 10 10 26 [(.slice none 0 0),(.slice none 0 0),(.slice none 0 0),(.slice none 0 0)])]) [(14,[6]),(18,[8]),(24,[8])] [(1,(.slice o1 x1.length p1)),(2,(.int .i64 x2)),(3,(.pointer (some ⟨n1,0,none⟩))),(6,(.pointer (some ⟨q0,0,none⟩))),(9,(.int .i64 (x0.vars.length:Int))),(46,(.slice r1 p3.length s1)),(50,(.slice r5 sC.length s5)),(55,(.slice w1 x0.goal.length y1)),(60,(.agg #[(.int .i64 (x0.vars.length:Int)),(.int .i64 (x1.length:Int))]))] (by kernel_rfl) hZ (by kernel_rfl) ⟨rfl,rfl,rfl,rfl,trivial⟩ ⟨rfl,rfl,rfl,rfl,rfl,rfl,rfl,rfl,rfl,trivial⟩ ?_
  refine Dr (m:=14) (by kernel_rfl) rfl (by kernel_rfl) (by kernel_rfl) ⟨⟨_,z3,trivial⟩,⟨_,q3,trivial⟩,⟨_,l3,⟨rfl,trivial⟩⟩,⟨_,q2,trivial⟩,trivial⟩ fun q4 eE fE n0 t5=>?_
  obtain ⟨j9,k9,l9⟩:=t5.1 (by kernel_rfl)
  refine Ds [(1,(.slice o1 x1.length p1)),(2,(.int .i64 x2)),(3,(.pointer (some ⟨n1,0,none⟩))),(6,(.pointer (some ⟨q0,0,none⟩))),(9,(.int .i64 (x0.vars.length:Int))),(10,(q4 10)),(46,(.slice r1 p3.length s1)),(50,(.slice r5 sC.length s5)),(51,(.slice (some ⟨j9,0,none⟩) ([0]:List Int).length 1)),(53,(q4 53)),(55,(.slice w1 x0.goal.length y1)),(60,(.agg #[(.int .i64 (x0.vars.length:Int)),(.int .i64 (x1.length:Int))])),(61,(q4 61))] ⟨rfl,rfl,rfl,rfl,rfl,rfl,rfl,rfl,(congrArg some k9),rfl,rfl,rfl,rfl,trivial⟩ ?_
  obtain ⟨n8,m9,n9⟩:=AU n8
  replace c4:=c4.st n0
  refine Bw rfl c4 (l9.rd) rfl rfl (by decide) m9 n9 rfl fun r2 s2 gE hE o0 r4=>?_
  rw [← n8] at r4 ⊢
  have hZ:=o0.lst [6] (fun _ h=>by cases h;decide)
  refine FE (zs':=[(zRow (α:=Fct) 15 53 8 62 0 ([]:List Fct)),(zRow (α:=Fct) 23 61 9 62 1 ([(⟨(x0.vars.length:Int),(x1.length:Int)⟩:Fct)]:List Fct)),(zVar 26 10 10 26 [(.slice none 0 0),(.slice none 0 0),(.slice none 0 0),(.slice none 0 0)])]) [(18,[8]),(24,[8])] [(1,(.slice o1 x1.length p1)),(2,(.int .i64 x2)),(3,(.pointer (some ⟨n1,0,none⟩))),(6,(.pointer (some ⟨q0,0,none⟩))),(9,(.int .i64 (x0.vars.length:Int))),(46,(.slice r1 p3.length s1)),(52,(.slice r2 n4.length s2)),(55,(.slice w1 x0.goal.length y1)),(60,(.agg #[(.int .i64 (x0.vars.length:Int)),(.int .i64 (x1.length:Int))]))] (by kernel_rfl) hZ (by kernel_rfl) ⟨rfl,rfl,rfl,trivial⟩ ⟨rfl,rfl,rfl,rfl,rfl,rfl,rfl,rfl,rfl,trivial⟩ ?_
  refine Dr (m:=18) (by kernel_rfl) rfl (by kernel_rfl) (by kernel_rfl) ⟨⟨_,q3,trivial⟩,⟨_,l3,⟨rfl,trivial⟩⟩,⟨_,q2,trivial⟩,trivial⟩ fun u5 iE jE j0 w5=>?_
  obtain ⟨o9,p9,q9⟩:=w5.1 (by kernel_rfl)
  refine Ds [(1,(.slice o1 x1.length p1)),(2,(.int .i64 x2)),(3,(.pointer (some ⟨n1,0,none⟩))),(6,(.pointer (some ⟨q0,0,none⟩))),(9,(.int .i64 (x0.vars.length:Int))),(10,(u5 10)),(46,(.slice r1 p3.length s1)),(52,(.slice r2 n4.length s2)),(53,(.slice (some ⟨o9,0,none⟩) ([]:List Fct).length 0)),(55,(.slice w1 x0.goal.length y1)),(60,(.agg #[(.int .i64 (x0.vars.length:Int)),(.int .i64 (x1.length:Int))])),(61,(u5 61))] ⟨rfl,rfl,rfl,rfl,rfl,rfl,rfl,rfl,(congrArg some p9),rfl,rfl,rfl,trivial⟩ ?_
  obtain ⟨o8,r9,s9⟩:=AU o8
  replace t0:=((((((((t0.st q1).st y0).st z0).st a1).st u0).st m0).st n0).st o0).st j0
  refine Bw rfl q9 (t0.rd) rfl rfl (by decide) r9 s9 rfl fun x5 y5 kE lE g0 d4=>?_
  rw [← o8] at d4 ⊢
  have hZ:=g0.lst [8] (fun _ h=>by cases h;decide)
  refine FE (zs':=[(zRow (α:=Fct) 23 61 9 62 1 ([(⟨(x0.vars.length:Int),(x1.length:Int)⟩:Fct)]:List Fct)),(zVar 26 10 10 26 [(.slice none 0 0),(.slice none 0 0),(.slice none 0 0),(.slice none 0 0)])]) [(24,[8])] [(1,(.slice o1 x1.length p1)),(2,(.int .i64 x2)),(3,(.pointer (some ⟨n1,0,none⟩))),(6,(.pointer (some ⟨q0,0,none⟩))),(9,(.int .i64 (x0.vars.length:Int))),(46,(.slice r1 p3.length s1)),(52,(.slice r2 n4.length s2)),(56,(.slice x5 tC.length y5)),(60,(.agg #[(.int .i64 (x0.vars.length:Int)),(.int .i64 (x1.length:Int))]))] (by kernel_rfl) hZ (by kernel_rfl) ⟨rfl,rfl,trivial⟩ ⟨rfl,rfl,rfl,rfl,rfl,rfl,rfl,rfl,rfl,trivial⟩ ?_
  refine Dr (m:=24) (by kernel_rfl) rfl (by kernel_rfl) (by kernel_rfl) ⟨⟨_,l3,⟨rfl,trivial⟩⟩,⟨_,q2,trivial⟩,trivial⟩ fun t9 mE nE h0 z5=>?_
  obtain ⟨u9,v9,w9⟩:=z5.1 (by kernel_rfl)
  refine Ds [(1,(.slice o1 x1.length p1)),(2,(.int .i64 x2)),(3,(.pointer (some ⟨n1,0,none⟩))),(6,(.pointer (some ⟨q0,0,none⟩))),(9,(.int .i64 (x0.vars.length:Int))),(10,(t9 10)),(46,(.slice r1 p3.length s1)),(52,(.slice r2 n4.length s2)),(56,(.slice x5 tC.length y5)),(60,(.agg #[(.int .i64 (x0.vars.length:Int)),(.int .i64 (x1.length:Int))])),(61,(.slice (some ⟨u9,0,none⟩) ([(⟨(x0.vars.length:Int),(x1.length:Int)⟩:Fct)]:List Fct).length 1))] ⟨rfl,rfl,rfl,rfl,rfl,rfl,rfl,rfl,rfl,rfl,(congrArg some v9),trivial⟩ ?_
  obtain ⟨q8,x9,y9⟩:=AU q8
  replace d4:=d4.st h0
  refine Bw rfl d4 (w9.rd) rfl rfl (by decide) x9 y9 rfl fun s3 t3 oE a6 i0 s4=>?_
  rw [← q8] at s4 ⊢
  have hZ:=i0.lst [8] (fun _ h=>by cases h;decide)
  refine FE (zs':=[(zVar 26 10 10 26 [(.slice none 0 0),(.slice none 0 0),(.slice none 0 0),(.slice none 0 0)])]) [] [(1,(.slice o1 x1.length p1)),(2,(.int .i64 x2)),(3,(.pointer (some ⟨n1,0,none⟩))),(6,(.pointer (some ⟨q0,0,none⟩))),(9,(.int .i64 (x0.vars.length:Int))),(46,(.slice r1 p3.length s1)),(52,(.slice r2 n4.length s2)),(62,(.slice s3 p8.length t3))] (by kernel_rfl) hZ (by kernel_rfl) ⟨rfl,trivial⟩ ⟨rfl,rfl,rfl,rfl,rfl,rfl,rfl,rfl,trivial⟩ ?_
  refine Pz (by kernel_rfl) (fun pE b6=>?_) ?_
  ·
   obtain ⟨c6,rfl,u3⟩:=b6
   refine Jt ?_
   refine AY (fuel:=1) [] [(25,true)] (by kernel_rfl) rfl ?_
   refine Gi rfl rfl rfl rfl ?_
   refine AM ?_
   refine Bb (i:=27) (by kernel_rfl) rfl ?_
   refine AR u3 rfl rfl rfl (Ba rfl) (allOne rfl) fun z9 h2 u3=>?_
   replace u3:Lc 10 z9 a6 c6 26 [(.slice r1 p3.length s1),(.slice r2 n4.length s2),(.slice s3 p8.length t3),(.slice none 0 0)]:=u3
   refine Dm (by kernel_rfl) ?_
   refine Cn (by kernel_rfl) ?_
   obtain rfl:=sm k5
   exact ⟨(c6,(r1,s1),(r2,s2),(s3,t3)),_,⟨rfl,rfl,rfl,rfl,rfl,rfl,trivial⟩,((((((((((((hB.st q1).st y0).st z0).st a1).st u0).st m0).st n0).st o0).st j0).st g0).st h0).st i0).st h2,((((((((((((k0.st q1).st y0).st z0).st a1).st u0).st m0).st n0).st o0).st j0).st g0).st h0).st i0).st h2,((((((((((((l0.st q1).st y0).st z0).st a1).st u0).st m0).st n0).st o0).st j0).st g0).st h0).st i0).st h2,(((((((((((h9.st y0).st z0).st a1).st u0).st m0).st n0).st o0).st j0).st g0).st h0).st i0).st h2,(((((((s0.st m0).st n0).st o0).st j0).st g0).st h0).st i0).st h2,(((t0.st g0).st h0).st i0).st h2,((((((((((((p0.st q1).st y0).st z0).st a1).st u0).st m0).st n0).st o0).st j0).st g0).st h0).st i0).st h2,((((((((((((c0.st q1).st y0).st z0).st a1).st u0).st m0).st n0).st o0).st j0).st g0).st h0).st i0).st h2,u3,((((((((p4.st u0).st m0).st n0).st o0).st j0).st g0).st h0).st i0).st h2,((((r4.st j0).st g0).st h0).st i0).st h2,s4.st h2⟩
  ·
   refine Jt ?_
   refine AY (fuel:=2) [] [(25,true)] (by kernel_rfl) rfl ?_
   refine Gi rfl rfl rfl rfl ?_
   refine AM ?_
   refine Bb (i:=26) (by kernel_rfl) rfl ?_
   refine BD 10 a6 rfl fun d6 qE aA z1 v3=>?_
   have hZ:=z1.lst [] (fun _ h=>h.elim)
   refine BG [] hZ (by kernel_rfl) ?_
   refine Bb (i:=27) (by kernel_rfl) rfl ?_
   refine AR v3 rfl rfl rfl (Ba rfl) (allOne rfl) fun bA i2 v3=>?_
   replace v3:Lc 10 bA aA d6 26 [(.slice r1 p3.length s1),(.slice r2 n4.length s2),(.slice s3 p8.length t3),(.slice none 0 0)]:=v3
   refine Dm (by kernel_rfl) ?_
   refine Cn (by kernel_rfl) ?_
   obtain rfl:=sm k5
   exact ⟨(d6,(r1,s1),(r2,s2),(s3,t3)),_,⟨rfl,rfl,rfl,rfl,rfl,rfl,trivial⟩,(((((((((((((hB.st q1).st y0).st z0).st a1).st u0).st m0).st n0).st o0).st j0).st g0).st h0).st i0).st z1).st i2,(((((((((((((k0.st q1).st y0).st z0).st a1).st u0).st m0).st n0).st o0).st j0).st g0).st h0).st i0).st z1).st i2,(((((((((((((l0.st q1).st y0).st z0).st a1).st u0).st m0).st n0).st o0).st j0).st g0).st h0).st i0).st z1).st i2,((((((((((((h9.st y0).st z0).st a1).st u0).st m0).st n0).st o0).st j0).st g0).st h0).st i0).st z1).st i2,((((((((s0.st m0).st n0).st o0).st j0).st g0).st h0).st i0).st z1).st i2,((((t0.st g0).st h0).st i0).st z1).st i2,(((((((((((((p0.st q1).st y0).st z0).st a1).st u0).st m0).st n0).st o0).st j0).st g0).st h0).st i0).st z1).st i2,(((((((((((((c0.st q1).st y0).st z0).st a1).st u0).st m0).st n0).st o0).st j0).st g0).st h0).st i0).st z1).st i2,v3,(((((((((p4.st u0).st m0).st n0).st o0).st j0).st g0).st h0).st i0).st z1).st i2,(((((r4.st j0).st g0).st h0).st i0).st z1).st i2,(s4.st z1).st i2⟩
 rintro rE sE ⟨a0,cA,e6,hB,k0,l0,h9,s0,t0,p0,c0,f0,t1,e1,f1⟩
 refine AQ _ e6 ?_
 refine Al (Al (Aj (AG rfl rfl (AE (hc:=Blk.cell (i:=3) (l0.1) rfl) rfl rfl ?_))))
 refine AP rfl rfl ?_
 have t4:x0.ops.length≤9223372036854775807:=Nat.le_trans p0.len.2.1 p0.len.2.2
 have tE:inI64 (x0.ops.length:Int):=rngNat t4
 refine Ar rfl rfl (o_z ?_)
 obtain ⟨u4,f6,hm⟩:=bs hm
 refine AL (aft u4 (fun (l2:(List Opr)) (a2:(Option Addr×Nat))=>[(1,(.slice o1 x1.length p1)),(2,(.int .i64 x2)),(3,(.pointer (some ⟨n1,0,none⟩))),(6,(.pointer (some ⟨q0,0,none⟩))),(9,(.int .i64 (x0.vars.length:Int))),(10,(.pointer (some ⟨a0.1,0,none⟩)))]) (fun l2 a2 w'=>∃ O':Lab,Bs w A w' O'∧Vb w' (Fr 0 w' O') (.slice o1 x1.length p1) x1∧Lc 2 w' O' n1 26 [(.slice v2 x0.vars.length w2),(.slice j2 x0.init.length k2),(.slice w1 x0.goal.length y1),(.slice y2 x0.ops.length z2)]∧Vb w' (Fr 0 w' O') (.slice v2 x0.vars.length w2) x0.vars∧Vb w' (Fr 0 w' O') (.slice j2 x0.init.length k2) x0.init∧Vb w' (Fr 0 w' O') (.slice w1 x0.goal.length y1) x0.goal∧Vb w' (Fr 0 w' O') (.slice y2 x0.ops.length z2) x0.ops∧Lc 3 w' O' q0 26 [(.slice none 0 0),(.slice none 0 0),(.slice none 0 0),(.slice none 0 0)]∧Lc 10 w' O' a0.1 26 [(.slice a0.2.1.1 b0.1.length a0.2.1.2),(.slice a0.2.2.1.1 b0.2.1.length a0.2.2.1.2),(.slice a0.2.2.2.1 b0.2.2.length a0.2.2.2.2),(.slice a2.1 l2.length a2.2)]∧Rw 4 w' O' 3 (.slice a0.2.1.1 b0.1.length a0.2.1.2) b0.1∧Rw 6 w' O' 3 (.slice a0.2.2.1.1 b0.2.1.length a0.2.2.1.2) b0.2.1∧Rw 8 w' O' 62 (.slice a0.2.2.2.1 b0.2.2.length a0.2.2.2.2) b0.2.2∧Rw 12 w' O' 67 (.slice a2.1 l2.length a2.2) l2)) ?_ ?_
 ·
  refine AN (Bp (σ:=(List Opr)) (X:=(Option Addr×Nat)) (x0.ops.length) f6 rfl t4 (fun (l2:(List Opr)) (a2:(Option Addr×Nat))=>[(1,(.slice o1 x1.length p1)),(2,(.int .i64 x2)),(3,(.pointer (some ⟨n1,0,none⟩))),(6,(.pointer (some ⟨q0,0,none⟩))),(9,(.int .i64 (x0.vars.length:Int))),(10,(.pointer (some ⟨a0.1,0,none⟩))),(65,(.slice y2 x0.ops.length z2))]) _ (fun l2 a2 w'=>∃ O':Lab,Bs w A w' O'∧Vb w' (Fr 0 w' O') (.slice o1 x1.length p1) x1∧Lc 2 w' O' n1 26 [(.slice v2 x0.vars.length w2),(.slice j2 x0.init.length k2),(.slice w1 x0.goal.length y1),(.slice y2 x0.ops.length z2)]∧Vb w' (Fr 0 w' O') (.slice v2 x0.vars.length w2) x0.vars∧Vb w' (Fr 0 w' O') (.slice j2 x0.init.length k2) x0.init∧Vb w' (Fr 0 w' O') (.slice w1 x0.goal.length y1) x0.goal∧Vb w' (Fr 0 w' O') (.slice y2 x0.ops.length z2) x0.ops∧Lc 3 w' O' q0 26 [(.slice none 0 0),(.slice none 0 0),(.slice none 0 0),(.slice none 0 0)]∧Lc 10 w' O' a0.1 26 [(.slice a0.2.1.1 b0.1.length a0.2.1.2),(.slice a0.2.2.1.1 b0.2.1.length a0.2.2.1.2),(.slice a0.2.2.2.1 b0.2.2.length a0.2.2.2.2),(.slice a2.1 l2.length a2.2)]∧Rw 4 w' O' 3 (.slice a0.2.1.1 b0.1.length a0.2.1.2) b0.1∧Rw 6 w' O' 3 (.slice a0.2.2.1.1 b0.2.1.length a0.2.2.1.2) b0.2.1∧Rw 8 w' O' 62 (.slice a0.2.2.2.1 b0.2.2.length a0.2.2.2.2) b0.2.2∧Rw 12 w' O' 67 (.slice a2.1 l2.length a2.2) l2) _ (none,0) ⟨cA,hB,k0,l0,h9,s0,t0,p0,c0,f0,t1,e1,f1,(Rw.nil 12 (by decide))⟩ ⟨rfl,rfl,rfl,rfl,rfl,rfl,rfl,rfl,rfl,trivial⟩ (fun _ _=>⟨rfl,rfl⟩) (fun _ _=>⟨rfl,rfl,rfl,rfl,rfl,rfl,trivial⟩) (fun _ _ _ ⟨O',hB,k0,l0,h9,s0,t0,p0,c0,f0,t1,e1,f1,g3⟩=>⟨O',hB,k0,l0,h9,s0,t0,p0,c0,f0,t1,e1,f1,g3⟩) ⟨rfl,rfl,rfl⟩ ⟨rfl,rfl⟩ ?_)
  rintro dA v0 l2 a2 uE uC k4 ⟨eA,hB,k0,l0,h9,s0,t0,p0,c0,f0,t1,e1,f1,g3⟩ a3 w7 x7
  have rk232:inI64 (dA:Int):=rngK k4 t4
  refine Al (Aj ?_)
  obtain ⟨vE,wE,vC,g6,h6,i6,xE,yE,rfl,e4,f4,zE,fA⟩:=p0.elem' k4
  obtain ⟨v4,w4,rfl⟩:=e4.form
  obtain ⟨x4,y4,rfl⟩:=f4.form
  refine Bi (hA:=g6) (hj:=rfl) (hlt:=h6) rfl rfl rfl ?_
  refine Bk (hl:=rfl) (hc:=i6) rfl rfl ?_
  refine BD 11 eA rfl fun j6 aF k6 b1 m2=>?_
  refine AR m2 rfl rfl rfl (Ba rfl) (allOne rfl) fun gA c1 m2=>?_
  replace m2:Lc 11 gA k6 j6 67 [(.string v0.name),(.int .i64 v0.cost),(.slice v4 v0.pre.length w4),(.slice x4 v0.effs.length y4)]:=m2
  refine o_z ?_
  refine Al (Aj (AG rfl rfl (AE (hc:=Blk.cell (i:=1) (m2.1) rfl) rfl rfl ?_)))
  refine Ar rfl rfl ?_
  obtain ⟨g4,l6,a3⟩:=bs a3
  have iA:=(AW l6)
  refine Dv (he:=l6) rfl rfl rfl ?_
  refine AG rfl rfl (AR m2 rfl rfl rfl (Ba rfl) (allOne rfl) fun jA d1 m2=>?_)
  replace m2:Lc 11 jA k6 j6 67 [(.string v0.name),(.int .i64 g4),(.slice v4 v0.pre.length w4),(.slice x4 v0.effs.length y4)]:=m2
  refine o_z ?_
  refine Aj (AG rfl rfl ?_)
  replace f0:=((f0.st b1).st c1).st d1
  refine AE (hc:=Blk.cell (i:=3) (f0.1) rfl) rfl rfl ?_
  refine Bk (hl:=rfl) (hc:=(m2.1).cellsAt) rfl rfl ?_
  obtain ⟨kA,z4,a3⟩:=bs a3
  obtain ⟨z4,lA,mA⟩:=AU z4
  replace g3:=((g3.st b1).st c1).st d1
  replace e4:=((e4.st b1).st c1).st d1
  replace f4:=((f4.st b1).st c1).st d1
  refine CP rfl (a:=(⟨v0.name,g4,v0.pre,v0.effs⟩:Opr)) g3 (Vb.ofAgg (cs:=[(.string v0.name),(.int .i64 g4),(.slice v4 v0.pre.length w4),(.slice x4 v0.effs.length y4)]) (x:=(⟨v0.name,g4,v0.pre,v0.effs⟩:Opr)) rfl ⟨_,_,rfl,e4,f4,iA,fA⟩) (fun _=>rfl) rfl (by decide) (by decide) lA mA ⟨rfl,rfl⟩ fun bF m6 n6 cF nA b2 o6=>?_
  rw [← z4] at o6 ⊢
  refine AG rfl rfl ?_
  replace f0:=f0.st b2
  refine AR f0 rfl rfl rfl (Ba rfl) (allOne rfl) fun oA c2 f0=>?_
  replace f0:Lc 10 oA nA a0.1 26 [(.slice a0.2.1.1 b0.1.length a0.2.1.2),(.slice a0.2.2.1.1 b0.2.1.length a0.2.2.1.2),(.slice a0.2.2.2.1 b0.2.2.length a0.2.2.2.2),(.slice m6 kA.length n6)]:=f0
  refine o_z ?_
  obtain rfl:=sm a3
  exact show Exists _ from ⟨_,(m6,n6),rfl,⟨rfl,rfl,rfl,rfl,rfl,rfl,rfl,rfl,rfl,trivial⟩,_,((((hB.st b1).st c1).st d1).st b2).st c2,((((k0.st b1).st c1).st d1).st b2).st c2,((((l0.st b1).st c1).st d1).st b2).st c2,((((h9.st b1).st c1).st d1).st b2).st c2,((((s0.st b1).st c1).st d1).st b2).st c2,((((t0.st b1).st c1).st d1).st b2).st c2,((((p0.st b1).st c1).st d1).st b2).st c2,((((c0.st b1).st c1).st d1).st b2).st c2,f0,((((t1.st b1).st c1).st d1).st b2).st c2,((((e1.st b1).st c1).st d1).st b2).st c2,((((f1.st b1).st c1).st d1).st b2).st c2,o6.st c2⟩
 rintro dF eF ⟨fF,p6,rfl,q6,pA,hB,k0,l0,h9,s0,t0,p0,c0,f0,t1,e1,f1,g3⟩
 replace hm:=AV hm
 refine AQ _ q6 ?_
 refine Al (Al (Aj (Ar rfl rfl (AP rfl rfl ?_))))
 have a5:x1.length≤9223372036854775807:=Nat.le_trans k0.len.2.1 k0.len.2.2
 have gF:inI64 (x1.length:Int):=rngNat a5
 refine Ar rfl rfl (o_z ?_)
 obtain ⟨b5,r6,hm⟩:=bs hm
 refine AL (aft b5 (fun (n2:(List Opr)) (g1:(Option Addr×Nat))=>[(6,(.pointer (some ⟨q0,0,none⟩))),(10,(.pointer (some ⟨a0.1,0,none⟩)))]) (fun n2 g1 w'=>∃ O':Lab,Bs w A w' O'∧Lc 3 w' O' q0 26 [(.slice none 0 0),(.slice none 0 0),(.slice none 0 0),(.slice none 0 0)]∧Lc 10 w' O' a0.1 26 [(.slice a0.2.1.1 b0.1.length a0.2.1.2),(.slice a0.2.2.1.1 b0.2.1.length a0.2.2.1.2),(.slice a0.2.2.2.1 b0.2.2.length a0.2.2.2.2),(.slice g1.1 n2.length g1.2)]∧Rw 4 w' O' 3 (.slice a0.2.1.1 b0.1.length a0.2.1.2) b0.1∧Rw 6 w' O' 3 (.slice a0.2.2.1.1 b0.2.1.length a0.2.2.1.2) b0.2.1∧Rw 8 w' O' 62 (.slice a0.2.2.2.1 b0.2.2.length a0.2.2.2.2) b0.2.2∧Rw 12 w' O' 67 (.slice g1.1 n2.length g1.2) n2)) ?_ ?_
 ·
  refine AN (Bp (σ:=(List Opr)) (X:=(Option Addr×Nat)) (x1.length) r6 rfl a5 (fun (n2:(List Opr)) (g1:(Option Addr×Nat))=>[(2,(.int .i64 x2)),(3,(.pointer (some ⟨n1,0,none⟩))),(6,(.pointer (some ⟨q0,0,none⟩))),(9,(.int .i64 (x0.vars.length:Int))),(10,(.pointer (some ⟨a0.1,0,none⟩))),(83,(.slice o1 x1.length p1))]) _ (fun n2 g1 w'=>∃ O':Lab,Bs w A w' O'∧Lc 2 w' O' n1 26 [(.slice v2 x0.vars.length w2),(.slice j2 x0.init.length k2),(.slice w1 x0.goal.length y1),(.slice y2 x0.ops.length z2)]∧Vb w' (Fr 0 w' O') (.slice v2 x0.vars.length w2) x0.vars∧Vb w' (Fr 0 w' O') (.slice j2 x0.init.length k2) x0.init∧Vb w' (Fr 0 w' O') (.slice w1 x0.goal.length y1) x0.goal∧Vb w' (Fr 0 w' O') (.slice y2 x0.ops.length z2) x0.ops∧Lc 3 w' O' q0 26 [(.slice none 0 0),(.slice none 0 0),(.slice none 0 0),(.slice none 0 0)]∧Lc 10 w' O' a0.1 26 [(.slice a0.2.1.1 b0.1.length a0.2.1.2),(.slice a0.2.2.1.1 b0.2.1.length a0.2.2.1.2),(.slice a0.2.2.2.1 b0.2.2.length a0.2.2.2.2),(.slice g1.1 n2.length g1.2)]∧Rw 4 w' O' 3 (.slice a0.2.1.1 b0.1.length a0.2.1.2) b0.1∧Rw 6 w' O' 3 (.slice a0.2.2.1.1 b0.2.1.length a0.2.2.1.2) b0.2.1∧Rw 8 w' O' 62 (.slice a0.2.2.2.1 b0.2.2.length a0.2.2.2.2) b0.2.2∧Rw 12 w' O' 67 (.slice g1.1 n2.length g1.2) n2∧Vb w' (Fr 0 w' O') (.slice o1 x1.length p1) x1) _ (p6.1,p6.2) ⟨pA,hB,l0,h9,s0,t0,p0,c0,f0,t1,e1,f1,g3,k0⟩ ⟨rfl,rfl,rfl,rfl,rfl,rfl,rfl,rfl,trivial⟩ (fun _ _=>⟨rfl,rfl⟩) (fun _ _=>⟨rfl,rfl,trivial⟩) (fun _ _ _ ⟨O',hB,l0,h9,s0,t0,p0,c0,f0,t1,e1,f1,d2,k0⟩=>⟨O',hB,c0,f0,t1,e1,f1,d2⟩) ⟨rfl,rfl,rfl⟩ ⟨rfl,rfl⟩ ?_)
  rintro w3 qA n2 g1 hF wC l4 ⟨rA,hB,l0,h9,s0,t0,p0,c0,f0,t1,e1,f1,d2,k0⟩ h1 y7 z7
  have rk302:inI64 (w3:Int):=rngK l4 a5
  refine Al (Aj (Ar rfl rfl ?_))
  obtain ⟨iF,jF,xC,s6,t6,u6,rfl,kF⟩:=k0.elem' l4
  refine Bi (hA:=s6) (hj:=rfl) (hlt:=t6) rfl rfl rfl ?_
  refine AE (hc:=cat0 u6) rfl rfl ?_
  refine Au rfl rfl (Au rfl rfl (o_z ?_))
  refine Al (Al (Aj (AG rfl rfl (AE (hc:=Blk.cell (i:=3) (l0.1) rfl) rfl rfl ?_))))
  refine AP rfl rfl ?_
  have c5:x0.ops.length≤9223372036854775807:=Nat.le_trans p0.len.2.1 p0.len.2.2
  have lF:inI64 (x0.ops.length:Int):=rngNat c5
  refine Ar rfl rfl (o_z ?_)
  obtain ⟨d5,w6,h1⟩:=bs h1
  refine AL (aft d5 (fun (o2:(List Opr)) (i1:(Option Addr×Nat))=>[(2,(.int .i64 x2)),(3,(.pointer (some ⟨n1,0,none⟩))),(6,(.pointer (some ⟨q0,0,none⟩))),(9,(.int .i64 (x0.vars.length:Int))),(10,(.pointer (some ⟨a0.1,0,none⟩))),(13,(.int .i64 (w3:Int))),(83,(.slice o1 x1.length p1)),(84,(.int .i64 (x1.length:Int))),(85,(.int .i64 (w3:Int)))]) (fun o2 i1 w'=>∃ O':Lab,Bs w A w' O'∧Lc 2 w' O' n1 26 [(.slice v2 x0.vars.length w2),(.slice j2 x0.init.length k2),(.slice w1 x0.goal.length y1),(.slice y2 x0.ops.length z2)]∧Vb w' (Fr 0 w' O') (.slice v2 x0.vars.length w2) x0.vars∧Vb w' (Fr 0 w' O') (.slice j2 x0.init.length k2) x0.init∧Vb w' (Fr 0 w' O') (.slice w1 x0.goal.length y1) x0.goal∧Vb w' (Fr 0 w' O') (.slice y2 x0.ops.length z2) x0.ops∧Lc 3 w' O' q0 26 [(.slice none 0 0),(.slice none 0 0),(.slice none 0 0),(.slice none 0 0)]∧Lc 10 w' O' a0.1 26 [(.slice a0.2.1.1 b0.1.length a0.2.1.2),(.slice a0.2.2.1.1 b0.2.1.length a0.2.2.1.2),(.slice a0.2.2.2.1 b0.2.2.length a0.2.2.2.2),(.slice i1.1 o2.length i1.2)]∧Rw 4 w' O' 3 (.slice a0.2.1.1 b0.1.length a0.2.1.2) b0.1∧Rw 6 w' O' 3 (.slice a0.2.2.1.1 b0.2.1.length a0.2.2.1.2) b0.2.1∧Rw 8 w' O' 62 (.slice a0.2.2.2.1 b0.2.2.length a0.2.2.2.2) b0.2.2∧Rw 12 w' O' 67 (.slice i1.1 o2.length i1.2) o2∧Vb w' (Fr 0 w' O') (.slice o1 x1.length p1) x1)) ?_ ?_
  ·
   refine AN (Bp (σ:=(List Opr)) (X:=(Option Addr×Nat)) (x0.ops.length) w6 rfl c5 (fun (o2:(List Opr)) (i1:(Option Addr×Nat))=>[(2,(.int .i64 x2)),(3,(.pointer (some ⟨n1,0,none⟩))),(6,(.pointer (some ⟨q0,0,none⟩))),(9,(.int .i64 (x0.vars.length:Int))),(10,(.pointer (some ⟨a0.1,0,none⟩))),(13,(.int .i64 (w3:Int))),(14,(.string qA)),(83,(.slice o1 x1.length p1)),(84,(.int .i64 (x1.length:Int))),(85,(.int .i64 (w3:Int))),(91,(.slice y2 x0.ops.length z2))]) _ (fun o2 i1 w'=>∃ O':Lab,Bs w A w' O'∧Lc 2 w' O' n1 26 [(.slice v2 x0.vars.length w2),(.slice j2 x0.init.length k2),(.slice w1 x0.goal.length y1),(.slice y2 x0.ops.length z2)]∧Vb w' (Fr 0 w' O') (.slice v2 x0.vars.length w2) x0.vars∧Vb w' (Fr 0 w' O') (.slice j2 x0.init.length k2) x0.init∧Vb w' (Fr 0 w' O') (.slice w1 x0.goal.length y1) x0.goal∧Vb w' (Fr 0 w' O') (.slice y2 x0.ops.length z2) x0.ops∧Lc 3 w' O' q0 26 [(.slice none 0 0),(.slice none 0 0),(.slice none 0 0),(.slice none 0 0)]∧Lc 10 w' O' a0.1 26 [(.slice a0.2.1.1 b0.1.length a0.2.1.2),(.slice a0.2.2.1.1 b0.2.1.length a0.2.2.1.2),(.slice a0.2.2.2.1 b0.2.2.length a0.2.2.2.2),(.slice i1.1 o2.length i1.2)]∧Rw 4 w' O' 3 (.slice a0.2.1.1 b0.1.length a0.2.1.2) b0.1∧Rw 6 w' O' 3 (.slice a0.2.2.1.1 b0.2.1.length a0.2.2.1.2) b0.2.1∧Rw 8 w' O' 62 (.slice a0.2.2.2.1 b0.2.2.length a0.2.2.2.2) b0.2.2∧Rw 12 w' O' 67 (.slice i1.1 o2.length i1.2) o2∧Vb w' (Fr 0 w' O') (.slice o1 x1.length p1) x1) _ (g1.1,g1.2) ⟨rA,hB,l0,h9,s0,t0,p0,c0,f0,t1,e1,f1,d2,k0⟩ ⟨rfl,rfl,rfl,rfl,rfl,rfl,rfl,rfl,rfl,rfl,rfl,rfl,rfl,trivial⟩ (fun _ _=>⟨rfl,rfl⟩) (fun _ _=>⟨rfl,rfl,rfl,rfl,rfl,rfl,rfl,rfl,rfl,trivial⟩) (fun _ _ _ ⟨O',hB,l0,h9,s0,t0,p0,c0,f0,t1,e1,f1,p2,k0⟩=>⟨O',hB,l0,h9,s0,t0,p0,c0,f0,t1,e1,f1,p2,k0⟩) ⟨rfl,rfl,rfl⟩ ⟨rfl,rfl⟩ ?_)
   rintro sA t2 o2 i1 mF yC m4 ⟨tA,hB,l0,h9,s0,t0,p0,c0,f0,t1,e1,f1,p2,k0⟩ w0 a8 b8
   have rk331:inI64 (sA:Int):=rngK m4 c5
   refine Al (Aj ?_)
   obtain ⟨nF,oF,zC,x6,y6,z6,pF,qF,rfl,h4,i4,uA,vA⟩:=p0.elem' m4
   obtain ⟨a7,b7,rfl⟩:=h4.form
   obtain ⟨c7,d7,rfl⟩:=i4.form
   refine Bi (hA:=x6) (hj:=rfl) (hlt:=y6) rfl rfl rfl ?_
   refine Bk (hl:=rfl) (hc:=z6) rfl rfl ?_
   refine BD 13 tA rfl fun wA rF e5 d0 n3=>?_
   refine AR n3 rfl rfl rfl (Ba rfl) (allOne rfl) fun xA e0 n3=>?_
   replace n3:Lc 13 xA e5 wA 67 [(.string t2.name),(.int .i64 t2.cost),(.slice a7 t2.pre.length b7),(.slice c7 t2.effs.length d7)]:=n3
   refine o_z ?_
   refine Al (Aj (AG rfl rfl (AE (hc:=Blk.cell (i:=0) (n3.1) rfl) rfl rfl ?_)))
   refine Ar rfl rfl (OI rfl rfl rfl (fun f5=>?_) fun f5=>?_)
   ·
    replace w0:=ip w0 f5
    refine o_z ?_
    refine Ah rfl (BC [(7,[12])] e5 ?_)
    refine AY (fuel:=5) [] [(0,true),(1,true),(2,true),(3,true),(4,true)] (by kernel_rfl) rfl ?_
    refine Bc rfl rfl rfl ?_
    replace f0:=(f0.st d0).st e0
    refine AZ (hc:=fun w' ⟨O',hq⟩=>Blk.cell (i:=3) ((f0.st hq (by decide)).1) rfl) rfl rfl rfl ?_
    refine Hd (hl:=rfl) (hb:=fun w' ⟨O',hq⟩=>((n3.st hq (by decide)).1).cellsAt) rfl rfl rfl ?_
    refine AJ rfl rfl rfl (AJ rfl rfl rfl (AM ?_))
    refine Bb (i:=5) (by kernel_rfl) rfl ?_
    obtain ⟨h3,yA,w0⟩:=bs w0
    replace h4:=(h4.st d0).st e0
    replace i4:=(i4.st d0).st e0
    refine Dl (O:=e5) (R:=fun w' F v=>Vb w' F v h3) (IY Fr.lt (Vb.ofAgg (cs:=[(.string t2.name),(.int .i64 t2.cost),(.slice a7 t2.pre.length b7),(.slice c7 t2.effs.length d7)]) (x:=t2) rfl ⟨_,_,rfl,h4,i4,uA,vA⟩) j8 rk302 yA) rfl rfl fun sF tF zA j1 aB=>?_
    obtain ⟨aD,rfl,uF,vF,rfl,e7,f7,bB,cB⟩:=aB
    obtain ⟨dB,eB,rfl⟩:=e7.form
    obtain ⟨fB,gB,rfl⟩:=f7.form
    have hZ:=j1.lst [] (fun _ h=>h.elim)
    refine BG [(7,[12])] hZ (by kernel_rfl) ?_
    refine Bb (i:=6) (by kernel_rfl) rfl ?_
    refine Bv 14 (by decide) zA (xs:=([h3]:List Opr)) rfl rfl rfl rfl ⟨(Vb.ofAgg (cs:=[(.string h3.name),(.int .i64 h3.cost),(.slice dB h3.pre.length eB),(.slice fB h3.effs.length gB)]) (x:=h3) rfl ⟨_,_,rfl,e7,f7,bB,cB⟩),trivial⟩ (by decide) (by decide) rfl fun wF xF yF k1 iB=>?_
    have hZ:=k1.lst [] (fun _ h=>h.elim)
    refine BG [(7,[12])] hZ (by kernel_rfl) ?_
    refine Bb (i:=7) (by kernel_rfl) rfl ?_
    obtain ⟨jB,g5,w0⟩:=bs w0
    obtain ⟨g5,kB,lB⟩:=AU g5
    replace p2:=(((p2.st d0).st e0).st j1).st k1
    refine Bw rfl p2 (iB.rd) rfl rfl (by decide) kB lB rfl fun g7 h7 zF mB u1 i7=>?_
    rw [← g5] at i7 ⊢
    have hZ:=u1.lst [12] (fun _ h=>by cases h;decide)
    refine BG [] hZ (by kernel_rfl) ?_
    refine AY (fuel:=1) [] [(8,true)] (by kernel_rfl) rfl ?_
    refine Bc rfl rfl rfl (AM ?_)
    refine Bb (i:=9) (by kernel_rfl) rfl ?_
    replace f0:=((f0.st j1).st k1).st u1
    refine AR f0 rfl rfl rfl (Ba rfl) (allOne rfl) fun nB e2 f0=>?_
    replace f0:Lc 10 nB mB a0.1 26 [(.slice a0.2.1.1 b0.1.length a0.2.1.2),(.slice a0.2.2.1.1 b0.2.1.length a0.2.2.1.2),(.slice a0.2.2.2.1 b0.2.2.length a0.2.2.2.2),(.slice g7 jB.length h7)]:=f0
    refine Dm (by kernel_rfl) ?_
    refine Cn (by kernel_rfl) ?_
    obtain rfl:=sm w0
    exact show Exists _ from ⟨_,(g7,h7),rfl,⟨rfl,rfl,rfl,rfl,rfl,rfl,rfl,rfl,rfl,rfl,rfl,rfl,rfl,trivial⟩,_,(((((hB.st d0).st e0).st j1).st k1).st u1).st e2,(((((l0.st d0).st e0).st j1).st k1).st u1).st e2,(((((h9.st d0).st e0).st j1).st k1).st u1).st e2,(((((s0.st d0).st e0).st j1).st k1).st u1).st e2,(((((t0.st d0).st e0).st j1).st k1).st u1).st e2,(((((p0.st d0).st e0).st j1).st k1).st u1).st e2,(((((c0.st d0).st e0).st j1).st k1).st u1).st e2,f0,(((((t1.st d0).st e0).st j1).st k1).st u1).st e2,(((((e1.st d0).st e0).st j1).st k1).st u1).st e2,(((((f1.st d0).st e0).st j1).st k1).st u1).st e2,i7.st e2,(((((k0.st d0).st e0).st j1).st k1).st u1).st e2⟩
   replace w0:=im w0 f5
   refine o_z ?_
   refine Ae rfl (AO ?_)
   obtain rfl:=sm w0
   exact show Exists _ from ⟨_,(i1.1,i1.2),rfl,⟨rfl,rfl,rfl,rfl,rfl,rfl,rfl,rfl,rfl,rfl,rfl,rfl,rfl,trivial⟩,_,(hB.st d0).st e0,(l0.st d0).st e0,(h9.st d0).st e0,(s0.st d0).st e0,(t0.st d0).st e0,(p0.st d0).st e0,(c0.st d0).st e0,(f0.st d0).st e0,(t1.st d0).st e0,(e1.st d0).st e0,(f1.st d0).st e0,(p2.st d0).st e0,(k0.st d0).st e0⟩
  rintro aG bG ⟨cG,dG,rfl,j7,k7,hB,l0,h9,s0,t0,p0,c0,f0,t1,e1,f1,p2,k0⟩
  replace h1:=AV h1
  refine AQ _ j7 ?_
  refine BC [(8,[12])] k7 ?_
  refine AY (fuel:=5) [] [(0,true),(1,true),(2,true),(3,true),(4,true),(5,true)] (by kernel_rfl) rfl ?_
  refine Bc rfl rfl rfl (AZ (hc:=fun w' ⟨O',hq⟩=>Blk.cell (i:=3) ((f0.st hq (by decide)).1) rfl) rfl rfl rfl ?_)
  refine AJ rfl rfl rfl (Gi rfl rfl rfl rfl ?_)
  refine AJ rfl rfl rfl (AJ rfl rfl rfl (AM ?_))
  refine Bb (i:=6) (by kernel_rfl) rfl ?_
  obtain ⟨i3,oB,h1⟩:=bs h1
  refine Dl (O:=k7) (R:=fun w' F v=>Vb w' F v i3) (IY Fr.lt (Vb.ofAgg (cs:=[(.string (⟨#[]⟩:ByteArray)),(.int .i64 x2),(.slice none 0 0),(.slice none 0 0)]) (x:=(⟨(⟨#[]⟩:ByteArray),x2,([]:List Fct),([]:List Eff)⟩:Opr)) rfl ⟨_,_,rfl,(Vb.nil _ _),(Vb.nil _ _),rx2,(show (⟨#[]⟩:ByteArray).size≤9223372036854775807 from by decide)⟩) j8 rk302 oB) rfl rfl fun eG fG pB l1 qB=>?_
  obtain ⟨bD,rfl,gG,hG,rfl,l7,m7,rB,sB⟩:=qB
  obtain ⟨tB,uB,rfl⟩:=l7.form
  obtain ⟨vB,wB,rfl⟩:=m7.form
  have hZ:=l1.lst [] (fun _ h=>h.elim)
  refine BG [(8,[12])] hZ (by kernel_rfl) ?_
  refine Bb (i:=7) (by kernel_rfl) rfl ?_
  refine Bv 15 (by decide) pB (xs:=([i3]:List Opr)) rfl rfl rfl rfl ⟨(Vb.ofAgg (cs:=[(.string i3.name),(.int .i64 i3.cost),(.slice tB i3.pre.length uB),(.slice vB i3.effs.length wB)]) (x:=i3) rfl ⟨_,_,rfl,l7,m7,rB,sB⟩),trivial⟩ (by decide) (by decide) rfl fun iG jG kG m1 xB=>?_
  have hZ:=m1.lst [] (fun _ h=>h.elim)
  refine BG [(8,[12])] hZ (by kernel_rfl) ?_
  refine Bb (i:=8) (by kernel_rfl) rfl ?_
  obtain ⟨yB,h5,h1⟩:=bs h1
  obtain ⟨h5,zB,aC⟩:=AU h5
  replace p2:=(p2.st l1).st m1
  refine Bw rfl p2 (xB.rd) rfl rfl (by decide) zB aC rfl fun n7 o7 lG bC v1 p7=>?_
  rw [← h5] at p7 ⊢
  have hZ:=v1.lst [12] (fun _ h=>by cases h;decide)
  refine BG [] hZ (by kernel_rfl) ?_
  refine AY (fuel:=1) [] [(9,true)] (by kernel_rfl) rfl ?_
  refine Bc rfl rfl rfl (AM ?_)
  refine Bb (i:=10) (by kernel_rfl) rfl ?_
  replace f0:=((f0.st l1).st m1).st v1
  refine AR f0 rfl rfl rfl (Ba rfl) (allOne rfl) fun cC f2 f0=>?_
  replace f0:Lc 10 cC bC a0.1 26 [(.slice a0.2.1.1 b0.1.length a0.2.1.2),(.slice a0.2.2.1.1 b0.2.1.length a0.2.2.1.2),(.slice a0.2.2.2.1 b0.2.2.length a0.2.2.2.2),(.slice n7 yB.length o7)]:=f0
  refine Dm (by kernel_rfl) ?_
  refine Cn (by kernel_rfl) ?_
  obtain rfl:=sm h1
  exact show Exists _ from ⟨_,(n7,o7),rfl,⟨rfl,rfl,rfl,rfl,rfl,rfl,rfl,rfl,trivial⟩,_,(((hB.st l1).st m1).st v1).st f2,(((l0.st l1).st m1).st v1).st f2,(((h9.st l1).st m1).st v1).st f2,(((s0.st l1).st m1).st v1).st f2,(((t0.st l1).st m1).st v1).st f2,(((p0.st l1).st m1).st v1).st f2,(((c0.st l1).st m1).st v1).st f2,f0,(((t1.st l1).st m1).st v1).st f2,(((e1.st l1).st m1).st v1).st f2,(((f1.st l1).st m1).st v1).st f2,p7.st f2,(((k0.st l1).st m1).st v1).st f2⟩
 rintro mG q7 ⟨o3,b3,rfl,r7,nG,hB,c0,f0,t1,e1,f1,d2⟩
 replace hm:=AV hm
 refine AQ _ r7 ?_
 refine Al (Al (Aj (Bk (hl:=rfl) (hc:=(f0.1).cellsAt) rfl rfl ?_)))
 obtain ⟨oG,c3,t1⟩:=t1.freeze
 replace e1:=e1.st c3
 obtain ⟨pG,d3,e1⟩:=e1.freeze
 replace f1:=(f1.st c3).st d3
 obtain ⟨qG,e3,f1⟩:=f1.freeze
 replace d2:=((d2.st c3).st d3).st e3
 obtain ⟨s7,f3,d2⟩:=d2.freeze
 obtain ⟨dC,eC,hm⟩:=bs hm
 replace t1:=((t1.st d3).st e3).st f3
 replace e1:=(e1.st e3).st f3
 replace f1:=f1.st f3
 refine BE (O:=s7) (A:=All q7) (R:=fun w' F v=>Vb w' F v dC) (IX (fun _ h=>h) (Vb.mono (F:=Fr 0 q7 s7) (Vb.ofAgg (cs:=[(.slice a0.2.1.1 b0.1.length a0.2.1.2),(.slice a0.2.2.1.1 b0.2.1.length a0.2.2.1.2),(.slice a0.2.2.2.1 b0.2.2.length a0.2.2.2.2),(.slice b3.1 o3.length b3.2)]) (x:=(⟨b0.1,b0.2.1,b0.2.2,o3⟩:Tsk)) rfl ⟨_,_,_,_,rfl,t1,e1,f1,d2⟩) Fr.lt) eC) rfl rfl fun rG sG j4 u2 fC=>?_
 obtain ⟨rfl,gC⟩:=fC.int
 refine Au rfl rfl (o_z ?_)
 refine Al (Aj (Ar rfl rfl (Hb rfl rfl rfl (fun i5=>?_) fun i5=>?_)))
 ·
  replace hm:=ip hm i5
  refine o_z ?_
  refine Ah rfl (Al (Aj (Cw rfl rfl rfl ?_)))
  refine Ar rfl rfl ?_
  replace c0:=((((c0.st c3).st d3).st e3).st f3).st u2
  refine AR c0 rfl rfl rfl (Ba rfl) (allOne rfl) fun t7 hC c0=>?_
  replace c0:Lc 3 t7 j4 q0 26 [(.slice none 0 0),(.slice none 0 0),(.slice none 0 0),(.slice none 0 0)]:=c0
  refine Au rfl rfl (o_z ?_)
  refine AK ?_
  obtain rfl:=sm hm
  replace hB:=(((((hB.st c3).st d3).st e3).st f3).st u2).st hC
  exact ret2 rfl (BM (cs:=[(.slice none 0 0),(.slice none 0 0),(.slice none 0 0),(.slice none 0 0)]) rfl rfl c0.1.cellsAt) (AB rfl) ⟨hB.ext,_,_,rfl,(Vb.mono (F:=Fr 0 t7 j4) (Vb.ofAgg (cs:=[(.slice none 0 0),(.slice none 0 0),(.slice none 0 0),(.slice none 0 0)]) (x:=(⟨([]:List Int),([]:List Int),([]:List Fct),([]:List Opr)⟩:Tsk)) rfl ⟨_,_,_,_,rfl,(Vb.nil _ _),(Vb.nil _ _),(Vb.nil _ _),(Vb.nil _ _)⟩) hB.out),(vInt gC)⟩
 replace hm:=im hm i5
 refine o_z ?_
 refine Ae rfl (AO (Al (Aj ?_)))
 replace f0:=((((f0.st c3).st d3).st e3).st f3).st u2
 refine Bk (hl:=rfl) (hc:=(f0.1).cellsAt) rfl rfl ?_
 replace c0:=((((c0.st c3).st d3).st e3).st f3).st u2
 refine AR c0 rfl rfl rfl (Ba rfl) (allOne rfl) fun u7 x3 c0=>?_
 replace c0:Lc 3 u7 j4 q0 26 [(.slice a0.2.1.1 b0.1.length a0.2.1.2),(.slice a0.2.2.1.1 b0.2.1.length a0.2.2.1.2),(.slice a0.2.2.2.1 b0.2.2.length a0.2.2.2.2),(.slice b3.1 o3.length b3.2)]:=c0
 refine Au rfl rfl (o_z ?_)
 refine AK ?_
 obtain rfl:=sm hm
 replace hB:=(((((hB.st c3).st d3).st e3).st f3).st u2).st x3
 replace t1:=(t1.st u2).st x3
 replace e1:=(e1.st u2).st x3
 replace f1:=(f1.st u2).st x3
 replace d2:=(d2.st u2).st x3
 exact ret2 rfl (BM (cs:=[(.slice a0.2.1.1 b0.1.length a0.2.1.2),(.slice a0.2.2.1.1 b0.2.1.length a0.2.2.1.2),(.slice a0.2.2.2.1 b0.2.2.length a0.2.2.2.2),(.slice b3.1 o3.length b3.2)]) rfl rfl c0.1.cellsAt) (AB rfl) ⟨hB.ext,_,_,rfl,(Vb.mono (F:=Fr 0 u7 j4) (Vb.ofAgg (cs:=[(.slice a0.2.1.1 b0.1.length a0.2.1.2),(.slice a0.2.2.1.1 b0.2.1.length a0.2.2.1.2),(.slice a0.2.2.2.1 b0.2.2.length a0.2.2.2.2),(.slice b3.1 o3.length b3.2)]) (x:=(⟨b0.1,b0.2.1,b0.2.2,o3⟩:Tsk)) rfl ⟨_,_,_,_,rfl,t1,e1,f1,d2⟩) hB.out),(vInt (show inI64 (0) from by decide))⟩
noncomputable def Fe (x0:Tsk) (x1:List Int):Option (List ByteArray) :=
  bnd (rng (ρ:=(List ByteArray)) (fun (k33:Nat) (a34:Int) (s31:(List ByteArray))=>bnd (atI x0.ops a34) fun a56=>bnd (appI 16 s31 [a56.name]) fun u77=>some (.next u77)) x1 0 ([]:List ByteArray)) fun res29=>fin res29 fun (s93:(List ByteArray))=>some s93
theorem Mp {w:World} {A:Nat→Prop} (hA:∀ k,A k→k < w.heap.size) {vx0:Value} {x0:Tsk} (n0:Vb w A vx0 x0) {vx1:Value} {x1:List Int} (a0:Vb w A vx1 x1) {r:(List ByteArray)} (hm:Fe x0 x1=some r) :
    Fn Tryz.prog 17 [vx0,vx1] w fun v w'=>Ext w w'∧Vb w' (upA A w w') v r:=by
 obtain ⟨O,hB,j1⟩:=enter hA
 replace n0:=n0.mono j1
 obtain ⟨i2,rfl,v4,v5,v6,v7,rfl,h8,f0,g0,e0⟩:=n0
 obtain ⟨A9,o0,rfl⟩:=h8.form
 obtain ⟨p0,q0,rfl⟩:=f0.form
 obtain ⟨r0,s0,rfl⟩:=g0.form
 obtain ⟨t0,u0,rfl⟩:=e0.form
 replace a0:=a0.mono j1
 obtain ⟨k1,l1,rfl⟩:=a0.form
 refine AH Tryz.func17 rfl Tryz.ntmps17 rfl ?_
 unfold Fe at hm
 refine Al (Aj (Da 2 O rfl rfl fun v0 o1 m1 h0 i0=>?_))
 replace i0:Lc 2 o1 m1 v0 26 [(.slice A9 x0.vars.length o0),(.slice p0 x0.init.length q0),(.slice r0 x0.goal.length s0),(.slice t0 x0.ops.length u0)]:=i0
 refine Au rfl rfl (o_z ?_)
 refine Al (Aj (Au rfl rfl (o_z ?_)))
 refine Al (Al (Aj (Ar rfl rfl (AP rfl rfl ?_))))
 replace a0:=a0.st h0
 have w0:x1.length≤9223372036854775807:=Nat.le_trans a0.len.2.1 a0.len.2.2
 have j2:inI64 (x1.length:Int):=rngNat w0
 refine Ar rfl rfl (o_z ?_)
 obtain ⟨l0,y0,hm⟩:=bs hm
 refine AL (aft l0 (fun (d0:(List ByteArray)) (b0:(Option Addr×Nat))=>[(5,(.slice b0.1 d0.length b0.2))]) (fun d0 b0 w'=>∃ O':Lab,Bs w A w' O'∧Rw 3 w' O' 9 (.slice b0.1 d0.length b0.2) d0)) ?_ ?_
 ·
  refine AN ?_
  replace hB:=hB.st h0
  replace h8:=h8.st h0
  replace f0:=f0.st h0
  replace g0:=g0.st h0
  replace e0:=e0.st h0
  refine Bp (σ:=(List ByteArray)) (X:=(Option Addr×Nat)) (x1.length) y0 rfl w0 (fun (d0:(List ByteArray)) (b0:(Option Addr×Nat))=>[(2,(.pointer (some ⟨v0,0,none⟩))),(5,(.slice b0.1 d0.length b0.2)),(8,(.slice k1 x1.length l1))]) _ (fun d0 b0 w'=>∃ O':Lab,Bs w A w' O'∧Lc 2 w' O' v0 26 [(.slice A9 x0.vars.length o0),(.slice p0 x0.init.length q0),(.slice r0 x0.goal.length s0),(.slice t0 x0.ops.length u0)]∧Vb w' (Fr 0 w' O') (.slice A9 x0.vars.length o0) x0.vars∧Vb w' (Fr 0 w' O') (.slice p0 x0.init.length q0) x0.init∧Vb w' (Fr 0 w' O') (.slice r0 x0.goal.length s0) x0.goal∧Vb w' (Fr 0 w' O') (.slice t0 x0.ops.length u0) x0.ops∧Rw 3 w' O' 9 (.slice b0.1 d0.length b0.2) d0∧Vb w' (Fr 0 w' O') (.slice k1 x1.length l1) x1) _ (none,0) ⟨m1,hB,i0,h8,f0,g0,e0,(Rw.nil 3 (by decide)),a0⟩ ⟨rfl,rfl,rfl,rfl,rfl,trivial⟩ (fun _ _=>⟨rfl,rfl⟩) (fun _ _=>⟨rfl,trivial⟩) (fun _ _ _ ⟨O',hB,i0,h8,f0,g0,e0,j0,a0⟩=>⟨O',hB,j0⟩) ⟨rfl,rfl,rfl⟩ ⟨rfl,rfl⟩ ?_
  rintro p1 k2 d0 b0 l2 q1 m0 ⟨m2,hB,i0,h8,f0,g0,e0,j0,a0⟩ c0 z0 a1
  have rk33:inI64 (p1:Int):=rngK m0 w0
  refine Al (Aj ?_)
  obtain ⟨n2,o2,r1,b1,c1,d1,rfl,p2⟩:=a0.elem' m0
  refine Bi (hA:=b1) (hj:=rfl) (hlt:=c1) rfl rfl rfl ?_
  refine AE (hc:=cat0 d1) rfl rfl ?_
  refine Au rfl rfl (o_z ?_)
  refine Aj (Ar rfl rfl (AG rfl rfl (AE (hc:=Blk.cell (i:=3) (i0.1) rfl) rfl rfl ?_)))
  refine Ar rfl rfl ?_
  obtain ⟨s1,t1,c0⟩:=bs c0
  obtain ⟨u1,v1⟩:=AS t1
  obtain ⟨q2,r2,w1,e1,f1,g1,s2,t2,rfl,y1,z1,u2,a2⟩:=e0.elem' v1
  obtain ⟨v2,w2,rfl⟩:=y1.form
  obtain ⟨x2,y2,rfl⟩:=z1.form
  refine Bi (hA:=e1) (hj:=(Int.toNat_of_nonneg u1).symm) (hlt:=f1) rfl rfl rfl ?_
  refine AG rfl rfl (AE (hc:=cat0 g1) rfl rfl ?_)
  obtain ⟨z2,h1,c0⟩:=bs c0
  obtain ⟨h1,b2,c2⟩:=AU h1
  refine CP rfl (a:=s1.name) j0 (vStr a2) (fun _=>rfl) rfl (by decide) (by decide) b2 c2 ⟨rfl,rfl⟩ fun a3 d2 e2 b3 c3 k0 n1=>?_
  rw [← h1] at n1 ⊢
  refine Au rfl rfl (o_z ?_)
  obtain rfl:=sm c0
  exact show Exists _ from ⟨_,(d2,e2),rfl,⟨rfl,rfl,rfl,rfl,rfl,trivial⟩,_,hB.st k0,i0.st k0,h8.st k0,f0.st k0,g0.st k0,e0.st k0,n1,a0.st k0⟩
 replace hB:=hB.st h0
 rintro d3 f2 ⟨e3,f3,rfl,i1,g3,hB,j0⟩
 replace hm:=AV hm
 refine AQ _ i1 ?_
 refine Al (Aj (Ar rfl rfl (Au rfl rfl (o_z ?_))))
 refine AK ?_
 obtain ⟨g2,h2,j0⟩:=j0.freeze
 obtain rfl:=sm hm
 replace hB:=hB.st h2
 exact ret1v rfl (AB rfl) ⟨hB.ext,(Vb.mono (F:=Fr 0 f2 g2) j0 hB.out)⟩
noncomputable def DQ  : Option Bool :=
  bnd (Ca (⟨([2]:List Int),([0]:List Int),[(⟨0,1⟩:Fct)],[(⟨(⟨#[97]⟩:ByteArray),3,([]:List Fct),[(⟨([]:List Fct),0,1⟩:Eff)]⟩:Opr)]⟩:Tsk) [(⟨#[97]⟩:ByteArray)] 5 100) fun q56=>bnd (if q56.2.2.n=0 then (if q56.2.1=0 then (if q56.1.verdict=1 then (if q56.1.cost=3 then (bnd (GF q56.1.plan ([0]:List Int)) fun q100=>if q100=true then some true else some false) else (some false)) else (some false)) else (some false)) else (some false):Option Bool) fun y86=>some y86
theorem IZ {w:World} {A:Nat→Prop} (hA:∀ k,A k→k < w.heap.size)  {r:Bool} (hm:DQ  = some r) :
    Fn Tryz.prog 10 [] w fun v w'=>Ext w w'∧Vb w' (upA A w w') v r:=by
 obtain ⟨O,hB,s2⟩:=enter hA
 refine AH Tryz.func10 rfl Tryz.ntmps10 rfl ?_
 unfold DQ at hm
 refine Al (Aj (Au rfl rfl (o_z ?_)))
 refine Al (Aj (Bv 2 (by decide) O (xs:=(([2]:List Int):List Int)) rfl rfl rfl rfl ⟨(vInt (show inI64 (2) from by decide)),trivial⟩ (by decide) (by decide) rfl fun g1 w2 O3 S4 h5=>?_))
 refine Bv 3 (by decide) O3 (xs:=(([0]:List Int):List Int)) rfl rfl rfl rfl ⟨(vInt (show inI64 (0) from by decide)),trivial⟩ (by decide) (by decide) rfl fun g7 w8 O9 n0 q0=>?_
 refine Cw rfl rfl rfl ?_
 refine Bv 4 (by decide) O9 (xs:=([(⟨0,1⟩:Fct)]:List Fct)) rfl rfl rfl rfl ⟨(Vb.ofAgg (cs:=[(.int .i64 0),(.int .i64 1)]) (x:=(⟨0,1⟩:Fct)) rfl ⟨rfl,(show inI64 (0) from by decide),(show inI64 (1) from by decide)⟩),trivial⟩ (by decide) (by decide) rfl fun l1 t2 r1 m0 r0=>?_
 refine Cw rfl rfl rfl ?_
 refine Bv 5 (by decide) r1 (xs:=([(⟨([]:List Fct),0,1⟩:Eff)]:List Eff)) rfl rfl rfl rfl ⟨(Vb.ofAgg (cs:=[(.slice none 0 0),(.int .i64 0),(.int .i64 1)]) (x:=(⟨([]:List Fct),0,1⟩:Eff)) rfl ⟨_,rfl,(Vb.nil _ _),(show inI64 (0) from by decide),(show inI64 (1) from by decide)⟩),trivial⟩ (by decide) (by decide) rfl fun s1 u2 v2 j0 c1=>?_
 refine Cw rfl rfl rfl ?_
 obtain ⟨t1,k0,c1⟩:=c1.freeze
 refine Bv 6 (by decide) t1 (xs:=([(⟨(⟨#[97]⟩:ByteArray),3,([]:List Fct),[(⟨([]:List Fct),0,1⟩:Eff)]⟩:Opr)]:List Opr)) rfl rfl rfl rfl ⟨(Vb.ofAgg (cs:=[(.string (⟨#[97]⟩:ByteArray)),(.int .i64 3),(.slice none 0 0),(.slice (some ⟨s1,0,none⟩) [(⟨([]:List Fct),0,1⟩:Eff)].length 1)]) (x:=(⟨(⟨#[97]⟩:ByteArray),3,([]:List Fct),[(⟨([]:List Fct),0,1⟩:Eff)]⟩:Opr)) rfl ⟨_,_,rfl,(Vb.nil _ _),c1,(show inI64 (3) from by decide),(show (⟨#[97]⟩:ByteArray).size≤9223372036854775807 from by decide)⟩),trivial⟩ (by decide) (by decide) rfl fun m1 x2 u1 l0 s0=>?_
 refine Cw rfl rfl rfl ?_
 refine BD 7 u1 rfl fun v1 y2 n1 b0 v0=>?_
 refine AR v0 rfl rfl rfl (Ba rfl) (allOne rfl) fun w1 c0 v0=>?_
 replace v0:Lc 7 w1 n1 v1 26 [(.slice (some ⟨g1,0,none⟩) ([2]:List Int).length 1),(.slice (some ⟨g7,0,none⟩) ([0]:List Int).length 1),(.slice (some ⟨l1,0,none⟩) [(⟨0,1⟩:Fct)].length 1),(.slice (some ⟨m1,0,none⟩) [(⟨(⟨#[97]⟩:ByteArray),3,([]:List Fct),[(⟨([]:List Fct),0,1⟩:Eff)]⟩:Opr)].length 1)]:=v0
 refine o_z ?_
 refine Al (Aj (Bk (hl:=rfl) (hc:=(v0.1).cellsAt) rfl rfl ?_))
 refine Bv 8 (by decide) n1 (xs:=([(⟨#[97]⟩:ByteArray)]:List ByteArray)) rfl rfl rfl rfl ⟨(vStr (show (⟨#[97]⟩:ByteArray).size≤9223372036854775807 from by decide)),trivial⟩ (by decide) (by decide) rfl fun z2 a3 b3 d0 w0=>?_
 replace h5:=(((((((h5.st n0).st m0).st j0).st k0).st l0).st b0).st c0).st d0
 obtain ⟨c3,e0,h5⟩:=h5.freeze
 replace q0:=(((((((q0.st m0).st j0).st k0).st l0).st b0).st c0).st d0).st e0
 obtain ⟨d3,f0,q0⟩:=q0.freeze
 replace r0:=(((((((r0.st j0).st k0).st l0).st b0).st c0).st d0).st e0).st f0
 obtain ⟨e3,g0,r0⟩:=r0.freeze
 replace s0:=(((((s0.st b0).st c0).st d0).st e0).st f0).st g0
 obtain ⟨f3,h0,s0⟩:=s0.freeze
 replace w0:=(((w0.st e0).st f0).st g0).st h0
 obtain ⟨x1,i0,w0⟩:=w0.freeze
 obtain ⟨x0,y1,hm⟩:=bs hm
 replace h5:=(((h5.st f0).st g0).st h0).st i0
 replace q0:=((q0.st g0).st h0).st i0
 replace r0:=(r0.st h0).st i0
 replace s0:=s0.st i0
 refine Dl (O:=x1) (R:=fun w' F v=>T3 w' F v x0) (HP Fr.lt (Vb.ofAgg (cs:=[(.slice (some ⟨g1,0,none⟩) ([2]:List Int).length 1),(.slice (some ⟨g7,0,none⟩) ([0]:List Int).length 1),(.slice (some ⟨l1,0,none⟩) [(⟨0,1⟩:Fct)].length 1),(.slice (some ⟨m1,0,none⟩) [(⟨(⟨#[97]⟩:ByteArray),3,([]:List Fct),[(⟨([]:List Fct),0,1⟩:Eff)]⟩:Opr)].length 1)]) (x:=(⟨([2]:List Int),([0]:List Int),[(⟨0,1⟩:Fct)],[(⟨(⟨#[97]⟩:ByteArray),3,([]:List Fct),[(⟨([]:List Fct),0,1⟩:Eff)]⟩:Opr)]⟩:Tsk)) rfl ⟨_,_,_,_,rfl,h5,q0,r0,s0⟩) w0 (show inI64 (5) from by decide) (show inI64 (100) from by decide) y1) rfl rfl fun g3 h3 z1 t0 a2=>?_
 obtain ⟨i3,j3,k3,rfl,b2,c2,d2⟩:=a2
 obtain ⟨e2,rfl,l3,rfl,b1,m3,n3,o3⟩:=b2
 obtain ⟨f2,g2,rfl⟩:=b1.form
 obtain ⟨rfl,p3⟩:=c2.int
 obtain ⟨rfl,q3⟩:=d2.err
 refine Ar rfl rfl (BH rfl rfl rfl (BH rfl rfl rfl (BH rfl rfl rfl (BD 9 z1 rfl fun h2 r3 o1 o0 u0=>?_))))
 refine AR u0 rfl rfl rfl (Ba rfl) (allOne rfl) fun i2 p0 u0=>?_
 replace u0:Lc 9 i2 o1 h2 32 [(.int .i64 x0.1.verdict),(.slice f2 x0.1.plan.length g2),(.int .i64 x0.1.cost),(.int .i64 x0.1.expanded)]:=u0
 refine Au rfl rfl (Au rfl rfl (o_z ?_))
 refine Al ?_
 obtain ⟨j2,a0,hm⟩:=bs hm
 refine AL (fun l' w'=>∃ (k2:Unit) (O':Lab),subs l' [(0,(.bool j2))]∧Bs w A w' O') ?_ ?_
 ·
  refine Aj (Ar rfl rfl (OK rfl rfl (fun d1=>?_) fun d1=>?_))
  ·
   replace a0:=ip a0 d1
   refine Ar rfl rfl (Ay rfl rfl (Ar rfl rfl (Ay rfl rfl (Ex rfl rfl rfl (fun e1=>?_) fun e1=>?_))))
   ·
    replace a0:=ip a0 e1
    refine AX rfl rfl rfl (Ar rfl rfl (Ay rfl rfl (AG rfl rfl (Ay rfl rfl (AE (hc:=Blk.cell (i:=0) (u0.1) rfl) rfl rfl ?_)))))
    refine Ay rfl rfl (Ex rfl rfl rfl (fun f1=>?_) fun f1=>?_)
    ·
     replace a0:=ip a0 f1
     refine AX rfl rfl rfl (Ar rfl rfl (Ay rfl rfl (AG rfl rfl (Ay rfl rfl (AE (hc:=Blk.cell (i:=2) (u0.1) rfl) rfl rfl ?_)))))
     refine Ay rfl rfl (Ex rfl rfl rfl (fun h1=>?_) fun h1=>?_)
     ·
      replace a0:=ip a0 h1
      refine AX rfl rfl rfl (Ar rfl rfl (Ay rfl rfl (AG rfl rfl (Ay rfl rfl (AE (hc:=Blk.cell (i:=1) (u0.1) rfl) rfl rfl ?_)))))
      refine Ay rfl rfl (Bv 10 (by decide) o1 (xs:=(([0]:List Int):List Int)) rfl rfl rfl rfl ⟨(vInt (show inI64 (0) from by decide)),trivial⟩ (by decide) (by decide) rfl fun s3 p1 q1 i1 l2=>?_)
      refine Ay rfl rfl ?_
      obtain ⟨y0,j1,a0⟩:=bs a0
      replace b1:=((b1.st o0).st p0).st i1
      refine BE (O:=q1) (A:=All p1) (R:=fun w' F v=>Vb w' F v y0) (NB (fun _ h=>h) (Vb.mono (F:=Fr 0 p1 q1) b1 Fr.lt) (l2).all j1) rfl rfl fun m2 n2 o2 z0 k1=>?_
      obtain rfl:=k1.bool
      cases y0
      case false =>
       replace a0:=iF a0
       refine AX rfl rfl rfl (Au rfl rfl (o_z ?_))
       obtain rfl:=sm a0
       exact ⟨(),_,⟨rfl,trivial⟩,((((((((((((((((((hB.st S4).st n0).st m0).st j0).st k0).st l0).st b0).st c0).st d0).st e0).st f0).st g0).st h0).st i0).st t0).st o0).st p0).st i1).st z0⟩
      replace a0:=iT a0
      refine AX rfl rfl rfl (Au rfl rfl (o_z ?_))
      obtain rfl:=sm a0
      exact ⟨(),_,⟨rfl,trivial⟩,((((((((((((((((((hB.st S4).st n0).st m0).st j0).st k0).st l0).st b0).st c0).st d0).st e0).st f0).st g0).st h0).st i0).st t0).st o0).st p0).st i1).st z0⟩
     replace a0:=im a0 h1
     refine AX rfl rfl rfl (Ar rfl rfl (At rfl rfl rfl rfl (At rfl rfl rfl rfl (At rfl rfl rfl rfl (At rfl rfl rfl rfl (AT rfl rfl rfl (Au rfl rfl (o_z ?_))))))))
     obtain rfl:=sm a0
     exact ⟨(),_,⟨rfl,trivial⟩,((((((((((((((((hB.st S4).st n0).st m0).st j0).st k0).st l0).st b0).st c0).st d0).st e0).st f0).st g0).st h0).st i0).st t0).st o0).st p0⟩
    replace a0:=im a0 f1
    refine AX rfl rfl rfl (Ar rfl rfl (At rfl rfl rfl rfl (At rfl rfl rfl rfl (At rfl rfl rfl rfl (AT rfl rfl rfl (Ar rfl rfl (At rfl rfl rfl rfl (At rfl rfl rfl rfl (At rfl rfl rfl rfl (At rfl rfl rfl rfl (AT rfl rfl rfl (Au rfl rfl (o_z ?_)))))))))))))
    obtain rfl:=sm a0
    exact ⟨(),_,⟨rfl,trivial⟩,((((((((((((((((hB.st S4).st n0).st m0).st j0).st k0).st l0).st b0).st c0).st d0).st e0).st f0).st g0).st h0).st i0).st t0).st o0).st p0⟩
   replace a0:=im a0 e1
   refine AX rfl rfl rfl (Ar rfl rfl (At rfl rfl rfl rfl (At rfl rfl rfl rfl (At rfl rfl rfl rfl (AT rfl rfl rfl (Ar rfl rfl (At rfl rfl rfl rfl (At rfl rfl rfl rfl (At rfl rfl rfl rfl (AT rfl rfl rfl (Ar rfl rfl (At rfl rfl rfl rfl (At rfl rfl rfl rfl (At rfl rfl rfl rfl ?_))))))))))))))
   refine At rfl rfl rfl rfl (AT rfl rfl rfl (Au rfl rfl (o_z ?_)))
   obtain rfl:=sm a0
   exact ⟨(),_,⟨rfl,trivial⟩,((((((((((((((((hB.st S4).st n0).st m0).st j0).st k0).st l0).st b0).st c0).st d0).st e0).st f0).st g0).st h0).st i0).st t0).st o0).st p0⟩
  replace a0:=im a0 d1
  refine Ar rfl rfl (At rfl rfl rfl rfl (At rfl rfl rfl rfl (AT rfl rfl rfl (Ar rfl rfl (At rfl rfl rfl rfl (At rfl rfl rfl rfl (At rfl rfl rfl rfl (AT rfl rfl rfl (Ar rfl rfl (At rfl rfl rfl rfl (At rfl rfl rfl rfl (At rfl rfl rfl rfl (AT rfl rfl rfl (Ar rfl rfl ?_))))))))))))))
  refine At rfl rfl rfl rfl (At rfl rfl rfl rfl (At rfl rfl rfl rfl (At rfl rfl rfl rfl (AT rfl rfl rfl (Au rfl rfl (o_z ?_))))))
  obtain rfl:=sm a0
  exact ⟨(),_,⟨rfl,trivial⟩,((((((((((((((((hB.st S4).st n0).st m0).st j0).st k0).st l0).st b0).st c0).st d0).st e0).st f0).st g0).st h0).st i0).st t0).st o0).st p0⟩
 replace hB:=((((((((((((((((hB.st S4).st n0).st m0).st j0).st k0).st l0).st b0).st c0).st d0).st e0).st f0).st g0).st h0).st i0).st t0).st o0).st p0
 rintro p2 q2 ⟨k2,r2,a1,hB⟩
 refine AQ _ a1 ?_
 refine AK ?_
 obtain rfl:=sm hm
 exact ret1v rfl (AB rfl) ⟨hB.ext,vBool⟩
noncomputable def FN (x0:Tsk) (x1:List ByteArray):Option Bool :=
  bnd (bnd (Hx x0) fun q31=>if q31=true then if (x0.ops.length:Int)≤10 then (if (x1.length:Int)≤6 then (bnd (FL x0.vars 81) fun q44=>if q44≤81 then (some true) else (some false)) else (some false)) else (some false) else some false:Option Bool) fun y27=>some y27
theorem NO {w:World} {A:Nat→Prop} (hA:∀ k,A k→k < w.heap.size) {vx0:Value} {x0:Tsk} (i0:Vb w A vx0 x0) {vx1:Value} {x1:List ByteArray} (e0:Vb w A vx1 x1) {r:Bool} (hm:FN x0 x1=some r) :
    Fn Tryz.prog 8 [vx0,vx1] w fun v w'=>Ext w w'∧Vb w' (upA A w w') v r:=by
 obtain ⟨O,hB,p0⟩:=enter hA
 replace i0:=i0.mono p0
 obtain ⟨m1,rfl,v4,v5,v6,v7,rfl,h8,g0,h0,d0⟩:=i0
 obtain ⟨A9,q0,rfl⟩:=h8.form
 obtain ⟨r0,s0,rfl⟩:=g0.form
 obtain ⟨t0,u0,rfl⟩:=h0.form
 obtain ⟨v0,w0,rfl⟩:=d0.form
 replace e0:=e0.mono p0
 obtain ⟨n1,o1,rfl⟩:=e0.form
 refine AH Tryz.func8 rfl Tryz.ntmps8 rfl ?_
 unfold FN at hm
 refine Al (Aj (Da 2 O rfl rfl fun c1 j0 k0 b0 f0=>?_))
 replace f0:Lc 2 j0 k0 c1 26 [(.slice A9 x0.vars.length q0),(.slice r0 x0.init.length s0),(.slice t0 x0.goal.length u0),(.slice v0 x0.ops.length w0)]:=f0
 refine Au rfl rfl (o_z ?_)
 refine Al ?_
 obtain ⟨d1,a0,hm⟩:=bs hm
 refine AL (fun l' w'=>∃ (e1:Unit) (O':Lab),subs l' [(4,(.bool d1))]∧Bs w A w' O') ?_ ?_
 ·
  refine Aj (Bk (hl:=rfl) (hc:=(f0.1).cellsAt) rfl rfl ?_)
  obtain ⟨y0,f1,a0⟩:=bs a0
  replace h8:=h8.st b0
  replace g0:=g0.st b0
  replace h0:=h0.st b0
  replace d0:=d0.st b0
  refine BE (O:=k0) (A:=All j0) (R:=fun w' F v=>Vb w' F v y0) (MS (fun _ h=>h) (Vb.mono (F:=Fr 0 j0 k0) (Vb.ofAgg (cs:=[(.slice A9 x0.vars.length q0),(.slice r0 x0.init.length s0),(.slice t0 x0.goal.length u0),(.slice v0 x0.ops.length w0)]) (x:=x0) rfl ⟨_,_,_,_,rfl,h8,g0,h0,d0⟩) Fr.lt) f1) rfl rfl fun p1 z0 a1 c0 g1=>?_
  obtain rfl:=g1.bool
  cases y0
  case false =>
   replace a0:=iF a0
   refine Ar rfl rfl (At rfl rfl rfl rfl (At rfl rfl rfl rfl (At rfl rfl rfl rfl (At rfl rfl rfl rfl (AT rfl rfl rfl (Ar rfl rfl (At rfl rfl rfl rfl (At rfl rfl rfl rfl (At rfl rfl rfl rfl (AT rfl rfl rfl (Ar rfl rfl (At rfl rfl rfl rfl (At rfl rfl rfl rfl (At rfl rfl rfl rfl ?_))))))))))))))
   refine At rfl rfl rfl rfl (AT rfl rfl rfl (Au rfl rfl (o_z ?_)))
   obtain rfl:=sm a0
   exact ⟨(),_,⟨rfl,trivial⟩,(hB.st b0).st c0⟩
  replace a0:=iT a0
  refine Ar rfl rfl (Ay rfl rfl (AG rfl rfl (Ay rfl rfl ?_)))
  replace f0:=f0.st c0
  refine AE (hc:=Blk.cell (i:=3) (f0.1) rfl) rfl rfl ?_
  refine Ay rfl rfl (AP rfl rfl ?_)
  replace d0:=d0.st c0
  have h1:x0.ops.length≤9223372036854775807:=Nat.le_trans d0.len.2.1 d0.len.2.2
  have q1:inI64 (x0.ops.length:Int):=rngNat h1
  refine Ay rfl rfl (KW rfl rfl rfl (fun l0=>?_) fun l0=>?_)
  ·
   replace a0:=ip a0 l0
   refine AX rfl rfl rfl (Ar rfl rfl (Ay rfl rfl (Ar rfl rfl (Ay rfl rfl (AP rfl rfl ?_)))))
   replace e0:=(e0.st b0).st c0
   have i1:x1.length≤9223372036854775807:=Nat.le_trans e0.len.2.1 e0.len.2.2
   have r1:inI64 (x1.length:Int):=rngNat i1
   refine Ay rfl rfl (KW rfl rfl rfl (fun m0=>?_) fun m0=>?_)
   ·
    replace a0:=ip a0 m0
    refine AX rfl rfl rfl (Ar rfl rfl (Ay rfl rfl (AG rfl rfl (Ay rfl rfl (AE (hc:=Blk.cell (i:=0) (f0.1) rfl) rfl rfl ?_)))))
    refine Ay rfl rfl ?_
    obtain ⟨j1,k1,a0⟩:=bs a0
    replace h8:=h8.st c0
    refine BE (O:=a1) (A:=All z0) (R:=fun w' F v=>Vb w' F v j1) (NM (fun _ h=>h) (Vb.mono (F:=Fr 0 z0 a1) h8 Fr.lt) (show inI64 (81) from by decide) k1) rfl rfl fun s1 t1 u1 b1 l1=>?_
    obtain ⟨rfl,v1⟩:=l1.int
    refine Ay rfl rfl (KW rfl rfl rfl (fun n0=>?_) fun n0=>?_)
    ·
     replace a0:=ip a0 n0
     refine AX rfl rfl rfl (Au rfl rfl (o_z ?_))
     obtain rfl:=sm a0
     exact ⟨(),_,⟨rfl,trivial⟩,((hB.st b0).st c0).st b1⟩
    replace a0:=im a0 n0
    refine AX rfl rfl rfl (Au rfl rfl (o_z ?_))
    obtain rfl:=sm a0
    exact ⟨(),_,⟨rfl,trivial⟩,((hB.st b0).st c0).st b1⟩
   replace a0:=im a0 m0
   refine AX rfl rfl rfl (Ar rfl rfl (At rfl rfl rfl rfl (At rfl rfl rfl rfl (At rfl rfl rfl rfl (At rfl rfl rfl rfl (AT rfl rfl rfl (Au rfl rfl (o_z ?_))))))))
   obtain rfl:=sm a0
   exact ⟨(),_,⟨rfl,trivial⟩,(hB.st b0).st c0⟩
  replace a0:=im a0 l0
  refine AX rfl rfl rfl (Ar rfl rfl (At rfl rfl rfl rfl (At rfl rfl rfl rfl (At rfl rfl rfl rfl (AT rfl rfl rfl (Ar rfl rfl (At rfl rfl rfl rfl (At rfl rfl rfl rfl (At rfl rfl rfl rfl (At rfl rfl rfl rfl (AT rfl rfl rfl (Au rfl rfl (o_z ?_)))))))))))))
  obtain rfl:=sm a0
  exact ⟨(),_,⟨rfl,trivial⟩,(hB.st b0).st c0⟩
 replace hB:=hB.st b0
 rintro w1 y1 ⟨e1,z1,o0,hB⟩
 refine AQ _ o0 ?_
 refine AK ?_
 obtain rfl:=sm hm
 exact ret1v rfl (AB rfl) ⟨hB.ext,vBool⟩
end
section
open Go Go.RowKit
attribute [local irreducible] ewp owp hwp hwq hws Ev Evg Fn retPost loud loudS Res1
attribute [local irreducible] hwx loudX hwz zNext
noncomputable def DU (x0:Tsk) (x1:List ByteArray) (x2:Int):Option Bool :=
  bnd (bnd (FN x0 x1) fun q32=>if q32=true then bnd (Ft x1) fun q39=>if q39=true then some true else bnd (DQ) fun q46=>if q46=true then some false else some true else some true:Option Bool) fun y28=>if y28=true then (bnd (bnd (DQ) fun q62=>if q62=true then some true else some false:Option Bool) fun y58=>some y58) else (bnd (Ca x0 x1 x2 2000) fun q73=>bnd (CA x0 x1 x2) fun q103=>if q103.2≠0 then (bnd (bnd (He (⟨q73.2.2.n⟩:Err)) fun q144=>if q144=q103.2 then (if q73.1.verdict=0 then (if q73.2.1=0 then (some true) else (some false)) else (some false)) else (some false):Option Bool) fun y140=>some y140) else (bnd (FM q103.1) fun q159=>if q159=1125899906842624 then (bnd (if q73.2.2.n=0 then (if q73.1.verdict=2 then (if (q73.1.plan.length:Int)=0 then (if q73.1.cost=0 then (if q73.2.1=0 then (some true) else (some false)) else (some false)) else (some false)) else (some false)) else (some false):Option Bool) fun y168=>some y168) else (bnd (FK x0 x0.init q73.1.plan) fun q183=>bnd (if q73.2.2.n=0 then (if q73.1.verdict=1 then (if q183.2=true then (if q73.1.cost=q159 then (bnd (Fe x0 q73.1.plan) fun q203=>bnd (Eg q203 x1) fun q212=>if q73.2.1=q212 then (bnd (chkI (x2 * q73.2.1)) fun n221=>bnd (chkI (q183.1 + n221)) fun n224=>if q73.1.cost=n224 then (some true) else (some false)) else (some false)) else (some false)) else (some false)) else (some false)) else (some false):Option Bool) fun y195=>some y195)))
theorem IF {w:World} {A:Nat→Prop} (hA:∀ k,A k→k < w.heap.size) {vx0:Value} {x0:Tsk} (g3:Vb w A vx0 x0) {vx1:Value} {x1:List ByteArray} (o0:Vb w A vx1 x1) {x2:Int} (rx2:inI64 x2) {r:Bool} (hm:DU x0 x1 x2=some r) :
    Fn Tryz.prog 3 [vx0,vx1,(.int .i64 x2)] w fun v w'=>Ext w w'∧Vb w' (upA A w w') v r:=by
 obtain ⟨O,hB,p4⟩:=enter hA
 replace g3:=g3.mono p4
 obtain ⟨u7,rfl,v5,v6,v7,v8,rfl,h9,p0,q0,r0⟩:=g3
 obtain ⟨n1,o1,rfl⟩:=h9.form
 obtain ⟨p1,q1,rfl⟩:=p0.form
 obtain ⟨r1,s1,rfl⟩:=q0.form
 obtain ⟨t1,u1,rfl⟩:=r0.form
 replace o0:=o0.mono p4
 obtain ⟨q4,r4,rfl⟩:=o0.form
 refine AH Tryz.func3 rfl Tryz.ntmps3 rfl ?_
 unfold DU at hm
 refine Al (Aj (Da 2 O rfl rfl fun h3 e3 f3 w0 u0=>?_))
 replace u0:Lc 2 e3 f3 h3 26 [(.slice n1 x0.vars.length o1),(.slice p1 x0.init.length q1),(.slice r1 x0.goal.length s1),(.slice t1 x0.ops.length u1)]:=u0
 refine Au rfl rfl (o_z ?_)
 refine Al (Al ?_)
 obtain ⟨c5,j0,hm⟩:=bs hm
 refine AL (fun l' w'=>∃ (d5:Unit) (O':Lab),subs l' [(1,(.slice q4 x1.length r4)),(2,(.int .i64 x2)),(3,(.pointer (some ⟨h3,0,none⟩))),(26,(.bool c5))]∧Bs w A w' O'∧Vb w' (Fr 0 w' O') (.slice q4 x1.length r4) x1∧Lc 2 w' O' h3 26 [(.slice n1 x0.vars.length o1),(.slice p1 x0.init.length q1),(.slice r1 x0.goal.length s1),(.slice t1 x0.ops.length u1)]∧Vb w' (Fr 0 w' O') (.slice n1 x0.vars.length o1) x0.vars∧Vb w' (Fr 0 w' O') (.slice p1 x0.init.length q1) x0.init∧Vb w' (Fr 0 w' O') (.slice r1 x0.goal.length s1) x0.goal∧Vb w' (Fr 0 w' O') (.slice t1 x0.ops.length u1) x0.ops) ?_ ?_
 ·
  refine Aj (Bk (hl:=rfl) (hc:=(u0.1).cellsAt) rfl rfl ?_)
  refine Ar rfl rfl ?_
  obtain ⟨s4,e5,j0⟩:=bs j0
  replace o0:=o0.st w0
  replace h9:=h9.st w0
  replace p0:=p0.st w0
  replace q0:=q0.st w0
  replace r0:=r0.st w0
  refine BE (O:=f3) (A:=All e3) (R:=fun w' F v=>Vb w' F v s4) (NO (fun _ h=>h) (Vb.mono (F:=Fr 0 e3 f3) (Vb.ofAgg (cs:=[(.slice n1 x0.vars.length o1),(.slice p1 x0.init.length q1),(.slice r1 x0.goal.length s1),(.slice t1 x0.ops.length u1)]) (x:=x0) rfl ⟨_,_,_,_,rfl,h9,p0,q0,r0⟩) Fr.lt) (Vb.mono (F:=Fr 0 e3 f3) o0 Fr.lt) e5) rfl rfl fun w7 t4 u4 m0 f5=>?_
  obtain rfl:=f5.bool
  cases s4
  case false =>
   replace j0:=iF j0
   refine CC rfl rfl (Ar rfl rfl (At rfl rfl rfl rfl (At rfl rfl rfl rfl (AX rfl rfl rfl (Ar rfl rfl (At rfl rfl rfl rfl (At rfl rfl rfl rfl (AX rfl rfl rfl (o_z ?_)))))))))
   obtain rfl:=sm j0
   exact ⟨(),_,⟨rfl,rfl,rfl,rfl,trivial⟩,(hB.st w0).st m0,o0.st m0,u0.st m0,h9.st m0,p0.st m0,q0.st m0,r0.st m0⟩
  replace j0:=iT j0
  refine CB rfl rfl (Ar rfl rfl (Ay rfl rfl (Ar rfl rfl (Ay rfl rfl ?_))))
  obtain ⟨v4,g5,j0⟩:=bs j0
  replace o0:=o0.st m0
  refine BE (O:=u4) (A:=All t4) (R:=fun w' F v=>Vb w' F v v4) (Nb (fun _ h=>h) (Vb.mono (F:=Fr 0 t4 u4) o0 Fr.lt) g5) rfl rfl fun x7 h5 i5 s0 j5=>?_
  obtain rfl:=j5.bool
  cases v4
  case false =>
   replace j0:=iF j0
   refine AT rfl rfl rfl (Ar rfl rfl (Ay rfl rfl ?_))
   obtain ⟨w4,k5,j0⟩:=bs j0
   refine BE (O:=i5) (A:=All h5) (R:=fun w' F v=>Vb w' F v w4) (IZ (fun _ h=>h)  k5) rfl rfl fun y7 z7 a8 y0 l5=>?_
   obtain rfl:=l5.bool
   cases w4
   case false =>
    replace j0:=iF j0
    refine Ay rfl rfl (CC rfl rfl (AT rfl rfl rfl (o_z ?_)))
    obtain rfl:=sm j0
    exact ⟨(),_,⟨rfl,rfl,rfl,rfl,trivial⟩,(((hB.st w0).st m0).st s0).st y0,(o0.st s0).st y0,((u0.st m0).st s0).st y0,((h9.st m0).st s0).st y0,((p0.st m0).st s0).st y0,((q0.st m0).st s0).st y0,((r0.st m0).st s0).st y0⟩
   replace j0:=iT j0
   refine Ay rfl rfl (CB rfl rfl (AT rfl rfl rfl (o_z ?_)))
   obtain rfl:=sm j0
   exact ⟨(),_,⟨rfl,rfl,rfl,rfl,trivial⟩,(((hB.st w0).st m0).st s0).st y0,(o0.st s0).st y0,((u0.st m0).st s0).st y0,((h9.st m0).st s0).st y0,((p0.st m0).st s0).st y0,((q0.st m0).st s0).st y0,((r0.st m0).st s0).st y0⟩
  replace j0:=iT j0
  refine AT rfl rfl rfl (Ar rfl rfl (At rfl rfl rfl rfl (At rfl rfl rfl rfl (AX rfl rfl rfl (o_z ?_)))))
  obtain rfl:=sm j0
  exact ⟨(),_,⟨rfl,rfl,rfl,rfl,trivial⟩,((hB.st w0).st m0).st s0,o0.st s0,(u0.st m0).st s0,(h9.st m0).st s0,(p0.st m0).st s0,(q0.st m0).st s0,(r0.st m0).st s0⟩
 replace hB:=hB.st w0
 replace o0:=o0.st w0
 replace h9:=h9.st w0
 replace p0:=p0.st w0
 replace q0:=q0.st w0
 replace r0:=r0.st w0
 rintro b8 m5 ⟨d5,x4,i3,hB,o0,u0,h9,p0,q0,r0⟩
 refine AQ _ i3 ?_
 refine CN rfl (fun j3=>?_) (fun j3=>?_)
 ·
  replace hm:=ip hm j3
  refine Al ?_
  obtain ⟨n5,v0,hm⟩:=bs hm
  refine AL (fun l' w'=>∃ (o5:Unit) (O':Lab),subs l' [(6,(.bool n5))]∧Bs w A w' O') ?_ ?_
  ·
   refine Aj ?_
   obtain ⟨y4,p5,v0⟩:=bs v0
   refine BE (O:=x4) (A:=All m5) (R:=fun w' F v=>Vb w' F v y4) (IZ (fun _ h=>h)  p5) rfl rfl fun c8 d8 e8 z4 q5=>?_
   obtain rfl:=q5.bool
   cases y4
   case false =>
    replace v0:=iF v0
    refine Au rfl rfl (o_z ?_)
    obtain rfl:=sm v0
    exact ⟨(),_,⟨rfl,trivial⟩,hB.st z4⟩
   replace v0:=iT v0
   refine Au rfl rfl (o_z ?_)
   obtain rfl:=sm v0
   exact ⟨(),_,⟨rfl,trivial⟩,hB.st z4⟩
  rintro f8 g8 ⟨o5,h8,k3,hB⟩
  refine AQ _ k3 ?_
  refine AK ?_
  obtain rfl:=sm hm
  exact ret1v rfl (AB rfl) ⟨hB.ext,vBool⟩
 replace hm:=im' hm j3
 refine AO (Al (Aj (Bk (hl:=rfl) (hc:=(u0.1).cellsAt) rfl rfl ?_)))
 refine Ar rfl rfl (Ar rfl rfl ?_)
 obtain ⟨v1,r5,hm⟩:=bs hm
 refine Dl (O:=x4) (R:=fun w' F v=>T3 w' F v v1) (HP Fr.lt (Vb.ofAgg (cs:=[(.slice n1 x0.vars.length o1),(.slice p1 x0.init.length q1),(.slice r1 x0.goal.length s1),(.slice t1 x0.ops.length u1)]) (x:=x0) rfl ⟨_,_,_,_,rfl,h9,p0,q0,r0⟩) o0 rx2 (show inI64 (2000) from by decide) r5) rfl rfl fun i8 j8 s5 n0 t5=>?_
 obtain ⟨k8,l8,m8,rfl,u5,w5,x5⟩:=t5
 obtain ⟨y5,rfl,n8,rfl,z0,o8,p8,q8⟩:=u5
 obtain ⟨z5,a6,rfl⟩:=z0.form
 obtain ⟨rfl,r8⟩:=w5.int
 obtain ⟨rfl,b6⟩:=x5.err
 refine Ar rfl rfl (BH rfl rfl rfl (BH rfl rfl rfl (BH rfl rfl rfl (BD 3 s5 rfl fun c6 s8 a5 l0 i0=>?_))))
 refine AR i0 rfl rfl rfl (Ba rfl) (allOne rfl) fun l3 f0 i0=>?_
 replace i0:Lc 3 l3 a5 c6 32 [(.int .i64 v1.1.verdict),(.slice z5 v1.1.plan.length a6),(.int .i64 v1.1.cost),(.int .i64 v1.1.expanded)]:=i0
 refine Au rfl rfl (Au rfl rfl (o_z ?_))
 refine Al (Aj ?_)
 replace u0:=((u0.st n0).st l0).st f0
 refine Bk (hl:=rfl) (hc:=(u0.1).cellsAt) rfl rfl ?_
 refine Ar rfl rfl (Ar rfl rfl ?_)
 obtain ⟨t0,m3,hm⟩:=bs hm
 replace o0:=((o0.st n0).st l0).st f0
 replace h9:=((h9.st n0).st l0).st f0
 replace p0:=((p0.st n0).st l0).st f0
 replace q0:=((q0.st n0).st l0).st f0
 replace r0:=((r0.st n0).st l0).st f0
 refine Dl (O:=a5) (R:=fun w' F v=>T2 w' F v t0) (Lo Fr.lt (Vb.ofAgg (cs:=[(.slice n1 x0.vars.length o1),(.slice p1 x0.init.length q1),(.slice r1 x0.goal.length s1),(.slice t1 x0.ops.length u1)]) (x:=x0) rfl ⟨_,_,_,_,rfl,h9,p0,q0,r0⟩) o0 rx2 m3) rfl rfl fun d6 e6 n3 e0 o3=>?_
 obtain ⟨f6,g6,rfl,p3,q3⟩:=o3
 obtain ⟨b5,rfl,h6,i6,j6,k6,rfl,e1,f1,g1,h1⟩:=p3
 obtain ⟨o2,p2,rfl⟩:=e1.form
 obtain ⟨q2,r2,rfl⟩:=f1.form
 obtain ⟨s2,t2,rfl⟩:=g1.form
 obtain ⟨u2,v2,rfl⟩:=h1.form
 obtain ⟨rfl,l6⟩:=q3.int
 refine Ar rfl rfl (BH rfl rfl rfl (BH rfl rfl rfl (BD 4 n3 rfl fun r3 m6 i1 c0 a1=>?_)))
 refine AR a1 rfl rfl rfl (Ba rfl) (allOne rfl) fun j1 d0 a1=>?_
 replace a1:Lc 4 j1 i1 r3 26 [(.slice o2 t0.1.vars.length p2),(.slice q2 t0.1.init.length r2),(.slice s2 t0.1.goal.length t2),(.slice u2 t0.1.ops.length v2)]:=a1
 refine Au rfl rfl (o_z ?_)
 refine Al (Al (Aj (Ar rfl rfl (Hb rfl rfl rfl (fun w1=>?_) fun w1=>?_))))
 ·
  replace hm:=ip hm w1
  refine o_z ?_
  refine Ah rfl (Al ?_)
  obtain ⟨s3,g0,hm⟩:=bs hm
  refine AL (fun l' w'=>∃ (t3:Unit) (O':Lab),subs l' [(6,(.bool s3))]∧Bs w A w' O') ?_ ?_
  ·
   refine Aj (Ar rfl rfl ?_)
   obtain ⟨u3,v3,g0⟩:=bs g0
   refine BE (O:=i1) (A:=All j1) (R:=fun w' F v=>Vb w' F v u3) (OM (fun _ h=>h) b6 v3) rfl rfl fun n6 o6 p6 b1 w3=>?_
   obtain ⟨rfl,q6⟩:=w3.int
   refine Ar rfl rfl (Ex rfl rfl rfl (fun y1=>?_) fun y1=>?_)
   ·
    replace g0:=ip g0 y1
    refine Ar rfl rfl (Ay rfl rfl (AG rfl rfl (Ay rfl rfl ?_)))
    replace i0:=(((i0.st e0).st c0).st d0).st b1
    refine AE (hc:=Blk.cell (i:=0) (i0.1) rfl) rfl rfl ?_
    refine Ay rfl rfl (Ex rfl rfl rfl (fun z1=>?_) fun z1=>?_)
    ·
     replace g0:=ip g0 z1
     refine AX rfl rfl rfl (Ar rfl rfl (Ay rfl rfl (Ar rfl rfl (Ay rfl rfl (Ex rfl rfl rfl (fun a2=>?_) fun a2=>?_)))))
     ·
      replace g0:=ip g0 a2
      refine AX rfl rfl rfl (Au rfl rfl (o_z ?_))
      obtain rfl:=sm g0
      exact ⟨(),_,⟨rfl,trivial⟩,((((((hB.st n0).st l0).st f0).st e0).st c0).st d0).st b1⟩
     replace g0:=im g0 a2
     refine AX rfl rfl rfl (Au rfl rfl (o_z ?_))
     obtain rfl:=sm g0
     exact ⟨(),_,⟨rfl,trivial⟩,((((((hB.st n0).st l0).st f0).st e0).st c0).st d0).st b1⟩
    replace g0:=im g0 z1
    refine AX rfl rfl rfl (Ar rfl rfl (At rfl rfl rfl rfl (At rfl rfl rfl rfl (AT rfl rfl rfl (Au rfl rfl (o_z ?_))))))
    obtain rfl:=sm g0
    exact ⟨(),_,⟨rfl,trivial⟩,((((((hB.st n0).st l0).st f0).st e0).st c0).st d0).st b1⟩
   replace g0:=im g0 y1
   refine Ar rfl rfl (At rfl rfl rfl rfl (At rfl rfl rfl rfl (At rfl rfl rfl rfl (AT rfl rfl rfl (Ar rfl rfl (At rfl rfl rfl rfl (At rfl rfl rfl rfl (AT rfl rfl rfl (Au rfl rfl (o_z ?_))))))))))
   obtain rfl:=sm g0
   exact ⟨(),_,⟨rfl,trivial⟩,((((((hB.st n0).st l0).st f0).st e0).st c0).st d0).st b1⟩
  replace hB:=(((((hB.st n0).st l0).st f0).st e0).st c0).st d0
  rintro r6 s6 ⟨t3,t6,w2,hB⟩
  refine AQ _ w2 ?_
  refine AK ?_
  obtain rfl:=sm hm
  exact ret1v rfl (AB rfl) ⟨hB.ext,vBool⟩
 replace hm:=im hm w1
 refine o_z ?_
 refine Ae rfl (AO (Al (Aj (Bk (hl:=rfl) (hc:=(a1.1).cellsAt) rfl rfl ?_))))
 obtain ⟨x3,y3,hm⟩:=bs hm
 replace e1:=(e1.st c0).st d0
 replace f1:=(f1.st c0).st d0
 replace g1:=(g1.st c0).st d0
 replace h1:=(h1.st c0).st d0
 refine BE (O:=i1) (A:=All j1) (R:=fun w' F v=>Vb w' F v x3) (NN (fun _ h=>h) (Vb.mono (F:=Fr 0 j1 i1) (Vb.ofAgg (cs:=[(.slice o2 t0.1.vars.length p2),(.slice q2 t0.1.init.length r2),(.slice s2 t0.1.goal.length t2),(.slice u2 t0.1.ops.length v2)]) (x:=t0.1) rfl ⟨_,_,_,_,rfl,e1,f1,g1,h1⟩) Fr.lt) y3) rfl rfl fun u6 k1 l1 h0 z3=>?_
 obtain ⟨rfl,w6⟩:=z3.int
 refine Au rfl rfl (o_z ?_)
 refine Al (Al (Aj (Ar rfl rfl (Ex rfl rfl rfl (fun b2=>?_) fun b2=>?_))))
 ·
  replace hm:=ip hm b2
  refine o_z ?_
  refine Ah rfl (Al ?_)
  obtain ⟨a4,b0,hm⟩:=bs hm
  refine AL (fun l' w'=>∃ (b4:Unit) (O':Lab),subs l' [(6,(.bool a4))]∧Bs w A w' O') ?_ ?_
  ·
   refine Aj (Ar rfl rfl (OK rfl rfl (fun c2=>?_) fun c2=>?_))
   ·
    replace b0:=ip b0 c2
    refine Ar rfl rfl (Ay rfl rfl (AG rfl rfl (Ay rfl rfl ?_)))
    replace i0:=(((i0.st e0).st c0).st d0).st h0
    refine AE (hc:=Blk.cell (i:=0) (i0.1) rfl) rfl rfl ?_
    refine Ay rfl rfl (Ex rfl rfl rfl (fun d2=>?_) fun d2=>?_)
    ·
     replace b0:=ip b0 d2
     refine AX rfl rfl rfl (Ar rfl rfl (Ay rfl rfl (AG rfl rfl (Ay rfl rfl (AE (hc:=Blk.cell (i:=1) (i0.1) rfl) rfl rfl ?_)))))
     refine Ay rfl rfl (AP rfl rfl ?_)
     replace z0:=(((((z0.st l0).st f0).st e0).st c0).st d0).st h0
     have c4:v1.1.plan.length≤9223372036854775807:=Nat.le_trans z0.len.2.1 z0.len.2.2
     have x6:inI64 (v1.1.plan.length:Int):=rngNat c4
     refine Ay rfl rfl (Ex rfl rfl rfl (fun e2=>?_) fun e2=>?_)
     ·
      replace b0:=ip b0 e2
      refine AX rfl rfl rfl (Ar rfl rfl (Ay rfl rfl (AG rfl rfl (Ay rfl rfl (AE (hc:=Blk.cell (i:=2) (i0.1) rfl) rfl rfl ?_)))))
      refine Ay rfl rfl (Ex rfl rfl rfl (fun f2=>?_) fun f2=>?_)
      ·
       replace b0:=ip b0 f2
       refine AX rfl rfl rfl (Ar rfl rfl (Ay rfl rfl (Ar rfl rfl (Ay rfl rfl (Ex rfl rfl rfl (fun g2=>?_) fun g2=>?_)))))
       ·
        replace b0:=ip b0 g2
        refine AX rfl rfl rfl (Au rfl rfl (o_z ?_))
        obtain rfl:=sm b0
        exact ⟨(),_,⟨rfl,trivial⟩,((((((hB.st n0).st l0).st f0).st e0).st c0).st d0).st h0⟩
       replace b0:=im b0 g2
       refine AX rfl rfl rfl (Au rfl rfl (o_z ?_))
       obtain rfl:=sm b0
       exact ⟨(),_,⟨rfl,trivial⟩,((((((hB.st n0).st l0).st f0).st e0).st c0).st d0).st h0⟩
      replace b0:=im b0 f2
      refine AX rfl rfl rfl (Ar rfl rfl (At rfl rfl rfl rfl (At rfl rfl rfl rfl (AT rfl rfl rfl (Au rfl rfl (o_z ?_))))))
      obtain rfl:=sm b0
      exact ⟨(),_,⟨rfl,trivial⟩,((((((hB.st n0).st l0).st f0).st e0).st c0).st d0).st h0⟩
     replace b0:=im b0 e2
     refine AX rfl rfl rfl (Ar rfl rfl (At rfl rfl rfl rfl (At rfl rfl rfl rfl (At rfl rfl rfl rfl (AT rfl rfl rfl (Ar rfl rfl (At rfl rfl rfl rfl (At rfl rfl rfl rfl (AT rfl rfl rfl (Au rfl rfl (o_z ?_)))))))))))
     obtain rfl:=sm b0
     exact ⟨(),_,⟨rfl,trivial⟩,((((((hB.st n0).st l0).st f0).st e0).st c0).st d0).st h0⟩
    replace b0:=im b0 d2
    refine AX rfl rfl rfl (Ar rfl rfl (At rfl rfl rfl rfl (At rfl rfl rfl rfl (At rfl rfl rfl rfl (At rfl rfl rfl rfl (AT rfl rfl rfl (Ar rfl rfl (At rfl rfl rfl rfl (At rfl rfl rfl rfl (At rfl rfl rfl rfl (AT rfl rfl rfl (Ar rfl rfl (At rfl rfl rfl rfl (At rfl rfl rfl rfl ?_))))))))))))))
    refine AT rfl rfl rfl (Au rfl rfl (o_z ?_))
    obtain rfl:=sm b0
    exact ⟨(),_,⟨rfl,trivial⟩,((((((hB.st n0).st l0).st f0).st e0).st c0).st d0).st h0⟩
   replace b0:=im b0 c2
   refine Ar rfl rfl (At rfl rfl rfl rfl (At rfl rfl rfl rfl (At rfl rfl rfl rfl (AT rfl rfl rfl (Ar rfl rfl (At rfl rfl rfl rfl (At rfl rfl rfl rfl (At rfl rfl rfl rfl (At rfl rfl rfl rfl (AT rfl rfl rfl (Ar rfl rfl (At rfl rfl rfl rfl (At rfl rfl rfl rfl (At rfl rfl rfl rfl ?_))))))))))))))
   refine AT rfl rfl rfl (Ar rfl rfl (At rfl rfl rfl rfl (At rfl rfl rfl rfl (AT rfl rfl rfl (Au rfl rfl (o_z ?_))))))
   obtain rfl:=sm b0
   exact ⟨(),_,⟨rfl,trivial⟩,((((((hB.st n0).st l0).st f0).st e0).st c0).st d0).st h0⟩
  replace hB:=((((((hB.st n0).st l0).st f0).st e0).st c0).st d0).st h0
  rintro y6 z6 ⟨b4,a7,y2,hB⟩
  refine AQ _ y2 ?_
  refine AK ?_
  obtain rfl:=sm hm
  exact ret1v rfl (AB rfl) ⟨hB.ext,vBool⟩
 replace hm:=im hm b2
 refine o_z ?_
 refine Ae rfl (AO (Al (Aj ?_)))
 replace u0:=(((u0.st e0).st c0).st d0).st h0
 refine Bk (hl:=rfl) (hc:=(u0.1).cellsAt) rfl rfl ?_
 refine AG rfl rfl (AE (hc:=Blk.cell (i:=1) (u0.1) rfl) rfl rfl ?_)
 refine AG rfl rfl ?_
 replace i0:=(((i0.st e0).st c0).st d0).st h0
 refine AE (hc:=Blk.cell (i:=1) (i0.1) rfl) rfl rfl ?_
 obtain ⟨z2,d4,hm⟩:=bs hm
 replace h9:=(((h9.st e0).st c0).st d0).st h0
 replace p0:=(((p0.st e0).st c0).st d0).st h0
 replace q0:=(((q0.st e0).st c0).st d0).st h0
 replace r0:=(((r0.st e0).st c0).st d0).st h0
 replace z0:=(((((z0.st l0).st f0).st e0).st c0).st d0).st h0
 refine BE (O:=l1) (A:=All k1) (R:=fun w' F v=>T2 w' F v z2) (NK (fun _ h=>h) (Vb.mono (F:=Fr 0 k1 l1) (Vb.ofAgg (cs:=[(.slice n1 x0.vars.length o1),(.slice p1 x0.init.length q1),(.slice r1 x0.goal.length s1),(.slice t1 x0.ops.length u1)]) (x:=x0) rfl ⟨_,_,_,_,rfl,h9,p0,q0,r0⟩) Fr.lt) (Vb.mono (F:=Fr 0 k1 l1) p0 Fr.lt) (Vb.mono (F:=Fr 0 k1 l1) z0 Fr.lt) d4) rfl rfl fun b7 c7 e4 k0 f4=>?_
 obtain ⟨d7,e7,rfl,g4,h4⟩:=f4
 obtain ⟨rfl,f7⟩:=g4.int
 obtain rfl:=h4.bool
 refine Ar rfl rfl (BH rfl rfl rfl (BH rfl rfl rfl (Au rfl rfl (Au rfl rfl (o_z ?_)))))
 refine Al ?_
 obtain ⟨i4,a0,hm⟩:=bs hm
 refine AL (fun l' w'=>∃ (j4:Unit) (O':Lab),subs l' [(6,(.bool i4))]∧Bs w A w' O') ?_ ?_
 ·
  refine Aj (Ar rfl rfl (OK rfl rfl (fun h2=>?_) fun h2=>?_))
  ·
   replace a0:=ip a0 h2
   refine Ar rfl rfl (Ay rfl rfl (AG rfl rfl (Ay rfl rfl ?_)))
   replace i0:=i0.st k0
   refine AE (hc:=Blk.cell (i:=0) (i0.1) rfl) rfl rfl ?_
   refine Ay rfl rfl (Ex rfl rfl rfl (fun i2=>?_) fun i2=>?_)
   ·
    replace a0:=ip a0 i2
    refine AX rfl rfl rfl (Ar rfl rfl (Ay rfl rfl (Ar rfl rfl (AX rfl rfl rfl (Ar rfl rfl ?_)))))
    rcases Bool.eq_false_or_eq_true z2.2 with c1|c1
    ·
     try simp only [c1]
     replace a0:=ip a0 c1
     refine Ay rfl rfl (AG rfl rfl (Ay rfl rfl (AE (hc:=Blk.cell (i:=2) (i0.1) rfl) rfl rfl ?_)))
     refine Ay rfl rfl (Ar rfl rfl (Ay rfl rfl (Ex rfl rfl rfl (fun j2=>?_) fun j2=>?_)))
     ·
      replace a0:=ip a0 j2
      refine AX rfl rfl rfl (Ar rfl rfl (Ay rfl rfl (Ar rfl rfl (Ay rfl rfl ?_))))
      replace u0:=u0.st k0
      refine Bk (hl:=rfl) (hc:=(u0.1).cellsAt) rfl rfl ?_
      refine Ay rfl rfl (AG rfl rfl (Ay rfl rfl (AE (hc:=Blk.cell (i:=1) (i0.1) rfl) rfl rfl ?_)))
      refine Ay rfl rfl ?_
      obtain ⟨k4,l4,a0⟩:=bs a0
      replace h9:=h9.st k0
      replace p0:=p0.st k0
      replace q0:=q0.st k0
      replace r0:=r0.st k0
      replace z0:=z0.st k0
      refine Dl (O:=e4) (R:=fun w' F v=>Vb w' F v k4) (Mp Fr.lt (Vb.ofAgg (cs:=[(.slice n1 x0.vars.length o1),(.slice p1 x0.init.length q1),(.slice r1 x0.goal.length s1),(.slice t1 x0.ops.length u1)]) (x:=x0) rfl ⟨_,_,_,_,rfl,h9,p0,q0,r0⟩) z0 l4) rfl rfl fun g7 k2 l2 d1 a3=>?_
      obtain ⟨h7,i7,rfl⟩:=a3.form
      refine Ay rfl rfl (Ar rfl rfl (Ay rfl rfl ?_))
      obtain ⟨m4,n4,a0⟩:=bs a0
      replace o0:=(((((o0.st e0).st c0).st d0).st h0).st k0).st d1
      refine BE (O:=l2) (A:=All k2) (R:=fun w' F v=>Vb w' F v m4) (KF (fun _ h=>h) (Vb.mono (F:=Fr 0 k2 l2) a3 Fr.lt) (Vb.mono (F:=Fr 0 k2 l2) o0 Fr.lt) n4) rfl rfl fun j7 k7 l7 m1 o4=>?_
      obtain ⟨rfl,m7⟩:=o4.int
      refine Ay rfl rfl (Ex rfl rfl rfl (fun m2=>?_) fun m2=>?_)
      ·
       replace a0:=ip a0 m2
       refine AX rfl rfl rfl (Ar rfl rfl (Ay rfl rfl (AG rfl rfl (Ay rfl rfl ?_))))
       replace i0:=(i0.st d1).st m1
       refine AE (hc:=Blk.cell (i:=2) (i0.1) rfl) rfl rfl ?_
       refine Ay rfl rfl (Ar rfl rfl (Ay rfl rfl (Ar rfl rfl (Ay rfl rfl (Ar rfl rfl (Ay rfl rfl ?_))))))
       obtain ⟨n7,b3,a0⟩:=bs a0
       have o7:=(AW b3)
       refine OJ (he:=b3) rfl rfl rfl ?_
       refine Ay rfl rfl ?_
       obtain ⟨p7,c3,a0⟩:=bs a0
       have q7:=(AW c3)
       refine Dv (he:=c3) rfl rfl rfl ?_
       refine Ay rfl rfl (Ex rfl rfl rfl (fun n2=>?_) fun n2=>?_)
       ·
        replace a0:=ip a0 n2
        refine AX rfl rfl rfl (Au rfl rfl (o_z ?_))
        obtain rfl:=sm a0
        exact ⟨(),_,⟨rfl,trivial⟩,(((((((((hB.st n0).st l0).st f0).st e0).st c0).st d0).st h0).st k0).st d1).st m1⟩
       replace a0:=im a0 n2
       refine AX rfl rfl rfl (Au rfl rfl (o_z ?_))
       obtain rfl:=sm a0
       exact ⟨(),_,⟨rfl,trivial⟩,(((((((((hB.st n0).st l0).st f0).st e0).st c0).st d0).st h0).st k0).st d1).st m1⟩
      replace a0:=im a0 m2
      refine AX rfl rfl rfl (Ar rfl rfl (At rfl rfl rfl rfl (At rfl rfl rfl rfl (At rfl rfl rfl rfl (At rfl rfl rfl rfl (At rfl rfl rfl rfl (At rfl rfl rfl rfl (At rfl rfl rfl rfl (At rfl rfl rfl rfl (AT rfl rfl rfl (Au rfl rfl (o_z ?_))))))))))))
      obtain rfl:=sm a0
      exact ⟨(),_,⟨rfl,trivial⟩,(((((((((hB.st n0).st l0).st f0).st e0).st c0).st d0).st h0).st k0).st d1).st m1⟩
     replace a0:=im a0 j2
     refine AX rfl rfl rfl (Ar rfl rfl (At rfl rfl rfl rfl (At rfl rfl rfl rfl (At rfl rfl rfl rfl (At rfl rfl rfl rfl (At rfl rfl rfl rfl (At rfl rfl rfl rfl (At rfl rfl rfl rfl (At rfl rfl rfl rfl (AT rfl rfl rfl (Ar rfl rfl (At rfl rfl rfl rfl (At rfl rfl rfl rfl (At rfl rfl rfl rfl ?_))))))))))))))
     refine At rfl rfl rfl rfl (At rfl rfl rfl rfl (At rfl rfl rfl rfl (At rfl rfl rfl rfl (At rfl rfl rfl rfl (AT rfl rfl rfl (Au rfl rfl (o_z ?_)))))))
     obtain rfl:=sm a0
     exact ⟨(),_,⟨rfl,trivial⟩,(((((((hB.st n0).st l0).st f0).st e0).st c0).st d0).st h0).st k0⟩
    try simp only [c1]
    replace a0:=im' a0 c1
    refine At rfl rfl rfl rfl (At rfl rfl rfl rfl (At rfl rfl rfl rfl (At rfl rfl rfl rfl (AT rfl rfl rfl (Ar rfl rfl (At rfl rfl rfl rfl (At rfl rfl rfl rfl (At rfl rfl rfl rfl (At rfl rfl rfl rfl (At rfl rfl rfl rfl (At rfl rfl rfl rfl (At rfl rfl rfl rfl (At rfl rfl rfl rfl (AT rfl rfl rfl ?_))))))))))))))
    refine Ar rfl rfl (At rfl rfl rfl rfl (At rfl rfl rfl rfl (At rfl rfl rfl rfl (At rfl rfl rfl rfl (At rfl rfl rfl rfl (At rfl rfl rfl rfl (At rfl rfl rfl rfl (At rfl rfl rfl rfl (AT rfl rfl rfl (Au rfl rfl (o_z ?_)))))))))))
    obtain rfl:=sm a0
    exact ⟨(),_,⟨rfl,trivial⟩,(((((((hB.st n0).st l0).st f0).st e0).st c0).st d0).st h0).st k0⟩
   replace a0:=im a0 i2
   refine AX rfl rfl rfl (Ar rfl rfl (At rfl rfl rfl rfl (AT rfl rfl rfl (Ar rfl rfl (At rfl rfl rfl rfl (At rfl rfl rfl rfl (At rfl rfl rfl rfl (At rfl rfl rfl rfl (AT rfl rfl rfl (Ar rfl rfl (At rfl rfl rfl rfl (At rfl rfl rfl rfl (At rfl rfl rfl rfl (At rfl rfl rfl rfl ?_))))))))))))))
   refine At rfl rfl rfl rfl (At rfl rfl rfl rfl (At rfl rfl rfl rfl (At rfl rfl rfl rfl (AT rfl rfl rfl (Ar rfl rfl (At rfl rfl rfl rfl (At rfl rfl rfl rfl (At rfl rfl rfl rfl (At rfl rfl rfl rfl (At rfl rfl rfl rfl (At rfl rfl rfl rfl (At rfl rfl rfl rfl (At rfl rfl rfl rfl (AT rfl rfl rfl ?_))))))))))))))
   refine Au rfl rfl (o_z ?_)
   obtain rfl:=sm a0
   exact ⟨(),_,⟨rfl,trivial⟩,(((((((hB.st n0).st l0).st f0).st e0).st c0).st d0).st h0).st k0⟩
  replace a0:=im a0 h2
  refine Ar rfl rfl (At rfl rfl rfl rfl (At rfl rfl rfl rfl (At rfl rfl rfl rfl (AT rfl rfl rfl (Ar rfl rfl (At rfl rfl rfl rfl (AT rfl rfl rfl (Ar rfl rfl (At rfl rfl rfl rfl (At rfl rfl rfl rfl (At rfl rfl rfl rfl (At rfl rfl rfl rfl (AT rfl rfl rfl (Ar rfl rfl ?_))))))))))))))
  refine At rfl rfl rfl rfl (At rfl rfl rfl rfl (At rfl rfl rfl rfl (At rfl rfl rfl rfl (At rfl rfl rfl rfl (At rfl rfl rfl rfl (At rfl rfl rfl rfl (At rfl rfl rfl rfl (AT rfl rfl rfl (Ar rfl rfl (At rfl rfl rfl rfl (At rfl rfl rfl rfl (At rfl rfl rfl rfl (At rfl rfl rfl rfl (At rfl rfl rfl rfl ?_))))))))))))))
  refine At rfl rfl rfl rfl (At rfl rfl rfl rfl (At rfl rfl rfl rfl (AT rfl rfl rfl (Au rfl rfl (o_z ?_)))))
  obtain rfl:=sm a0
  exact ⟨(),_,⟨rfl,trivial⟩,(((((((hB.st n0).st l0).st f0).st e0).st c0).st d0).st h0).st k0⟩
 replace hB:=(((((((hB.st n0).st l0).st f0).st e0).st c0).st d0).st h0).st k0
 rintro r7 s7 ⟨j4,t7,d3,hB⟩
 refine AQ _ d3 ?_
 refine AK ?_
 obtain rfl:=sm hm
 exact ret1v rfl (AB rfl) ⟨hB.ext,vBool⟩
end
section
section
variable {α : Type}
inductive Scr:List α→List α→Nat→Prop
  | nil:Scr [] [] 0
  | del {x xs ys n}:Scr xs ys n→Scr (x :: xs) ys (n + 1)
  | ins {y xs ys n}:Scr xs ys n→Scr xs (y :: ys) (n + 1)
  | keep {x xs ys n}:Scr xs ys n→Scr (x :: xs) (x :: ys) n
theorem Scr.bound {xs ys:List α} {n:Nat} (h:Scr xs ys n):n≤xs.length + ys.length∧xs.length≤ys.length + n∧ys.length≤xs.length + n∧(xs.length + ys.length - n) % 2=0:=by
  induction h with
  | nil=>simp
  | del _ ih=>simp only [List.length_cons];omega
  | ins _ ih=>simp only [List.length_cons];omega
  | keep _ ih=>simp only [List.length_cons];omega
theorem Scr.all:∀ xs ys:List α,Scr xs ys (xs.length + ys.length)
  | [],[]=>.nil
  | [],y :: ys=>.ins (Scr.all [] ys)
  | x :: xs,ys=>by
    have:=Scr.del (x:=x) (Scr.all xs ys)
    rwa [show xs.length + ys.length + 1=(x :: xs).length + ys.length from by simp only [List.length_cons];omega] at this
end
section
variable {α : Type} [DecidableEq α]
def ed:List α→List α→Nat
  | [],ys=>ys.length
  | xs,[]=>xs.length
  | x :: xs,y :: ys=>if x=y then min (min (ed (x :: xs) ys) (ed xs (y :: ys)) + 1) (ed xs ys) else min (ed (x :: xs) ys) (ed xs (y :: ys)) + 1
termination_by xs ys=>xs.length + ys.length
theorem JH (ys:List α):ed [] ys=ys.length:=by cases ys<;>simp [ed]
theorem LH (xs:List α):ed xs []=xs.length:=by cases xs<;>simp [ed]
theorem Hl (x:α) (xs:List α) (y:α) (ys:List α):ed (x :: xs) (y :: ys)=if x=y then min (min (ed (x :: xs) ys) (ed xs (y :: ys)) + 1) (ed xs ys) else min (ed (x :: xs) ys) (ed xs (y :: ys)) + 1:=by rw [ed]
theorem Sz (n:Nat):∀ xs ys:List α,xs.length + ys.length≤n→Scr xs ys (ed xs ys):=by
  induction n with
  | zero =>
    intro xs ys h
    have h1:xs=[]:=List.eq_nil_of_length_eq_zero (by omega)
    have h2:ys=[]:=List.eq_nil_of_length_eq_zero (by omega)
    subst h1 h2
    rw [JH];exact .nil
  | succ n ih =>
    intro xs ys h
    match xs,ys,h with
    | [],ys,_=>rw [JH];simpa using Scr.all [] ys
    | x :: xs,[],_=>rw [LH];simpa using Scr.all (x :: xs) []
    | x :: xs,y :: ys,h =>
      simp only [List.length_cons] at h
      have h1:=ih (x :: xs) ys (by simp only [List.length_cons];omega)
      have h2:=ih xs (y :: ys) (by simp only [List.length_cons];omega)
      have h3:=ih xs ys (by omega)
      have hm:Scr (x :: xs) (y :: ys) (min (ed (x :: xs) ys) (ed xs (y :: ys)) + 1):=by
        rcases Nat.le_total (ed (x :: xs) ys) (ed xs (y :: ys)) with q|q
        · rw [Nat.min_eq_left q];exact .ins h1
        · rw [Nat.min_eq_right q];exact .del h2
      rw [Hl]
      by_cases e:x=y
      · rw [if_pos e]
        subst e
        rcases Nat.le_total (min (ed (x :: xs) ys) (ed xs (x :: ys)) + 1) (ed xs ys) with q|q
        · rw [Nat.min_eq_left q];exact hm
        · rw [Nat.min_eq_right q];exact .keep h3
      · rw [if_neg e];exact hm
theorem To {xs ys:List α} {n:Nat} (h:Scr xs ys n):ed xs ys≤n:=by
  induction h with
  | nil=>rw [JH];simp
  | @del x xs ys n _ ih =>
    cases ys with
    | nil=>rw [LH] at ih ⊢;simp only [List.length_cons];omega
    | cons y ys=>rw [Hl];split<;>omega
  | @ins y xs ys n _ ih =>
    cases xs with
    | nil=>rw [JH] at ih ⊢;simp only [List.length_cons];omega
    | cons x xs=>rw [Hl];split<;>omega
  | @keep x xs ys n _ ih=>rw [Hl,if_pos rfl];omega
theorem QY (xs ys:List α):Scr xs ys (ed xs ys):=Sz _ xs ys (Nat.le_refl _)
end
end
section
section
variable {α σ ρ β : Type}
theorem Ol {f:σ→Option (Ctl σ ρ)} (I:σ→Prop) (B:σ→Prop) (R:ρ→Prop) (μ:σ→Nat) (h:∀ s,I s→(∃ s',f s=some (.next s')∧I s'∧μ s' < μ s)∨(∃ s',f s=some (.brk s')∧B s')∨∃ r,f s=some (.ret r)∧R r) :
    ∀ s,I s→(∃ s',lop f s=some (.done s')∧B s')∨∃ r,lop f s=some (.ret r)∧R r:=by
  have key:∀ (n:Nat) s,I s→μ s < n→(∃ s',lop f s=some (.done s')∧B s')∨∃ r,lop f s=some (.ret r)∧R r:=by
    intro n
    induction n with
    | zero=>intro s _ hn;omega
    | succ n ih =>
      intro s hI hn
      rw [Fb]
      rcases h s hI with ⟨s',h1,h2,h3⟩|⟨s',h1,h2⟩|⟨r,h1,h2⟩
      · rw [h1];exact ih s' h2 (by omega)
      · rw [h1];exact .inl ⟨s',rfl,h2⟩
      · rw [h1];exact .inr ⟨r,rfl,h2⟩
  exact fun s hI=>key (μ s + 1) s hI (by omega)
theorem Nc {f:σ→Option (Ctl σ ρ)} {s₀:σ} {k:Fin σ ρ→Option β} {P:β→Prop} (I:σ→Prop) (B:σ→Prop) (R:ρ→Prop) (μ:σ→Nat) (h0:I s₀)
    (h:∀ s,I s→(∃ s',f s=some (.next s')∧I s'∧μ s' < μ s)∨(∃ s',f s=some (.brk s')∧B s')∨∃ r,f s=some (.ret r)∧R r)
    (hb:∀ s,B s→∃ r,k (.done s)=some r∧P r) (hr:∀ q,R q→∃ r,k (.ret q)=some r∧P r):∃ r,bnd (lop f s₀) k=some r∧P r:=by
  rcases Ol I B R μ h s₀ h0 with ⟨s,h1,h2⟩|⟨q,h1,h2⟩
  · rw [h1,Am];exact hb s h2
  · rw [h1,Am];exact hr q h2
theorem Rr {f:σ→Option (Ctl σ ρ)} {s₀:σ} {k:Fin σ ρ→Option β} {r:Option β} (I:σ→Prop) (B:σ→Prop) (μ:σ→Nat) (h0:I s₀)
    (h:∀ s,I s→(∃ s',f s=some (.next s')∧I s'∧μ s' < μ s)∨(∃ s',f s=some (.brk s')∧B s')) (hb:∀ s,B s→k (.done s)=r):bnd (lop f s₀) k=r:=by
  rcases Ol I B (fun _=>False) μ (fun s hI=>(h s hI).imp id .inl) s₀ h0 with ⟨s,h1,h2⟩|⟨q,_,h2⟩
  · rw [h1,Am];exact hb s h2
  · exact h2.elim
theorem Il {f:Nat→α→σ→Option (Ctl σ ρ)} {xs:List α} {s₀:σ} {k:Fin σ ρ→Option β} {P:β→Prop} (I:Nat→σ→Prop) (R:ρ→Prop) (h0:I 0 s₀)
    (h:∀ i x s,xs[i]?=some x→I i s→(∃ s',f i x s=some (.next s')∧I (i + 1) s')∨∃ q,f i x s=some (.ret q)∧R q)
    (hb:∀ s,I xs.length s→∃ r,k (.done s)=some r∧P r) (hr:∀ q,R q→∃ r,k (.ret q)=some r∧P r):∃ r,bnd (rng f xs 0 s₀) k=some r∧P r:=by
  have key:∀ (ys:List α) (j:Nat) (s:σ),(∀ i,ys[i]?=xs[j + i]?)→j + ys.length=xs.length→I j s→∃ r,bnd (rng f ys j s) k=some r∧P r:=by
    intro ys
    induction ys with
    | nil=>intro j s _ hl hI;exact hb s (by simp at hl;rw [← hl];exact hI)
    | cons y ys ih =>
      intro j s hg hl hI
      have hy:xs[j]?=some y:=by have:=hg 0;simpa using this.symm
      simp only [rng]
      rcases h j y s hy hI with ⟨s',h1,h2⟩|⟨q,h1,h2⟩
      · rw [h1]
        exact ih (j + 1) s' (fun i=>by have:=hg (i + 1);rw [show j + 1 + i=j + (i + 1) from by omega,← this];simp) (by simp at hl;omega) h2
      · rw [h1,Am];exact hr q h2
  exact key xs 0 s₀ (fun i=>by rw [Nat.zero_add]) (by omega) h0
theorem Kb {f:Nat→α→σ→Option (Ctl σ ρ)} {xs:List α} {s₀:σ} {k:Fin σ ρ→Option β} {r:Option β} (I:Nat→σ→Prop) (h0:I 0 s₀)
    (h:∀ i x s,xs[i]?=some x→I i s→∃ s',f i x s=some (.next s')∧I (i + 1) s') (hb:∀ s,I xs.length s→k (.done s)=r):bnd (rng f xs 0 s₀) k=r:=by
  obtain ⟨s,h1,h2⟩:=EI I h0 h
  rw [h1,Am]
  exact hb s h2
end
end
section
open Go Go.RowKit
def dE (ar b:List ByteArray) (j:Nat):Int:=((ed ar (b.take j).reverse:Nat):Int)
theorem Mw (ar b:List ByteArray) (j:Nat):0≤dE ar b j∧dE ar b j≤(ar.length:Int) + b.length:=by
  have h:=(QY ar (b.take j).reverse).bound.1
  rw [List.length_reverse,List.length_take] at h
  unfold dE
  omega
theorem SA (b:List ByteArray) {j:Nat} (h:j≤b.length):dE [] b j=(j:Int):=by
  unfold dE
  rw [JH,List.length_reverse,List.length_take]
  omega
theorem Rs (ar b:List ByteArray):dE ar b 0=(ar.length:Int):=by unfold dE;simp [LH]
theorem IG {α:Type} {b:List α} {k:Nat} {y:α} (h:b[k]?=some y):(b.take (k + 1)).reverse=y :: (b.take k).reverse:=by
  rw [List.take_add_one,h];simp
theorem PI {x:ByteArray} {ar b:List ByteArray} {k:Nat} (h:b[k]?=some x):dE (x :: ar) b (k + 1)=min (min (dE (x :: ar) b k) (dE ar b (k + 1)) + 1) (dE ar b k):=by
  unfold dE
  rw [IG h,Hl,if_pos rfl]
  omega
theorem QZ {x y:ByteArray} {ar b:List ByteArray} {k:Nat} (h:b[k]?=some y) (hn:¬ x=y):dE (x :: ar) b (k + 1)=min (dE (x :: ar) b k) (dE ar b (k + 1)) + 1:=by
  unfold dE
  rw [IG h,Hl,if_neg hn]
  omega
def RowK (ar b:List ByteArray) (k:Nat) (s:List Int):Prop:=s.length=b.length + 1∧∀ j,j≤k→s[j]?=some (dE ar b j)
theorem RowK.set {ar b:List ByteArray} {k:Nat} {s:List Int} (h:RowK ar b k s) (hk:k < b.length) {v:Int} (hv:v=dE ar b (k + 1)):RowK ar b (k + 1) (s.set (k + 1) v):=by
  refine ⟨by rw [List.length_set];exact h.1,fun j hj=>?_⟩
  rcases Nat.lt_or_ge j (k + 1) with hl|hl
  · rw [List.getElem?_set_ne (by omega)];exact h.2 j (by omega)
  · have:j=k + 1:=by omega
    subst this
    rw [List.getElem?_set_self (by rw [h.1];omega),hv]
theorem Mc {b:List ByteArray} {f:Nat→List Int→Option (Ctl (List Int) Int)} (hf:∀ (k:Nat) (s:List Int),f k s=bnd (s[k]?) fun _=>some (.next (s.set k (k:Int)))) :
    ∃ s,rngN (ρ:=Int) f (List.replicate (b.length + 1) (0:Int)).length (List.replicate (b.length + 1) (0:Int))=some (.done s)∧RowK [] b b.length s:=by
  obtain ⟨s,h1,h2,h3⟩:=Qn (f:=f) (N:=(List.replicate (b.length + 1) (0:Int)).length) (s₀:=List.replicate (b.length + 1) (0:Int)) (fun k s=>s.length=b.length + 1∧∀ j,j < k→s[j]?=some (j:Int))
    ⟨by simp,fun j hj=>by omega⟩ (fun k s hk ⟨hl,hs⟩=>by
      rw [List.length_replicate] at hk
      have hg:s[k]?=some (s[k]'(by omega)):=List.getElem?_eq_getElem _
      refine ⟨s.set k (k:Int),by rw [hf,hg,Am],by rw [List.length_set];exact hl,fun j hj=>?_⟩
      rcases Nat.lt_or_ge j k with hl'|hl'
      · rw [List.getElem?_set_ne (by omega)];exact hs j hl'
      · have:j=k:=by omega
        subst this
        rw [List.getElem?_set_self (by omega)])
  refine ⟨s,h1,h2,fun j hj=>?_⟩
  rw [h3 j (by rw [List.length_replicate];omega),SA b hj]
theorem Md {ar b:List ByteArray}:RowK ar b 0 ((List.replicate (b.length + 1) (0:Int)).set (0:Int).toNat (ar.length:Int)):=by
  refine ⟨by simp,fun j hj=>?_⟩
  have:j=0:=by omega
  subst this
  rw [Rs]
  exact List.getElem?_set_self (by simp)
theorem chk1 {k:Nat} (h:k≤8796093022208):chkI ((k:Int) + 1)=some ((k + 1:Nat):Int):=by rw [BA (by unfold inI64;omega)];simp
theorem SB {a b:List ByteArray} (ha:a.length≤8796093022208) (hb:b.length≤8796093022208):CX a b=some ((ed a.reverse b.reverse:Nat):Int):=by
  unfold CX
  rw [chk1 hb,Am,Ht (by omega) (by omega),Am]
  obtain ⟨s0,h1,h2⟩:=Mc (b:=b) (f:=fun k s=>bnd (s[k]?) fun _=>some (.next (s.set k (k:Int)))) (fun _ _=>rfl)
  rw [h1,Am,BO]
  refine Kb (fun i s=>RowK (a.take i).reverse b b.length s) (by simpa using h2) ?_ ?_
  · intro i x s hx hI
    have hi:=AD hx
    rw [Am,Ht (by omega) (by omega),Am,chk1 (k:=i) (by omega),Am]
    rw [show atI (List.replicate (b.length + 1) (0:Int)) 0=some 0 from by rw [show (0:Int)=((0:Nat):Int) from rfl,By];simp,Am]
    have hst:RowK (x :: (a.take i).reverse) b 0 ((List.replicate (b.length + 1) (0:Int)).set (0:Int).toNat ((i + 1:Nat):Int)):=by
      have:=Md (ar:=x :: (a.take i).reverse) (b:=b)
      rwa [List.length_cons,List.length_reverse,List.length_take,Nat.min_eq_left (by omega)] at this
    have hlen:((a.take i).reverse).length=i:=by rw [List.length_reverse,List.length_take];omega
    obtain ⟨s',h3,h4⟩:=EI (f:=fun (k138:Nat) (a139:ByteArray) (s136:List Int)=>bnd (chkI ((k138:Int) + 1)) fun n161=>bnd (s136[k138]?) fun a164=>bnd (chkI ((k138:Int) + 1)) fun n174=>bnd (atI s n174) fun a177=>bnd (chkI ((min a164 a177) + 1)) fun n189=>bnd (atI s136 n161) fun _=>if x=a139 then (bnd (chkI ((k138:Int) + 1)) fun n207=>bnd (chkI ((k138:Int) + 1)) fun n210=>bnd (atI (s136.set (n161:Int).toNat n189) n210) fun a213=>bnd (s[k138]?) fun a225=>bnd (atI (s136.set (n161:Int).toNat n189) n207) fun _=>some (.next ((s136.set (n161:Int).toNat n189).set (n207:Int).toNat (min a213 a225)))) else (some (.next (s136.set (n161:Int).toNat n189):Ctl (List Int) (Ctl (List Int) Int)))) (xs:=b) (RowK (x :: (a.take i).reverse) b) hst (fun k y u hy hu=>by
        have hk:=AD hy
        have b1:=Mw (x :: (a.take i).reverse) b k
        have b2:=Mw (a.take i).reverse b (k + 1)
        rw [List.length_cons,hlen] at b1
        rw [hlen] at b2
        rw [chk1 (by omega),Am,hu.2 k (Nat.le_refl _),Am,Am,By,hI.2 (k + 1) (by omega),Am,BA (by unfold inI64;omega),Am]
        rw [By,List.getElem?_eq_getElem (by rw [hu.1];omega),Am,Int.toNat_natCast]
        by_cases e:x=y
        · subst e
          rw [if_pos rfl,Am,Am,By,List.getElem?_set_self (by rw [hu.1];omega),Am,hI.2 k (by omega),Am,Am,Int.toNat_natCast,List.set_set]
          exact ⟨_,rfl,hu.set hk (PI hy).symm⟩
        · rw [if_neg e]
          exact ⟨_,rfl,hu.set hk (QZ hy e).symm⟩)
    rw [h3,Am,BO]
    refine ⟨s',rfl,?_⟩
    rw [IG hx]
    exact h4
  · intro s hI
    rw [BO,hI.2 b.length (Nat.le_refl _),Am]
    unfold dE
    rw [List.take_length,List.take_length]
theorem Rt {a b:List ByteArray} (ha:a.length≤8796093022208) (hb:b.length≤8796093022208):Eg a b=some ((ed a.reverse b.reverse:Nat):Int):=by
  unfold Eg
  rw [chk1 hb,Am,Ht (by omega) (by omega),Am]
  obtain ⟨s0,h1,h2⟩:=Mc (b:=b) (f:=fun k s=>bnd (s[k]?) fun _=>some (.next (s.set k (k:Int)))) (fun _ _=>rfl)
  rw [h1,Am,BO]
  refine Kb (fun i s=>RowK (a.take i).reverse b b.length s) (by simpa using h2) ?_ ?_
  · intro i x s hx hI
    have hi:=AD hx
    rw [Am,Ht (by omega) (by omega),Am,chk1 (k:=i) (by omega),Am]
    rw [show atI (List.replicate (b.length + 1) (0:Int)) 0=some 0 from by rw [show (0:Int)=((0:Nat):Int) from rfl,By];simp,Am]
    have hst:RowK (x :: (a.take i).reverse) b 0 ((List.replicate (b.length + 1) (0:Int)).set (0:Int).toNat ((i + 1:Nat):Int)):=by
      have:=Md (ar:=x :: (a.take i).reverse) (b:=b)
      rwa [List.length_cons,List.length_reverse,List.length_take,Nat.min_eq_left (by omega)] at this
    have hlen:((a.take i).reverse).length=i:=by rw [List.length_reverse,List.length_take];omega
    obtain ⟨s',h3,h4⟩:=EI (f:=fun (k130:Nat) (a131:ByteArray) (s128:List Int)=>bnd (chkI ((k130:Int) + 1)) fun n145=>bnd (chkI ((k130:Int) + 1)) fun n148=>bnd (atI s n148) fun a151=>bnd (s128[k130]?) fun a163=>bnd (chkI ((min a151 a163) + 1)) fun n173=>bnd (atI s128 n145) fun _=>if x=a131 then (bnd (chkI ((k130:Int) + 1)) fun n207=>bnd (chkI ((k130:Int) + 1)) fun n210=>bnd (atI (s128.set (n145:Int).toNat n173) n210) fun a213=>bnd (s[k130]?) fun a225=>bnd (atI (s128.set (n145:Int).toNat n173) n207) fun _=>some (.next ((s128.set (n145:Int).toNat n173).set (n207:Int).toNat (min a213 a225)))) else (some (.next (s128.set (n145:Int).toNat n173):Ctl (List Int) (Ctl (List Int) Int)))) (xs:=b) (RowK (x :: (a.take i).reverse) b) hst (fun k y u hy hu=>by
        have hk:=AD hy
        have b1:=Mw (x :: (a.take i).reverse) b k
        have b2:=Mw (a.take i).reverse b (k + 1)
        rw [List.length_cons,hlen] at b1
        rw [hlen] at b2
        rw [chk1 (by omega),Am,Am,By,hI.2 (k + 1) (by omega),Am,hu.2 k (Nat.le_refl _),Am,BA (by unfold inI64;omega),Am]
        rw [By,List.getElem?_eq_getElem (by rw [hu.1];omega),Am,Int.toNat_natCast]
        by_cases e:x=y
        · subst e
          rw [if_pos rfl,Am,Am,By,List.getElem?_set_self (by rw [hu.1];omega),Am,hI.2 k (by omega),Am,Am,Int.toNat_natCast,List.set_set]
          exact ⟨_,rfl,hu.set hk (by rw [PI hy];omega)⟩
        · rw [if_neg e]
          exact ⟨_,rfl,hu.set hk (by rw [QZ hy e];omega)⟩)
    rw [h3,Am,BO]
    refine ⟨s',rfl,?_⟩
    rw [IG hx]
    exact h4
  · intro s hI
    rw [BO,hI.2 b.length (Nat.le_refl _),Am]
    unfold dE
    rw [List.take_length,List.take_length]
theorem PJ (a:List ByteArray):∃ b,Ft a=some b:=by
  have key:∀ (xs:List ByteArray) (k:Nat) (s:Int),∃ s',rng (ρ:=Bool) (fun (_:Nat) (x:ByteArray) (s:Int)=>some (.next (wr (s + (x.size:Int))))) xs k s=some (.done s'):=by
    intro xs
    induction xs with
    | nil=>intro k s;exact ⟨s,rfl⟩
    | cons x xs ih=>intro k s;exact ih (k + 1) _
  obtain ⟨s,hs⟩:=key a 0 (a.length:Int)
  unfold Ft
  rw [hs,Am,BO]
  by_cases h:600 < s
  · exact ⟨true,by rw [if_pos h,Am]⟩
  · exact ⟨false,by rw [if_neg h,Am]⟩
end
section
open Go Go.RowKit
def keptO (o:Opr) (v p:Int):Opr:=⟨o.name,o.cost,o.pre ++ [⟨v,p⟩],o.effs ++ [⟨[],v,p + 1⟩]⟩
def insL (t:Tsk) (w:Int):List (Opr×Prt):=t.ops.zipIdx.map fun q=>(⟨q.1.name,q.1.cost + w,q.1.pre,q.1.effs⟩,⟨(q.2:Int)⟩)
def keepL (ops:List (Opr×Nat)) (v p:Int) (name:ByteArray):List (Opr×Prt):=(ops.filter fun q=>decide (q.1.name=name)).map fun q=>(keptO q.1 v p,⟨(q.2:Int)⟩)
def delE (w v p:Int):Opr×Prt:=(keptO ⟨⟨#[]⟩,w,[],[]⟩ v p,⟨-1⟩)
def stepL (t:Tsk) (w v p:Int) (name:ByteArray):List (Opr×Prt):=keepL t.ops.zipIdx v p name ++ [delE w v p]
def delL (t:Tsk) (w v:Int):Nat→List ByteArray→List (Opr×Prt)
  | _,[]=>[]
  | p,name :: r=>stepL t w v (p:Int) name ++ delL t w v (p + 1) r
def cmpL (t:Tsk) (old:List ByteArray) (w:Int):List (Opr×Prt):=insL t w ++ delL t w (t.vars.length:Int) 0 old
def cmpT (t:Tsk) (old:List ByteArray) (w:Int):Tsk :=
  ⟨t.vars ++ [(old.length:Int) + 1],t.init ++ [0],t.goal ++ [⟨(t.vars.length:Int),(old.length:Int)⟩],(cmpL t old w).map (·.1)⟩
theorem JI (t:Tsk) (w v:Int) (name:ByteArray):∀ (l:List ByteArray) (p:Nat),delL t w v p (l ++ [name])=delL t w v p l ++ stepL t w v ((p + l.length:Nat):Int) name
  | [],p=>by simp [delL]
  | x :: l,p=>by
    rw [List.cons_append,delL,delL,JI t w v name l (p + 1),List.append_assoc,List.length_cons,show p + 1 + l.length=p + (l.length + 1) from by omega]
theorem GM (ops:List (Opr×Nat)) (v p:Int) (name:ByteArray):(keepL ops v p name).length≤ops.length:=by
  unfold keepL;rw [List.length_map];exact List.length_filter_le _ _
theorem KH (t:Tsk) (w:Int):(insL t w).length=t.ops.length:=by unfold insL;simp
theorem PK (t:Tsk) (w v p:Int) (name:ByteArray):(stepL t w v p name).length≤t.ops.length + 1:=by
  unfold stepL
  have:=GM t.ops.zipIdx v p name
  simp only [List.length_append,List.length_singleton,List.length_zipIdx] at this ⊢
  omega
theorem IH (t:Tsk) (w v:Int):∀ (l:List ByteArray) (p:Nat),(delL t w v p l).length≤l.length * (t.ops.length + 1)
  | [],p=>by simp [delL]
  | x :: l,p=>by
    rw [delL,List.length_append,List.length_cons,Nat.succ_mul]
    have:=PK t w v p x
    have:=IH t w v l (p + 1)
    omega
theorem Nd (t:Tsk) (old:List ByteArray) (w:Int):(cmpL t old w).length≤t.ops.length + old.length * (t.ops.length + 1):=by
  unfold cmpL
  rw [List.length_append,KH]
  have:=IH t w (t.vars.length:Int) old 0
  omega
theorem Nf {α:Type} {l:List α} {k:Nat} {x:α} (h:l[k]?=some x):l.zipIdx.take (k + 1)=l.zipIdx.take k ++ [(x,k)]:=by
  rw [List.take_add_one,List.getElem?_zipIdx,h];simp
theorem Lp {ops:List (Opr×Nat)} {v p:Int} {name:ByteArray} {o:Opr} {k:Nat}:keepL (ops ++ [(o,k)]) v p name=keepL ops v p name ++ if o.name=name then [(keptO o v p,⟨(k:Int)⟩)] else []:=by
  unfold keepL
  rw [List.filter_append,List.map_append]
  by_cases h:o.name=name<;>simp [h]
theorem HQ {l:List Fct} (h:l.length≤1000000):Bj l=some l:=if_pos ⟨by omega,by omega⟩
theorem Me {l:List Eff} (h:l.length≤1000000):Bx l=some l:=if_pos ⟨by omega,by omega⟩
theorem Mf {l:List Int} (h:l.length≤1000000):BT l=some l:=if_pos ⟨by omega,by omega⟩
theorem Om {o:Opr} {v:Int} {p:Nat} (h1:o.pre.length≤1000) (h2:o.effs.length≤1000) (hp:p≤1000):Dt o v (p:Int)=some (keptO o v (p:Int)):=by
  unfold Dt
  rw [HQ (by omega),Am,Bz (by simp;omega) (by simp;omega),Am,Me (by omega),Am,BA (by unfold inI64;omega),Am,Bz (by simp;omega) (by simp;omega),Am]
  rfl
theorem Ng {α:Type} {l:List α} {k:Nat} {x:α} (h:l[k]?=some x):l.set k x=l:=by
  refine List.ext_getElem? fun j=>?_
  rw [List.getElem?_set]
  split
  · rename_i e;subst e
    split
    · exact h.symm
    · rename_i h2;exact absurd (AD h) h2
  · rfl
theorem Qs {l:List Eff} (h:∀ e∈l,e.cond.length≤1000000):CJ l=some l:=by
  unfold CJ
  rw [JF (fun _=>l) rfl ?_,Am,BO]
  intro k hk
  have hg:l[k]?=some l[k]:=List.getElem?_eq_getElem hk
  rw [hg,Am,HQ (h _ (List.getElem_mem hk)),Am,Am,Ng hg]
def ShortO (o:Opr):Prop:=o.pre.length≤1000∧o.effs.length≤1000∧∀ e∈o.effs,e.cond.length≤1000
theorem OpOk.short {t:Tsk} (hok:TaskOk t) {k:Nat} {o:Opr} (ho:t.ops[k]?=some o):o.pre.length≤64∧o.effs.length≤64∧∀ e∈o.effs,e.cond.length≤64:=by
  obtain ⟨_,_,h1,_,h2,h3⟩:=hok.2.2.2.2.2 k o ho
  have hv:=hok.1
  refine ⟨by have:=DY h2;omega,h1,fun e he=>?_⟩
  obtain ⟨i,hi⟩:=List.getElem?_of_mem he
  have:=DY (h3 i e hi).1
  omega
theorem OT {t:Tsk} (hok:TaskOk t) (old:List ByteArray) (w:Int):∀ q∈cmpL t old w,ShortO q.1:=by
  have hops:∀ q∈t.ops.zipIdx,q.1.pre.length≤64∧q.1.effs.length≤64∧∀ e∈q.1.effs,e.cond.length≤64:=fun q hq=>by
    obtain ⟨k,hk⟩:=List.getElem?_of_mem hq
    rw [List.getElem?_zipIdx] at hk
    obtain ⟨o,ho,rfl⟩:=Option.map_eq_some_iff.1 hk
    exact OpOk.short hok ho
  have hkept:∀ (o:Opr) (v p:Int),(o.pre.length≤64∧o.effs.length≤64∧∀ e∈o.effs,e.cond.length≤64)→ShortO (keptO o v p):=fun o v p ⟨h1,h2,h3⟩=>by
    refine ⟨by simp [keptO];omega,by simp [keptO];omega,fun e he=>?_⟩
    rcases List.mem_append.1 he with he|he
    · have:=h3 e he;omega
    · have:e=⟨[],v,p + 1⟩:=by simpa using he
      subst this;simp
  have hdel:∀ (l:List ByteArray) (p:Nat),∀ q∈delL t w (t.vars.length:Int) p l,ShortO q.1:=by
    intro l
    induction l with
    | nil=>intro p q hq;simp [delL] at hq
    | cons x l ih =>
      intro p q hq
      rw [delL] at hq
      rcases List.mem_append.1 hq with hq|hq
      · unfold stepL at hq
        rcases List.mem_append.1 hq with hq|hq
        · unfold keepL at hq
          obtain ⟨q',h1,rfl⟩:=List.mem_map.1 hq
          exact hkept _ _ _ (hops q' (List.mem_filter.1 h1).1)
        · have:q=delE w (t.vars.length:Int) p:=by simpa using hq
          subst this
          exact hkept _ _ _ ⟨by simp,by simp,by simp⟩
      · exact ih (p + 1) q hq
  intro q hq
  unfold cmpL at hq
  rcases List.mem_append.1 hq with hq|hq
  · unfold insL at hq
    obtain ⟨q',h1,rfl⟩:=List.mem_map.1 hq
    obtain ⟨h2,h3,h4⟩:=hops q' h1
    exact ⟨by show q'.1.pre.length≤1000;omega,by show q'.1.effs.length≤1000;omega,fun e he=>by have:=h4 e he;omega⟩
  · exact hdel old 0 q hq
def sp (l:List (Opr×Prt)):List Prt×List Opr:=(l.map (·.2),l.map (·.1))
theorem LI (l:List (Opr×Prt)) (q:Opr×Prt):sp (l ++ [q])=((sp l).1 ++ [q.2],(sp l).2 ++ [q.1]):=by simp [sp]
theorem Nh (l:List (Opr×Prt)):(sp l).1.length=l.length∧(sp l).2.length=l.length:=by simp [sp]
theorem Lq {t:Tsk} (hok:TaskOk t) (hops:t.ops.length≤20) {old:List ByteArray} (hold:old.length≤63) {w:Int} (hw0:0≤w) (hw1:w≤1000) :
    Cd t old w=some (if checkN (cmpT t old w)≠0 then (⟨[],[],[],[]⟩,[],⟨checkN (cmpT t old w)⟩) else (cmpT t old w,(cmpL t old w).map (·.2),⟨0⟩)):=by
  have hv:=hok.1
  have hi:=hok.2.2.2.1.1
  have hg:=DY hok.2.2.2.2.1
  have hcl:(cmpL t old w).length≤2000:=by
    have:=Nd t old w
    have h2:old.length * (t.ops.length + 1)≤63 * 21:=Nat.mul_le_mul hold (by omega)
    omega
  unfold Cd Df
  rw [CS.2 hok,Am,if_neg (by simp),if_neg (by omega),if_neg (by omega),Am,CT,if_neg (by omega),BA (by unfold inI64;omega),Am,Mf (by omega),Am,Bz (by simp;omega) (by simp;omega),Am,Mf (by omega),Am,Bz (by simp;omega) (by simp;omega),Am,HQ (by omega),Am,Bz (by simp;omega) (by simp;omega),Am,Am]
  have zx:∀ k o,t.ops[k]?=some o→t.ops.zipIdx.take (k + 1)=t.ops.zipIdx.take k ++ [(o,k)]:=fun k o h=>Nf h
  rw [DE (fun k=>sp ((t.ops.zipIdx.take k).map fun q=>(⟨q.1.name,q.1.cost + w,q.1.pre,q.1.effs⟩,⟨(q.2:Int)⟩))) (by simp [sp]) ?gg1,Am,BO]
  case gg1 =>
    intro k o ho
    have hk:=AD ho
    obtain ⟨h1,h2,_⟩:=OpOk.short hok ho
    have hc:=(hok.2.2.2.2.2 k o ho).1
    have hc2:=(hok.2.2.2.2.2 k o ho).2.1
    have hl:((t.ops.zipIdx.take k).map fun q=>((⟨q.1.name,q.1.cost + w,q.1.pre,q.1.effs⟩:Opr),(⟨(q.2:Int)⟩:Prt))).length≤20:=by simp;omega
    obtain ⟨l1,l2⟩:=Nh ((t.ops.zipIdx.take k).map fun q=>((⟨q.1.name,q.1.cost + w,q.1.pre,q.1.effs⟩:Opr),(⟨(q.2:Int)⟩:Prt)))
    rw [BA (by unfold inI64;omega),Am,HQ (by omega),Am,Me (by omega),Am,Bz (by rw [l2];simp;omega) (by rw [l2];simp;omega),Am,Bz (by rw [l1];simp;omega) (by rw [l1];simp;omega),Am,zx k o ho,List.map_append,List.map_singleton,LI]
  have hzx:t.ops.zipIdx.take t.ops.length=t.ops.zipIdx:=List.take_of_length_le (by simp)
  have hfull:(t.ops.zipIdx.take t.ops.length).map (fun q=>((⟨q.1.name,q.1.cost + w,q.1.pre,q.1.effs⟩:Opr),(⟨(q.2:Int)⟩:Prt)))=insL t w:=by
    unfold insL;rw [hzx]
  rw [hfull]
  rw [DE (fun k=>sp (insL t w ++ delL t w (t.vars.length:Int) 0 (old.take k))) (by simp [delL]) ?gg2,Am,BO,List.take_length]
  case gg2 =>
    intro k name hn
    have hk:=AD hn
    have hbase:(insL t w ++ delL t w (t.vars.length:Int) 0 (old.take k)).length≤1500:=by
      have h1:=IH t w (t.vars.length:Int) (old.take k) 0
      have h2:(old.take k).length * (t.ops.length + 1)≤63 * 21:=Nat.mul_le_mul (by simp;omega) (by omega)
      rw [List.length_append,KH];omega
    rw [DE (fun j=>sp ((insL t w ++ delL t w (t.vars.length:Int) 0 (old.take k)) ++ keepL (t.ops.zipIdx.take j) (t.vars.length:Int) (k:Int) name)) (by simp [keepL]) ?gg3,Am,BO,hzx]
    case gg3 =>
      intro j o ho
      have hj:=AD ho
      obtain ⟨h1,h2,_⟩:=OpOk.short hok ho
      have hkl:=GM (t.ops.zipIdx.take j) (t.vars.length:Int) (k:Int) name
      rw [List.length_take,List.length_zipIdx] at hkl
      obtain ⟨l1,l2⟩:=Nh ((insL t w ++ delL t w (t.vars.length:Int) 0 (old.take k)) ++ keepL (t.ops.zipIdx.take j) (t.vars.length:Int) (k:Int) name)
      rw [List.length_append] at l1 l2
      rw [zx j o ho,Lp]
      by_cases he:o.name=name
      · rw [if_pos he,if_pos he,Om (by omega) (by omega) (by omega),Am,Bz (by rw [l2];simp only [List.length_singleton];omega) (by rw [l2];simp only [List.length_singleton];omega),Am,Bz (by rw [l1];simp only [List.length_singleton];omega) (by rw [l1];simp only [List.length_singleton];omega),Am,← List.append_assoc,LI]
      · rw [if_neg he,if_neg he,List.append_nil]
    have hkl:=GM t.ops.zipIdx (t.vars.length:Int) (k:Int) name
    rw [List.length_zipIdx] at hkl
    obtain ⟨l1,l2⟩:=Nh ((insL t w ++ delL t w (t.vars.length:Int) 0 (old.take k)) ++ keepL t.ops.zipIdx (t.vars.length:Int) (k:Int) name)
    rw [List.length_append] at l1 l2
    have htk:old.take (k + 1)=old.take k ++ [name]:=by rw [List.take_add_one,hn];rfl
    have hfin:sp (insL t w ++ delL t w (t.vars.length:Int) 0 (old.take (k + 1)))=((sp ((insL t w ++ delL t w (t.vars.length:Int) 0 (old.take k)) ++ keepL t.ops.zipIdx (t.vars.length:Int) (k:Int) name)).1 ++ [⟨-1⟩],(sp ((insL t w ++ delL t w (t.vars.length:Int) 0 (old.take k)) ++ keepL t.ops.zipIdx (t.vars.length:Int) (k:Int) name)).2 ++ [keptO ⟨⟨#[]⟩,w,[],[]⟩ (t.vars.length:Int) (k:Int)]):=by
      have hkk:(0 + (old.take k).length:Nat)=k:=by simp;omega
      rw [htk,JI,hkk,stepL,← List.append_assoc,← List.append_assoc,LI]
      rfl
    rw [Om (by simp) (by simp) (by omega),Am,Bz (by rw [l2];simp only [List.length_singleton];omega) (by rw [l2];simp only [List.length_singleton];omega),Am,Bz (by rw [l1];simp only [List.length_singleton];omega) (by rw [l1];simp only [List.length_singleton];omega),Am,if_neg (by rw [List.length_append,l2];simp only [List.length_singleton];omega),hfin]
  show bnd (rngN _ (sp (cmpL t old w)).2.length (sp (cmpL t old w)).2) _=_
  have hsh:∀ o∈(sp (cmpL t old w)).2,ShortO o:=fun o ho=>by
    obtain ⟨q,hq,rfl⟩:=List.mem_map.1 ho
    exact OT hok old w q hq
  rw [JF (fun _=>(sp (cmpL t old w)).2) rfl ?gg4,Am,BO,Am]
  case gg4 =>
    intro k hk
    have hgk:(sp (cmpL t old w)).2[k]?=some (sp (cmpL t old w)).2[k]:=List.getElem?_eq_getElem hk
    have h3:=(hsh _ (List.getElem_mem hk)).2.2
    rw [hgk,Am,Qs (fun e he=>by have:=h3 e he;omega),Am,Am,Ng hgk]
  show (if checkN (cmpT t old w)≠0 then _ else _)=_
  by_cases hc:checkN (cmpT t old w)≠0
  · rw [if_pos hc,if_pos hc];rfl
  · rw [if_neg hc,if_neg hc];rfl
end
section
open Go Go.RowKit
inductive PlanR (t:Tsk):List Int→List Int→List Int→Int→Prop
  | nil {s:List Int}:PlanR t s [] s 0
  | cons {s rest s':List Int} {k:Nat} {o:Opr} {C:Int}:t.ops[k]?=some o→holdsB o.pre s=true→PlanR t (succ o s) rest s' C→PlanR t s ((k:Int) :: rest) s' (o.cost + C)
theorem PL (f:List Fct) (s:List Int):DJ f s=some (holdsB f s):=rfl
theorem PM {t:Tsk} (h:TaskOk t) {s plan s':List Int} {C:Int} (hr:PlanR t s plan s' C):∀ (j:Nat) (c:Int),StateOk t.vars s→0≤c→c + plan.length * 1048576≤1000000000000000 →
    rng (ρ:=Int×Bool) (fun (_:Nat) (a34:Int) (s31:(List Int)×Int)=>bnd (CG t s31.1 a34) fun q56=>if (!q56.2)=true then (some (.ret (0,false))) else (bnd (atI t.ops a34) fun a70=>bnd (chkI (s31.2 + a70.cost)) fun n91=>some (.next (q56.1,n91)))) plan j (s,c)=some (.done (s',c + C)):=by
  induction hr with
  | nil=>intro j c _ _ _;simp [rng]
  | @cons s rest s' k o C ho hp hr ih =>
    intro j c hs hc hb
    simp only [List.length_cons] at hb
    have hoo:=h.2.2.2.2.2 k o ho
    have h1:=hoo.1
    have h2:=hoo.2.1
    have e2:(bnd (CG t s (k:Int)) fun q56=>if (!q56.2)=true then (some (.ret (0,false))) else (bnd (atI t.ops (k:Int)) fun a70=>bnd (chkI (c + a70.cost)) fun n91=>some (.next (q56.1,n91))):Option (Ctl (List Int×Int) (Int×Bool)))=some (.next (succ o s,c + o.cost)):=by
      rw [Mb h hs ho,if_pos hp,Am,if_neg (by simp),By,ho,Am,BA (by unfold inI64;omega),Am]
    simp only [rng,e2]
    rw [ih (j + 1) (c + o.cost) (Ik h hs ho) (by omega) (by omega),Int.add_assoc]
theorem Ru {t:Tsk} (h:TaskOk t) {s plan s':List Int} {C:Int} (hs:StateOk t.vars s) (hr:PlanR t s plan s' C) (hl:plan.length≤1000):FK t s plan=some (C,holdsB t.goal s'):=by
  unfold FK
  rw [PM h hr 0 0 hs (by omega) (by omega),Am,BO,HA,Am,Int.zero_add]
  cases holdsB t.goal s'<;>rfl
end
section
open Go Go.RowKit
inductive Walk (t:Tsk):List Int→Int→Prop
  | goal {s:List Int}:holdsB t.goal s=true→Walk t s 0
  | step {s:List Int} {k:Nat} {o:Opr} {c:Int}:t.ops[k]?=some o→holdsB o.pre s=true→Walk t (succ o s) c→Walk t s (c + o.cost)
def Inf:Int:=1125899906842624
theorem SC {σ ρ:Type} {f:σ→Option (Ctl σ ρ)} (I:σ→Prop) (B:σ→Prop) (μ:σ→Nat) (h:∀ s,I s→(∃ s',f s=some (.next s')∧I s'∧μ s' < μ s)∨(∃ s',f s=some (.brk s')∧B s')):∀ s,I s→∃ s',lop f s=some (.done s')∧B s':=by
  have key:∀ (n:Nat) s,I s→μ s < n→∃ s',itr f n s=some (.done s')∧B s':=by
    intro n
    induction n with
    | zero=>intro s _ h0;omega
    | succ n ih =>
      intro s hs hn
      rcases h s hs with ⟨s',h1,h2,h3⟩|⟨s',h1,h2⟩
      · obtain ⟨r,hr,hb⟩:=ih s' h2 (by omega)
        exact ⟨r,by simp only [itr,h1];exact hr,hb⟩
      · exact ⟨s',by simp only [itr,h1],h2⟩
  intro s hs
  obtain ⟨r,hr,hb⟩:=key (μ s + 1) s hs (by omega)
  exact ⟨r,Hu.2 ⟨_,hr⟩,hb⟩
def sumN:List Int→Nat
  | []=>0
  | x :: l=>x.toNat + sumN l
theorem Ni:∀ (l:List Int) (i:Nat) (x y:Int),l[i]?=some x→0≤y→y < x→sumN (l.set i y) < sumN l
  | [],i,x,y,h,_,_=>by simp at h
  | a :: l,0,x,y,h,h1,h2=>by
    obtain rfl:a=x:=by simpa using h
    show y.toNat + sumN l < a.toNat + sumN l
    omega
  | a :: l,i + 1,x,y,h,h1,h2=>by
    have:=Ni l i x y (by simpa using h) h1 h2
    show a.toNat + sumN (l.set i y) < a.toNat + sumN l
    omega
def DistI (t:Tsk) (d:List Int):Prop:=d.length=(statesL t.vars).length∧∀ (i:Nat) s,(statesL t.vars)[i]?=some s→∃ c,d[i]?=some c∧0≤c∧c≤Inf∧(c < Inf→Walk t s c)∧(holdsB t.goal s=true→c=0)
def DistP (t:Tsk) (d:List Int):Prop:=DistI t d∧∀ (i:Nat) s c C,(statesL t.vars)[i]?=some s→d[i]?=some c→Walk t s C→c≤C
theorem Nj {α:Type} {l:List α} {k:Nat} {x y:α} (h:l[k]?=some x):y∈l.take (k + 1)↔y∈l.take k∨y=x:=by
  rw [List.take_add_one,h,List.mem_append];simp
theorem Rv      {t:Tsk} (h:Mid t):∃ d,Ef t=some d∧DistP t d:=by
  have hlen:(statesL t.vars).length≤600:=by have:=h.states t.vars.length;rwa [List.take_length] at this
  unfold Ef
  rw [JG h,Am,Ht (by omega) (by omega),Am]
  obtain ⟨d0,h1,h2,h3⟩:=EI (ρ:=List Int) (f:=fun (k53:Nat) (a54:List Int) (s51:(List Int))=>bnd (s51[k53]?) fun _=>bnd (DI t.goal a54) fun q91=>if q91=true then bnd ((s51.set k53 1125899906842624)[k53]?) fun _=>some (.next ((s51.set k53 1125899906842624).set k53 0)) else some (.next (s51.set k53 1125899906842624))) (xs:=statesL t.vars) (s₀:=List.replicate (statesL t.vars).length 0)
    (fun n d=>d.length=(statesL t.vars).length∧∀ (i:Nat) s,i < n→(statesL t.vars)[i]?=some s→d[i]?=some (if holdsB t.goal s=true then 0 else Inf)) ⟨by simp,fun i s hi=>by omega⟩ (fun n s d hn hI=>by
      obtain ⟨i1,i2⟩:=hI
      have hlt:=AD hn
      obtain ⟨u,hu⟩:=AF (l:=d) (k:=n) (by omega)
      rw [hu,Am,HA,Am]
      by_cases hg:holdsB t.goal s=true
      · rw [if_pos hg,List.getElem?_set_self (by omega),Am]
        refine ⟨_,rfl,by simpa using i1,fun i s' hi hs'=>?_⟩
        by_cases e:i=n
        · subst e
          obtain rfl:s'=s:=by rw [hn] at hs';exact (Option.some.inj hs').symm
          rw [List.getElem?_set_self (by simp;omega),if_pos hg]
        · rw [List.getElem?_set_ne (by omega),List.getElem?_set_ne (by omega)]
          exact i2 i s' (by omega) hs'
      · rw [if_neg hg]
        refine ⟨_,rfl,by simpa using i1,fun i s' hi hs'=>?_⟩
        by_cases e:i=n
        · subst e
          obtain rfl:s'=s:=by rw [hn] at hs';exact (Option.some.inj hs').symm
          rw [List.getElem?_set_self (by omega),if_neg hg];rfl
        · rw [List.getElem?_set_ne (by omega)]
          exact i2 i s' (by omega) hs')
  obtain ⟨es,he,hes⟩:=Qq h
  rw [h1,Am,BO,he,Am]
  have hd0:DistI t d0:=⟨h2,fun i s hi=>by
    refine ⟨_,h3 i s (AD hi) hi,?_⟩
    by_cases hg:holdsB t.goal s=true
    · rw [if_pos hg];exact ⟨by omega,by unfold Inf;omega,fun _=>.goal hg,fun _=>rfl⟩
    · rw [if_neg hg];exact ⟨by unfold Inf;omega,by omega,fun hh=>absurd hh (by omega),fun hh=>absurd hh hg⟩⟩
  -- one pass over the edges
  have pass : ∀ d,DistI t d→∃ (d':List Int) (b:Bool),rng (ρ:=Ctl ((List Int)×Bool) (List Int)) (fun (_:Nat) (a152:Edg) (s149:(List Int)×Bool)=>bnd (atI t.ops a152.op) fun a183=>bnd (bnd (atI s149.1 a152.dst) fun a208=>if a208 < 1125899906842624 then (bnd (atI s149.1 a152.dst) fun a221=>bnd (chkI (a221 + a183.cost)) fun n233=>bnd (atI s149.1 a152.src) fun a236=>if n233 < a236 then (some true) else (some false)) else (some false):Option Bool) fun y204=>if y204=true then (bnd (atI s149.1 a152.dst) fun a254=>bnd (chkI (a254 + a183.cost)) fun n266=>bnd (atI s149.1 a152.src) fun _=>some (.next ((s149.1.set (a152.src).toNat n266),true))) else (some (.next (s149.1,s149.2)))) es 0 (d,false)=some (.done (d',b))∧DistI t d'∧(b=true→sumN d' < sumN d)∧(b=false→d'=d∧∀ e∈es,∀ (i k j:Nat) o x y,e=⟨i,k,j⟩→t.ops[k]?=some o→d[i]?=some x→d[j]?=some y→y < Inf→x≤y + o.cost):=by
    intro d hd
    obtain ⟨⟨d',b⟩,g1,g2,g3,g4⟩:=EI (ρ:=Ctl ((List Int)×Bool) (List Int)) (f:=fun (_:Nat) (a152:Edg) (s149:(List Int)×Bool)=>bnd (atI t.ops a152.op) fun a183=>bnd (bnd (atI s149.1 a152.dst) fun a208=>if a208 < 1125899906842624 then (bnd (atI s149.1 a152.dst) fun a221=>bnd (chkI (a221 + a183.cost)) fun n233=>bnd (atI s149.1 a152.src) fun a236=>if n233 < a236 then (some true) else (some false)) else (some false):Option Bool) fun y204=>if y204=true then (bnd (atI s149.1 a152.dst) fun a254=>bnd (chkI (a254 + a183.cost)) fun n266=>bnd (atI s149.1 a152.src) fun _=>some (.next ((s149.1.set (a152.src).toNat n266),true))) else (some (.next (s149.1,s149.2)))) (xs:=es) (s₀:=(d,false))
      (fun m r=>DistI t r.1∧(r.2=true→sumN r.1 < sumN d)∧(r.2=false→r.1=d∧∀ e∈es.take m,∀ (i k j:Nat) o x y,e=⟨i,k,j⟩→t.ops[k]?=some o→d[i]?=some x→d[j]?=some y→y < Inf→x≤y + o.cost)) ⟨hd,fun hh=>by simp at hh,fun _=>⟨rfl,fun e he=>by simp at he⟩⟩ (fun m e r hm hI=>by
        obtain ⟨i1,i2,i3⟩:=hI
        obtain ⟨r1,r2⟩:=r
        simp only at i1 i2 i3
        obtain ⟨i,k,j,s,o,rfl,a1,a2,a3,a4⟩:=(hes e).1 (List.mem_of_getElem? hm)
        obtain ⟨x,x1,x2,x3,x4,x5⟩:=i1.2 i s a1
        obtain ⟨y,y1,y2,y3,y4,y5⟩:=i1.2 j _ a4
        have hco:=h.ok.2.2.2.2.2 k o a2
        have hc1:=hco.1
        have hc2:=hco.2.1
        simp only
        rw [By,a2,Am,By,y1,Am,By,x1]
        have keep:∀ (hx:y < Inf→x≤y + o.cost),DistI t r1∧(r2=true→sumN r1 < sumN d)∧(r2=false→r1=d∧∀ e∈es.take (m + 1),∀ (i k j:Nat) o x y,e=⟨i,k,j⟩→t.ops[k]?=some o→d[i]?=some x→d[j]?=some y→y < Inf→x≤y + o.cost):=fun hx=>by
          refine ⟨i1,i2,fun hf=>⟨(i3 hf).1,fun e' he'=>?_⟩⟩
          obtain ⟨e1,e2⟩:=i3 hf
          rcases (Nj hm).1 he' with hh|rfl
          · exact e2 e' hh
          · intro i' k' j' o' x' y' hE ho' hx' hy' hlt
            injection hE with h1 h2 h3
            obtain rfl:i=i':=by omega
            obtain rfl:k=k':=by omega
            obtain rfl:j=j':=by omega
            obtain rfl:o=o':=by rw [a2] at ho';exact Option.some.inj ho'
            rw [← e1,x1] at hx'
            rw [← e1,y1] at hy'
            obtain rfl:=Option.some.inj hx'
            obtain rfl:=Option.some.inj hy'
            exact hx hlt
        by_cases hy:y < 1125899906842624
        · rw [if_pos hy,Am,BA (by unfold inI64;unfold Inf at *;omega),Am,Am]
          by_cases hx:y + o.cost < x
          · rw [if_pos hx,Am,Di,Am,BA (by unfold inI64;unfold Inf at *;omega),Am,Am]
            refine ⟨_,rfl,⟨by simpa using i1.1,fun i' s' hs'=>?_⟩,fun _=>?_,fun hh=>by simp at hh⟩
            · show ∃ c,(r1.set ((i:Int)).toNat (y + o.cost))[i']?=some c∧_
              rw [show ((i:Int)).toNat=i from by omega]
              by_cases e:i=i'
              · subst e
                obtain rfl:s=s':=by rw [a1] at hs';exact Option.some.inj hs'
                refine ⟨_,by rw [List.getElem?_set_self (AD x1)],by omega,by omega,fun _=>.step a2 a3 (y4 hy),fun hg=>?_⟩
                have:=x5 hg;omega
              · rw [List.getElem?_set_ne e];exact i1.2 i' s' hs'
            · show sumN (r1.set ((i:Int)).toNat (y + o.cost)) < _
              rw [show ((i:Int)).toNat=i from by omega]
              have hlt:=Ni r1 i x (y + o.cost) x1 (by omega) hx
              cases hr:r2 with
              | true=>have:=i2 hr;omega
              | false=>rw [(i3 hr).1] at hlt;rwa [(i3 hr).1]
          · rw [if_neg hx,Am,CT]
            exact ⟨_,rfl,keep fun _=>by omega⟩
        · rw [if_neg hy,Am,CT]
          exact ⟨_,rfl,keep fun hh=>absurd hh hy⟩)
    refine ⟨d',b,g1,g2,g3,fun hb=>?_⟩
    obtain ⟨e1,e2⟩:=g4 hb
    rw [List.take_length] at e2
    exact ⟨e1,e2⟩
  obtain ⟨⟨d,b⟩,l1,l2,l3⟩:=SC (ρ:=List Int) (f:=fun (s127:(List Int)×Bool)=>if s127.2=true then (bnd (rng (ρ:=Ctl ((List Int)×Bool) (List Int)) (fun (_:Nat) (a152:Edg) (s149:(List Int)×Bool)=>bnd (atI t.ops a152.op) fun a183=>bnd (bnd (atI s149.1 a152.dst) fun a208=>if a208 < 1125899906842624 then (bnd (atI s149.1 a152.dst) fun a221=>bnd (chkI (a221 + a183.cost)) fun n233=>bnd (atI s149.1 a152.src) fun a236=>if n233 < a236 then (some true) else (some false)) else (some false):Option Bool) fun y204=>if y204=true then (bnd (atI s149.1 a152.dst) fun a254=>bnd (chkI (a254 + a183.cost)) fun n266=>bnd (atI s149.1 a152.src) fun _=>some (.next ((s149.1.set (a152.src).toNat n266),true))) else (some (.next (s149.1,s149.2)))) es 0 (s127.1,false)) fun res147=>fin res147 fun (s287:(List Int)×Bool)=>some (.next (s287.1,s287.2))) else (some (.brk (s127.1,s127.2))))
    (fun r=>DistI t r.1∧(r.2=false→∀ e∈es,∀ (i k j:Nat) o x y,e=⟨i,k,j⟩→t.ops[k]?=some o→r.1[i]?=some x→r.1[j]?=some y→y < Inf→x≤y + o.cost)) (fun r=>DistI t r.1∧∀ e∈es,∀ (i k j:Nat) o x y,e=⟨i,k,j⟩→t.ops[k]?=some o→r.1[i]?=some x→r.1[j]?=some y→y < Inf→x≤y + o.cost) (fun r=>2 * sumN r.1 + if r.2=true then 1 else 0) (fun r hr=>by
      obtain ⟨r1,r2⟩:=r
      obtain ⟨i1,i2⟩:=hr
      cases r2 with
      | true =>
        obtain ⟨d',b,p1,p2,p3,p4⟩:=pass r1 i1
        refine .inl ⟨(d',b),?_,⟨p2,fun hb=>?_⟩,?_⟩
        · simp only [if_true]
          rw [p1,Am,BO]
        · obtain ⟨e1,e2⟩:=p4 hb
          show ∀ e∈es,_
          intro e he i k j o x y hE ho hx hy
          simp only at hx hy
          rw [e1] at hx hy
          exact e2 e he i k j o x y hE ho hx hy
        · cases b with
          | true=>have:=p3 rfl;simp;omega
          | false=>rw [(p4 rfl).1];simp
      | false=>exact .inr ⟨(r1,false),by simp,i1,i2 rfl⟩) (d0,true) ⟨hd0,fun hh=>by simp at hh⟩
  refine ⟨d,by rw [l1,Am,BO],l2,fun i s c C hi hc hw=>?_⟩
  induction hw generalizing i c with
  | goal hg =>
    obtain ⟨c',q1,_,_,_,q5⟩:=l2.2 i _ hi
    rw [hc] at q1
    obtain rfl:=Option.some.inj q1
    have:=q5 hg;omega
  | @step s k o C' ho hp hw ih =>
    have hs:StateOk t.vars s:=GI.1 (List.mem_of_getElem? hi)
    obtain ⟨j,_,hj⟩:=LG h (Ik h.ok hs ho)
    obtain ⟨y,y1,y2,y3,y4,y5⟩:=l2.2 j _ hj
    have h5:=ih j y hj y1
    obtain ⟨x,x1,x2,x3,x4,x5⟩:=l2.2 i s hi
    rw [x1] at hc
    obtain rfl:=Option.some.inj hc
    have hco:=(h.ok.2.2.2.2.2 k o ho).1
    by_cases hy:y < Inf
    · have:=l3 ⟨i,k,j⟩ ((hes _).2 ⟨i,k,j,s,o,rfl,hi,ho,hp,hj⟩) i k j o x y rfl ho x1 y1 hy
      omega
    · omega
end
section
open Go Go.RowKit
structure QEn where
  key:Int
  tie:Int
  item:Int
  number:Int
theorem Mg {α:Type} {l:List α} {m i:Nat} {x:α} (h:(l.take m)[i]?=some x):l[i]?=some x:=by
  by_cases hi:i < m
  · rwa [List.getElem?_take_of_lt hi] at h
  · rw [List.getElem?_take_eq_none (by omega)] at h;cases h
def bfr (x y:QEn):Prop:=x.key < y.key∨(x.key=y.key∧(x.tie < y.tie∨(x.tie=y.tie∧x.number < y.number)))
instance (x y:QEn):Decidable (bfr x y):=by unfold bfr;infer_instance
def nb (x y:QEn):Prop:=¬ bfr x y
theorem II {x y z:QEn} (h1:nb x y) (h2:nb y z):nb x z:=by unfold nb bfr at *;omega
theorem Mx {x y:QEn} (h:bfr x y):nb y x:=by unfold nb bfr at *;omega
theorem Lr (x:QEn):nb x x:=by unfold nb bfr;omega
theorem Nk {x y:QEn} (h:nb x y):y.key≤x.key:=by unfold nb bfr at h;omega
def HeapOk (l:List QEn):Prop:=∀ (j:Nat) x y,0 < j→l[j]?=some x→l[(j - 1) / 2]?=some y→nb x y
def Over (l:List QEn) (i:Nat):Prop:=∀ (j:Nat) x y,0 < i→0 < j→(j - 1) / 2=i→l[j]?=some x→l[(i - 1) / 2]?=some y→nb x y
def UpI (l:List QEn) (i:Nat):Prop:=(∀ (j:Nat) x y,0 < j→j≠i→l[j]?=some x→l[(j - 1) / 2]?=some y→nb x y)∧Over l i
def DownI (l:List QEn) (i:Nat):Prop:=(∀ (j:Nat) x y,0 < j→(j - 1) / 2≠i→l[j]?=some x→l[(j - 1) / 2]?=some y→nb x y)∧Over l i
theorem Im {l:List QEn} {i j:Nat} {a b:QEn} (hi:l[i]?=some a) (hj:l[j]?=some b) (hne:i≠j) (k:Nat):((l.set i b).set j a)[k]?=if k=j then some a else if k=i then some b else l[k]?:=by
  by_cases h1:k=j
  · subst h1;rw [if_pos rfl,List.getElem?_set_self (by simpa using AD hj)]
  · rw [if_neg h1,List.getElem?_set_ne (by omega)]
    by_cases h2:k=i
    · subst h2;rw [if_pos rfl,List.getElem?_set_self (AD hi)]
    · rw [if_neg h2,List.getElem?_set_ne (by omega)]
theorem Nl {l:List QEn} {i j:Nat} {a b:QEn} (hi:l[i]?=some a) (hj:l[j]?=some b):((l.set i b).set j a).Perm l:=by
  have h1:=AD hi
  have h2:=AD hj
  have e1:l[i]=a:=by rw [List.getElem?_eq_getElem h1] at hi;exact Option.some.inj hi
  have e2:l[j]=b:=by rw [List.getElem?_eq_getElem h2] at hj;exact Option.some.inj hj
  rw [← e1,← e2]
  exact List.set_set_perm h1 h2
theorem UpI.step {l:List QEn} {i:Nat} {a b:QEn} (h:UpI l i) (h0:0 < i) (hi:l[i]?=some a) (hj:l[(i - 1) / 2]?=some b) (hb:bfr a b):UpI ((l.set i b).set ((i - 1) / 2) a) ((i - 1) / 2):=by
  have hne:i≠(i - 1) / 2:=by omega
  constructor
  · intro j x y hj0 hjp hx hy
    rw [Im hi hj hne,if_neg hjp] at hx
    rw [Im hi hj hne] at hy
    by_cases e1:j=i
    · subst e1
      rw [if_pos rfl] at hx hy
      obtain rfl:=Option.some.inj hx
      obtain rfl:=Option.some.inj hy
      exact Mx hb
    · rw [if_neg e1] at hx
      by_cases e2:(j - 1) / 2=(i - 1) / 2
      · rw [if_pos e2] at hy
        obtain rfl:=Option.some.inj hy
        have:=h.1 j x b hj0 e1 hx (by rw [e2];exact hj)
        exact II this (Mx hb)
      · rw [if_neg e2] at hy
        by_cases e3:(j - 1) / 2=i
        · rw [if_pos e3] at hy
          obtain rfl:=Option.some.inj hy
          exact h.2 j x b h0 hj0 e3 hx hj
        · rw [if_neg e3] at hy
          exact h.1 j x y hj0 e1 hx hy
  · intro j x y hp0 hj0 hjp hx hy
    rw [Im hi hj hne] at hx hy
    have n1:((i - 1) / 2 - 1) / 2≠(i - 1) / 2:=by omega
    have n2:((i - 1) / 2 - 1) / 2≠i:=by omega
    rw [if_neg n1,if_neg n2] at hy
    have hpp:=h.1 ((i - 1) / 2) b y hp0 (by omega) hj hy
    rw [if_neg (by omega)] at hx
    by_cases e1:j=i
    · subst e1
      rw [if_pos rfl] at hx
      obtain rfl:=Option.some.inj hx
      exact hpp
    · rw [if_neg e1] at hx
      exact II (h.1 j x b hj0 e1 hx (by rw [hjp];exact hj)) hpp
theorem UpI.heap {l:List QEn} {i:Nat} (h:UpI l i) (hi:i=0∨∀ x y,l[i]?=some x→l[(i - 1) / 2]?=some y→nb x y):HeapOk l:=fun j x y hj hx hy=>by
  by_cases e:j=i
  · subst e
    rcases hi with h0|h1
    · omega
    · exact h1 x y hx hy
  · exact h.1 j x y hj e hx hy
theorem DownI.step {l:List QEn} {i c:Nat} {a b:QEn} (h:DownI l i) (hc:c=2 * i + 1∨c=2 * i + 2) (hi:l[i]?=some a) (hj:l[c]?=some b) (hb:bfr b a) (hs:∀ (j:Nat) x,0 < j→(j - 1) / 2=i→l[j]?=some x→nb x b):DownI ((l.set i b).set c a) c:=by
  have hne:i≠c:=by omega
  have hcp:(c - 1) / 2=i:=by omega
  constructor
  · intro j x y hj0 hjp hx hy
    rw [Im hi hj hne] at hx hy
    rw [if_neg hjp] at hy
    by_cases e1:j=c
    · subst e1
      rw [if_pos rfl] at hx
      rw [if_pos hcp] at hy
      obtain rfl:=Option.some.inj hx
      obtain rfl:=Option.some.inj hy
      exact Mx hb
    · rw [if_neg e1] at hx
      by_cases e2:j=i
      · subst e2
        rw [if_pos rfl] at hx
        rw [if_neg (by omega)] at hy
        obtain rfl:=Option.some.inj hx
        exact h.2 c _ y hj0 (by omega) hcp hj hy
      · rw [if_neg e2] at hx
        by_cases e3:(j - 1) / 2=i
        · rw [if_pos e3] at hy
          obtain rfl:=Option.some.inj hy
          exact hs j x hj0 e3 hx
        · rw [if_neg e3] at hy
          exact h.1 j x y hj0 e3 hx hy
  · intro j x y hc0 hj0 hjc hx hy
    rw [Im hi hj hne] at hx hy
    rw [if_neg (by omega),if_neg (by omega)] at hx
    rw [if_neg (by omega),if_pos hcp] at hy
    obtain rfl:=Option.some.inj hy
    exact h.1 j x _ hj0 (by omega) hx (by rw [hjc];exact hj)
theorem DownI.heap {l:List QEn} {i:Nat} (h:DownI l i) (hi:∀ (j:Nat) x y,0 < j→(j - 1) / 2=i→l[j]?=some x→l[i]?=some y→nb x y):HeapOk l:=fun j x y hj hx hy=>by
  by_cases e:(j - 1) / 2=i
  · exact hi j x y hj e hx (by rw [← e];exact hy)
  · exact h.1 j x y hj e hx hy
theorem PN {l:List QEn} (h:HeapOk l) {e:QEn} (he:l[0]?=some e):∀ x∈l,nb x e:=by
  have key:∀ (n j:Nat) x,j≤n→l[j]?=some x→nb x e:=by
    intro n
    induction n with
    | zero =>
      intro j x hj hx
      have hj0:j=0:=by omega
      rw [hj0,he] at hx
      rw [← Option.some.inj hx]
      exact Lr _
    | succ n ih =>
      intro j x hj hx
      by_cases h0:j=0
      · exact ih j x (by omega) hx
      · obtain ⟨y,hy⟩:=AF (l:=l) (k:=(j - 1) / 2) (by have:=AD hx;omega)
        exact II (h j x y (by omega) hx hy) (ih ((j - 1) / 2) y (by omega) hy)
  intro x hx
  obtain ⟨j,hj⟩:=List.getElem?_of_mem hx
  exact key j j x (by omega) hj
end
section
open Go Go.RowKit
theorem On {σ ρ:Type} {x:Option (Ctl σ ρ)} {I:σ→Prop} (h:∃ r,x=some r∧∃ s',r=Ctl.next s'∧I s'):∃ s',x=some (.next s')∧I s':=by
  obtain ⟨_,h1,s',rfl,h2⟩:=h
  exact ⟨s',h1,h2⟩
def FldOk (W:Nat) (f:PFd) (n:Int):Prop:=∃ k b w:Nat,f=⟨k,b,w,n⟩∧k < W∧b + w≤64∧w≤6∧n≤2 ^ w
def PkOk (vars:List Int) (p:Pkr):Prop:=p.fields.length=vars.length∧(∃ W:Nat,p.words=(W:Int)∧1≤W∧W≤vars.length + 1∧∀ (i:Nat) f n,p.fields[i]?=some f→vars[i]?=some n→FldOk W f n) ∧
  ∀ (i j:Nat) f g,i < j→p.fields[i]?=some f→p.fields[j]?=some g→f.word < g.word∨(f.word=g.word∧f.bit + f.width≤g.bit)
theorem Rx:∀ {w:Nat},w≤6→shlI 1 (w:Int)=some ((2 ^ w:Nat):Int):=by
  intro w h
  have:w=0∨w=1∨w=2∨w=3∨w=4∨w=5∨w=6:=by omega
  rcases this with rfl|rfl|rfl|rfl|rfl|rfl|rfl<;>rfl
theorem Ry {w:Nat} {n:Int} (hw:w≤6) (h:((2 ^ w:Nat):Int) < n) (hn:n≤64):w < 6:=by
  rcases Nat.lt_or_ge w 6 with hh|hh
  · exact hh
  · obtain rfl:w=6:=by omega
    simp at h;omega
def PkI (vars:List Int) (B W:Nat) (fs:List PFd):Prop:=(∀ (i:Nat) f n,fs[i]?=some f→vars[i]?=some n→FldOk W f n) ∧
  (∀ (i j:Nat) f g,i < j→fs[i]?=some f→fs[j]?=some g→f.word < g.word∨(f.word=g.word∧f.bit + f.width≤g.bit))∧∀ (i:Nat) f,fs[i]?=some f→f.word + 1 < (W:Int)∨(f.word + 1=(W:Int)∧f.bit + f.width≤(B:Int))
theorem PkI.over {vars:List Int} {B W:Nat} {fs:List PFd} (h:PkI vars B W fs):PkI vars 0 (W + 1) fs :=
  ⟨fun i f n hf hn=>by obtain ⟨k,b,w,e,e1,e2⟩:=h.1 i f n hf hn;exact ⟨k,b,w,e,by omega,e2⟩,h.2.1,fun i f hf=>by have:=h.2.2 i f hf;omega⟩
theorem Ea {α:Type} {l:List α} {x y:α} {i:Nat} (h:(l ++ [x])[i]?=some y):l[i]?=some y∨(i=l.length∧y=x):=by
  rcases Nat.lt_trichotomy i l.length with hi|hi|hi
  · rw [List.getElem?_append_left hi] at h;exact .inl h
  · subst hi;simp at h;exact .inr ⟨rfl,h.symm⟩
  · rw [List.getElem?_append_right (by omega)] at h
    rw [List.getElem?_eq_none (by simp;omega)] at h
    cases h
theorem PkI.add {vars:List Int} {B W w:Nat} {fs:List PFd} {n:Int} (h:PkI vars B W fs) (hW:1≤W) (hn:vars[fs.length]?=some n) (hB:B + w≤64) (hw:w≤6) (hnw:n≤2 ^ w):PkI vars (B + w) W (fs ++ [⟨(W:Int) - 1,(B:Int),(w:Int),n⟩]):=by
  refine ⟨fun i f n' hf hn'=>?_,fun i j f g hij hf hg=>?_,fun i f hf=>?_⟩
  · rcases Ea hf with hh|⟨rfl,rfl⟩
    · exact h.1 i f n' hh hn'
    · rw [hn] at hn'
      obtain rfl:=Option.some.inj hn'
      exact ⟨W - 1,B,w,by congr 1;omega,by omega,hB,hw,hnw⟩
  · rcases Ea hg with hh|⟨rfl,rfl⟩
    · rcases Ea hf with hk|⟨rfl,rfl⟩
      · exact h.2.1 i j f g hij hk hh
      · have:=AD hh;omega
    · rcases Ea hf with hk|⟨rfl,rfl⟩
      · have:=h.2.2 i f hk
        dsimp only
        omega
      · omega
  · rcases Ea hf with hh|⟨rfl,rfl⟩
    · have:=h.2.2 i f hh;omega
    · dsimp only;omega
theorem OU {vars:List Int} (hl:vars.length≤64) (hv:∀ (i:Nat) n,vars[i]?=some n→1≤n∧n≤64):∃ r,ET vars=some r∧∃ p,r=(some p,⟨0⟩)∧PkOk vars p:=by
  unfold ET
  rw [if_neg (by omega)]
  refine Il (fun m s=>∃ B W:Nat,s.1=(B:Int)∧B≤64∧s.2.words=(W:Int)∧1≤W∧W≤m + 1∧s.2.fields.length=m∧PkI vars B W s.2.fields) (fun _=>False)
    ⟨0,1,rfl,by omega,rfl,by omega,by omega,rfl,fun i f n h=>by simp at h,fun i j f g _ h=>by simp at h,fun i f h=>by simp at h⟩ ?_ ?_ (fun q hq=>hq.elim)
  · rintro m n ⟨s1,s2⟩ hm ⟨B,W,hs1,hB,hW,hW1,hWm,hlen,hI⟩
    dsimp only at hs1 hW hlen hI
    subst hs1
    obtain ⟨hn1,hn2⟩:=hv m n hm
    have hml:=AD hm
    refine .inl (On ?_)
    rw [if_neg (by omega),if_neg (by omega),Am,CT]
    refine Nc (fun c=>∃ w:Nat,c=(w:Int)∧w≤6) (fun c=>∃ w:Nat,c=(w:Int)∧w≤6∧n≤2 ^ w) (fun _=>False) (fun c=>7 - c.toNat) ⟨0,rfl,by omega⟩ ?_ ?_ (fun q hq=>hq.elim)
    · rintro c ⟨w,rfl,hw⟩
      rw [Rx hw,Am]
      by_cases hlt:((2 ^ w:Nat):Int) < n
      · have:=Ry hw hlt hn2
        rw [if_pos hlt,BA (by unfold inI64;omega),Am]
        exact .inl ⟨_,rfl,⟨w + 1,by omega,by omega⟩,by omega⟩
      · rw [if_neg hlt]
        refine .inr (.inl ⟨_,rfl,w,rfl,hw,?_⟩)
        have:((2 ^ w:Nat):Int)=(2:Int) ^ w:=by simp
        omega
    · rintro c ⟨w,rfl,hw,hnw⟩
      rw [BO,BA (by unfold inI64;omega),Am]
      have fin':∀ (B' W':Nat) (q:Pkr),B' + w≤64→1≤W'→W'≤m + 2→q.words=(W':Int)→q.fields=s2.fields→PkI vars B' W' s2.fields→∃ r,(bnd (chkI (q.words - 1)) fun n133=>bnd (appI 32 q.fields [(⟨n133,(B':Int),(w:Int),n⟩:PFd)]) fun u142=>bnd (chkI ((B':Int) + (w:Int))) fun n155=>some (Ctl.next (ρ:=(Option Pkr)×Err) (n155,(⟨u142,q.words⟩:Pkr))))=some r∧∃ s',r=Ctl.next s'∧∃ B W:Nat,s'.1=(B:Int)∧B≤64∧s'.2.words=(W:Int)∧1≤W∧W≤m + 1 + 1∧s'.2.fields.length=m + 1∧PkI vars B W s'.2.fields:=by
        intro B' W' q hB' hW' hWm' hq1 hq2 hI'
        rw [hq1,hq2,BA (by unfold inI64;omega),Am,Bz (by simp;omega) (by simp;omega),Am,BA (by unfold inI64;omega),Am]
        exact ⟨_,rfl,_,rfl,B' + w,W',by simp,hB',rfl,hW',by omega,by simp [hlen],hI'.add hW' (by rw [hlen];exact hm) hB' hw hnw⟩
      by_cases hover:64 < (B:Int) + (w:Int)
      · rw [if_pos hover]
        dsimp only
        rw [hW,BA (by unfold inI64;omega),Am,Am]
        exact fin' 0 (W + 1) ⟨s2.fields,(W:Int) + 1⟩ (by omega) (by omega) (by omega) (by simp) rfl hI.over
      · rw [if_neg hover,Am]
        exact fin' B W s2 (by omega) hW1 (by omega) hW rfl hI
  · rintro ⟨s1,s2⟩ ⟨B,W,hs1,hB,hW,hW1,hWm,hlen,hI⟩
    exact ⟨_,rfl,s2,rfl,hlen,⟨W,hW,hW1,hWm,hI.1⟩,hI.2.1⟩
def InF (f:PFd) (x:Int) (k c:Nat):Prop:=f.word=(k:Int)∧f.bit≤(c:Int)∧(c:Int) < f.bit + f.width∧x.toNat.testBit (c - f.bit.toNat)=true
def Bits (fs:List PFd) (s:List Int) (p:Nat→Prop) (ws:List U64):Prop:=∀ (k c:Nat) a,ws[k]?=some a→c < 64→(a.getLsbD c=true↔∃ (i:Nat) (f:PFd) (x:Int),p i∧fs[i]?=some f∧s[i]?=some x∧InF f x k c)
theorem ones {w:Nat} (h:w≤6):((1:U64) <<< w) - (1:U64)=BitVec.ofNat 64 (2 ^ w - 1):=by
  have:w=0∨w=1∨w=2∨w=3∨w=4∨w=5∨w=6:=by omega
  rcases this with rfl|rfl|rfl|rfl|rfl|rfl|rfl<;>rfl
theorem Nm {w b c:Nat} (hw:w≤6) (hc:c < 64):((((1:U64) <<< w) - (1:U64)) <<< b).getLsbD c=(decide (b≤c) && decide (c < b + w)):=by
  rw [ones hw,BitVec.getLsbD_shiftLeft,BitVec.getLsbD_ofNat,Nat.testBit_two_pow_sub_one]
  by_cases h1:b≤c<;>by_cases h2:c < b + w<;>simp [h1,h2,hc]<;>omega
theorem LJ {x:Int} {w j:Nat} (h0:0≤x) (h1:x < 2 ^ w) (ht:x.toNat.testBit j=true):j < w:=by
  rcases Nat.lt_or_ge j w with h|h
  · exact h
  · have h2:x.toNat < 2 ^ w:=by
      have:((2 ^ w:Nat):Int)=(2:Int) ^ w:=by simp
      omega
    rw [Nat.testBit_lt_two_pow (Nat.lt_of_lt_of_le h2 (Nat.pow_le_pow_right (by omega) h))] at ht
    cases ht
theorem PkOk.field {vars:List Int} {p:Pkr} (h:PkOk vars p) {s:List Int} (hs:StateOk vars s) {i:Nat} {f:PFd} (hf:p.fields[i]?=some f):∃ (k b w:Nat) (n x:Int),f=⟨k,b,w,n⟩∧(k:Int) < p.words∧b + w≤64∧w≤6∧s[i]?=some x∧0≤x∧x < n∧x < 2 ^ w:=by
  obtain ⟨h1,⟨W,hW,_,_,h2⟩,h3⟩:=h
  have hi:=AD hf
  obtain ⟨n,hn⟩:=AF (l:=vars) (k:=i) (by omega)
  obtain ⟨x,hx⟩:=AF (l:=s) (k:=i) (by have:=hs.1;omega)
  obtain ⟨k,b,w,e,e1,e2,e3,e4⟩:=h2 i f n hf hn
  have:=hs.2 i x n hx hn
  exact ⟨k,b,w,n,x,e,by omega,e2,e3,hx,this.1,this.2,by omega⟩
theorem PkOk.same {vars:List Int} {p:Pkr} (h:PkOk vars p) {i j:Nat} {f g:PFd} {k c:Nat} (hf:p.fields[i]?=some f) (hg:p.fields[j]?=some g) (h1:f.word=(k:Int)∧f.bit≤(c:Int)∧(c:Int) < f.bit + f.width) (h2:g.word=(k:Int)∧g.bit≤(c:Int)∧(c:Int) < g.bit + g.width):i=j:=by
  rcases Nat.lt_trichotomy i j with hh|hh|hh
  · have:=h.2.2 i j f g hh hf hg;omega
  · exact hh
  · have:=h.2.2 j i g f hh hg hf;omega
theorem Kc {vars:List Int} {p:Pkr} (h:PkOk vars p) (hl:vars.length≤64) {s:List Int} (hs:StateOk vars s):∃ r,BX p s=some r∧r.2=⟨0⟩∧(r.1.length:Int)=p.words∧Bits p.fields s (fun _=>True) r.1:=by
  obtain ⟨W,hW,hW1,hW2,_⟩:=h.2.1
  unfold BX
  rw [if_neg (by have:=h.1;have:=hs.1;omega),hW,Ht (by omega) (by omega),Am]
  refine Il (fun m ws=>(ws.length:Int)=(W:Int)∧Bits p.fields s (fun i=>i < m) ws) (fun _=>False) ⟨by simp,?_⟩ ?_ ?_ (fun q hq=>hq.elim)
  · intro k c a ha _
    have:=List.eq_of_mem_replicate (List.mem_of_getElem? ha)
    subst this
    constructor
    · intro hh;simp at hh
    · rintro ⟨i,_,_,hi,_⟩;omega
  · rintro m f ws hm ⟨hwl,hb⟩
    refine .inl (On ?_)
    obtain ⟨k,b,w,n,x,rfl,hk,hbw,hw,hx,hx0,hxn,hxw⟩:=h.field hs hm
    dsimp only
    obtain ⟨a,ha⟩:=AF (l:=ws) (k:=k) (by omega)
    rw [hx,Am,if_neg (by omega),Am,if_neg (by omega),Am,CT,By,ha,Am,Am]
    unfold shlU
    rw [if_pos (by omega),Am,Am]
    refine ⟨_,rfl,_,rfl,by simpa using hwl,?_⟩
    simp only [Int.toNat_natCast]
    have hxb:∀ c:Nat,c < 64→((a ||| (BitVec.ofInt 64 x <<< b)).getLsbD c=true↔a.getLsbD c=true∨(b≤c∧x.toNat.testBit (c - b)=true)):=by
      intro c hc
      have hofi:BitVec.ofInt 64 x=BitVec.ofNat 64 x.toNat:=by
        rw [← BitVec.ofInt_natCast,Int.toNat_of_nonneg hx0]
      rw [BitVec.getLsbD_or,BitVec.getLsbD_shiftLeft,hofi,BitVec.getLsbD_ofNat]
      by_cases h1:b≤c
      · have:c - b < 64:=by omega
        simp [hc,h1,this,Nat.not_lt.2 h1]
      · simp [hc,h1,Nat.lt_of_not_le h1]
    intro k' c a' ha' hc
    by_cases e:k=k'
    · subst e
      rw [List.getElem?_set_self (AD ha)] at ha'
      obtain rfl:=Option.some.inj ha'
      rw [hxb c hc,hb k c a ha hc]
      constructor
      · rintro (⟨i,f,y,hi,hr⟩|⟨h1,h2⟩)
        · exact ⟨i,f,y,by omega,hr⟩
        · have:=LJ hx0 hxw h2
          exact ⟨m,_,x,by omega,hm,hx,rfl,by dsimp only;omega,by dsimp only;omega,by simpa using h2⟩
      · rintro ⟨i,f,y,hi,hf,hy,hin⟩
        by_cases he:i=m
        · subst he
          rw [hm] at hf
          obtain rfl:=Option.some.inj hf
          rw [hx] at hy
          obtain rfl:=Option.some.inj hy
          obtain ⟨_,i2,i3,i4⟩:=hin
          dsimp only at i2 i3 i4
          exact .inr ⟨by omega,by simpa using i4⟩
        · exact .inl ⟨i,f,y,by omega,hf,hy,hin⟩
    · rw [List.getElem?_set_ne e] at ha'
      rw [hb k' c a' ha' hc]
      constructor
      · rintro ⟨i,f,y,hi,hr⟩;exact ⟨i,f,y,by omega,hr⟩
      · rintro ⟨i,f,y,hi,hf,hy,hin⟩
        by_cases he:i=m
        · subst he
          rw [hm] at hf
          obtain rfl:=Option.some.inj hf
          have:=hin.1
          dsimp only at this
          omega
        · exact ⟨i,f,y,by omega,hf,hy,hin⟩
  · rintro ws ⟨hwl,hb⟩
    refine ⟨_,rfl,rfl,hwl,fun k c a ha hc=>?_⟩
    rw [hb k c a ha hc]
    constructor
    · rintro ⟨i,f,x,_,hr⟩;exact ⟨i,f,x,trivial,hr⟩
    · rintro ⟨i,f,x,_,hf,hr⟩;exact ⟨i,f,x,AD hf,hf,hr⟩
theorem Oo {k b w:Nat} {n:Int}:CH ⟨k,b,w,n⟩=some ((((1:U64) <<< w) - (1:U64)) <<< b):=by
  unfold CH shlU
  dsimp only
  rw [if_pos (by omega),Am,if_pos (by omega),Am]
  simp
theorem SD {vars:List Int} {p:Pkr} (h:PkOk vars p) {s:List Int} (hs:StateOk vars s) {ws:List U64} (hwl:(ws.length:Int)=p.words) (hb:Bits p.fields s (fun _=>True) ws) {i:Nat} {f:PFd} {x:Int} (hf:p.fields[i]?=some f) (hx:s[i]?=some x):Dh f ws=some x:=by
  obtain ⟨k,b,w,n,x',rfl,hk,hbw,hw,hx',hx0,hxn,hxw⟩:=h.field hs hf
  rw [hx] at hx'
  obtain rfl:=Option.some.inj hx'
  obtain ⟨a,ha⟩:=AF (l:=ws) (k:=k) (by omega)
  unfold Dh
  dsimp only
  rw [By,ha,Am,Oo,Am]
  unfold shrU
  rw [if_pos (by omega),Am]
  have hval : (a &&& ((((1:U64) <<< w) - (1:U64)) <<< b)) >>> b=BitVec.ofNat 64 x.toNat:=by
    apply BitVec.eq_of_getLsbD_eq
    intro j hj
    rw [BitVec.getLsbD_ushiftRight,BitVec.getLsbD_and,BitVec.getLsbD_ofNat]
    by_cases hjb:b + j < 64
    · rw [Nm hw hjb]
      by_cases hjw:j < w
      · have h1:=hb k (b + j) a ha hjb
        have h2:a.getLsbD (b + j)=x.toNat.testBit j:=by
          cases ht:x.toNat.testBit j with
          | true=>exact h1.2 ⟨i,_,x,trivial,hf,hx,rfl,by dsimp only;omega,by dsimp only;omega,by simpa using ht⟩
          | false =>
            cases hg:a.getLsbD (b + j) with
            | false=>rfl
            | true =>
              obtain ⟨i',f',x',_,hf',hx',hin⟩:=h1.1 hg
              have hii:=h.same (k:=k) (c:=b + j) hf hf' ⟨rfl,by dsimp only;omega,by dsimp only;omega⟩ ⟨hin.1,hin.2.1,hin.2.2.1⟩
              subst hii
              rw [hf] at hf'
              obtain rfl:=Option.some.inj hf'
              rw [hx] at hx'
              obtain rfl:=Option.some.inj hx'
              have:=hin.2.2.2
              simp at this
              rw [this] at ht
              cases ht
        rw [h2]
        simp [hj,hjw]
      · have hf0:x.toNat.testBit j=false:=by
          cases ht:x.toNat.testBit j with
          | false=>rfl
          | true=>exact absurd (LJ hx0 hxw ht) hjw
        simp [hf0,hjw]
    · have hf0:x.toNat.testBit j=false:=by
        cases ht:x.toNat.testBit j with
        | false=>rfl
        | true=>have:=LJ hx0 hxw ht;omega
      rw [BitVec.getLsbD_of_ge _ _ (by omega)]
      simp [hf0]
  have h64:(2:Int) ^ w≤64:=by
    have:w=0∨w=1∨w=2∨w=3∨w=4∨w=5∨w=6:=by omega
    rcases this with rfl|rfl|rfl|rfl|rfl|rfl|rfl<;>decide
  simp only [Int.toNat_natCast]
  rw [hval]
  congr 1
  rw [BitVec.toInt_eq_toNat_of_lt (by rw [BitVec.toNat_ofNat];omega),BitVec.toNat_ofNat]
  omega
theorem JJ {vars:List Int} {p:Pkr} (h:PkOk vars p) (hl:vars.length≤64) {s:List Int} (hs:StateOk vars s) {ws:List U64} (hwl:(ws.length:Int)=p.words) (hb:Bits p.fields s (fun _=>True) ws):CE p ws=some (s,⟨0⟩):=by
  obtain ⟨W,hW,hW1,hW2,_⟩:=h.2.1
  have hsl:=hs.1
  have hfl:=h.1
  unfold CE
  rw [if_neg (by omega),Ht (by omega) (by omega),Am]
  unfold Cg
  rw [if_pos (by omega),Am]
  refine Kb (fun m st=>st.1.length=s.length∧(∀ (i:Nat) x,i < m→s[i]?=some x→st.1[i]?=some x)∧st.2.length=ws.length∧Bits p.fields s (fun i=>m≤i) st.2) ⟨by simp;omega,fun i x hi=>by omega,rfl,?_⟩ ?_ ?_
  · intro k c a ha hc
    rw [hb k c a ha hc]
    constructor
    · rintro ⟨i,f,x,_,hr⟩;exact ⟨i,f,x,by omega,hr⟩
    · rintro ⟨i,f,x,_,hr⟩;exact ⟨i,f,x,trivial,hr⟩
  · rintro m f ⟨out,rest⟩ hm ⟨i1,i2,i3,i4⟩
    dsimp only at i1 i2 i3 i4 ⊢
    obtain ⟨k,b,w,n,x,rfl,hk,hbw,hw,hx,hx0,hxn,hxw⟩:=h.field hs hm
    have hml:=AD hx
    obtain ⟨u,hu⟩:=AF (l:=out) (k:=m) (by omega)
    obtain ⟨a,ha⟩:=AF (l:=rest) (k:=k) (by omega)
    rw [SD h hs hwl hb hm hx,Am,hu,Am,List.getElem?_set_self (by omega),Am]
    dsimp only
    rw [if_neg (by omega),By,ha,Am,Oo,Am,Am]
    refine ⟨_,rfl,by simpa using i1,fun i y hi hy=>?_,by simpa using i3,?_⟩
    · by_cases e:i=m
      · subst e
        rw [hx] at hy
        obtain rfl:=Option.some.inj hy
        exact List.getElem?_set_self (by omega)
      · show (out.set m x)[i]?=_
        rw [List.getElem?_set_ne (by omega)]
        exact i2 i y (by omega) hy
    · show Bits p.fields s _ (rest.set ((k:Int)).toNat _)
      simp only [Int.toNat_natCast]
      intro k' c a' ha' hc
      by_cases e:k=k'
      · subst e
        rw [List.getElem?_set_self (AD ha)] at ha'
        obtain rfl:=Option.some.inj ha'
        rw [BitVec.getLsbD_and,BitVec.getLsbD_not,Nm hw hc]
        have h1:=i4 k c a ha hc
        constructor
        · intro hh
          simp only [Bool.and_eq_true,Bool.not_eq_true',decide_eq_true_eq] at hh
          obtain ⟨i,f,y,hi,hf,hy,hin⟩:=h1.1 hh.1
          refine ⟨i,f,y,?_,hf,hy,hin⟩
          rcases Nat.lt_or_ge m i with hlt|hge
          · exact hlt
          · exfalso
            obtain rfl:i=m:=by omega
            rw [hm] at hf
            obtain rfl:=Option.some.inj hf
            obtain ⟨_,j2,j3,_⟩:=hin
            dsimp only at j2 j3
            have h2:=hh.2.2
            rw [show decide (b≤c)=true from by simp;omega,show decide (c < b + w)=true from by simp;omega] at h2
            cases h2
        · rintro ⟨i,f,y,hi,hf,hy,hin⟩
          have hg:=h1.2 ⟨i,f,y,by omega,hf,hy,hin⟩
          have hno:¬ (b≤c∧c < b + w):=fun hh=>by
            have:=h.same (k:=k) (c:=c) hm hf ⟨rfl,by dsimp only;omega,by dsimp only;omega⟩ ⟨hin.1,hin.2.1,hin.2.2.1⟩
            omega
          rw [hg]
          by_cases q1:b≤c
          · have q2:¬ c < b + w:=fun hh=>hno ⟨q1,hh⟩
            simp [hc,q1,q2]
          · simp [hc,q1]
      · rw [List.getElem?_set_ne e] at ha'
        rw [i4 k' c a' ha' hc]
        constructor
        · rintro ⟨i,f,y,hi,hf,hy,hin⟩
          refine ⟨i,f,y,?_,hf,hy,hin⟩
          rcases Nat.lt_or_ge m i with hlt|hge
          · exact hlt
          · exfalso
            obtain rfl:i=m:=by omega
            rw [hm] at hf
            obtain rfl:=Option.some.inj hf
            have:=hin.1
            dsimp only at this
            omega
        · rintro ⟨i,f,y,hi,hr⟩;exact ⟨i,f,y,by omega,hr⟩
  · rintro ⟨out,rest⟩ ⟨i1,i2,i3,i4⟩
    dsimp only at i1 i2 i3 i4
    rw [BO]
    dsimp only
    have hout:out=s:=by
      apply List.ext_getElem?
      intro i
      rcases Nat.lt_or_ge i s.length with hi|hi
      · obtain ⟨x,hx⟩:=AF (l:=s) (k:=i) hi
        rw [hx];exact i2 i x (by omega) hx
      · rw [List.getElem?_eq_none hi,List.getElem?_eq_none (by omega)]
    subst hout
    refine Kb (fun _ _=>True) trivial (fun k a _ hk _=>⟨(),?_,trivial⟩) (fun _ _=>rfl)
    obtain ⟨a',ha'⟩:=AF (l:=rest) (k:=k) (by have:=AD hk;omega)
    rw [ha',Am]
    have hz:a'=0:=by
      apply BitVec.eq_of_getLsbD_eq
      intro c hc
      cases hg:a'.getLsbD c with
      | false=>simp
      | true =>
        obtain ⟨i,f,x,hi,hf,_⟩:=(i4 k c a' ha' hc).1 hg
        have:=AD hf
        omega
    subst hz
    rw [if_neg (by simp)]
theorem Qt {vars:List Int} {p:Pkr} (h:PkOk vars p) (hl:vars.length≤64) {s s':List Int} (hs:StateOk vars s) (hs':StateOk vars s') {ws:List U64} (h1:BX p s=some (ws,⟨0⟩)) (h2:BX p s'=some (ws,⟨0⟩)):s=s':=by
  obtain ⟨r,r1,r2,r3,r4⟩:=Kc h hl hs
  obtain ⟨q,q1,q2,q3,q4⟩:=Kc h hl hs'
  rw [h1] at r1
  rw [h2] at q1
  obtain rfl:=Option.some.inj r1
  obtain rfl:=Option.some.inj q1
  have e1:=JJ h hl hs r3 r4
  have e2:=JJ h hl hs' q3 q4
  rw [e1] at e2
  have:=Option.some.inj e2
  exact congrArg Prod.fst this
end
section
open Go Go.RowKit
theorem Mh {K V:Type} [MKey K] (z:V) (k k':K) (v:V):∀ l:List (K×V),mget z (mput l k v) k'=if k=k' then v else mget z l k'
  | []=>by simp only [mput,mget]
  | p :: r=>by
    have ih:=Mh z k k' v r
    simp only [mput]
    by_cases h1:p.1=k
    · rw [if_pos h1]
      simp only [mget]
      by_cases h2:k=k'
      · rw [if_pos h2,if_pos h2]
      · rw [if_neg h2,if_neg h2,if_neg (by rw [h1];exact h2)]
    · rw [if_neg h1]
      simp only [mget,ih]
      by_cases h2:k=k'
      · rw [if_pos h2,if_pos h2,if_neg (by rw [← h2];exact h1)]
      · rw [if_neg h2,if_neg h2]
theorem PO (p:Pkr) (ws:List U64):∃ h,Ch p ws=some h:=by
  have:∃ r,Ch p ws=some r∧True:=by
    unfold Ch
    refine Il (fun _ _=>True) (fun _=>False) trivial (fun i x s _ _=>.inl ?_) (fun s _=>?_) (fun q hq=>hq.elim)
    · exact ⟨_,rfl,trivial⟩
    · exact ⟨_,rfl,trivial⟩
  obtain ⟨h,h1,_⟩:=this
  exact ⟨h,h1⟩
theorem SE (a b:List U64):BS a b=some (decide (a=b)):=by
  unfold BS
  by_cases hl:(a.length:Int)=(b.length:Int)
  · rw [if_neg (by omega)]
    have:∃ r,(bnd (rng (ρ:=Bool) (fun (k18:Nat) (a19:U64) (_:Unit)=>bnd (b[k18]?) fun a36=>if (a19.toNat:Int)≠(a36.toNat:Int) then (some (.ret false)) else (some (.next ()))) a 0 ()) fun res14=>fin res14 fun (_:Unit)=>some true)=some r∧r=decide (a=b):=by
      refine Il (fun m _=>∀ (i:Nat),i < m→a[i]?=b[i]?) (fun r=>r=false∧a≠b) (fun i hi=>by omega) ?_ ?_ ?_
      · intro i x _ hx hI
        obtain ⟨y,hy⟩:=AF (l:=b) (k:=i) (by have:=AD hx;omega)
        rw [hy,Am]
        by_cases he:x=y
        · subst he
          rw [if_neg (by simp)]
          refine .inl ⟨(),rfl,fun j hj=>?_⟩
          by_cases e:j=i
          · subst e;rw [hx,hy]
          · exact hI j (by omega)
        · rw [if_pos (fun h=>he (BitVec.eq_of_toNat_eq (by omega)))]
          refine .inr ⟨_,rfl,rfl,fun h=>he ?_⟩
          rw [h,hy] at hx
          exact (Option.some.inj hx).symm
      · intro _ hI
        refine ⟨_,rfl,?_⟩
        symm
        rw [decide_eq_true_eq]
        apply List.ext_getElem?
        intro i
        rcases Nat.lt_or_ge i a.length with h|h
        · exact hI i h
        · rw [List.getElem?_eq_none h,List.getElem?_eq_none (by omega)]
      · rintro q ⟨rfl,hne⟩
        exact ⟨_,rfl,by simp [hne]⟩
    obtain ⟨r,h1,h2⟩:=this
    rw [h1,h2]
  · rw [if_pos hl]
    congr 1
    symm
    rw [decide_eq_false_iff_not]
    exact fun h=>hl (by rw [h])
structure RegI (vars:List Int) (r:Reg) (L:List (List Int)):Prop where
  pk:PkOk vars r.packer
  len:r.entries.length=L.length
  st:∀ (i:Nat) s,L[i]?=some s→StateOk vars s
  words:∀ (i:Nat) s e,L[i]?=some s→r.entries[i]?=some e→BX r.packer s=some (e.words,⟨0⟩)
  nodup:∀ (i j:Nat) s,L[i]?=some s→L[j]?=some s→i=j
  tab:∀ (i:Nat) e,r.entries[i]?=some e→∃ h,Ch r.packer e.words=some h∧(i:Int)∈mget ([]:List Int) r.table.l h
  val:∀ h a,a∈mget ([]:List Int) r.table.l h→∃ i:Nat,a=(i:Int)∧i < L.length
  few:∀ h,(mget ([]:List Int) r.table.l h).length≤L.length
def links (r:Reg):List RLk:=r.entries.map (·.link)
theorem PP {vars:List Int} (hl:vars.length≤64) (hv:∀ (i:Nat) n,vars[i]?=some n→1≤n∧n≤64):∃ r,DD vars=some r∧∃ q,r=(some q,⟨0⟩)∧RegI vars q []∧links q=[]:=by
  obtain ⟨r,h1,p,rfl,hp⟩:=OU hl hv
  unfold DD
  rw [h1,Am,if_neg (by simp),Am]
  exact ⟨_,rfl,_,rfl,⟨hp,rfl,fun i s h=>by simp at h,fun i s e h=>by simp at h,fun i j s h=>by simp at h,fun i e h=>by simp at h,fun h a ha=>by simp [mget] at ha,fun h=>by simp [mget]⟩,rfl⟩
theorem OV {vars:List Int} (hl:vars.length≤64) {r:Reg} {L:List (List Int)} (h:RegI vars r L) {s:List Int} (hs:StateOk vars s):∃ (ws:List U64) (hh:Int),BX r.packer s=some (ws,⟨0⟩)∧Ch r.packer ws=some hh ∧
    ((∃ i:Nat,L[i]?=some s∧BN r s=some (ws,hh,(i:Int),⟨0⟩))∨((∀ i:Nat,L[i]?≠some s)∧BN r s=some (ws,hh,-1,⟨0⟩))):=by
  obtain ⟨⟨ws,er⟩,p1,p2,p3,p4⟩:=Kc h.pk hl hs
  dsimp only at p2 p3 p4
  subst p2
  obtain ⟨hh,hhe⟩:=PO r.packer ws
  refine ⟨ws,hh,p1,hhe,?_⟩
  have key:∃ res,BN r s=some res∧((∃ i:Nat,L[i]?=some s∧res=(ws,hh,(i:Int),⟨0⟩))∨((∀ i:Nat,L[i]?≠some s)∧res=(ws,hh,-1,⟨0⟩))):=by
    unfold BN
    rw [p1,Am,if_neg (by simp),hhe,Am]
    refine Il (fun m _=>∀ (j:Nat) (i:Nat),j < m→(mget ([]:List Int) r.table.l hh)[j]?=some (i:Int)→L[i]?≠some s) (fun res=>∃ i:Nat,L[i]?=some s∧res=(ws,hh,(i:Int),⟨0⟩)) (fun j i hj=>by omega) ?_ ?_ ?_
    · intro m a _ hm hI
      obtain ⟨i,rfl,hi⟩:=h.val hh a (List.mem_of_getElem? hm)
      obtain ⟨e,he⟩:=AF (l:=r.entries) (k:=i) (by rw [h.len];exact hi)
      obtain ⟨s',hs'⟩:=AF (l:=L) (k:=i) hi
      have hw:=h.words i s' e hs' he
      rw [By,he,Am,SE,Am]
      by_cases hew:e.words=ws
      · rw [decide_eq_true hew,Di]
        rw [hew] at hw
        have:=Qt h.pk hl (h.st i s' hs') hs hw p1
        subst this
        exact .inr ⟨_,rfl,i,hs',rfl⟩
      · rw [decide_eq_false hew,CT]
        refine .inl ⟨(),rfl,fun j i' hj hi'=>?_⟩
        by_cases e1:j=m
        · subst e1
          rw [hm] at hi'
          have e2:i=i':=by have:=Option.some.inj hi';omega
          subst e2
          intro hL
          rw [hL] at hs'
          obtain rfl:=Option.some.inj hs'
          rw [p1] at hw
          exact hew (congrArg Prod.fst (Option.some.inj hw)).symm
        · exact hI j i' (by omega) hi'
    · intro _ hI
      refine ⟨_,rfl,.inr ⟨fun i hL=>?_,rfl⟩⟩
      obtain ⟨e,he⟩:=AF (l:=r.entries) (k:=i) (by rw [h.len];exact AD hL)
      have hw:=h.words i s e hL he
      rw [p1] at hw
      have hwe:ws=e.words:=congrArg Prod.fst (Option.some.inj hw)
      obtain ⟨h',t1,t2⟩:=h.tab i e he
      rw [← hwe,hhe] at t1
      obtain rfl:=Option.some.inj t1
      obtain ⟨j,hj⟩:=List.getElem?_of_mem t2
      exact hI j i (AD hj) hj hL
    · rintro q ⟨i,hi,rfl⟩
      exact ⟨_,rfl,.inl ⟨i,hi,rfl⟩⟩
  obtain ⟨res,k1,k2⟩:=key
  rcases k2 with ⟨i,hi,rfl⟩|⟨hn,rfl⟩
  · exact .inl ⟨i,hi,k1⟩
  · exact .inr ⟨hn,k1⟩
theorem Mi {vars:List Int} (hl:vars.length≤64) {r:Reg} {L:List (List Int)} (h:RegI vars r L) {s:List Int} (hs:StateOk vars s) (hL:L.length < 65536) :
    (∃ i:Nat,L[i]?=some s∧BK r s=some ((i:Int),false,⟨0⟩,r))∨((∀ i:Nat,L[i]?≠some s)∧∃ r',BK r s=some ((L.length:Int),true,⟨0⟩,r')∧RegI vars r' (L ++ [s])∧links r'=links r ++ [⟨-1,-1,0⟩]):=by
  obtain ⟨ws,hh,p1,p2,hf⟩:=OV hl h hs
  unfold BK
  have hlen:=h.len
  rcases hf with ⟨i,hi,hf⟩|⟨hno,hf⟩
  · refine .inl ⟨i,hi,?_⟩
    rw [hf,Am,if_neg (by simp),if_pos (by dsimp only;omega)]
  · refine .inr ⟨hno,?_⟩
    have hfew:=h.few hh
    rw [hf,Am,if_neg (by simp),if_neg (by dsimp only;omega),if_neg (by omega)]
    dsimp only
    rw [Bz (by simp;omega) (by simp;omega),Am,Bz (by simp;omega) (by simp;omega),Am,hlen]
    have hget:∀ k,mget ([]:List Int) (mput r.table.l hh (mget ([]:List Int) r.table.l hh ++ [(L.length:Int)])) k=if hh=k then mget ([]:List Int) r.table.l hh ++ [(L.length:Int)] else mget ([]:List Int) r.table.l k:=fun k=>Mh _ _ _ _ _
    refine ⟨_,rfl,⟨h.pk,by simp [hlen],?_,?_,?_,?_,?_,?_⟩,by simp [links]⟩
    · intro i s' hi
      rcases Ea hi with hi|⟨_,rfl⟩
      · exact h.st i s' hi
      · exact hs
    · intro i s' e hi he
      rcases Ea hi with hi|⟨hi,rfl⟩
      · rcases Ea he with he|⟨he,_⟩
        · exact h.words i s' e hi he
        · have:=AD hi;omega
      · rcases Ea he with he|⟨he,rfl⟩
        · have:=AD he;omega
        · exact p1
    · intro i j s' hi hj
      rcases Ea hi with hi2|⟨hi2,hs2⟩
      · rcases Ea hj with hj2|⟨hj2,hs2⟩
        · exact h.nodup i j s' hi2 hj2
        · exact absurd (hs2 ▸ hi2) (hno i)
      · rcases Ea hj with hj2|⟨hj2,_⟩
        · exact absurd (hs2 ▸ hj2) (hno j)
        · omega
    · intro i e he
      rcases Ea he with he|⟨hi,rfl⟩
      · obtain ⟨k,k1,k2⟩:=h.tab i e he
        refine ⟨k,k1,?_⟩
        dsimp only
        rw [hget]
        by_cases e1:hh=k
        · subst e1;rw [if_pos rfl];exact List.mem_append_left _ k2
        · rw [if_neg e1];exact k2
      · refine ⟨hh,p2,?_⟩
        dsimp only
        rw [hget,if_pos rfl,hi,hlen]
        simp
    · intro k a ha
      dsimp only at ha
      rw [hget] at ha
      simp only [List.length_append,List.length_singleton]
      by_cases e1:hh=k
      · rw [if_pos e1] at ha
        rcases List.mem_append.1 ha with ha|ha
        · obtain ⟨i,h1,h2⟩:=h.val hh a ha;exact ⟨i,h1,by omega⟩
        · exact ⟨L.length,by simpa using ha,by omega⟩
      · rw [if_neg e1] at ha
        obtain ⟨i,h1,h2⟩:=h.val k a ha;exact ⟨i,h1,by omega⟩
    · intro k
      dsimp only
      rw [hget]
      have:=h.few k
      simp only [List.length_append,List.length_singleton]
      by_cases e1:hh=k
      · rw [if_pos e1];simp;omega
      · rw [if_neg e1];omega
theorem HR {vars:List Int} {r:Reg} {L:List (List Int)} (h:RegI vars r L) {i:Nat} (hi:i < L.length):Bt r (i:Int)=some true:=by
  unfold Bt
  rw [if_pos (by omega),if_pos (by rw [h.len];omega)]
  rfl
theorem NP {vars:List Int} (hl:vars.length≤64) {r:Reg} {L:List (List Int)} (h:RegI vars r L) {i:Nat} {s:List Int} (hi:L[i]?=some s):BU r (i:Int)=some (s,⟨0⟩):=by
  obtain ⟨e,he⟩:=AF (l:=r.entries) (k:=i) (by rw [h.len];exact AD hi)
  have hs:=h.st i s hi
  obtain ⟨⟨ws,er⟩,p1,p2,p3,p4⟩:=Kc h.pk hl hs
  have hw:=h.words i s e hi he
  rw [p1] at hw
  have hwe:ws=e.words:=congrArg Prod.fst (Option.some.inj hw)
  dsimp only at p3 p4
  rw [hwe] at p3 p4
  unfold BU
  rw [HR h (AD hi),Am,Di,By,he,Am,JJ h.pk hl hs p3 p4,Am]
theorem Ls {vars:List Int} {r:Reg} {L:List (List Int)} (h:RegI vars r L) {i:Nat} (hi:i < L.length) {p o c:Int} (hp:p=-1∨∃ j:Nat,p=(j:Int)∧j < L.length):∃ r',BL r (i:Int) p o c=some (⟨0⟩,r')∧RegI vars r' L∧links r'=(links r).set i ⟨p,o,c⟩:=by
  obtain ⟨e,he⟩:=AF (l:=r.entries) (k:=i) (by rw [h.len];exact hi)
  unfold BL
  have hcond:(bnd (Bt r (i:Int)) fun q10=>if q10=true then if p≠(-1) then (bnd (Bt r p) fun q20=>if q20=true then some false else some true) else (some false) else some true:Option Bool)=some false:=by
    rw [HR h hi,Am,Di]
    rcases hp with rfl|⟨j,rfl,hj⟩
    · rfl
    · rw [if_pos (by omega),HR h hj];rfl
  rw [hcond,Am,CT,By,he,Am]
  have hge:∀ (j:Nat) x,(r.entries.set ((i:Int)).toNat ({ e with link:=(⟨p,o,c⟩:RLk) }:REn))[j]?=some x→∃ y,r.entries[j]?=some y∧x.words=y.words:=by
    intro j x hx
    rw [Int.toNat_natCast] at hx
    by_cases e1:i=j
    · subst e1
      rw [List.getElem?_set_self (AD he)] at hx
      obtain rfl:=Option.some.inj hx
      exact ⟨e,he,rfl⟩
    · rw [List.getElem?_set_ne e1] at hx
      exact ⟨x,hx,rfl⟩
  refine ⟨_,rfl,⟨h.pk,by simp [h.len],h.st,?_,h.nodup,?_,h.val,h.few⟩,?_⟩
  · intro j s x hj hx
    obtain ⟨y,hy,hxy⟩:=hge j x hx
    rw [hxy];exact h.words j s y hj hy
  · intro j x hx
    obtain ⟨y,hy,hxy⟩:=hge j x hx
    rw [hxy];exact h.tab j y hy
  · simp [links,List.map_set]
theorem SF {xs:List Int} (hl:xs.length≤1000000):BV xs=some xs.reverse:=by
  unfold BV
  rw [BA (by unfold inI64;omega),Am]
  refine Rr (fun s=>∃ i:Nat,s.2.1=(i:Int)∧s.2.1 + s.2.2=(xs.length:Int) - 1∧i≤xs.length∧s.1.length=xs.length∧∀ k:Nat,k < xs.length→s.1[k]?=if k < i∨xs.length - 1 - k < i then xs[xs.length - 1 - k]? else xs[k]?) (fun s=>s.1=xs.reverse) (fun s=>(s.2.2 - s.2.1 + 1).toNat) ⟨0,rfl,by dsimp only;omega,by omega,rfl,fun k hk=>by rw [if_neg (by omega)]⟩ ?_ (fun s hs=>by rw [BO,hs])
  rintro ⟨ys,i',j⟩ ⟨i,hi,hij,hil,hlen,hg⟩
  dsimp only at hi hij hlen hg ⊢
  subst hi
  by_cases hlt:(i:Int) < j
  · obtain ⟨jn,rfl⟩:∃ jn:Nat,j=(jn:Int):=⟨j.toNat,by omega⟩
    obtain ⟨a,ha⟩:=AF (l:=ys) (k:=jn) (by omega)
    obtain ⟨b,hb⟩:=AF (l:=ys) (k:=i) (by omega)
    rw [if_pos hlt,By,ha,Am,By,hb,Am,Am,Int.toNat_natCast,Int.toNat_natCast,By,List.getElem?_set_ne (by omega),ha,Am,BA (by unfold inI64;omega),Am,BA (by unfold inI64;omega),Am]
    refine .inl ⟨_,rfl,⟨i + 1,by dsimp only;omega,by dsimp only;omega,by omega,by simp [hlen],fun k hk=>?_⟩,by dsimp only;omega⟩
    dsimp only
    have hga:=hg jn (by omega)
    rw [ha,if_neg (by omega)] at hga
    have hgb:=hg i (by omega)
    rw [hb,if_neg (by omega)] at hgb
    by_cases e1:k=jn
    · subst e1
      rw [List.getElem?_set_self (by simp;omega),if_pos (by omega),hgb]
      congr 1;omega
    · rw [List.getElem?_set_ne (by omega)]
      by_cases e2:k=i
      · subst e2
        rw [List.getElem?_set_self (by omega),if_pos (by omega),hga]
        congr 1;omega
      · rw [List.getElem?_set_ne (by omega),hg k hk]
        by_cases e3:k < i∨xs.length - 1 - k < i
        · rw [if_pos e3,if_pos (by omega)]
        · rw [if_neg e3,if_neg (by omega)]
  · rw [if_neg hlt]
    refine .inr ⟨_,rfl,?_⟩
    dsimp only
    apply List.ext_getElem?
    intro k
    rcases Nat.lt_or_ge k xs.length with hk|hk
    · rw [List.getElem?_reverse hk,hg k hk]
      by_cases e3:k < i∨xs.length - 1 - k < i
      · rw [if_pos e3]
      · rw [if_neg e3];congr 1;omega
    · rw [List.getElem?_eq_none (by omega),List.getElem?_eq_none (by simp;omega)]
inductive PathL (lk:List RLk):Nat→List Int→Prop
  | root {i:Nat} {k:RLk}:lk[i]?=some k→k.parent < 0→PathL lk i []
  | step {i j:Nat} {k:RLk} {p:List Int}:lk[i]?=some k→k.parent=(j:Int)→PathL lk j p→PathL lk i (p ++ [k.op])
theorem Rz {vars:List Int} {r:Reg} {L:List (List Int)} (h:RegI vars r L) (hL:L.length≤65536) {i:Nat} {p:List Int} (hp:PathL (links r) i p) (hl:p.length≤L.length):Ck r (i:Int)=some (p,⟨0⟩):=by
  have hget:∀ {i:Nat} {k:RLk},(links r)[i]?=some k→∃ e:REn,r.entries[i]?=some e∧e.link=k:=by
    intro i k hk
    unfold links at hk
    rw [List.getElem?_map] at hk
    cases he:r.entries[i]? with
    | none=>rw [he] at hk;cases hk
    | some e=>rw [he] at hk;exact ⟨e,rfl,by simpa using hk⟩
  have hil:i < L.length:=by
    have:∃ k,(links r)[i]?=some k:=by cases hp with|root h1 _=>exact ⟨_,h1⟩|step h1 _ _=>exact ⟨_,h1⟩
    obtain ⟨k,hk⟩:=this
    obtain ⟨e,he,_⟩:=hget hk
    rw [← h.len];exact AD he
  unfold Ck
  rw [HR h hil,Am,Di]
  have key:∀ {i p},PathL (links r) i p→∀ acc:List Int,acc.length + p.length≤L.length→lop (ρ:=(List Int)×Err) (fun (s14:Int×(List Int))=>bnd (atI r.entries s14.1) fun a48=>if a48.link.parent < 0 then (bnd (BV s14.2) fun q74=>some (.ret (q74,(⟨0⟩:Err)))) else (bnd (appI 8 s14.2 [a48.link.op]) fun u89=>if (r.entries.length:Int) < (u89.length:Int) then (some (.ret (([]:List Int),(⟨21⟩:Err)))) else (some (.next (a48.link.parent,u89))))) ((i:Int),acc)=some (.ret (p ++ acc.reverse,⟨0⟩)):=by
    intro i p hp
    induction hp with
    | root h1 h2 =>
      intro acc ha
      obtain ⟨e,he,rfl⟩:=hget h1
      rw [Fb]
      dsimp only
      rw [By,he,Am,if_pos h2,SF (by omega),Am]
      rfl
    | @step i j k p h1 h2 _ ih =>
      intro acc ha
      obtain ⟨e,he,rfl⟩:=hget h1
      simp at ha
      rw [Fb]
      dsimp only
      rw [By,he,Am,if_neg (by omega),Bz (by simp;omega) (by simp;omega),Am,if_neg (by rw [h.len];simp;omega),h2]
      dsimp only
      rw [ih (acc ++ [e.link.op]) (by simp;omega)]
      simp
  rw [key hp [] (by simpa using hl),Am]
  simp [fin]
end
section
open Go Go.RowKit
inductive Rch (t:Tsk):List Int→Prop
  | init:Rch t t.init
  | step {s:List Int} {k:Nat} {o:Opr}:Rch t s→t.ops[k]?=some o→holdsB o.pre s=true→Rch t (succ o s)
theorem Rch.ok {t:Tsk} (h:TaskOk t) {s:List Int} (hr:Rch t s):StateOk t.vars s:=by
  induction hr with
  | init=>exact h.2.2.2.1
  | step _ ho _ ih=>exact Ik h ih ho
theorem PlanR.snoc {t:Tsk} {s p s':List Int} {C:Int} (h:PlanR t s p s' C) {k:Nat} {o:Opr} (ho:t.ops[k]?=some o) (hp:holdsB o.pre s'=true):PlanR t s (p ++ [(k:Int)]) (succ o s') (C + o.cost):=by
  induction h with
  | nil=>have:=PlanR.cons ho hp (PlanR.nil (t:=t) (s:=succ o _));simpa [Int.add_comm] using this
  | cons ho' hp' _ ih=>have:=PlanR.cons ho' hp' (ih hp);rw [Int.add_assoc];exact this
theorem PlanR.walk {t:Tsk} {s p s':List Int} {C:Int} (h:PlanR t s p s' C) (hg:holdsB t.goal s'=true):Walk t s C:=by
  induction h with
  | nil=>exact .goal hg
  | cons ho hp _ ih=>have:=Walk.step ho hp (ih hg);rwa [Int.add_comm] at this
inductive WalkS (t:Tsk) (sel:List Int→List Int):List Int→Int→Prop
  | goal {s:List Int}:holdsB t.goal s=true→WalkS t sel s 0
  | step {s:List Int} {k:Nat} {o:Opr} {C:Int}:t.ops[k]?=some o→(k:Int)∈sel s→WalkS t sel (succ o s) C→WalkS t sel s (C + o.cost)
theorem PQ {t:Tsk} (h:TaskOk t) {sel:List Int→List Int} {s:List Int} {C:Int} (hw:WalkS t sel s C):0≤C:=by
  induction hw with
  | goal _=>omega
  | @step s k o C ho _ _ ih=>have:=(h.2.2.2.2.2 k o ho).1;omega
def UpL {α:Type} (i:Nat) (x:α) (l l':List α):Prop:=l'[i]?=some x∧∀ j,j≠i→l'[j]?=l[j]?
theorem Oq {α:Type} {i:Nat} {x:α} {l:List α} (h:i < l.length):UpL i x l (l.set i x):=⟨List.getElem?_set_self h,fun j hj=>List.getElem?_set_ne (by omega)⟩
theorem Nn {α:Type} {i:Nat} {x:α} {l:List α} (h:l[i]?=some x):UpL i x l l:=⟨h,fun _ _=>rfl⟩
theorem Kd {α:Type} {x:α} {l:List α}:UpL l.length x l (l ++ [x]):=⟨by simp,fun j hj=>by
  rcases Nat.lt_or_ge j l.length with h|h
  · exact List.getElem?_append_left h
  · rw [List.getElem?_append_right h,List.getElem?_eq_none (l:=l) h,List.getElem?_eq_none (by simp;omega)]⟩
def cnt (l:List Bool):Nat:=(l.filter id).length
theorem PR (l:List Bool):cnt l≤l.length:=List.length_filter_le _ _
theorem RB (l:List Bool):cnt (l ++ [false])=cnt l:=by simp [cnt]
theorem Or:∀ {l:List Bool} {i:Nat},l[i]?=some false→cnt (l.set i true)=cnt l + 1
  | [],i,h=>by simp at h
  | b :: l,0,h=>by simp at h;subst h;simp [cnt]
  | b :: l,i + 1,h=>by
    have:=Or (l:=l) (i:=i) (by simpa using h)
    simp only [cnt] at this ⊢
    cases b<;>simp [this]
theorem Ot:∀ {l:List Bool} {i:Nat},l[i]?=some true→0 < cnt l
  | [],i,h=>by simp at h
  | b :: l,0,h=>by simp at h;subst h;simp [cnt]
  | b :: l,i + 1,h=>by
    have:=Ot (l:=l) (i:=i) (by simpa using h)
    unfold cnt at this ⊢
    rw [List.filter_cons]
    split
    · simp
    · exact this
structure SrI (t:Tsk) (sel:List Int→List Int) (D:Nat→Int→Prop) (L:List (List Int)) (lk:List RLk) (g:List Int) (fn:List Bool) (hp:List QEn) (ord:Nat→Nat) (E:Nat):Prop where
  root:L[0]?=some t.init
  root0:g[0]?=some 0
  lenk:lk.length=L.length
  leng:g.length=L.length
  lenf:fn.length=L.length
  link:∀ (i:Nat) s k c,L[i]?=some s→lk[i]?=some k→g[i]?=some c→(i=0∧k.parent=-1∧c=0)∨∃ (p q:Nat) (o:Opr) (s':List Int) (c':Int),k.parent=(p:Int)∧k.op=(q:Int)∧t.ops[q]?=some o∧L[p]?=some s'∧fn[p]?=some true∧holdsB o.pre s'=true∧succ o s'=s∧g[p]?=some c'∧c=c' + o.cost∧(fn[i]?=some true→ord p < ord i)
  ordl:∀ i:Nat,fn[i]?=some true→ord i < E
  lower:∀ (j:Nat) c,fn[j]?=some true→g[j]?=some c→∀ e∈hp,c≤e.key
  ent:∀ e∈hp,∃ i:Nat,e.item=(i:Int)∧i < L.length∧∀ c,g[i]?=some c→c≤e.key
  opn:∀ (i:Nat) c,fn[i]?=some false→g[i]?=some c→∃ e∈hp,e.key=c∧e.item=(i:Int)
  bound:∀ (i:Nat) c,g[i]?=some c→0≤c∧c≤(E:Int) * 1048576
  nogoal:∀ (j:Nat) s,fn[j]?=some true→L[j]?=some s→holdsB t.goal s=false
  rel:∀ (j:Nat) s q,fn[j]?=some true→L[j]?=some s→q∈sel s→D j q→∃ (k:Nat) (o:Opr) (i:Nat) (c c':Int),q=(k:Int)∧t.ops[k]?=some o∧L[i]?=some (succ o s)∧g[j]?=some c∧g[i]?=some c'∧c'≤c + o.cost
  num:cnt fn=E
  rch:∀ (i:Nat) s,L[i]?=some s→Rch t s
  first:0 < E→fn[0]?=some true
section
variable {t : Tsk} {sel : List Int → List Int} {D : Nat → Int → Prop} {L L' : List (List Int)} {lk lk' : List RLk} {g g' : List Int} {fn fn' : List Bool} {hp hp' : List QEn} {ord : Nat → Nat} {E : Nat}
theorem SrI.upd (h:SrI t sel D L lk g fn hp ord E) (hok:TaskOk t) {i p q:Nat} {o:Opr} {s sp:List Int} {x cp lc:Int} {e:QEn} (hL:UpL i s L L') (hk:UpL i ⟨(p:Int),(q:Int),lc⟩ lk lk') (hg:UpL i x g g') (hf:UpL i false fn fn') (hh:hp'.Perm (e :: hp)) (ek:e.key=x) (ei:e.item=(i:Int))
    (l1:lk'.length=L'.length) (l2:g'.length=L'.length) (l3:fn'.length=L'.length) (l4:L.length≤L'.length) (hc:cnt fn'=cnt fn) (hi:L[i]?=none∨(L[i]?=some s∧fn[i]?=some false∧∀ c,g[i]?=some c→x < c))
    (ho:t.ops[q]?=some o) (hsp:L[p]?=some sp) (hfp:fn[p]?=some true) (hpre:holdsB o.pre sp=true) (hs:succ o sp=s) (hgp:g[p]?=some cp) (hx:x=cp + o.cost) (hmax:∀ (j:Nat) c,fn[j]?=some true→g[j]?=some c→c≤cp) (hxE:x≤(E:Int) * 1048576) :
    SrI t sel D L' lk' g' fn' hp' ord E:=by
  have hoc:=(hok.2.2.2.2.2 q o ho).1
  have hcp:=(h.bound p cp hgp).1
  have hfin:∀ j:Nat,fn[j]?=some true→j≠i:=fun j hj e=>by
    subst e
    rcases hi with hn|⟨_,hn,_⟩
    · have:=AD hj
      rw [h.lenf] at this
      rw [List.getElem?_eq_none_iff] at hn
      omega
    · rw [hj] at hn;cases hn
  have hfin':∀ j:Nat,fn'[j]?=some true→j≠i∧fn[j]?=some true:=fun j hj=>by
    have hne:j≠i:=fun e=>by subst e;rw [hf.1] at hj;cases hj
    exact ⟨hne,by rw [← hf.2 j hne];exact hj⟩
  have h0:(0:Nat)≠i:=fun e=>by
    subst e
    rcases hi with hn|⟨_,_,hn⟩
    · rw [h.root] at hn;cases hn
    · have:=hn 0 h.root0;omega
  have hpi:=hfin p hfp
  have hiL:i < L'.length:=AD hL.1
  refine ⟨by rw [hL.2 0 h0];exact h.root,by rw [hg.2 0 h0];exact h.root0,l1,l2,l3,?_,?_,?_,?_,?_,?_,?_,?_,by rw [hc];exact h.num,?_,?_⟩
  · intro j s' k c hs' hk' hc'
    by_cases e1:j=i
    · subst e1
      rw [hL.1] at hs'
      rw [hk.1] at hk'
      rw [hg.1] at hc'
      obtain rfl:=Option.some.inj hs'
      obtain rfl:=Option.some.inj hk'
      obtain rfl:=Option.some.inj hc'
      exact .inr ⟨p,q,o,sp,cp,rfl,rfl,ho,by rw [hL.2 p hpi];exact hsp,by rw [hf.2 p hpi];exact hfp,hpre,hs,by rw [hg.2 p hpi];exact hgp,hx,fun hh=>by rw [hf.1] at hh;cases hh⟩
    · rw [hL.2 j e1] at hs'
      rw [hk.2 j e1] at hk'
      rw [hg.2 j e1] at hc'
      rcases h.link j s' k c hs' hk' hc' with hh|⟨p',q',o',sp',c',a1,a2,a3,a4,a5,a6,a7,a8,a9,a10⟩
      · exact .inl hh
      · have hne:=hfin p' a5
        exact .inr ⟨p',q',o',sp',c',a1,a2,a3,by rw [hL.2 p' hne];exact a4,by rw [hf.2 p' hne];exact a5,a6,a7,by rw [hg.2 p' hne];exact a8,a9,fun hh=>a10 (hfin' j hh).2⟩
  · exact fun j hj=>h.ordl j (hfin' j hj).2
  · intro j c hj hcj e' he'
    obtain ⟨hne,hj⟩:=hfin' j hj
    rw [hg.2 j hne] at hcj
    rcases List.mem_cons.1 (hh.mem_iff.1 he') with rfl|hm
    · have:=hmax j c hj hcj;omega
    · exact h.lower j c hj hcj e' hm
  · intro e' he'
    rcases List.mem_cons.1 (hh.mem_iff.1 he') with rfl|hm
    · exact ⟨i,ei,hiL,fun c hc=>by rw [hg.1] at hc;have:=Option.some.inj hc;omega⟩
    · obtain ⟨j,j1,j2,j3⟩:=h.ent e' hm
      refine ⟨j,j1,by omega,fun c hc=>?_⟩
      by_cases e1:j=i
      · subst e1
        rw [hg.1] at hc
        obtain rfl:=Option.some.inj hc
        rcases hi with hn|⟨_,_,hn⟩
        · rw [List.getElem?_eq_none_iff] at hn;omega
        · obtain ⟨c0,hc0⟩:=AF (l:=g) (k:=j) (by rw [h.leng];exact j2)
          have:=j3 c0 hc0
          have:=hn c0 hc0
          omega
      · rw [hg.2 j e1] at hc;exact j3 c hc
  · intro j c hj hcj
    by_cases e1:j=i
    · subst e1
      rw [hg.1] at hcj
      obtain rfl:=Option.some.inj hcj
      exact ⟨e,hh.mem_iff.2 List.mem_cons_self,ek,ei⟩
    · rw [hf.2 j e1] at hj
      rw [hg.2 j e1] at hcj
      obtain ⟨e',m,r⟩:=h.opn j c hj hcj
      exact ⟨e',hh.mem_iff.2 (List.mem_cons_of_mem _ m),r⟩
  · intro j c hcj
    by_cases e1:j=i
    · subst e1
      rw [hg.1] at hcj
      obtain rfl:=Option.some.inj hcj
      omega
    · rw [hg.2 j e1] at hcj;exact h.bound j c hcj
  · intro j s' hj hs'
    obtain ⟨hne,hj⟩:=hfin' j hj
    rw [hL.2 j hne] at hs'
    exact h.nogoal j s' hj hs'
  · intro j s' q' hj hs' hq hD
    obtain ⟨hne,hj⟩:=hfin' j hj
    rw [hL.2 j hne] at hs'
    obtain ⟨k,o',i',c,c',a1,a2,a3,a4,a5,a6⟩:=h.rel j s' q' hj hs' hq hD
    by_cases e1:i'=i
    · subst e1
      rcases hi with hn|⟨hn1,_,hn⟩
      · rw [hn] at a3;cases a3
      · rw [hn1] at a3
        have:=hn c' a5
        exact ⟨k,o',i',c,x,a1,a2,by rw [hL.1];exact a3,by rw [hg.2 j hne];exact a4,hg.1,by omega⟩
    · exact ⟨k,o',i',c,c',a1,a2,by rw [hL.2 i' e1];exact a3,by rw [hg.2 j hne];exact a4,by rw [hg.2 i' e1];exact a5,a6⟩
  · intro j s' hs'
    by_cases e1:j=i
    · subst e1
      rw [hL.1] at hs'
      obtain rfl:=Option.some.inj hs'
      rw [← hs]
      exact (h.rch p sp hsp).step ho hpre
    · rw [hL.2 j e1] at hs';exact h.rch j s' hs'
  · intro hE
    rw [hf.2 0 h0];exact h.first hE
theorem SrI.drop (h:SrI t sel D L lk g fn hp ord E) {e:QEn} (hh:hp.Perm (e :: hp')) {i:Nat} (hi:e.item=(i:Int)) (hd:fn[i]?=some true∨g[i]?≠some e.key):SrI t sel D L lk g fn hp' ord E :=
  { h with
    lower:=fun j c hj hc e' he'=>h.lower j c hj hc e' (hh.mem_iff.2 (List.mem_cons_of_mem _ he'))
    ent:=fun e' he'=>h.ent e' (hh.mem_iff.2 (List.mem_cons_of_mem _ he'))
    opn := fun j c hj hc=>by
      obtain ⟨e',m,k1,k2⟩:=h.opn j c hj hc
      rcases List.mem_cons.1 (hh.mem_iff.1 m) with rfl|hm
      · exfalso
        have e1:i=j:=by omega
        subst e1
        rcases hd with hd|hd
        · rw [hj] at hd;cases hd
        · exact hd (by rw [k1];exact hc)
      · exact ⟨e',hm,k1,k2⟩ }
theorem SrI.mark (h:SrI t sel (fun _ _=>True) L lk g fn hp ord E) {e:QEn} (hh:hp.Perm (e :: hp')) (hmin:∀ x∈hp,nb x e) {i:Nat} {s:List Int} (hi:e.item=(i:Int)) (hf:fn[i]?=some false) (hc:g[i]?=some e.key) (hs:L[i]?=some s) (hg:holdsB t.goal s=false) :
    SrI t sel (fun j _=>j≠i) L lk g (fn.set i true) hp' (fun j=>if j=i then E else ord j) (E + 1):=by
  have hil:=AD hf
  have hset:∀ j:Nat,(fn.set i true)[j]?=some true→j=i∨(j≠i∧fn[j]?=some true):=fun j hj=>by
    by_cases e1:j=i
    · exact .inl e1
    · rw [List.getElem?_set_ne (by omega)] at hj;exact .inr ⟨e1,hj⟩
  have hkeep:∀ j:Nat,fn[j]?=some true→j≠i∧(fn.set i true)[j]?=some true:=fun j hj=>by
    have hne:j≠i:=fun e1=>by subst e1;rw [hf] at hj;cases hj
    exact ⟨hne,by rw [List.getElem?_set_ne (by omega)];exact hj⟩
  refine ⟨h.root,h.root0,h.lenk,h.leng,by simp [h.lenf],?_,?_,?_,?_,?_,?_,?_,?_,by rw [Or hf,h.num],h.rch,?_⟩
  · intro j s' k c hs' hk' hc'
    rcases h.link j s' k c hs' hk' hc' with hh|⟨p',q',o',sp',c',a1,a2,a3,a4,a5,a6,a7,a8,a9,a10⟩
    · exact .inl hh
    · obtain ⟨hne,hp2⟩:=hkeep p' a5
      refine .inr ⟨p',q',o',sp',c',a1,a2,a3,a4,hp2,a6,a7,a8,a9,fun hj=>?_⟩
      rw [if_neg hne]
      rcases hset j hj with rfl|⟨hne2,hj2⟩
      · rw [if_pos rfl];exact h.ordl p' a5
      · rw [if_neg hne2];exact a10 hj2
  · intro j hj
    rcases hset j hj with rfl|⟨hne2,hj2⟩
    · rw [if_pos rfl];omega
    · rw [if_neg hne2];have:=h.ordl j hj2;omega
  · intro j c hj hcj e' he'
    have hm:e'∈hp:=hh.mem_iff.2 (List.mem_cons_of_mem _ he')
    rcases hset j hj with rfl|⟨_,hj2⟩
    · rw [hc] at hcj
      obtain rfl:=Option.some.inj hcj
      exact Nk (hmin e' hm)
    · exact h.lower j c hj2 hcj e' hm
  · exact fun e' he'=>h.ent e' (hh.mem_iff.2 (List.mem_cons_of_mem _ he'))
  · intro j c hj hcj
    have hne:j≠i:=fun e1=>by subst e1;rw [List.getElem?_set_self hil] at hj;cases hj
    rw [List.getElem?_set_ne (by omega)] at hj
    obtain ⟨e',m,k1,k2⟩:=h.opn j c hj hcj
    rcases List.mem_cons.1 (hh.mem_iff.1 m) with rfl|hm
    · omega
    · exact ⟨e',hm,k1,k2⟩
  · intro j c hcj
    have:=h.bound j c hcj
    omega
  · intro j s' hj hs'
    rcases hset j hj with rfl|⟨_,hj2⟩
    · rw [hs] at hs';obtain rfl:=Option.some.inj hs';exact hg
    · exact h.nogoal j s' hj2 hs'
  · intro j s' q hj hs' hq hD
    rcases hset j hj with rfl|⟨_,hj2⟩
    · exact absurd rfl hD
    · exact h.rel j s' q hj2 hs' hq trivial
  · intro _
    by_cases h0:i=0
    · subst h0;exact List.getElem?_set_self hil
    · have hE:0 < E:=by
        obtain ⟨k,hk⟩:=AF (l:=lk) (k:=i) (by rw [h.lenk,← h.lenf];exact hil)
        rcases h.link i s k _ hs hk hc with ⟨hh,_⟩|⟨p',_,_,_,_,_,_,_,_,a5,_⟩
        · exact absurd hh h0
        · rw [← h.num];exact Ot a5
      exact (hkeep 0 (h.first hE)).2
theorem SrI.front (h:SrI t sel (fun _ _=>True) L lk g fn hp ord E) (hok:TaskOk t) {s:List Int} {C:Int} (hw:WalkS t sel s C):∀ (i:Nat) c,L[i]?=some s→g[i]?=some c→∃ e∈hp,e.key≤c + C:=by
  induction hw with
  | @goal s hg =>
    intro i c hi hc
    obtain ⟨b,hb⟩:=AF (l:=fn) (k:=i) (by rw [h.lenf];exact AD hi)
    cases b with
    | false=>obtain ⟨e,m,k1,_⟩:=h.opn i c hb hc;exact ⟨e,m,by omega⟩
    | true=>have:=h.nogoal i s hb hi;rw [hg] at this;cases this
  | @step s k o C ho hk hw ih =>
    intro i c hi hc
    have h1:=PQ hok hw
    have h2:=(hok.2.2.2.2.2 k o ho).1
    obtain ⟨b,hb⟩:=AF (l:=fn) (k:=i) (by rw [h.lenf];exact AD hi)
    cases b with
    | false=>obtain ⟨e,m,k1,_⟩:=h.opn i c hb hc;exact ⟨e,m,by omega⟩
    | true =>
      obtain ⟨k',o',i',c0,c',a1,a2,a3,a4,a5,a6⟩:=h.rel i s _ hb hi hk trivial
      have e1:k=k':=by omega
      subst e1
      rw [ho] at a2
      obtain rfl:=Option.some.inj a2
      rw [hc] at a4
      obtain rfl:=Option.some.inj a4
      obtain ⟨e,m,k1⟩:=ih i' c' a3 a5
      exact ⟨e,m,by omega⟩
theorem SrI.pathF (h:SrI t sel D L lk g fn hp ord E):∀ (n i:Nat) s c,ord i < n→fn[i]?=some true→L[i]?=some s→g[i]?=some c→∃ p,PathL lk i p∧PlanR t t.init p s c∧p.length≤ord i:=by
  intro n
  induction n with
  | zero=>intro i s c hn;omega
  | succ n ih =>
    intro i s c hn hf hi hc
    obtain ⟨k,hk⟩:=AF (l:=lk) (k:=i) (by rw [h.lenk];exact AD hi)
    rcases h.link i s k c hi hk hc with ⟨rfl,h1,rfl⟩|⟨p',q',o',sp',c',a1,a2,a3,a4,a5,a6,a7,a8,a9,a10⟩
    · rw [h.root] at hi
      obtain rfl:=Option.some.inj hi
      exact ⟨[],.root hk (by omega),.nil,by simp⟩
    · have ho:=a10 hf
      obtain ⟨p,b1,b2,b3⟩:=ih p' sp' c' (by omega) a5 a4 a8
      refine ⟨p ++ [k.op],.step hk a1 b1,?_,by simp;omega⟩
      rw [a2,a9,← a7]
      exact b2.snoc a3 a6
theorem SrI.path (h:SrI t sel D L lk g fn hp ord E) {i:Nat} {s:List Int} {c:Int} (hi:L[i]?=some s) (hc:g[i]?=some c):∃ p,PathL lk i p∧PlanR t t.init p s c∧p.length≤E:=by
  obtain ⟨k,hk⟩:=AF (l:=lk) (k:=i) (by rw [h.lenk];exact AD hi)
  rcases h.link i s k c hi hk hc with ⟨rfl,h1,rfl⟩|⟨p',q',o',sp',c',a1,a2,a3,a4,a5,a6,a7,a8,a9,a10⟩
  · rw [h.root] at hi
    obtain rfl:=Option.some.inj hi
    exact ⟨[],.root hk (by omega),.nil,by simp⟩
  · have ho:=h.ordl p' a5
    obtain ⟨p,b1,b2,b3⟩:=h.pathF (ord p' + 1) p' sp' c' (by omega) a5 a4 a8
    refine ⟨p ++ [k.op],.step hk a1 b1,?_,by simp;omega⟩
    rw [a2,a9,← a7]
    exact b2.snoc a3 a6
theorem SrI.more (h:SrI t sel D L lk g fn hp ord E) {D':Nat→Int→Prop} {j₀:Nat} {q₀:Int} (hD:∀ j q,D' j q→D j q∨(j=j₀∧q=q₀)) {s:List Int} (hs:L[j₀]?=some s) {k:Nat} {o:Opr} {i:Nat} {c c':Int} (h1:q₀=(k:Int)) (h2:t.ops[k]?=some o) (h3:L[i]?=some (succ o s)) (h4:g[j₀]?=some c) (h5:g[i]?=some c') (h6:c'≤c + o.cost):SrI t sel D' L lk g fn hp ord E :=
  { h with
    rel := fun j s' q hj hs' hq hd=>by
      rcases hD j q hd with hd|⟨rfl,rfl⟩
      · exact h.rel j s' q hj hs' hq hd
      · rw [hs] at hs'
        obtain rfl:=Option.some.inj hs'
        exact ⟨k,o,i,c,c',h1,h2,h3,h4,h5,h6⟩ }
end
end
end Go.Proofs.YtafdmfhdjfkooaaGreat

/- Own text: what the proof of compilePlans_holds uses, part 3: rules, models and their proofs, plain laws. -/
import Derived.Test.YtjohlgjklmagnaaGreatDoorCPB
set_option linter.unusedVariables false
set_option linter.unusedSimpArgs false
namespace Go.Proofs.YtjohlgjklmagnaaGreatDoor
open Go Go.RowKit
section
open Go Go.RowKit
attribute [local irreducible] ewp owp hwp hwq Ev Evg Fn retPost Res1
attribute [local irreducible] hwx loudX
instance:TMap Tryz.prog 115 3 119:=⟨Tryz.underlying115⟩
instance:TKey Tryz.prog 3 Int:=⟨Tryz.underlying3⟩
structure Job where
  name:ByteArray
  dur:Int
  start:List Fct
  over:List Fct
  fin:List Fct
  atStart:List Fct
  atEnd:List Fct
instance:Rp Job where
  isAgg:=true
  size:=7
  R w F cs x:=∃ v0 v1 v2 v3 v4,cs=[.string x.name,.int .i64 x.dur,v0,v1,v2,v3,v4]∧Vb w F v0 x.start∧Vb w F v1 x.over∧Vb w F v2 x.fin∧Vb w F v3 x.atStart∧Vb w F v4 x.atEnd∧x.name.size≤9223372036854775807∧inI64 x.dur
  len:=by rintro w F cs x ⟨v0,v1,v2,v3,v4,rfl,h0,h1,h2,h3,h4,h5,h6⟩;rfl
  one:=by rintro w F cs x ⟨v0,v1,v2,v3,v4,rfl,h0,h1,h2,h3,h4,h5,h6⟩ u hu;simp at hu;rcases hu with rfl|rfl|rfl|rfl|rfl|rfl|rfl<;>first|rfl|exact Vb.one rfl (by assumption)
  agree:=by rintro w w' F cs x ⟨v0,v1,v2,v3,v4,rfl,h0,h1,h2,h3,h4,h5,h6⟩ ha;exact ⟨v0,v1,v2,v3,v4,rfl,h0.agree ha,h1.agree ha,h2.agree ha,h3.agree ha,h4.agree ha,h5,h6⟩
  mono:=by rintro w F G cs x ⟨v0,v1,v2,v3,v4,rfl,h0,h1,h2,h3,h4,h5,h6⟩ ha;exact ⟨v0,v1,v2,v3,v4,rfl,h0.mono ha,h1.mono ha,h2.mono ha,h3.mono ha,h4.mono ha,h5,h6⟩
structure Tpl where
  vars:List Int
  init:List Int
  goal:List Fct
  jobs:List Job
instance:Rp Tpl where
  isAgg:=true
  size:=4
  R w F cs x:=∃ v0 v1 v2 v3,cs=[v0,v1,v2,v3]∧Vb w F v0 x.vars∧Vb w F v1 x.init∧Vb w F v2 x.goal∧Vb w F v3 x.jobs
  len:=by rintro w F cs x ⟨v0,v1,v2,v3,rfl,h0,h1,h2,h3⟩;rfl
  one:=by rintro w F cs x ⟨v0,v1,v2,v3,rfl,h0,h1,h2,h3⟩ u hu;simp at hu;rcases hu with rfl|rfl|rfl|rfl<;>first|rfl|exact Vb.one rfl (by assumption)
  agree:=by rintro w w' F cs x ⟨v0,v1,v2,v3,rfl,h0,h1,h2,h3⟩ ha;exact ⟨v0,v1,v2,v3,rfl,h0.agree ha,h1.agree ha,h2.agree ha,h3.agree ha⟩
  mono:=by rintro w F G cs x ⟨v0,v1,v2,v3,rfl,h0,h1,h2,h3⟩ ha;exact ⟨v0,v1,v2,v3,rfl,h0.mono ha,h1.mono ha,h2.mono ha,h3.mono ha⟩
structure Lch where
  tm:Int
  job:Int
instance:Rp Lch where
  isAgg:=true
  size:=2
  R w F cs x:=cs=[.int .i64 x.tm,.int .i64 x.job]∧inI64 x.tm∧inI64 x.job
  len:=by rintro w F cs x ⟨rfl,h0,h1⟩;rfl
  one:=by rintro w F cs x ⟨rfl,h0,h1⟩ u hu;simp at hu;rcases hu with rfl|rfl<;>first|rfl|exact Vb.one rfl (by assumption)
  agree:=by rintro w w' F cs x ⟨rfl,h0,h1⟩ ha;exact ⟨rfl,h0,h1⟩
  mono:=by rintro w F G cs x ⟨rfl,h0,h1⟩ ha;exact ⟨rfl,h0,h1⟩
structure Hap where
  job:Int
  fin:Bool
instance:Rp Hap where
  isAgg:=true
  size:=2
  R w F cs x:=cs=[.int .i64 x.job,.bool x.fin]∧inI64 x.job
  len:=by rintro w F cs x ⟨rfl,h0⟩;rfl
  one:=by rintro w F cs x ⟨rfl,h0⟩ u hu;simp at hu;rcases hu with rfl|rfl<;>first|rfl|exact Vb.one rfl (by assumption)
  agree:=by rintro w w' F cs x ⟨rfl,h0⟩ ha;exact ⟨rfl,h0⟩
  mono:=by rintro w F G cs x ⟨rfl,h0⟩ ha;exact ⟨rfl,h0⟩
structure Hp5 where
  launch:Int
  fin:Bool
instance:Rp Hp5 where
  isAgg:=true
  size:=2
  R w F cs x:=cs=[.int .i64 x.launch,.bool x.fin]∧inI64 x.launch
  len:=by rintro w F cs x ⟨rfl,h0⟩;rfl
  one:=by rintro w F cs x ⟨rfl,h0⟩ u hu;simp at hu;rcases hu with rfl|rfl<;>first|rfl|exact Vb.one rfl (by assumption)
  agree:=by rintro w w' F cs x ⟨rfl,h0⟩ ha;exact ⟨rfl,h0⟩
  mono:=by rintro w F G cs x ⟨rfl,h0⟩ ha;exact ⟨rfl,h0⟩
noncomputable def DA (x0:Tpl):Option (List (List Fct)) :=
  bnd (rng (ρ:=(List (List Fct))) (fun (k36:Nat) (a37:Job) (s34:(List (List Fct)))=>bnd (appI 24 s34 [a37.start,a37.over,a37.fin,a37.atStart,a37.atEnd]) fun u93=>some (.next u93)) x0.jobs 0 [x0.goal]) fun res32=>fin res32 fun (s108:(List (List Fct)))=>some s108
theorem Mb {w:World} {A:Nat→Prop} (hA:∀ k,A k→k < w.heap.size) {vx0:Value} {x0:Tpl} (y0:Vb w A vx0 x0) {r:(List (List Fct))} (hm:DA x0=some r) :
    Fn Tryz.prog 59 [vx0] w fun v w'=>Ext w w'∧Vb w' (upA A w w') v r:=by
 obtain ⟨O,hB,p1⟩:=enter hA
 replace y0:=y0.mono p1
 obtain ⟨a3,rfl,v3,v4,v5,v6,rfl,h7,q1,p0,c0⟩:=y0
 obtain ⟨A8,c9,rfl⟩:=h7.form
 obtain ⟨r1,s1,rfl⟩:=q1.form
 obtain ⟨t1,u1,rfl⟩:=p0.form
 obtain ⟨z0,a1,rfl⟩:=c0.form
 refine AH Tryz.func59 rfl Tryz.ntmps59 ?_
 unfold DA at hm
 refine Ab (Aa (BQ 2 O rfl fun v1 w1 n1 q0 j0=>?_))
 replace j0:Lc 2 w1 n1 v1 26 [(.slice A8 x0.vars.length c9),(.slice r1 x0.init.length s1),(.slice t1 x0.goal.length u1),(.slice z0 x0.jobs.length a1)]:=j0
 refine Al rfl (o_z ?_)
 refine Ab (Aa (AB rfl (Az (hc:=Blk.cell (i:=2) (j0.1) rfl) rfl ?_)))
 replace p0:=p0.st q0
 refine AN 3 (by decide) n1 (xs:=([x0.goal]:List (List Fct))) rfl rfl rfl ⟨p0,trivial⟩ (by decide) (by decide) rfl fun x1 b3 y1 r0 z1=>?_
 refine Al rfl (o_z ?_)
 refine Ab (Ab (Aa (AB rfl ?_)))
 replace j0:=j0.st r0
 refine Az (hc:=Blk.cell (i:=3) (j0.1) rfl) rfl ?_
 refine AR rfl ?_
 replace c0:=(c0.st q0).st r0
 have b1:x0.jobs.length≤9223372036854775807:=Nat.le_trans c0.len.2.1 c0.len.2.2
 have c3:inI64 (x0.jobs.length:Int):=rngNat b1
 refine Ak rfl (o_z ?_)
 obtain ⟨k0,c1,hm⟩:=bs hm
 refine Au (aft k0 (fun (d0:(List (List Fct))) (a0:(Option Addr×Nat))=>[(3,(.slice a0.1 d0.length a0.2))]) (fun d0 a0 w'=>∃ O':Lab,Bs w A w' O'∧Rw 3 w' O' 23 (.slice a0.1 d0.length a0.2) d0)) ?_ ?_
 ·
  refine AJ ?_
  replace hB:=(hB.st q0).st r0
  refine Bh (σ:=(List (List Fct))) (X:=(Option Addr×Nat)) (x0.jobs.length) c1 rfl b1 (fun (d0:(List (List Fct))) (a0:(Option Addr×Nat))=>[(3,(.slice a0.1 d0.length a0.2)),(10,(.slice z0 x0.jobs.length a1))]) _ (fun d0 a0 w'=>∃ O':Lab,Bs w A w' O'∧Rw 3 w' O' 23 (.slice a0.1 d0.length a0.2) d0∧Vb w' (Fr 0 w' O') (.slice z0 x0.jobs.length a1) x0.jobs) _ ((some ⟨x1,0,none⟩),1) ⟨y1,hB,z1,c0⟩ ⟨rfl,rfl,rfl,rfl,trivial⟩ (fun _ _=>⟨rfl,rfl⟩) (fun _ _=>⟨rfl,trivial⟩) (fun _ _ _ ⟨O',hB,e0,c0⟩=>⟨O',hB,e0⟩) ⟨rfl,rfl,rfl⟩ ⟨rfl,rfl⟩ ?_
  rintro a2 b0 d0 a0 d3 b2 l0 ⟨c2,hB,e0,c0⟩ i0 d1 e1
  have rk36:inI64 (a2:Int):=rngK l0 b1
  refine Ab (Aa ?_)
  obtain ⟨e3,f3,d2,f1,g1,h1,g3,h3,i3,j3,k3,rfl,s0,t0,u0,v0,w0,l3,m3⟩:=c0.elem' l0
  obtain ⟨e2,f2,rfl⟩:=s0.form
  obtain ⟨g2,h2,rfl⟩:=t0.form
  obtain ⟨i2,j2,rfl⟩:=u0.form
  obtain ⟨k2,l2,rfl⟩:=v0.form
  obtain ⟨m2,n2,rfl⟩:=w0.form
  refine Bv (hA:=f1) (hj:=rfl) (hlt:=g1) rfl rfl ?_
  refine Bg (hl:=rfl) (hc:=h1) rfl ?_
  refine AT 4 c2 fun o2 n3 o1 g0 f0=>?_
  refine AD f0 rfl rfl rfl (AL) (allOne) fun p2 h0 f0=>?_
  replace f0:Lc 4 p2 o1 o2 66 [(.string b0.name),(.int .i64 b0.dur),(.slice e2 b0.start.length f2),(.slice g2 b0.over.length h2),(.slice i2 b0.fin.length j2),(.slice k2 b0.atStart.length l2),(.slice m2 b0.atEnd.length n2)]:=f0
  refine o_z ?_
  refine Aa (Ak rfl (AB rfl (Az (hc:=Blk.cell (i:=2) (f0.1) rfl) rfl ?_)))
  refine AB rfl (Az (hc:=Blk.cell (i:=3) (f0.1) rfl) rfl ?_)
  refine AB rfl (Az (hc:=Blk.cell (i:=4) (f0.1) rfl) rfl ?_)
  refine AB rfl (Az (hc:=Blk.cell (i:=5) (f0.1) rfl) rfl ?_)
  refine AB rfl (Az (hc:=Blk.cell (i:=6) (f0.1) rfl) rfl ?_)
  replace s0:=(s0.st g0).st h0
  replace t0:=(t0.st g0).st h0
  replace u0:=(u0.st g0).st h0
  replace v0:=(v0.st g0).st h0
  replace w0:=(w0.st g0).st h0
  refine AN 5 (by decide) o1 (xs:=([b0.start,b0.over,b0.fin,b0.atStart,b0.atEnd]:List (List Fct))) rfl rfl rfl ⟨s0,t0,u0,v0,w0,trivial⟩ (by decide) (by decide) rfl fun o3 p3 q3 i1 q2=>?_
  obtain ⟨r3,j1,i0⟩:=bs i0
  obtain ⟨j1,r2,s2⟩:=AO j1
  replace e0:=((e0.st g0).st h0).st i1
  refine BE rfl e0 (q2.rd) rfl rfl (by decide) r2 s2 rfl fun t2 u2 s3 v2 m0 n0=>?_
  rw [← j1] at n0 ⊢
  refine Al rfl (o_z ?_)
  obtain rfl:=sm i0
  exact show Exists _ from ⟨_,(t2,u2),rfl,⟨rfl,rfl,rfl,rfl,trivial⟩,_,(((hB.st g0).st h0).st i1).st m0,n0,(((c0.st g0).st h0).st i1).st m0⟩
 replace hB:=(hB.st q0).st r0
 rintro w2 k1 ⟨x2,y2,rfl,o0,z2,hB,e0⟩
 replace hm:=AP hm
 refine AE _ o0 ?_
 refine Ab (Aa (Ak rfl (Al rfl (o_z ?_))))
 refine AC ?_
 obtain ⟨l1,m1,e0⟩:=e0.freeze
 obtain rfl:=sm hm
 replace hB:=hB.st m1
 exact ret1v rfl (At rfl) ⟨hB.ext,(Vb.mono (F:=Fr 0 k1 l1) e0 hB.out)⟩
noncomputable def Du (x0:List Fct):Option Bool :=
  bnd (if 64 < (x0.length:Int) then (some true) else (some false):Option Bool) fun y4=>some y4
theorem KD {w:World} {A:Nat→Prop} (hA:∀ k,A k→k < w.heap.size) {vx0:Value} {x0:List Fct} (b0:Vb w A vx0 x0) {r:Bool} (hm:Du x0=some r) :
    Fn Tryz.prog 61 [vx0] w fun v w'=>Ext w w'∧Vb w' (upA A w w') v r:=by
 obtain ⟨O,hB,e0⟩:=enter hA
 replace b0:=b0.mono e0
 obtain ⟨A2,c3,rfl⟩:=b0.form
 refine AH Tryz.func61 rfl Tryz.ntmps61 ?_
 unfold Du at hm
 refine Ab (Aa (Al rfl (o_z ?_)))
 refine Ab ?_
 obtain ⟨y4,a0,hm⟩:=bs hm
 refine Au (fun l' w'=>∃ (x7:Unit) (O':Lab),subs l' [(2,(.bool y4))]∧Bs w A w' O') ?_ ?_
 ·
  refine Aa (Ak rfl (AR rfl ?_))
  have l9:x0.length≤9223372036854775807:=Nat.le_trans b0.len.2.1 b0.len.2.2
  have r8:inI64 (x0.length:Int):=rngNat l9
  refine Dg rfl rfl (fun c0=>?_) fun c0=>?_
  ·
   replace a0:=ip a0 c0
   refine Al rfl (o_z ?_)
   obtain rfl:=sm a0
   exact ⟨(),_,⟨rfl,trivial⟩,hB⟩
  replace a0:=im a0 c0
  refine Al rfl (o_z ?_)
  obtain rfl:=sm a0
  exact ⟨(),_,⟨rfl,trivial⟩,hB⟩
 rintro f0 g0 ⟨x7,h0,d0,hB⟩
 refine AE _ d0 ?_
 refine AC ?_
 obtain rfl:=sm hm
 exact ret1v rfl (At rfl) ⟨hB.ext,vBool⟩
noncomputable def Bi (x0:List (List Fct)):Option Int :=
  bnd (rng (ρ:=Int) (fun (k11:Nat) (a12:List Fct) (s9:Unit)=>bnd (Du a12) fun q33=>if q33=true then some (.ret (k11:Int)) else some (.next ())) x0 0 ()) fun res7=>fin res7 fun (s44:Unit)=>some (-1)
theorem Ee {w:World} {A:Nat→Prop} (hA:∀ k,A k→k < w.heap.size) {vx0:Value} {x0:List (List Fct)} (b0:Vb w A vx0 x0) {r:Int} (hm:Bi x0=some r) :
    Fn Tryz.prog 110 [vx0,(.func (.func 61) #[] #[])] w fun v w'=>Ext w w'∧Vb w' (upA A w w') v r:=by
 obtain ⟨O,hB,q0⟩:=enter hA
 replace b0:=b0.mono q0
 obtain ⟨A3,c4,rfl⟩:=b0.form
 refine AH Tryz.func110 rfl Tryz.ntmps110 ?_
 unfold Bi at hm
 refine Ab (Aa (Al rfl (o_z ?_)))
 refine Ab (Ab (Aa (Ak rfl (AR rfl ?_))))
 have l6:x0.length≤9223372036854775807:=Nat.le_trans b0.len.2.1 b0.len.2.2
 have r5:inI64 (x0.length:Int):=rngNat l6
 refine Ak rfl (o_z ?_)
 obtain ⟨g0,r0,hm⟩:=bs hm
 refine Au (aft g0 (fun (s9:Unit) (e0:Unit)=>[]) (fun s9 e0 w'=>∃ O':Lab,Bs w A w' O')) ?_ ?_
 ·
  refine AJ (Bh (σ:=Unit) (X:=Unit) (x0.length) r0 rfl l6 (fun (s9:Unit) (e0:Unit)=>[(0,(.slice A3 x0.length c4)),(1,(.func (.func 61) #[] #[]))]) _ (fun s9 e0 w'=>∃ O':Lab,Bs w A w' O'∧Vb w' (Fr 0 w' O') (.slice A3 x0.length c4) x0) _ () ⟨O,hB,b0⟩ ⟨rfl,rfl,rfl,rfl,trivial⟩ (fun _ _=>⟨rfl,rfl⟩) (fun _ _=>trivial) (fun _ _ _ ⟨O',hB,b0⟩=>⟨O',hB⟩) ⟨rfl,rfl,rfl⟩ ⟨rfl,rfl⟩ ?_)
  rintro s0 y0 s9 e0 n0 t0 d0 ⟨o0,hB,b0⟩ a0 c0 h0
  have rk11:inI64 (s0:Int):=rngK d0 l6
  refine Ab (Aa (Ak rfl (Al rfl (o_z ?_))))
  refine Ab (Aa (Ak rfl (Ak rfl (Ak rfl ?_))))
  obtain ⟨z0,a1,u0,i0,j0,k0,b1,rfl,f0⟩:=b0.elem' d0
  replace f0:=Vb.of_slice f0
  obtain ⟨c1,d1,rfl⟩:=f0.form
  refine Bv (hA:=i0) (hj:=rfl) (hlt:=j0) rfl rfl ?_
  refine Az (hc:=cat0 k0) rfl ?_
  obtain ⟨p0,v0,a0⟩:=bs a0
  refine RV (O:=o0) (A:=All n0) (R:=fun w' F v=>Vb w' F v p0) (KD (fun _ h=>h) (Vb.mono (F:=Fr 0 n0 o0) f0 Fr.lt) v0) rfl rfl rfl fun e1 f1 g1 l0 w0=>?_
  obtain rfl:=w0.bool
  cases p0
  case false =>
   replace a0:=iF a0
   refine o_z ?_
   refine Ah rfl (AK ?_)
   obtain rfl:=sm a0
   exact show Exists _ from ⟨_,(),rfl,⟨rfl,rfl,rfl,rfl,trivial⟩,_,hB.st l0,b0.st l0⟩
  replace a0:=iT a0
  refine o_z ?_
  refine Aj rfl (Ab (Aa (Ak rfl (Al rfl (o_z ?_)))))
  refine AC ?_
  obtain rfl:=sm a0
  obtain rfl:=c0 _ rfl
  obtain rfl:=sm (CG hm)
  replace hB:=hB.st l0
  exact ret1v rfl (At rfl) ⟨hB.ext,(vInt rk11)⟩
 rintro h1 i1 ⟨j1,k1,rfl,m0,l1,hB⟩
 replace hm:=AP hm
 refine AE _ m0 ?_
 refine Ab (Aa (Al rfl (o_z ?_)))
 refine AC ?_
 obtain rfl:=sm hm
 exact ret1v rfl (At rfl) ⟨hB.ext,(vInt (show inI64 (-1) from by decide))⟩
noncomputable def AV (x0:List (List Fct)):Option Bool :=
  bnd (bnd (Bi x0) fun q9=>if 0≤q9 then (some true) else (some false):Option Bool) fun y5=>some y5
theorem DN {w:World} {A:Nat→Prop} (hA:∀ k,A k→k < w.heap.size) {vx0:Value} {x0:List (List Fct)} (b0:Vb w A vx0 x0) {r:Bool} (hm:AV x0=some r) :
    Fn Tryz.prog 60 [vx0,(.func (.func 61) #[] #[])] w fun v w'=>Ext w w'∧Vb w' (upA A w w') v r:=by
 obtain ⟨O,hB,f0⟩:=enter hA
 replace b0:=b0.mono f0
 obtain ⟨A3,c4,rfl⟩:=b0.form
 refine AH Tryz.func60 rfl Tryz.ntmps60 ?_
 unfold AV at hm
 refine Ab (Aa (Al rfl (o_z ?_)))
 refine Ab ?_
 obtain ⟨y5,a0,hm⟩:=bs hm
 refine Au (fun l' w'=>∃ (x8:Unit) (O':Lab),subs l' [(4,(.bool y5))]∧Bs w A w' O') ?_ ?_
 ·
  refine Aa (Ak rfl (Ak rfl ?_))
  obtain ⟨q9,g0,a0⟩:=bs a0
  refine AG (O:=O) (A:=All w) (R:=fun w' F v=>Vb w' F v q9) (Ee (fun _ h=>h) (Vb.mono (F:=Fr 0 w O) b0 Fr.lt) g0) rfl fun i0 j0 k0 e0 h0=>?_
  obtain ⟨rfl,l0⟩:=h0.int
  refine Fs rfl rfl (fun c0=>?_) fun c0=>?_
  ·
   replace a0:=ip a0 c0
   refine Al rfl (o_z ?_)
   obtain rfl:=sm a0
   exact ⟨(),_,⟨rfl,trivial⟩,hB.st e0⟩
  replace a0:=im a0 c0
  refine Al rfl (o_z ?_)
  obtain rfl:=sm a0
  exact ⟨(),_,⟨rfl,trivial⟩,hB.st e0⟩
 rintro m0 n0 ⟨x8,o0,d0,hB⟩
 refine AE _ d0 ?_
 refine AC ?_
 obtain rfl:=sm hm
 exact ret1v rfl (At rfl) ⟨hB.ext,vBool⟩
noncomputable def Dv (x0:List Fct) (y0:Tpl):Option Bool :=
  bnd (bnd (Gr y0.vars x0) fun q24=>if q24=true then some false else some true:Option Bool) fun y20=>some y20
theorem KE {w:World} {A:Nat→Prop} (hA:∀ k,A k→k < w.heap.size) {vx0:Value} {x0:List Fct} (b0:Vb w A vx0 x0) {py0:Nat} {csy0:List Value} {y0:Tpl} (hby0:Blk w py0 26 csy0) (hay0:A py0) (hcy0:Rp.R w A csy0 y0) {r:Bool} (hm:Dv x0 y0=some r) :
    Fn Tryz.prog 63 [vx0,(.pointer (some ⟨py0,0,none⟩))] w fun v w'=>Ext w w'∧Vb w' (upA A w w') v r:=by
 obtain ⟨O,hB,c0⟩:=enter hA
 have hLy0:Lc 0 w O py0 26 csy0:=⟨hby0,(c0 py0 hay0).2⟩
 replace hcy0:=Rp.mono hcy0 c0
 obtain ⟨v2,v3,v4,v5,rfl,h6,h9,g0,h0⟩:=hcy0
 obtain ⟨A7,c8,rfl⟩:=h6.form
 obtain ⟨m0,n0,rfl⟩:=h9.form
 obtain ⟨o0,p0,rfl⟩:=g0.form
 obtain ⟨q0,r0,rfl⟩:=h0.form
 replace b0:=b0.mono c0
 obtain ⟨s0,t0,rfl⟩:=b0.form
 refine AH Tryz.func63 rfl Tryz.ntmps63 ?_
 unfold Dv at hm
 refine Ab (Aa (Al rfl (o_z ?_)))
 refine Ab ?_
 obtain ⟨i0,a0,hm⟩:=bs hm
 refine Au (fun l' w'=>∃ (j0:Unit) (O':Lab),subs l' [(3,(.bool i0))]∧Bs w A w' O') ?_ ?_
 ·
  refine Aa (AB rfl (Az (hc:=Blk.cell (i:=0) (hLy0.1) rfl) rfl ?_))
  refine Ak rfl ?_
  obtain ⟨e0,k0,a0⟩:=bs a0
  refine AG (O:=O) (A:=All w) (R:=fun w' F v=>Vb w' F v e0) (ON (fun _ h=>h) (Vb.mono (F:=Fr 0 w O) h6 Fr.lt) (Vb.mono (F:=Fr 0 w O) b0 Fr.lt) k0) rfl fun u0 v0 w0 f0 l0=>?_
  obtain rfl:=l0.bool
  cases e0
  case false =>
   replace a0:=iF a0
   refine Fd rfl (Al rfl (o_z ?_))
   obtain rfl:=sm a0
   exact ⟨(),_,⟨rfl,trivial⟩,hB.st f0⟩
  replace a0:=iT a0
  refine Fc rfl (Al rfl (o_z ?_))
  obtain rfl:=sm a0
  exact ⟨(),_,⟨rfl,trivial⟩,hB.st f0⟩
 rintro z0 a1 ⟨j0,b1,d0,hB⟩
 refine AE _ d0 ?_
 refine AC ?_
 obtain rfl:=sm hm
 exact ret1v rfl (At rfl) ⟨hB.ext,vBool⟩
noncomputable def Bj (x0:List (List Fct)) (y0:Tpl):Option Int :=
  bnd (rng (ρ:=Int) (fun (k27:Nat) (a28:List Fct) (s25:Unit)=>bnd (Dv a28 y0) fun q49=>if q49=true then some (.ret (k27:Int)) else some (.next ())) x0 0 ()) fun res23=>fin res23 fun (s60:Unit)=>some (-1)
theorem Ef {w:World} {A:Nat→Prop} (hA:∀ k,A k→k < w.heap.size) {vx0:Value} {x0:List (List Fct)} (b0:Vb w A vx0 x0) {py0:Nat} {csy0:List Value} {y0:Tpl} (hby0:Blk w py0 26 csy0) (hay0:A py0) (hcy0:Rp.R w A csy0 y0) {r:Int} (hm:Bj x0 y0=some r) :
    Fn Tryz.prog 110 [vx0,(.func (.func 63) #[] #[(.pointer (some ⟨py0,0,none⟩))])] w fun v w'=>Ext w w'∧Vb w' (upA A w w') v r:=by
 obtain ⟨O,hB,m0⟩:=enter hA
 have hLy0:Lc 0 w O py0 26 csy0:=⟨hby0,(m0 py0 hay0).2⟩
 replace hcy0:=Rp.mono hcy0 m0
 obtain ⟨v3,v4,v5,v6,rfl,h7,e0,f0,g0⟩:=hcy0
 obtain ⟨A8,c9,rfl⟩:=h7.form
 obtain ⟨w0,z0,rfl⟩:=e0.form
 obtain ⟨a1,b1,rfl⟩:=f0.form
 obtain ⟨c1,d1,rfl⟩:=g0.form
 replace b0:=b0.mono m0
 obtain ⟨e1,f1,rfl⟩:=b0.form
 refine AH Tryz.func110 rfl Tryz.ntmps110 ?_
 unfold Bj at hm
 refine Ab (Aa (Al rfl (o_z ?_)))
 refine Ab (Ab (Aa (Ak rfl (AR rfl ?_))))
 have n0:x0.length≤9223372036854775807:=Nat.le_trans b0.len.2.1 b0.len.2.2
 have m1:inI64 (x0.length:Int):=rngNat n0
 refine Ak rfl (o_z ?_)
 obtain ⟨h0,o0,hm⟩:=bs hm
 refine Au (aft h0 (fun (j0:Unit) (k0:Unit)=>[]) (fun j0 k0 w'=>∃ O':Lab,Bs w A w' O')) ?_ ?_
 ·
  refine AJ (Bh (σ:=Unit) (X:=Unit) (x0.length) o0 rfl n0 (fun (j0:Unit) (k0:Unit)=>[(0,(.slice e1 x0.length f1)),(1,(.func (.func 63) #[] #[(.pointer (some ⟨py0,0,none⟩))]))]) _ (fun j0 k0 w'=>∃ O':Lab,Bs w A w' O'∧Vb w' (Fr 0 w' O') (.slice e1 x0.length f1) x0∧Lc 0 w' O' py0 26 [(.slice A8 y0.vars.length c9),(.slice w0 y0.init.length z0),(.slice a1 y0.goal.length b1),(.slice c1 y0.jobs.length d1)]∧Vb w' (Fr 0 w' O') (.slice A8 y0.vars.length c9) y0.vars∧Vb w' (Fr 0 w' O') (.slice w0 y0.init.length z0) y0.init∧Vb w' (Fr 0 w' O') (.slice a1 y0.goal.length b1) y0.goal∧Vb w' (Fr 0 w' O') (.slice c1 y0.jobs.length d1) y0.jobs) _ () ⟨O,hB,b0,hLy0,h7,e0,f0,g0⟩ ⟨rfl,rfl,rfl,rfl,trivial⟩ (fun _ _=>⟨rfl,rfl⟩) (fun _ _=>trivial) (fun _ _ _ ⟨O',hB,b0,hLy0,h7,e0,f0,g0⟩=>⟨O',hB⟩) ⟨rfl,rfl,rfl⟩ ⟨rfl,rfl⟩ ?_)
  rintro h1 n1 j0 k0 p0 i1 i0 ⟨q0,hB,b0,hLy0,h7,e0,f0,g0⟩ a0 d0 r0
  have rk27:inI64 (h1:Int):=rngK i0 n0
  refine Ab (Aa (Ak rfl (Al rfl (o_z ?_))))
  refine Ab (Aa (Ak rfl (Ak rfl (Ak rfl ?_))))
  obtain ⟨o1,p1,j1,s0,t0,u0,q1,rfl,l0⟩:=b0.elem' i0
  replace l0:=Vb.of_slice l0
  obtain ⟨r1,s1,rfl⟩:=l0.form
  refine Bv (hA:=s0) (hj:=rfl) (hlt:=t0) rfl rfl ?_
  refine Az (hc:=cat0 u0) rfl ?_
  obtain ⟨g1,k1,a0⟩:=bs a0
  refine HI (O:=q0) (A:=All p0) (R:=fun w' F v=>Vb w' F v g1) (KE (fun _ h=>h) (Vb.mono (F:=Fr 0 p0 q0) l0 Fr.lt) hLy0.1 hLy0.1.lt (Rp.mono (F:=Fr 0 p0 q0) (x:=y0) ⟨_,_,_,_,rfl,h7,e0,f0,g0⟩ Fr.lt) k1) rfl rfl rfl rfl fun t1 u1 v1 c0 l1=>?_
  obtain rfl:=l1.bool
  cases g1
  case false =>
   replace a0:=iF a0
   refine o_z ?_
   refine Ah rfl (AK ?_)
   obtain rfl:=sm a0
   exact show Exists _ from ⟨_,(),rfl,⟨rfl,rfl,rfl,rfl,trivial⟩,_,hB.st c0,b0.st c0,hLy0.st c0,h7.st c0,e0.st c0,f0.st c0,g0.st c0⟩
  replace a0:=iT a0
  refine o_z ?_
  refine Aj rfl (Ab (Aa (Ak rfl (Al rfl (o_z ?_)))))
  refine AC ?_
  obtain rfl:=sm a0
  obtain rfl:=d0 _ rfl
  obtain rfl:=sm (CG hm)
  replace hB:=hB.st c0
  exact ret1v rfl (At rfl) ⟨hB.ext,(vInt rk27)⟩
 rintro w1 x1 ⟨y1,z1,rfl,v0,a2,hB⟩
 replace hm:=AP hm
 refine AE _ v0 ?_
 refine Ab (Aa (Al rfl (o_z ?_)))
 refine AC ?_
 obtain rfl:=sm hm
 exact ret1v rfl (At rfl) ⟨hB.ext,(vInt (show inI64 (-1) from by decide))⟩
noncomputable def AW (x0:List (List Fct)) (y0:Tpl):Option Bool :=
  bnd (bnd (Bj x0 y0) fun q25=>if 0≤q25 then (some true) else (some false):Option Bool) fun y21=>some y21
theorem DO {w:World} {A:Nat→Prop} (hA:∀ k,A k→k < w.heap.size) {vx0:Value} {x0:List (List Fct)} (b0:Vb w A vx0 x0) {py0:Nat} {csy0:List Value} {y0:Tpl} (hby0:Blk w py0 26 csy0) (hay0:A py0) (hcy0:Rp.R w A csy0 y0) {r:Bool} (hm:AW x0 y0=some r) :
    Fn Tryz.prog 60 [vx0,(.func (.func 63) #[] #[(.pointer (some ⟨py0,0,none⟩))])] w fun v w'=>Ext w w'∧Vb w' (upA A w w') v r:=by
 obtain ⟨O,hB,c0⟩:=enter hA
 have hLy0:Lc 0 w O py0 26 csy0:=⟨hby0,(c0 py0 hay0).2⟩
 replace hcy0:=Rp.mono hcy0 c0
 obtain ⟨v3,v4,v5,v6,rfl,h7,f0,g0,h0⟩:=hcy0
 obtain ⟨A8,c9,rfl⟩:=h7.form
 obtain ⟨o0,p0,rfl⟩:=f0.form
 obtain ⟨q0,r0,rfl⟩:=g0.form
 obtain ⟨s0,t0,rfl⟩:=h0.form
 replace b0:=b0.mono c0
 obtain ⟨u0,v0,rfl⟩:=b0.form
 refine AH Tryz.func60 rfl Tryz.ntmps60 ?_
 unfold AW at hm
 refine Ab (Aa (Al rfl (o_z ?_)))
 refine Ab ?_
 obtain ⟨j0,a0,hm⟩:=bs hm
 refine Au (fun l' w'=>∃ (k0:Unit) (O':Lab),subs l' [(4,(.bool j0))]∧Bs w A w' O') ?_ ?_
 ·
  refine Aa (Ak rfl (Ak rfl ?_))
  obtain ⟨l0,m0,a0⟩:=bs a0
  refine AG (O:=O) (A:=All w) (R:=fun w' F v=>Vb w' F v l0) (Ef (fun _ h=>h) (Vb.mono (F:=Fr 0 w O) b0 Fr.lt) hLy0.1 hLy0.1.lt (Rp.mono (F:=Fr 0 w O) (x:=y0) ⟨_,_,_,_,rfl,h7,f0,g0,h0⟩ Fr.lt) m0) rfl fun w0 z0 a1 i0 n0=>?_
  obtain ⟨rfl,b1⟩:=n0.int
  refine Fs rfl rfl (fun d0=>?_) fun d0=>?_
  ·
   replace a0:=ip a0 d0
   refine Al rfl (o_z ?_)
   obtain rfl:=sm a0
   exact ⟨(),_,⟨rfl,trivial⟩,hB.st i0⟩
  replace a0:=im a0 d0
  refine Al rfl (o_z ?_)
  obtain rfl:=sm a0
  exact ⟨(),_,⟨rfl,trivial⟩,hB.st i0⟩
 rintro c1 d1 ⟨k0,e1,e0,hB⟩
 refine AE _ e0 ?_
 refine AC ?_
 obtain rfl:=sm hm
 exact ret1v rfl (At rfl) ⟨hB.ext,vBool⟩
noncomputable def CQ (x0:ByteArray):Option Bool :=
  bnd (rngN (ρ:=Bool) (fun (k7:Nat) (s5:Unit)=>bnd (bnd (bytI x0 (k7:Int)) fun n22=>if n22 < 32 then (some true) else (bnd (bytI x0 (k7:Int)) fun n26=>if 126 < n26 then (some true) else (some false)):Option Bool) fun y18=>if y18=true then (some (.ret false)) else (some (.next ()))) x0.size ()) fun res3=>fin res3 fun (s39:Unit)=>bnd (if (x0.size:Int)≤256 then (some true) else (some false):Option Bool) fun y41=>some y41
theorem Md {w:World} {A:Nat→Prop} (hA:∀ k,A k→k < w.heap.size) {x0:ByteArray} (zx0:x0.size≤9223372036854775807) {r:Bool} (hm:CQ x0=some r) :
    Fn Tryz.prog 65 [(.string x0)] w fun v w'=>Ext w w'∧Vb w' (upA A w w') v r:=by
 obtain ⟨O,hB,w0⟩:=enter hA
 refine AH Tryz.func65 rfl Tryz.ntmps65 ?_
 unfold CQ at hm
 refine Ab (Aa (Al rfl (o_z ?_)))
 refine Ab (Ab (Aa (Ak rfl (Nh rfl rfl ?_))))
 have r2:inI64 (x0.size:Int):=rngNat zx0
 refine Ak rfl (o_z ?_)
 obtain ⟨e0,q0,hm⟩:=bs hm
 refine Au (aft e0 (fun (s5:Unit) (x6:Unit)=>[(0,(.string x0))]) (fun s5 x6 w'=>∃ O':Lab,Bs w A w' O')) ?_ ?_
 ·
  refine AJ (GY (σ:=Unit) (X:=Unit) (x0.size) q0 (rngNat' r2) (fun (s5:Unit) (x6:Unit)=>[(0,(.string x0))]) _ (fun s5 x6 w'=>∃ O':Lab,Bs w A w' O') _ () ⟨O,hB⟩ ⟨rfl,rfl,rfl,trivial⟩ (fun _ _=>⟨rfl,rfl⟩) (fun _ _=>⟨rfl,trivial⟩) (fun _ _ _ ⟨O',hB⟩=>⟨O',hB⟩) ⟨rfl,rfl,rfl⟩ ⟨rfl,rfl⟩ ?_)
  rintro k7 s5 x6 w9 r0 f0 ⟨y0,hB⟩ b0 d0 g0
  have rk7:inI64 (k7:Int):=rngKN f0 (rngNat' r2)
  refine Ab (Aa (Ak rfl (Al rfl (o_z ?_))))
  refine Ab ?_
  obtain ⟨s0,a0,b0⟩:=bs b0
  refine Au (fun l' w'=>∃ (t0:Unit) (O':Lab),subs l' [(0,(.string x0)),(5,(.int .i64 (x0.size:Int))),(6,(.int .i64 (k7:Int))),(18,(.bool s0))]∧Bs w A w' O') ?_ ?_
  ·
   refine Aa (Ak rfl (Ak rfl ?_))
   obtain ⟨z0,o0,a0⟩:=bs a0
   have a1:=OH o0
   refine Tj (he:=o0) rfl rfl rfl ?_
   refine Ep rfl rfl (fun h0=>?_) fun h0=>?_
   ·
    replace a0:=ip a0 h0
    refine Ak rfl (Am rfl rfl (Am rfl rfl (Am rfl rfl (Am rfl rfl (BD rfl rfl (o_z ?_))))))
    obtain rfl:=sm a0
    exact ⟨(),_,⟨rfl,rfl,rfl,rfl,trivial⟩,hB⟩
   replace a0:=im a0 h0
   refine Ak rfl (An rfl rfl (Ak rfl (An rfl rfl (Ak rfl (An rfl rfl ?_)))))
   obtain ⟨b1,p0,a0⟩:=bs a0
   have c1:=OH p0
   refine Tj (he:=p0) rfl rfl rfl ?_
   refine An rfl rfl (Dg rfl rfl (fun i0=>?_) fun i0=>?_)
   ·
    replace a0:=ip a0 i0
    refine By rfl rfl (o_z ?_)
    obtain rfl:=sm a0
    exact ⟨(),_,⟨rfl,rfl,rfl,rfl,trivial⟩,hB⟩
   replace a0:=im a0 i0
   refine By rfl rfl (o_z ?_)
   obtain rfl:=sm a0
   exact ⟨(),_,⟨rfl,rfl,rfl,rfl,trivial⟩,hB⟩
  rintro d1 e1 ⟨t0,f1,j0,hB⟩
  refine AE _ j0 ?_
  refine Cw rfl (fun k0=>?_) (fun k0=>?_)
  ·
   replace b0:=ip b0 k0
   refine Ab (Aa (Al rfl (o_z ?_)))
   refine AC ?_
   obtain rfl:=sm b0
   obtain rfl:=d0 _ rfl
   obtain rfl:=sm (CG hm)
   exact ret1v rfl (At rfl) ⟨hB.ext,vBool⟩
  replace b0:=im' b0 k0
  refine AK ?_
  obtain rfl:=sm b0
  exact show Exists _ from ⟨_,(),rfl,⟨rfl,rfl,rfl,trivial⟩,_,hB⟩
 rintro g1 h1 ⟨i1,j1,rfl,l0,k1,hB⟩
 replace hm:=AP hm
 refine AE _ l0 ?_
 refine Ab ?_
 obtain ⟨u0,c0,hm⟩:=bs hm
 refine Au (fun l' w'=>∃ (v0:Unit) (O':Lab),subs l' [(2,(.bool u0))]∧Bs w A w' O') ?_ ?_
 ·
  refine Aa (Ak rfl (Nh rfl rfl ?_))
  have l1:inI64 (x0.size:Int):=rngNat zx0
  refine IS rfl rfl (fun m0=>?_) fun m0=>?_
  ·
   replace c0:=ip c0 m0
   refine Al rfl (o_z ?_)
   obtain rfl:=sm c0
   exact ⟨(),_,⟨rfl,trivial⟩,hB⟩
  replace c0:=im c0 m0
  refine Al rfl (o_z ?_)
  obtain rfl:=sm c0
  exact ⟨(),_,⟨rfl,trivial⟩,hB⟩
 rintro m1 n1 ⟨v0,o1,n0,hB⟩
 refine AE _ n0 ?_
 refine AC ?_
 obtain rfl:=sm hm
 exact ret1v rfl (At rfl) ⟨hB.ext,vBool⟩
noncomputable def Dj (x0:Tpl):Option Err :=
  bnd (DA x0) fun q24=>bnd (if 64 < (x0.vars.length:Int) then (some true) else (if 24 < (x0.jobs.length:Int) then (some true) else (bnd (AV q24) fun q43=>if q43=true then some true else some false)):Option Bool) fun y33=>if y33=true then (some (⟨5⟩:Err)) else (bnd (rng (ρ:=Err) (fun (k61:Nat) (a62:Int) (s59:Unit)=>bnd (if a62 < 1 then (some true) else (if 64 < a62 then (some true) else (some false)):Option Bool) fun y80=>if y80=true then (some (.ret (⟨1⟩:Err))) else (some (.next ()))) x0.vars 0 ()) fun res57=>fin res57 fun (s95:Unit)=>bnd (rng (ρ:=Err) (fun (k103:Nat) (a104:Job) (s101:Unit)=>bnd (if a104.dur < 1 then (some true) else (if 62 < a104.dur then (some true) else (some false)):Option Bool) fun y150=>if y150=true then (some (.ret (⟨1⟩:Err))) else (some (.next ()))) x0.jobs 0 ()) fun res99=>fin res99 fun (s165:Unit)=>bnd (bnd (CT x0.vars x0.init) fun q171=>if q171=true then bnd (AW q24 x0) fun q178=>if q178=true then some true else some false else some true:Option Bool) fun y167=>if y167=true then (some (⟨2⟩:Err)) else (bnd (rng (ρ:=Err) (fun (k196:Nat) (a197:Job) (s194:Unit)=>bnd (CQ a197.name) fun q243=>if q243=true then some (.next ()) else some (.ret (⟨8⟩:Err))) x0.jobs 0 ()) fun res192=>fin res192 fun (s254:Unit)=>some (⟨0⟩:Err)))
theorem ID {w:World} {A:Nat→Prop} (hA:∀ k,A k→k < w.heap.size) {vx0:Value} {x0:Tpl} (d3:Vb w A vx0 x0) {r:Err} (hm:Dj x0=some r) :
    Fn Tryz.prog 18 [vx0] w fun v w'=>Ext w w'∧Vb w' (upA A w w') v r:=by
 obtain ⟨O,hB,d6⟩:=enter hA
 replace d3:=d3.mono d6
 obtain ⟨k8,rfl,v3,v4,v5,v6,rfl,h7,f0,g0,c0⟩:=d3
 obtain ⟨A8,c9,rfl⟩:=h7.form
 obtain ⟨t0,u0,rfl⟩:=f0.form
 obtain ⟨v0,w0,rfl⟩:=g0.form
 obtain ⟨p0,q0,rfl⟩:=c0.form
 refine AH Tryz.func18 rfl Tryz.ntmps18 ?_
 unfold Dj at hm
 refine Ab (Aa (BQ 2 O rfl fun y0 e6 t5 h1 d0=>?_))
 replace d0:Lc 2 e6 t5 y0 26 [(.slice A8 x0.vars.length c9),(.slice t0 x0.init.length u0),(.slice v0 x0.goal.length w0),(.slice p0 x0.jobs.length q0)]:=d0
 refine Al rfl (o_z ?_)
 refine Ab (Aa (Bg (hl:=rfl) (hc:=(d0.1).cellsAt) rfl ?_))
 obtain ⟨r0,f6,hm⟩:=bs hm
 replace h7:=h7.st h1
 replace f0:=f0.st h1
 replace g0:=g0.st h1
 replace c0:=c0.st h1
 refine BU (O:=t5) (R:=fun w' F v=>Vb w' F v r0) (Mb Fr.lt (Vb.ofAgg (cs:=[(.slice A8 x0.vars.length c9),(.slice t0 x0.init.length u0),(.slice v0 x0.goal.length w0),(.slice p0 x0.jobs.length q0)]) (x:=x0) rfl ⟨_,_,_,_,rfl,h7,f0,g0,c0⟩) f6) rfl fun l8 u5 w5 s0 j0=>?_
 obtain ⟨c1,d1,rfl⟩:=j0.form
 refine Al rfl (o_z ?_)
 refine Ab (Ab ?_)
 obtain ⟨g6,h0,hm⟩:=bs hm
 refine Au (fun l' w'=>∃ (h6:Unit) (O':Lab),subs l' [(1,(.pointer (some ⟨y0,0,none⟩))),(3,(.slice c1 r0.length d1)),(25,(.bool g6))]∧Bs w A w' O'∧Lc 2 w' O' y0 26 [(.slice A8 x0.vars.length c9),(.slice t0 x0.init.length u0),(.slice v0 x0.goal.length w0),(.slice p0 x0.jobs.length q0)]∧Vb w' (Fr 0 w' O') (.slice A8 x0.vars.length c9) x0.vars∧Vb w' (Fr 0 w' O') (.slice t0 x0.init.length u0) x0.init∧Vb w' (Fr 0 w' O') (.slice v0 x0.goal.length w0) x0.goal∧Vb w' (Fr 0 w' O') (.slice p0 x0.jobs.length q0) x0.jobs∧Vb w' (Fr 0 w' O') (.slice c1 r0.length d1) r0) ?_ ?_
 ·
  refine Aa (AB rfl ?_)
  replace d0:=d0.st s0
  refine Az (hc:=Blk.cell (i:=0) (d0.1) rfl) rfl ?_
  refine AR rfl ?_
  replace h7:=h7.st s0
  have i6:x0.vars.length≤9223372036854775807:=Nat.le_trans h7.len.2.1 h7.len.2.2
  have m8:inI64 (x0.vars.length:Int):=rngNat i6
  refine Dg rfl rfl (fun e3=>?_) fun e3=>?_
  ·
   replace h0:=ip h0 e3
   refine Ak rfl (Am rfl rfl (Am rfl rfl (Am rfl rfl (Am rfl rfl (BD rfl rfl (Ak rfl (Am rfl rfl (Am rfl rfl (BD rfl rfl (o_z ?_))))))))))
   obtain rfl:=sm h0
   exact ⟨(),_,⟨rfl,rfl,rfl,trivial⟩,(hB.st h1).st s0,d0,h7,f0.st s0,g0.st s0,c0.st s0,j0⟩
  replace h0:=im h0 e3
  refine Ak rfl (An rfl rfl (AB rfl (An rfl rfl (Az (hc:=Blk.cell (i:=3) (d0.1) rfl) rfl ?_))))
  refine An rfl rfl (AR rfl ?_)
  replace c0:=c0.st s0
  have j6:x0.jobs.length≤9223372036854775807:=Nat.le_trans c0.len.2.1 c0.len.2.2
  have n8:inI64 (x0.jobs.length:Int):=rngNat j6
  refine An rfl rfl (Dg rfl rfl (fun f3=>?_) fun f3=>?_)
  ·
   replace h0:=ip h0 f3
   refine By rfl rfl (Ak rfl (Am rfl rfl (Am rfl rfl (BD rfl rfl (o_z ?_)))))
   obtain rfl:=sm h0
   exact ⟨(),_,⟨rfl,rfl,rfl,trivial⟩,(hB.st h1).st s0,d0,h7,f0.st s0,g0.st s0,c0,j0⟩
  replace h0:=im h0 f3
  refine By rfl rfl (Ak rfl (An rfl rfl (Ak rfl (An rfl rfl ?_))))
  obtain ⟨x5,k6,h0⟩:=bs h0
  refine AG (O:=w5) (A:=All u5) (R:=fun w' F v=>Vb w' F v x5) (DN (fun _ h=>h) (Vb.mono (F:=Fr 0 u5 w5) j0 Fr.lt) k6) rfl fun o8 p8 q8 e1 l6=>?_
  obtain rfl:=l6.bool
  cases x5
  case false =>
   replace h0:=iF h0
   refine By rfl rfl (o_z ?_)
   obtain rfl:=sm h0
   exact ⟨(),_,⟨rfl,rfl,rfl,trivial⟩,((hB.st h1).st s0).st e1,d0.st e1,h7.st e1,(f0.st s0).st e1,(g0.st s0).st e1,c0.st e1,j0.st e1⟩
  replace h0:=iT h0
  refine By rfl rfl (o_z ?_)
  obtain rfl:=sm h0
  exact ⟨(),_,⟨rfl,rfl,rfl,trivial⟩,((hB.st h1).st s0).st e1,d0.st e1,h7.st e1,(f0.st s0).st e1,(g0.st s0).st e1,c0.st e1,j0.st e1⟩
 replace hB:=(hB.st h1).st s0
 replace h7:=h7.st s0
 replace f0:=f0.st s0
 replace g0:=g0.st s0
 replace c0:=c0.st s0
 replace d0:=d0.st s0
 rintro r8 s8 ⟨h6,m6,g3,hB,d0,h7,f0,g0,c0,j0⟩
 refine AE _ g3 ?_
 refine Cw rfl (fun h3=>?_) (fun h3=>?_)
 ·
  replace hm:=ip hm h3
  refine Ab (Aa (Fb rfl ?_))
  refine Al rfl (o_z ?_)
  refine AC ?_
  obtain rfl:=sm hm
  exact ret1v rfl (At rfl) ⟨hB.ext,(vErr (by decide))⟩
 replace hm:=im' hm h3
 refine AK (Ab (Ab (Aa (AB rfl (Az (hc:=Blk.cell (i:=0) (d0.1) rfl) rfl ?_)))))
 refine AR rfl ?_
 have i3:x0.vars.length≤9223372036854775807:=Nat.le_trans h7.len.2.1 h7.len.2.2
 have t8:inI64 (x0.vars.length:Int):=rngNat i3
 refine Ak rfl (o_z ?_)
 obtain ⟨e2,j3,hm⟩:=bs hm
 refine Au (aft e2 (fun (z2:Unit) (a3:Unit)=>[(1,(.pointer (some ⟨y0,0,none⟩))),(3,(.slice c1 r0.length d1))]) (fun z2 a3 w'=>∃ O':Lab,Bs w A w' O'∧Lc 2 w' O' y0 26 [(.slice A8 x0.vars.length c9),(.slice t0 x0.init.length u0),(.slice v0 x0.goal.length w0),(.slice p0 x0.jobs.length q0)]∧Vb w' (Fr 0 w' O') (.slice A8 x0.vars.length c9) x0.vars∧Vb w' (Fr 0 w' O') (.slice t0 x0.init.length u0) x0.init∧Vb w' (Fr 0 w' O') (.slice v0 x0.goal.length w0) x0.goal∧Vb w' (Fr 0 w' O') (.slice p0 x0.jobs.length q0) x0.jobs∧Vb w' (Fr 0 w' O') (.slice c1 r0.length d1) r0)) ?_ ?_
 ·
  refine AJ (Bh (σ:=Unit) (X:=Unit) (x0.vars.length) j3 rfl i3 (fun (z2:Unit) (a3:Unit)=>[(1,(.pointer (some ⟨y0,0,none⟩))),(3,(.slice c1 r0.length d1)),(28,(.slice A8 x0.vars.length c9))]) _ (fun z2 a3 w'=>∃ O':Lab,Bs w A w' O'∧Lc 2 w' O' y0 26 [(.slice A8 x0.vars.length c9),(.slice t0 x0.init.length u0),(.slice v0 x0.goal.length w0),(.slice p0 x0.jobs.length q0)]∧Vb w' (Fr 0 w' O') (.slice A8 x0.vars.length c9) x0.vars∧Vb w' (Fr 0 w' O') (.slice t0 x0.init.length u0) x0.init∧Vb w' (Fr 0 w' O') (.slice v0 x0.goal.length w0) x0.goal∧Vb w' (Fr 0 w' O') (.slice p0 x0.jobs.length q0) x0.jobs∧Vb w' (Fr 0 w' O') (.slice c1 r0.length d1) r0) _ () ⟨m6,hB,d0,h7,f0,g0,c0,j0⟩ ⟨rfl,rfl,rfl,rfl,rfl,trivial⟩ (fun _ _=>⟨rfl,rfl⟩) (fun _ _=>⟨rfl,rfl,trivial⟩) (fun _ _ _ ⟨O',hB,d0,h7,f0,g0,c0,j0⟩=>⟨O',hB,d0,h7,f0,g0,c0,j0⟩) ⟨rfl,rfl,rfl⟩ ⟨rfl,rfl⟩ ?_)
  rintro y5 u8 z2 a3 v8 n6 f2 ⟨w8,hB,d0,h7,f0,g0,c0,j0⟩ z0 q1 k3
  have rk61:inI64 (y5:Int):=rngK f2 i3
  refine Ab (Aa ?_)
  obtain ⟨x8,y8,o6,l3,m3,n3,rfl,z8⟩:=h7.elem' f2
  refine Bv (hA:=l3) (hj:=rfl) (hlt:=m3) rfl rfl ?_
  refine Az (hc:=cat0 n3) rfl ?_
  refine Al rfl (o_z ?_)
  refine Ab ?_
  obtain ⟨p6,o0,z0⟩:=bs z0
  refine Au (fun l' w'=>∃ (q6:Unit) (O':Lab),subs l' [(1,(.pointer (some ⟨y0,0,none⟩))),(3,(.slice c1 r0.length d1)),(28,(.slice A8 x0.vars.length c9)),(29,(.int .i64 (x0.vars.length:Int))),(30,(.int .i64 (y5:Int))),(39,(.bool p6))]∧Bs w A w' O'∧Lc 2 w' O' y0 26 [(.slice A8 x0.vars.length c9),(.slice t0 x0.init.length u0),(.slice v0 x0.goal.length w0),(.slice p0 x0.jobs.length q0)]∧Vb w' (Fr 0 w' O') (.slice A8 x0.vars.length c9) x0.vars∧Vb w' (Fr 0 w' O') (.slice t0 x0.init.length u0) x0.init∧Vb w' (Fr 0 w' O') (.slice v0 x0.goal.length w0) x0.goal∧Vb w' (Fr 0 w' O') (.slice p0 x0.jobs.length q0) x0.jobs∧Vb w' (Fr 0 w' O') (.slice c1 r0.length d1) r0) ?_ ?_
  ·
   refine Aa (Ak rfl (Ep rfl rfl (fun o3=>?_) fun o3=>?_))
   ·
    replace o0:=ip o0 o3
    refine Ak rfl (Am rfl rfl (Am rfl rfl (BD rfl rfl (o_z ?_))))
    obtain rfl:=sm o0
    exact ⟨(),_,⟨rfl,rfl,rfl,rfl,rfl,rfl,trivial⟩,hB,d0,h7,f0,g0,c0,j0⟩
   replace o0:=im o0 o3
   refine Ak rfl (An rfl rfl (Ak rfl (An rfl rfl (Dg rfl rfl (fun p3=>?_) fun p3=>?_))))
   ·
    replace o0:=ip o0 p3
    refine By rfl rfl (o_z ?_)
    obtain rfl:=sm o0
    exact ⟨(),_,⟨rfl,rfl,rfl,rfl,rfl,rfl,trivial⟩,hB,d0,h7,f0,g0,c0,j0⟩
   replace o0:=im o0 p3
   refine By rfl rfl (o_z ?_)
   obtain rfl:=sm o0
   exact ⟨(),_,⟨rfl,rfl,rfl,rfl,rfl,rfl,trivial⟩,hB,d0,h7,f0,g0,c0,j0⟩
  rintro a9 b9 ⟨q6,d9,q3,hB,d0,h7,f0,g0,c0,j0⟩
  refine AE _ q3 ?_
  refine Cw rfl (fun r3=>?_) (fun r3=>?_)
  ·
   replace z0:=ip z0 r3
   refine Ab (Aa (Fb rfl ?_))
   refine Al rfl (o_z ?_)
   refine AC ?_
   obtain rfl:=sm z0
   obtain rfl:=q1 _ rfl
   obtain rfl:=sm (CG hm)
   exact ret1v rfl (At rfl) ⟨hB.ext,(vErr (by decide))⟩
  replace z0:=im' z0 r3
  refine AK ?_
  obtain rfl:=sm z0
  exact show Exists _ from ⟨_,(),rfl,⟨rfl,rfl,rfl,rfl,rfl,trivial⟩,_,hB,d0,h7,f0,g0,c0,j0⟩
 rintro e9 f9 ⟨g9,h9,rfl,s3,r6,hB,d0,h7,f0,g0,c0,j0⟩
 replace hm:=AP hm
 refine AE _ s3 ?_
 refine Ab (Ab (Aa (AB rfl (Az (hc:=Blk.cell (i:=3) (d0.1) rfl) rfl ?_))))
 refine AR rfl ?_
 have t3:x0.jobs.length≤9223372036854775807:=Nat.le_trans c0.len.2.1 c0.len.2.2
 have i9:inI64 (x0.jobs.length:Int):=rngNat t3
 refine Ak rfl (o_z ?_)
 obtain ⟨g2,h2,hm⟩:=bs hm
 refine Au (aft g2 (fun (i1:Unit) (j1:Unit)=>[(1,(.pointer (some ⟨y0,0,none⟩))),(3,(.slice c1 r0.length d1))]) (fun i1 j1 w'=>∃ O':Lab,Bs w A w' O'∧Lc 2 w' O' y0 26 [(.slice A8 x0.vars.length c9),(.slice t0 x0.init.length u0),(.slice v0 x0.goal.length w0),(.slice p0 x0.jobs.length q0)]∧Vb w' (Fr 0 w' O') (.slice A8 x0.vars.length c9) x0.vars∧Vb w' (Fr 0 w' O') (.slice t0 x0.init.length u0) x0.init∧Vb w' (Fr 0 w' O') (.slice v0 x0.goal.length w0) x0.goal∧Vb w' (Fr 0 w' O') (.slice p0 x0.jobs.length q0) x0.jobs∧Vb w' (Fr 0 w' O') (.slice c1 r0.length d1) r0)) ?_ ?_
 ·
  refine AJ (Bh (σ:=Unit) (X:=Unit) (x0.jobs.length) h2 rfl t3 (fun (i1:Unit) (j1:Unit)=>[(1,(.pointer (some ⟨y0,0,none⟩))),(3,(.slice c1 r0.length d1)),(43,(.slice p0 x0.jobs.length q0))]) _ (fun i1 j1 w'=>∃ O':Lab,Bs w A w' O'∧Lc 2 w' O' y0 26 [(.slice A8 x0.vars.length c9),(.slice t0 x0.init.length u0),(.slice v0 x0.goal.length w0),(.slice p0 x0.jobs.length q0)]∧Vb w' (Fr 0 w' O') (.slice A8 x0.vars.length c9) x0.vars∧Vb w' (Fr 0 w' O') (.slice t0 x0.init.length u0) x0.init∧Vb w' (Fr 0 w' O') (.slice v0 x0.goal.length w0) x0.goal∧Vb w' (Fr 0 w' O') (.slice p0 x0.jobs.length q0) x0.jobs∧Vb w' (Fr 0 w' O') (.slice c1 r0.length d1) r0) _ () ⟨r6,hB,d0,h7,f0,g0,c0,j0⟩ ⟨rfl,rfl,rfl,rfl,rfl,trivial⟩ (fun _ _=>⟨rfl,rfl⟩) (fun _ _=>⟨rfl,rfl,trivial⟩) (fun _ _ _ ⟨O',hB,d0,h7,f0,g0,c0,j0⟩=>⟨O',hB,d0,h7,f0,g0,c0,j0⟩) ⟨rfl,rfl,rfl⟩ ⟨rfl,rfl⟩ ?_)
  rintro i2 a1 i1 j1 s6 z5 o1 ⟨u3,hB,d0,h7,f0,g0,c0,j0⟩ l0 k1 b3
  have rk103:inI64 (i2:Int):=rngK o1 t3
  refine Ab (Aa ?_)
  obtain ⟨t6,u6,a6,j2,k2,l2,w6,x6,y6,z6,a7,rfl,w3,x3,y3,z3,a4,b7,c7⟩:=c0.elem' o1
  obtain ⟨b4,c4,rfl⟩:=w3.form
  obtain ⟨d4,e4,rfl⟩:=x3.form
  obtain ⟨f4,g4,rfl⟩:=y3.form
  obtain ⟨h4,i4,rfl⟩:=z3.form
  obtain ⟨j4,k4,rfl⟩:=a4.form
  refine Bv (hA:=j2) (hj:=rfl) (hlt:=k2) rfl rfl ?_
  refine Bg (hl:=rfl) (hc:=l2) rfl ?_
  refine AT 3 u3 fun l4 d7 m4 a0 f1=>?_
  refine AD f1 rfl rfl rfl (AL) (allOne) fun n4 b0 f1=>?_
  replace f1:Lc 3 n4 m4 l4 66 [(.string a1.name),(.int .i64 a1.dur),(.slice b4 a1.start.length c4),(.slice d4 a1.over.length e4),(.slice f4 a1.fin.length g4),(.slice h4 a1.atStart.length i4),(.slice j4 a1.atEnd.length k4)]:=f1
  refine o_z ?_
  refine Ab ?_
  obtain ⟨o4,i0,l0⟩:=bs l0
  refine Au (fun l' w'=>∃ (p4:Unit) (O':Lab),subs l' [(1,(.pointer (some ⟨y0,0,none⟩))),(3,(.slice c1 r0.length d1)),(43,(.slice p0 x0.jobs.length q0)),(44,(.int .i64 (x0.jobs.length:Int))),(45,(.int .i64 (i2:Int))),(56,(.bool o4))]∧Bs w A w' O'∧Lc 2 w' O' y0 26 [(.slice A8 x0.vars.length c9),(.slice t0 x0.init.length u0),(.slice v0 x0.goal.length w0),(.slice p0 x0.jobs.length q0)]∧Vb w' (Fr 0 w' O') (.slice A8 x0.vars.length c9) x0.vars∧Vb w' (Fr 0 w' O') (.slice t0 x0.init.length u0) x0.init∧Vb w' (Fr 0 w' O') (.slice v0 x0.goal.length w0) x0.goal∧Vb w' (Fr 0 w' O') (.slice p0 x0.jobs.length q0) x0.jobs∧Vb w' (Fr 0 w' O') (.slice c1 r0.length d1) r0) ?_ ?_
  ·
   refine Aa (AB rfl (Az (hc:=Blk.cell (i:=1) (f1.1) rfl) rfl ?_))
   refine Ep rfl rfl (fun r1=>?_) fun r1=>?_
   ·
    replace i0:=ip i0 r1
    refine Ak rfl (Am rfl rfl (Am rfl rfl (Am rfl rfl (BD rfl rfl (o_z ?_)))))
    obtain rfl:=sm i0
    exact ⟨(),_,⟨rfl,rfl,rfl,rfl,rfl,rfl,trivial⟩,(hB.st a0).st b0,(d0.st a0).st b0,(h7.st a0).st b0,(f0.st a0).st b0,(g0.st a0).st b0,(c0.st a0).st b0,(j0.st a0).st b0⟩
   replace i0:=im i0 r1
   refine Ak rfl (An rfl rfl (AB rfl (An rfl rfl (Az (hc:=Blk.cell (i:=1) (f1.1) rfl) rfl ?_))))
   refine An rfl rfl (Dg rfl rfl (fun s1=>?_) fun s1=>?_)
   ·
    replace i0:=ip i0 s1
    refine By rfl rfl (o_z ?_)
    obtain rfl:=sm i0
    exact ⟨(),_,⟨rfl,rfl,rfl,rfl,rfl,rfl,trivial⟩,(hB.st a0).st b0,(d0.st a0).st b0,(h7.st a0).st b0,(f0.st a0).st b0,(g0.st a0).st b0,(c0.st a0).st b0,(j0.st a0).st b0⟩
   replace i0:=im i0 s1
   refine By rfl rfl (o_z ?_)
   obtain rfl:=sm i0
   exact ⟨(),_,⟨rfl,rfl,rfl,rfl,rfl,rfl,trivial⟩,(hB.st a0).st b0,(d0.st a0).st b0,(h7.st a0).st b0,(f0.st a0).st b0,(g0.st a0).st b0,(c0.st a0).st b0,(j0.st a0).st b0⟩
  replace hB:=(hB.st a0).st b0
  replace h7:=(h7.st a0).st b0
  replace f0:=(f0.st a0).st b0
  replace g0:=(g0.st a0).st b0
  replace c0:=(c0.st a0).st b0
  replace d0:=(d0.st a0).st b0
  replace j0:=(j0.st a0).st b0
  rintro e7 f7 ⟨p4,g7,m2,hB,d0,h7,f0,g0,c0,j0⟩
  refine AE _ m2 ?_
  refine Cw rfl (fun t1=>?_) (fun t1=>?_)
  ·
   replace l0:=ip l0 t1
   refine Ab (Aa (Fb rfl ?_))
   refine Al rfl (o_z ?_)
   refine AC ?_
   obtain rfl:=sm l0
   obtain rfl:=k1 _ rfl
   obtain rfl:=sm (CG hm)
   exact ret1v rfl (At rfl) ⟨hB.ext,(vErr (by decide))⟩
  replace l0:=im' l0 t1
  refine AK ?_
  obtain rfl:=sm l0
  exact show Exists _ from ⟨_,(),rfl,⟨rfl,rfl,rfl,rfl,rfl,trivial⟩,_,hB,d0,h7,f0,g0,c0,j0⟩
 rintro i7 u1 ⟨j7,k7,rfl,n2,v1,hB,d0,h7,f0,g0,c0,j0⟩
 replace hm:=AP hm
 refine AE _ n2 ?_
 refine Ab (Ab ?_)
 obtain ⟨q4,e0,hm⟩:=bs hm
 refine Au (fun l' w'=>∃ (r4:Unit) (O':Lab),subs l' [(1,(.pointer (some ⟨y0,0,none⟩))),(69,(.bool q4))]∧Bs w A w' O'∧Lc 2 w' O' y0 26 [(.slice A8 x0.vars.length c9),(.slice t0 x0.init.length u0),(.slice v0 x0.goal.length w0),(.slice p0 x0.jobs.length q0)]∧Vb w' (Fr 0 w' O') (.slice A8 x0.vars.length c9) x0.vars∧Vb w' (Fr 0 w' O') (.slice t0 x0.init.length u0) x0.init∧Vb w' (Fr 0 w' O') (.slice v0 x0.goal.length w0) x0.goal∧Vb w' (Fr 0 w' O') (.slice p0 x0.jobs.length q0) x0.jobs) ?_ ?_
 ·
  refine Aa (AB rfl (Az (hc:=Blk.cell (i:=0) (d0.1) rfl) rfl ?_))
  refine AB rfl (Az (hc:=Blk.cell (i:=1) (d0.1) rfl) rfl ?_)
  obtain ⟨o2,s4,e0⟩:=bs e0
  refine AG (O:=v1) (A:=All u1) (R:=fun w' F v=>Vb w' F v o2) (If (fun _ h=>h) (Vb.mono (F:=Fr 0 u1 v1) h7 Fr.lt) (Vb.mono (F:=Fr 0 u1 v1) f0 Fr.lt) s4) rfl fun l7 w1 x1 k0 t4=>?_
  obtain rfl:=t4.bool
  cases o2
  case false =>
   replace e0:=iF e0
   refine Fd rfl (Ak rfl (Am rfl rfl (Am rfl rfl (Am rfl rfl (BD rfl rfl (o_z ?_))))))
   obtain rfl:=sm e0
   exact ⟨(),_,⟨rfl,rfl,trivial⟩,hB.st k0,d0.st k0,h7.st k0,f0.st k0,g0.st k0,c0.st k0⟩
  replace e0:=iT e0
  refine Fc rfl (Ak rfl (An rfl rfl (Ak rfl (An rfl rfl (LY rfl rfl (An rfl rfl ?_))))))
  obtain ⟨p2,u4,e0⟩:=bs e0
  replace h7:=h7.st k0
  replace f0:=f0.st k0
  replace g0:=g0.st k0
  replace c0:=c0.st k0
  replace d0:=d0.st k0
  replace j0:=j0.st k0
  refine AG (O:=x1) (A:=All w1) (R:=fun w' F v=>Vb w' F v p2) (DO (fun _ h=>h) (Vb.mono (F:=Fr 0 w1 x1) j0 Fr.lt) d0.1 d0.1.lt (Rp.mono (F:=Fr 0 w1 x1) (x:=x0) ⟨_,_,_,_,rfl,h7,f0,g0,c0⟩ Fr.lt) u4) rfl fun m7 n7 o7 n0 w4=>?_
  obtain rfl:=w4.bool
  cases p2
  case false =>
   replace e0:=iF e0
   refine By rfl rfl (o_z ?_)
   obtain rfl:=sm e0
   exact ⟨(),_,⟨rfl,rfl,trivial⟩,(hB.st k0).st n0,d0.st n0,h7.st n0,f0.st n0,g0.st n0,c0.st n0⟩
  replace e0:=iT e0
  refine By rfl rfl (o_z ?_)
  obtain rfl:=sm e0
  exact ⟨(),_,⟨rfl,rfl,trivial⟩,(hB.st k0).st n0,d0.st n0,h7.st n0,f0.st n0,g0.st n0,c0.st n0⟩
 rintro p7 q7 ⟨r4,x4,q2,hB,d0,h7,f0,g0,c0⟩
 refine AE _ q2 ?_
 refine Cw rfl (fun y1=>?_) (fun y1=>?_)
 ·
  replace hm:=ip hm y1
  refine Ab (Aa (Fb rfl ?_))
  refine Al rfl (o_z ?_)
  refine AC ?_
  obtain rfl:=sm hm
  exact ret1v rfl (At rfl) ⟨hB.ext,(vErr (by decide))⟩
 replace hm:=im' hm y1
 refine AK (Ab (Ab (Aa (AB rfl (Az (hc:=Blk.cell (i:=3) (d0.1) rfl) rfl ?_)))))
 refine AR rfl ?_
 have z1:x0.jobs.length≤9223372036854775807:=Nat.le_trans c0.len.2.1 c0.len.2.2
 have r7:inI64 (x0.jobs.length:Int):=rngNat z1
 refine Ak rfl (o_z ?_)
 obtain ⟨a2,r2,hm⟩:=bs hm
 refine Au (aft a2 (fun (l1:Unit) (m1:Unit)=>[]) (fun l1 m1 w'=>∃ O':Lab,Bs w A w' O')) ?_ ?_
 ·
  refine AJ (Bh (σ:=Unit) (X:=Unit) (x0.jobs.length) r2 rfl z1 (fun (l1:Unit) (m1:Unit)=>[(72,(.slice p0 x0.jobs.length q0))]) _ (fun l1 m1 w'=>∃ O':Lab,Bs w A w' O'∧Vb w' (Fr 0 w' O') (.slice p0 x0.jobs.length q0) x0.jobs) _ () ⟨x4,hB,c0⟩ ⟨rfl,rfl,rfl,trivial⟩ (fun _ _=>⟨rfl,rfl⟩) (fun _ _=>trivial) (fun _ _ _ ⟨O',hB,c0⟩=>⟨O',hB⟩) ⟨rfl,rfl,rfl⟩ ⟨rfl,rfl⟩ ?_)
  rintro y4 b1 l1 m1 s7 b6 p1 ⟨z4,hB,c0⟩ m0 n1 c3
  have rk196:inI64 (y4:Int):=rngK p1 z1
  refine Ab (Aa ?_)
  obtain ⟨t7,u7,c6,s2,t2,u2,v7,w7,x7,y7,z7,rfl,a5,b5,c5,d5,e5,f5,a8⟩:=c0.elem' p1
  obtain ⟨g5,h5,rfl⟩:=a5.form
  obtain ⟨i5,j5,rfl⟩:=b5.form
  obtain ⟨k5,l5,rfl⟩:=c5.form
  obtain ⟨m5,n5,rfl⟩:=d5.form
  obtain ⟨o5,p5,rfl⟩:=e5.form
  refine Bv (hA:=s2) (hj:=rfl) (hlt:=t2) rfl rfl ?_
  refine Bg (hl:=rfl) (hc:=u2) rfl ?_
  refine AT 4 z4 fun q5 b8 v2 b2 g1=>?_
  refine AD g1 rfl rfl rfl (AL) (allOne) fun w2 c2 g1=>?_
  replace g1:Lc 4 w2 v2 q5 66 [(.string b1.name),(.int .i64 b1.dur),(.slice g5 b1.start.length h5),(.slice i5 b1.over.length j5),(.slice k5 b1.fin.length l5),(.slice m5 b1.atStart.length n5),(.slice o5 b1.atEnd.length p5)]:=g1
  refine o_z ?_
  refine Ab (Aa (AB rfl (Az (hc:=Blk.cell (i:=0) (g1.1) rfl) rfl ?_)))
  obtain ⟨x2,r5,m0⟩:=bs m0
  refine AG (O:=v2) (A:=All w2) (R:=fun w' F v=>Vb w' F v x2) (Md (fun _ h=>h) f5 r5) rfl fun c8 d8 e8 d2 s5=>?_
  obtain rfl:=s5.bool
  cases x2
  case false =>
   replace m0:=iF m0
   refine Fd rfl (o_z ?_)
   refine Aj rfl (Ab (Aa (Fb rfl ?_)))
   refine Al rfl (o_z ?_)
   refine AC ?_
   obtain rfl:=sm m0
   obtain rfl:=n1 _ rfl
   obtain rfl:=sm (CG hm)
   replace hB:=((hB.st b2).st c2).st d2
   exact ret1v rfl (At rfl) ⟨hB.ext,(vErr (by decide))⟩
  replace m0:=iT m0
  refine Fc rfl (o_z ?_)
  refine Ah rfl (AK ?_)
  obtain rfl:=sm m0
  exact show Exists _ from ⟨_,(),rfl,⟨rfl,rfl,rfl,trivial⟩,_,((hB.st b2).st c2).st d2,((c0.st b2).st c2).st d2⟩
 rintro f8 g8 ⟨h8,i8,rfl,y2,j8,hB⟩
 replace hm:=AP hm
 refine AE _ y2 ?_
 refine Ab (Aa (Al rfl (o_z ?_)))
 refine AC ?_
 obtain rfl:=sm hm
 exact ret1v rfl (At rfl) ⟨hB.ext,(vErr (show inI64 0 from by decide))⟩
noncomputable def CU (x0:Tpl) (x1:List Lch):Option Err :=
  bnd (Dj x0) fun q27=>if q27.n≠0 then (some (⟨q27.n⟩:Err)) else (if 4096 < (x1.length:Int) then (some (⟨5⟩:Err)) else (bnd (rng (ρ:=Err) (fun (k45:Nat) (a46:Lch) (s43:Unit)=>bnd (if a46.job < 0 then (some true) else (if (x0.jobs.length:Int)≤a46.job then (some true) else (if a46.tm < 0 then (some true) else (if 1048576 < a46.tm then (some true) else (some false)))):Option Bool) fun y72=>if y72=true then (some (.ret (⟨1⟩:Err))) else (some (.next ()))) x1 0 ()) fun res41=>fin res41 fun (s91:Unit)=>some (⟨0⟩:Err)))
theorem Lz {w:World} {A:Nat→Prop} (hA:∀ k,A k→k < w.heap.size) {vx0:Value} {x0:Tpl} (c1:Vb w A vx0 x0) {vx1:Value} {x1:List Lch} (d0:Vb w A vx1 x1) {r:Err} (hm:CU x0 x1=some r) :
    Fn Tryz.prog 70 [vx0,vx1] w fun v w'=>Ext w w'∧Vb w' (upA A w w') v r:=by
 obtain ⟨O,hB,u1⟩:=enter hA
 replace c1:=c1.mono u1
 obtain ⟨n2,rfl,v4,v5,v6,v7,rfl,h8,g0,h0,e0⟩:=c1
 obtain ⟨A9,n0,rfl⟩:=h8.form
 obtain ⟨o0,p0,rfl⟩:=g0.form
 obtain ⟨q0,r0,rfl⟩:=h0.form
 obtain ⟨s0,t0,rfl⟩:=e0.form
 replace d0:=d0.mono u1
 obtain ⟨y0,z0,rfl⟩:=d0.form
 refine AH Tryz.func70 rfl Tryz.ntmps70 ?_
 unfold CU at hm
 refine Ab (Aa (BQ 2 O rfl fun u0 d1 e1 k0 f0=>?_))
 replace f0:Lc 2 d1 e1 u0 26 [(.slice A9 x0.vars.length n0),(.slice o0 x0.init.length p0),(.slice q0 x0.goal.length r0),(.slice s0 x0.jobs.length t0)]:=f0
 refine Al rfl (o_z ?_)
 refine Ab (Ab (Aa (Bg (hl:=rfl) (hc:=(f0.1).cellsAt) rfl ?_)))
 obtain ⟨y1,z1,hm⟩:=bs hm
 replace h8:=h8.st k0
 replace g0:=g0.st k0
 replace h0:=h0.st k0
 replace e0:=e0.st k0
 refine AG (O:=e1) (A:=All d1) (R:=fun w' F v=>Vb w' F v y1) (ID (fun _ h=>h) (Vb.mono (F:=Fr 0 d1 e1) (Vb.ofAgg (cs:=[(.slice A9 x0.vars.length n0),(.slice o0 x0.init.length p0),(.slice q0 x0.goal.length r0),(.slice s0 x0.jobs.length t0)]) (x:=x0) rfl ⟨_,_,_,_,rfl,h8,g0,h0,e0⟩) Fr.lt) z1) rfl fun o2 p2 a2 j0 b2=>?_
 obtain ⟨rfl,c2⟩:=b2.err
 refine Al rfl (o_z ?_)
 refine Ab (Aa (Ak rfl (Gi rfl (fun f1=>?_) fun f1=>?_)))
 ·
  replace hm:=ip hm f1
  refine o_z ?_
  refine Aj rfl (Ab (Aa (Ak rfl (Al rfl (o_z ?_)))))
  refine AC ?_
  obtain rfl:=sm hm
  replace hB:=(hB.st k0).st j0
  exact ret1v rfl (At rfl) ⟨hB.ext,(vErr c2)⟩
 replace hm:=im hm f1
 refine o_z ?_
 refine Ah rfl (AK (Ab (Ab (Aa (Ak rfl (AR rfl ?_))))))
 replace d0:=(d0.st k0).st j0
 have d2:x1.length≤9223372036854775807:=Nat.le_trans d0.len.2.1 d0.len.2.2
 have q2:inI64 (x1.length:Int):=rngNat d2
 refine Dg rfl rfl (fun g1=>?_) fun g1=>?_
 ·
  replace hm:=ip hm g1
  refine o_z ?_
  refine Aj rfl (Ab (Aa (Fb rfl ?_)))
  refine Al rfl (o_z ?_)
  refine AC ?_
  obtain rfl:=sm hm
  replace hB:=(hB.st k0).st j0
  exact ret1v rfl (At rfl) ⟨hB.ext,(vErr (by decide))⟩
 replace hm:=im hm g1
 refine o_z ?_
 refine Ah rfl (AK (Ab (Ab (Aa (Ak rfl (AR rfl ?_))))))
 have h1:x1.length≤9223372036854775807:=Nat.le_trans d0.len.2.1 d0.len.2.2
 have r2:inI64 (x1.length:Int):=rngNat h1
 refine Ak rfl (o_z ?_)
 obtain ⟨v0,i1,hm⟩:=bs hm
 refine Au (aft v0 (fun (a1:Unit) (b1:Unit)=>[]) (fun a1 b1 w'=>∃ O':Lab,Bs w A w' O')) ?_ ?_
 ·
  refine AJ ?_
  replace hB:=(hB.st k0).st j0
  replace h8:=h8.st j0
  replace g0:=g0.st j0
  replace h0:=h0.st j0
  replace e0:=e0.st j0
  replace f0:=f0.st j0
  refine Bh (σ:=Unit) (X:=Unit) (x1.length) i1 rfl h1 (fun (a1:Unit) (b1:Unit)=>[(2,(.pointer (some ⟨u0,0,none⟩))),(17,(.slice y0 x1.length z0))]) _ (fun a1 b1 w'=>∃ O':Lab,Bs w A w' O'∧Lc 2 w' O' u0 26 [(.slice A9 x0.vars.length n0),(.slice o0 x0.init.length p0),(.slice q0 x0.goal.length r0),(.slice s0 x0.jobs.length t0)]∧Vb w' (Fr 0 w' O') (.slice A9 x0.vars.length n0) x0.vars∧Vb w' (Fr 0 w' O') (.slice o0 x0.init.length p0) x0.init∧Vb w' (Fr 0 w' O') (.slice q0 x0.goal.length r0) x0.goal∧Vb w' (Fr 0 w' O') (.slice s0 x0.jobs.length t0) x0.jobs∧Vb w' (Fr 0 w' O') (.slice y0 x1.length z0) x1) _ () ⟨a2,hB,f0,h8,g0,h0,e0,d0⟩ ⟨rfl,rfl,rfl,rfl,trivial⟩ (fun _ _=>⟨rfl,rfl⟩) (fun _ _=>trivial) (fun _ _ _ ⟨O',hB,f0,h8,g0,h0,e0,d0⟩=>⟨O',hB⟩) ⟨rfl,rfl,rfl⟩ ⟨rfl,rfl⟩ ?_
  rintro v1 w1 a1 b1 s2 e2 w0 ⟨f2,hB,f0,h8,g0,h0,e0,d0⟩ i0 m0 j1
  have rk45:inI64 (v1:Int):=rngK w0 h1
  refine Ab (Aa ?_)
  obtain ⟨t2,u2,g2,k1,l1,m1,rfl,v2,w2⟩:=d0.elem' w0
  refine Bv (hA:=k1) (hj:=rfl) (hlt:=l1) rfl rfl ?_
  refine Bg (hl:=rfl) (hc:=m1) rfl ?_
  refine AT 3 f2 fun h2 x2 i2 b0 l0=>?_
  refine AD l0 rfl rfl rfl (AL) (allOne) fun j2 c0 l0=>?_
  replace l0:Lc 3 j2 i2 h2 52 [(.int .i64 w1.tm),(.int .i64 w1.job)]:=l0
  refine o_z ?_
  refine Ab ?_
  obtain ⟨k2,a0,i0⟩:=bs i0
  refine Au (fun l' w'=>∃ (l2:Unit) (O':Lab),subs l' [(2,(.pointer (some ⟨u0,0,none⟩))),(17,(.slice y0 x1.length z0)),(18,(.int .i64 (x1.length:Int))),(19,(.int .i64 (v1:Int))),(43,(.bool k2))]∧Bs w A w' O'∧Lc 2 w' O' u0 26 [(.slice A9 x0.vars.length n0),(.slice o0 x0.init.length p0),(.slice q0 x0.goal.length r0),(.slice s0 x0.jobs.length t0)]∧Vb w' (Fr 0 w' O') (.slice A9 x0.vars.length n0) x0.vars∧Vb w' (Fr 0 w' O') (.slice o0 x0.init.length p0) x0.init∧Vb w' (Fr 0 w' O') (.slice q0 x0.goal.length r0) x0.goal∧Vb w' (Fr 0 w' O') (.slice s0 x0.jobs.length t0) x0.jobs∧Vb w' (Fr 0 w' O') (.slice y0 x1.length z0) x1) ?_ ?_
  ·
   refine Aa (AB rfl (Az (hc:=Blk.cell (i:=1) (l0.1) rfl) rfl ?_))
   refine Ep rfl rfl (fun n1=>?_) fun n1=>?_
   ·
    replace a0:=ip a0 n1
    refine Ak rfl (Am rfl rfl (Am rfl rfl (Am rfl rfl (Am rfl rfl (Am rfl rfl (Am rfl rfl (BD rfl rfl (Ak rfl (Am rfl rfl (Am rfl rfl (Am rfl rfl (BD rfl rfl (Ak rfl (Am rfl rfl ?_))))))))))))))
    refine Am rfl rfl (Am rfl rfl (BD rfl rfl (o_z ?_)))
    obtain rfl:=sm a0
    exact ⟨(),_,⟨rfl,rfl,rfl,rfl,rfl,trivial⟩,(hB.st b0).st c0,(f0.st b0).st c0,(h8.st b0).st c0,(g0.st b0).st c0,(h0.st b0).st c0,(e0.st b0).st c0,(d0.st b0).st c0⟩
   replace a0:=im a0 n1
   refine Ak rfl (An rfl rfl (AB rfl (An rfl rfl (Az (hc:=Blk.cell (i:=1) (l0.1) rfl) rfl ?_))))
   refine An rfl rfl (AB rfl (An rfl rfl ?_))
   replace f0:=(f0.st b0).st c0
   refine Az (hc:=Blk.cell (i:=3) (f0.1) rfl) rfl ?_
   refine An rfl rfl (AR rfl ?_)
   replace e0:=(e0.st b0).st c0
   have m2:x0.jobs.length≤9223372036854775807:=Nat.le_trans e0.len.2.1 e0.len.2.2
   have y2:inI64 (x0.jobs.length:Int):=rngNat m2
   refine An rfl rfl (Fs rfl rfl (fun o1=>?_) fun o1=>?_)
   ·
    replace a0:=ip a0 o1
    refine By rfl rfl (Ak rfl (Am rfl rfl (Am rfl rfl (Am rfl rfl (BD rfl rfl (Ak rfl (Am rfl rfl (Am rfl rfl (Am rfl rfl (BD rfl rfl (o_z ?_)))))))))))
    obtain rfl:=sm a0
    exact ⟨(),_,⟨rfl,rfl,rfl,rfl,rfl,trivial⟩,(hB.st b0).st c0,f0,(h8.st b0).st c0,(g0.st b0).st c0,(h0.st b0).st c0,e0,(d0.st b0).st c0⟩
   replace a0:=im a0 o1
   refine By rfl rfl (Ak rfl (An rfl rfl (AB rfl (An rfl rfl (Az (hc:=Blk.cell (i:=0) (l0.1) rfl) rfl ?_)))))
   refine An rfl rfl (Ep rfl rfl (fun p1=>?_) fun p1=>?_)
   ·
    replace a0:=ip a0 p1
    refine By rfl rfl (Ak rfl (Am rfl rfl (Am rfl rfl (Am rfl rfl (BD rfl rfl (o_z ?_))))))
    obtain rfl:=sm a0
    exact ⟨(),_,⟨rfl,rfl,rfl,rfl,rfl,trivial⟩,(hB.st b0).st c0,f0,(h8.st b0).st c0,(g0.st b0).st c0,(h0.st b0).st c0,e0,(d0.st b0).st c0⟩
   replace a0:=im a0 p1
   refine By rfl rfl (Ak rfl (An rfl rfl (AB rfl (An rfl rfl (Az (hc:=Blk.cell (i:=0) (l0.1) rfl) rfl ?_)))))
   refine An rfl rfl (Dg rfl rfl (fun q1=>?_) fun q1=>?_)
   ·
    replace a0:=ip a0 q1
    refine By rfl rfl (o_z ?_)
    obtain rfl:=sm a0
    exact ⟨(),_,⟨rfl,rfl,rfl,rfl,rfl,trivial⟩,(hB.st b0).st c0,f0,(h8.st b0).st c0,(g0.st b0).st c0,(h0.st b0).st c0,e0,(d0.st b0).st c0⟩
   replace a0:=im a0 q1
   refine By rfl rfl (o_z ?_)
   obtain rfl:=sm a0
   exact ⟨(),_,⟨rfl,rfl,rfl,rfl,rfl,trivial⟩,(hB.st b0).st c0,f0,(h8.st b0).st c0,(g0.st b0).st c0,(h0.st b0).st c0,e0,(d0.st b0).st c0⟩
  replace hB:=(hB.st b0).st c0
  replace d0:=(d0.st b0).st c0
  replace h8:=(h8.st b0).st c0
  replace g0:=(g0.st b0).st c0
  replace h0:=(h0.st b0).st c0
  replace e0:=(e0.st b0).st c0
  replace f0:=(f0.st b0).st c0
  rintro z2 a3 ⟨l2,b3,r1,hB,f0,h8,g0,h0,e0,d0⟩
  refine AE _ r1 ?_
  refine Cw rfl (fun s1=>?_) (fun s1=>?_)
  ·
   replace i0:=ip i0 s1
   refine Ab (Aa (Fb rfl ?_))
   refine Al rfl (o_z ?_)
   refine AC ?_
   obtain rfl:=sm i0
   obtain rfl:=m0 _ rfl
   obtain rfl:=sm (CG hm)
   exact ret1v rfl (At rfl) ⟨hB.ext,(vErr (by decide))⟩
  replace i0:=im' i0 s1
  refine AK ?_
  obtain rfl:=sm i0
  exact show Exists _ from ⟨_,(),rfl,⟨rfl,rfl,rfl,rfl,trivial⟩,_,hB,f0,h8,g0,h0,e0,d0⟩
 replace hB:=(hB.st k0).st j0
 rintro c3 d3 ⟨e3,f3,rfl,t1,g3,hB⟩
 replace hm:=AP hm
 refine AE _ t1 ?_
 refine Ab (Aa (Al rfl (o_z ?_)))
 refine AC ?_
 obtain rfl:=sm hm
 exact ret1v rfl (At rfl) ⟨hB.ext,(vErr (show inI64 0 from by decide))⟩
noncomputable def Cu (x0:Tpl) (x1:Lch):Option Int :=
  bnd (atI x0.jobs x1.job) fun a33=>bnd (chkI (x1.tm + a33.dur)) fun n66=>some n66
theorem DC {w:World} {A:Nat→Prop} (hA:∀ k,A k→k < w.heap.size) {vx0:Value} {x0:Tpl} (d0:Vb w A vx0 x0) {vx1:Value} {x1:Lch} (e0:Vb w A vx1 x1) {r:Int} (hm:Cu x0 x1=some r) :
    Fn Tryz.prog 116 [vx0,vx1] w fun v w'=>Ext w w'∧Vb w' (upA A w w') v r:=by
 obtain ⟨O,hB,j0⟩:=enter hA
 replace d0:=d0.mono j0
 obtain ⟨n1,rfl,v4,v5,v6,v7,rfl,h8,o0,p0,b0⟩:=d0
 obtain ⟨A9,q0,rfl⟩:=h8.form
 obtain ⟨r0,s0,rfl⟩:=o0.form
 obtain ⟨t0,u0,rfl⟩:=p0.form
 obtain ⟨v0,w0,rfl⟩:=b0.form
 replace e0:=e0.mono j0
 obtain ⟨y0,rfl,rfl,o1,p1⟩:=e0
 refine AH Tryz.func116 rfl Tryz.ntmps116 ?_
 unfold Cu at hm
 refine Ab (Aa (BQ 2 O rfl fun z0 a1 k0 l0 a0=>?_))
 replace a0:Lc 2 a1 k0 z0 26 [(.slice A9 x0.vars.length q0),(.slice r0 x0.init.length s0),(.slice t0 x0.goal.length u0),(.slice v0 x0.jobs.length w0)]:=a0
 refine BQ 3 k0 rfl fun b1 m0 c1 f0 c0=>?_
 replace c0:Lc 3 m0 c1 b1 52 [(.int .i64 x1.tm),(.int .i64 x1.job)]:=c0
 refine Al rfl (o_z ?_)
 refine Ab (Fl (·=m0) [(0,true),(1,true),(2,true),(3,true),(4,true),(5,true),(6,true),(7,true),(8,true),(9,true),(10,true)] rfl rfl ?_)
 refine Bo rfl rfl (Fa (hc:=Blk.cell (i:=0) (c0.1) rfl) rfl rfl ?_)
 refine Bo rfl rfl ?_
 replace a0:=a0.st f0
 refine Fa (hc:=Blk.cell (i:=3) (a0.1) rfl) rfl rfl ?_
 refine Bo rfl rfl (Fa (hc:=Blk.cell (i:=1) (c0.1) rfl) rfl rfl ?_)
 obtain ⟨q1,d1,hm⟩:=bs hm
 obtain ⟨e1,f1⟩:=BO d1
 replace b0:=(b0.st l0).st f0
 obtain ⟨r1,s1,g1,g0,h0,i0,t1,u1,v1,w1,y1,rfl,h1,i1,j1,k1,l1,z1,a2⟩:=b0.elem' f1
 obtain ⟨b2,c2,rfl⟩:=h1.form
 obtain ⟨d2,e2,rfl⟩:=i1.form
 obtain ⟨f2,g2,rfl⟩:=j1.form
 obtain ⟨h2,i2,rfl⟩:=k1.form
 obtain ⟨j2,k2,rfl⟩:=l1.form
 refine EF (hA:=g0) (hj:=(Int.toNat_of_nonneg e1).symm) (hlt:=h0) rfl rfl rfl ?_
 refine Bo rfl rfl (Fa (hc:=cat1 i0) rfl rfl ?_)
 obtain ⟨l2,n0,hm⟩:=bs hm
 have m1:=(AX n0)
 refine JY (he:=n0) rfl rfl rfl ?_
 refine JT rfl rfl (h_z ?_)
 refine AC ?_
 obtain rfl:=sm hm
 replace hB:=(hB.st l0).st f0
 exact ret1v rfl (At rfl) ⟨hB.ext,(vInt m1)⟩
noncomputable def CW (x0:Tpl) (x1:List Lch) (x2:Int):Option Bool :=
  bnd (rng (ρ:=Bool) (fun (k34:Nat) (a35:Lch) (s32:Unit)=>if a35.tm≠x2 then (some (.next ())) else (bnd (rng (ρ:=Ctl Unit Bool) (fun (k68:Nat) (a69:Lch) (s66:Unit)=>bnd (if (k34:Int)≠(k68:Int) then (if a35.job=a69.job then (if a69.tm≤x2 then (bnd (Cu x0 a69) fun q102=>if x2≤q102 then (some true) else (some false)) else (some false)) else (some false)) else (some false):Option Bool) fun y95=>if y95=true then (some (.ret (.ret true))) else (some (.next ()))) x1 0 ()) fun res64=>fin res64 fun (s120:Unit)=>some (.next ()))) x1 0 ()) fun res30=>fin res30 fun (s126:Unit)=>some false
theorem KG {w:World} {A:Nat→Prop} (hA:∀ k,A k→k < w.heap.size) {vx0:Value} {x0:Tpl} (a2:Vb w A vx0 x0) {vx1:Value} {x1:List Lch} (e0:Vb w A vx1 x1) {x2:Int} (rx2:inI64 x2) {r:Bool} (hm:CW x0 x1 x2=some r) :
    Fn Tryz.prog 118 [vx0,vx1,(.int .i64 x2)] w fun v w'=>Ext w w'∧Vb w' (upA A w w') v r:=by
 obtain ⟨O,hB,s2⟩:=enter hA
 replace a2:=a2.mono s2
 obtain ⟨b4,rfl,v5,v6,v7,v8,rfl,h9,f0,g0,h0⟩:=a2
 obtain ⟨r0,s0,rfl⟩:=h9.form
 obtain ⟨t0,u0,rfl⟩:=f0.form
 obtain ⟨v0,w0,rfl⟩:=g0.form
 obtain ⟨y0,z0,rfl⟩:=h0.form
 replace e0:=e0.mono s2
 obtain ⟨p0,q0,rfl⟩:=e0.form
 refine AH Tryz.func118 rfl Tryz.ntmps118 ?_
 unfold CW at hm
 refine Ab (Aa (BQ 2 O rfl fun a1 w2 t2 b1 i0=>?_))
 replace i0:Lc 2 w2 t2 a1 26 [(.slice r0 x0.vars.length s0),(.slice t0 x0.init.length u0),(.slice v0 x0.goal.length w0),(.slice y0 x0.jobs.length z0)]:=i0
 refine Al rfl (o_z ?_)
 refine Ab (Ab (Aa (Ak rfl (AR rfl ?_))))
 replace e0:=e0.st b1
 have b2:x1.length≤9223372036854775807:=Nat.le_trans e0.len.2.1 e0.len.2.2
 have c4:inI64 (x1.length:Int):=rngNat b2
 refine Ak rfl (o_z ?_)
 obtain ⟨l1,c2,hm⟩:=bs hm
 refine Au (aft l1 (fun (t1:Unit) (u1:Unit)=>[]) (fun t1 u1 w'=>∃ O':Lab,Bs w A w' O')) ?_ ?_
 ·
  refine AJ ?_
  replace hB:=hB.st b1
  replace h9:=h9.st b1
  replace f0:=f0.st b1
  replace g0:=g0.st b1
  replace h0:=h0.st b1
  refine Bh (σ:=Unit) (X:=Unit) (x1.length) c2 rfl b2 (fun (t1:Unit) (u1:Unit)=>[(1,(.slice p0 x1.length q0)),(2,(.int .i64 x2)),(3,(.pointer (some ⟨a1,0,none⟩))),(11,(.slice p0 x1.length q0))]) _ (fun t1 u1 w'=>∃ O':Lab,Bs w A w' O'∧Vb w' (Fr 0 w' O') (.slice p0 x1.length q0) x1∧Lc 2 w' O' a1 26 [(.slice r0 x0.vars.length s0),(.slice t0 x0.init.length u0),(.slice v0 x0.goal.length w0),(.slice y0 x0.jobs.length z0)]∧Vb w' (Fr 0 w' O') (.slice r0 x0.vars.length s0) x0.vars∧Vb w' (Fr 0 w' O') (.slice t0 x0.init.length u0) x0.init∧Vb w' (Fr 0 w' O') (.slice v0 x0.goal.length w0) x0.goal∧Vb w' (Fr 0 w' O') (.slice y0 x0.jobs.length z0) x0.jobs) _ () ⟨t2,hB,e0,i0,h9,f0,g0,h0⟩ ⟨rfl,rfl,rfl,rfl,rfl,rfl,trivial⟩ (fun _ _=>⟨rfl,rfl⟩) (fun _ _=>trivial) (fun _ _ _ ⟨O',hB,e0,i0,h9,f0,g0,h0⟩=>⟨O',hB⟩) ⟨rfl,rfl,rfl⟩ ⟨rfl,rfl⟩ ?_
  rintro j1 k1 t1 u1 d4 y2 m1 ⟨z2,hB,e0,i0,h9,f0,g0,h0⟩ j0 c1 d2
  have rk34:inI64 (j1:Int):=rngK m1 b2
  refine Ab (Aa (Ak rfl ?_))
  obtain ⟨e4,f4,a3,e2,f2,g2,rfl,g4,h4⟩:=e0.elem' m1
  refine Bv (hA:=e2) (hj:=rfl) (hlt:=f2) rfl rfl ?_
  refine Bg (hl:=rfl) (hc:=g2) rfl ?_
  refine AT 3 z2 fun n1 i4 u2 k0 l0=>?_
  refine Al rfl (AD l0 rfl rfl rfl (AL) (allOne) fun b3 m0 l0=>?_)
  replace l0:Lc 3 b3 u2 n1 52 [(.int .i64 k1.tm),(.int .i64 k1.job)]:=l0
  refine o_z ?_
  refine Ab (Ab (Aa (AB rfl (Az (hc:=Blk.cell (i:=0) (l0.1) rfl) rfl ?_))))
  refine Ak rfl (Oo rfl rfl rfl (fun h2=>?_) fun h2=>?_)
  ·
   replace j0:=ip j0 h2
   refine o_z ?_
   refine Aj rfl (Gm ?_)
   obtain rfl:=sm j0
   exact show Exists _ from ⟨_,(),rfl,⟨rfl,rfl,rfl,rfl,rfl,rfl,trivial⟩,_,(hB.st k0).st m0,(e0.st k0).st m0,(i0.st k0).st m0,(h9.st k0).st m0,(f0.st k0).st m0,(g0.st k0).st m0,(h0.st k0).st m0⟩
  replace j0:=im j0 h2
  refine o_z ?_
  refine Ah rfl (AK (Ab (Aa (Ak rfl (AR rfl ?_)))))
  replace e0:=(e0.st k0).st m0
  have i2:x1.length≤9223372036854775807:=Nat.le_trans e0.len.2.1 e0.len.2.2
  have j4:inI64 (x1.length:Int):=rngNat i2
  refine Ak rfl (o_z ?_)
  obtain ⟨o1,j2,j0⟩:=bs j0
  refine Au (aft o1 (fun (v1:Unit) (w1:Unit)=>[(1,(.slice p0 x1.length q0)),(2,(.int .i64 x2)),(3,(.pointer (some ⟨a1,0,none⟩))),(11,(.slice p0 x1.length q0)),(12,(.int .i64 (x1.length:Int))),(13,(.int .i64 (j1:Int)))]) (fun v1 w1 w'=>∃ O':Lab,Bs w A w' O'∧Vb w' (Fr 0 w' O') (.slice p0 x1.length q0) x1∧Lc 2 w' O' a1 26 [(.slice r0 x0.vars.length s0),(.slice t0 x0.init.length u0),(.slice v0 x0.goal.length w0),(.slice y0 x0.jobs.length z0)]∧Vb w' (Fr 0 w' O') (.slice r0 x0.vars.length s0) x0.vars∧Vb w' (Fr 0 w' O') (.slice t0 x0.init.length u0) x0.init∧Vb w' (Fr 0 w' O') (.slice v0 x0.goal.length w0) x0.goal∧Vb w' (Fr 0 w' O') (.slice y0 x0.jobs.length z0) x0.jobs)) ?_ ?_
  ·
   refine AJ ?_
   replace hB:=(hB.st k0).st m0
   replace h9:=(h9.st k0).st m0
   replace f0:=(f0.st k0).st m0
   replace g0:=(g0.st k0).st m0
   replace h0:=(h0.st k0).st m0
   replace i0:=(i0.st k0).st m0
   refine Bh (σ:=Unit) (X:=Unit) (x1.length) j2 rfl i2 (fun (v1:Unit) (w1:Unit)=>[(1,(.slice p0 x1.length q0)),(2,(.int .i64 x2)),(3,(.pointer (some ⟨a1,0,none⟩))),(7,(.int .i64 (j1:Int))),(8,(.pointer (some ⟨n1,0,none⟩))),(11,(.slice p0 x1.length q0)),(12,(.int .i64 (x1.length:Int))),(13,(.int .i64 (j1:Int))),(22,(.slice p0 x1.length q0))]) _ (fun v1 w1 w'=>∃ O':Lab,Bs w A w' O'∧Vb w' (Fr 0 w' O') (.slice p0 x1.length q0) x1∧Lc 2 w' O' a1 26 [(.slice r0 x0.vars.length s0),(.slice t0 x0.init.length u0),(.slice v0 x0.goal.length w0),(.slice y0 x0.jobs.length z0)]∧Vb w' (Fr 0 w' O') (.slice r0 x0.vars.length s0) x0.vars∧Vb w' (Fr 0 w' O') (.slice t0 x0.init.length u0) x0.init∧Vb w' (Fr 0 w' O') (.slice v0 x0.goal.length w0) x0.goal∧Vb w' (Fr 0 w' O') (.slice y0 x0.jobs.length z0) x0.jobs∧Lc 3 w' O' n1 52 [(.int .i64 k1.tm),(.int .i64 k1.job)]) _ () ⟨u2,hB,e0,i0,h9,f0,g0,h0,l0⟩ ⟨rfl,rfl,rfl,rfl,rfl,rfl,rfl,rfl,rfl,rfl,rfl,trivial⟩ (fun _ _=>⟨rfl,rfl⟩) (fun _ _=>⟨rfl,rfl,rfl,rfl,rfl,rfl,trivial⟩) (fun _ _ _ ⟨O',hB,e0,i0,h9,f0,g0,h0,l0⟩=>⟨O',hB,e0,i0,h9,f0,g0,h0⟩) ⟨rfl,rfl,rfl⟩ ⟨rfl,rfl⟩ ?_
   rintro v2 p1 v1 w1 k4 c3 q1 ⟨d3,hB,e0,i0,h9,f0,g0,h0,l0⟩ o0 d1 k2
   have rk68:inI64 (v2:Int):=rngK q1 i2
   refine Ab (Aa (Ak rfl ?_))
   obtain ⟨l4,m4,e3,l2,m2,n2,rfl,f3,g3⟩:=e0.elem' q1
   refine Bv (hA:=l2) (hj:=rfl) (hlt:=m2) rfl rfl ?_
   refine Bg (hl:=rfl) (hc:=n2) rfl ?_
   refine AT 4 d3 fun h3 n4 y1 b0 e1=>?_
   refine Al rfl (AD e1 rfl rfl rfl (AL) (allOne) fun z1 c0 e1=>?_)
   replace e1:Lc 4 z1 y1 h3 52 [(.int .i64 p1.tm),(.int .i64 p1.job)]:=e1
   refine o_z ?_
   refine Ab ?_
   obtain ⟨i3,a0,o0⟩:=bs o0
   refine Au (fun l' w'=>∃ (j3:Unit) (O':Lab),subs l' [(1,(.slice p0 x1.length q0)),(2,(.int .i64 x2)),(3,(.pointer (some ⟨a1,0,none⟩))),(7,(.int .i64 (j1:Int))),(8,(.pointer (some ⟨n1,0,none⟩))),(11,(.slice p0 x1.length q0)),(12,(.int .i64 (x1.length:Int))),(13,(.int .i64 (j1:Int))),(22,(.slice p0 x1.length q0)),(23,(.int .i64 (x1.length:Int))),(24,(.int .i64 (v2:Int))),(51,(.bool i3))]∧Bs w A w' O'∧Vb w' (Fr 0 w' O') (.slice p0 x1.length q0) x1∧Lc 2 w' O' a1 26 [(.slice r0 x0.vars.length s0),(.slice t0 x0.init.length u0),(.slice v0 x0.goal.length w0),(.slice y0 x0.jobs.length z0)]∧Vb w' (Fr 0 w' O') (.slice r0 x0.vars.length s0) x0.vars∧Vb w' (Fr 0 w' O') (.slice t0 x0.init.length u0) x0.init∧Vb w' (Fr 0 w' O') (.slice v0 x0.goal.length w0) x0.goal∧Vb w' (Fr 0 w' O') (.slice y0 x0.jobs.length z0) x0.jobs∧Lc 3 w' O' n1 52 [(.int .i64 k1.tm),(.int .i64 k1.job)]) ?_ ?_
   ·
    refine Aa (Ak rfl (Ak rfl (Oo rfl rfl rfl (fun o2=>?_) fun o2=>?_)))
    ·
     replace a0:=ip a0 o2
     refine Ak rfl (An rfl rfl (AB rfl (An rfl rfl ?_)))
     replace l0:=(l0.st b0).st c0
     refine Az (hc:=Blk.cell (i:=1) (l0.1) rfl) rfl ?_
     refine An rfl rfl (AB rfl (An rfl rfl (Az (hc:=Blk.cell (i:=1) (e1.1) rfl) rfl ?_)))
     refine An rfl rfl (EZ rfl rfl (fun f1=>?_) fun f1=>?_)
     ·
      replace a0:=ip a0 f1
      refine BD rfl rfl (Ak rfl (An rfl rfl (AB rfl (An rfl rfl (Az (hc:=Blk.cell (i:=0) (e1.1) rfl) rfl ?_)))))
      refine An rfl rfl (Ak rfl (An rfl rfl (IS rfl rfl (fun g1=>?_) fun g1=>?_)))
      ·
       replace a0:=ip a0 g1
       refine BD rfl rfl (Ak rfl (An rfl rfl (Ak rfl (An rfl rfl ?_))))
       replace i0:=(i0.st b0).st c0
       refine Bg (hl:=rfl) (hc:=(i0.1).cellsAt) rfl ?_
       refine An rfl rfl (Bg (hl:=rfl) (hc:=(e1.1).cellsAt) rfl ?_)
       refine An rfl rfl ?_
       obtain ⟨p2,q2,a0⟩:=bs a0
       replace h9:=(h9.st b0).st c0
       replace f0:=(f0.st b0).st c0
       replace g0:=(g0.st b0).st c0
       replace h0:=(h0.st b0).st c0
       refine AG (O:=y1) (A:=All z1) (R:=fun w' F v=>Vb w' F v p2) (DC (fun _ h=>h) (Vb.mono (F:=Fr 0 z1 y1) (Vb.ofAgg (cs:=[(.slice r0 x0.vars.length s0),(.slice t0 x0.init.length u0),(.slice v0 x0.goal.length w0),(.slice y0 x0.jobs.length z0)]) (x:=x0) rfl ⟨_,_,_,_,rfl,h9,f0,g0,h0⟩) Fr.lt) (Vb.mono (F:=Fr 0 z1 y1) (Vb.ofAgg (cs:=[(.int .i64 p1.tm),(.int .i64 p1.job)]) (x:=p1) rfl ⟨rfl,f3,g3⟩) Fr.lt) q2) rfl fun k3 l3 m3 d0 r2=>?_
       obtain ⟨rfl,n3⟩:=r2.int
       refine An rfl rfl (IS rfl rfl (fun h1=>?_) fun h1=>?_)
       ·
        replace a0:=ip a0 h1
        refine BD rfl rfl (o_z ?_)
        obtain rfl:=sm a0
        exact ⟨(),_,⟨rfl,rfl,rfl,rfl,rfl,rfl,rfl,rfl,rfl,rfl,rfl,rfl,trivial⟩,((hB.st b0).st c0).st d0,((e0.st b0).st c0).st d0,i0.st d0,h9.st d0,f0.st d0,g0.st d0,h0.st d0,l0.st d0⟩
       replace a0:=im a0 h1
       refine BD rfl rfl (o_z ?_)
       obtain rfl:=sm a0
       exact ⟨(),_,⟨rfl,rfl,rfl,rfl,rfl,rfl,rfl,rfl,rfl,rfl,rfl,rfl,trivial⟩,((hB.st b0).st c0).st d0,((e0.st b0).st c0).st d0,i0.st d0,h9.st d0,f0.st d0,g0.st d0,h0.st d0,l0.st d0⟩
      replace a0:=im a0 g1
      refine BD rfl rfl (Ak rfl (Am rfl rfl (Am rfl rfl (Am rfl rfl (Am rfl rfl (Am rfl rfl (By rfl rfl (o_z ?_))))))))
      obtain rfl:=sm a0
      exact ⟨(),_,⟨rfl,rfl,rfl,rfl,rfl,rfl,rfl,rfl,rfl,rfl,rfl,rfl,trivial⟩,(hB.st b0).st c0,(e0.st b0).st c0,(i0.st b0).st c0,(h9.st b0).st c0,(f0.st b0).st c0,(g0.st b0).st c0,(h0.st b0).st c0,l0⟩
     replace a0:=im a0 f1
     refine BD rfl rfl (Ak rfl (Am rfl rfl (Am rfl rfl (Am rfl rfl (Am rfl rfl (By rfl rfl (Ak rfl (Am rfl rfl (Am rfl rfl (Am rfl rfl (Am rfl rfl (Am rfl rfl (By rfl rfl (o_z ?_))))))))))))))
     obtain rfl:=sm a0
     exact ⟨(),_,⟨rfl,rfl,rfl,rfl,rfl,rfl,rfl,rfl,rfl,rfl,rfl,rfl,trivial⟩,(hB.st b0).st c0,(e0.st b0).st c0,(i0.st b0).st c0,(h9.st b0).st c0,(f0.st b0).st c0,(g0.st b0).st c0,(h0.st b0).st c0,l0⟩
    replace a0:=im a0 o2
    refine Ak rfl (Am rfl rfl (Am rfl rfl (Am rfl rfl (Am rfl rfl (Am rfl rfl (By rfl rfl (Ak rfl (Am rfl rfl (Am rfl rfl (Am rfl rfl (Am rfl rfl (By rfl rfl (Ak rfl (Am rfl rfl ?_))))))))))))))
    refine Am rfl rfl (Am rfl rfl (Am rfl rfl (Am rfl rfl (By rfl rfl (o_z ?_)))))
    obtain rfl:=sm a0
    exact ⟨(),_,⟨rfl,rfl,rfl,rfl,rfl,rfl,rfl,rfl,rfl,rfl,rfl,rfl,trivial⟩,(hB.st b0).st c0,(e0.st b0).st c0,(i0.st b0).st c0,(h9.st b0).st c0,(f0.st b0).st c0,(g0.st b0).st c0,(h0.st b0).st c0,(l0.st b0).st c0⟩
   replace hB:=(hB.st b0).st c0
   replace e0:=(e0.st b0).st c0
   replace h9:=(h9.st b0).st c0
   replace f0:=(f0.st b0).st c0
   replace g0:=(g0.st b0).st c0
   replace h0:=(h0.st b0).st c0
   replace i0:=(i0.st b0).st c0
   replace l0:=(l0.st b0).st c0
   rintro o3 p3 ⟨j3,q3,r1,hB,e0,i0,h9,f0,g0,h0,l0⟩
   refine AE _ r1 ?_
   refine Cw rfl (fun i1=>?_) (fun i1=>?_)
   ·
    replace o0:=ip o0 i1
    refine Ab (Aa (Al rfl (o_z ?_)))
    refine AC ?_
    obtain rfl:=sm o0
    obtain rfl:=d1 _ rfl
    obtain rfl:=sm (CG j0)
    obtain rfl:=c1 _ rfl
    obtain rfl:=sm (CG hm)
    exact ret1v rfl (At rfl) ⟨hB.ext,vBool⟩
   replace o0:=im' o0 i1
   refine AK ?_
   obtain rfl:=sm o0
   exact show Exists _ from ⟨_,(),rfl,⟨rfl,rfl,rfl,rfl,rfl,rfl,rfl,rfl,rfl,rfl,rfl,trivial⟩,_,hB,e0,i0,h9,f0,g0,h0,l0⟩
  replace hB:=(hB.st k0).st m0
  replace h9:=(h9.st k0).st m0
  replace f0:=(f0.st k0).st m0
  replace g0:=(g0.st k0).st m0
  replace h0:=(h0.st k0).st m0
  replace i0:=(i0.st k0).st m0
  rintro r3 s3 ⟨t3,u3,rfl,n0,v3,hB,e0,i0,h9,f0,g0,h0⟩
  replace j0:=AP j0
  obtain rfl:=sm j0
  exact show Exists _ from ⟨_,(),rfl,⟨(AS n0 _ _ rfl),(AS n0 _ _ rfl),(AS n0 _ _ rfl),(AS n0 _ _ rfl),(AS n0 _ _ rfl),(AS n0 _ _ rfl),trivial⟩,_,hB,e0,i0,h9,f0,g0,h0⟩
 replace hB:=hB.st b1
 rintro w3 x3 ⟨y3,z3,rfl,s1,a4,hB⟩
 replace hm:=AP hm
 refine AE _ s1 ?_
 refine Ab (Aa (Al rfl (o_z ?_)))
 refine AC ?_
 obtain rfl:=sm hm
 exact ret1v rfl (At rfl) ⟨hB.ext,vBool⟩
noncomputable def BZ (x0:Tpl) (x1:Hap):Option (List Fct) :=
  if x1.fin=true then (bnd (atI x0.jobs x1.job) fun a33=>some a33.atEnd) else (bnd (atI x0.jobs x1.job) fun a66=>some a66.atStart)
theorem EK {w:World} {A:Nat→Prop} (hA:∀ k,A k→k < w.heap.size) {vx0:Value} {x0:Tpl} (f0:Vb w A vx0 x0) {vx1:Value} {x1:Hap} (g0:Vb w A vx1 x1) {r:(List Fct)} (hm:BZ x0 x1=some r) :
    Fn Tryz.prog 148 [vx0,vx1] w fun v w'=>Ext w w'∧Vb w' (upA A w w') v r:=by
 obtain ⟨O,hB,q0⟩:=enter hA
 replace f0:=f0.mono q0
 obtain ⟨z1,rfl,v4,v5,v6,v7,rfl,h8,u0,v0,b0⟩:=f0
 obtain ⟨A9,w0,rfl⟩:=h8.form
 obtain ⟨y0,z0,rfl⟩:=u0.form
 obtain ⟨a1,b1,rfl⟩:=v0.form
 obtain ⟨c1,d1,rfl⟩:=b0.form
 replace g0:=g0.mono q0
 obtain ⟨e1,rfl,rfl,a2⟩:=g0
 refine AH Tryz.func148 rfl Tryz.ntmps148 ?_
 unfold BZ at hm
 refine Ab (Aa (BQ 2 O rfl fun f1 g1 r0 e0 a0=>?_))
 replace a0:Lc 2 g1 r0 f1 26 [(.slice A9 x0.vars.length w0),(.slice y0 x0.init.length z0),(.slice a1 x0.goal.length b1),(.slice c1 x0.jobs.length d1)]:=a0
 refine BQ 3 r0 rfl fun h1 h0 i0 c0 d0=>?_
 replace d0:Lc 3 h0 i0 h1 182 [(.int .i64 x1.job),(.bool x1.fin)]:=d0
 refine Al rfl (o_z ?_)
 refine Ab (Ab (Aa (AB rfl (Az (hc:=Blk.cell (i:=1) (d0.1) rfl) rfl ?_))))
 refine o_z ?_
 refine Cw rfl (fun j0=>?_) (fun j0=>?_)
 ·
  replace hm:=ip hm j0
  refine Ab (Aa (AB rfl ?_))
  replace a0:=a0.st c0
  refine Az (hc:=Blk.cell (i:=3) (a0.1) rfl) rfl ?_
  refine AB rfl (Az (hc:=Blk.cell (i:=0) (d0.1) rfl) rfl ?_)
  obtain ⟨b2,i1,hm⟩:=bs hm
  obtain ⟨j1,k1⟩:=BO i1
  replace b0:=(b0.st e0).st c0
  obtain ⟨c2,d2,l1,k0,l0,m0,e2,f2,g2,h2,i2,rfl,m1,n1,o1,p1,s0,j2,k2⟩:=b0.elem' k1
  obtain ⟨l2,m2,rfl⟩:=m1.form
  obtain ⟨n2,o2,rfl⟩:=n1.form
  obtain ⟨p2,q2,rfl⟩:=o1.form
  obtain ⟨r2,s2,rfl⟩:=p1.form
  obtain ⟨t2,u2,rfl⟩:=s0.form
  refine Bv (hA:=k0) (hj:=(Int.toNat_of_nonneg j1).symm) (hlt:=l0) rfl rfl ?_
  refine AB rfl (Az (hc:=cat6 m0) rfl ?_)
  refine Al rfl (o_z ?_)
  refine AC ?_
  obtain rfl:=sm hm
  replace hB:=(hB.st e0).st c0
  exact ret1v rfl (At rfl) ⟨hB.ext,(Vb.mono (F:=Fr 0 h0 i0) s0 hB.out)⟩
 replace hm:=im' hm j0
 refine AK (Ab (Aa (AB rfl ?_)))
 replace a0:=a0.st c0
 refine Az (hc:=Blk.cell (i:=3) (a0.1) rfl) rfl ?_
 refine AB rfl (Az (hc:=Blk.cell (i:=0) (d0.1) rfl) rfl ?_)
 obtain ⟨v2,q1,hm⟩:=bs hm
 obtain ⟨r1,s1⟩:=BO q1
 replace b0:=(b0.st e0).st c0
 obtain ⟨w2,x2,t1,n0,o0,p0,y2,z2,a3,b3,c3,rfl,u1,v1,w1,t0,y1,d3,e3⟩:=b0.elem' s1
 obtain ⟨f3,g3,rfl⟩:=u1.form
 obtain ⟨h3,i3,rfl⟩:=v1.form
 obtain ⟨j3,k3,rfl⟩:=w1.form
 obtain ⟨l3,m3,rfl⟩:=t0.form
 obtain ⟨n3,o3,rfl⟩:=y1.form
 refine Bv (hA:=n0) (hj:=(Int.toNat_of_nonneg r1).symm) (hlt:=o0) rfl rfl ?_
 refine AB rfl (Az (hc:=cat5 p0) rfl ?_)
 refine Al rfl (o_z ?_)
 refine AC ?_
 obtain rfl:=sm hm
 replace hB:=(hB.st e0).st c0
 exact ret1v rfl (At rfl) ⟨hB.ext,(Vb.mono (F:=Fr 0 h0 i0) t0 hB.out)⟩
noncomputable def De (x0:Fct) (y0:Fct):Option Bool :=
  bnd (if y0.var=x0.var then (some true) else (some false):Option Bool) fun y12=>some y12
theorem Jy {w:World} {A:Nat→Prop} (hA:∀ k,A k→k < w.heap.size) {vx0:Value} {x0:Fct} (c0:Vb w A vx0 x0) {py0:Nat} {csy0:List Value} {y0:Fct} (hby0:Blk w py0 78 csy0) (hay0:A py0) (hcy0:Rp.R w A csy0 y0) {r:Bool} (hm:De x0 y0=some r) :
    Fn Tryz.prog 187 [vx0,(.pointer (some ⟨py0,0,none⟩))] w fun v w'=>Ext w w'∧Vb w' (upA A w w') v r:=by
 obtain ⟨O,hB,d0⟩:=enter hA
 have hLy0:Lc 0 w O py0 78 csy0:=⟨hby0,(d0 py0 hay0).2⟩
 replace hcy0:=Rp.mono hcy0 d0
 obtain ⟨rfl,r2,r3⟩:=hcy0
 replace c0:=c0.mono d0
 obtain ⟨j0,rfl,rfl,r5,r6⟩:=c0
 refine AH Tryz.func187 rfl Tryz.ntmps187 ?_
 unfold De at hm
 refine Ab (Aa (BQ 2 O rfl fun g7 w8 O9 b0 e0=>?_))
 replace e0:Lc 2 w8 O9 g7 78 [(.int .i64 x0.var),(.int .i64 x0.val)]:=e0
 refine Al rfl (o_z ?_)
 refine Ab ?_
 obtain ⟨h0,a0,hm⟩:=bs hm
 refine Au (fun l' w'=>∃ (i0:Unit) (O':Lab),subs l' [(3,(.bool h0))]∧Bs w A w' O') ?_ ?_
 ·
  refine Aa (AB rfl ?_)
  replace hLy0:=hLy0.st b0
  refine Az (hc:=Blk.cell (i:=0) (hLy0.1) rfl) rfl ?_
  refine AB rfl (Az (hc:=Blk.cell (i:=0) (e0.1) rfl) rfl ?_)
  refine EZ rfl rfl (fun f0=>?_) fun f0=>?_
  ·
   replace a0:=ip a0 f0
   refine Al rfl (o_z ?_)
   obtain rfl:=sm a0
   exact ⟨(),_,⟨rfl,trivial⟩,hB.st b0⟩
  replace a0:=im a0 f0
  refine Al rfl (o_z ?_)
  obtain rfl:=sm a0
  exact ⟨(),_,⟨rfl,trivial⟩,hB.st b0⟩
 replace hB:=hB.st b0
 rintro k0 l0 ⟨i0,m0,g0,hB⟩
 refine AE _ g0 ?_
 refine AC ?_
 obtain rfl:=sm hm
 exact ret1v rfl (At rfl) ⟨hB.ext,vBool⟩
noncomputable def Be (x0:List Fct) (y0:Fct):Option Int :=
  bnd (rng (ρ:=Int) (fun (k13:Nat) (a14:Fct) (s11:Unit)=>bnd (De a14 y0) fun q33=>if q33=true then some (.ret (k13:Int)) else some (.next ())) x0 0 ()) fun res9=>fin res9 fun (s44:Unit)=>some (-1)
theorem DX {w:World} {A:Nat→Prop} (hA:∀ k,A k→k < w.heap.size) {vx0:Value} {x0:List Fct} (b0:Vb w A vx0 x0) {py0:Nat} {csy0:List Value} {y0:Fct} (hby0:Blk w py0 78 csy0) (hay0:A py0) (hcy0:Rp.R w A csy0 y0) {r:Int} (hm:Be x0 y0=some r) :
    Fn Tryz.prog 160 [vx0,(.func (.func 187) #[] #[(.pointer (some ⟨py0,0,none⟩))])] w fun v w'=>Ext w w'∧Vb w' (upA A w w') v r:=by
 obtain ⟨O,hB,h0⟩:=enter hA
 have hLy0:Lc 0 w O py0 78 csy0:=⟨hby0,(h0 py0 hay0).2⟩
 replace hcy0:=Rp.mono hcy0 h0
 obtain ⟨rfl,r3,r4⟩:=hcy0
 replace b0:=b0.mono h0
 obtain ⟨A5,c6,rfl⟩:=b0.form
 refine AH Tryz.func160 rfl Tryz.ntmps160 ?_
 unfold Be at hm
 refine Ab (Aa (Al rfl (o_z ?_)))
 refine Ab (Ab (Aa (Ak rfl (AR rfl ?_))))
 have l8:x0.length≤9223372036854775807:=Nat.le_trans b0.len.2.1 b0.len.2.2
 have r7:inI64 (x0.length:Int):=rngNat l8
 refine Ak rfl (o_z ?_)
 obtain ⟨i0,j0,hm⟩:=bs hm
 refine Au (aft i0 (fun (e0:Unit) (f0:Unit)=>[]) (fun e0 f0 w'=>∃ O':Lab,Bs w A w' O')) ?_ ?_
 ·
  refine AJ (Bh (σ:=Unit) (X:=Unit) (x0.length) j0 rfl l8 (fun (e0:Unit) (f0:Unit)=>[(0,(.slice A5 x0.length c6)),(1,(.func (.func 187) #[] #[(.pointer (some ⟨py0,0,none⟩))]))]) _ (fun e0 f0 w'=>∃ O':Lab,Bs w A w' O'∧Vb w' (Fr 0 w' O') (.slice A5 x0.length c6) x0∧Lc 0 w' O' py0 78 [(.int .i64 y0.var),(.int .i64 y0.val)]) _ () ⟨O,hB,b0,hLy0⟩ ⟨rfl,rfl,rfl,rfl,trivial⟩ (fun _ _=>⟨rfl,rfl⟩) (fun _ _=>trivial) (fun _ _ _ ⟨O',hB,b0,hLy0⟩=>⟨O',hB⟩) ⟨rfl,rfl,rfl⟩ ⟨rfl,rfl⟩ ?_)
  rintro t0 k0 e0 f0 l0 u0 d0 ⟨m0,hB,b0,hLy0⟩ a0 c0 n0
  have rk13:inI64 (t0:Int):=rngK d0 l8
  refine Ab (Aa (Ak rfl (Al rfl (o_z ?_))))
  refine Ab (Aa (Ak rfl (Ak rfl (Ak rfl ?_))))
  obtain ⟨c1,d1,v0,o0,p0,q0,rfl,w0,z0⟩:=b0.elem' d0
  refine Bv (hA:=o0) (hj:=rfl) (hlt:=p0) rfl rfl ?_
  refine Bg (hl:=rfl) (hc:=q0) rfl ?_
  obtain ⟨s0,a1,a0⟩:=bs a0
  refine HI (O:=m0) (A:=All l0) (R:=fun w' F v=>Vb w' F v s0) (Jy (fun _ h=>h) (Vb.mono (F:=Fr 0 l0 m0) (Vb.ofAgg (cs:=[(.int .i64 k0.var),(.int .i64 k0.val)]) (x:=k0) rfl ⟨rfl,w0,z0⟩) Fr.lt) hLy0.1 hLy0.1.lt (Rp.mono (F:=Fr 0 l0 m0) (x:=y0) ⟨rfl,r3,r4⟩ Fr.lt) a1) rfl rfl rfl rfl fun e1 f1 g1 g0 b1=>?_
  obtain rfl:=b1.bool
  cases s0
  case false =>
   replace a0:=iF a0
   refine o_z ?_
   refine Ah rfl (AK ?_)
   obtain rfl:=sm a0
   exact show Exists _ from ⟨_,(),rfl,⟨rfl,rfl,rfl,rfl,trivial⟩,_,hB.st g0,b0.st g0,hLy0.st g0⟩
  replace a0:=iT a0
  refine o_z ?_
  refine Aj rfl (Ab (Aa (Ak rfl (Al rfl (o_z ?_)))))
  refine AC ?_
  obtain rfl:=sm a0
  obtain rfl:=c0 _ rfl
  obtain rfl:=sm (CG hm)
  replace hB:=hB.st g0
  exact ret1v rfl (At rfl) ⟨hB.ext,(vInt rk13)⟩
 rintro h1 i1 ⟨j1,k1,rfl,r0,l1,hB⟩
 replace hm:=AP hm
 refine AE _ r0 ?_
 refine Ab (Aa (Al rfl (o_z ?_)))
 refine AC ?_
 obtain rfl:=sm hm
 exact ret1v rfl (At rfl) ⟨hB.ext,(vInt (show inI64 (-1) from by decide))⟩
noncomputable def Bc (x0:List Fct) (y0:Fct):Option Bool :=
  bnd (bnd (Be x0 y0) fun q11=>if 0≤q11 then (some true) else (some false):Option Bool) fun y7=>some y7
theorem DH {w:World} {A:Nat→Prop} (hA:∀ k,A k→k < w.heap.size) {vx0:Value} {x0:List Fct} (b0:Vb w A vx0 x0) {py0:Nat} {csy0:List Value} {y0:Fct} (hby0:Blk w py0 78 csy0) (hay0:A py0) (hcy0:Rp.R w A csy0 y0) {r:Bool} (hm:Bc x0 y0=some r) :
    Fn Tryz.prog 134 [vx0,(.func (.func 187) #[] #[(.pointer (some ⟨py0,0,none⟩))])] w fun v w'=>Ext w w'∧Vb w' (upA A w w') v r:=by
 obtain ⟨O,hB,c0⟩:=enter hA
 have hLy0:Lc 0 w O py0 78 csy0:=⟨hby0,(c0 py0 hay0).2⟩
 replace hcy0:=Rp.mono hcy0 c0
 obtain ⟨rfl,r3,r4⟩:=hcy0
 replace b0:=b0.mono c0
 obtain ⟨A5,c6,rfl⟩:=b0.form
 refine AH Tryz.func134 rfl Tryz.ntmps134 ?_
 unfold Bc at hm
 refine Ab (Aa (Al rfl (o_z ?_)))
 refine Ab ?_
 obtain ⟨y7,a0,hm⟩:=bs hm
 refine Au (fun l' w'=>∃ (g0:Unit) (O':Lab),subs l' [(4,(.bool y7))]∧Bs w A w' O') ?_ ?_
 ·
  refine Aa (Ak rfl (Ak rfl ?_))
  obtain ⟨h0,i0,a0⟩:=bs a0
  refine AG (O:=O) (A:=All w) (R:=fun w' F v=>Vb w' F v h0) (DX (fun _ h=>h) (Vb.mono (F:=Fr 0 w O) b0 Fr.lt) hLy0.1 hLy0.1.lt (Rp.mono (F:=Fr 0 w O) (x:=y0) ⟨rfl,r3,r4⟩ Fr.lt) i0) rfl fun k0 l0 m0 f0 j0=>?_
  obtain ⟨rfl,n0⟩:=j0.int
  refine Fs rfl rfl (fun d0=>?_) fun d0=>?_
  ·
   replace a0:=ip a0 d0
   refine Al rfl (o_z ?_)
   obtain rfl:=sm a0
   exact ⟨(),_,⟨rfl,trivial⟩,hB.st f0⟩
  replace a0:=im a0 d0
  refine Al rfl (o_z ?_)
  obtain rfl:=sm a0
  exact ⟨(),_,⟨rfl,trivial⟩,hB.st f0⟩
 rintro o0 p0 ⟨g0,q0,e0,hB⟩
 refine AE _ e0 ?_
 refine AC ?_
 obtain rfl:=sm hm
 exact ret1v rfl (At rfl) ⟨hB.ext,vBool⟩
noncomputable def Dk (x0:Fct) (y0:List Fct):Option Bool :=
  bnd (bnd (Bc y0 x0) fun q18=>if q18=true then some true else some false:Option Bool) fun y14=>some y14
theorem KU {w:World} {A:Nat→Prop} (hA:∀ k,A k→k < w.heap.size) {vx0:Value} {x0:Fct} (f0:Vb w A vx0 x0) {py0:Nat} {csy0:List Value} {y0:List Fct} (hby0:Blk w py0 23 csy0) (hay0:A py0) (hcy0:Rp.R w A csy0 y0) {r:Bool} (hm:Dk x0 y0=some r) :
    Fn Tryz.prog 186 [vx0,(.pointer (some ⟨py0,0,none⟩))] w fun v w'=>Ext w w'∧Vb w' (upA A w w') v r:=by
 obtain ⟨O,hB,g0⟩:=enter hA
 have hLy0:Lc 0 w O py0 23 csy0:=⟨hby0,(g0 py0 hay0).2⟩
 replace hcy0:=Rp.mono hcy0 g0
 obtain ⟨v2,rfl,h3⟩:=hcy0
 replace h3:=Vb.of_slice h3
 obtain ⟨A4,c5,rfl⟩:=h3.form
 replace f0:=f0.mono g0
 obtain ⟨o0,rfl,rfl,r7,r8⟩:=f0
 refine AH Tryz.func186 rfl Tryz.ntmps186 ?_
 unfold Dk at hm
 refine Ab (Aa (BQ 2 O rfl fun g9 c0 d0 b0 e0=>?_))
 replace e0:Lc 2 c0 d0 g9 78 [(.int .i64 x0.var),(.int .i64 x0.val)]:=e0
 refine Al rfl (o_z ?_)
 refine Ab ?_
 obtain ⟨k0,a0,hm⟩:=bs hm
 refine Au (fun l' w'=>∃ (l0:Unit) (O':Lab),subs l' [(3,(.bool k0))]∧Bs w A w' O') ?_ ?_
 ·
  refine Aa ?_
  replace hLy0:=hLy0.st b0
  refine Az (hc:=Blk.cell (i:=0) (hLy0.1) rfl) rfl ?_
  refine LY rfl rfl ?_
  obtain ⟨i0,m0,a0⟩:=bs a0
  replace h3:=h3.st b0
  refine AG (O:=d0) (A:=All c0) (R:=fun w' F v=>Vb w' F v i0) (DH (fun _ h=>h) (Vb.mono (F:=Fr 0 c0 d0) h3 Fr.lt) e0.1 e0.1.lt (Rp.mono (F:=Fr 0 c0 d0) (x:=x0) ⟨rfl,r7,r8⟩ Fr.lt) m0) rfl fun p0 q0 r0 j0 n0=>?_
  obtain rfl:=n0.bool
  cases i0
  case false =>
   replace a0:=iF a0
   refine Al rfl (o_z ?_)
   obtain rfl:=sm a0
   exact ⟨(),_,⟨rfl,trivial⟩,(hB.st b0).st j0⟩
  replace a0:=iT a0
  refine Al rfl (o_z ?_)
  obtain rfl:=sm a0
  exact ⟨(),_,⟨rfl,trivial⟩,(hB.st b0).st j0⟩
 replace hB:=hB.st b0
 rintro s0 t0 ⟨l0,u0,h0,hB⟩
 refine AE _ h0 ?_
 refine AC ?_
 obtain rfl:=sm hm
 exact ret1v rfl (At rfl) ⟨hB.ext,vBool⟩
noncomputable def Bn (x0:List Fct) (y0:List Fct):Option Int :=
  bnd (rng (ρ:=Int) (fun (k15:Nat) (a16:Fct) (s13:Unit)=>bnd (Dk a16 y0) fun q35=>if q35=true then some (.ret (k15:Int)) else some (.next ())) x0 0 ()) fun res11=>fin res11 fun (s46:Unit)=>some (-1)
theorem Eq {w:World} {A:Nat→Prop} (hA:∀ k,A k→k < w.heap.size) {vx0:Value} {x0:List Fct} (b0:Vb w A vx0 x0) {py0:Nat} {csy0:List Value} {y0:List Fct} (hby0:Blk w py0 23 csy0) (hay0:A py0) (hcy0:Rp.R w A csy0 y0) {r:Int} (hm:Bn x0 y0=some r) :
    Fn Tryz.prog 160 [vx0,(.func (.func 186) #[] #[(.pointer (some ⟨py0,0,none⟩))])] w fun v w'=>Ext w w'∧Vb w' (upA A w w') v r:=by
 obtain ⟨O,hB,i0⟩:=enter hA
 have hLy0:Lc 0 w O py0 23 csy0:=⟨hby0,(i0 py0 hay0).2⟩
 replace hcy0:=Rp.mono hcy0 i0
 obtain ⟨v3,rfl,h4⟩:=hcy0
 replace h4:=Vb.of_slice h4
 obtain ⟨A5,c6,rfl⟩:=h4.form
 replace b0:=b0.mono i0
 obtain ⟨A7,c8,rfl⟩:=b0.form
 refine AH Tryz.func160 rfl Tryz.ntmps160 ?_
 unfold Bn at hm
 refine Ab (Aa (Al rfl (o_z ?_)))
 refine Ab (Ab (Aa (Ak rfl (AR rfl ?_))))
 have j0:x0.length≤9223372036854775807:=Nat.le_trans b0.len.2.1 b0.len.2.2
 have r9:inI64 (x0.length:Int):=rngNat j0
 refine Ak rfl (o_z ?_)
 obtain ⟨d0,k0,hm⟩:=bs hm
 refine Au (aft d0 (fun (g0:Unit) (h0:Unit)=>[]) (fun g0 h0 w'=>∃ O':Lab,Bs w A w' O')) ?_ ?_
 ·
  refine AJ (Bh (σ:=Unit) (X:=Unit) (x0.length) k0 rfl j0 (fun (g0:Unit) (h0:Unit)=>[(0,(.slice A7 x0.length c8)),(1,(.func (.func 186) #[] #[(.pointer (some ⟨py0,0,none⟩))]))]) _ (fun g0 h0 w'=>∃ O':Lab,Bs w A w' O'∧Vb w' (Fr 0 w' O') (.slice A7 x0.length c8) x0∧Lc 0 w' O' py0 23 [(.slice A5 y0.length c6)]∧Vb w' (Fr 0 w' O') (.slice A5 y0.length c6) y0) _ () ⟨O,hB,b0,hLy0,h4⟩ ⟨rfl,rfl,rfl,rfl,trivial⟩ (fun _ _=>⟨rfl,rfl⟩) (fun _ _=>trivial) (fun _ _ _ ⟨O',hB,b0,hLy0,h4⟩=>⟨O',hB⟩) ⟨rfl,rfl,rfl⟩ ⟨rfl,rfl⟩ ?_)
  rintro u0 l0 g0 h0 m0 v0 e0 ⟨n0,hB,b0,hLy0,h4⟩ a0 c0 o0
  have rk15:inI64 (u0:Int):=rngK e0 j0
  refine Ab (Aa (Ak rfl (Al rfl (o_z ?_))))
  refine Ab (Aa (Ak rfl (Ak rfl (Ak rfl ?_))))
  obtain ⟨d1,e1,w0,p0,q0,r0,rfl,z0,a1⟩:=b0.elem' e0
  refine Bv (hA:=p0) (hj:=rfl) (hlt:=q0) rfl rfl ?_
  refine Bg (hl:=rfl) (hc:=r0) rfl ?_
  obtain ⟨t0,b1,a0⟩:=bs a0
  refine HI (O:=n0) (A:=All m0) (R:=fun w' F v=>Vb w' F v t0) (KU (fun _ h=>h) (Vb.mono (F:=Fr 0 m0 n0) (Vb.ofAgg (cs:=[(.int .i64 l0.var),(.int .i64 l0.val)]) (x:=l0) rfl ⟨rfl,z0,a1⟩) Fr.lt) hLy0.1 hLy0.1.lt (Rp.mono (F:=Fr 0 m0 n0) (x:=y0) (Vb.cells1 h4) Fr.lt) b1) rfl rfl rfl rfl fun f1 g1 h1 f0 c1=>?_
  obtain rfl:=c1.bool
  cases t0
  case false =>
   replace a0:=iF a0
   refine o_z ?_
   refine Ah rfl (AK ?_)
   obtain rfl:=sm a0
   exact show Exists _ from ⟨_,(),rfl,⟨rfl,rfl,rfl,rfl,trivial⟩,_,hB.st f0,b0.st f0,hLy0.st f0,h4.st f0⟩
  replace a0:=iT a0
  refine o_z ?_
  refine Aj rfl (Ab (Aa (Ak rfl (Al rfl (o_z ?_)))))
  refine AC ?_
  obtain rfl:=sm a0
  obtain rfl:=c0 _ rfl
  obtain rfl:=sm (CG hm)
  replace hB:=hB.st f0
  exact ret1v rfl (At rfl) ⟨hB.ext,(vInt rk15)⟩
 rintro i1 j1 ⟨k1,l1,rfl,s0,m1,hB⟩
 replace hm:=AP hm
 refine AE _ s0 ?_
 refine Ab (Aa (Al rfl (o_z ?_)))
 refine AC ?_
 obtain rfl:=sm hm
 exact ret1v rfl (At rfl) ⟨hB.ext,(vInt (show inI64 (-1) from by decide))⟩
noncomputable def Bf (x0:List Fct) (y0:List Fct):Option Bool :=
  bnd (bnd (Bn x0 y0) fun q13=>if 0≤q13 then (some true) else (some false):Option Bool) fun y9=>some y9
theorem DY {w:World} {A:Nat→Prop} (hA:∀ k,A k→k < w.heap.size) {vx0:Value} {x0:List Fct} (b0:Vb w A vx0 x0) {py0:Nat} {csy0:List Value} {y0:List Fct} (hby0:Blk w py0 23 csy0) (hay0:A py0) (hcy0:Rp.R w A csy0 y0) {r:Bool} (hm:Bf x0 y0=some r) :
    Fn Tryz.prog 134 [vx0,(.func (.func 186) #[] #[(.pointer (some ⟨py0,0,none⟩))])] w fun v w'=>Ext w w'∧Vb w' (upA A w w') v r:=by
 obtain ⟨O,hB,c0⟩:=enter hA
 have hLy0:Lc 0 w O py0 23 csy0:=⟨hby0,(c0 py0 hay0).2⟩
 replace hcy0:=Rp.mono hcy0 c0
 obtain ⟨v3,rfl,h4⟩:=hcy0
 replace h4:=Vb.of_slice h4
 obtain ⟨A5,c6,rfl⟩:=h4.form
 replace b0:=b0.mono c0
 obtain ⟨A7,c8,rfl⟩:=b0.form
 refine AH Tryz.func134 rfl Tryz.ntmps134 ?_
 unfold Bf at hm
 refine Ab (Aa (Al rfl (o_z ?_)))
 refine Ab ?_
 obtain ⟨y9,a0,hm⟩:=bs hm
 refine Au (fun l' w'=>∃ (g0:Unit) (O':Lab),subs l' [(4,(.bool y9))]∧Bs w A w' O') ?_ ?_
 ·
  refine Aa (Ak rfl (Ak rfl ?_))
  obtain ⟨h0,i0,a0⟩:=bs a0
  refine AG (O:=O) (A:=All w) (R:=fun w' F v=>Vb w' F v h0) (Eq (fun _ h=>h) (Vb.mono (F:=Fr 0 w O) b0 Fr.lt) hLy0.1 hLy0.1.lt (Rp.mono (F:=Fr 0 w O) (x:=y0) (Vb.cells1 h4) Fr.lt) i0) rfl fun k0 l0 m0 f0 j0=>?_
  obtain ⟨rfl,n0⟩:=j0.int
  refine Fs rfl rfl (fun d0=>?_) fun d0=>?_
  ·
   replace a0:=ip a0 d0
   refine Al rfl (o_z ?_)
   obtain rfl:=sm a0
   exact ⟨(),_,⟨rfl,trivial⟩,hB.st f0⟩
  replace a0:=im a0 d0
  refine Al rfl (o_z ?_)
  obtain rfl:=sm a0
  exact ⟨(),_,⟨rfl,trivial⟩,hB.st f0⟩
 rintro o0 p0 ⟨g0,q0,e0,hB⟩
 refine AE _ e0 ?_
 refine AC ?_
 obtain rfl:=sm hm
 exact ret1v rfl (At rfl) ⟨hB.ext,vBool⟩
noncomputable def Db (x0:List Fct) (x1:List Fct):Option Bool :=
  bnd (bnd (Bf x0 x1) fun q16=>if q16=true then some true else some false:Option Bool) fun y12=>some y12
theorem Hu {w:World} {A:Nat→Prop} (hA:∀ k,A k→k < w.heap.size) {vx0:Value} {x0:List Fct} (b0:Vb w A vx0 x0) {vx1:Value} {x1:List Fct} (c0:Vb w A vx1 x1) {r:Bool} (hm:Db x0 x1=some r) :
    Fn Tryz.prog 147 [vx0,vx1] w fun v w'=>Ext w w'∧Vb w' (upA A w w') v r:=by
 obtain ⟨O,hB,f0⟩:=enter hA
 replace b0:=b0.mono f0
 obtain ⟨A3,c4,rfl⟩:=b0.form
 replace c0:=c0.mono f0
 obtain ⟨A5,c6,rfl⟩:=c0.form
 refine AH Tryz.func147 rfl Tryz.ntmps147 ?_
 unfold Db at hm
 refine Ab (Aa (BQ 2 O rfl fun g7 w8 O9 d0 g0=>?_))
 refine Al rfl (o_z ?_)
 refine Ab ?_
 obtain ⟨j0,a0,hm⟩:=bs hm
 refine Au (fun l' w'=>∃ (k0:Unit) (O':Lab),subs l' [(4,(.bool j0))]∧Bs w A w' O') ?_ ?_
 ·
  refine Aa (Ak rfl (LY rfl rfl ?_))
  obtain ⟨h0,l0,a0⟩:=bs a0
  replace b0:=b0.st d0
  replace c0:=c0.st d0
  refine AG (O:=O9) (A:=All w8) (R:=fun w' F v=>Vb w' F v h0) (DY (fun _ h=>h) (Vb.mono (F:=Fr 0 w8 O9) b0 Fr.lt) g0.1 g0.1.lt (Rp.mono (F:=Fr 0 w8 O9) (x:=x1) (Vb.cells1 c0) Fr.lt) l0) rfl fun n0 o0 p0 i0 m0=>?_
  obtain rfl:=m0.bool
  cases h0
  case false =>
   replace a0:=iF a0
   refine Al rfl (o_z ?_)
   obtain rfl:=sm a0
   exact ⟨(),_,⟨rfl,trivial⟩,(hB.st d0).st i0⟩
  replace a0:=iT a0
  refine Al rfl (o_z ?_)
  obtain rfl:=sm a0
  exact ⟨(),_,⟨rfl,trivial⟩,(hB.st d0).st i0⟩
 replace hB:=hB.st d0
 rintro q0 r0 ⟨k0,s0,e0,hB⟩
 refine AE _ e0 ?_
 refine AC ?_
 obtain rfl:=sm hm
 exact ret1v rfl (At rfl) ⟨hB.ext,vBool⟩
noncomputable def CH (x0:Tpl) (x1:Hap):Option (List Fct) :=
  if x1.fin=true then (bnd (atI x0.jobs x1.job) fun a33=>some a33.fin) else (bnd (atI x0.jobs x1.job) fun a66=>some a66.start)
theorem Hb {w:World} {A:Nat→Prop} (hA:∀ k,A k→k < w.heap.size) {vx0:Value} {x0:Tpl} (f0:Vb w A vx0 x0) {vx1:Value} {x1:Hap} (g0:Vb w A vx1 x1) {r:(List Fct)} (hm:CH x0 x1=some r) :
    Fn Tryz.prog 120 [vx0,vx1] w fun v w'=>Ext w w'∧Vb w' (upA A w w') v r:=by
 obtain ⟨O,hB,q0⟩:=enter hA
 replace f0:=f0.mono q0
 obtain ⟨z1,rfl,v4,v5,v6,v7,rfl,h8,u0,v0,b0⟩:=f0
 obtain ⟨A9,w0,rfl⟩:=h8.form
 obtain ⟨y0,z0,rfl⟩:=u0.form
 obtain ⟨a1,b1,rfl⟩:=v0.form
 obtain ⟨c1,d1,rfl⟩:=b0.form
 replace g0:=g0.mono q0
 obtain ⟨e1,rfl,rfl,a2⟩:=g0
 refine AH Tryz.func120 rfl Tryz.ntmps120 ?_
 unfold CH at hm
 refine Ab (Aa (BQ 2 O rfl fun f1 g1 r0 e0 a0=>?_))
 replace a0:Lc 2 g1 r0 f1 26 [(.slice A9 x0.vars.length w0),(.slice y0 x0.init.length z0),(.slice a1 x0.goal.length b1),(.slice c1 x0.jobs.length d1)]:=a0
 refine BQ 3 r0 rfl fun h1 h0 i0 c0 d0=>?_
 replace d0:Lc 3 h0 i0 h1 182 [(.int .i64 x1.job),(.bool x1.fin)]:=d0
 refine Al rfl (o_z ?_)
 refine Ab (Ab (Aa (AB rfl (Az (hc:=Blk.cell (i:=1) (d0.1) rfl) rfl ?_))))
 refine o_z ?_
 refine Cw rfl (fun j0=>?_) (fun j0=>?_)
 ·
  replace hm:=ip hm j0
  refine Ab (Aa (AB rfl ?_))
  replace a0:=a0.st c0
  refine Az (hc:=Blk.cell (i:=3) (a0.1) rfl) rfl ?_
  refine AB rfl (Az (hc:=Blk.cell (i:=0) (d0.1) rfl) rfl ?_)
  obtain ⟨b2,i1,hm⟩:=bs hm
  obtain ⟨j1,k1⟩:=BO i1
  replace b0:=(b0.st e0).st c0
  obtain ⟨c2,d2,l1,k0,l0,m0,e2,f2,g2,h2,i2,rfl,m1,n1,s0,o1,p1,j2,k2⟩:=b0.elem' k1
  obtain ⟨l2,m2,rfl⟩:=m1.form
  obtain ⟨n2,o2,rfl⟩:=n1.form
  obtain ⟨p2,q2,rfl⟩:=s0.form
  obtain ⟨r2,s2,rfl⟩:=o1.form
  obtain ⟨t2,u2,rfl⟩:=p1.form
  refine Bv (hA:=k0) (hj:=(Int.toNat_of_nonneg j1).symm) (hlt:=l0) rfl rfl ?_
  refine AB rfl (Az (hc:=cat4 m0) rfl ?_)
  refine Al rfl (o_z ?_)
  refine AC ?_
  obtain rfl:=sm hm
  replace hB:=(hB.st e0).st c0
  exact ret1v rfl (At rfl) ⟨hB.ext,(Vb.mono (F:=Fr 0 h0 i0) s0 hB.out)⟩
 replace hm:=im' hm j0
 refine AK (Ab (Aa (AB rfl ?_)))
 replace a0:=a0.st c0
 refine Az (hc:=Blk.cell (i:=3) (a0.1) rfl) rfl ?_
 refine AB rfl (Az (hc:=Blk.cell (i:=0) (d0.1) rfl) rfl ?_)
 obtain ⟨v2,q1,hm⟩:=bs hm
 obtain ⟨r1,s1⟩:=BO q1
 replace b0:=(b0.st e0).st c0
 obtain ⟨w2,x2,t1,n0,o0,p0,y2,z2,a3,b3,c3,rfl,t0,u1,v1,w1,y1,d3,e3⟩:=b0.elem' s1
 obtain ⟨f3,g3,rfl⟩:=t0.form
 obtain ⟨h3,i3,rfl⟩:=u1.form
 obtain ⟨j3,k3,rfl⟩:=v1.form
 obtain ⟨l3,m3,rfl⟩:=w1.form
 obtain ⟨n3,o3,rfl⟩:=y1.form
 refine Bv (hA:=n0) (hj:=(Int.toNat_of_nonneg r1).symm) (hlt:=o0) rfl rfl ?_
 refine AB rfl (Az (hc:=cat2 p0) rfl ?_)
 refine Al rfl (o_z ?_)
 refine AC ?_
 obtain rfl:=sm hm
 replace hB:=(hB.st e0).st c0
 exact ret1v rfl (At rfl) ⟨hB.ext,(Vb.mono (F:=Fr 0 h0 i0) t0 hB.out)⟩
noncomputable def BV (x0:Tpl) (x1:Hap) (x2:Hap):Option Bool :=
  bnd (bnd (BZ x0 x1) fun q44=>bnd (BZ x0 x2) fun q53=>bnd (Db q44 q53) fun q62=>if q62=true then some true else bnd (BZ x0 x1) fun q69=>bnd (CH x0 x2) fun q78=>bnd (Db q69 q78) fun q87=>if q87=true then some true else bnd (CH x0 x1) fun q94=>bnd (BZ x0 x2) fun q103=>bnd (Db q94 q103) fun q112=>if q112=true then some true else some false:Option Bool) fun y40=>some y40
theorem JZ {w:World} {A:Nat→Prop} (hA:∀ k,A k→k < w.heap.size) {vx0:Value} {x0:Tpl} (k1:Vb w A vx0 x0) {vx1:Value} {x1:Hap} (l1:Vb w A vx1 x1) {vx2:Value} {x2:Hap} (m1:Vb w A vx2 x2) {r:Bool} (hm:BV x0 x1 x2=some r) :
    Fn Tryz.prog 119 [vx0,vx1,vx2] w fun v w'=>Ext w w'∧Vb w' (upA A w w') v r:=by
 obtain ⟨O,hB,n1⟩:=enter hA
 replace k1:=k1.mono n1
 obtain ⟨w3,rfl,v5,v6,v7,v8,rfl,h9,b0,c0,d0⟩:=k1
 obtain ⟨r0,s0,rfl⟩:=h9.form
 obtain ⟨t0,u0,rfl⟩:=b0.form
 obtain ⟨v0,w0,rfl⟩:=c0.form
 obtain ⟨y0,z0,rfl⟩:=d0.form
 replace l1:=l1.mono n1
 obtain ⟨g2,rfl,rfl,o1⟩:=l1
 replace m1:=m1.mono n1
 obtain ⟨h2,rfl,rfl,p1⟩:=m1
 refine AH Tryz.func119 rfl Tryz.ntmps119 ?_
 unfold BV at hm
 refine Ab (Aa (BQ 2 O rfl fun i2 j2 a2 o0 e0=>?_))
 replace e0:Lc 2 j2 a2 i2 26 [(.slice r0 x0.vars.length s0),(.slice t0 x0.init.length u0),(.slice v0 x0.goal.length w0),(.slice y0 x0.jobs.length z0)]:=e0
 refine BQ 3 a2 rfl fun k2 l2 b2 n0 j0=>?_
 replace j0:Lc 3 l2 b2 k2 182 [(.int .i64 x1.job),(.bool x1.fin)]:=j0
 refine BQ 4 b2 rfl fun m2 n2 q1 k0 p0=>?_
 replace p0:Lc 4 n2 q1 m2 182 [(.int .i64 x2.job),(.bool x2.fin)]:=p0
 refine Al rfl (o_z ?_)
 refine Ab ?_
 obtain ⟨o2,a0,hm⟩:=bs hm
 refine Au (fun l' w'=>∃ (p2:Unit) (O':Lab),subs l' [(6,(.bool o2))]∧Bs w A w' O') ?_ ?_
 ·
  refine BP [] q1 ?_
  refine AM (fuel:=22) [] [(0,true),(1,true),(3,true),(4,true)] rfl ?_
  replace e0:=(e0.st n0).st k0
  refine CN (hl:=rfl) (hb:=fun w' ⟨O',hq⟩=>((e0.st hq (by decide)).1).cellsAt) rfl rfl ?_
  replace j0:=j0.st k0
  refine CN (hl:=rfl) (hb:=fun w' ⟨O',hq⟩=>((j0.st hq (by decide)).1).cellsAt) rfl rfl ?_
  refine CN (hl:=rfl) (hb:=fun w' ⟨O',hq⟩=>((e0.st hq (by decide)).1).cellsAt) rfl rfl ?_
  refine CN (hl:=rfl) (hb:=fun w' ⟨O',hq⟩=>((p0.st hq (by decide)).1).cellsAt) rfl rfl ?_
  refine Ay ?_
  refine Ax (i:=2) rfl ?_
  obtain ⟨q2,r2,a0⟩:=bs a0
  replace h9:=((h9.st o0).st n0).st k0
  replace b0:=((b0.st o0).st n0).st k0
  replace c0:=((c0.st o0).st n0).st k0
  replace d0:=((d0.st o0).st n0).st k0
  refine BU (O:=q1) (R:=fun w' F v=>Vb w' F v q2) (EK Fr.lt (Vb.ofAgg (cs:=[(.slice r0 x0.vars.length s0),(.slice t0 x0.init.length u0),(.slice v0 x0.goal.length w0),(.slice y0 x0.jobs.length z0)]) (x:=x0) rfl ⟨_,_,_,_,rfl,h9,b0,c0,d0⟩) (Vb.ofAgg (cs:=[(.int .i64 x1.job),(.bool x1.fin)]) (x:=x1) rfl ⟨rfl,o1⟩) r2) rfl fun x3 y3 s2 g0 h1=>?_
  obtain ⟨z3,a4,rfl⟩:=h1.form
  have hZ:=g0.lst [] (fun _ h=>h.elim)
  refine AF [] hZ ?_
  refine Ax (i:=5) rfl ?_
  obtain ⟨t2,u2,a0⟩:=bs a0
  replace h9:=h9.st g0
  replace b0:=b0.st g0
  replace c0:=c0.st g0
  replace d0:=d0.st g0
  refine BU (O:=s2) (R:=fun w' F v=>Vb w' F v t2) (EK Fr.lt (Vb.ofAgg (cs:=[(.slice r0 x0.vars.length s0),(.slice t0 x0.init.length u0),(.slice v0 x0.goal.length w0),(.slice y0 x0.jobs.length z0)]) (x:=x0) rfl ⟨_,_,_,_,rfl,h9,b0,c0,d0⟩) (Vb.ofAgg (cs:=[(.int .i64 x2.job),(.bool x2.fin)]) (x:=x2) rfl ⟨rfl,p1⟩) u2) rfl fun b4 r1 s1 f0 c2=>?_
  obtain ⟨c4,d4,rfl⟩:=c2.form
  have hZ:=f0.lst [] (fun _ h=>h.elim)
  refine AF [] hZ ?_
  refine Ax (i:=6) rfl ?_
  obtain ⟨d2,v2,a0⟩:=bs a0
  replace h1:=h1.st f0
  refine AG (O:=s1) (A:=All r1) (R:=fun w' F v=>Vb w' F v d2) (Hu (fun _ h=>h) (Vb.mono (F:=Fr 0 r1 s1) h1 Fr.lt) (Vb.mono (F:=Fr 0 r1 s1) c2 Fr.lt) v2) rfl fun e4 f4 w2 h0 y2=>?_
  obtain rfl:=y2.bool
  have hZ:=h0.lst [] (fun _ h=>h.elim)
  cases d2
  case false =>
   replace a0:=iF a0
   refine AF [] hZ ?_
   refine AM (fuel:=14) [] [(7,true),(8,true),(9,true),(11,true),(12,true)] rfl ?_
   refine Bp rfl rfl (AA rfl (Aw rfl rfl ?_))
   replace e0:=((e0.st g0).st f0).st h0
   refine IV (hl:=rfl) (hb:=fun w' ⟨O',hq⟩=>((e0.st hq (by decide)).1).cellsAt) rfl ?_
   refine AA rfl (Aw rfl rfl ?_)
   replace j0:=((j0.st g0).st f0).st h0
   refine IV (hl:=rfl) (hb:=fun w' ⟨O',hq⟩=>((j0.st hq (by decide)).1).cellsAt) rfl ?_
   refine AA rfl (Aw rfl rfl (IV (hl:=rfl) (hb:=fun w' ⟨O',hq⟩=>((e0.st hq (by decide)).1).cellsAt) rfl ?_))
   refine AA rfl (Aw rfl rfl ?_)
   replace p0:=((p0.st g0).st f0).st h0
   refine IV (hl:=rfl) (hb:=fun w' ⟨O',hq⟩=>((p0.st hq (by decide)).1).cellsAt) rfl ?_
   refine Ay ?_
   refine Ax (i:=10) rfl ?_
   refine An rfl rfl ?_
   obtain ⟨z2,a3,a0⟩:=bs a0
   replace h9:=(h9.st f0).st h0
   replace b0:=(b0.st f0).st h0
   replace c0:=(c0.st f0).st h0
   replace d0:=(d0.st f0).st h0
   refine BU (O:=w2) (R:=fun w' F v=>Vb w' F v z2) (EK Fr.lt (Vb.ofAgg (cs:=[(.slice r0 x0.vars.length s0),(.slice t0 x0.init.length u0),(.slice v0 x0.goal.length w0),(.slice y0 x0.jobs.length z0)]) (x:=x0) rfl ⟨_,_,_,_,rfl,h9,b0,c0,d0⟩) (Vb.ofAgg (cs:=[(.int .i64 x1.job),(.bool x1.fin)]) (x:=x1) rfl ⟨rfl,o1⟩) a3) rfl fun g4 h4 b3 l0 i1=>?_
   obtain ⟨i4,j4,rfl⟩:=i1.form
   have hZ:=l0.lst [] (fun _ h=>h.elim)
   refine AF [] hZ ?_
   refine Ax (i:=13) rfl ?_
   refine An rfl rfl ?_
   obtain ⟨c3,d3,a0⟩:=bs a0
   replace h9:=h9.st l0
   replace b0:=b0.st l0
   replace c0:=c0.st l0
   replace d0:=d0.st l0
   refine BU (O:=b3) (R:=fun w' F v=>Vb w' F v c3) (Hb Fr.lt (Vb.ofAgg (cs:=[(.slice r0 x0.vars.length s0),(.slice t0 x0.init.length u0),(.slice v0 x0.goal.length w0),(.slice y0 x0.jobs.length z0)]) (x:=x0) rfl ⟨_,_,_,_,rfl,h9,b0,c0,d0⟩) (Vb.ofAgg (cs:=[(.int .i64 x2.job),(.bool x2.fin)]) (x:=x2) rfl ⟨rfl,p1⟩) d3) rfl fun k4 t1 u1 i0 e2=>?_
   obtain ⟨l4,m4,rfl⟩:=e2.form
   have hZ:=i0.lst [] (fun _ h=>h.elim)
   refine AF [] hZ ?_
   refine Ax (i:=14) rfl ?_
   refine An rfl rfl ?_
   obtain ⟨f2,e3,a0⟩:=bs a0
   replace i1:=i1.st i0
   refine AG (O:=u1) (A:=All t1) (R:=fun w' F v=>Vb w' F v f2) (Hu (fun _ h=>h) (Vb.mono (F:=Fr 0 t1 u1) i1 Fr.lt) (Vb.mono (F:=Fr 0 t1 u1) e2 Fr.lt) e3) rfl fun n4 o4 f3 m0 g3=>?_
   obtain rfl:=g3.bool
   have hZ:=m0.lst [] (fun _ h=>h.elim)
   cases f2
   case false =>
    replace a0:=iF a0
    refine AF [] hZ ?_
    refine AM (fuel:=5) [] [(15,true),(16,true),(17,true),(18,true),(20,true),(21,true)] rfl ?_
    refine FQ rfl rfl rfl (Bp rfl rfl (AA rfl (Aw rfl rfl ?_)))
    replace e0:=((e0.st l0).st i0).st m0
    refine IV (hl:=rfl) (hb:=fun w' ⟨O',hq⟩=>((e0.st hq (by decide)).1).cellsAt) rfl ?_
    refine AA rfl (Aw rfl rfl ?_)
    replace j0:=((j0.st l0).st i0).st m0
    refine IV (hl:=rfl) (hb:=fun w' ⟨O',hq⟩=>((j0.st hq (by decide)).1).cellsAt) rfl ?_
    refine AA rfl (Aw rfl rfl (IV (hl:=rfl) (hb:=fun w' ⟨O',hq⟩=>((e0.st hq (by decide)).1).cellsAt) rfl ?_))
    refine AA rfl (Aw rfl rfl ?_)
    replace p0:=((p0.st l0).st i0).st m0
    refine IV (hl:=rfl) (hb:=fun w' ⟨O',hq⟩=>((p0.st hq (by decide)).1).cellsAt) rfl ?_
    refine Ay ?_
    refine Ax (i:=19) rfl ?_
    refine An rfl rfl ?_
    obtain ⟨h3,i3,a0⟩:=bs a0
    replace h9:=(h9.st i0).st m0
    replace b0:=(b0.st i0).st m0
    replace c0:=(c0.st i0).st m0
    replace d0:=(d0.st i0).st m0
    refine BU (O:=f3) (R:=fun w' F v=>Vb w' F v h3) (Hb Fr.lt (Vb.ofAgg (cs:=[(.slice r0 x0.vars.length s0),(.slice t0 x0.init.length u0),(.slice v0 x0.goal.length w0),(.slice y0 x0.jobs.length z0)]) (x:=x0) rfl ⟨_,_,_,_,rfl,h9,b0,c0,d0⟩) (Vb.ofAgg (cs:=[(.int .i64 x1.job),(.bool x1.fin)]) (x:=x1) rfl ⟨rfl,o1⟩) i3) rfl fun j3 p4 k3 a1 j1=>?_
    obtain ⟨l3,m3,rfl⟩:=j1.form
    have hZ:=a1.lst [] (fun _ h=>h.elim)
    refine AF [] hZ ?_
    refine Ax (i:=22) rfl ?_
    refine An rfl rfl ?_
    obtain ⟨v1,w1,a0⟩:=bs a0
    replace h9:=h9.st a1
    replace b0:=b0.st a1
    replace c0:=c0.st a1
    replace d0:=d0.st a1
    refine BU (O:=k3) (R:=fun w' F v=>Vb w' F v v1) (EK Fr.lt (Vb.ofAgg (cs:=[(.slice r0 x0.vars.length s0),(.slice t0 x0.init.length u0),(.slice v0 x0.goal.length w0),(.slice y0 x0.jobs.length z0)]) (x:=x0) rfl ⟨_,_,_,_,rfl,h9,b0,c0,d0⟩) (Vb.ofAgg (cs:=[(.int .i64 x2.job),(.bool x2.fin)]) (x:=x2) rfl ⟨rfl,p1⟩) w1) rfl fun n3 b1 c1 q0 e1=>?_
    obtain ⟨o3,p3,rfl⟩:=e1.form
    have hZ:=q0.lst [] (fun _ h=>h.elim)
    refine AF [] hZ ?_
    refine Ax (i:=23) rfl ?_
    refine An rfl rfl ?_
    obtain ⟨f1,y1,a0⟩:=bs a0
    replace j1:=j1.st q0
    refine AG (O:=c1) (A:=All b1) (R:=fun w' F v=>Vb w' F v f1) (Hu (fun _ h=>h) (Vb.mono (F:=Fr 0 b1 c1) j1 Fr.lt) (Vb.mono (F:=Fr 0 b1 c1) e1 Fr.lt) y1) rfl fun q3 r3 s3 d1 z1=>?_
    obtain rfl:=z1.bool
    have hZ:=d1.lst [] (fun _ h=>h.elim)
    cases f1
    case false =>
     replace a0:=iF a0
     refine AF [] hZ ?_
     refine AM (fuel:=0) [] [(24,true),(25,true)] rfl ?_
     refine FQ rfl rfl rfl (JT rfl rfl (Ay ?_))
     refine BG ?_
     obtain rfl:=sm a0
     exact ⟨(),_,⟨rfl,trivial⟩,(((((((((((hB.st o0).st n0).st k0).st g0).st f0).st h0).st l0).st i0).st m0).st a1).st q0).st d1⟩
    replace a0:=iT a0
    refine AF [] hZ ?_
    refine AM (fuel:=0) [] [(24,true),(25,true)] rfl ?_
    refine FQ rfl rfl rfl (JT rfl rfl (Ay ?_))
    refine BG ?_
    obtain rfl:=sm a0
    exact ⟨(),_,⟨rfl,trivial⟩,(((((((((((hB.st o0).st n0).st k0).st g0).st f0).st h0).st l0).st i0).st m0).st a1).st q0).st d1⟩
   replace a0:=iT a0
   refine AF [] hZ ?_
   refine AM (fuel:=5) [] [(15,true),(16,true),(17,true),(18,true),(20,true),(21,true)] rfl ?_
   refine FQ rfl rfl rfl (Bp rfl rfl (Bq rfl rfl rfl (Bq rfl rfl rfl (Bq rfl rfl rfl (Bq rfl rfl rfl (Ay ?_))))))
   refine Ax (i:=19) rfl ?_
   refine Am rfl rfl (AF [] ((St.refl nT _ _).lst [] (fun _ h=>h.elim)) ?_)
   refine Ax (i:=22) rfl ?_
   refine Am rfl rfl (AF [] ((St.refl nT _ _).lst [] (fun _ h=>h.elim)) ?_)
   refine Ax (i:=23) rfl ?_
   refine Am rfl rfl (AF [] ((St.refl nT _ _).lst [] (fun _ h=>h.elim)) ?_)
   refine AM (fuel:=0) [] [(24,true),(25,true)] rfl ?_
   refine Fm rfl rfl rfl (JT rfl rfl (Ay ?_))
   refine BG ?_
   obtain rfl:=sm a0
   exact ⟨(),_,⟨rfl,trivial⟩,((((((((hB.st o0).st n0).st k0).st g0).st f0).st h0).st l0).st i0).st m0⟩
  replace a0:=iT a0
  refine AF [] hZ ?_
  refine AM (fuel:=14) [] [(7,true),(8,true),(9,true),(11,true),(12,true)] rfl ?_
  refine Bp rfl rfl (Bq rfl rfl rfl (Bq rfl rfl rfl (Bq rfl rfl rfl (Bq rfl rfl rfl (Ay ?_)))))
  refine Ax (i:=10) rfl ?_
  refine Am rfl rfl (AF [] ((St.refl nT _ _).lst [] (fun _ h=>h.elim)) ?_)
  refine Ax (i:=13) rfl ?_
  refine Am rfl rfl (AF [] ((St.refl nT _ _).lst [] (fun _ h=>h.elim)) ?_)
  refine Ax (i:=14) rfl ?_
  refine Am rfl rfl (AF [] ((St.refl nT _ _).lst [] (fun _ h=>h.elim)) ?_)
  refine AM (fuel:=5) [] [(15,true),(16,true),(17,true),(18,true),(20,true),(21,true)] rfl ?_
  refine Fm rfl rfl rfl (Bp rfl rfl (Bq rfl rfl rfl (Bq rfl rfl rfl (Bq rfl rfl rfl (Bq rfl rfl rfl (Ay ?_))))))
  refine Ax (i:=19) rfl ?_
  refine Am rfl rfl (AF [] ((St.refl nT _ _).lst [] (fun _ h=>h.elim)) ?_)
  refine Ax (i:=22) rfl ?_
  refine Am rfl rfl (AF [] ((St.refl nT _ _).lst [] (fun _ h=>h.elim)) ?_)
  refine Ax (i:=23) rfl ?_
  refine Am rfl rfl (AF [] ((St.refl nT _ _).lst [] (fun _ h=>h.elim)) ?_)
  refine AM (fuel:=0) [] [(24,true),(25,true)] rfl ?_
  refine Fm rfl rfl rfl (JT rfl rfl (Ay ?_))
  refine BG ?_
  obtain rfl:=sm a0
  exact ⟨(),_,⟨rfl,trivial⟩,(((((hB.st o0).st n0).st k0).st g0).st f0).st h0⟩
 replace hB:=((hB.st o0).st n0).st k0
 rintro t3 u3 ⟨p2,v3,g1,hB⟩
 refine AE _ g1 ?_
 refine AC ?_
 obtain rfl:=sm hm
 exact ret1v rfl (At rfl) ⟨hB.ext,vBool⟩
noncomputable def DB (x0:Tpl) (x1:List Int) (x2:List Hap):Option (List Int) :=
  bnd (Bw x1) fun q30=>bnd (rng (ρ:=(List Int)) (fun (k52:Nat) (a53:Bool) (s50:(List Int))=>bnd (rng (ρ:=Ctl (List Int) (List Int)) (fun (k80:Nat) (a81:Job) (s78:(List Int)×Bool)=>bnd (rng (ρ:=Ctl ((List Int)×Bool) (Ctl (List Int) (List Int))) (fun (k101:Nat) (a102:Hap) (s99:(List Int)×Bool)=>bnd (if a102.job≠(k80:Int) then (some (s99.2,true,a102.fin)) else (if a102.fin=true then (if s99.2=true then (some (true,false,true)) else (some (false,true,true))) else (if s99.2=true then (some (true,true,false)) else (some (false,false,false)))):Option (Bool×Bool×Bool)) fun y131=>if y131.2.1=true then (some (.next (s99.1,y131.1))) else (bnd (BZ x0 (⟨a102.job,y131.2.2⟩:Hap)) fun q144=>bnd (rng (ρ:=Ctl ((List Int)×Bool) (Ctl ((List Int)×Bool) (Ctl (List Int) (List Int)))) (fun (k159:Nat) (a160:Fct) (s157:(List Int))=>bnd (atI s157 a160.var) fun a190=>some (.next (s157.set (a160.var:Int).toNat a160.val))) q144 0 s99.1) fun res155=>fin res155 fun (s208:(List Int))=>some (.next (s208,y131.1)))) x2 0 (s78.1,s78.2)) fun res97=>fin res97 fun (s214:(List Int)×Bool)=>some (.next (s214.1,s214.2))) x0.jobs 0 (s50,a53)) fun res76=>fin res76 fun (s220:(List Int)×Bool)=>some (.next s220.1)) [true,false] 0 q30) fun res48=>fin res48 fun (s226:(List Int))=>some s226
theorem Me {w:World} {A:Nat→Prop} (hA:∀ k,A k→k < w.heap.size) {vx0:Value} {x0:Tpl} (s3:Vb w A vx0 x0) {vx1:Value} {x1:List Int} (r2:Vb w A vx1 x1) {vx2:Value} {x2:List Hap} (e0:Vb w A vx2 x2) {r:(List Int)} (hm:DB x0 x1 x2=some r) :
    Fn Tryz.prog 121 [vx0,vx1,vx2] w fun v w'=>Ext w w'∧Vb w' (upA A w w') v r:=by
 obtain ⟨O,hB,t3⟩:=enter hA
 replace s3:=s3.mono t3
 obtain ⟨g7,rfl,v5,v6,v7,v8,rfl,h9,i0,j0,f0⟩:=s3
 obtain ⟨w0,y0,rfl⟩:=h9.form
 obtain ⟨z0,a1,rfl⟩:=i0.form
 obtain ⟨b1,c1,rfl⟩:=j0.form
 obtain ⟨d1,e1,rfl⟩:=f0.form
 replace r2:=r2.mono t3
 obtain ⟨h7,i7,rfl⟩:=r2.form
 replace e0:=e0.mono t3
 obtain ⟨s0,t0,rfl⟩:=e0.form
 refine AH Tryz.func121 rfl Tryz.ntmps121 ?_
 unfold DB at hm
 refine Ab (Aa (BQ 2 O rfl fun i1 j5 c5 d2 g0=>?_))
 replace g0:Lc 2 j5 c5 i1 26 [(.slice w0 x0.vars.length y0),(.slice z0 x0.init.length a1),(.slice b1 x0.goal.length c1),(.slice d1 x0.jobs.length e1)]:=g0
 refine Al rfl (o_z ?_)
 refine Ab (Aa (Ak rfl ?_))
 obtain ⟨f1,k5,hm⟩:=bs hm
 replace r2:=r2.st d2
 refine Dh 3 (O:=c5) (Dq Fr.lt r2 k5) rfl fun g1 h1 j7 l5 e2 u3=>?_
 refine Al rfl (o_z ?_)
 refine Ab (Ab (Aa (AN 4 (by decide) l5 (xs:=([true,false]:List Bool)) rfl rfl rfl ⟨vBool,vBool,trivial⟩ (by decide) (by decide) rfl fun k1 k7 m5 z1 k0=>?_)))
 refine AR rfl ?_
 have v3:[true,false].length≤9223372036854775807:=Nat.le_trans k0.len.2.1 k0.len.2.2
 have l7:inI64 ([true,false].length:Int):=rngNat v3
 refine Ak rfl (o_z ?_)
 obtain ⟨t2,w3,hm⟩:=bs hm
 refine Au (aft t2 (fun (s2:(List Int)) (m3:Unit)=>[(7,(.slice g1 f1.length h1))]) (fun s2 m3 w'=>∃ O':Lab,Bs w A w' O'∧Rw 3 w' O' 3 (.slice g1 f1.length h1) s2)) ?_ ?_
 ·
  refine AJ ?_
  replace hB:=((hB.st d2).st e2).st z1
  replace e0:=((e0.st d2).st e2).st z1
  replace h9:=((h9.st d2).st e2).st z1
  replace i0:=((i0.st d2).st e2).st z1
  replace j0:=((j0.st d2).st e2).st z1
  replace f0:=((f0.st d2).st e2).st z1
  replace g0:=(g0.st e2).st z1
  replace u3:=u3.st z1
  refine Bh (σ:=(List Int)) (X:=Unit) ([true,false].length) w3 rfl v3 (fun (s2:(List Int)) (m3:Unit)=>[(2,(.slice s0 x2.length t0)),(3,(.pointer (some ⟨i1,0,none⟩))),(7,(.slice g1 f1.length h1)),(17,(.slice (some ⟨k1,0,none⟩) [true,false].length 2))]) _ (fun s2 m3 w'=>∃ O':Lab,Bs w A w' O'∧Vb w' (Fr 0 w' O') (.slice s0 x2.length t0) x2∧Lc 2 w' O' i1 26 [(.slice w0 x0.vars.length y0),(.slice z0 x0.init.length a1),(.slice b1 x0.goal.length c1),(.slice d1 x0.jobs.length e1)]∧Vb w' (Fr 0 w' O') (.slice w0 x0.vars.length y0) x0.vars∧Vb w' (Fr 0 w' O') (.slice z0 x0.init.length a1) x0.init∧Vb w' (Fr 0 w' O') (.slice b1 x0.goal.length c1) x0.goal∧Vb w' (Fr 0 w' O') (.slice d1 x0.jobs.length e1) x0.jobs∧Rw 3 w' O' 3 (.slice g1 f1.length h1) s2∧Rw 4 w' O' 4 (.slice (some ⟨k1,0,none⟩) [true,false].length 2) [true,false]) _ () ⟨m5,hB,e0,g0,h9,i0,j0,f0,u3,k0⟩ ⟨rfl,rfl,rfl,rfl,rfl,rfl,trivial⟩ (fun _ _=>⟨rfl,rfl⟩) (fun _ _=>⟨rfl,trivial⟩) (fun _ _ _ ⟨O',hB,e0,g0,h9,i0,j0,f0,j2,k0⟩=>⟨O',hB,j2⟩) ⟨rfl,rfl,rfl⟩ ⟨rfl,rfl⟩ ?_
  rintro f2 m7 s2 m3 n7 n5 u2 ⟨o5,hB,e0,g0,h9,i0,j0,f0,j2,k0⟩ r1 x3 y3
  have rk52:inI64 (f2:Int):=rngK u2 v3
  refine Ab (Aa ?_)
  obtain ⟨o7,p7,p5,z3,a4,b4,rfl⟩:=k0.elem u2
  refine Bv (hA:=z3) (hj:=rfl) (hlt:=a4) rfl rfl ?_
  refine Az (hc:=cat0 b4) rfl ?_
  refine Al rfl (o_z ?_)
  refine Ab (Aa (AB rfl (Az (hc:=Blk.cell (i:=3) (g0.1) rfl) rfl ?_)))
  refine AR rfl ?_
  have c4:x0.jobs.length≤9223372036854775807:=Nat.le_trans f0.len.2.1 f0.len.2.2
  have q7:inI64 (x0.jobs.length:Int):=rngNat c4
  refine Ak rfl (o_z ?_)
  obtain ⟨v2,d4,r1⟩:=bs r1
  refine Au (aft v2 (fun (k2:(List Int)×Bool) (n3:Unit)=>[(2,(.slice s0 x2.length t0)),(3,(.pointer (some ⟨i1,0,none⟩))),(7,(.slice g1 f1.length h1)),(17,(.slice (some ⟨k1,0,none⟩) [true,false].length 2)),(18,(.int .i64 ([true,false].length:Int))),(19,(.int .i64 (f2:Int)))]) (fun k2 n3 w'=>∃ O':Lab,Bs w A w' O'∧Vb w' (Fr 0 w' O') (.slice s0 x2.length t0) x2∧Lc 2 w' O' i1 26 [(.slice w0 x0.vars.length y0),(.slice z0 x0.init.length a1),(.slice b1 x0.goal.length c1),(.slice d1 x0.jobs.length e1)]∧Vb w' (Fr 0 w' O') (.slice w0 x0.vars.length y0) x0.vars∧Vb w' (Fr 0 w' O') (.slice z0 x0.init.length a1) x0.init∧Vb w' (Fr 0 w' O') (.slice b1 x0.goal.length c1) x0.goal∧Vb w' (Fr 0 w' O') (.slice d1 x0.jobs.length e1) x0.jobs∧Rw 3 w' O' 3 (.slice g1 f1.length h1) k2.1∧Rw 4 w' O' 4 (.slice (some ⟨k1,0,none⟩) [true,false].length 2) [true,false])) ?_ ?_
  ·
   refine AJ (Bh (σ:=(List Int)×Bool) (X:=Unit) (x0.jobs.length) d4 rfl c4 (fun (k2:(List Int)×Bool) (n3:Unit)=>[(2,(.slice s0 x2.length t0)),(3,(.pointer (some ⟨i1,0,none⟩))),(7,(.slice g1 f1.length h1)),(9,(.bool k2.2)),(17,(.slice (some ⟨k1,0,none⟩) [true,false].length 2)),(18,(.int .i64 ([true,false].length:Int))),(19,(.int .i64 (f2:Int)))]) _ (fun k2 n3 w'=>∃ O':Lab,Bs w A w' O'∧Vb w' (Fr 0 w' O') (.slice s0 x2.length t0) x2∧Lc 2 w' O' i1 26 [(.slice w0 x0.vars.length y0),(.slice z0 x0.init.length a1),(.slice b1 x0.goal.length c1),(.slice d1 x0.jobs.length e1)]∧Vb w' (Fr 0 w' O') (.slice w0 x0.vars.length y0) x0.vars∧Vb w' (Fr 0 w' O') (.slice z0 x0.init.length a1) x0.init∧Vb w' (Fr 0 w' O') (.slice b1 x0.goal.length c1) x0.goal∧Vb w' (Fr 0 w' O') (.slice d1 x0.jobs.length e1) x0.jobs∧Rw 3 w' O' 3 (.slice g1 f1.length h1) k2.1∧Rw 4 w' O' 4 (.slice (some ⟨k1,0,none⟩) [true,false].length 2) [true,false]) _ () ⟨o5,hB,e0,g0,h9,i0,j0,f0,j2,k0⟩ ⟨rfl,rfl,rfl,rfl,rfl,rfl,rfl,rfl,rfl,trivial⟩ (fun _ _=>⟨rfl,rfl⟩) (fun _ _=>⟨rfl,rfl,rfl,rfl,rfl,rfl,trivial⟩) (fun _ _ _ ⟨O',hB,e0,g0,h9,i0,j0,f0,w2,k0⟩=>⟨O',hB,e0,g0,h9,i0,j0,f0,w2,k0⟩) ⟨rfl,rfl,rfl⟩ ⟨rfl,rfl⟩ ?_)
   rintro y1 r7 k2 n3 s7 q5 e4 ⟨r5,hB,e0,g0,h9,i0,j0,f0,w2,k0⟩ s1 f4 g4
   have rk80:inI64 (y1:Int):=rngK e4 c4
   refine Ab (Aa (Ak rfl (Al rfl (o_z ?_))))
   refine Ab (Aa (Ak rfl (AR rfl ?_)))
   have h4:x2.length≤9223372036854775807:=Nat.le_trans e0.len.2.1 e0.len.2.2
   have t7:inI64 (x2.length:Int):=rngNat h4
   refine Ak rfl (o_z ?_)
   obtain ⟨y2,i4,s1⟩:=bs s1
   refine Au (aft y2 (fun (t1:(List Int)×Bool) (a2:Unit)=>[(2,(.slice s0 x2.length t0)),(3,(.pointer (some ⟨i1,0,none⟩))),(7,(.slice g1 f1.length h1)),(9,(.bool t1.2)),(17,(.slice (some ⟨k1,0,none⟩) [true,false].length 2)),(18,(.int .i64 ([true,false].length:Int))),(19,(.int .i64 (f2:Int))),(25,(.int .i64 (x0.jobs.length:Int))),(26,(.int .i64 (y1:Int)))]) (fun t1 a2 w'=>∃ O':Lab,Bs w A w' O'∧Vb w' (Fr 0 w' O') (.slice s0 x2.length t0) x2∧Lc 2 w' O' i1 26 [(.slice w0 x0.vars.length y0),(.slice z0 x0.init.length a1),(.slice b1 x0.goal.length c1),(.slice d1 x0.jobs.length e1)]∧Vb w' (Fr 0 w' O') (.slice w0 x0.vars.length y0) x0.vars∧Vb w' (Fr 0 w' O') (.slice z0 x0.init.length a1) x0.init∧Vb w' (Fr 0 w' O') (.slice b1 x0.goal.length c1) x0.goal∧Vb w' (Fr 0 w' O') (.slice d1 x0.jobs.length e1) x0.jobs∧Rw 3 w' O' 3 (.slice g1 f1.length h1) t1.1∧Rw 4 w' O' 4 (.slice (some ⟨k1,0,none⟩) [true,false].length 2) [true,false])) ?_ ?_
   ·
    refine AJ (Bh (σ:=(List Int)×Bool) (X:=Unit) (x2.length) i4 rfl h4 (fun (t1:(List Int)×Bool) (a2:Unit)=>[(2,(.slice s0 x2.length t0)),(3,(.pointer (some ⟨i1,0,none⟩))),(7,(.slice g1 f1.length h1)),(9,(.bool t1.2)),(10,(.int .i64 (y1:Int))),(17,(.slice (some ⟨k1,0,none⟩) [true,false].length 2)),(18,(.int .i64 ([true,false].length:Int))),(19,(.int .i64 (f2:Int))),(25,(.int .i64 (x0.jobs.length:Int))),(26,(.int .i64 (y1:Int))),(29,(.slice s0 x2.length t0))]) _ (fun t1 a2 w'=>∃ O':Lab,Bs w A w' O'∧Vb w' (Fr 0 w' O') (.slice s0 x2.length t0) x2∧Lc 2 w' O' i1 26 [(.slice w0 x0.vars.length y0),(.slice z0 x0.init.length a1),(.slice b1 x0.goal.length c1),(.slice d1 x0.jobs.length e1)]∧Vb w' (Fr 0 w' O') (.slice w0 x0.vars.length y0) x0.vars∧Vb w' (Fr 0 w' O') (.slice z0 x0.init.length a1) x0.init∧Vb w' (Fr 0 w' O') (.slice b1 x0.goal.length c1) x0.goal∧Vb w' (Fr 0 w' O') (.slice d1 x0.jobs.length e1) x0.jobs∧Rw 3 w' O' 3 (.slice g1 f1.length h1) t1.1∧Rw 4 w' O' 4 (.slice (some ⟨k1,0,none⟩) [true,false].length 2) [true,false]) _ () ⟨r5,hB,e0,g0,h9,i0,j0,f0,w2,k0⟩ ⟨rfl,rfl,rfl,rfl,rfl,rfl,rfl,rfl,rfl,rfl,rfl,rfl,rfl,trivial⟩ (fun _ _=>⟨rfl,rfl⟩) (fun _ _=>⟨rfl,rfl,rfl,rfl,rfl,rfl,rfl,rfl,rfl,trivial⟩) (fun _ _ _ ⟨O',hB,e0,g0,h9,i0,j0,f0,m0,k0⟩=>⟨O',hB,e0,g0,h9,i0,j0,f0,m0,k0⟩) ⟨rfl,rfl,rfl⟩ ⟨rfl,rfl⟩ ?_)
    rintro b2 o1 t1 a2 s5 d5 g2 ⟨j4,hB,e0,g0,h9,i0,j0,f0,m0,k0⟩ d0 o3 p3
    have rk101:inI64 (b2:Int):=rngK g2 h4
    refine Ab (Aa ?_)
    obtain ⟨t5,u5,e5,z2,a3,b3,rfl,k4⟩:=e0.elem' g2
    refine Bv (hA:=z2) (hj:=rfl) (hlt:=a3) rfl rfl ?_
    refine Bg (hl:=rfl) (hc:=b3) rfl ?_
    refine AT 5 j4 fun l2 w5 l4 a0 n0=>?_
    refine AD n0 rfl rfl rfl (AL) (allOne) fun m4 b0 n0=>?_
    replace n0:Lc 5 m4 l4 l2 182 [(.int .i64 o1.job),(.bool o1.fin)]:=n0
    refine o_z ?_
    refine Ab (Ab ?_)
    obtain ⟨l1,c0,d0⟩:=bs d0
    refine Au (fun l' w'=>∃ (n4:Unit) (O':Lab),subs l' [(2,(.slice s0 x2.length t0)),(3,(.pointer (some ⟨i1,0,none⟩))),(7,(.slice g1 f1.length h1)),(9,(.bool l1.1)),(10,(.int .i64 (y1:Int))),(12,(.pointer (some ⟨l2,0,none⟩))),(17,(.slice (some ⟨k1,0,none⟩) [true,false].length 2)),(18,(.int .i64 ([true,false].length:Int))),(19,(.int .i64 (f2:Int))),(25,(.int .i64 (x0.jobs.length:Int))),(26,(.int .i64 (y1:Int))),(29,(.slice s0 x2.length t0)),(30,(.int .i64 (x2.length:Int))),(31,(.int .i64 (b2:Int))),(44,(.bool l1.2.1))]∧Bs w A w' O'∧Vb w' (Fr 0 w' O') (.slice s0 x2.length t0) x2∧Lc 2 w' O' i1 26 [(.slice w0 x0.vars.length y0),(.slice z0 x0.init.length a1),(.slice b1 x0.goal.length c1),(.slice d1 x0.jobs.length e1)]∧Vb w' (Fr 0 w' O') (.slice w0 x0.vars.length y0) x0.vars∧Vb w' (Fr 0 w' O') (.slice z0 x0.init.length a1) x0.init∧Vb w' (Fr 0 w' O') (.slice b1 x0.goal.length c1) x0.goal∧Vb w' (Fr 0 w' O') (.slice d1 x0.jobs.length e1) x0.jobs∧Rw 3 w' O' 3 (.slice g1 f1.length h1) t1.1∧Lc 5 w' O' l2 182 [(.int .i64 o1.job),(.bool l1.2.2)]∧Rw 4 w' O' 4 (.slice (some ⟨k1,0,none⟩) [true,false].length 2) [true,false]) ?_ ?_
    ·
     refine Aa (AB rfl (Az (hc:=Blk.cell (i:=0) (n0.1) rfl) rfl ?_))
     refine Ak rfl (Oo rfl rfl rfl (fun m2=>?_) fun m2=>?_)
     ·
      replace c0:=ip c0 m2
      refine Ak rfl (Am rfl rfl (Am rfl rfl (Am rfl rfl (Am rfl rfl (BD rfl rfl (o_z ?_))))))
      obtain rfl:=sm c0
      exact ⟨(),_,⟨rfl,rfl,rfl,rfl,rfl,rfl,rfl,rfl,rfl,rfl,rfl,rfl,rfl,rfl,rfl,trivial⟩,(hB.st a0).st b0,(e0.st a0).st b0,(g0.st a0).st b0,(h9.st a0).st b0,(i0.st a0).st b0,(j0.st a0).st b0,(f0.st a0).st b0,(m0.st a0).st b0,n0,(k0.st a0).st b0⟩
     replace c0:=im c0 m2
     refine Ak rfl (An rfl rfl (AB rfl (An rfl rfl (Az (hc:=Blk.cell (i:=1) (n0.1) rfl) rfl ?_))))
     refine An rfl rfl (Ak rfl (An rfl rfl ?_))
     rcases Bool.eq_false_or_eq_true o1.fin with m1|m1
     ·
      try rw [m1]
      rw [m1] at n0
      replace c0:=ip c0 m1
      rcases Bool.eq_false_or_eq_true t1.2 with u1|u1
      ·
       try simp only [u1]
       replace c0:=ip c0 u1
       refine QC rfl rfl rfl (By rfl rfl (o_z ?_))
       obtain rfl:=sm c0
       exact ⟨(),_,⟨rfl,rfl,rfl,rfl,rfl,rfl,rfl,rfl,rfl,rfl,rfl,rfl,rfl,rfl,rfl,trivial⟩,(hB.st a0).st b0,(e0.st a0).st b0,(g0.st a0).st b0,(h9.st a0).st b0,(i0.st a0).st b0,(j0.st a0).st b0,(f0.st a0).st b0,(m0.st a0).st b0,n0,(k0.st a0).st b0⟩
      try simp only [u1]
      replace c0:=im' c0 u1
      refine QC rfl rfl rfl (By rfl rfl (o_z ?_))
      obtain rfl:=sm c0
      exact ⟨(),_,⟨rfl,rfl,rfl,rfl,rfl,rfl,rfl,rfl,rfl,rfl,rfl,rfl,rfl,rfl,rfl,trivial⟩,(hB.st a0).st b0,(e0.st a0).st b0,(g0.st a0).st b0,(h9.st a0).st b0,(i0.st a0).st b0,(j0.st a0).st b0,(f0.st a0).st b0,(m0.st a0).st b0,n0,(k0.st a0).st b0⟩
     try rw [m1]
     rw [m1] at n0
     replace c0:=im' c0 m1
     rcases Bool.eq_false_or_eq_true t1.2 with v1|v1
     ·
      try simp only [v1]
      replace c0:=ip c0 v1
      refine QC rfl rfl rfl (By rfl rfl (o_z ?_))
      obtain rfl:=sm c0
      exact ⟨(),_,⟨rfl,rfl,rfl,rfl,rfl,rfl,rfl,rfl,rfl,rfl,rfl,rfl,rfl,rfl,rfl,trivial⟩,(hB.st a0).st b0,(e0.st a0).st b0,(g0.st a0).st b0,(h9.st a0).st b0,(i0.st a0).st b0,(j0.st a0).st b0,(f0.st a0).st b0,(m0.st a0).st b0,n0,(k0.st a0).st b0⟩
     try simp only [v1]
     replace c0:=im' c0 v1
     refine QC rfl rfl rfl (By rfl rfl (o_z ?_))
     obtain rfl:=sm c0
     exact ⟨(),_,⟨rfl,rfl,rfl,rfl,rfl,rfl,rfl,rfl,rfl,rfl,rfl,rfl,rfl,rfl,rfl,trivial⟩,(hB.st a0).st b0,(e0.st a0).st b0,(g0.st a0).st b0,(h9.st a0).st b0,(i0.st a0).st b0,(j0.st a0).st b0,(f0.st a0).st b0,(m0.st a0).st b0,n0,(k0.st a0).st b0⟩
    replace hB:=(hB.st a0).st b0
    replace e0:=(e0.st a0).st b0
    replace h9:=(h9.st a0).st b0
    replace i0:=(i0.st a0).st b0
    replace j0:=(j0.st a0).st b0
    replace f0:=(f0.st a0).st b0
    replace g0:=(g0.st a0).st b0
    replace k0:=(k0.st a0).st b0
    replace m0:=(m0.st a0).st b0
    rintro x5 y5 ⟨n4,o4,c3,hB,e0,g0,h9,i0,j0,f0,m0,n0,k0⟩
    refine AE _ c3 ?_
    refine Cw rfl (fun n2=>?_) (fun n2=>?_)
    ·
     replace d0:=ip d0 n2
     refine Gm ?_
     obtain rfl:=sm d0
     exact show Exists _ from ⟨_,(),rfl,⟨rfl,rfl,rfl,rfl,rfl,rfl,rfl,rfl,rfl,rfl,rfl,rfl,rfl,trivial⟩,_,hB,e0,g0,h9,i0,j0,f0,m0,k0⟩
    replace d0:=im' d0 n2
    refine AK (Ab (Aa (Bg (hl:=rfl) (hc:=(g0.1).cellsAt) rfl ?_)))
    refine Bg (hl:=rfl) (hc:=(n0.1).cellsAt) rfl ?_
    obtain ⟨n1,p4,d0⟩:=bs d0
    refine BU (O:=o4) (R:=fun w' F v=>Vb w' F v n1) (EK Fr.lt (Vb.ofAgg (cs:=[(.slice w0 x0.vars.length y0),(.slice z0 x0.init.length a1),(.slice b1 x0.goal.length c1),(.slice d1 x0.jobs.length e1)]) (x:=x0) rfl ⟨_,_,_,_,rfl,h9,i0,j0,f0⟩) (Vb.ofAgg (cs:=[(.int .i64 o1.job),(.bool l1.2.2)]) (x:=(⟨o1.job,l1.2.2⟩:Hap)) rfl ⟨rfl,k4⟩) p4) rfl fun z5 a6 q4 l0 j1=>?_
    obtain ⟨d3,e3,rfl⟩:=j1.form
    refine AR rfl ?_
    have o2:n1.length≤9223372036854775807:=Nat.le_trans j1.len.2.1 j1.len.2.2
    have b6:inI64 (n1.length:Int):=rngNat o2
    refine Ak rfl (o_z ?_)
    obtain ⟨p2,f3,d0⟩:=bs d0
    refine Au (aft p2 (fun (p1:(List Int)) (c2:Unit)=>[(2,(.slice s0 x2.length t0)),(3,(.pointer (some ⟨i1,0,none⟩))),(7,(.slice g1 f1.length h1)),(9,(.bool l1.1)),(10,(.int .i64 (y1:Int))),(17,(.slice (some ⟨k1,0,none⟩) [true,false].length 2)),(18,(.int .i64 ([true,false].length:Int))),(19,(.int .i64 (f2:Int))),(25,(.int .i64 (x0.jobs.length:Int))),(26,(.int .i64 (y1:Int))),(29,(.slice s0 x2.length t0)),(30,(.int .i64 (x2.length:Int))),(31,(.int .i64 (b2:Int)))]) (fun p1 c2 w'=>∃ O':Lab,Bs w A w' O'∧Vb w' (Fr 0 w' O') (.slice s0 x2.length t0) x2∧Lc 2 w' O' i1 26 [(.slice w0 x0.vars.length y0),(.slice z0 x0.init.length a1),(.slice b1 x0.goal.length c1),(.slice d1 x0.jobs.length e1)]∧Vb w' (Fr 0 w' O') (.slice w0 x0.vars.length y0) x0.vars∧Vb w' (Fr 0 w' O') (.slice z0 x0.init.length a1) x0.init∧Vb w' (Fr 0 w' O') (.slice b1 x0.goal.length c1) x0.goal∧Vb w' (Fr 0 w' O') (.slice d1 x0.jobs.length e1) x0.jobs∧Rw 3 w' O' 3 (.slice g1 f1.length h1) p1∧Rw 4 w' O' 4 (.slice (some ⟨k1,0,none⟩) [true,false].length 2) [true,false])) ?_ ?_
    ·
     refine AJ ?_
     replace hB:=hB.st l0
     replace e0:=e0.st l0
     replace h9:=h9.st l0
     replace i0:=i0.st l0
     replace j0:=j0.st l0
     replace f0:=f0.st l0
     replace g0:=g0.st l0
     replace k0:=k0.st l0
     replace m0:=m0.st l0
     refine Bh (σ:=(List Int)) (X:=Unit) (n1.length) f3 rfl o2 (fun (p1:(List Int)) (c2:Unit)=>[(2,(.slice s0 x2.length t0)),(3,(.pointer (some ⟨i1,0,none⟩))),(7,(.slice g1 f1.length h1)),(9,(.bool l1.1)),(10,(.int .i64 (y1:Int))),(17,(.slice (some ⟨k1,0,none⟩) [true,false].length 2)),(18,(.int .i64 ([true,false].length:Int))),(19,(.int .i64 (f2:Int))),(25,(.int .i64 (x0.jobs.length:Int))),(26,(.int .i64 (y1:Int))),(29,(.slice s0 x2.length t0)),(30,(.int .i64 (x2.length:Int))),(31,(.int .i64 (b2:Int))),(47,(.slice d3 n1.length e3))]) _ (fun p1 c2 w'=>∃ O':Lab,Bs w A w' O'∧Vb w' (Fr 0 w' O') (.slice s0 x2.length t0) x2∧Lc 2 w' O' i1 26 [(.slice w0 x0.vars.length y0),(.slice z0 x0.init.length a1),(.slice b1 x0.goal.length c1),(.slice d1 x0.jobs.length e1)]∧Vb w' (Fr 0 w' O') (.slice w0 x0.vars.length y0) x0.vars∧Vb w' (Fr 0 w' O') (.slice z0 x0.init.length a1) x0.init∧Vb w' (Fr 0 w' O') (.slice b1 x0.goal.length c1) x0.goal∧Vb w' (Fr 0 w' O') (.slice d1 x0.jobs.length e1) x0.jobs∧Rw 3 w' O' 3 (.slice g1 f1.length h1) p1∧Rw 4 w' O' 4 (.slice (some ⟨k1,0,none⟩) [true,false].length 2) [true,false]∧Vb w' (Fr 0 w' O') (.slice d3 n1.length e3) n1) _ () ⟨q4,hB,e0,g0,h9,i0,j0,f0,m0,k0,j1⟩ ⟨rfl,rfl,rfl,rfl,rfl,rfl,rfl,rfl,rfl,rfl,rfl,rfl,rfl,rfl,rfl,rfl,trivial⟩ (fun _ _=>⟨rfl,rfl⟩) (fun _ _=>⟨rfl,rfl,rfl,rfl,rfl,rfl,rfl,rfl,rfl,rfl,rfl,rfl,rfl,trivial⟩) (fun _ _ _ ⟨O',hB,e0,g0,h9,i0,j0,f0,p0,k0,j1⟩=>⟨O',hB,e0,g0,h9,i0,j0,f0,p0,k0⟩) ⟨rfl,rfl,rfl⟩ ⟨rfl,rfl⟩ ?_
     rintro r4 q2 p1 c2 c6 f5 h2 ⟨s4,hB,e0,g0,h9,i0,j0,f0,p0,k0,j1⟩ w1 q3 r3
     have rk159:inI64 (r4:Int):=rngK h2 o2
     refine Ab (Aa ?_)
     obtain ⟨d6,e6,g5,g3,h3,i3,rfl,f6,t4⟩:=j1.elem' h2
     refine Bv (hA:=g3) (hj:=rfl) (hlt:=h3) rfl rfl ?_
     refine Bg (hl:=rfl) (hc:=i3) rfl ?_
     refine AT 6 s4 fun u4 g6 v4 q0 q1=>?_
     refine AD q1 rfl rfl rfl (AL) (allOne) fun w4 r0 q1=>?_
     replace q1:Lc 6 w4 v4 u4 78 [(.int .i64 q2.var),(.int .i64 q2.val)]:=q1
     refine o_z ?_
     refine Aa (Ak rfl (AB rfl (Az (hc:=Blk.cell (i:=0) (q1.1) rfl) rfl ?_)))
     refine AB rfl (Az (hc:=Blk.cell (i:=1) (q1.1) rfl) rfl ?_)
     obtain ⟨h6,x4,w1⟩:=bs w1
     obtain ⟨y4,j3⟩:=BO x4
     replace p0:=(p0.st q0).st r0
     obtain ⟨i6,j6,h5,i2,k3,i5,rfl,k6⟩:=p0.elem j3
     refine Bv (hA:=i2) (hj:=(Int.toNat_of_nonneg y4).symm) (hlt:=k3) rfl rfl ?_
     refine IA rfl p0 (a:=q2.val) (vInt t4) i2 rfl rfl (Bl j3) fun l6 v0 p0=>?_
     refine o_z ?_
     obtain rfl:=sm w1
     exact show Exists _ from ⟨_,(),rfl,⟨rfl,rfl,rfl,rfl,rfl,rfl,rfl,rfl,rfl,rfl,rfl,rfl,rfl,rfl,rfl,rfl,trivial⟩,_,((hB.st q0).st r0).st v0,((e0.st q0).st r0).st v0,((g0.st q0).st r0).st v0,((h9.st q0).st r0).st v0,((i0.st q0).st r0).st v0,((j0.st q0).st r0).st v0,((f0.st q0).st r0).st v0,p0,((k0.st q0).st r0).st v0,((j1.st q0).st r0).st v0⟩
    replace hB:=hB.st l0
    replace e0:=e0.st l0
    replace h9:=h9.st l0
    replace i0:=i0.st l0
    replace j0:=j0.st l0
    replace f0:=f0.st l0
    replace g0:=g0.st l0
    replace k0:=k0.st l0
    rintro m6 n6 ⟨o6,p6,rfl,h0,q6,hB,e0,g0,h9,i0,j0,f0,p0,k0⟩
    replace d0:=AP d0
    obtain rfl:=sm d0
    exact show Exists _ from ⟨_,(),rfl,⟨(AS h0 _ _ rfl),(AS h0 _ _ rfl),(AS h0 _ _ rfl),(AS h0 _ _ rfl),(AS h0 _ _ rfl),(AS h0 _ _ rfl),(AS h0 _ _ rfl),(AS h0 _ _ rfl),(AS h0 _ _ rfl),(AS h0 _ _ rfl),(AS h0 _ _ rfl),(AS h0 _ _ rfl),(AS h0 _ _ rfl),trivial⟩,_,hB,e0,g0,h9,i0,j0,f0,p0,k0⟩
   rintro r6 s6 ⟨t6,u6,rfl,o0,w6,hB,e0,g0,h9,i0,j0,f0,m0,k0⟩
   replace s1:=AP s1
   obtain rfl:=sm s1
   exact show Exists _ from ⟨_,(),rfl,⟨(AS o0 _ _ rfl),(AS o0 _ _ rfl),(AS o0 _ _ rfl),(AS o0 _ _ rfl),(AS o0 _ _ rfl),(AS o0 _ _ rfl),(AS o0 _ _ rfl),(AS o0 _ _ rfl),(AS o0 _ _ rfl),trivial⟩,_,hB,e0,g0,h9,i0,j0,f0,m0,k0⟩
  rintro x6 y6 ⟨z6,a7,rfl,u0,b7,hB,e0,g0,h9,i0,j0,f0,w2,k0⟩
  replace r1:=AP r1
  obtain rfl:=sm r1
  exact show Exists _ from ⟨_,(),rfl,⟨(AS u0 _ _ rfl),(AS u0 _ _ rfl),(AS u0 _ _ rfl),(AS u0 _ _ rfl),(AS u0 _ _ rfl),(AS u0 _ _ rfl),trivial⟩,_,hB,e0,g0,h9,i0,j0,f0,w2,k0⟩
 replace hB:=((hB.st d2).st e2).st z1
 rintro c7 z4 ⟨d7,e7,rfl,l3,f7,hB,j2⟩
 replace hm:=AP hm
 refine AE _ l3 ?_
 refine Ab (Aa (Ak rfl (Al rfl (o_z ?_))))
 refine AC ?_
 obtain ⟨a5,b5,j2⟩:=j2.freeze
 obtain rfl:=sm hm
 replace hB:=hB.st b5
 exact ret1v rfl (At rfl) ⟨hB.ext,(Vb.mono (F:=Fr 0 z4 a5) j2 hB.out)⟩
noncomputable def Dc (x0:Tpl) (x1:List Lch) (x2:Int) (x3:List Int) (x4:List Hap):Option ((List Int)×Err) :=
  bnd (CW x0 x1 x2) fun q34=>if q34=true then some (([]:List Int),(⟨18⟩:Err)) else bnd (rng (ρ:=(List Int)×Err) (fun (k47:Nat) (a48:Hap) (s45:Unit)=>bnd (rngN (ρ:=Ctl Unit ((List Int)×Err)) (fun (k62:Nat) (s60:Unit)=>bnd (x4[k62]?) fun a81=>bnd (BV x0 a48 a81) fun q91=>if q91=true then some (.ret (.ret (([]:List Int),(⟨17⟩:Err)))) else some (.next ())) k47 ()) fun res58=>fin res58 fun (s102:Unit)=>some (.next ())) x4 0 ()) fun res43=>fin res43 fun (s108:Unit)=>bnd (rng (ρ:=(List Int)×Err) (fun (k116:Nat) (a117:Hap) (s114:Unit)=>bnd (CH x0 a117) fun q142=>bnd (Cq q142 x3) fun q151=>if q151=true then some (.next ()) else some (.ret (([]:List Int),(⟨12⟩:Err)))) x4 0 ()) fun res112=>fin res112 fun (s162:Unit)=>bnd (DB x0 x3 x4) fun q164=>bnd (rng (ρ:=(List Int)×Err) (fun (k179:Nat) (a180:Lch) (s177:Unit)=>bnd (if a180.tm≤x2 then (bnd (Cu x0 a180) fun q211=>if x2 < q211 then (bnd (atI x0.jobs a180.job) fun a220=>bnd (Cq a220.over q164) fun q253=>if q253=true then some false else some true) else (some false)) else (some false):Option Bool) fun y206=>if y206=true then (some (.ret (([]:List Int),(⟨16⟩:Err)))) else (some (.next ()))) x1 0 ()) fun res175=>fin res175 fun (s269:Unit)=>some (q164,(⟨0⟩:Err))
theorem MQ {w:World} {A:Nat→Prop} (hA:∀ k,A k→k < w.heap.size) {vx0:Value} {x0:Tpl} (i4:Vb w A vx0 x0) {vx1:Value} {x1:List Lch} (j0:Vb w A vx1 x1) {x2:Int} (rx2:inI64 x2) {vx3:Value} {x3:List Int} (o0:Vb w A vx3 x3) {vx4:Value} {x4:List Hap} (n0:Vb w A vx4 x4) {r:(List Int)×Err} (hm:Dc x0 x1 x2 x3 x4=some r) :
    Fn Tryz.prog 72 [vx0,vx1,(.int .i64 x2),vx3,vx4] w fun v w'=>Ext w w'∧T2 w' (upA A w w') v r:=by
 obtain ⟨O,hB,y3⟩:=enter hA
 replace i4:=i4.mono y3
 obtain ⟨p9,rfl,v7,v8,v9,q9,rfl,f0,g0,h0,d0⟩:=i4
 obtain ⟨r0,s0,rfl⟩:=f0.form
 obtain ⟨t0,u0,rfl⟩:=g0.form
 obtain ⟨v0,w0,rfl⟩:=h0.form
 obtain ⟨y0,z0,rfl⟩:=d0.form
 replace j0:=j0.mono y3
 obtain ⟨k1,l1,rfl⟩:=j0.form
 replace o0:=o0.mono y3
 obtain ⟨r1,s1,rfl⟩:=o0.form
 replace n0:=n0.mono y3
 obtain ⟨m1,n1,rfl⟩:=n0.form
 refine AH Tryz.func72 rfl Tryz.ntmps72 ?_
 unfold Dc at hm
 refine Ab (Aa (BQ 2 O rfl fun i1 z3 a4 t1 e0=>?_))
 replace e0:Lc 2 z3 a4 i1 26 [(.slice r0 x0.vars.length s0),(.slice t0 x0.init.length u0),(.slice v0 x0.goal.length w0),(.slice y0 x0.jobs.length z0)]:=e0
 refine Al rfl (Al rfl (o_z ?_))
 refine Ab (Ab (Aa (Bg (hl:=rfl) (hc:=(e0.1).cellsAt) rfl ?_)))
 refine Ak rfl (Ak rfl ?_)
 obtain ⟨l6,t6,hm⟩:=bs hm
 replace j0:=j0.st t1
 replace f0:=f0.st t1
 replace g0:=g0.st t1
 replace h0:=h0.st t1
 replace d0:=d0.st t1
 refine AG (O:=a4) (A:=All z3) (R:=fun w' F v=>Vb w' F v l6) (KG (fun _ h=>h) (Vb.mono (F:=Fr 0 z3 a4) (Vb.ofAgg (cs:=[(.slice r0 x0.vars.length s0),(.slice t0 x0.init.length u0),(.slice v0 x0.goal.length w0),(.slice y0 x0.jobs.length z0)]) (x:=x0) rfl ⟨_,_,_,_,rfl,f0,g0,h0,d0⟩) Fr.lt) (Vb.mono (F:=Fr 0 z3 a4) j0 Fr.lt) rx2 t6) rfl fun r9 u6 m6 h1 v6=>?_
 obtain rfl:=v6.bool
 cases l6
 case false =>
  replace hm:=iF hm
  refine o_z ?_
  refine Ah rfl (AK (Ab (Ab (Aa (Ak rfl (AR rfl ?_))))))
  replace n0:=(n0.st t1).st h1
  have j4:x4.length≤9223372036854775807:=Nat.le_trans n0.len.2.1 n0.len.2.2
  have s9:inI64 (x4.length:Int):=rngNat j4
  refine Ak rfl (o_z ?_)
  obtain ⟨w2,k4,hm⟩:=bs hm
  refine Au (aft w2 (fun (b4:Unit) (c4:Unit)=>[(1,(.slice k1 x1.length l1)),(2,(.int .i64 x2)),(3,(.slice r1 x3.length s1)),(4,(.slice m1 x4.length n1)),(5,(.pointer (some ⟨i1,0,none⟩)))]) (fun b4 c4 w'=>∃ O':Lab,Bs w A w' O'∧Vb w' (Fr 0 w' O') (.slice k1 x1.length l1) x1∧Vb w' (Fr 0 w' O') (.slice r1 x3.length s1) x3∧Vb w' (Fr 0 w' O') (.slice m1 x4.length n1) x4∧Lc 2 w' O' i1 26 [(.slice r0 x0.vars.length s0),(.slice t0 x0.init.length u0),(.slice v0 x0.goal.length w0),(.slice y0 x0.jobs.length z0)]∧Vb w' (Fr 0 w' O') (.slice r0 x0.vars.length s0) x0.vars∧Vb w' (Fr 0 w' O') (.slice t0 x0.init.length u0) x0.init∧Vb w' (Fr 0 w' O') (.slice v0 x0.goal.length w0) x0.goal∧Vb w' (Fr 0 w' O') (.slice y0 x0.jobs.length z0) x0.jobs)) ?_ ?_
  ·
   refine AJ ?_
   replace hB:=(hB.st t1).st h1
   replace j0:=j0.st h1
   replace o0:=(o0.st t1).st h1
   replace f0:=f0.st h1
   replace g0:=g0.st h1
   replace h0:=h0.st h1
   replace d0:=d0.st h1
   replace e0:=e0.st h1
   refine Bh (σ:=Unit) (X:=Unit) (x4.length) k4 rfl j4 (fun (b4:Unit) (c4:Unit)=>[(1,(.slice k1 x1.length l1)),(2,(.int .i64 x2)),(3,(.slice r1 x3.length s1)),(4,(.slice m1 x4.length n1)),(5,(.pointer (some ⟨i1,0,none⟩)))]) _ (fun b4 c4 w'=>∃ O':Lab,Bs w A w' O'∧Vb w' (Fr 0 w' O') (.slice k1 x1.length l1) x1∧Vb w' (Fr 0 w' O') (.slice r1 x3.length s1) x3∧Vb w' (Fr 0 w' O') (.slice m1 x4.length n1) x4∧Lc 2 w' O' i1 26 [(.slice r0 x0.vars.length s0),(.slice t0 x0.init.length u0),(.slice v0 x0.goal.length w0),(.slice y0 x0.jobs.length z0)]∧Vb w' (Fr 0 w' O') (.slice r0 x0.vars.length s0) x0.vars∧Vb w' (Fr 0 w' O') (.slice t0 x0.init.length u0) x0.init∧Vb w' (Fr 0 w' O') (.slice v0 x0.goal.length w0) x0.goal∧Vb w' (Fr 0 w' O') (.slice y0 x0.jobs.length z0) x0.jobs) _ () ⟨m6,hB,j0,o0,n0,e0,f0,g0,h0,d0⟩ ⟨rfl,rfl,rfl,rfl,rfl,rfl,rfl,trivial⟩ (fun _ _=>⟨rfl,rfl⟩) (fun _ _=>⟨rfl,rfl,rfl,rfl,rfl,trivial⟩) (fun _ _ _ ⟨O',hB,j0,o0,n0,e0,f0,g0,h0,d0⟩=>⟨O',hB,j0,o0,n0,e0,f0,g0,h0,d0⟩) ⟨rfl,rfl,rfl⟩ ⟨rfl,rfl⟩ ?_
   rintro y2 l4 b4 c4 t9 w6 z2 ⟨x6,hB,j0,o0,n0,e0,f0,g0,h0,d0⟩ o1 j2 m4
   have rk47:inI64 (y2:Int):=rngK z2 j4
   refine Ab (Aa (Ak rfl (Al rfl (o_z ?_))))
   refine Ab (Aa (Ak rfl (Ak rfl (o_z ?_))))
   obtain ⟨a3,n4,o1⟩:=bs o1
   refine Au (aft a3 (fun (d4:Unit) (e4:Unit)=>[(1,(.slice k1 x1.length l1)),(2,(.int .i64 x2)),(3,(.slice r1 x3.length s1)),(4,(.slice m1 x4.length n1)),(5,(.pointer (some ⟨i1,0,none⟩))),(25,(.int .i64 (x4.length:Int))),(26,(.int .i64 (y2:Int)))]) (fun d4 e4 w'=>∃ O':Lab,Bs w A w' O'∧Vb w' (Fr 0 w' O') (.slice k1 x1.length l1) x1∧Vb w' (Fr 0 w' O') (.slice r1 x3.length s1) x3∧Vb w' (Fr 0 w' O') (.slice m1 x4.length n1) x4∧Lc 2 w' O' i1 26 [(.slice r0 x0.vars.length s0),(.slice t0 x0.init.length u0),(.slice v0 x0.goal.length w0),(.slice y0 x0.jobs.length z0)]∧Vb w' (Fr 0 w' O') (.slice r0 x0.vars.length s0) x0.vars∧Vb w' (Fr 0 w' O') (.slice t0 x0.init.length u0) x0.init∧Vb w' (Fr 0 w' O') (.slice v0 x0.goal.length w0) x0.goal∧Vb w' (Fr 0 w' O') (.slice y0 x0.jobs.length z0) x0.jobs)) ?_ ?_
   ·
    refine AJ (GY (σ:=Unit) (X:=Unit) (y2) n4 (rngNat' rk47) (fun (d4:Unit) (e4:Unit)=>[(1,(.slice k1 x1.length l1)),(2,(.int .i64 x2)),(3,(.slice r1 x3.length s1)),(4,(.slice m1 x4.length n1)),(5,(.pointer (some ⟨i1,0,none⟩))),(12,(.int .i64 (y2:Int))),(25,(.int .i64 (x4.length:Int))),(26,(.int .i64 (y2:Int)))]) _ (fun d4 e4 w'=>∃ O':Lab,Bs w A w' O'∧Vb w' (Fr 0 w' O') (.slice k1 x1.length l1) x1∧Vb w' (Fr 0 w' O') (.slice r1 x3.length s1) x3∧Vb w' (Fr 0 w' O') (.slice m1 x4.length n1) x4∧Lc 2 w' O' i1 26 [(.slice r0 x0.vars.length s0),(.slice t0 x0.init.length u0),(.slice v0 x0.goal.length w0),(.slice y0 x0.jobs.length z0)]∧Vb w' (Fr 0 w' O') (.slice r0 x0.vars.length s0) x0.vars∧Vb w' (Fr 0 w' O') (.slice t0 x0.init.length u0) x0.init∧Vb w' (Fr 0 w' O') (.slice v0 x0.goal.length w0) x0.goal∧Vb w' (Fr 0 w' O') (.slice y0 x0.jobs.length z0) x0.jobs) _ () ⟨x6,hB,j0,o0,n0,e0,f0,g0,h0,d0⟩ ⟨rfl,rfl,rfl,rfl,rfl,rfl,rfl,rfl,rfl,rfl,trivial⟩ (fun _ _=>⟨rfl,rfl⟩) (fun _ _=>⟨rfl,rfl,rfl,rfl,rfl,rfl,rfl,trivial⟩) (fun _ _ _ ⟨O',hB,j0,o0,n0,e0,f0,g0,h0,d0⟩=>⟨O',hB,j0,o0,n0,e0,f0,g0,h0,d0⟩) ⟨rfl,rfl,rfl⟩ ⟨rfl,rfl⟩ ?_)
    rintro y6 d4 e4 f4 z6 o4 ⟨b3,hB,j0,o0,n0,e0,f0,g0,h0,d0⟩ a1 k2 p4
    have rk62:inI64 (y6:Int):=rngKN o4 (rngNat' rk47)
    refine Ab (Aa (Ak rfl (Al rfl (o_z ?_))))
    refine Ab (BP [] b3 ?_)
    refine AM (fuel:=1) [] [(0,true),(1,true),(2,true),(3,true),(4,true),(5,true),(6,true),(7,true),(8,true)] rfl ?_
    refine CN (hl:=rfl) (hb:=fun w' ⟨O',hq⟩=>((e0.st hq (by decide)).1).cellsAt) rfl rfl ?_
    refine Bp rfl rfl (Bp rfl rfl ?_)
    obtain ⟨u9,w9,a7,q4,r4,s4,t4,rfl,b7⟩:=n0.elem z2
    refine EF (hA:=q4) (hj:=rfl) (hlt:=s4) rfl rfl rfl ?_
    refine CN (hl:=rfl) (hb:=fun w' ⟨O',hq⟩=>(CK (hq.agree (i:=0) (by decide)) r4 t4)) rfl rfl ?_
    refine Bp rfl rfl (Bp rfl rfl ?_)
    obtain ⟨u4,c7,a1⟩:=bs a1
    obtain ⟨x9,y9,d7,v4,w4,y4,z4,rfl,e7⟩:=n0.elem c7
    refine EF (hA:=v4) (hj:=rfl) (hlt:=y4) rfl rfl rfl ?_
    refine CN (hl:=rfl) (hb:=fun w' ⟨O',hq⟩=>(CK (hq.agree (i:=0) (by decide)) w4 z4)) rfl rfl ?_
    refine Ay ?_
    refine Ax (i:=9) rfl ?_
    obtain ⟨n6,f7,a1⟩:=bs a1
    refine AG (O:=b3) (A:=All f4) (R:=fun w' F v=>Vb w' F v n6) (JZ (fun _ h=>h) (Vb.mono (F:=Fr 0 f4 b3) (Vb.ofAgg (cs:=[(.slice r0 x0.vars.length s0),(.slice t0 x0.init.length u0),(.slice v0 x0.goal.length w0),(.slice y0 x0.jobs.length z0)]) (x:=x0) rfl ⟨_,_,_,_,rfl,f0,g0,h0,d0⟩) Fr.lt) (Vb.mono (F:=Fr 0 f4 b3) (Vb.ofAgg (cs:=[(.int .i64 l4.job),(.bool l4.fin)]) (x:=l4) rfl ⟨rfl,b7⟩) Fr.lt) (Vb.mono (F:=Fr 0 f4 b3) (Vb.ofAgg (cs:=[(.int .i64 u4.job),(.bool u4.fin)]) (x:=u4) rfl ⟨rfl,e7⟩) Fr.lt) f7) rfl fun z9 g7 h7 y1 i7=>?_
    obtain rfl:=i7.bool
    cases n6
    case false =>
     replace a1:=iF a1
     refine BL ?_
     refine BG ?_
     refine Ah rfl (AK ?_)
     obtain rfl:=sm a1
     exact show Exists _ from ⟨_,(),rfl,⟨rfl,rfl,rfl,rfl,rfl,rfl,rfl,rfl,rfl,rfl,trivial⟩,_,hB.st y1,j0.st y1,o0.st y1,n0.st y1,e0.st y1,f0.st y1,g0.st y1,h0.st y1,d0.st y1⟩
    replace a1:=iT a1
    refine BL ?_
    refine BG ?_
    refine Aj rfl (Ab (Aa (Fb rfl ?_)))
    refine Al rfl (Al rfl (o_z ?_))
    refine AC ?_
    obtain rfl:=sm a1
    obtain rfl:=k2 _ rfl
    obtain rfl:=sm (CG o1)
    obtain rfl:=j2 _ rfl
    obtain rfl:=sm (CG hm)
    replace hB:=hB.st y1
    exact ret2 rfl (At rfl) (At rfl) ⟨hB.ext,_,_,rfl,(Vb.mono (F:=Fr 0 g7 h7) (Vb.nil _ _) hB.out),(vErr (by decide))⟩
   rintro aA bA ⟨j7,k7,rfl,q0,l7,hB,j0,o0,n0,e0,f0,g0,h0,d0⟩
   replace o1:=AP o1
   obtain rfl:=sm o1
   exact show Exists _ from ⟨_,(),rfl,⟨(AS q0 _ _ rfl),(AS q0 _ _ rfl),(AS q0 _ _ rfl),(AS q0 _ _ rfl),(AS q0 _ _ rfl),(AS q0 _ _ rfl),(AS q0 _ _ rfl),trivial⟩,_,hB,j0,o0,n0,e0,f0,g0,h0,d0⟩
  replace hB:=(hB.st t1).st h1
  replace j0:=j0.st h1
  replace o0:=(o0.st t1).st h1
  replace f0:=f0.st h1
  replace g0:=g0.st h1
  replace h0:=h0.st h1
  replace d0:=d0.st h1
  replace e0:=e0.st h1
  rintro m7 n7 ⟨o7,p7,rfl,c3,a5,hB,j0,o0,n0,e0,f0,g0,h0,d0⟩
  replace hm:=AP hm
  refine AE _ c3 ?_
  refine Ab (Ab (Aa (Ak rfl (AR rfl ?_))))
  have l2:x4.length≤9223372036854775807:=Nat.le_trans n0.len.2.1 n0.len.2.2
  have q7:inI64 (x4.length:Int):=rngNat l2
  refine Ak rfl (o_z ?_)
  obtain ⟨m2,d3,hm⟩:=bs hm
  refine Au (aft m2 (fun (z1:Unit) (a2:Unit)=>[(1,(.slice k1 x1.length l1)),(2,(.int .i64 x2)),(3,(.slice r1 x3.length s1)),(4,(.slice m1 x4.length n1)),(5,(.pointer (some ⟨i1,0,none⟩)))]) (fun z1 a2 w'=>∃ O':Lab,Bs w A w' O'∧Vb w' (Fr 0 w' O') (.slice k1 x1.length l1) x1∧Vb w' (Fr 0 w' O') (.slice r1 x3.length s1) x3∧Vb w' (Fr 0 w' O') (.slice m1 x4.length n1) x4∧Lc 2 w' O' i1 26 [(.slice r0 x0.vars.length s0),(.slice t0 x0.init.length u0),(.slice v0 x0.goal.length w0),(.slice y0 x0.jobs.length z0)]∧Vb w' (Fr 0 w' O') (.slice r0 x0.vars.length s0) x0.vars∧Vb w' (Fr 0 w' O') (.slice t0 x0.init.length u0) x0.init∧Vb w' (Fr 0 w' O') (.slice v0 x0.goal.length w0) x0.goal∧Vb w' (Fr 0 w' O') (.slice y0 x0.jobs.length z0) x0.jobs)) ?_ ?_
  ·
   refine AJ (Bh (σ:=Unit) (X:=Unit) (x4.length) d3 rfl l2 (fun (z1:Unit) (a2:Unit)=>[(1,(.slice k1 x1.length l1)),(2,(.int .i64 x2)),(3,(.slice r1 x3.length s1)),(4,(.slice m1 x4.length n1)),(5,(.pointer (some ⟨i1,0,none⟩))),(46,(.slice m1 x4.length n1))]) _ (fun z1 a2 w'=>∃ O':Lab,Bs w A w' O'∧Vb w' (Fr 0 w' O') (.slice k1 x1.length l1) x1∧Vb w' (Fr 0 w' O') (.slice r1 x3.length s1) x3∧Vb w' (Fr 0 w' O') (.slice m1 x4.length n1) x4∧Lc 2 w' O' i1 26 [(.slice r0 x0.vars.length s0),(.slice t0 x0.init.length u0),(.slice v0 x0.goal.length w0),(.slice y0 x0.jobs.length z0)]∧Vb w' (Fr 0 w' O') (.slice r0 x0.vars.length s0) x0.vars∧Vb w' (Fr 0 w' O') (.slice t0 x0.init.length u0) x0.init∧Vb w' (Fr 0 w' O') (.slice v0 x0.goal.length w0) x0.goal∧Vb w' (Fr 0 w' O') (.slice y0 x0.jobs.length z0) x0.jobs) _ () ⟨a5,hB,j0,o0,n0,e0,f0,g0,h0,d0⟩ ⟨rfl,rfl,rfl,rfl,rfl,rfl,rfl,rfl,trivial⟩ (fun _ _=>⟨rfl,rfl⟩) (fun _ _=>⟨rfl,rfl,rfl,rfl,rfl,trivial⟩) (fun _ _ _ ⟨O',hB,j0,o0,n0,e0,f0,g0,h0,d0⟩=>⟨O',hB,j0,o0,n0,e0,f0,g0,h0,d0⟩) ⟨rfl,rfl,rfl⟩ ⟨rfl,rfl⟩ ?_)
   rintro b5 u1 z1 a2 r7 o6 h2 ⟨c5,hB,j0,o0,n0,e0,f0,g0,h0,d0⟩ m0 b2 g4
   have rk116:inI64 (b5:Int):=rngK h2 l2
   refine Ab (Aa ?_)
   obtain ⟨s7,t7,p6,e3,f3,g3,rfl,d5⟩:=n0.elem' h2
   refine Bv (hA:=e3) (hj:=rfl) (hlt:=f3) rfl rfl ?_
   refine Bg (hl:=rfl) (hc:=g3) rfl ?_
   refine AT 3 c5 fun e5 u7 h3 b1 v1=>?_
   refine AD v1 rfl rfl rfl (AL) (allOne) fun f5 c1 v1=>?_
   replace v1:Lc 3 f5 h3 e5 182 [(.int .i64 u1.job),(.bool u1.fin)]:=v1
   refine o_z ?_
   refine Ab (Aa ?_)
   replace e0:=(e0.st b1).st c1
   refine Bg (hl:=rfl) (hc:=(e0.1).cellsAt) rfl ?_
   refine Bg (hl:=rfl) (hc:=(v1.1).cellsAt) rfl ?_
   obtain ⟨g5,h5,m0⟩:=bs m0
   replace f0:=(f0.st b1).st c1
   replace g0:=(g0.st b1).st c1
   replace h0:=(h0.st b1).st c1
   replace d0:=(d0.st b1).st c1
   refine BU (O:=h3) (R:=fun w' F v=>Vb w' F v g5) (Hb Fr.lt (Vb.ofAgg (cs:=[(.slice r0 x0.vars.length s0),(.slice t0 x0.init.length u0),(.slice v0 x0.goal.length w0),(.slice y0 x0.jobs.length z0)]) (x:=x0) rfl ⟨_,_,_,_,rfl,f0,g0,h0,d0⟩) (Vb.ofAgg (cs:=[(.int .i64 u1.job),(.bool u1.fin)]) (x:=u1) rfl ⟨rfl,d5⟩) h5) rfl fun w7 n2 o2 d1 i3=>?_
   obtain ⟨x7,y7,rfl⟩:=i3.form
   refine Ak rfl ?_
   obtain ⟨j3,i5,m0⟩:=bs m0
   replace o0:=((o0.st b1).st c1).st d1
   refine AG (O:=o2) (A:=All n2) (R:=fun w' F v=>Vb w' F v j3) (Gq (fun _ h=>h) (Vb.mono (F:=Fr 0 n2 o2) i3 Fr.lt) (Vb.mono (F:=Fr 0 n2 o2) o0 Fr.lt) i5) rfl fun z7 j5 k5 e1 l5=>?_
   obtain rfl:=l5.bool
   cases j3
   case false =>
    replace m0:=iF m0
    refine Fd rfl (o_z ?_)
    refine Aj rfl (Ab (Aa (Fb rfl ?_)))
    refine Al rfl (Al rfl (o_z ?_))
    refine AC ?_
    obtain rfl:=sm m0
    obtain rfl:=b2 _ rfl
    obtain rfl:=sm (CG hm)
    replace hB:=(((hB.st b1).st c1).st d1).st e1
    exact ret2 rfl (At rfl) (At rfl) ⟨hB.ext,_,_,rfl,(Vb.mono (F:=Fr 0 j5 k5) (Vb.nil _ _) hB.out),(vErr (by decide))⟩
   replace m0:=iT m0
   refine Fc rfl (o_z ?_)
   refine Ah rfl (AK ?_)
   obtain rfl:=sm m0
   exact show Exists _ from ⟨_,(),rfl,⟨rfl,rfl,rfl,rfl,rfl,rfl,rfl,rfl,trivial⟩,_,(((hB.st b1).st c1).st d1).st e1,(((j0.st b1).st c1).st d1).st e1,o0.st e1,(((n0.st b1).st c1).st d1).st e1,(e0.st d1).st e1,(f0.st d1).st e1,(g0.st d1).st e1,(h0.st d1).st e1,(d0.st d1).st e1⟩
  rintro a8 b8 ⟨c8,d8,rfl,k3,m5,hB,j0,o0,n0,e0,f0,g0,h0,d0⟩
  replace hm:=AP hm
  refine AE _ k3 ?_
  refine Ab (Aa (Bg (hl:=rfl) (hc:=(e0.1).cellsAt) rfl ?_))
  refine Ak rfl (Ak rfl ?_)
  obtain ⟨f1,n5,hm⟩:=bs hm
  refine BU (O:=m5) (R:=fun w' F v=>Vb w' F v f1) (Me Fr.lt (Vb.ofAgg (cs:=[(.slice r0 x0.vars.length s0),(.slice t0 x0.init.length u0),(.slice v0 x0.goal.length w0),(.slice y0 x0.jobs.length z0)]) (x:=x0) rfl ⟨_,_,_,_,rfl,f0,g0,h0,d0⟩) o0 n0 n5) rfl fun e8 f8 o5 j1 k0=>?_
  obtain ⟨p1,q1,rfl⟩:=k0.form
  refine Al rfl (o_z ?_)
  refine Ab (Ab (Aa (Ak rfl (AR rfl ?_))))
  replace j0:=j0.st j1
  have p2:x1.length≤9223372036854775807:=Nat.le_trans j0.len.2.1 j0.len.2.2
  have g8:inI64 (x1.length:Int):=rngNat p2
  refine Ak rfl (o_z ?_)
  obtain ⟨q2,l3,hm⟩:=bs hm
  refine Au (aft q2 (fun (c2:Unit) (d2:Unit)=>[(16,(.slice p1 f1.length q1))]) (fun c2 d2 w'=>∃ O':Lab,Bs w A w' O'∧Vb w' (Fr 0 w' O') (.slice p1 f1.length q1) f1)) ?_ ?_
  ·
   refine AJ ?_
   replace hB:=hB.st j1
   replace f0:=f0.st j1
   replace g0:=g0.st j1
   replace h0:=h0.st j1
   replace d0:=d0.st j1
   replace e0:=e0.st j1
   refine Bh (σ:=Unit) (X:=Unit) (x1.length) l3 rfl p2 (fun (c2:Unit) (d2:Unit)=>[(2,(.int .i64 x2)),(5,(.pointer (some ⟨i1,0,none⟩))),(16,(.slice p1 f1.length q1)),(64,(.slice k1 x1.length l1))]) _ (fun c2 d2 w'=>∃ O':Lab,Bs w A w' O'∧Lc 2 w' O' i1 26 [(.slice r0 x0.vars.length s0),(.slice t0 x0.init.length u0),(.slice v0 x0.goal.length w0),(.slice y0 x0.jobs.length z0)]∧Vb w' (Fr 0 w' O') (.slice r0 x0.vars.length s0) x0.vars∧Vb w' (Fr 0 w' O') (.slice t0 x0.init.length u0) x0.init∧Vb w' (Fr 0 w' O') (.slice v0 x0.goal.length w0) x0.goal∧Vb w' (Fr 0 w' O') (.slice y0 x0.jobs.length z0) x0.jobs∧Vb w' (Fr 0 w' O') (.slice p1 f1.length q1) f1∧Vb w' (Fr 0 w' O') (.slice k1 x1.length l1) x1) _ () ⟨o5,hB,e0,f0,g0,h0,d0,k0,j0⟩ ⟨rfl,rfl,rfl,rfl,rfl,rfl,trivial⟩ (fun _ _=>⟨rfl,rfl⟩) (fun _ _=>⟨rfl,trivial⟩) (fun _ _ _ ⟨O',hB,e0,f0,g0,h0,d0,k0,j0⟩=>⟨O',hB,k0⟩) ⟨rfl,rfl,rfl⟩ ⟨rfl,rfl⟩ ?_
   rintro m3 w1 c2 d2 h8 q6 i2 ⟨p5,hB,e0,f0,g0,h0,d0,k0,j0⟩ p0 e2 h4
   have rk179:inI64 (m3:Int):=rngK i2 p2
   refine Ab (Aa ?_)
   obtain ⟨i8,j8,r6,n3,o3,p3,rfl,q5,r5⟩:=j0.elem' i2
   refine Bv (hA:=n3) (hj:=rfl) (hlt:=o3) rfl rfl ?_
   refine Bg (hl:=rfl) (hc:=p3) rfl ?_
   refine AT 4 p5 fun s5 k8 f2 b0 g1=>?_
   refine AD g1 rfl rfl rfl (AL) (allOne) fun g2 c0 g1=>?_
   replace g1:Lc 4 g2 f2 s5 52 [(.int .i64 w1.tm),(.int .i64 w1.job)]:=g1
   refine o_z ?_
   refine Ab ?_
   obtain ⟨t5,a0,p0⟩:=bs p0
   refine Au (fun l' w'=>∃ (u5:Unit) (O':Lab),subs l' [(2,(.int .i64 x2)),(5,(.pointer (some ⟨i1,0,none⟩))),(16,(.slice p1 f1.length q1)),(64,(.slice k1 x1.length l1)),(65,(.int .i64 (x1.length:Int))),(66,(.int .i64 (m3:Int))),(92,(.bool t5))]∧Bs w A w' O'∧Lc 2 w' O' i1 26 [(.slice r0 x0.vars.length s0),(.slice t0 x0.init.length u0),(.slice v0 x0.goal.length w0),(.slice y0 x0.jobs.length z0)]∧Vb w' (Fr 0 w' O') (.slice r0 x0.vars.length s0) x0.vars∧Vb w' (Fr 0 w' O') (.slice t0 x0.init.length u0) x0.init∧Vb w' (Fr 0 w' O') (.slice v0 x0.goal.length w0) x0.goal∧Vb w' (Fr 0 w' O') (.slice y0 x0.jobs.length z0) x0.jobs∧Vb w' (Fr 0 w' O') (.slice p1 f1.length q1) f1∧Vb w' (Fr 0 w' O') (.slice k1 x1.length l1) x1) ?_ ?_
   ·
    refine Aa (AB rfl (Az (hc:=Blk.cell (i:=0) (g1.1) rfl) rfl ?_))
    refine Ak rfl (IS rfl rfl (fun r2=>?_) fun r2=>?_)
    ·
     replace a0:=ip a0 r2
     refine Ak rfl (An rfl rfl (Ak rfl (An rfl rfl ?_)))
     replace e0:=(e0.st b0).st c0
     refine Bg (hl:=rfl) (hc:=(e0.1).cellsAt) rfl ?_
     refine An rfl rfl (Bg (hl:=rfl) (hc:=(g1.1).cellsAt) rfl ?_)
     refine An rfl rfl ?_
     obtain ⟨v5,w5,a0⟩:=bs a0
     replace f0:=(f0.st b0).st c0
     replace g0:=(g0.st b0).st c0
     replace h0:=(h0.st b0).st c0
     replace d0:=(d0.st b0).st c0
     refine AG (O:=f2) (A:=All g2) (R:=fun w' F v=>Vb w' F v v5) (DC (fun _ h=>h) (Vb.mono (F:=Fr 0 g2 f2) (Vb.ofAgg (cs:=[(.slice r0 x0.vars.length s0),(.slice t0 x0.init.length u0),(.slice v0 x0.goal.length w0),(.slice y0 x0.jobs.length z0)]) (x:=x0) rfl ⟨_,_,_,_,rfl,f0,g0,h0,d0⟩) Fr.lt) (Vb.mono (F:=Fr 0 g2 f2) (Vb.ofAgg (cs:=[(.int .i64 w1.tm),(.int .i64 w1.job)]) (x:=w1) rfl ⟨rfl,q5,r5⟩) Fr.lt) w5) rfl fun l8 s2 t2 i0 x5=>?_
     obtain ⟨rfl,m8⟩:=x5.int
     refine An rfl rfl (Ep rfl rfl (fun u2=>?_) fun u2=>?_)
     ·
      replace a0:=ip a0 u2
      refine BD rfl rfl (Ak rfl (An rfl rfl (AB rfl (An rfl rfl ?_))))
      replace e0:=e0.st i0
      refine Az (hc:=Blk.cell (i:=3) (e0.1) rfl) rfl ?_
      refine An rfl rfl (AB rfl (An rfl rfl ?_))
      replace g1:=g1.st i0
      refine Az (hc:=Blk.cell (i:=1) (g1.1) rfl) rfl ?_
      refine An rfl rfl ?_
      obtain ⟨n8,y5,a0⟩:=bs a0
      obtain ⟨z5,a6⟩:=BO y5
      replace d0:=d0.st i0
      obtain ⟨o8,p8,s6,q3,r3,s3,q8,r8,s8,t8,u8,rfl,b6,t3,c6,d6,e6,w8,x8⟩:=d0.elem' a6
      obtain ⟨y8,z8,rfl⟩:=b6.form
      obtain ⟨a9,b9,rfl⟩:=t3.form
      obtain ⟨c9,d9,rfl⟩:=c6.form
      obtain ⟨e9,f9,rfl⟩:=d6.form
      obtain ⟨g9,h9,rfl⟩:=e6.form
      refine Bv (hA:=q3) (hj:=(Int.toNat_of_nonneg z5).symm) (hlt:=r3) rfl rfl ?_
      refine An rfl rfl (AB rfl (An rfl rfl (Az (hc:=cat3 s3) rfl ?_)))
      refine An rfl rfl (Ak rfl (An rfl rfl ?_))
      obtain ⟨u3,f6,a0⟩:=bs a0
      replace k0:=((k0.st b0).st c0).st i0
      refine AG (O:=t2) (A:=All s2) (R:=fun w' F v=>Vb w' F v u3) (Gq (fun _ h=>h) (Vb.mono (F:=Fr 0 s2 t2) t3 Fr.lt) (Vb.mono (F:=Fr 0 s2 t2) k0 Fr.lt) f6) rfl fun i9 j9 k9 l0 g6=>?_
      obtain rfl:=g6.bool
      cases u3
      case false =>
       replace a0:=iF a0
       refine An rfl rfl (Fd rfl (BD rfl rfl (o_z ?_)))
       obtain rfl:=sm a0
       exact ⟨(),_,⟨rfl,rfl,rfl,rfl,rfl,rfl,rfl,trivial⟩,(((hB.st b0).st c0).st i0).st l0,e0.st l0,(f0.st i0).st l0,(g0.st i0).st l0,(h0.st i0).st l0,d0.st l0,k0.st l0,(((j0.st b0).st c0).st i0).st l0⟩
      replace a0:=iT a0
      refine An rfl rfl (Fc rfl (BD rfl rfl (o_z ?_)))
      obtain rfl:=sm a0
      exact ⟨(),_,⟨rfl,rfl,rfl,rfl,rfl,rfl,rfl,trivial⟩,(((hB.st b0).st c0).st i0).st l0,e0.st l0,(f0.st i0).st l0,(g0.st i0).st l0,(h0.st i0).st l0,d0.st l0,k0.st l0,(((j0.st b0).st c0).st i0).st l0⟩
     replace a0:=im a0 u2
     refine BD rfl rfl (Ak rfl (Am rfl rfl (Am rfl rfl (Am rfl rfl (Am rfl rfl (Am rfl rfl (Am rfl rfl (Am rfl rfl (Am rfl rfl (Am rfl rfl (Am rfl rfl (By rfl rfl (o_z ?_)))))))))))))
     obtain rfl:=sm a0
     exact ⟨(),_,⟨rfl,rfl,rfl,rfl,rfl,rfl,rfl,trivial⟩,((hB.st b0).st c0).st i0,e0.st i0,f0.st i0,g0.st i0,h0.st i0,d0.st i0,((k0.st b0).st c0).st i0,((j0.st b0).st c0).st i0⟩
    replace a0:=im a0 r2
    refine Ak rfl (Am rfl rfl (Am rfl rfl (Am rfl rfl (Am rfl rfl (Am rfl rfl (By rfl rfl (Ak rfl (Am rfl rfl (Am rfl rfl (Am rfl rfl (Am rfl rfl (Am rfl rfl (Am rfl rfl (Am rfl rfl ?_))))))))))))))
    refine Am rfl rfl (Am rfl rfl (Am rfl rfl (By rfl rfl (o_z ?_))))
    obtain rfl:=sm a0
    exact ⟨(),_,⟨rfl,rfl,rfl,rfl,rfl,rfl,rfl,trivial⟩,(hB.st b0).st c0,(e0.st b0).st c0,(f0.st b0).st c0,(g0.st b0).st c0,(h0.st b0).st c0,(d0.st b0).st c0,(k0.st b0).st c0,(j0.st b0).st c0⟩
   replace hB:=(hB.st b0).st c0
   replace j0:=(j0.st b0).st c0
   replace f0:=(f0.st b0).st c0
   replace g0:=(g0.st b0).st c0
   replace h0:=(h0.st b0).st c0
   replace d0:=(d0.st b0).st c0
   replace e0:=(e0.st b0).st c0
   replace k0:=(k0.st b0).st c0
   rintro l9 h6 ⟨u5,i6,v3,hB,e0,f0,g0,h0,d0,k0,j0⟩
   refine AE _ v3 ?_
   refine Cw rfl (fun v2=>?_) (fun v2=>?_)
   ·
    replace p0:=ip p0 v2
    refine Ab (Aa (Fb rfl ?_))
    refine Al rfl (Al rfl (o_z ?_))
    refine AC ?_
    obtain rfl:=sm p0
    obtain rfl:=e2 _ rfl
    obtain rfl:=sm (CG hm)
    exact ret2 rfl (At rfl) (At rfl) ⟨hB.ext,_,_,rfl,(Vb.mono (F:=Fr 0 h6 i6) (Vb.nil _ _) hB.out),(vErr (by decide))⟩
   replace p0:=im' p0 v2
   refine AK ?_
   obtain rfl:=sm p0
   exact show Exists _ from ⟨_,(),rfl,⟨rfl,rfl,rfl,rfl,rfl,rfl,trivial⟩,_,hB,e0,f0,g0,h0,d0,k0,j0⟩
  replace hB:=hB.st j1
  rintro m9 j6 ⟨n9,o9,rfl,w3,k6,hB,k0⟩
  replace hm:=AP hm
  refine AE _ w3 ?_
  refine Ab (Aa (Ak rfl (Al rfl (Al rfl (o_z ?_)))))
  refine AC ?_
  obtain rfl:=sm hm
  exact ret2 rfl (At rfl) (At rfl) ⟨hB.ext,_,_,rfl,(Vb.mono (F:=Fr 0 j6 k6) k0 hB.out),(vErr (show inI64 0 from by decide))⟩
 replace hm:=iT hm
 refine o_z ?_
 refine Aj rfl (Ab (Aa (Fb rfl ?_)))
 refine Al rfl (Al rfl (o_z ?_))
 refine AC ?_
 obtain rfl:=sm hm
 replace hB:=(hB.st t1).st h1
 exact ret2 rfl (At rfl) (At rfl) ⟨hB.ext,_,_,rfl,(Vb.mono (F:=Fr 0 u6 m6) (Vb.nil _ _) hB.out),(vErr (by decide))⟩
noncomputable def CJ (x0:Tpl) (x1:List Lch):Option Int :=
  bnd (rng (ρ:=Int) (fun (k33:Nat) (a34:Lch) (s31:Int)=>bnd (Cu x0 a34) fun q62=>some (.next (max s31 q62))) x1 0 0) fun res29=>fin res29 fun (s74:Int)=>some s74
theorem KH {w:World} {A:Nat→Prop} (hA:∀ k,A k→k < w.heap.size) {vx0:Value} {x0:Tpl} (b1:Vb w A vx0 x0) {vx1:Value} {x1:List Lch} (a0:Vb w A vx1 x1) {r:Int} (hm:CJ x0 x1=some r) :
    Fn Tryz.prog 74 [vx0,vx1] w fun v w'=>Ext w w'∧Vb w' (upA A w w') v r:=by
 obtain ⟨O,hB,l1⟩:=enter hA
 replace b1:=b1.mono l1
 obtain ⟨c2,rfl,v4,v5,v6,v7,rfl,h8,b0,c0,d0⟩:=b1
 obtain ⟨A9,q0,rfl⟩:=h8.form
 obtain ⟨r0,s0,rfl⟩:=b0.form
 obtain ⟨t0,u0,rfl⟩:=c0.form
 obtain ⟨v0,w0,rfl⟩:=d0.form
 replace a0:=a0.mono l1
 obtain ⟨m1,n1,rfl⟩:=a0.form
 refine AH Tryz.func74 rfl Tryz.ntmps74 ?_
 unfold CJ at hm
 refine Ab (Aa (BQ 2 O rfl fun c1 p1 o1 g0 e0=>?_))
 replace e0:Lc 2 p1 o1 c1 26 [(.slice A9 x0.vars.length q0),(.slice r0 x0.init.length s0),(.slice t0 x0.goal.length u0),(.slice v0 x0.jobs.length w0)]:=e0
 refine Al rfl (o_z ?_)
 refine Ab (Aa (Al rfl (o_z ?_)))
 refine Ab (Ab (Aa (Ak rfl (AR rfl ?_))))
 replace a0:=a0.st g0
 have d1:x1.length≤9223372036854775807:=Nat.le_trans a0.len.2.1 a0.len.2.2
 have d2:inI64 (x1.length:Int):=rngNat d1
 refine Ak rfl (o_z ?_)
 obtain ⟨l0,e1,hm⟩:=bs hm
 refine Au (aft l0 (fun (f0:Int) (y0:Unit)=>[(5,(.int .i64 f0))]) (fun f0 y0 w'=>∃ O':Lab,Bs w A w' O'∧inI64 f0)) ?_ ?_
 ·
  refine AJ ?_
  replace hB:=hB.st g0
  replace h8:=h8.st g0
  replace b0:=b0.st g0
  replace c0:=c0.st g0
  replace d0:=d0.st g0
  refine Bh (σ:=Int) (X:=Unit) (x1.length) e1 rfl d1 (fun (f0:Int) (y0:Unit)=>[(2,(.pointer (some ⟨c1,0,none⟩))),(5,(.int .i64 f0)),(8,(.slice m1 x1.length n1))]) _ (fun f0 y0 w'=>∃ O':Lab,Bs w A w' O'∧Lc 2 w' O' c1 26 [(.slice A9 x0.vars.length q0),(.slice r0 x0.init.length s0),(.slice t0 x0.goal.length u0),(.slice v0 x0.jobs.length w0)]∧Vb w' (Fr 0 w' O') (.slice A9 x0.vars.length q0) x0.vars∧Vb w' (Fr 0 w' O') (.slice r0 x0.init.length s0) x0.init∧Vb w' (Fr 0 w' O') (.slice t0 x0.goal.length u0) x0.goal∧Vb w' (Fr 0 w' O') (.slice v0 x0.jobs.length w0) x0.jobs∧Vb w' (Fr 0 w' O') (.slice m1 x1.length n1) x1∧inI64 f0) _ () ⟨o1,hB,e0,h8,b0,c0,d0,a0,(show inI64 (0) from by decide)⟩ ⟨rfl,rfl,rfl,rfl,rfl,trivial⟩ (fun _ _=>⟨rfl,rfl⟩) (fun _ _=>⟨rfl,trivial⟩) (fun _ _ _ ⟨O',hB,e0,h8,b0,c0,d0,a0,m0⟩=>⟨O',hB,m0⟩) ⟨rfl,rfl,rfl⟩ ⟨rfl,rfl⟩ ?_
  rintro q1 n0 f0 y0 e2 r1 o0 ⟨s1,hB,e0,h8,b0,c0,d0,a0,m0⟩ h0 f1 g1
  have rk33:inI64 (q1:Int):=rngK o0 d1
  refine Ab (Aa ?_)
  obtain ⟨f2,g2,t1,h1,i1,j1,rfl,u1,v1⟩:=a0.elem' o0
  refine Bv (hA:=h1) (hj:=rfl) (hlt:=i1) rfl rfl ?_
  refine Bg (hl:=rfl) (hc:=j1) rfl ?_
  refine AT 3 s1 fun w1 h2 z0 i0 p0=>?_
  refine AD p0 rfl rfl rfl (AL) (allOne) fun a1 j0 p0=>?_
  replace p0:Lc 3 a1 z0 w1 52 [(.int .i64 n0.tm),(.int .i64 n0.job)]:=p0
  refine o_z ?_
  refine Aa (Ak rfl ?_)
  replace e0:=(e0.st i0).st j0
  refine Bg (hl:=rfl) (hc:=(e0.1).cellsAt) rfl ?_
  refine Bg (hl:=rfl) (hc:=(p0.1).cellsAt) rfl ?_
  obtain ⟨y1,z1,h0⟩:=bs h0
  replace h8:=(h8.st i0).st j0
  replace b0:=(b0.st i0).st j0
  replace c0:=(c0.st i0).st j0
  replace d0:=(d0.st i0).st j0
  refine AG (O:=z0) (A:=All a1) (R:=fun w' F v=>Vb w' F v y1) (DC (fun _ h=>h) (Vb.mono (F:=Fr 0 a1 z0) (Vb.ofAgg (cs:=[(.slice A9 x0.vars.length q0),(.slice r0 x0.init.length s0),(.slice t0 x0.goal.length u0),(.slice v0 x0.jobs.length w0)]) (x:=x0) rfl ⟨_,_,_,_,rfl,h8,b0,c0,d0⟩) Fr.lt) (Vb.mono (F:=Fr 0 a1 z0) (Vb.ofAgg (cs:=[(.int .i64 n0.tm),(.int .i64 n0.job)]) (x:=n0) rfl ⟨rfl,u1,v1⟩) Fr.lt) z1) rfl fun i2 j2 k2 k0 a2=>?_
  obtain ⟨rfl,b2⟩:=a2.int
  refine Tc rfl rfl rfl ?_
  refine Al rfl (o_z ?_)
  obtain rfl:=sm h0
  exact show Exists _ from ⟨_,(),rfl,⟨rfl,rfl,rfl,rfl,rfl,trivial⟩,_,((hB.st i0).st j0).st k0,e0.st k0,h8.st k0,b0.st k0,c0.st k0,d0.st k0,((a0.st i0).st j0).st k0,(rngMax m0 b2)⟩
 replace hB:=hB.st g0
 rintro l2 m2 ⟨n2,o2,rfl,k1,p2,hB,m0⟩
 replace hm:=AP hm
 refine AE _ k1 ?_
 refine Ab (Aa (Ak rfl (Al rfl (o_z ?_))))
 refine AC ?_
 obtain rfl:=sm hm
 exact ret1v rfl (At rfl) ⟨hB.ext,(vInt m0)⟩
end
section
open Go Go.RowKit Go.ChangeShapes Go.WideShapes Go.Deep
theorem Tl:Tryz.prog.cellsOf 66=7:=by kernel_rfl
theorem UN:Tryz.prog.cellsOf 24=1:=by kernel_rfl
theorem Vv:Tryz.prog.cellsOf 26=4:=by kernel_rfl
theorem Tm:Tryz.prog.cellsOf 52=2:=by kernel_rfl
theorem len7 {α:Type} {l:List α} (h:l.length=7):∃ a b c d e f g,l=[a,b,c,d,e,f,g]:=by
  match l,h with
  | [a,b,c,d,e,f,g],_=>exact ⟨a,b,c,d,e,f,g,rfl⟩
instance:Reads Tryz.prog 52 Lch:=⟨fun {H enc w n cs x} h=>by
  obtain ⟨hl,m,hf⟩:=readsField Tryz.underlying52 h
  obtain ⟨v0,v1,rfl⟩:=len2 (hl.trans Tm)
  obtain ⟨x0,g0⟩:=hf 0 3 0 1 rfl Ls
  replace g0:DataW.trod enc Tryz.prog w 0 (fun _=>true) true m 3 [v0]=some x0:=g0
  obtain ⟨x1,g1⟩:=hf 1 3 1 1 rfl Ls
  replace g1:DataW.trod enc Tryz.prog w 0 (fun _=>true) true m 3 [v1]=some x1:=g1
  obtain ⟨z0,e0,q0⟩:=(inferInstance:Reads Tryz.prog 3 Int).of g0
  obtain rfl:v0=.int .i64 z0:=by simpa using e0
  obtain ⟨z1,e1,q1⟩:=(inferInstance:Reads Tryz.prog 3 Int).of g1
  obtain rfl:v1=.int .i64 z1:=by simpa using e1
  exact ⟨⟨z0,z1⟩,rfl,q0,q1⟩⟩
instance:Reads Tryz.prog 50 (List Lch):=readsSlice Tryz.underlying50 Tm
instance:Reads Tryz.prog 66 Job:=⟨fun {H enc w n cs x} h=>by
  obtain ⟨hl,m,hf⟩:=readsField Tryz.underlying66 h
  obtain ⟨v0,v1,v2,v3,v4,v5,v6,rfl⟩:=len7 (hl.trans Tl)
  obtain ⟨x0,g0⟩:=hf 0 9 0 1 rfl Vm
  replace g0:DataW.trod enc Tryz.prog w 0 (fun _=>true) true m 9 [v0]=some x0:=g0
  obtain ⟨x1,g1⟩:=hf 1 3 1 1 rfl Ls
  replace g1:DataW.trod enc Tryz.prog w 0 (fun _=>true) true m 3 [v1]=some x1:=g1
  obtain ⟨x2,g2⟩:=hf 2 23 2 1 rfl Iu
  replace g2:DataW.trod enc Tryz.prog w 0 (fun _=>true) true m 23 [v2]=some x2:=g2
  obtain ⟨x3,g3⟩:=hf 3 23 3 1 rfl Iu
  replace g3:DataW.trod enc Tryz.prog w 0 (fun _=>true) true m 23 [v3]=some x3:=g3
  obtain ⟨x4,g4⟩:=hf 4 23 4 1 rfl Iu
  replace g4:DataW.trod enc Tryz.prog w 0 (fun _=>true) true m 23 [v4]=some x4:=g4
  obtain ⟨x5,g5⟩:=hf 5 23 5 1 rfl Iu
  replace g5:DataW.trod enc Tryz.prog w 0 (fun _=>true) true m 23 [v5]=some x5:=g5
  obtain ⟨x6,g6⟩:=hf 6 23 6 1 rfl Iu
  replace g6:DataW.trod enc Tryz.prog w 0 (fun _=>true) true m 23 [v6]=some x6:=g6
  obtain ⟨z0,e0,_,q0⟩:=DataW.trod_string Tryz.underlying9 g0
  obtain rfl:v0=.string z0:=by simpa using e0
  obtain ⟨z1,e1,q1⟩:=(inferInstance:Reads Tryz.prog 3 Int).of g1
  obtain rfl:v1=.int .i64 z1:=by simpa using e1
  obtain ⟨z2,q2⟩:=(inferInstance:Reads Tryz.prog 23 (List Fct)).of g2
  obtain ⟨z3,q3⟩:=(inferInstance:Reads Tryz.prog 23 (List Fct)).of g3
  obtain ⟨z4,q4⟩:=(inferInstance:Reads Tryz.prog 23 (List Fct)).of g4
  obtain ⟨z5,q5⟩:=(inferInstance:Reads Tryz.prog 23 (List Fct)).of g5
  obtain ⟨z6,q6⟩:=(inferInstance:Reads Tryz.prog 23 (List Fct)).of g6
  exact ⟨⟨z0,z1,z2,z3,z4,z5,z6⟩,v2,v3,v4,v5,v6,rfl,q2,q3,q4,q5,q6,by simpa [maxLen] using q0,q1⟩⟩
instance:Reads Tryz.prog 24 (List Job):=readsSlice Tryz.underlying24 Tl
instance:Reads Tryz.prog 26 Tpl:=⟨fun {H enc w n cs x} h=>by
  obtain ⟨hl,m,hf⟩:=readsField Tryz.underlying26 h
  obtain ⟨v0,v1,v2,v3,rfl⟩:=len4 (hl.trans Vv)
  obtain ⟨x0,g0⟩:=hf 0 22 0 1 rfl QX
  replace g0:DataW.trod enc Tryz.prog w 0 (fun _=>true) true m 22 [v0]=some x0:=g0
  obtain ⟨x1,g1⟩:=hf 1 22 1 1 rfl QX
  replace g1:DataW.trod enc Tryz.prog w 0 (fun _=>true) true m 22 [v1]=some x1:=g1
  obtain ⟨x2,g2⟩:=hf 2 23 2 1 rfl Iu
  replace g2:DataW.trod enc Tryz.prog w 0 (fun _=>true) true m 23 [v2]=some x2:=g2
  obtain ⟨x3,g3⟩:=hf 3 24 3 1 rfl UN
  replace g3:DataW.trod enc Tryz.prog w 0 (fun _=>true) true m 24 [v3]=some x3:=g3
  obtain ⟨z0,q0⟩:=(inferInstance:Reads Tryz.prog 22 (List Int)).of g0
  obtain ⟨z1,q1⟩:=(inferInstance:Reads Tryz.prog 22 (List Int)).of g1
  obtain ⟨z2,q2⟩:=(inferInstance:Reads Tryz.prog 23 (List Fct)).of g2
  obtain ⟨z3,q3⟩:=(inferInstance:Reads Tryz.prog 24 (List Job)).of g3
  exact ⟨⟨z0,z1,z2,z3⟩,v0,v1,v2,v3,rfl,q0,q1,q2,q3⟩⟩
end
section
section
variable {α σ ρ : Type}
theorem BH {s:σ} {f:σ→Option ρ}:fin (.done s) f=f s:=rfl
theorem Vw {c:ρ} {f:σ→Option ρ}:fin (.ret c) f=some c:=rfl
theorem EG {x y:α}:(if true=true then x else y)=x:=rfl
theorem GI {x y:α}:(if false=true then x else y)=y:=rfl
theorem KV {f:Nat→α→σ→Option (Ctl σ ρ)} {I:Nat→σ→Prop} {R:ρ→Prop}:∀ (ys:List α) (j:Nat) (s:σ),I j s →
    (∀ k x s,ys[k]?=some x→I (j + k) s→(∃ s',f (j + k) x s=some (.next s')∧I (j + k + 1) s')∨(∃ r,f (j + k) x s=some (.ret r)∧R r)) →
    (∃ s',rng f ys j s=some (.done s')∧I (j + ys.length) s')∨∃ r,rng f ys j s=some (.ret r)∧R r
  | [],j,s,h0,_=>.inl ⟨s,rfl,h0⟩
  | y :: ys,j,s,h0,h=>by
    rcases h 0 y s rfl h0 with ⟨s',h1,h2⟩|⟨r,h1,h2⟩
    · have h1':f j y s=some (.next s'):=h1
      simp only [rng,h1']
      rcases KV (I:=I) (R:=R) ys (j + 1) s' h2 (fun k x s hk hI=>by
        have:=h (k + 1) x s (by simpa using hk) (by rwa [show j + (k + 1)=j + 1 + k from by omega])
        rwa [show j + (k + 1)=j + 1 + k from by omega] at this) with ⟨s2,h3,h4⟩|h3
      · exact .inl ⟨s2,h3,by rw [List.length_cons,show j + (ys.length + 1)=j + 1 + ys.length from by omega];exact h4⟩
      · exact .inr h3
    · have h1':f j y s=some (.ret r):=h1
      simp only [rng,h1']
      exact .inr ⟨r,rfl,h2⟩
theorem TG {f:Nat→α→σ→Option (Ctl σ ρ)} {xs:List α} {s₀:σ} (I:Nat→σ→Prop) (R:ρ→Prop) (h0:I 0 s₀)
    (h:∀ k x s,xs[k]?=some x→I k s→(∃ s',f k x s=some (.next s')∧I (k + 1) s')∨(∃ r,f k x s=some (.ret r)∧R r)) :
    (∃ s',rng f xs 0 s₀=some (.done s')∧I xs.length s')∨∃ r,rng f xs 0 s₀=some (.ret r)∧R r:=by
  have:=KV (f:=f) (I:=I) (R:=R) xs 0 s₀ h0 (fun k x s hk hI=>by rw [Nat.zero_add] at hI ⊢;exact h k x s hk hI)
  rwa [Nat.zero_add] at this
theorem Np {f:Nat→α→σ→Option (Ctl σ ρ)} {xs:List α} {s₀:σ} (I:Nat→σ→Prop) (h0:I 0 s₀) (h:∀ k x s,xs[k]?=some x→I k s→∃ s',f k x s=some (.next s')∧I (k + 1) s') :
    ∃ s',rng f xs 0 s₀=some (.done s')∧I xs.length s':=by
  rcases TG I (fun _=>False) h0 (fun k x s hk hI=>.inl (h k x s hk hI)) with h|⟨_,_,h⟩
  · exact h
  · exact h.elim
theorem PN {f:Nat→α→σ→Option (Ctl σ ρ)} {xs:List α} (g:Nat→σ) (h:∀ k x,xs[k]?=some x→f k x (g k)=some (.next (g (k + 1)))):rng f xs 0 (g 0)=some (.done (g xs.length)):=by
  obtain ⟨s',h1,h2⟩:=Np (f:=f) (xs:=xs) (s₀:=g 0) (fun k s=>s=g k) rfl (fun k x s hk hI=>⟨_,by rw [hI];exact h k x hk,rfl⟩)
  rw [h1,h2]
theorem CF {f:Nat→α→σ→Option (Ctl σ ρ)} {xs:List α} {s₀:σ} (g:Nat→σ) (h0:s₀=g 0) (h:∀ k x,xs[k]?=some x→f k x (g k)=some (.next (g (k + 1)))):rng f xs 0 s₀=some (.done (g xs.length)):=by
  rw [h0];exact PN g h
theorem Sf {f:Nat→σ→Option (Ctl σ ρ)} {N:Nat} (g:Nat→σ) (h:∀ k,k < N→f k (g k)=some (.next (g (k + 1)))):rngN f N (g 0)=some (.done (g N)):=by
  have:=PN (f:=fun _ k s=>f k s) (xs:=List.range N) g (fun k x hk=>by
    obtain ⟨hlt,rfl⟩:=List.getElem?_eq_some_iff.1 hk
    simpa using h k (by simpa using hlt))
  rwa [List.length_range] at this
theorem HY {f:Nat→σ→Option (Ctl σ ρ)} {N:Nat} {s₀:σ} (g:Nat→σ) (h0:s₀=g 0) (h:∀ k,k < N→f k (g k)=some (.next (g (k + 1)))):rngN f N s₀=some (.done (g N)):=by
  rw [h0];exact Sf g h
end
end
section
section
variable {α σ ρ β : Type}
theorem TH {f:σ→Option (Ctl σ ρ)} (I:σ→Prop) (B:σ→Prop) (R:ρ→Prop) (μ:σ→Nat) (h:∀ s,I s→(∃ s',f s=some (.next s')∧I s'∧μ s' < μ s)∨(∃ s',f s=some (.brk s')∧B s')∨∃ r,f s=some (.ret r)∧R r) :
    ∀ s,I s→(∃ s',lop f s=some (.done s')∧B s')∨∃ r,lop f s=some (.ret r)∧R r:=by
  have key:∀ (n:Nat) s,I s→μ s < n→(∃ s',lop f s=some (.done s')∧B s')∨∃ r,lop f s=some (.ret r)∧R r:=by
    intro n
    induction n with
    | zero=>intro s _ hn;omega
    | succ n ih =>
      intro s hI hn
      rw [OI]
      rcases h s hI with ⟨s',h1,h2,h3⟩|⟨s',h1,h2⟩|⟨r,h1,h2⟩
      · rw [h1];exact ih s' h2 (by omega)
      · rw [h1];exact .inl ⟨s',rfl,h2⟩
      · rw [h1];exact .inr ⟨r,rfl,h2⟩
  exact fun s hI=>key (μ s + 1) s hI (by omega)
theorem UO {f:Nat→α→σ→Option (Ctl σ ρ)} {xs:List α} {s₀:σ} {k:Fin σ ρ→Option β} {P:β→Prop} (I:Nat→σ→Prop) (R:ρ→Prop) (h0:I 0 s₀)
    (h:∀ i x s,xs[i]?=some x→I i s→(∃ s',f i x s=some (.next s')∧I (i + 1) s')∨∃ q,f i x s=some (.ret q)∧R q)
    (hb:∀ s,I xs.length s→∃ r,k (.done s)=some r∧P r) (hr:∀ q,R q→∃ r,k (.ret q)=some r∧P r):∃ r,bnd (rng f xs 0 s₀) k=some r∧P r:=by
  have key:∀ (ys:List α) (j:Nat) (s:σ),(∀ i,ys[i]?=xs[j + i]?)→j + ys.length=xs.length→I j s→∃ r,bnd (rng f ys j s) k=some r∧P r:=by
    intro ys
    induction ys with
    | nil=>intro j s _ hl hI;exact hb s (by simp at hl;rw [← hl];exact hI)
    | cons y ys ih =>
      intro j s hg hl hI
      have hy:xs[j]?=some y:=by have:=hg 0;simpa using this.symm
      simp only [rng]
      rcases h j y s hy hI with ⟨s',h1,h2⟩|⟨q,h1,h2⟩
      · rw [h1]
        exact ih (j + 1) s' (fun i=>by have:=hg (i + 1);rw [show j + 1 + i=j + (i + 1) from by omega,← this];simp) (by simp at hl;omega) h2
      · rw [h1,Ae];exact hr q h2
  exact key xs 0 s₀ (fun i=>by rw [Nat.zero_add]) (by omega) h0
theorem TI {f:Nat→α→σ→Option (Ctl σ ρ)} {xs:List α} {s₀:σ} {k:Fin σ ρ→Option β} {r:Option β} (I:Nat→σ→Prop) (h0:I 0 s₀)
    (h:∀ i x s,xs[i]?=some x→I i s→∃ s',f i x s=some (.next s')∧I (i + 1) s') (hb:∀ s,I xs.length s→k (.done s)=r):bnd (rng f xs 0 s₀) k=r:=by
  obtain ⟨s,h1,h2⟩:=Np I h0 h
  rw [h1,Ae]
  exact hb s h2
end
end
section
open Go Go.RowKit
theorem KW {α ρ:Type} {f:Nat→α→Unit→Option (Ctl Unit ρ)} (p:α→Bool) (c:Nat→ρ):∀ (xs:List α) (k0:Nat),(∀ k a,xs[k]?=some a→f (k0 + k) a ()=if p a=true then some (.ret (c (k0 + k))) else some (.next ())) →
    (xs.any p=true→∃ k,rng f xs k0 ()=some (.ret (c k))∧k0≤k)∧(xs.any p=false→rng f xs k0 ()=some (.done ()))
  | [],k0,_=>⟨fun h=>by simp at h,fun _=>rfl⟩
  | x :: xs,k0,h=>by
    have h0:=h 0 x rfl
    rw [Nat.add_zero] at h0
    have ih:=KW p c xs (k0 + 1) fun k a hk=>by
      have:=h (k + 1) a (by simpa using hk)
      rwa [show k0 + (k + 1)=k0 + 1 + k from by omega] at this
    by_cases hp:p x=true
    · rw [if_pos hp] at h0
      refine ⟨fun _=>⟨k0,by rw [rng,h0],Nat.le_refl _⟩,fun hf=>?_⟩
      simp [hp] at hf
    · rw [if_neg hp] at h0
      have hp':p x=false:=by simpa using hp
      refine ⟨fun ha=>?_,fun hf=>?_⟩
      · obtain ⟨k,h1,h2⟩:=ih.1 (by simpa [hp'] using ha)
        exact ⟨k,by rw [rng,h0];exact h1,by omega⟩
      · rw [rng,h0];exact ih.2 (by simpa [hp'] using hf)
theorem Jz {α ρ β:Type} {f:Nat→α→Unit→Option (Ctl Unit ρ)} {xs:List α} {K:Fin Unit ρ→Option β} (p:α→Bool) (c:ρ) (h:∀ k a,xs[k]?=some a→f k a ()=if p a=true then some (.ret c) else some (.next ())) :
    bnd (rng f xs 0 ()) K=if xs.any p=true then K (.ret c) else K (.done ()):=by
  have:=KW (f:=f) p (fun _=>c) xs 0 (fun k a hk=>by rw [Nat.zero_add];exact h k a hk)
  by_cases ha:xs.any p=true
  · obtain ⟨k,h1,_⟩:=this.1 ha
    rw [h1,Ae,if_pos ha]
  · rw [this.2 (by simpa using ha),Ae,if_neg ha]
theorem Oy {p q:Prop} [Decidable p] [Decidable q]:(if p then some true else if q then some true else some false:Option Bool)=some (decide p || decide q):=by
  by_cases hp:p
  · simp [hp]
  · by_cases hq:q<;>simp [hp,hq]
def lstJ (j:Job):List (List Fct):=[j.start,j.over,j.fin,j.atStart,j.atEnd]
def lsts (t:Tpl):List (List Fct):=t.goal :: t.jobs.flatMap lstJ
theorem Sg {t:Tpl} (h:t.jobs.length≤30):DA t=some (lsts t):=by
  unfold DA
  have hl:∀ k,((t.jobs.take k).flatMap lstJ).length≤150:=fun k=>by
    have:∀ js:List Job,(js.flatMap lstJ).length=5 * js.length:=fun js=>by
      induction js with
      | nil=>rfl
      | cons j js ih=>rw [List.flatMap_cons,List.length_append,ih];simp [lstJ];omega
    rw [this,List.length_take];omega
  rw [CF (fun k=>t.goal :: (t.jobs.take k).flatMap lstJ) (by simp) (fun k x hk=>by
    have h1:=hl k
    rw [Bb (by rw [List.length_cons];simp only [List.length_cons,List.length_nil];omega) (by rw [List.length_cons];simp only [List.length_cons,List.length_nil];omega),Ae,List.take_add_one,hk]
    simp [lstJ]),Ae,BH,List.take_length]
  rfl
theorem Ri (s:ByteArray):∃ b,CQ s=some b:=by
  unfold CQ
  unfold rngN
  rw [Jz (fun k:Nat=>match bytI s (k:Int) with|some n=>decide (n < 32) || decide (126 < n)|none=>false) false (fun k a hk=>by
    have ha:a < s.size:=by
      have:=List.mem_of_getElem? hk
      simpa using this
    simp only [Ty ha,Ae,Oy])]
  split
  · exact ⟨_,rfl⟩
  · rw [BH]
    split
    · exact ⟨_,rfl⟩
    · exact ⟨_,rfl⟩
noncomputable def nmB (s:ByteArray):Bool:=(CQ s).getD false
theorem UP (s:ByteArray):CQ s=some (nmB s):=by
  obtain ⟨b,hb⟩:=Ri s
  unfold nmB
  rw [hb];rfl
noncomputable def tck (t:Tpl):Int :=
  if (decide (64 < t.vars.length) || (decide (24 < t.jobs.length) || (lsts t).any fun l=>decide (64 < l.length)))=true then 5
  else if (t.vars.any fun n=>decide (n < 1) || decide (64 < n))=true then 1
  else if (t.jobs.any fun j=>decide (j.dur < 1) || decide (62 < j.dur))=true then 1
  else if bof (StateOk t.vars t.init)=true then
    (if ((lsts t).any fun l=>!bof (FactsOk t.vars l))=true then 2
     else if (t.jobs.any fun j=>!nmB j.name)=true then 8 else 0)
  else 2
theorem Gs {α:Type} {f:Nat→α→Unit→Option (Ctl Unit Int)} {xs:List α} (p:α→Bool) (h:∀ k a,xs[k]?=some a→f k a ()=if p a=true then some (.ret (k:Int)) else some (.next ())) :
    (bnd (bnd (bnd (rng f xs 0 ()) fun res=>fin res fun _=>some (-1)) fun q=>if 0≤q then (some true) else (some false):Option Bool) fun y=>some y)=some (xs.any p):=by
  have:=KW (f:=f) p (fun k=>(k:Int)) xs 0 (fun k a hk=>by rw [Nat.zero_add];exact h k a hk)
  by_cases ha:xs.any p=true
  · obtain ⟨k,h1,_⟩:=this.1 ha
    rw [h1,Ae,Vw,Ae,if_pos (by omega),Ae,ha]
  · rw [this.2 (by simpa using ha),Ae,BH,Ae,if_neg (by omega),Ae]
    rw [Bool.not_eq_true] at ha
    rw [ha]
theorem contains1 (q:List (List Fct)):AV q=some (q.any fun l=>decide (64 < l.length)):=by
  unfold AV Bi
  exact Gs _ fun k a hk=>by
    unfold Du
    by_cases h:64 < a.length
    · rw [if_pos (by omega:(64:Int) < (a.length:Int))];simp [h,Ae]
    · rw [if_neg (by omega:¬ (64:Int) < (a.length:Int))];simp [h,Ae]
theorem contains2 (q:List (List Fct)) (t:Tpl):AW q t=some (q.any fun l=>!bof (FactsOk t.vars l)):=by
  unfold AW Bj
  exact Gs _ fun k a hk=>by
    unfold Dv Gr
    rw [Ae]
    cases bof (FactsOk t.vars a)<;>rfl
theorem HZ {t:Tpl} (h:t.jobs.length≤30):Dj t=some ⟨tck t⟩:=by
  unfold Dj
  rw [Sg h,Ae,contains1,Ae]
  have e1:(if 64 < (t.vars.length:Int) then (some true) else (if 24 < (t.jobs.length:Int) then (some true) else (if ((lsts t).any fun l=>decide (64 < l.length))=true then some true else some false)):Option Bool)=some (decide (64 < t.vars.length) || (decide (24 < t.jobs.length) || (lsts t).any fun l=>decide (64 < l.length))):=by
    by_cases h1:64 < t.vars.length
    · rw [if_pos (by omega)];simp [h1]
    · rw [if_neg (by omega)]
      by_cases h2:24 < t.jobs.length
      · rw [if_pos (by omega)];simp [h2]
      · rw [if_neg (by omega)]
        cases (lsts t).any fun l=>decide (64 < l.length)<;>simp [h1,h2]
  rw [e1,Ae]
  unfold tck
  split
  · rfl
  rw [Jz (fun n:Int=>decide (n < 1) || decide (64 < n)) ⟨1⟩ (fun k a hk=>by rw [Oy,Ae])]
  split
  · rfl
  rw [BH,Jz (fun j:Job=>decide (j.dur < 1) || decide (62 < j.dur)) ⟨1⟩ (fun k a hk=>by rw [Oy,Ae])]
  split
  · rfl
  rw [BH]
  unfold CT
  rw [Ae]
  cases bof (StateOk t.vars t.init) with
  | false=>rfl
  | true =>
    rw [EG,EG,contains2,Ae]
    cases (lsts t).any fun l=>!bof (FactsOk t.vars l) with
    | true=>rfl
    | false =>
      rw [GI,GI,Ae,GI]
      rw [Jz (fun j:Job=>!nmB j.name) ⟨8⟩ (fun k a hk=>by
        rw [UP,Ae]
        cases nmB a.name<;>rfl)]
      split<;>rfl
structure TplOk (t:Tpl):Prop where
  nv:t.vars.length≤64
  nj:t.jobs.length≤24
  doms:∀ n∈t.vars,1≤n∧n≤64
  durs:∀ j∈t.jobs,1≤j.dur∧j.dur≤62
  init:StateOk t.vars t.init
  lists:∀ l∈lsts t,l.length≤64∧FactsOk t.vars l
theorem JA {t:Tpl} (h:tck t=0):TplOk t:=by
  unfold tck at h
  split at h
  · cases h
  rename_i h1
  split at h
  · cases h
  rename_i h2
  split at h
  · cases h
  rename_i h3
  split at h
  · rename_i h4
    split at h
    · cases h
    rename_i h5
    simp only [Bool.or_eq_true,decide_eq_true_eq,List.any_eq_true,not_or,not_exists,not_and] at h1 h2 h3
    simp only [List.any_eq_true,not_exists,not_and,Bool.not_eq_true',Bool.not_eq_false] at h5
    refine ⟨by omega,by omega,fun n hn=>?_,fun j hj=>?_,Iv.1 h4,fun l hl=>⟨?_,Iv.1 (h5 l hl)⟩⟩
    · have:=h2 n hn;omega
    · have:=h3 j hj;omega
    · have:=h1.2.2 l hl;omega
  · cases h
end
section
open Go Go.RowKit
attribute [local irreducible] ewp owp hwp hwq Ev Evg Fn retPost Res1
noncomputable def Dl (x0:Tsk) (x1:List Int) (x2:Int):Option ((List Int)×Err) :=
  bnd (if x2 < 0 then (some true) else (if (x0.ops.length:Int)≤x2 then (some true) else (some false)):Option Bool) fun y28=>if y28=true then (some (([]:List Int),(⟨1⟩:Err))) else (bnd (CT x0.vars x1) fun q41=>if q41=true then bnd (atI x0.ops x2) fun a48=>bnd (Cq a48.pre x1) fun q69=>if q69=true then bnd (Bw x1) fun q76=>bnd (atI x0.ops x2) fun a86=>bnd (rng (ρ:=(List Int)×Err) (fun (k113:Nat) (a114:Eff) (s111:(List Int))=>bnd (Cq a114.cond x1) fun q148=>if q148=true then bnd (atI s111 a114.var) fun a155=>some (.next (s111.set (a114.var:Int).toNat a114.val)) else some (.next s111)) a86.effs 0 q76) fun res109=>fin res109 fun (s173:(List Int))=>some (s173,(⟨0⟩:Err)) else some (([]:List Int),(⟨12⟩:Err)) else some (([]:List Int),(⟨2⟩:Err)))
theorem OO {w:World} {A:Nat→Prop} (hA:∀ k,A k→k < w.heap.size) {vx0:Value} {x0:Tsk} (a2:Vb w A vx0 x0) {vx1:Value} {x1:List Int} (c0:Vb w A vx1 x1) {x2:Int} (rx2:inI64 x2) {r:(List Int)×Err} (hm:Dl x0 x1 x2=some r) :
    Fn Tryz.prog 80 [vx0,vx1,(.int .i64 x2)] w fun v w'=>Ext w w'∧T2 w' (upA A w w') v r:=by
 obtain ⟨O,hB,i3⟩:=enter hA
 replace a2:=a2.mono i3
 obtain ⟨l5,rfl,v5,v6,v7,v8,rfl,h9,u0,v0,i0⟩:=a2
 obtain ⟨b2,c2,rfl⟩:=h9.form
 obtain ⟨d2,e2,rfl⟩:=u0.form
 obtain ⟨f2,g2,rfl⟩:=v0.form
 obtain ⟨h2,i2,rfl⟩:=i0.form
 replace c0:=c0.mono i3
 obtain ⟨o1,p1,rfl⟩:=c0.form
 refine AH Tryz.func80 rfl Tryz.ntmps80 ?_
 unfold Dl at hm
 refine Ab (Aa (BQ 2 O rfl fun j2 r3 s3 d0 l0=>?_))
 replace l0:Lc 2 r3 s3 j2 31 [(.slice b2 x0.vars.length c2),(.slice d2 x0.init.length e2),(.slice f2 x0.goal.length g2),(.slice h2 x0.ops.length i2)]:=l0
 refine Al rfl (Al rfl (o_z ?_))
 refine Ab (AJ (Ab ?_))
 obtain ⟨t3,e0,hm⟩:=bs hm
 refine Au (fun l' w'=>∃ (u3:Unit) (O':Lab),subs l' [(1,(.slice o1 x1.length p1)),(2,(.int .i64 x2)),(3,(.pointer (some ⟨j2,0,none⟩))),(11,(.bool t3))]∧Bs w A w' O'∧Vb w' (Fr 0 w' O') (.slice o1 x1.length p1) x1∧Lc 2 w' O' j2 31 [(.slice b2 x0.vars.length c2),(.slice d2 x0.init.length e2),(.slice f2 x0.goal.length g2),(.slice h2 x0.ops.length i2)]∧Vb w' (Fr 0 w' O') (.slice b2 x0.vars.length c2) x0.vars∧Vb w' (Fr 0 w' O') (.slice d2 x0.init.length e2) x0.init∧Vb w' (Fr 0 w' O') (.slice f2 x0.goal.length g2) x0.goal∧Vb w' (Fr 0 w' O') (.slice h2 x0.ops.length i2) x0.ops) ?_ ?_
 ·
  refine Aa (Ak rfl (Ep rfl rfl (fun k2=>?_) fun k2=>?_))
  ·
   replace e0:=ip e0 k2
   refine Ak rfl (Am rfl rfl (Am rfl rfl (Am rfl rfl (Am rfl rfl (Am rfl rfl (BD rfl rfl (Al rfl (o_z ?_))))))))
   obtain rfl:=sm e0
   exact ⟨(),_,⟨rfl,rfl,rfl,rfl,trivial⟩,hB.st d0,c0.st d0,l0,h9.st d0,u0.st d0,v0.st d0,i0.st d0⟩
  replace e0:=im e0 k2
  refine Ak rfl (An rfl rfl (Ak rfl (An rfl rfl (AB rfl (An rfl rfl (Az (hc:=Blk.cell (i:=3) (l0.1) rfl) rfl ?_))))))
  refine An rfl rfl (AR rfl ?_)
  replace i0:=i0.st d0
  have v3:x0.ops.length≤9223372036854775807:=Nat.le_trans i0.len.2.1 i0.len.2.2
  have m5:inI64 (x0.ops.length:Int):=rngNat v3
  refine An rfl rfl (Fs rfl rfl (fun l2=>?_) fun l2=>?_)
  ·
   replace e0:=ip e0 l2
   refine By rfl rfl (Al rfl (o_z ?_))
   obtain rfl:=sm e0
   exact ⟨(),_,⟨rfl,rfl,rfl,rfl,trivial⟩,hB.st d0,c0.st d0,l0,h9.st d0,u0.st d0,v0.st d0,i0⟩
  replace e0:=im e0 l2
  refine By rfl rfl (Al rfl (o_z ?_))
  obtain rfl:=sm e0
  exact ⟨(),_,⟨rfl,rfl,rfl,rfl,trivial⟩,hB.st d0,c0.st d0,l0,h9.st d0,u0.st d0,v0.st d0,i0⟩
 replace hB:=hB.st d0
 replace c0:=c0.st d0
 replace h9:=h9.st d0
 replace u0:=u0.st d0
 replace v0:=v0.st d0
 replace i0:=i0.st d0
 rintro n5 q1 ⟨u3,r1,m2,hB,c0,l0,h9,u0,v0,i0⟩
 refine AE _ m2 ?_
 refine Cw rfl (fun n2=>?_) (fun n2=>?_)
 ·
  replace hm:=ip hm n2
  refine Ab (Aa (Fb rfl ?_))
  refine Al rfl (Al rfl (o_z ?_))
  refine AC ?_
  obtain rfl:=sm hm
  exact ret2 rfl (At rfl) (At rfl) ⟨hB.ext,_,_,rfl,(Vb.mono (F:=Fr 0 q1 r1) (Vb.nil _ _) hB.out),(vErr (by decide))⟩
 replace hm:=im' hm n2
 refine Ab (Aa (AB rfl (Az (hc:=Blk.cell (i:=0) (l0.1) rfl) rfl ?_)))
 refine Ak rfl ?_
 obtain ⟨j3,w3,hm⟩:=bs hm
 refine AG (O:=r1) (A:=All q1) (R:=fun w' F v=>Vb w' F v j3) (If (fun _ h=>h) (Vb.mono (F:=Fr 0 q1 r1) h9 Fr.lt) (Vb.mono (F:=Fr 0 q1 r1) c0 Fr.lt) w3) rfl fun o5 s1 t1 w0 x3=>?_
 obtain rfl:=x3.bool
 cases j3
 case false =>
  replace hm:=iF hm
  refine Fd rfl (Al rfl (o_z ?_))
  refine Aj rfl (Ab (Aa (Fb rfl ?_)))
  refine Al rfl (Al rfl (o_z ?_))
  refine AC ?_
  obtain rfl:=sm hm
  replace hB:=hB.st w0
  exact ret2 rfl (At rfl) (At rfl) ⟨hB.ext,_,_,rfl,(Vb.mono (F:=Fr 0 s1 t1) (Vb.nil _ _) hB.out),(vErr (by decide))⟩
 replace hm:=iT hm
 refine Fc rfl (Al rfl (o_z ?_))
 refine Ah rfl (Ab (Aa (AB rfl ?_)))
 replace l0:=l0.st w0
 refine Az (hc:=Blk.cell (i:=3) (l0.1) rfl) rfl ?_
 refine Ak rfl ?_
 obtain ⟨p5,y3,hm⟩:=bs hm
 obtain ⟨z3,a4⟩:=BO y3
 replace i0:=i0.st w0
 obtain ⟨q5,r5,b4,o2,p2,q2,s5,t5,rfl,k3,c4,u5,w5⟩:=i0.elem' a4
 obtain ⟨x5,y5,rfl⟩:=k3.form
 obtain ⟨z5,a6,rfl⟩:=c4.form
 refine Bv (hA:=o2) (hj:=(Int.toNat_of_nonneg z3).symm) (hlt:=p2) rfl rfl ?_
 refine AB rfl (Az (hc:=cat2 q2) rfl ?_)
 refine Ak rfl ?_
 obtain ⟨l3,d4,hm⟩:=bs hm
 replace c0:=c0.st w0
 refine AG (O:=t1) (A:=All s1) (R:=fun w' F v=>Vb w' F v l3) (Gq (fun _ h=>h) (Vb.mono (F:=Fr 0 s1 t1) k3 Fr.lt) (Vb.mono (F:=Fr 0 s1 t1) c0 Fr.lt) d4) rfl fun b6 e4 m3 b1 f4=>?_
 obtain rfl:=f4.bool
 cases l3
 case false =>
  replace hm:=iF hm
  refine Fd rfl (Al rfl (o_z ?_))
  refine Aj rfl (Ab (Aa (Fb rfl ?_)))
  refine Al rfl (Al rfl (o_z ?_))
  refine AC ?_
  obtain rfl:=sm hm
  replace hB:=(hB.st w0).st b1
  exact ret2 rfl (At rfl) (At rfl) ⟨hB.ext,_,_,rfl,(Vb.mono (F:=Fr 0 e4 m3) (Vb.nil _ _) hB.out),(vErr (by decide))⟩
 replace hm:=iT hm
 refine Fc rfl (Al rfl (o_z ?_))
 refine Ah rfl (AK (Ab (Aa (Ak rfl ?_))))
 obtain ⟨u1,g4,hm⟩:=bs hm
 replace c0:=c0.st b1
 refine Dh 3 (O:=m3) (Dq Fr.lt c0 g4) rfl fun v1 w1 c6 h4 d1 i4=>?_
 refine Al rfl (o_z ?_)
 refine Ab (Ab (Aa (AB rfl ?_)))
 replace l0:=(l0.st b1).st d1
 refine Az (hc:=Blk.cell (i:=3) (l0.1) rfl) rfl ?_
 refine Ak rfl ?_
 obtain ⟨c1,j4,hm⟩:=bs hm
 obtain ⟨k4,l4⟩:=BO j4
 replace i0:=(i0.st b1).st d1
 obtain ⟨d6,e6,m4,r2,s2,t2,f6,g6,rfl,n4,f0,o4,p4⟩:=i0.elem' l4
 obtain ⟨q4,r4,rfl⟩:=n4.form
 obtain ⟨e1,f1,rfl⟩:=f0.form
 refine Bv (hA:=r2) (hj:=(Int.toNat_of_nonneg k4).symm) (hlt:=s2) rfl rfl ?_
 refine AB rfl (Az (hc:=cat3 t2) rfl ?_)
 refine AR rfl ?_
 have y0:c1.effs.length≤9223372036854775807:=Nat.le_trans f0.len.2.1 f0.len.2.2
 have s4:inI64 (c1.effs.length:Int):=rngNat y0
 refine Ak rfl (o_z ?_)
 obtain ⟨z0,g1,hm⟩:=bs hm
 refine Au (aft z0 (fun (m0:(List Int)) (n0:Unit)=>[(8,(.slice v1 u1.length w1))]) (fun m0 n0 w'=>∃ O':Lab,Bs w A w' O'∧Rw 3 w' O' 3 (.slice v1 u1.length w1) m0)) ?_ ?_
 ·
  refine AJ ?_
  replace hB:=((hB.st w0).st b1).st d1
  replace c0:=c0.st d1
  refine Bh (σ:=(List Int)) (X:=Unit) (c1.effs.length) g1 rfl y0 (fun (m0:(List Int)) (n0:Unit)=>[(1,(.slice o1 x1.length p1)),(8,(.slice v1 u1.length w1)),(47,(.slice e1 c1.effs.length f1))]) _ (fun m0 n0 w'=>∃ O':Lab,Bs w A w' O'∧Vb w' (Fr 0 w' O') (.slice o1 x1.length p1) x1∧Rw 3 w' O' 3 (.slice v1 u1.length w1) m0∧Vb w' (Fr 0 w' O') (.slice e1 c1.effs.length f1) c1.effs) _ () ⟨h4,hB,c0,i4,f0⟩ ⟨rfl,rfl,rfl,rfl,rfl,trivial⟩ (fun _ _=>⟨rfl,rfl⟩) (fun _ _=>⟨rfl,trivial⟩) (fun _ _ _ ⟨O',hB,c0,b0,f0⟩=>⟨O',hB,b0⟩) ⟨rfl,rfl,rfl⟩ ⟨rfl,rfl⟩ ?_
  rintro u2 o0 m0 n0 t4 n3 s0 ⟨v2,hB,c0,b0,f0⟩ a0 y1 z1
  have rk113:inI64 (u2:Int):=rngK s0 y0
  refine Ab (Aa ?_)
  obtain ⟨u4,v4,o3,h1,i1,j1,w4,rfl,p0,x4,w2⟩:=f0.elem' s0
  obtain ⟨y2,z2,rfl⟩:=p0.form
  refine Bv (hA:=h1) (hj:=rfl) (hlt:=i1) rfl rfl ?_
  refine Bg (hl:=rfl) (hc:=j1) rfl ?_
  refine AT 4 v2 fun a3 y4 q0 j0 g0=>?_
  refine AD g0 rfl rfl rfl (AL) (allOne) fun r0 k0 g0=>?_
  replace g0:Lc 4 r0 q0 a3 85 [(.slice y2 o0.cond.length z2),(.int .i64 o0.var),(.int .i64 o0.val)]:=g0
  refine o_z ?_
  refine Ab (Aa (AB rfl (Az (hc:=Blk.cell (i:=0) (g0.1) rfl) rfl ?_)))
  refine Ak rfl ?_
  obtain ⟨k1,b3,a0⟩:=bs a0
  replace c0:=(c0.st j0).st k0
  replace p0:=(p0.st j0).st k0
  refine AG (O:=q0) (A:=All r0) (R:=fun w' F v=>Vb w' F v k1) (Gq (fun _ h=>h) (Vb.mono (F:=Fr 0 r0 q0) p0 Fr.lt) (Vb.mono (F:=Fr 0 r0 q0) c0 Fr.lt) b3) rfl fun z4 a5 b5 h0 c3=>?_
  obtain rfl:=c3.bool
  cases k1
  case false =>
   replace a0:=iF a0
   refine o_z ?_
   refine Ah rfl (AK ?_)
   obtain rfl:=sm a0
   exact show Exists _ from ⟨_,(),rfl,⟨rfl,rfl,rfl,rfl,rfl,trivial⟩,_,((hB.st j0).st k0).st h0,c0.st h0,((b0.st j0).st k0).st h0,((f0.st j0).st k0).st h0⟩
  replace a0:=iT a0
  refine o_z ?_
  refine Aj rfl (Aa (Ak rfl (AB rfl ?_)))
  replace g0:=g0.st h0
  refine Az (hc:=Blk.cell (i:=1) (g0.1) rfl) rfl ?_
  refine AB rfl (Az (hc:=Blk.cell (i:=2) (g0.1) rfl) rfl ?_)
  obtain ⟨c5,d3,a0⟩:=bs a0
  obtain ⟨e3,l1⟩:=BO d3
  replace b0:=((b0.st j0).st k0).st h0
  obtain ⟨d5,e5,p3,t0,m1,q3,rfl,f5⟩:=b0.elem l1
  refine Bv (hA:=t0) (hj:=(Int.toNat_of_nonneg e3).symm) (hlt:=m1) rfl rfl ?_
  refine IA rfl b0 (a:=o0.val) (vInt w2) t0 rfl rfl (Bl l1) fun g5 a1 b0=>?_
  refine o_z ?_
  obtain rfl:=sm a0
  exact show Exists _ from ⟨_,(),rfl,⟨rfl,rfl,rfl,rfl,rfl,trivial⟩,_,(((hB.st j0).st k0).st h0).st a1,(c0.st h0).st a1,b0,(((f0.st j0).st k0).st h0).st a1⟩
 replace hB:=((hB.st w0).st b1).st d1
 rintro h5 f3 ⟨i5,j5,rfl,n1,k5,hB,b0⟩
 replace hm:=AP hm
 refine AE _ n1 ?_
 refine Ab (Aa (Ak rfl (Al rfl (Al rfl (o_z ?_)))))
 refine AC ?_
 obtain ⟨g3,h3,b0⟩:=b0.freeze
 obtain rfl:=sm hm
 replace hB:=hB.st h3
 exact ret2 rfl (At rfl) (At rfl) ⟨hB.ext,_,_,rfl,(Vb.mono (F:=Fr 0 f3 g3) b0 hB.out),(vErr (show inI64 0 from by decide))⟩
end
section
open Go Go.RowKit
attribute [local irreducible] ewp owp hwp hwq Ev Evg Fn retPost Res1
noncomputable def DP (x0:Tsk) (x1:List Int) (x2:Int):Option ((List Int)×Bool) :=
  bnd (if x2 < 0 then (some true) else (if (x0.ops.length:Int)≤x2 then (some true) else (bnd (atI x0.ops x2) fun a36=>bnd (Fy a36.pre x1) fun q57=>if q57=true then some false else some true)):Option Bool) fun y28=>if y28=true then (some (([]:List Int),false)) else (bnd (appI 8 ([]:List Int) x1) fun u75=>bnd (atI x0.ops x2) fun a86=>bnd (rng (ρ:=(List Int)×Bool) (fun (k113:Nat) (a114:Eff) (s111:(List Int))=>bnd (Fy a114.cond x1) fun q148=>if q148=true then bnd (atI s111 a114.var) fun a155=>some (.next (s111.set (a114.var:Int).toNat a114.val)) else some (.next s111)) a86.effs 0 u75) fun res109=>fin res109 fun (s173:(List Int))=>some (s173,true))
theorem OP {w:World} {A:Nat→Prop} (hA:∀ k,A k→k < w.heap.size) {vx0:Value} {x0:Tsk} (y1:Vb w A vx0 x0) {vx1:Value} {x1:List Int} (e0:Vb w A vx1 x1) {x2:Int} (rx2:inI64 x2) {r:(List Int)×Bool} (hm:DP x0 x1 x2=some r) :
    Fn Tryz.prog 69 [vx0,vx1,(.int .i64 x2)] w fun v w'=>Ext w w'∧T2 w' (upA A w w') v r:=by
 obtain ⟨O,hB,h3⟩:=enter hA
 replace y1:=y1.mono h3
 obtain ⟨h5,rfl,v5,v6,v7,v8,rfl,h9,t0,u0,k0⟩:=y1
 obtain ⟨z1,a2,rfl⟩:=h9.form
 obtain ⟨b2,c2,rfl⟩:=t0.form
 obtain ⟨d2,e2,rfl⟩:=u0.form
 obtain ⟨f2,g2,rfl⟩:=k0.form
 replace e0:=e0.mono h3
 obtain ⟨o1,p1,rfl⟩:=e0.form
 refine AH Tryz.func69 rfl Tryz.ntmps69 ?_
 unfold DP at hm
 refine Ab (Aa (BQ 2 O rfl fun h2 q1 r1 c0 n0=>?_))
 replace n0:Lc 2 q1 r1 h2 31 [(.slice z1 x0.vars.length a2),(.slice b2 x0.init.length c2),(.slice d2 x0.goal.length e2),(.slice f2 x0.ops.length g2)]:=n0
 refine Al rfl (Al rfl (o_z ?_))
 refine Ab (Ab ?_)
 obtain ⟨q3,a0,hm⟩:=bs hm
 refine Au (fun l' w'=>∃ (r3:Unit) (O':Lab),subs l' [(1,(.slice o1 x1.length p1)),(2,(.int .i64 x2)),(3,(.pointer (some ⟨h2,0,none⟩))),(30,(.bool q3))]∧Bs w A w' O'∧Vb w' (Fr 0 w' O') (.slice o1 x1.length p1) x1∧Lc 2 w' O' h2 31 [(.slice z1 x0.vars.length a2),(.slice b2 x0.init.length c2),(.slice d2 x0.goal.length e2),(.slice f2 x0.ops.length g2)]∧Vb w' (Fr 0 w' O') (.slice z1 x0.vars.length a2) x0.vars∧Vb w' (Fr 0 w' O') (.slice b2 x0.init.length c2) x0.init∧Vb w' (Fr 0 w' O') (.slice d2 x0.goal.length e2) x0.goal∧Vb w' (Fr 0 w' O') (.slice f2 x0.ops.length g2) x0.ops) ?_ ?_
 ·
  refine Aa (Ak rfl (Ep rfl rfl (fun i2=>?_) fun i2=>?_))
  ·
   replace a0:=ip a0 i2
   refine Ak rfl (Am rfl rfl (Am rfl rfl (Am rfl rfl (Am rfl rfl (Am rfl rfl (BD rfl rfl (Ak rfl (Am rfl rfl (Am rfl rfl (Am rfl rfl (Am rfl rfl (Am rfl rfl (Am rfl rfl (Am rfl rfl ?_))))))))))))))
   refine Am rfl rfl (Am rfl rfl (BD rfl rfl (o_z ?_)))
   obtain rfl:=sm a0
   exact ⟨(),_,⟨rfl,rfl,rfl,rfl,trivial⟩,hB.st c0,e0.st c0,n0,h9.st c0,t0.st c0,u0.st c0,k0.st c0⟩
  replace a0:=im a0 i2
  refine Ak rfl (An rfl rfl (Ak rfl (An rfl rfl (AB rfl (An rfl rfl (Az (hc:=Blk.cell (i:=3) (n0.1) rfl) rfl ?_))))))
  refine An rfl rfl (AR rfl ?_)
  replace k0:=k0.st c0
  have s3:x0.ops.length≤9223372036854775807:=Nat.le_trans k0.len.2.1 k0.len.2.2
  have i5:inI64 (x0.ops.length:Int):=rngNat s3
  refine An rfl rfl (Fs rfl rfl (fun j2=>?_) fun j2=>?_)
  ·
   replace a0:=ip a0 j2
   refine By rfl rfl (Ak rfl (Am rfl rfl (Am rfl rfl (Am rfl rfl (Am rfl rfl (Am rfl rfl (Am rfl rfl (Am rfl rfl (Am rfl rfl (Am rfl rfl (BD rfl rfl (o_z ?_))))))))))))
   obtain rfl:=sm a0
   exact ⟨(),_,⟨rfl,rfl,rfl,rfl,trivial⟩,hB.st c0,e0.st c0,n0,h9.st c0,t0.st c0,u0.st c0,k0⟩
  replace a0:=im a0 j2
  refine By rfl rfl (Ak rfl (An rfl rfl (AB rfl (An rfl rfl (Az (hc:=Blk.cell (i:=3) (n0.1) rfl) rfl ?_)))))
  refine An rfl rfl (Ak rfl (An rfl rfl ?_))
  obtain ⟨j5,t3,a0⟩:=bs a0
  obtain ⟨u3,v3⟩:=BO t3
  obtain ⟨k5,l5,w3,k2,l2,m2,m5,n5,rfl,i3,x3,o5,p5⟩:=k0.elem' v3
  obtain ⟨q5,r5,rfl⟩:=i3.form
  obtain ⟨s5,t5,rfl⟩:=x3.form
  refine Bv (hA:=k2) (hj:=(Int.toNat_of_nonneg u3).symm) (hlt:=l2) rfl rfl ?_
  refine An rfl rfl (AB rfl (An rfl rfl (Az (hc:=cat2 m2) rfl ?_)))
  refine An rfl rfl (Ak rfl (An rfl rfl ?_))
  obtain ⟨j3,y3,a0⟩:=bs a0
  replace e0:=e0.st c0
  refine AG (O:=r1) (A:=All q1) (R:=fun w' F v=>Vb w' F v j3) (IC (fun _ h=>h) (Vb.mono (F:=Fr 0 q1 r1) i3 Fr.lt) (Vb.mono (F:=Fr 0 q1 r1) e0 Fr.lt) y3) rfl fun u5 w5 x5 l0 z3=>?_
  obtain rfl:=z3.bool
  cases j3
  case false =>
   replace a0:=iF a0
   refine An rfl rfl (Fd rfl (By rfl rfl (o_z ?_)))
   obtain rfl:=sm a0
   exact ⟨(),_,⟨rfl,rfl,rfl,rfl,trivial⟩,(hB.st c0).st l0,e0.st l0,n0.st l0,(h9.st c0).st l0,(t0.st c0).st l0,(u0.st c0).st l0,k0.st l0⟩
  replace a0:=iT a0
  refine An rfl rfl (Fc rfl (By rfl rfl (o_z ?_)))
  obtain rfl:=sm a0
  exact ⟨(),_,⟨rfl,rfl,rfl,rfl,trivial⟩,(hB.st c0).st l0,e0.st l0,n0.st l0,(h9.st c0).st l0,(t0.st c0).st l0,(u0.st c0).st l0,k0.st l0⟩
 replace hB:=hB.st c0
 replace e0:=e0.st c0
 replace h9:=h9.st c0
 replace t0:=t0.st c0
 replace u0:=u0.st c0
 replace k0:=k0.st c0
 rintro y5 a4 ⟨r3,k3,n2,hB,e0,n0,h9,t0,u0,k0⟩
 refine AE _ n2 ?_
 refine Cw rfl (fun o2=>?_) (fun o2=>?_)
 ·
  replace hm:=ip hm o2
  refine Ab (Aa (Al rfl (Al rfl (o_z ?_))))
  refine AC ?_
  obtain rfl:=sm hm
  exact ret2 rfl (At rfl) (At rfl) ⟨hB.ext,_,_,rfl,(Vb.mono (F:=Fr 0 a4 k3) (Vb.nil _ _) hB.out),vBool⟩
 replace hm:=im' hm o2
 refine AK (Ab (Aa (AN 3 (by decide) k3 (xs:=(([]:List Int):List Int)) rfl rfl rfl trivial (by decide) (by decide) rfl fun z5 a6 b6 c1 b4=>?_)))
 refine Ak rfl ?_
 obtain ⟨s1,p2,hm⟩:=bs hm
 obtain ⟨p2,c4,d4⟩:=AO p2
 replace e0:=e0.st c1
 refine BE rfl b4 (e0.rd) rfl rfl (by decide) c4 d4 rfl fun t1 u1 c6 e4 d1 l3=>?_
 rw [← p2] at l3 ⊢
 refine Al rfl (o_z ?_)
 refine Ab (Ab (Aa (AB rfl ?_)))
 replace n0:=(n0.st c1).st d1
 refine Az (hc:=Blk.cell (i:=3) (n0.1) rfl) rfl ?_
 refine Ak rfl ?_
 obtain ⟨b1,f4,hm⟩:=bs hm
 obtain ⟨g4,h4⟩:=BO f4
 replace k0:=(k0.st c1).st d1
 obtain ⟨d6,e6,i4,q2,r2,s2,f6,g6,rfl,j4,f0,k4,l4⟩:=k0.elem' h4
 obtain ⟨m4,n4,rfl⟩:=j4.form
 obtain ⟨e1,f1,rfl⟩:=f0.form
 refine Bv (hA:=q2) (hj:=(Int.toNat_of_nonneg g4).symm) (hlt:=r2) rfl rfl ?_
 refine AB rfl (Az (hc:=cat3 s2) rfl ?_)
 refine AR rfl ?_
 have y0:b1.effs.length≤9223372036854775807:=Nat.le_trans f0.len.2.1 f0.len.2.2
 have o4:inI64 (b1.effs.length:Int):=rngNat y0
 refine Ak rfl (o_z ?_)
 obtain ⟨z0,g1,hm⟩:=bs hm
 refine Au (aft z0 (fun (m0:(List Int)) (o0:Unit)=>[(8,(.slice t1 s1.length u1))]) (fun m0 o0 w'=>∃ O':Lab,Bs w A w' O'∧Rw 3 w' O' 3 (.slice t1 s1.length u1) m0)) ?_ ?_
 ·
  refine AJ ?_
  replace hB:=(hB.st c1).st d1
  replace e0:=e0.st d1
  refine Bh (σ:=(List Int)) (X:=Unit) (b1.effs.length) g1 rfl y0 (fun (m0:(List Int)) (o0:Unit)=>[(1,(.slice o1 x1.length p1)),(8,(.slice t1 s1.length u1)),(39,(.slice e1 b1.effs.length f1))]) _ (fun m0 o0 w'=>∃ O':Lab,Bs w A w' O'∧Vb w' (Fr 0 w' O') (.slice o1 x1.length p1) x1∧Rw 3 w' O' 3 (.slice t1 s1.length u1) m0∧Vb w' (Fr 0 w' O') (.slice e1 b1.effs.length f1) b1.effs) _ () ⟨e4,hB,e0,l3,f0⟩ ⟨rfl,rfl,rfl,rfl,rfl,trivial⟩ (fun _ _=>⟨rfl,rfl⟩) (fun _ _=>⟨rfl,trivial⟩) (fun _ _ _ ⟨O',hB,e0,d0,f0⟩=>⟨O',hB,d0⟩) ⟨rfl,rfl,rfl⟩ ⟨rfl,rfl⟩ ?_
  rintro t2 p0 m0 o0 p4 m3 v0 ⟨u2,hB,e0,d0,f0⟩ b0 v1 w1
  have rk113:inI64 (t2:Int):=rngK v0 y0
  refine Ab (Aa ?_)
  obtain ⟨q4,r4,n3,h1,i1,j1,s4,rfl,q0,t4,v2⟩:=f0.elem' v0
  obtain ⟨w2,y2,rfl⟩:=q0.form
  refine Bv (hA:=h1) (hj:=rfl) (hlt:=i1) rfl rfl ?_
  refine Bg (hl:=rfl) (hc:=j1) rfl ?_
  refine AT 4 u2 fun z2 u4 r0 i0 g0=>?_
  refine AD g0 rfl rfl rfl (AL) (allOne) fun s0 j0 g0=>?_
  replace g0:Lc 4 s0 r0 z2 85 [(.slice w2 p0.cond.length y2),(.int .i64 p0.var),(.int .i64 p0.val)]:=g0
  refine o_z ?_
  refine Ab (Aa (AB rfl (Az (hc:=Blk.cell (i:=0) (g0.1) rfl) rfl ?_)))
  refine Ak rfl ?_
  obtain ⟨k1,a3,b0⟩:=bs b0
  replace e0:=(e0.st i0).st j0
  replace q0:=(q0.st i0).st j0
  refine AG (O:=r0) (A:=All s0) (R:=fun w' F v=>Vb w' F v k1) (IC (fun _ h=>h) (Vb.mono (F:=Fr 0 s0 r0) q0 Fr.lt) (Vb.mono (F:=Fr 0 s0 r0) e0 Fr.lt) a3) rfl fun v4 w4 x4 h0 b3=>?_
  obtain rfl:=b3.bool
  cases k1
  case false =>
   replace b0:=iF b0
   refine o_z ?_
   refine Ah rfl (AK ?_)
   obtain rfl:=sm b0
   exact show Exists _ from ⟨_,(),rfl,⟨rfl,rfl,rfl,rfl,rfl,trivial⟩,_,((hB.st i0).st j0).st h0,e0.st h0,((d0.st i0).st j0).st h0,((f0.st i0).st j0).st h0⟩
  replace b0:=iT b0
  refine o_z ?_
  refine Aj rfl (Aa (Ak rfl (AB rfl ?_)))
  replace g0:=g0.st h0
  refine Az (hc:=Blk.cell (i:=1) (g0.1) rfl) rfl ?_
  refine AB rfl (Az (hc:=Blk.cell (i:=2) (g0.1) rfl) rfl ?_)
  obtain ⟨y4,c3,b0⟩:=bs b0
  obtain ⟨d3,l1⟩:=BO c3
  replace d0:=((d0.st i0).st j0).st h0
  obtain ⟨z4,a5,o3,w0,m1,p3,rfl,b5⟩:=d0.elem l1
  refine Bv (hA:=w0) (hj:=(Int.toNat_of_nonneg d3).symm) (hlt:=m1) rfl rfl ?_
  refine IA rfl d0 (a:=p0.val) (vInt v2) w0 rfl rfl (Bl l1) fun c5 a1 d0=>?_
  refine o_z ?_
  obtain rfl:=sm b0
  exact show Exists _ from ⟨_,(),rfl,⟨rfl,rfl,rfl,rfl,rfl,trivial⟩,_,(((hB.st i0).st j0).st h0).st a1,(e0.st h0).st a1,d0,(((f0.st i0).st j0).st h0).st a1⟩
 replace hB:=(hB.st c1).st d1
 rintro d5 e3 ⟨e5,f5,rfl,n1,g5,hB,d0⟩
 replace hm:=AP hm
 refine AE _ n1 ?_
 refine Ab (Aa (Ak rfl (Al rfl (Al rfl (o_z ?_)))))
 refine AC ?_
 obtain ⟨f3,g3,d0⟩:=d0.freeze
 obtain rfl:=sm hm
 replace hB:=hB.st g3
 exact ret2 rfl (At rfl) (At rfl) ⟨hB.ext,_,_,rfl,(Vb.mono (F:=Fr 0 e3 f3) d0 hB.out),vBool⟩
noncomputable def GN (x0:Tsk) (x1:List Int) (x2:List Int):Option (Int×Bool) :=
  bnd (rng (ρ:=Int×Bool) (fun (k36:Nat) (a37:Int) (s34:(List Int)×Int)=>bnd (DP x0 s34.1 a37) fun q59=>if (!q59.2)=true then (some (.ret (0,false))) else (bnd (atI x0.ops a37) fun a73=>bnd (chkI (s34.2 + a73.cost)) fun n94=>some (.next (q59.1,n94)))) x2 0 (x1,0)) fun res32=>fin res32 fun (s101:(List Int)×Int)=>bnd (bnd (Fy x0.goal s101.1) fun q107=>if q107=true then some true else some false:Option Bool) fun y103=>some (s101.2,y103)
theorem Pz {w:World} {A:Nat→Prop} (hA:∀ k,A k→k < w.heap.size) {vx0:Value} {x0:Tsk} (f1:Vb w A vx0 x0) {vx1:Value} {x1:List Int} (m0:Vb w A vx1 x1) {vx2:Value} {x2:List Int} (g0:Vb w A vx2 x2) {r:Int×Bool} (hm:GN x0 x1 x2=some r) :
    Fn Tryz.prog 22 [vx0,vx1,vx2] w fun v w'=>Ext w w'∧T2 w' (upA A w w') v r:=by
 obtain ⟨O,hB,g1⟩:=enter hA
 replace f1:=f1.mono g1
 obtain ⟨h3,rfl,v5,v6,v7,v8,rfl,h9,h0,e0,c0⟩:=f1
 obtain ⟨n0,o0,rfl⟩:=h9.form
 obtain ⟨p0,q0,rfl⟩:=h0.form
 obtain ⟨r0,s0,rfl⟩:=e0.form
 obtain ⟨t0,u0,rfl⟩:=c0.form
 replace m0:=m0.mono g1
 obtain ⟨e2,f2,rfl⟩:=m0.form
 replace g0:=g0.mono g1
 obtain ⟨z1,a2,rfl⟩:=g0.form
 refine AH Tryz.func22 rfl Tryz.ntmps22 ?_
 unfold GN at hm
 refine Ab (Aa (BQ 2 O rfl fun v0 g2 b2 i0 f0=>?_))
 replace f0:Lc 2 g2 b2 v0 31 [(.slice n0 x0.vars.length o0),(.slice p0 x0.init.length q0),(.slice r0 x0.goal.length s0),(.slice t0 x0.ops.length u0)]:=f0
 refine Al rfl (Al rfl (o_z ?_))
 refine Ab (Aa (Al rfl (o_z ?_)))
 refine Ab (Ab (Aa (Ak rfl (AR rfl ?_))))
 replace g0:=g0.st i0
 have h1:x2.length≤9223372036854775807:=Nat.le_trans g0.len.2.1 g0.len.2.2
 have i3:inI64 (x2.length:Int):=rngNat h1
 refine Ak rfl (o_z ?_)
 obtain ⟨w0,i1,hm⟩:=bs hm
 refine Au (aft w0 (fun (d0:(List Int)×Int) (j0:(Option Addr×Nat))=>[(1,(.slice j0.1 d0.1.length j0.2)),(3,(.pointer (some ⟨v0,0,none⟩))),(8,(.int .i64 d0.2))]) (fun d0 j0 w'=>∃ O':Lab,Bs w A w' O'∧Vb w' (Fr 0 w' O') (.slice j0.1 d0.1.length j0.2) d0.1∧Lc 2 w' O' v0 31 [(.slice n0 x0.vars.length o0),(.slice p0 x0.init.length q0),(.slice r0 x0.goal.length s0),(.slice t0 x0.ops.length u0)]∧Vb w' (Fr 0 w' O') (.slice n0 x0.vars.length o0) x0.vars∧Vb w' (Fr 0 w' O') (.slice p0 x0.init.length q0) x0.init∧Vb w' (Fr 0 w' O') (.slice r0 x0.goal.length s0) x0.goal∧Vb w' (Fr 0 w' O') (.slice t0 x0.ops.length u0) x0.ops∧inI64 d0.2)) ?_ ?_
 ·
  refine AJ ?_
  replace hB:=hB.st i0
  replace m0:=m0.st i0
  replace h9:=h9.st i0
  replace h0:=h0.st i0
  replace e0:=e0.st i0
  replace c0:=c0.st i0
  refine Bh (σ:=(List Int)×Int) (X:=(Option Addr×Nat)) (x2.length) i1 rfl h1 (fun (d0:(List Int)×Int) (j0:(Option Addr×Nat))=>[(1,(.slice j0.1 d0.1.length j0.2)),(3,(.pointer (some ⟨v0,0,none⟩))),(8,(.int .i64 d0.2)),(13,(.slice z1 x2.length a2))]) _ (fun d0 j0 w'=>∃ O':Lab,Bs w A w' O'∧Vb w' (Fr 0 w' O') (.slice j0.1 d0.1.length j0.2) d0.1∧Lc 2 w' O' v0 31 [(.slice n0 x0.vars.length o0),(.slice p0 x0.init.length q0),(.slice r0 x0.goal.length s0),(.slice t0 x0.ops.length u0)]∧Vb w' (Fr 0 w' O') (.slice n0 x0.vars.length o0) x0.vars∧Vb w' (Fr 0 w' O') (.slice p0 x0.init.length q0) x0.init∧Vb w' (Fr 0 w' O') (.slice r0 x0.goal.length s0) x0.goal∧Vb w' (Fr 0 w' O') (.slice t0 x0.ops.length u0) x0.ops∧Vb w' (Fr 0 w' O') (.slice z1 x2.length a2) x2∧inI64 d0.2) _ (e2,f2) ⟨b2,hB,m0,f0,h9,h0,e0,c0,g0,(show inI64 (0) from by decide)⟩ ⟨rfl,rfl,rfl,rfl,rfl,rfl,trivial⟩ (fun _ _=>⟨rfl,rfl⟩) (fun _ _=>⟨rfl,rfl,rfl,trivial⟩) (fun _ _ _ ⟨O',hB,y0,f0,h9,h0,e0,c0,g0,e1⟩=>⟨O',hB,y0,f0,h9,h0,e0,c0,e1⟩) ⟨rfl,rfl,rfl⟩ ⟨rfl,rfl⟩ ?_
  rintro h2 j3 d0 j0 k3 i2 z0 ⟨j2,hB,y0,f0,h9,h0,e0,c0,g0,e1⟩ b0 l0 j1
  have rk36:inI64 (h2:Int):=rngK z0 h1
  refine Ab (Aa ?_)
  obtain ⟨l3,m3,k2,k1,l1,m1,rfl,l2⟩:=g0.elem' z0
  refine Bv (hA:=k1) (hj:=rfl) (hlt:=l1) rfl rfl ?_
  refine Az (hc:=cat0 m1) rfl ?_
  refine Al rfl (o_z ?_)
  refine Ab (Aa (Bg (hl:=rfl) (hc:=(f0.1).cellsAt) rfl ?_))
  refine Ak rfl (Ak rfl ?_)
  obtain ⟨m2,n2,b0⟩:=bs b0
  refine BU (O:=j2) (R:=fun w' F v=>T2 w' F v m2) (OP Fr.lt (Vb.ofAgg (cs:=[(.slice n0 x0.vars.length o0),(.slice p0 x0.init.length q0),(.slice r0 x0.goal.length s0),(.slice t0 x0.ops.length u0)]) (x:=x0) rfl ⟨_,_,_,_,rfl,h9,h0,e0,c0⟩) y0 l2 n2) rfl fun n3 o3 p3 k0 o2=>?_
  obtain ⟨q3,r3,rfl,c2,p2⟩:=o2
  obtain ⟨q2,r2,rfl⟩:=c2.form
  obtain rfl:=p2.bool
  refine Ak rfl (CS rfl rfl (CS rfl rfl (Al rfl (Al rfl (o_z ?_)))))
  refine Ab (Ab (Aa (Ak rfl (JS rfl (o_z ?_)))))
  refine Cw rfl (fun n1=>?_) (fun n1=>?_)
  ·
   replace b0:=ip b0 n1
   refine Ab (Aa (Al rfl (Al rfl (o_z ?_))))
   refine AC ?_
   obtain rfl:=sm b0
   obtain rfl:=l0 _ rfl
   obtain rfl:=sm (CG hm)
   replace hB:=hB.st k0
   exact ret2 rfl (At rfl) (At rfl) ⟨hB.ext,_,_,rfl,(vInt (show inI64 (0) from by decide)),vBool⟩
  replace b0:=im' b0 n1
  refine AK (Ab (Aa (Ak rfl (Al rfl (o_z ?_)))))
  refine Aa (Ak rfl (AB rfl ?_))
  replace f0:=f0.st k0
  refine Az (hc:=Blk.cell (i:=3) (f0.1) rfl) rfl ?_
  refine Ak rfl ?_
  obtain ⟨s3,s2,b0⟩:=bs b0
  obtain ⟨t2,u2⟩:=BO s2
  replace c0:=c0.st k0
  obtain ⟨t3,u3,v2,o1,p1,q1,v3,w3,rfl,w2,y2,x3,y3⟩:=c0.elem' u2
  obtain ⟨z3,a4,rfl⟩:=w2.form
  obtain ⟨b4,c4,rfl⟩:=y2.form
  refine Bv (hA:=o1) (hj:=(Int.toNat_of_nonneg t2).symm) (hlt:=p1) rfl rfl ?_
  refine AB rfl (Az (hc:=cat1 q1) rfl ?_)
  obtain ⟨d4,d2,b0⟩:=bs b0
  have z2:=(AX d2)
  refine Dn (he:=d2) rfl rfl ?_
  refine Al rfl (o_z ?_)
  obtain rfl:=sm b0
  exact show Exists _ from ⟨_,(q2,r2),rfl,⟨rfl,rfl,rfl,rfl,rfl,rfl,trivial⟩,_,hB.st k0,c2,f0,h9.st k0,h0.st k0,e0.st k0,c0,g0.st k0,z2⟩
 replace hB:=hB.st i0
 replace h9:=h9.st i0
 replace h0:=h0.st i0
 replace e0:=e0.st i0
 replace c0:=c0.st i0
 rintro e4 r1 ⟨s1,a3,rfl,a1,t1,hB,y0,f0,h9,h0,e0,c0,e1⟩
 replace hm:=AP hm
 refine AE _ a1 ?_
 refine Ab ?_
 obtain ⟨u1,a0,hm⟩:=bs hm
 refine Au (fun l' w'=>∃ (v1:Unit) (O':Lab),subs l' [(6,(.int .i64 s1.2)),(7,(.bool u1))]∧Bs w A w' O') ?_ ?_
 ·
  refine Aa (Ak rfl (AB rfl (Az (hc:=Blk.cell (i:=2) (f0.1) rfl) rfl ?_)))
  refine Ak rfl ?_
  obtain ⟨b1,w1,a0⟩:=bs a0
  refine AG (O:=t1) (A:=All r1) (R:=fun w' F v=>Vb w' F v b1) (IC (fun _ h=>h) (Vb.mono (F:=Fr 0 r1 t1) e0 Fr.lt) (Vb.mono (F:=Fr 0 r1 t1) y0 Fr.lt) w1) rfl fun b3 c3 d3 c1 y1=>?_
  obtain rfl:=y1.bool
  cases b1
  case false =>
   replace a0:=iF a0
   refine Al rfl (Al rfl (o_z ?_))
   obtain rfl:=sm a0
   exact ⟨(),_,⟨rfl,rfl,trivial⟩,hB.st c1⟩
  replace a0:=iT a0
  refine Al rfl (Al rfl (o_z ?_))
  obtain rfl:=sm a0
  exact ⟨(),_,⟨rfl,rfl,trivial⟩,hB.st c1⟩
 rintro e3 f3 ⟨v1,g3,d1,hB⟩
 refine AE _ d1 ?_
 refine AC ?_
 obtain rfl:=sm hm
 exact ret2 rfl (At rfl) (At rfl) ⟨hB.ext,_,_,rfl,(vInt e1),vBool⟩
end
section
open Go Go.RowKit
def effsOn (s:List Int):List Eff→List Int→List Int
  | [],out=>out
  | e :: r,out=>effsOn s r (if holdsB e.cond s=true then out.set e.var.toNat e.val else out)
theorem Kw (s:List Int):∀ (a b:List Eff) (out:List Int),effsOn s (a ++ b) out=effsOn s b (effsOn s a out)
  | [],_,_=>rfl
  | e :: a,b,out=>by simp [effsOn,Kw s a b]
theorem Kx (s:List Int):∀ (a:List Eff) (out:List Int),(effsOn s a out).length=out.length
  | [],_=>rfl
  | e :: a,out=>by
    rw [effsOn,Kx s a]
    split<;>simp
theorem PA (s:List Int) {l:List Eff} {k:Nat} {e:Eff} (h:l[k]?=some e) (out:List Int):effsOn s (l.take (k + 1)) out=if holdsB e.cond s=true then (effsOn s (l.take k) out).set e.var.toNat e.val else effsOn s (l.take k) out:=by
  rw [List.take_add_one,h,Kw];rfl
def EffsIn (s:List Int) (l:List Eff):Prop:=∀ (i:Nat) e,l[i]?=some e→0≤e.var∧e.var < s.length
def succ (o:Opr) (s:List Int):List Int:=effsOn s o.effs s
end
section
open Go Go.RowKit
theorem TaskOk.effs {t:Tsk} (h:TaskOk t) {s:List Int} (hs:StateOk t.vars s):∀ (i:Nat) o,t.ops[i]?=some o→EffsIn s o.effs:=fun i o ho j e he=>by
  obtain ⟨h1,_,y,hy,_⟩:=((h.2.2.2.2.2 i o ho).2.2.2.2.2 j e he).2
  refine ⟨h1,?_⟩
  have:=(List.getElem?_eq_some_iff.1 hy).1
  rw [hs.1]
  simp only at h1 this
  omega
end
section
open Go Go.RowKit
theorem Ka (f:List Fct) (s:List Int):Fy f s=some (holdsB f s):=rfl
theorem Mf {ρ:Type} {s:List Int} {effs:List Eff} (he:EffsIn s effs) (m:List Fct→List Int→Option Bool) (hm:∀ f s,m f s=some (holdsB f s)) (u:List Int) (hu:u.length=s.length) :
    rng (ρ:=ρ) (fun (_:Nat) (e:Eff) (out:List Int)=>bnd (m e.cond s) fun q=>if q=true then bnd (atI out e.var) fun _=>some (.next (out.set (e.var).toNat e.val)) else some (.next out)) effs 0 u=some (.done (effsOn s effs u)):=by
  rw [CF (fun k=>effsOn s (effs.take k) u) ?_ ?_,List.take_length]
  · rfl
  intro k e hk
  rw [hm,Ae,PA s hk]
  have hin:=he k e hk
  have hl:=Kx s (effs.take k) u
  by_cases hb:holdsB e.cond s=true
  · rw [if_pos hb,if_pos hb]
    obtain ⟨j,hj⟩:=Int.eq_ofNat_of_zero_le hin.1
    rw [hj,Fx,List.getElem?_eq_getElem (by omega),Ae]
  · rw [if_neg hb,if_neg hb]
theorem Sh {t:Tsk} {s:List Int} {j:Nat} {o:Opr} (ho:t.ops[j]?=some o) (hp:holdsB o.pre s=true) (hl:s.length≤1000000) (he:EffsIn s o.effs):DP t s (j:Int)=some (succ o s,true):=by
  have hj:=Bl ho
  unfold DP
  rw [if_neg (by omega),if_neg (by omega),Fx,ho,Ae,Ka,Ae,hp,EG,Ae,GI,Bb (by simp;omega) (by simp;omega),Ae,Ae,List.nil_append,Mf he Fy Ka s rfl,Ae,BH]
  rfl
theorem NP {vars s:List Int}:∀ (l:List Eff),(∀ e∈l,EffOk vars e)→∀ (u:List Int),StateOk vars u→StateOk vars (effsOn s l u)
  | [],_,_,hu=>hu
  | e :: l,he,u,hu=>by
    refine NP l (fun e' h'=>he e' (List.mem_cons_of_mem _ h')) _ ?_
    split
    · obtain ⟨_,h1,h2,y,hy,h3⟩:=he e List.mem_cons_self
      refine ⟨by rw [List.length_set];exact hu.1,fun i x n hx hn=>?_⟩
      rw [List.getElem?_set] at hx
      by_cases hi:e.var.toNat=i
      · subst hi
        rw [if_pos rfl] at hx
        split at hx
        · obtain rfl:=Option.some.inj hx
          simp only at hy h2 h3
          rw [hy] at hn
          obtain rfl:=Option.some.inj hn
          exact ⟨h2,h3⟩
        · cases hx
      · rw [if_neg hi] at hx
        exact hu.2 i x n hx hn
    · exact hu
theorem Nq {t:Tsk} (h:TaskOk t) {s:List Int} (hs:StateOk t.vars s) {k:Nat} {o:Opr} (ho:t.ops[k]?=some o):StateOk t.vars (succ o s) :=
  NP o.effs (fun e he=>by obtain ⟨j,hj⟩:=List.getElem?_of_mem he;exact (h.2.2.2.2.2 k o ho).2.2.2.2.2 j e hj) s hs
theorem Rj {t:Tsk} (h:TaskOk t) {s:List Int} (hs:StateOk t.vars s) {k:Nat} {o:Opr} (ho:t.ops[k]?=some o):DP t s (k:Int)=some (if holdsB o.pre s=true then (succ o s,true) else ([],false)):=by
  have hk:=Bl ho
  by_cases hp:holdsB o.pre s=true
  · rw [Sh ho hp (by have:=hs.1;have:=h.1;omega) (h.effs hs k o ho),if_pos hp]
  · unfold DP
    rw [if_neg (by omega),if_neg (by omega),Fx,ho,Ae,Ka,Ae,if_neg hp,if_neg hp,Ae,EG]
end
section
open Go Go.RowKit
inductive PlanR (t:Tsk):List Int→List Int→List Int→Int→Prop
  | nil {s:List Int}:PlanR t s [] s 0
  | cons {s rest s':List Int} {k:Nat} {o:Opr} {C:Int}:t.ops[k]?=some o→holdsB o.pre s=true→PlanR t (succ o s) rest s' C→PlanR t s ((k:Int) :: rest) s' (o.cost + C)
theorem Jb (f:List Fct) (s:List Int):Cq f s=some (holdsB f s):=rfl
theorem tapply {t:Tsk} (h:TaskOk t) {s:List Int} (hs:StateOk t.vars s) (op:Int):(∃ (k:Nat) (o:Opr),op=(k:Int)∧t.ops[k]?=some o∧holdsB o.pre s=true∧Dl t s op=some (succ o s,⟨0⟩))∨∃ n:Int,n≠0∧Dl t s op=some ([],⟨n⟩):=by
  unfold Dl
  by_cases h1:op < 0
  · exact .inr ⟨1,by decide,by rw [if_pos h1,Ae,EG]⟩
  by_cases h2:(t.ops.length:Int)≤op
  · exact .inr ⟨1,by decide,by rw [if_neg h1,if_pos h2,Ae,EG]⟩
  obtain ⟨k,rfl⟩:=Int.eq_ofNat_of_zero_le (by omega:0≤op)
  obtain ⟨o,ho⟩:=BB (l:=t.ops) (k:=k) (by omega)
  rw [if_neg h1,if_neg h2,Ae,GI]
  unfold CT
  rw [Ae,Da hs,EG,Fx,ho,Ae,Jb,Ae]
  by_cases hp:holdsB o.pre s=true
  · refine .inl ⟨k,o,rfl,ho,hp,?_⟩
    have hc:Bw s=some s:=if_pos ⟨by have:=hs.1;have:=h.1;omega,by have:=hs.1;have:=h.1;omega⟩
    rw [if_pos hp,hc,Ae,Ae,Mf (h.effs hs k o ho) Cq Jb s rfl,Ae,BH]
    rfl
  · exact .inr ⟨12,by decide,by rw [if_neg hp]⟩
theorem Rk {t:Tsk} (h:TaskOk t) {s plan s':List Int} {C:Int} (hr:PlanR t s plan s' C):∀ (j:Nat) (c:Int),StateOk t.vars s→0≤c→c + plan.length * 1048576≤1000000000000000 →
    rng (ρ:=Int×Bool) (fun (_:Nat) (a34:Int) (s31:(List Int)×Int)=>bnd (DP t s31.1 a34) fun q56=>if (!q56.2)=true then (some (.ret (0,false))) else (bnd (atI t.ops a34) fun a70=>bnd (chkI (s31.2 + a70.cost)) fun n91=>some (.next (q56.1,n91)))) plan j (s,c)=some (.done (s',c + C)):=by
  induction hr with
  | nil=>intro j c _ _ _;simp [rng]
  | @cons s rest s' k o C ho hp hr ih =>
    intro j c hs hc hb
    simp only [List.length_cons] at hb
    have hoo:=h.2.2.2.2.2 k o ho
    have h1:=hoo.1
    have h2:=hoo.2.1
    have e2:(bnd (DP t s (k:Int)) fun q56=>if (!q56.2)=true then (some (.ret (0,false))) else (bnd (atI t.ops (k:Int)) fun a70=>bnd (chkI (c + a70.cost)) fun n91=>some (.next (q56.1,n91))):Option (Ctl (List Int×Int) (Int×Bool)))=some (.next (succ o s,c + o.cost)):=by
      rw [Rj h hs ho,if_pos hp,Ae,if_neg (by simp),Fx,ho,Ae,Ba (by unfold inI64;omega),Ae]
    simp only [rng,e2]
    rw [ih (j + 1) (c + o.cost) (Nq h hs ho) (by omega) (by omega),Int.add_assoc]
end
section
open Go Go.RowKit
def hasV (l:List Fct) (v:Int):Bool:=l.any fun f=>decide (f.var=v)
def wrT (t:Tpl) (v:Int):Bool:=t.jobs.any fun j=>hasV j.atStart v || hasV j.atEnd v
def rdT (t:Tpl) (v:Int):Bool:=t.jobs.any fun j=>hasV j.start v || hasV j.fin v
abbrev Ky:=Nat×Nat
def mkK (t:Tpl) (v:Nat):List Ky:=if wrT t (v:Int)=true then (3,v) :: (if rdT t (v:Int)=true then [(4,v)] else []) else []
def ksM (t:Tpl) (n:Nat):List Ky:=(List.range n).flatMap (mkK t)
def ksJ (n:Nat):List Ky:=(List.range n).flatMap fun i=>[(1,i),(2,i)]
def keys (t:Tpl):List Ky:=(List.range t.vars.length).map (fun v=>(0,v)) ++ (ksJ t.jobs.length ++ (ksM t t.vars.length ++ [(5,0)]))
def kpos (t:Tpl) (k:Ky):Nat :=
  if k.1=0 then k.2
  else if k.1=1 then t.vars.length + 2 * k.2
  else if k.1=2 then t.vars.length + 2 * k.2 + 1
  else if k.1=3 then t.vars.length + 2 * t.jobs.length + (ksM t k.2).length
  else if k.1=4 then t.vars.length + 2 * t.jobs.length + (ksM t k.2).length + 1
  else t.vars.length + 2 * t.jobs.length + (ksM t t.vars.length).length
theorem kpos0 (t:Tpl) (v:Nat):kpos t (0,v)=v:=rfl
theorem kpos1 (t:Tpl) (i:Nat):kpos t (1,i)=t.vars.length + 2 * i:=rfl
theorem kpos2 (t:Tpl) (i:Nat):kpos t (2,i)=t.vars.length + 2 * i + 1:=rfl
theorem kpos3 (t:Tpl) (v:Nat):kpos t (3,v)=t.vars.length + 2 * t.jobs.length + (ksM t v).length:=rfl
theorem kpos4 (t:Tpl) (v:Nat):kpos t (4,v)=t.vars.length + 2 * t.jobs.length + (ksM t v).length + 1:=rfl
theorem kpos5 (t:Tpl):kpos t (5,0)=t.vars.length + 2 * t.jobs.length + (ksM t t.vars.length).length:=rfl
theorem Kb (t:Tpl) (n:Nat):ksM t (n + 1)=ksM t n ++ mkK t n:=by
  unfold ksM;rw [List.range_succ,List.flatMap_append];simp
theorem OQ (n:Nat):ksJ (n + 1)=ksJ n ++ [(1,n),(2,n)]:=by
  unfold ksJ;rw [List.range_succ,List.flatMap_append];simp
theorem JB:∀ n,(ksJ n).length=2 * n
  | 0=>rfl
  | n + 1=>by rw [OQ,List.length_append,JB n];simp;omega
theorem Kc (t:Tpl):(keys t).length=t.vars.length + 2 * t.jobs.length + (ksM t t.vars.length).length + 1:=by
  unfold keys;simp [JB];omega
def PosAt (t:Tpl) (l:List Ky) (o:Nat):Prop:=∀ i k,l[i]?=some k→kpos t k=o + i
theorem PosAt.app {t:Tpl} {a b:List Ky} {o:Nat} (ha:PosAt t a o) (hb:PosAt t b (o + a.length)):PosAt t (a ++ b) o:=fun i k h=>by
  by_cases hi:i < a.length
  · rw [List.getElem?_append_left hi] at h;exact ha i k h
  · rw [List.getElem?_append_right (by omega)] at h
    have:=hb _ k h;omega
theorem posM (t:Tpl):∀ n,PosAt t (ksM t n) (t.vars.length + 2 * t.jobs.length)
  | 0=>fun i k h=>by simp [ksM] at h
  | n + 1=>by
    rw [Kb]
    refine (posM t n).app fun i k h=>?_
    unfold mkK at h
    split at h
    · match i,h with
      | 0,h=>simp at h;subst h;rw [kpos3];omega
      | 1,h =>
        split at h
        · simp at h;subst h;rw [kpos4]
        · simp at h
      | i + 2,h =>
        split at h<;>simp at h
    · simp at h
theorem posJ (t:Tpl):∀ n,PosAt t (ksJ n) t.vars.length
  | 0=>fun i k h=>by simp [ksJ] at h
  | n + 1=>by
    rw [OQ]
    refine (posJ t n).app fun i k h=>?_
    rw [JB]
    match i,h with
    | 0,h=>simp at h;subst h;rw [kpos1];omega
    | 1,h=>simp at h;subst h;rw [kpos2]
    | i + 2,h=>simp at h
theorem Mg (t:Tpl):PosAt t (keys t) 0:=by
  unfold keys
  refine PosAt.app (fun i k h=>?_) (PosAt.app ?_ (PosAt.app ?_ fun i k h=>?_))
  · rw [List.getElem?_map] at h
    obtain ⟨v,hv,rfl⟩:=Option.map_eq_some_iff.1 h
    obtain ⟨h1,h2⟩:=List.getElem?_eq_some_iff.1 hv
    simp at h2
    rw [kpos0];omega
  · simpa using posJ t t.jobs.length
  · simpa [JB] using posM t t.vars.length
  · match i,h with
    | 0,h=>simp at h;subst h;rw [kpos5];simp [JB]
    | i + 1,h=>simp at h
theorem Kd {t:Tpl} {k:Ky} (h:k∈keys t):(keys t)[kpos t k]?=some k:=by
  obtain ⟨i,hi⟩:=List.getElem?_of_mem h
  have:=Mg t i k hi
  rw [this,Nat.zero_add];exact hi
theorem TJ {t:Tpl} {k:Ky} (h:k∈keys t):kpos t k < (keys t).length:=Bl (Kd h)
theorem JC {t:Tpl} {v:Nat} {k:Ky}:k∈mkK t v↔(k=(3,v)∧wrT t (v:Int)=true)∨(k=(4,v)∧wrT t (v:Int)=true∧rdT t (v:Int)=true):=by
  unfold mkK
  by_cases h1:wrT t (v:Int)=true
  · by_cases h2:rdT t (v:Int)=true
    · simp [h1,h2]
    · simp [h1,h2]
  · simp [h1]
theorem Ei {t:Tpl} {k:Ky}:k∈keys t↔(k.1=0∧k.2 < t.vars.length)∨((k.1=1∨k.1=2)∧k.2 < t.jobs.length)∨(k.1=3∧k.2 < t.vars.length∧wrT t (k.2:Int)=true)∨(k.1=4∧k.2 < t.vars.length∧wrT t (k.2:Int)=true∧rdT t (k.2:Int)=true)∨k=(5,0):=by
  unfold keys ksJ ksM
  simp only [List.mem_append,List.mem_map,List.mem_range,List.mem_flatMap,List.mem_cons,List.not_mem_nil,or_false,JC]
  obtain ⟨a,b⟩:=k
  constructor
  · rintro (⟨v,h,e⟩|⟨i,h,e|e⟩|⟨v,h,⟨e,h1⟩|⟨e,h1,h2⟩⟩|e)
    · cases e;exact .inl ⟨rfl,h⟩
    · cases e;exact .inr (.inl ⟨.inl rfl,h⟩)
    · cases e;exact .inr (.inl ⟨.inr rfl,h⟩)
    · cases e;exact .inr (.inr (.inl ⟨rfl,h,h1⟩))
    · cases e;exact .inr (.inr (.inr (.inl ⟨rfl,h,h1,h2⟩)))
    · exact .inr (.inr (.inr (.inr e)))
  · rintro (⟨rfl,h⟩|⟨rfl|rfl,h⟩|⟨rfl,h,h1⟩|⟨rfl,h,h1,h2⟩|e)
    · exact .inl ⟨b,h,rfl⟩
    · exact .inr (.inl ⟨b,h,.inl rfl⟩)
    · exact .inr (.inl ⟨b,h,.inr rfl⟩)
    · exact .inr (.inr (.inl ⟨b,h,.inl ⟨rfl,h1⟩⟩))
    · exact .inr (.inr (.inl ⟨b,h,.inr ⟨rfl,h1,h2⟩⟩))
    · exact .inr (.inr (.inr e))
abbrev KSt:=Ky→Int
def updK (σ:KSt) (k:Ky) (c:Int):KSt:=fun k'=>if k'=k then c else σ k'
theorem HK (σ:KSt) (k:Ky) (c:Int):updK σ k c k=c:=if_pos rfl
theorem Iw {σ:KSt} {k k':Ky} {c:Int} (h:k'≠k):updK σ k c k'=σ k':=if_neg h
def enc (t:Tpl) (σ:KSt):List Int:=(keys t).map σ
theorem TK {t:Tpl} {k:Ky} (σ:KSt) (h:k∈keys t):(enc t σ)[kpos t k]?=some (σ k):=by
  unfold enc;rw [List.getElem?_map,Kd h];rfl
theorem TL {t:Tpl} {k:Ky} (σ:KSt) (c:Int) (h:k∈keys t):(enc t σ).set (kpos t k) c=enc t (updK σ k c):=by
  refine List.ext_getElem? fun i=>?_
  unfold enc
  rw [List.getElem?_set,List.getElem?_map,List.getElem?_map]
  by_cases hi:kpos t k=i
  · subst hi
    rw [if_pos rfl,if_pos (by rw [List.length_map];exact TJ h),Kd h]
    simp [HK]
  · rw [if_neg hi]
    cases hk:(keys t)[i]? with
    | none=>rfl
    | some k' =>
      have:=Mg t i k' hk
      have hne:k'≠k:=by rintro rfl;omega
      simp [Iw hne]
abbrev KF:=Ky×Int
def toF (t:Tpl) (x:KF):Fct:=⟨(kpos t x.1:Int),x.2⟩
def toE (t:Tpl) (x:KF):Eff:=⟨[],(kpos t x.1:Int),x.2⟩
theorem PO {t:Tpl} {x:KF} (σ:KSt) (h:x.1∈keys t):hasB (enc t σ) (toF t x)=decide (σ x.1=x.2):=by
  unfold hasB toF
  simp only [Int.toNat_natCast,TK σ h,Option.some.injEq]
  rw [decide_eq_true (by omega:(0:Int)≤(kpos t x.1:Int)),Bool.true_and]
theorem NQ {t:Tpl} {σ:KSt} {l:List KF} (h:∀ x∈l,x.1∈keys t):holdsB (l.map (toF t)) (enc t σ)=true↔∀ x∈l,σ x.1=x.2:=by
  unfold holdsB
  rw [List.all_eq_true]
  constructor
  · intro hh x hx
    have:=hh _ (List.mem_map_of_mem hx)
    rw [PO σ (h x hx)] at this
    exact of_decide_eq_true this
  · intro hh f hf
    obtain ⟨x,hx,rfl⟩:=List.mem_map.1 hf
    rw [PO σ (h x hx)]
    exact decide_eq_true (hh x hx)
def updL (σ:KSt) (l:List KF):KSt:=l.foldl (fun σ x=>updK σ x.1 x.2) σ
theorem Ke (σ:KSt):updL σ []=σ:=rfl
theorem Gt (σ:KSt) (x:KF) (l:List KF):updL σ (x :: l)=updL (updK σ x.1 x.2) l:=rfl
theorem OR (σ:KSt) (a b:List KF):updL σ (a ++ b)=updL (updL σ a) b:=List.foldl_append
theorem Df {k:Ky}:∀ {l:List KF} {σ:KSt},(∀ x∈l,x.1≠k)→updL σ l k=σ k
  | [],_,_=>rfl
  | x :: l,σ,h=>by
    rw [Gt,Df fun y hy=>h y (List.mem_cons_of_mem _ hy),Iw fun e=>h x List.mem_cons_self e.symm]
theorem Hc {k:Ky} {c:Int}:∀ {l:List KF} {σ:KSt},(∀ x∈l,x.1=k→x.2=c)→(∃ x∈l,x.1=k)→updL σ l k=c
  | [],_,_,h=>by obtain ⟨x,hx,_⟩:=h;cases hx
  | x :: l,σ,h,hx=>by
    rw [Gt]
    by_cases hl:∃ y∈l,y.1=k
    · exact Hc (fun y hy=>h y (List.mem_cons_of_mem _ hy)) hl
    · have hno:∀ y∈l,y.1≠k:=fun y hy e=>hl ⟨y,hy,e⟩
      obtain ⟨y,hy,e⟩:=hx
      rcases List.mem_cons.1 hy with rfl|hy
      · rw [Df hno,← e,HK]
        exact h y List.mem_cons_self e
      · exact absurd e (hno y hy)
theorem OS {t:Tpl} (s:List Int):∀ {l:List KF} {σ:KSt},(∀ x∈l,x.1∈keys t)→effsOn s (l.map (toE t)) (enc t σ)=enc t (updL σ l)
  | [],_,_=>rfl
  | x :: l,σ,h=>by
    show effsOn s (l.map (toE t)) (if holdsB [] s=true then (enc t σ).set (kpos t x.1:Int).toNat x.2 else enc t σ)=_
    rw [if_pos (show holdsB [] s=true from rfl),Int.toNat_natCast,TL σ x.2 (h x List.mem_cons_self),Gt]
    exact OS s fun y hy=>h y (List.mem_cons_of_mem _ hy)
end
section
open Go Go.RowKit
def itoaB (i:Nat):ByteArray:=if i < 10 then ⟨#[UInt8.ofNat (48 + i)]⟩ else ⟨#[UInt8.ofNat (48 + i / 10),UInt8.ofNat (48 + i % 10)]⟩
def itoD:ByteArray:=⟨((List.range 10).map fun i=>UInt8.ofNat (48 + i)).toArray ++ ((List.range 26).map fun i=>UInt8.ofNat (97 + i)).toArray⟩
def itoS:ByteArray:=⟨(List.range 100).flatMap (fun i=>[UInt8.ofNat (48 + i / 10),UInt8.ofNat (48 + i % 10)]) |>.toArray⟩
theorem Sj:((List.range 10).all fun i=>(itoD.extract i (i + 1)).data.toList == (itoaB i).data.toList)=true:=by decide +kernel
theorem Sk:((List.range 100).all fun i=>decide (i < 10) || (itoS.extract (i * 2) (i * 2 + 2)).data.toList == (itoaB i).data.toList)=true:=by decide +kernel
theorem Rl {a b:ByteArray} (h:a.data.toList=b.data.toList):a=b:=by
  cases a;cases b;simp only [ByteArray.mk.injEq];exact Array.toList_inj.1 h
theorem TM (i:Nat) (h:i < 10):itoD.extract i (i + 1)=itoaB i:=Rl (by
  have:=List.all_eq_true.1 Sj i (List.mem_range.2 h)
  simpa using this)
theorem TN (i:Nat) (h:i < 100) (h0:10≤i):itoS.extract (i * 2) (i * 2 + 2)=itoaB i:=Rl (by
  have:=List.all_eq_true.1 Sk i (List.mem_range.2 h)
  have h1:¬ i < 10:=by omega
  simpa [h1] using this)
theorem Rm:itoD.size=36:=by decide +kernel
theorem Rn:itoS.size=200:=by decide +kernel
theorem Kf (i:Nat):(itoaB i).size≤2:=by unfold itoaB;split<;>simp [ByteArray.size]
section
variable {P : Program} {l : Env} {w : World} {dst : Option Tmp} {ty : TypeId} {pos : String} {aft : Array Edge}
theorem OT {t:TypeId} [h:TStr P t] {x lo hi:Operand} {s:ByteArray} {a b:Int} (hx:opv l x=some (.string s)) (hlo:opv l lo=some (.int .i64 a)) (hhi:opv l hi=some (.int .i64 b)) (h0:0≤a) (hab:a≤b) (hb:b≤s.size) :
    Ev P ⟨dst,.slice t x (some lo) (some hi) none,ty,pos,aft,none⟩ l w (.string (s.extract a.toNat b.toNat)):=fun _ _ e ha=>by
  have:=run_slice_string (P:=P) (dr w e) t s .i64 .i64 a b h.eq h0 hab hb
  simp [execOp,ha.eval hx,ha.eval hlo,ha.eval hhi,Instr.sliceAt,run_underlying h.eq,this]
end
attribute [local irreducible] ewp owp hwp hwq Ev Evg Fn retPost Res1
attribute [local irreducible] hwx loudX
noncomputable def IE (x0:Int):Option ByteArray:=if 0≤x0∧x0 < 100 then some (itoaB x0.toNat) else none
set_option maxRecDepth 100000 in
theorem IF {w:World} {A:Nat→Prop} (hA:∀ k,A k→k < w.heap.size) {x0:Int} (rx0:inI64 x0) {r:ByteArray} (hm:IE x0=some r) :
    Fn Tryz.prog 171 [.int .i64 x0] w fun v w'=>Ext w w'∧Vb w' (upA A w w') v r:=by
  obtain ⟨⟨h0,h1⟩,rfl⟩:=Di hm
  obtain ⟨k,rfl⟩:∃ k:Nat,x0=(k:Int):=⟨x0.toNat,by omega⟩
  refine AH Tryz.func171 rfl Tryz.ntmps171 ?_
  have e1:chkI ((k:Int) + 1)=some ((k:Int) + 1):=if_pos ⟨by omega,by omega⟩
  have e2:chkI ((k:Int) * 2)=some ((k:Int) * 2):=if_pos ⟨by omega,by omega⟩
  have e3:chkI ((k:Int) * 2 + 2)=some ((k:Int) * 2 + 2):=if_pos ⟨by omega,by omega⟩
  repeat (first|refine Ar ?_|refine Aj rfl ?_|refine Ah rfl ?_)
  refine Al rfl (o_z ?_)
  repeat (first|refine Ar ?_|refine Aj rfl ?_|refine Ah rfl ?_)
  refine Ak rfl (Ep rfl rfl (fun h=>?_) fun h=>?_)
  · refine o_z ?_
    repeat (first|refine Ar ?_|refine Aj rfl ?_|refine Ah rfl ?_)
    refine Ak rfl (Ak rfl ?_)
    refine Dn rfl rfl ?_ e1
    refine BA (OT (s:=itoD) rfl rfl rfl (by omega) (by omega) (by rw [Rm];omega)) rfl ?_
    refine Al rfl (o_z ?_)
    repeat (first|refine Ar ?_|refine Aj rfl ?_|refine Ah rfl ?_)
    refine ret1v rfl (At rfl) ⟨Below.refl _ _,?_⟩
    have:=TM k (by omega)
    have e:itoD.extract (k:Int).toNat ((k:Int) + 1).toNat=itoaB k:=by rw [← this];congr 1
    rw [e]
    exact vStr (Nat.le_trans (Kf k) (by decide))
  · refine o_z ?_
    repeat (first|refine Ar ?_|refine Aj rfl ?_|refine Ah rfl ?_)
    refine Ak rfl ?_
    refine GU rfl rfl ?_ e2
    refine Ak rfl ?_
    refine GU rfl rfl ?_ e2
    refine Dn rfl rfl ?_ e3
    refine BA (OT (s:=itoS) rfl rfl rfl (by omega) (by omega) (by rw [Rn];omega)) rfl ?_
    refine Al rfl (o_z ?_)
    repeat (first|refine Ar ?_|refine Aj rfl ?_|refine Ah rfl ?_)
    refine ret1v rfl (At rfl) ⟨Below.refl _ _,?_⟩
    have:=TN k (by omega) (by omega)
    have e:itoS.extract ((k:Int) * 2).toNat ((k:Int) * 2 + 2).toNat=itoaB k:=by rw [← this];congr 1
    rw [e]
    exact vStr (Nat.le_trans (Kf k) (by decide))
noncomputable def Ej (x0:Int) (x1:Int):Option ByteArray:=if x1=10∧0≤x0∧x0 < 100 then some (itoaB x0.toNat) else none
theorem HL {w:World} {A:Nat→Prop} (hA:∀ k,A k→k < w.heap.size) {x0:Int} (rx0:inI64 x0) {x1:Int} (rx1:inI64 x1) {r:ByteArray} (hm:Ej x0 x1=some r) :
    Fn Tryz.prog 142 [.int .i64 x0,.int .i64 x1] w fun v w'=>Ext w w'∧Vb w' (upA A w w') v r:=by
  obtain ⟨⟨rfl,h0,h1⟩,rfl⟩:=Di hm
  refine AH Tryz.func142 rfl Tryz.ntmps142 ?_
  repeat (first|refine Ar ?_|refine Aj rfl ?_|refine Ah rfl ?_)
  refine Al rfl (o_z ?_)
  repeat (first|refine Ar ?_|refine Aj rfl ?_|refine Ah rfl ?_)
  refine Ak rfl (EZ rfl rfl (fun _=>?_) fun h=>absurd rfl h)
  refine o_z ?_
  repeat (first|refine Ar ?_|refine Aj rfl ?_|refine Ah rfl ?_)
  refine Ak rfl (IS rfl rfl (fun _=>?_) fun h=>absurd h0 h)
  refine Ak rfl ?_
  refine An rfl rfl ?_
  refine Ak rfl ?_
  refine An rfl rfl ?_
  refine Ep rfl rfl (fun _=>?_) fun h=>absurd h1 h
  refine BD rfl rfl ?_
  refine o_z ?_
  repeat (first|refine Ar ?_|refine Aj rfl ?_|refine Ah rfl ?_)
  refine Ak rfl ?_
  refine Dr (R:=fun v w'=>Ext w w'∧Vb w' (upA A w w') v (itoaB x0.toNat)) rfl rfl (IF hA rx0 (if_pos ⟨h0,h1⟩)) fun v w' ⟨hE,hv⟩=>?_
  refine Al rfl (o_z ?_)
  repeat (first|refine Ar ?_|refine Aj rfl ?_|refine Ah rfl ?_)
  exact ret1v rfl (At rfl) ⟨hE,hv⟩
noncomputable def Ed (x0:Int):Option ByteArray :=
  bnd (Ej x0 10) fun q2=>some q2
theorem IN {w:World} {A:Nat→Prop} (hA:∀ k,A k→k < w.heap.size) {x0:Int} (rx0:inI64 x0) {r:ByteArray} (hm:Ed x0=some r) :
    Fn Tryz.prog 109 [(.int .i64 x0)] w fun v w'=>Ext w w'∧Vb w' (upA A w w') v r:=by
 obtain ⟨O,hB,a0⟩:=enter hA
 refine AH Tryz.func109 rfl Tryz.ntmps109 ?_
 unfold Ed at hm
 refine Ab (Aa (Al rfl (o_z ?_)))
 refine Ab (Aa (Ak rfl ?_))
 obtain ⟨q2,e3,hm⟩:=bs hm
 refine AG (O:=O) (A:=All w) (R:=fun w' F v=>Vb w' F v q2) (HL (fun _ h=>h) rx0 (show inI64 (10) from by decide) e3) rfl fun v8 w4 O5 S6 h7=>?_
 obtain ⟨rfl,z9⟩:=h7.str
 refine Al rfl (o_z ?_)
 refine AC ?_
 obtain rfl:=sm hm
 replace hB:=hB.st S6
 exact ret1v rfl (At rfl) ⟨hB.ext,(vStr z9)⟩
noncomputable def Ek (x0:Int):Option ByteArray :=
  bnd (Ed x0) fun q2=>some q2
theorem JD {w:World} {A:Nat→Prop} (hA:∀ k,A k→k < w.heap.size) {x0:Int} (rx0:inI64 x0) {r:ByteArray} (hm:Ek x0=some r) :
    Fn Tryz.prog 54 [(.int .i64 x0)] w fun v w'=>Ext w w'∧Vb w' (upA A w w') v r:=by
 obtain ⟨O,hB,a0⟩:=enter hA
 refine AH Tryz.func54 rfl Tryz.ntmps54 ?_
 unfold Ek at hm
 refine Ab (Aa (Al rfl (o_z ?_)))
 refine Ab (Aa (Ak rfl ?_))
 obtain ⟨q2,e3,hm⟩:=bs hm
 refine AG (O:=O) (A:=All w) (R:=fun w' F v=>Vb w' F v q2) (IN (fun _ h=>h) rx0 e3) rfl fun v8 w4 O5 S6 h7=>?_
 obtain ⟨rfl,z9⟩:=h7.str
 refine Al rfl (o_z ?_)
 refine AC ?_
 obtain rfl:=sm hm
 replace hB:=hB.st S6
 exact ret1v rfl (At rfl) ⟨hB.ext,(vStr z9)⟩
end
section
open Go Go.RowKit
theorem factsPw {vars:List Int} {f:List Fct}:FactsOk vars f↔(∀ x∈f,FactOk vars x)∧f.Pairwise fun x y=>x.var < y.var:=by
  constructor
  · intro h
    refine ⟨fun x hx=>?_,List.pairwise_iff_getElem.2 fun i j hi hj hij=>MO h j i _ _ hij (List.getElem?_eq_getElem hi) (List.getElem?_eq_getElem hj)⟩
    obtain ⟨i,hi,rfl⟩:=List.getElem_of_mem hx
    exact h.1 i _ (List.getElem?_eq_getElem hi)
  · rintro ⟨h1,h2⟩
    refine ⟨fun i x hx=>h1 x (List.mem_of_getElem? hx),fun i x y hx hy=>?_⟩
    obtain ⟨hi,rfl⟩:=List.getElem?_eq_some_iff.1 hx
    obtain ⟨hj,rfl⟩:=List.getElem?_eq_some_iff.1 hy
    exact List.pairwise_iff_getElem.1 h2 i (i + 1) hi hj (Nat.lt_succ_self i)
theorem Fz {vars:List Int} {x:Fct} (h:FactOk vars x):0≤x.var∧x.var < vars.length:=by
  obtain ⟨h1,_,y,h3,_⟩:=h
  have:=Bl h3
  omega
theorem Sl {vars vs:List Int} {x:Fct} (h:FactOk vars x):FactOk (vars ++ vs) x:=by
  obtain ⟨h1,h2,y,h3,h4⟩:=h
  exact ⟨h1,h2,y,by rw [List.getElem?_append_left (Bl h3)];exact h3,h4⟩
theorem TplOk.goal {t:Tpl} (h:TplOk t):t.goal.length≤64∧FactsOk t.vars t.goal:=h.lists _ List.mem_cons_self
theorem Gu {l:List Fct} {v:Int}:hasV l v=true↔∃ f∈l,f.var=v:=by
  unfold hasV;rw [List.any_eq_true];simp
def jb (t:Tpl) (i:Nat):Job:=match t.jobs[i]? with|some j=>j|none=>⟨⟨#[]⟩,1,[],[],[],[],[]⟩
theorem QG {t:Tpl} {i:Nat} {j:Job} (h:t.jobs[i]?=some j):jb t i=j:=by unfold jb;rw [h]
theorem MR {t:Tpl} {i:Nat} (h:i < t.jobs.length):jb t i∈t.jobs:=by
  unfold jb;rw [List.getElem?_eq_getElem h];exact List.getElem_mem h
theorem Ro {t:Tpl} {i:Nat} (h:i < t.jobs.length):t.jobs[i]?=some (jb t i):=by
  unfold jb;rw [List.getElem?_eq_getElem h]
def factsK (l:List Fct):List KF:=l.map fun f=>((0,f.var.toNat),f.val)
def needK1 (t:Tpl) (r w:List Fct) (v:Nat):List KF :=
  if hasV w (v:Int)=true then ((3,v),0) :: (if rdT t (v:Int)=true then [((4,v),0)] else [])
  else if hasV r (v:Int)=true∧wrT t (v:Int)=true then [((3,v),0)] else []
def becK1 (t:Tpl) (r w:List Fct) (v:Nat):List KF :=
  if hasV w (v:Int)=true then [((3,v),1)]
  else if hasV r (v:Int)=true∧wrT t (v:Int)=true then [((4,v),1)] else []
def needK (t:Tpl) (r w:List Fct) (n:Nat):List KF:=(List.range n).flatMap (needK1 t r w)
def becK (t:Tpl) (r w:List Fct) (n:Nat):List KF:=(List.range n).flatMap (becK1 t r w)
abbrev Hh:=Nat×Bool
def hR (t:Tpl) (h:Hh):List Fct:=if h.2=true then (jb t h.1).fin else (jb t h.1).start
def hW (t:Tpl) (h:Hh):List Fct:=if h.2=true then (jb t h.1).atEnd else (jb t h.1).atStart
structure KO where
  name:ByteArray
  cost:Int
  pre:List KF
  effs:List KF
def stN:ByteArray:=⟨#[115,116,97,114,116,32]⟩
def enN:ByteArray:=⟨#[101,110,100,32]⟩
def waN:ByteArray:=⟨#[119,97,105,116,32]⟩
def spN:ByteArray:=⟨#[32]⟩
def tiN:ByteArray:=⟨#[116,105,99,107]⟩
def adN:ByteArray:=⟨#[97,100,118,97,110,99,101]⟩
def ownP (t:Tpl) (h:Hh):List KF:=if h.2=true then [((1,h.1),(jb t h.1).dur + 1)] else [((1,h.1),0),((2,h.1),0)]
def ownE (t:Tpl) (h:Hh):List KF:=if h.2=true then [((1,h.1),0),((2,h.1),1)] else [((1,h.1),(jb t h.1).dur)]
def hapO (t:Tpl) (h:Hh):KO:=⟨(if h.2=true then enN else stN) ++ (jb t h.1).name,0,factsK (hR t h) ++ ownP t h ++ [((5,0),0)] ++ needK t (hR t h) (hW t h) t.vars.length,factsK (hW t h) ++ ownE t h ++ becK t (hR t h) (hW t h) t.vars.length⟩
def tickO:KO:=⟨tiN,0,[((5,0),0)],[((5,0),1)]⟩
def waitE (t:Tpl) (i:Nat) (k:Nat):List KF:=if 1 < k then [((1,i),(k:Int) - 1)] else if k=1 then [((1,i),(jb t i).dur + 1)] else []
def waitO (t:Tpl) (i:Nat) (k:Nat):KO:=⟨waN ++ (jb t i).name ++ spN ++ itoaB k,0,(if 0 < k then factsK (jb t i).over else []) ++ [((1,i),(k:Int)),((5,0),(i:Int) + 1)],waitE t i k ++ [((5,0),(i:Int) + 2)]⟩
def advO (t:Tpl):KO:=⟨adN,1,[((5,0),(t.jobs.length:Int) + 1)],(List.range t.jobs.length).map (fun i=>((2,i),0)) ++ ((ksM t t.vars.length).map fun k=>(k,0)) ++ [((5,0),0)]⟩
def hapL (t:Tpl) (n:Nat):List KO:=(List.range n).flatMap fun i=>[hapO t (i,false),hapO t (i,true)]
def waitL (t:Tpl) (n:Nat):List KO:=(List.range n).flatMap fun i=>(List.range ((jb t i).dur.toNat + 1)).map (waitO t i)
def opsK (t:Tpl):List KO:=hapL t t.jobs.length ++ (if t.jobs.length=0 then [] else tickO :: (waitL t t.jobs.length ++ [advO t]))
def wNo (t:Tpl) (i:Nat):Nat:=2 * t.jobs.length + 1 + (waitL t i).length
theorem KX (t:Tpl) (n:Nat):hapL t (n + 1)=hapL t n ++ [hapO t (n,false),hapO t (n,true)]:=by
  unfold hapL;rw [List.range_succ,List.flatMap_append];simp
theorem CX (t:Tpl):∀ n,(hapL t n).length=2 * n
  | 0=>rfl
  | n + 1=>by rw [KX,List.length_append,CX t n];simp;omega
theorem Kg (t:Tpl) (n:Nat):waitL t (n + 1)=waitL t n ++ (List.range ((jb t n).dur.toNat + 1)).map (waitO t n):=by
  unfold waitL;rw [List.range_succ,List.flatMap_append];simp
theorem Hn (t:Tpl) (n:Nat):(waitL t (n + 1)).length=(waitL t n).length + (jb t n).dur.toNat + 1:=by
  rw [Kg,List.length_append];simp;omega
theorem MS (t:Tpl) {a b:Nat} (h:a≤b):(waitL t a).length≤(waitL t b).length:=by
  induction b with
  | zero => have:a=0:=by omega
            subst this;exact Nat.le_refl _
  | succ b ih =>
    by_cases he:a=b + 1
    · subst he;exact Nat.le_refl _
    · have:=ih (by omega);rw [Hn];omega
theorem OU (t:Tpl):∀ (n i:Nat) (e:Bool),i < n→(hapL t n)[2 * i + (if e=true then 1 else 0)]?=some (hapO t (i,e))
  | 0,i,e,h=>by omega
  | n + 1,i,e,h=>by
    rw [KX]
    by_cases hi:i < n
    · rw [List.getElem?_append_left (by rw [CX];split<;>omega)]
      exact OU t n i e hi
    · have:i=n:=by omega
      subst this
      rw [List.getElem?_append_right (by rw [CX];omega),CX]
      cases e<;>simp
theorem NR (t:Tpl):∀ (n i k:Nat),i < n→k≤(jb t i).dur.toNat→(waitL t n)[(waitL t i).length + k]?=some (waitO t i k)
  | 0,i,k,h,_=>by omega
  | n + 1,i,k,h,hk=>by
    rw [Kg]
    by_cases hi:i < n
    · have h1:=MS t (a:=i + 1) (b:=n) (by omega)
      rw [Hn] at h1
      rw [List.getElem?_append_left (by omega)]
      exact NR t n i k hi hk
    · have:i=n:=by omega
      subst this
      rw [List.getElem?_append_right (by omega),List.getElem?_map]
      rw [show (waitL t i).length + k - (waitL t i).length=k from by omega,List.getElem?_range (by omega)]
      rfl
def hNo (h:Hh):Nat:=2 * h.1 + (if h.2=true then 1 else 0)
theorem TO {t:Tpl} {h:Hh} (hi:h.1 < t.jobs.length):(opsK t)[hNo h]?=some (hapO t h):=by
  unfold opsK hNo
  rw [List.getElem?_append_left (by rw [CX];split<;>omega)]
  exact OU t _ h.1 h.2 hi
theorem Sm {t:Tpl} (h:0 < t.jobs.length):(opsK t)[2 * t.jobs.length]?=some tickO:=by
  unfold opsK
  rw [List.getElem?_append_right (by rw [CX];omega),CX,if_neg (by omega),Nat.sub_self]
  rfl
theorem Sn {t:Tpl} {i k:Nat} (h:i < t.jobs.length) (hk:k≤(jb t i).dur.toNat):(opsK t)[wNo t i + k]?=some (waitO t i k):=by
  unfold opsK wNo
  rw [List.getElem?_append_right (by rw [CX];omega),CX,if_neg (by omega)]
  rw [show 2 * t.jobs.length + 1 + (waitL t i).length + k - 2 * t.jobs.length=((waitL t i).length + k) + 1 from by omega,List.getElem?_cons_succ]
  have:=NR t _ i k h hk
  rw [List.getElem?_append_left (Bl this)]
  exact this
theorem TP {t:Tpl} (h:0 < t.jobs.length):(opsK t)[wNo t t.jobs.length]?=some (advO t):=by
  unfold opsK wNo
  rw [List.getElem?_append_right (by rw [CX];omega),CX,if_neg (by omega)]
  rw [show 2 * t.jobs.length + 1 + (waitL t t.jobs.length).length - 2 * t.jobs.length=(waitL t t.jobs.length).length + 1 from by omega,List.getElem?_cons_succ]
  simp
theorem So (t:Tpl) (h:0 < t.jobs.length):(opsK t).length=wNo t t.jobs.length + 1:=by
  unfold opsK wNo
  rw [if_neg (by omega)]
  simp [CX];omega
end
section
open Go Go.RowKit
section
variable {t : Tpl}
theorem Tn {i:Nat} (h:¬ i < t.jobs.length):jb t i=⟨⟨#[]⟩,1,[],[],[],[],[]⟩:=by
  unfold jb;rw [List.getElem?_eq_none (by omega)]
theorem nilOk (vars:List Int):FactsOk vars []:=⟨fun i x hx=>by simp at hx,fun i x y hx=>by simp at hx⟩
theorem TplOk.job (ht:TplOk t) (i:Nat) {l:List Fct} (hl:l∈lstJ (jb t i)):FactsOk t.vars l:=by
  by_cases h:i < t.jobs.length
  · exact (ht.lists l (List.mem_cons_of_mem _ (List.mem_flatMap.2 ⟨_,MR h,hl⟩))).2
  · rw [Tn h] at hl
    have:l=[]:=by simpa [lstJ] using hl
    subst this;exact nilOk _
theorem TplOk.hR (ht:TplOk t) (h:Hh):FactsOk t.vars (hR t h):=by
  unfold Go.Proofs.YtjohlgjklmagnaaGreatDoor.hR
  split
  · exact ht.job h.1 (by simp [lstJ])
  · exact ht.job h.1 (by simp [lstJ])
theorem TplOk.hW (ht:TplOk t) (h:Hh):FactsOk t.vars (hW t h):=by
  unfold Go.Proofs.YtjohlgjklmagnaaGreatDoor.hW
  split
  · exact ht.job h.1 (by simp [lstJ])
  · exact ht.job h.1 (by simp [lstJ])
theorem TplOk.over (ht:TplOk t) (i:Nat):FactsOk t.vars (jb t i).over:=ht.job i (by simp [lstJ])
theorem TplOk.dur (ht:TplOk t) (i:Nat):1≤(jb t i).dur∧(jb t i).dur≤62:=by
  by_cases h:i < t.jobs.length
  · exact ht.durs _ (MR h)
  · rw [Tn h];exact ⟨by decide,by decide⟩
theorem KY {h:Hh} (hi:h.1 < t.jobs.length) {v:Int} (hv:hasV (hW t h) v=true):wrT t v=true:=by
  unfold wrT
  rw [List.any_eq_true]
  refine ⟨_,MR hi,?_⟩
  unfold Go.Proofs.YtjohlgjklmagnaaGreatDoor.hW at hv
  split at hv<;>simp [hv]
theorem OV {h:Hh} (hi:h.1 < t.jobs.length) {v:Int} (hv:hasV (hR t h) v=true):rdT t v=true:=by
  unfold rdT
  rw [List.any_eq_true]
  refine ⟨_,MR hi,?_⟩
  unfold Go.Proofs.YtjohlgjklmagnaaGreatDoor.hR at hv
  split at hv<;>simp [hv]
theorem PP {l:List Fct} (hl:FactsOk t.vars l) {v:Int} (h:hasV l v=true):0≤v∧v < t.vars.length:=by
  obtain ⟨f,hf,rfl⟩:=Gu.1 h
  exact Fz ((factsPw.1 hl).1 f hf)
def IntF (t:Tpl) (a b:Hh):Prop:=∃ v:Int,(hasV (hW t a) v=true∧(hasV (hW t b) v=true∨hasV (hR t b) v=true))∨(hasV (hR t a) v=true∧hasV (hW t b) v=true)
theorem IntF.symm {a b:Hh} (h:IntF t a b):IntF t b a:=by
  obtain ⟨v,⟨h1,h2|h2⟩|⟨h1,h2⟩⟩:=h
  · exact ⟨v,.inl ⟨h2,.inl h1⟩⟩
  · exact ⟨v,.inr ⟨h2,h1⟩⟩
  · exact ⟨v,.inl ⟨h2,.inr h1⟩⟩
def wrL (s:List Int) (l:List Fct):List Int:=l.foldl (fun s f=>s.set f.var.toNat f.val) s
theorem Nr:∀ (l:List Fct) (s:List Int),(wrL s l).length=s.length
  | [],_=>rfl
  | f :: l,s=>by show (wrL (s.set _ _) l).length=_;rw [Nr l,List.length_set]
theorem Rq:∀ {l:List Fct} {s:List Int} {v:Nat},(∀ f∈l,f.var.toNat≠v)→(wrL s l)[v]?=s[v]?
  | [],_,_,_=>rfl
  | f :: l,s,v,h=>by
    show (wrL (s.set _ _) l)[v]?=_
    rw [Rq fun g hg=>h g (List.mem_cons_of_mem _ hg),List.getElem?_set_ne (h f List.mem_cons_self)]
theorem Sp {l:List Fct} (hl:FactsOk t.vars l) {v:Nat} (h:hasV l (v:Int)=false):∀ f∈l,f.var.toNat≠v:=by
  intro f hf e
  have h1:=(Fz ((factsPw.1 hl).1 f hf)).1
  have:hasV l (v:Int)=true:=Gu.2 ⟨f,hf,by omega⟩
  rw [h] at this;cases this
def afH (t:Tpl) (s:List Int) (hs:List Hh):List Int:=hs.foldl (fun s h=>wrL s (hW t h)) s
theorem Ns (s:List Int) (a b:List Hh):afH t s (a ++ b)=afH t (afH t s a) b:=List.foldl_append
theorem Ho:∀ (hs:List Hh) (s:List Int),(afH t s hs).length=s.length
  | [],_=>rfl
  | h :: hs,s=>by show (afH t (wrL s _) hs).length=_;rw [Ho hs,Nr]
theorem Rr (ht:TplOk t) {v:Nat}:∀ {hs:List Hh} {s:List Int},(∀ h∈hs,hasV (hW t h) (v:Int)=false)→(afH t s hs)[v]?=s[v]?
  | [],_,_=>rfl
  | h :: hs,s,hh=>by
    show (afH t (wrL s _) hs)[v]?=_
    rw [Rr ht fun g hg=>hh g (List.mem_cons_of_mem _ hg),Rq (Sp (ht.hW h) (hh h List.mem_cons_self))]
def stA1 (t:Tpl) (q:Nat→Int) (h:Hh):Nat→Int:=fun i=>if i=h.1 then (if h.2=true then 0 else (jb t i).dur) else q i
def stA (t:Tpl) (q:Nat→Int) (hs:List Hh):Nat→Int:=hs.foldl (stA1 t) q
theorem TQ (q:Nat→Int) (a b:List Hh):stA t q (a ++ b)=stA t (stA t q a) b:=List.foldl_append
theorem Hv {i:Nat}:∀ {hs:List Hh} {q:Nat→Int},(∀ h∈hs,h.1≠i)→stA t q hs i=q i
  | [],_,_=>rfl
  | h :: hs,q,hh=>by
    show stA t (stA1 t q h) hs i=_
    rw [Hv fun g hg=>hh g (List.mem_cons_of_mem _ hg)]
    exact if_neg fun e=>hh h List.mem_cons_self e.symm
theorem KZ {h:Hh}:∀ {hs:List Hh} {q:Nat→Int},(hs.map (·.1)).Nodup→h∈hs→stA t q hs h.1=if h.2=true then 0 else (jb t h.1).dur
  | [],_,_,h=>by cases h
  | g :: hs,q,hn,hm=>by
    rw [List.map_cons,List.nodup_cons] at hn
    show stA t (stA1 t q g) hs h.1=_
    rcases List.mem_cons.1 hm with rfl|hm
    · rw [Hv fun k hk e=>hn.1 (by rw [← e];exact List.mem_map_of_mem hk)]
      exact if_pos rfl
    · exact KZ hn.2 hm
structure HBok (t:Tpl) (s:List Int) (q:Nat→Int) (hs:List Hh):Prop where
  jobs:∀ h∈hs,h.1 < t.jobs.length
  non:hs.Pairwise fun a b=>¬ IntF t a b
  nod:(hs.map (·.1)).Nodup
  own:∀ h∈hs,q h.1=if h.2=true then (jb t h.1).dur + 1 else 0
  reads:∀ h∈hs,holdsB (hR t h) s=true
theorem HBok.prefix {s:List Int} {q:Nat→Int} {a b:List Hh} (h:HBok t s q (a ++ b)):HBok t s q a :=
  ⟨fun x hx=>h.jobs x (List.mem_append_left _ hx),(List.pairwise_append.1 h.non).1,by have:=h.nod;rw [List.map_append] at this;exact (List.nodup_append.1 this).1,fun x hx=>h.own x (List.mem_append_left _ hx),fun x hx=>h.reads x (List.mem_append_left _ hx)⟩
def gst (t:Tpl) (s:List Int) (q:Nat→Int) (hs:List Hh) (p:Int):KSt:=fun k =>
  if k.1=0 then (s[k.2]?).getD 0
  else if k.1=1 then q k.2
  else if k.1=2 then (if (k.2,true)∈hs then 1 else 0)
  else if k.1=3 then (if hs.any (fun h=>hasV (hW t h) (k.2:Int))=true then 1 else 0)
  else if k.1=4 then (if hs.any (fun h=>hasV (hR t h) (k.2:Int) && !hasV (hW t h) (k.2:Int))=true then 1 else 0)
  else p
section
variable {s : List Int} {q : Nat → Int} {hs : List Hh} {p : Int}
theorem gst0 (v:Nat):gst t s q hs p (0,v)=(s[v]?).getD 0:=rfl
theorem gst1 (i:Nat):gst t s q hs p (1,i)=q i:=rfl
theorem gst2 (i:Nat):gst t s q hs p (2,i)=if (i,true)∈hs then 1 else 0:=rfl
theorem gst3 (v:Nat):gst t s q hs p (3,v)=if hs.any (fun h=>hasV (hW t h) (v:Int))=true then 1 else 0:=rfl
theorem gst4 (v:Nat):gst t s q hs p (4,v)=if hs.any (fun h=>hasV (hR t h) (v:Int) && !hasV (hW t h) (v:Int))=true then 1 else 0:=rfl
theorem Im {l:List Fct} {x:KF}:x∈factsK l↔∃ f∈l,x=((0,f.var.toNat),f.val):=by
  unfold factsK;rw [List.mem_map]
  exact ⟨fun ⟨f,h1,h2⟩=>⟨f,h1,h2.symm⟩,fun ⟨f,h1,h2⟩=>⟨f,h1,h2.symm⟩⟩
theorem Jc {l:List Fct} (hl:FactsOk t.vars l) (hs':s.length=t.vars.length):(∀ x∈factsK l,gst t s q hs p x.1=x.2)↔holdsB l s=true:=by
  unfold holdsB
  rw [List.all_eq_true]
  have key:∀ f∈l,(gst t s q hs p (0,f.var.toNat)=f.val↔hasB s f=true):=fun f hf=>by
    have h1:=Fz ((factsPw.1 hl).1 f hf)
    obtain ⟨x,hx⟩:=BB (l:=s) (k:=f.var.toNat) (by omega)
    rw [gst0]
    unfold hasB
    rw [hx]
    simp [h1.1]
  constructor
  · intro h f hf
    exact (key f hf).1 (h _ (Im.2 ⟨f,hf,rfl⟩))
  · intro h x hx
    obtain ⟨f,hf,rfl⟩:=Im.1 hx
    exact (key f hf).2 (h f hf)
theorem Sq (ht:TplOk t) {h:Hh} (hj:∀ g∈hs,g.1 < t.jobs.length) (hi:h.1 < t.jobs.length) :
    (∀ x∈needK t (hR t h) (hW t h) t.vars.length,gst t s q hs p x.1=x.2)↔∀ g∈hs,¬ IntF t g h:=by
  unfold needK
  simp only [List.mem_flatMap,List.mem_range]
  constructor
  · intro H g hg ⟨v,hv⟩
    have hw:hasV (hW t h) v=true∨hasV (hR t h) v=true:=by
      rcases hv with ⟨_,hv|hv⟩|⟨_,hv⟩
      · exact .inl hv
      · exact .inr hv
      · exact .inl hv
    have hv0:0≤v∧v < t.vars.length:=by
      rcases hw with hw|hw
      · exact PP (ht.hW h) hw
      · exact PP (ht.hR h) hw
    obtain ⟨n,rfl⟩:=Int.eq_ofNat_of_zero_le hv0.1
    have hn:n < t.vars.length:=by omega
    by_cases h1:hasV (hW t h) (n:Int)=true
    · have e1:=H ((3,n),0) ⟨n,hn,by unfold needK1;rw [if_pos h1];simp⟩
      simp only [gst3] at e1
      by_cases g1:hasV (hW t g) (n:Int)=true
      · rw [if_pos (List.any_eq_true.2 ⟨g,hg,g1⟩)] at e1;cases e1
      · have g2:hasV (hR t g) (n:Int)=true:=by
          rcases hv with ⟨a,_⟩|⟨a,_⟩
          · exact absurd a g1
          · exact a
        have hr:=OV (hj g hg) g2
        have e2:=H ((4,n),0) ⟨n,hn,by unfold needK1;rw [if_pos h1,if_pos hr];simp⟩
        simp only [gst4] at e2
        rw [if_pos (List.any_eq_true.2 ⟨g,hg,by simp [g1,g2]⟩)] at e2;cases e2
    · have h2:hasV (hR t h) (n:Int)=true:=hw.resolve_left h1
      have g1:hasV (hW t g) (n:Int)=true:=by
        rcases hv with ⟨a,_⟩|⟨_,a⟩
        · exact a
        · exact absurd a h1
      have hr:=KY (hj g hg) g1
      have e1:=H ((3,n),0) ⟨n,hn,by unfold needK1;rw [if_neg h1,if_pos ⟨h2,hr⟩];simp⟩
      simp only [gst3] at e1
      rw [if_pos (List.any_eq_true.2 ⟨g,hg,g1⟩)] at e1;cases e1
  · rintro H x ⟨v,hv,hx⟩
    unfold needK1 at hx
    by_cases h1:hasV (hW t h) (v:Int)=true
    · rw [if_pos h1] at hx
      rcases List.mem_cons.1 hx with rfl|hx
      · rw [gst3,if_neg]
        intro ha
        obtain ⟨g,hg,g1⟩:=List.any_eq_true.1 ha
        exact H g hg ⟨_,.inl ⟨g1,.inl h1⟩⟩
      · split at hx
        · have:x=((4,v),0):=by simpa using hx
          subst this
          rw [gst4,if_neg]
          intro ha
          obtain ⟨g,hg,g1⟩:=List.any_eq_true.1 ha
          rw [Bool.and_eq_true] at g1
          exact H g hg ⟨_,.inr ⟨g1.1,h1⟩⟩
        · cases hx
    · rw [if_neg h1] at hx
      split at hx
      · rename_i h2
        have:x=((3,v),0):=by simpa using hx
        subst this
        rw [gst3,if_neg]
        intro ha
        obtain ⟨g,hg,g1⟩:=List.any_eq_true.1 ha
        exact H g hg ⟨_,.inl ⟨g1,.inr h2.1⟩⟩
      · cases hx
theorem MT {α:Type} {p q:α→Bool}:∀ {l:List α},(∀ x∈l,p x=q x)→l.all p=l.all q
  | [],_=>rfl
  | x :: l,h=>by rw [List.all_cons,List.all_cons,h x List.mem_cons_self,MT fun y hy=>h y (List.mem_cons_of_mem _ hy)]
theorem OW (ht:TplOk t) {l:List Fct} (hl:FactsOk t.vars l) (h:∀ f∈l,∀ g∈hs,hasV (hW t g) f.var=false):holdsB l (afH t s hs)=holdsB l s:=by
  unfold holdsB
  refine MT fun f hf=>?_
  have h1:=(Fz ((factsPw.1 hl).1 f hf)).1
  unfold hasB
  rw [Rr ht fun g hg=>by
    have:=h f hf g hg
    rwa [show ((f.var.toNat:Nat):Int)=f.var from by omega]]
theorem TR (ht:TplOk t) (hsl:s.length=t.vars.length) (hb:HBok t s q hs) {h:Hh} (hi:h.1 < t.jobs.length) :
    (∀ x∈(hapO t h).pre,gst t (afH t s hs) (stA t q hs) hs 0 x.1=x.2)↔HBok t s q (hs ++ [h]):=by
  unfold hapO
  simp only [List.mem_append,or_imp,forall_and]
  rw [Jc (ht.hR h) (by rw [Ho];exact hsl),Sq ht hb.jobs hi]
  have hd:=ht.dur h.1
  have own_iff:(∀ x∈ownP t h,gst t (afH t s hs) (stA t q hs) hs 0 x.1=x.2)↔(∀ g∈hs,g.1≠h.1)∧q h.1=if h.2=true then (jb t h.1).dur + 1 else 0:=by
    constructor
    · intro H
      have hno:∀ g∈hs,g.1≠h.1:=by
        intro g hg e
        have hst:=KZ (t:=t) (q:=q) hb.nod hg
        rw [e] at hst
        unfold ownP at H
        by_cases h2:h.2=true
        · rw [if_pos h2] at H
          have:=H ((1,h.1),(jb t h.1).dur + 1) (by simp)
          simp only [gst1] at this
          rw [hst] at this
          split at this<;>omega
        · rw [if_neg h2] at H
          have e1:=H ((1,h.1),0) (by simp)
          have e2:=H ((2,h.1),0) (by simp)
          simp only [gst1,gst2] at e1 e2
          rw [hst] at e1
          by_cases g2:g.2=true
          · rw [if_pos (by rw [← e,← g2];exact hg)] at e2;cases e2
          · rw [if_neg g2] at e1;omega
      refine ⟨hno,?_⟩
      unfold ownP at H
      by_cases h2:h.2=true
      · rw [if_pos h2] at H
        have:=H ((1,h.1),(jb t h.1).dur + 1) (by simp)
        simp only [gst1] at this
        rw [Hv hno] at this
        rw [if_pos h2];exact this
      · rw [if_neg h2] at H
        have e1:=H ((1,h.1),0) (by simp)
        simp only [gst1] at e1
        rw [Hv hno] at e1
        rw [if_neg h2];exact e1
    · rintro ⟨hno,hq⟩ x hx
      unfold ownP at hx
      by_cases h2:h.2=true
      · rw [if_pos h2] at hx hq
        have:x=((1,h.1),(jb t h.1).dur + 1):=by simpa using hx
        subst this
        rw [gst1,Hv hno];exact hq
      · rw [if_neg h2] at hx hq
        have:x=((1,h.1),0)∨x=((2,h.1),0):=by simpa using hx
        rcases this with rfl|rfl
        · rw [gst1,Hv hno];exact hq
        · rw [gst2,if_neg (fun hm:(h.1,true)∈hs=>hno _ hm rfl)]
  rw [own_iff]
  constructor
  · rintro ⟨⟨⟨h1,h2,h3⟩,_⟩,h4⟩
    refine ⟨fun g hg=>?_,?_,?_,fun g hg=>?_,fun g hg=>?_⟩
    · rcases List.mem_append.1 hg with hg|hg
      · exact hb.jobs g hg
      · have:g=h:=by simpa using hg
        subst this;exact hi
    · rw [List.pairwise_append]
      exact ⟨hb.non,List.pairwise_singleton _ _,fun a ha b hbm=>by
        have:b=h:=by simpa using hbm
        subst this;exact h4 a ha⟩
    · rw [List.map_append,List.nodup_append]
      refine ⟨hb.nod,by simp,fun a ha b hbm=>?_⟩
      obtain ⟨g,hg,rfl⟩:=List.mem_map.1 ha
      have:b=h.1:=by simpa using hbm
      subst this;exact h2 g hg
    · rcases List.mem_append.1 hg with hg|hg
      · exact hb.own g hg
      · have:g=h:=by simpa using hg
        subst this;exact h3
    · rcases List.mem_append.1 hg with hg|hg
      · exact hb.reads g hg
      · have:g=h:=by simpa using hg
        subst this
        rw [← h1,OW ht (ht.hR g)]
        intro f hf g' hg'
        rw [Bool.eq_false_iff]
        intro hw
        exact h4 g' hg' ⟨f.var,.inl ⟨hw,.inr (Gu.2 ⟨f,hf,rfl⟩)⟩⟩
  · intro H
    have hm:h∈hs ++ [h]:=by simp
    have hnon:∀ g∈hs,¬ IntF t g h:=fun g hg=>(List.pairwise_append.1 H.non).2.2 g hg h (by simp)
    refine ⟨⟨⟨?_,fun g hg e=>?_,H.own h hm⟩,fun x hx=>?_⟩,hnon⟩
    · rw [OW ht (ht.hR h)]
      · exact H.reads h hm
      · intro f hf g' hg'
        rw [Bool.eq_false_iff]
        intro hw
        exact hnon g' hg' ⟨f.var,.inl ⟨hw,.inr (Gu.2 ⟨f,hf,rfl⟩)⟩⟩
    · have:=H.nod
      rw [List.map_append,List.nodup_append] at this
      exact this.2.2 g.1 (List.mem_map_of_mem hg) h.1 (by simp) e
    · have:x=((5,0),0):=by simpa using hx
      subst this;rfl
end
end
end
section
open Go Go.RowKit
section
variable {t : Tpl} {s : List Int} {q : Nat → Int} {hs : List Hh} {p : Int}
theorem Mh {k:Ky} {c:Int} {l:List KF} {σ:KSt} (P:Prop) [Decidable P] (h1:∀ x∈l,x.1=k→x.2=c) (h2:P↔∃ x∈l,x.1=k):updL σ l k=if P then c else σ k:=by
  by_cases hp:P
  · rw [if_pos hp];exact Hc h1 (h2.1 hp)
  · rw [if_neg hp];exact Df fun x hx e=>hp (h2.2 ⟨x,hx,e⟩)
theorem Hw {l:List Fct} {x:KF} (h:x∈factsK l):x.1.1=0:=by
  obtain ⟨f,_,rfl⟩:=Im.1 h;rfl
theorem Gv {r w:List Fct} {n:Nat} {x:KF}:x∈becK t r w n↔∃ v,v < n∧((x=((3,v),1)∧hasV w (v:Int)=true)∨(x=((4,v),1)∧hasV w (v:Int)=false∧hasV r (v:Int)=true∧wrT t (v:Int)=true)):=by
  unfold becK
  simp only [List.mem_flatMap,List.mem_range]
  constructor
  · rintro ⟨v,hv,hx⟩
    refine ⟨v,hv,?_⟩
    unfold becK1 at hx
    split at hx
    · rename_i h1;exact .inl ⟨by simpa using hx,h1⟩
    · rename_i h1
      split at hx
      · rename_i h2;exact .inr ⟨by simpa using hx,by simpa using h1,h2⟩
      · cases hx
  · rintro ⟨v,hv,⟨rfl,h1⟩|⟨rfl,h1,h2⟩⟩
    · exact ⟨v,hv,by unfold becK1;rw [if_pos h1];simp⟩
    · exact ⟨v,hv,by unfold becK1;rw [if_neg (by rw [h1];decide),if_pos h2];simp⟩
theorem Kh {r w:List Fct} {n:Nat} {x:KF} (h:x∈becK t r w n):x.1.1=3∨x.1.1=4:=by
  obtain ⟨v,_,⟨rfl,_⟩|⟨rfl,_⟩⟩:=Gv.1 h
  · exact .inl rfl
  · exact .inr rfl
theorem Rs {r w:List Fct} {n:Nat} {x:KF} (h:x∈needK t r w n):∃ v,v < n∧(((x=((3,v),0)∨(x=((4,v),0)∧rdT t (v:Int)=true))∧hasV w (v:Int)=true)∨(x=((3,v),0)∧hasV r (v:Int)=true∧wrT t (v:Int)=true)):=by
  unfold needK at h
  simp only [List.mem_flatMap,List.mem_range] at h
  obtain ⟨v,hv,hx⟩:=h
  refine ⟨v,hv,?_⟩
  unfold needK1 at hx
  split at hx
  · rename_i h1
    refine .inl ⟨?_,h1⟩
    rcases List.mem_cons.1 hx with h|h
    · exact .inl h
    · split at h
      · rename_i h2;exact .inr ⟨by simpa using h,h2⟩
      · cases h
  · split at hx
    · rename_i h2;exact .inr ⟨by simpa using hx,h2⟩
    · cases hx
theorem HM {h:Hh} {x:KF} (hx:x∈ownE t h):(x.1.1=1∨x.1.1=2)∧x.1.2=h.1:=by
  unfold ownE at hx
  split at hx
  · have:x=((1,h.1),0)∨x=((2,h.1),1):=by simpa using hx
    rcases this with rfl|rfl
    · exact ⟨.inl rfl,rfl⟩
    · exact ⟨.inr rfl,rfl⟩
  · have:x=((1,h.1),(jb t h.1).dur):=by simpa using hx
    subst this;exact ⟨.inl rfl,rfl⟩
theorem MU:∀ {w:List Fct} {σ:KSt} {s:List Int},(∀ f∈w,f.var.toNat < s.length)→(∀ v,σ (0,v)=(s[v]?).getD 0)→∀ v,updL σ (factsK w) (0,v)=((wrL s w)[v]?).getD 0
  | [],_,_,_,h,v=>h v
  | f :: w,σ,s,hl,h,v=>by
    show updL (updK σ (0,f.var.toNat) f.val) (factsK w) (0,v)=((wrL (s.set f.var.toNat f.val) w)[v]?).getD 0
    refine MU (fun g hg=>by rw [List.length_set];exact hl g (List.mem_cons_of_mem _ hg)) (fun u=>?_) v
    rw [List.getElem?_set]
    by_cases he:f.var.toNat=u
    · subst he
      rw [if_pos rfl,if_pos (hl f List.mem_cons_self),HK];rfl
    · rw [if_neg he,Iw (by intro e;exact he (by injection e with _ e;exact e.symm)),h]
theorem Vx (ht:TplOk t) (h:Hh) (hsl:s.length=t.vars.length):∀ f∈hW t h,f.var.toNat < s.length:=fun f hf=>by
  have:=Fz ((factsPw.1 (ht.hW h)).1 f hf);omega
theorem JE {σ τ:KSt} (h:∀ k∈keys t,σ k=τ k):enc t σ=enc t τ:=by
  unfold enc
  exact List.map_congr_left h
theorem Sr (ht:TplOk t) (hsl:s.length=t.vars.length) {h:Hh} :
    enc t (updL (gst t s q hs p) (hapO t h).effs)=enc t (gst t (wrL s (hW t h)) (stA1 t q h) (hs ++ [h]) p):=by
  refine JE fun k hk=>?_
  unfold hapO
  simp only [OR]
  rcases Ei.1 hk with ⟨h1,h2⟩|⟨h1|h1,h2⟩|⟨h1,h2,h3⟩|⟨h1,h2,h3,h4⟩|h1
  · obtain ⟨a,v⟩:=k
    simp only at h1;subst h1
    rw [Df (fun x hx e=>by have:=Kh hx;rw [e] at this;simp at this),Df (fun x hx e=>by have:=(HM hx).1;rw [e] at this;simp at this)]
    rw [MU (Vx ht h hsl) (fun v=>gst0 v),gst0]
  · obtain ⟨a,i⟩:=k
    simp only at h1;subst h1
    rw [Df (fun x hx e=>by have:=Kh hx;rw [e] at this;simp at this)]
    rw [gst1]
    unfold ownE stA1
    by_cases hi:i=h.1
    · subst hi
      rw [if_pos rfl]
      by_cases h2:h.2=true
      · rw [if_pos h2,if_pos h2,Gt,Gt,Ke,Iw (by intro e;cases e),HK]
      · rw [if_neg h2,if_neg h2,Gt,Ke,HK]
    · rw [if_neg hi]
      rw [Df (fun x hx e=>by have:=(HM (t:=t) (h:=h) (by unfold ownE;exact hx)).2;rw [e] at this;exact hi this),Df (fun x hx e=>by have:=Hw hx;rw [e] at this;cases this)]
      rfl
  · obtain ⟨a,i⟩:=k
    simp only at h1;subst h1
    rw [Df (fun x hx e=>by have:=Kh hx;rw [e] at this;simp at this)]
    have e0 : ∀ σ:KSt,updL σ (ownE t h) (2,i)=if h=(i,true) then 1 else σ (2,i):=fun σ=>by
      refine Mh _ (fun x hx e=>?_) ?_
      · unfold ownE at hx
        split at hx
        · have:x=((1,h.1),0)∨x=((2,h.1),1):=by simpa using hx
          rcases this with rfl|rfl
          · cases e
          · rfl
        · have:x=((1,h.1),(jb t h.1).dur):=by simpa using hx
          subst this;cases e
      · constructor
        · rintro rfl
          exact ⟨((2,i),1),by unfold ownE;simp,rfl⟩
        · rintro ⟨x,hx,e⟩
          unfold ownE at hx
          split at hx
          · rename_i hh2
            have:x=((1,h.1),0)∨x=((2,h.1),1):=by simpa using hx
            rcases this with rfl|rfl
            · cases e
            · injection e with _ e
              obtain ⟨a,b⟩:=h
              simp only at e hh2
              subst e;subst hh2;rfl
          · have:x=((1,h.1),(jb t h.1).dur):=by simpa using hx
            subst this;cases e
    rw [e0,Df (fun x hx e=>by have:=Hw hx;rw [e] at this;cases this),gst2,gst2]
    by_cases hm:(i,true)∈hs
    · rw [if_pos hm,if_pos (List.mem_append_left _ hm)]
      split<;>rfl
    · rw [if_neg hm]
      by_cases he:h=(i,true)
      · rw [if_pos he,if_pos (List.mem_append_right _ (by rw [he];simp))]
      · rw [if_neg he,if_neg (by
          intro hh
          rcases List.mem_append.1 hh with hh|hh
          · exact hm hh
          · exact he (List.mem_singleton.1 hh).symm)]
  · obtain ⟨a,v⟩:=k
    simp only at h1 h2 h3;subst h1
    rw [Mh (c:=1) (hasV (hW t h) (v:Int)=true) (fun x hx e=>by
      obtain ⟨u,_,⟨rfl,_⟩|⟨rfl,_⟩⟩:=Gv.1 hx
      · rfl
      · cases e) ⟨fun hh=>⟨((3,v),1),Gv.2 ⟨v,h2,.inl ⟨rfl,hh⟩⟩,rfl⟩,fun ⟨x,hx,e⟩=>by
        obtain ⟨u,_,⟨rfl,hu⟩|⟨rfl,_⟩⟩:=Gv.1 hx
        · injection e with _ e;subst e;exact hu
        · cases e⟩]
    rw [Df (fun x hx e=>by have:=(HM hx).1;rw [e] at this;simp at this),Df (fun x hx e=>by have:=Hw hx;rw [e] at this;cases this),gst3,gst3,List.any_append]
    simp only [List.any_cons,List.any_nil,Bool.or_false]
    cases hs.any (fun h=>hasV (hW t h) (v:Int))<;>cases hasV (hW t h) (v:Int)<;>simp
  · obtain ⟨a,v⟩:=k
    simp only at h1 h2 h3;subst h1
    rw [Mh (c:=1) (hasV (hW t h) (v:Int)=false∧hasV (hR t h) (v:Int)=true) (fun x hx e=>by
      obtain ⟨u,_,⟨rfl,_⟩|⟨rfl,_⟩⟩:=Gv.1 hx
      · cases e
      · rfl) ⟨fun hh=>⟨((4,v),1),Gv.2 ⟨v,h2,.inr ⟨rfl,hh.1,hh.2,h3⟩⟩,rfl⟩,fun ⟨x,hx,e⟩=>by
        obtain ⟨u,_,⟨rfl,hu⟩|⟨rfl,hu⟩⟩:=Gv.1 hx
        · cases e
        · injection e with _ e;subst e;exact ⟨hu.1,hu.2.1⟩⟩]
    rw [Df (fun x hx e=>by have:=(HM hx).1;rw [e] at this;simp at this),Df (fun x hx e=>by have:=Hw hx;rw [e] at this;cases this),gst4,gst4,List.any_append]
    simp only [List.any_cons,List.any_nil,Bool.or_false]
    cases hs.any (fun h=>hasV (hR t h) (v:Int) && !hasV (hW t h) (v:Int))<;>cases hasV (hW t h) (v:Int)<;>cases hasV (hR t h) (v:Int)<;>simp
  · subst h1
    rw [Df (fun x hx e=>by have:=Kh hx;rw [e] at this;simp at this),Df (fun x hx e=>by have:=(HM hx).1;rw [e] at this;simp at this),Df (fun x hx e=>by have:=Hw hx;rw [e] at this;cases this)]
    rfl
theorem Rt:enc t (updL (gst t s q hs p) tickO.effs)=enc t (gst t s q hs 1):=by
  refine JE fun k hk=>?_
  show updK (gst t s q hs p) (5,0) 1 k=_
  by_cases h:k=(5,0)
  · subst h;rw [HK];rfl
  · rw [Iw h]
    rcases Ei.1 hk with ⟨h1,_⟩|⟨h1|h1,_⟩|⟨h1,_⟩|⟨h1,_⟩|h1
    iterate 5 (obtain ⟨a,v⟩:=k;simp only at h1;subst h1;rfl)
    exact absurd h1 h
def nxc (d c:Int):Int:=if 1 < c then c - 1 else if c=1 then d + 1 else 0
def setQ (q:Nat→Int) (i:Nat) (c:Int):Nat→Int:=fun k=>if k=i then c else q k
theorem Ru {i k:Nat} (hk:q i=(k:Int)):enc t (updL (gst t s q hs p) (waitO t i k).effs)=enc t (gst t s (setQ q i (nxc (jb t i).dur (k:Int))) hs ((i:Int) + 2)):=by
  refine JE fun y hy=>?_
  show updL (gst t s q hs p) (waitE t i k ++ [((5,0),(i:Int) + 2)]) y=_
  rw [OR,Gt,Ke]
  have key:∀ x∈waitE t i k,x.1=(1,i)∧x.2=nxc (jb t i).dur (k:Int):=fun x hx=>by
    unfold waitE at hx
    unfold nxc
    split at hx
    · have:x=((1,i),(k:Int) - 1):=by simpa using hx
      subst this;rw [if_pos (by omega)];exact ⟨rfl,rfl⟩
    · split at hx
      · have:x=((1,i),(jb t i).dur + 1):=by simpa using hx
        subst this;rw [if_neg (by omega),if_pos (by omega)];exact ⟨rfl,rfl⟩
      · cases hx
  by_cases h:y=(5,0)
  · subst h;rw [HK];rfl
  rw [Iw h]
  by_cases h1:y=(1,i)
  · subst h1
    by_cases h0:k=0
    · have:waitE t i k=[]:=by unfold waitE;rw [if_neg (by omega),if_neg (by omega)]
      rw [this,Ke]
      show q i=setQ q i _ i
      unfold setQ nxc
      rw [if_pos rfl,hk,h0];rfl
    · rw [Hc (c:=nxc (jb t i).dur (k:Int)) (fun x hx _=>(key x hx).2) (by
        unfold waitE
        by_cases h2:1 < k
        · rw [if_pos h2];exact ⟨_,List.mem_singleton.2 rfl,rfl⟩
        · rw [if_neg h2,if_pos (by omega)];exact ⟨_,List.mem_singleton.2 rfl,rfl⟩)]
      show _=setQ q i _ i
      unfold setQ
      rw [if_pos rfl]
  · rw [Df fun x hx e=>h1 (by rw [← e];exact (key x hx).1)]
    rcases Ei.1 hy with ⟨g1,_⟩|⟨g1|g1,_⟩|⟨g1,_⟩|⟨g1,_⟩|g1
    · obtain ⟨a,v⟩:=y;simp only at g1;subst g1;rfl
    · obtain ⟨a,v⟩:=y;simp only at g1;subst g1
      show q v=setQ q i _ v
      unfold setQ
      rw [if_neg (by rintro rfl;exact h1 rfl)]
    iterate 3 (obtain ⟨a,v⟩:=y;simp only at g1;subst g1;rfl)
    exact absurd g1 h
theorem Ss (ht:TplOk t) (hsl:s.length=t.vars.length) {i k:Nat}:(∀ x∈(waitO t i k).pre,gst t s q hs p x.1=x.2)↔(0 < k→holdsB (jb t i).over s=true)∧q i=(k:Int)∧p=(i:Int) + 1:=by
  unfold waitO
  simp only [List.mem_append,or_imp,forall_and]
  constructor
  · rintro ⟨h1,h2⟩
    refine ⟨fun hk=>?_,h2 ((1,i),(k:Int)) (by simp),h2 ((5,0),(i:Int) + 1) (by simp)⟩
    rw [if_pos hk] at h1
    exact (Jc (ht.over i) hsl).1 h1
  · rintro ⟨h1,h2,h3⟩
    refine ⟨fun x hx=>?_,fun x hx=>?_⟩
    · split at hx
      · rename_i hk;exact (Jc (ht.over i) hsl).2 (h1 hk) x hx
      · cases hx
    · have:x=((1,i),(k:Int))∨x=((5,0),(i:Int) + 1):=by simpa using hx
      rcases this with rfl|rfl
      · exact h2
      · exact h3
theorem Su:enc t (updL (gst t s q hs p) (advO t).effs)=enc t (gst t s q [] 0):=by
  refine JE fun k hk=>?_
  show updL (gst t s q hs p) ((List.range t.jobs.length).map (fun i=>((2,i),(0:Int))) ++ ((ksM t t.vars.length).map fun k=>(k,(0:Int))) ++ [((5,0),0)]) k=_
  have hk5:∀ x∈(List.range t.jobs.length).map (fun i=>(((2,i):Ky),(0:Int))) ++ ((ksM t t.vars.length).map fun k=>(k,(0:Int))) ++ [((5,0),0)],x.1.1≠0∧x.1.1≠1∧x.2=0:=fun x hx=>by
    rw [List.mem_append,List.mem_append,List.mem_map,List.mem_map] at hx
    rcases hx with (⟨i,_,rfl⟩|⟨y,hy,rfl⟩)|hx
    · exact ⟨by simp,by simp,rfl⟩
    · unfold ksM at hy
      obtain ⟨v,_,hy⟩:=List.mem_flatMap.1 hy
      rcases JC.1 hy with ⟨rfl,_⟩|⟨rfl,_⟩
      · exact ⟨by simp,by simp,rfl⟩
      · exact ⟨by simp,by simp,rfl⟩
    · have:x=((5,0),0):=by simpa using hx
      subst this;exact ⟨by simp,by simp,rfl⟩
  rcases Ei.1 hk with ⟨h1,_⟩|⟨h1|h1,h2⟩|⟨h1,h2,h3⟩|⟨h1,h2,h3,h4⟩|h1
  · rw [Df fun x hx e=>(hk5 x hx).1 (by rw [e];exact h1)]
    obtain ⟨a,v⟩:=k;simp only at h1;subst h1;rfl
  · rw [Df fun x hx e=>(hk5 x hx).2.1 (by rw [e];exact h1)]
    obtain ⟨a,v⟩:=k;simp only at h1;subst h1;rfl
  · rw [Hc (c:=0) (fun x hx _=>(hk5 x hx).2.2) ⟨(k,0),by
      obtain ⟨a,v⟩:=k;simp only at h1 h2;subst h1
      simp [h2],rfl⟩]
    obtain ⟨a,v⟩:=k;simp only at h1;subst h1;rfl
  · rw [Hc (c:=0) (fun x hx _=>(hk5 x hx).2.2) ⟨(k,0),by
      obtain ⟨a,v⟩:=k;simp only at h1 h2 h3;subst h1
      rw [List.mem_append,List.mem_append,List.mem_map,List.mem_map]
      exact .inl (.inr ⟨(3,v),List.mem_flatMap.2 ⟨v,List.mem_range.2 h2,JC.2 (.inl ⟨rfl,h3⟩)⟩,rfl⟩),rfl⟩]
    obtain ⟨a,v⟩:=k;simp only at h1;subst h1;rfl
  · rw [Hc (c:=0) (fun x hx _=>(hk5 x hx).2.2) ⟨(k,0),by
      obtain ⟨a,v⟩:=k;simp only at h1 h2 h3 h4;subst h1
      rw [List.mem_append,List.mem_append,List.mem_map,List.mem_map]
      exact .inl (.inr ⟨(4,v),List.mem_flatMap.2 ⟨v,List.mem_range.2 h2,JC.2 (.inr ⟨rfl,h3,h4⟩)⟩,rfl⟩),rfl⟩]
    obtain ⟨a,v⟩:=k;simp only at h1;subst h1;rfl
  · subst h1
    rw [Hc (c:=0) (fun x hx _=>(hk5 x hx).2.2) ⟨((5,0),0),by simp,rfl⟩]
    rfl
end
end
section
open Go Go.RowKit
structure Cmd (t:Tpl) (u:Tsk):Prop where
  len:u.ops.length=(opsK t).length
  ops:∀ (k:Nat) o,(opsK t)[k]?=some o→∃ p,u.ops[k]?=some p∧p.cost=o.cost∧p.pre.Perm (o.pre.map (toF t))∧p.effs=o.effs.map (toE t)
  init:u.init=enc t (gst t t.init (fun _=>0) [] 0)
  goal:u.goal=(factsK t.goal ++ (List.range t.jobs.length).map (fun i=>(((1,i):Ky),(0:Int))) ++ [((5,0),0)]).map (toF t)
  ok:TaskOk u
section
variable {t : Tpl} {s : List Int} {q : Nat → Int} {hs : List Hh} {p : Int} {u : Tsk}
theorem key0 (ht:TplOk t) {l:List Fct} (hl:FactsOk t.vars l) {x:KF} (hx:x∈factsK l):x.1∈keys t:=by
  obtain ⟨f,hf,rfl⟩:=Im.1 hx
  have:=Fz ((factsPw.1 hl).1 f hf)
  exact Ei.2 (.inl ⟨rfl,by simp only;omega⟩)
theorem key1 {i:Nat} (h:i < t.jobs.length):((1,i):Ky)∈keys t:=Ei.2 (.inr (.inl ⟨.inl rfl,h⟩))
theorem key2 {i:Nat} (h:i < t.jobs.length):((2,i):Ky)∈keys t:=Ei.2 (.inr (.inl ⟨.inr rfl,h⟩))
theorem key3 {v:Nat} (h:v < t.vars.length) (hw:wrT t (v:Int)=true):((3,v):Ky)∈keys t:=Ei.2 (.inr (.inr (.inl ⟨rfl,h,hw⟩)))
theorem key4 {v:Nat} (h:v < t.vars.length) (hw:wrT t (v:Int)=true) (hr:rdT t (v:Int)=true):((4,v):Ky)∈keys t:=Ei.2 (.inr (.inr (.inr (.inl ⟨rfl,h,hw,hr⟩))))
theorem key5:((5,0):Ky)∈keys t:=Ei.2 (.inr (.inr (.inr (.inr rfl))))
def KOk (t:Tpl) (o:KO):Prop:=(∀ x∈o.pre,x.1∈keys t)∧∀ x∈o.effs,x.1∈keys t
theorem TS (ht:TplOk t) {h:Hh} (hi:h.1 < t.jobs.length):KOk t (hapO t h):=by
  unfold KOk hapO
  simp only [List.mem_append,or_imp,forall_and]
  refine ⟨⟨⟨⟨fun x hx=>key0 ht (ht.hR h) hx,fun x hx=>?_⟩,fun x hx=>?_⟩,fun x hx=>?_⟩,⟨fun x hx=>key0 ht (ht.hW h) hx,fun x hx=>?_⟩,fun x hx=>?_⟩
  · unfold ownP at hx
    split at hx
    · have:x=((1,h.1),(jb t h.1).dur + 1):=by simpa using hx
      subst this;exact key1 hi
    · have:x=((1,h.1),0)∨x=((2,h.1),0):=by simpa using hx
      rcases this with rfl|rfl
      · exact key1 hi
      · exact key2 hi
  · have:x=((5,0),0):=by simpa using hx
    subst this;exact key5
  · obtain ⟨v,hv,⟨hh|⟨hh,h2⟩,h1⟩|⟨hh,h1,h2⟩⟩:=Rs hx
    · subst hh;exact key3 hv (KY hi h1)
    · subst hh;exact key4 hv (KY hi h1) h2
    · subst hh;exact key3 hv h2
  · obtain ⟨h1,h2⟩:=HM hx
    obtain ⟨⟨a,b⟩,c⟩:=x
    simp only at h1 h2
    subst h2
    rcases h1 with rfl|rfl
    · exact key1 hi
    · exact key2 hi
  · obtain ⟨v,hv,⟨rfl,h1⟩|⟨rfl,_,h1,h2⟩⟩:=Gv.1 hx
    · exact key3 hv (KY hi h1)
    · exact key4 hv h2 (OV hi h1)
theorem Sw:KOk t tickO:=⟨fun x hx=>(by have:x=((5,0),0):=(by simpa [tickO] using hx);subst this;exact key5),fun x hx=>(by have:x=((5,0),1):=(by simpa [tickO] using hx);subst this;exact key5)⟩
theorem Sy (ht:TplOk t) {i k:Nat} (hi:i < t.jobs.length):KOk t (waitO t i k):=by
  unfold KOk waitO
  simp only [List.mem_append,or_imp,forall_and]
  refine ⟨⟨fun x hx=>?_,fun x hx=>?_⟩,fun x hx=>?_,fun x hx=>?_⟩
  · split at hx
    · exact key0 ht (ht.over i) hx
    · cases hx
  · have:x=((1,i),(k:Int))∨x=((5,0),(i:Int) + 1):=by simpa using hx
    rcases this with rfl|rfl
    · exact key1 hi
    · exact key5
  · unfold waitE at hx
    split at hx
    · have:x=((1,i),(k:Int) - 1):=by simpa using hx
      subst this;exact key1 hi
    · split at hx
      · have:x=((1,i),(jb t i).dur + 1):=by simpa using hx
        subst this;exact key1 hi
      · cases hx
  · have:x=((5,0),(i:Int) + 2):=by simpa using hx
    subst this;exact key5
theorem TT:KOk t (advO t):=by
  unfold KOk advO
  simp only [List.mem_append,or_imp,forall_and,List.mem_map,List.mem_range]
  refine ⟨fun x hx=>?_,⟨fun x hx=>?_,fun x hx=>?_⟩,fun x hx=>?_⟩
  · have:x=((5,0),(t.jobs.length:Int) + 1):=by simpa using hx
    subst this;exact key5
  · obtain ⟨i,hi,rfl⟩:=hx;exact key2 hi
  · obtain ⟨y,hy,rfl⟩:=hx
    unfold ksM at hy
    obtain ⟨v,hv,hy⟩:=List.mem_flatMap.1 hy
    have hv:=List.mem_range.1 hv
    rcases JC.1 hy with ⟨rfl,h1⟩|⟨rfl,h1,h2⟩
    · exact key3 hv h1
    · exact key4 hv h1 h2
  · have:x=((5,0),0):=by simpa using hx
    subst this;exact key5
theorem QH {a b:List Fct} (h:a.Perm b) (s:List Int):holdsB a s=holdsB b s:=by
  unfold holdsB
  rw [Bool.eq_iff_iff,List.all_eq_true,List.all_eq_true]
  exact ⟨fun hh x hx=>hh x (h.mem_iff.2 hx),fun hh x hx=>hh x (h.mem_iff.1 hx)⟩
theorem Cmd.at (c:Cmd t u) {k:Nat} {o:KO} (ho:(opsK t)[k]?=some o) (hk:KOk t o):∃ p,u.ops[k]?=some p∧p.cost=o.cost∧∀ σ,(holdsB p.pre (enc t σ)=true↔∀ x∈o.pre,σ x.1=x.2)∧Go.Proofs.YtjohlgjklmagnaaGreatDoor.succ p (enc t σ)=enc t (updL σ o.effs):=by
  obtain ⟨p,h1,h2,h3,h4⟩:=c.ops k o ho
  refine ⟨p,h1,h2,fun σ=>⟨?_,?_⟩⟩
  · rw [QH h3];exact NQ hk.1
  · unfold Go.Proofs.YtjohlgjklmagnaaGreatDoor.succ
    rw [h4];exact OS _ hk.2
theorem Hp {a b x y z:List Int} {C D:Int} (h:PlanR u x a y C):PlanR u y b z D→PlanR u x (a ++ b) z (C + D):=by
  induction h with
  | nil=>intro h2;rw [Int.zero_add];exact h2
  | cons h1 h2 _ ih=>intro h3;rw [Int.add_assoc];exact .cons h1 h2 (ih h3)
theorem Jd (c:Cmd t u) {k:Nat} {o:KO} (ho:(opsK t)[k]?=some o) (hk:KOk t o) {σ:KSt} (hp:∀ x∈o.pre,σ x.1=x.2):PlanR u (enc t σ) [(k:Int)] (enc t (updL σ o.effs)) o.cost:=by
  obtain ⟨p,h1,h2,h3⟩:=c.at ho hk
  have:=PlanR.cons h1 ((h3 σ).1.2 hp) (.nil (t:=u) (s:=Go.Proofs.YtjohlgjklmagnaaGreatDoor.succ p (enc t σ)))
  rw [(h3 σ).2,h2,Int.add_zero] at this
  exact this
def Mdt (t:Tpl) (s:List Int) (q:Nat→Int) (hs:List Hh):List Int:=enc t (gst t (afH t s hs) (stA t q hs) hs 0)
def hNoI (h:Hh):Int:=(hNo h:Int)
theorem Sz (ht:TplOk t) (hsl:s.length=t.vars.length) (h:Hh):enc t (updL (gst t (afH t s hs) (stA t q hs) hs 0) (hapO t h).effs)=Mdt t s q (hs ++ [h]):=by
  rw [Sr ht (by rw [Ho];exact hsl)]
  unfold Mdt
  rw [Ns,TQ]
  rfl
theorem Mi (c:Cmd t u) (ht:TplOk t) (hsl:s.length=t.vars.length):∀ (b a:List Hh),HBok t s q (a ++ b)→PlanR u (Mdt t s q a) (b.map hNoI) (Mdt t s q (a ++ b)) 0
  | [],a,_=>by rw [List.append_nil];exact .nil
  | h :: b,a,hb=>by
    have e:a ++ h :: b=(a ++ [h]) ++ b:=by simp
    have h1:HBok t s q (a ++ [h]):=HBok.prefix (b:=b) (by rw [← e];exact hb)
    have hi:=h1.jobs h (by simp)
    have h2:=Jd c (TO hi) (TS ht hi) ((TR ht hsl h1.prefix hi).2 h1)
    rw [Sz ht hsl] at h2
    have:=Hp h2 (Mi c ht hsl b (a ++ [h]) (by rw [← e];exact hb))
    rw [← e] at this
    have e2:(hapO t h).cost + 0=0:=rfl
    rw [e2] at this
    exact this
def Pass (t:Tpl) (s:List Int) (q:Nat→Int):Prop:=0 < t.jobs.length∧∀ i,i < t.jobs.length→0≤q i∧q i≤(jb t i).dur∧(0 < q i→holdsB (jb t i).over s=true)
def nxq (t:Tpl) (q:Nat→Int):Nat→Int:=fun i=>nxc (jb t i).dur (q i)
def qW (t:Tpl) (q:Nat→Int) (i:Nat):Nat→Int:=fun k=>if k < i then nxc (jb t k).dur (q k) else q k
def waitsP (t:Tpl) (q:Nat→Int) (i m:Nat):List Int:=(List.range' i m).map fun k=>((wNo t k + (q k).toNat:Nat):Int)
def passP (t:Tpl) (q:Nat→Int):List Int:=((2 * t.jobs.length:Nat):Int) :: (waitsP t q 0 t.jobs.length ++ [((wNo t t.jobs.length:Nat):Int)])
theorem Vy {q':Nat→Int} (h:∀ i,i < t.jobs.length→q i=q' i):enc t (gst t s q hs p)=enc t (gst t s q' hs p):=by
  refine JE fun y hy=>?_
  rcases Ei.1 hy with ⟨g1,_⟩|⟨g1|g1,g2⟩|⟨g1,_⟩|⟨g1,_⟩|g1
  · obtain ⟨a,v⟩:=y;simp only at g1;subst g1;rfl
  · obtain ⟨a,v⟩:=y;simp only at g1 g2;subst g1;exact h v g2
  iterate 3 (obtain ⟨a,v⟩:=y;simp only at g1;subst g1;rfl)
  subst g1;rfl
theorem TU {i:Nat}:setQ (qW t q i) i (nxc (jb t i).dur (q i))=qW t q (i + 1):=by
  funext k
  unfold setQ qW
  by_cases h:k=i
  · subst h;rw [if_pos rfl,if_pos (Nat.lt_succ_self _)]
  · rw [if_neg h]
    by_cases h2:k < i
    · rw [if_pos h2,if_pos (by omega)]
    · rw [if_neg h2,if_neg (by omega)]
theorem To {i:Nat}:qW t q i i=q i:=if_neg (Nat.lt_irrefl _)
theorem NS (c:Cmd t u) (ht:TplOk t) (hsl:s.length=t.vars.length) (hp:Pass t s q):∀ (m i:Nat),i + m=t.jobs.length→PlanR u (enc t (gst t s (qW t q i) hs ((i:Int) + 1))) (waitsP t q i m) (enc t (gst t s (nxq t q) hs ((t.jobs.length:Int) + 1))) 0
  | 0,i,h=>by
    have:i=t.jobs.length:=by omega
    subst this
    have e:enc t (gst t s (qW t q t.jobs.length) hs ((t.jobs.length:Int) + 1))=enc t (gst t s (nxq t q) hs ((t.jobs.length:Int) + 1)):=Vy fun i hi=>by unfold qW nxq;rw [if_pos hi]
    rw [e];exact .nil
  | m + 1,i,h=>by
    obtain ⟨h1,h2,h3⟩:=hp.2 i (by omega)
    have hd:=ht.dur i
    have hk:(jb t i).dur.toNat ≥ (q i).toNat:=by omega
    have hq:((q i).toNat:Int)=q i:=by omega
    have e1:=Jd c (Sn (t:=t) (i:=i) (by omega) hk) (Sy ht (by omega)) (σ:=gst t s (qW t q i) hs ((i:Int) + 1)) ((Ss ht hsl).2 ⟨fun h0=>h3 (by omega),by rw [To,hq],rfl⟩)
    rw [Ru (by rw [To,hq]),hq,TU] at e1
    have e2:=Hp e1 (by have:=NS c ht hsl hp m (i + 1) (by omega);rw [show (((i + 1:Nat)):Int) + 1=(i:Int) + 2 from by omega] at this;exact this)
    rw [show (waitO t i (q i).toNat).cost + 0=0 from rfl] at e2
    unfold waitsP at e2 ⊢
    rw [List.range'_succ,List.map_cons]
    exact e2
theorem SA (c:Cmd t u) (ht:TplOk t) (hsl:s.length=t.vars.length) (hp:Pass t s q):PlanR u (enc t (gst t s q hs 0)) (passP t q) (enc t (gst t s (nxq t q) [] 0)) 1:=by
  have e1:=Jd c (Sm hp.1) Sw (σ:=gst t s q hs 0) (fun x hx=>by
    have:x=((5,0),0):=by simpa [tickO] using hx
    subst this;rfl)
  rw [Rt] at e1
  have e2:=NS c ht hsl hp (hs:=hs) t.jobs.length 0 (by omega)
  have e0:qW t q 0=q:=by funext k;unfold qW;rw [if_neg (by omega)]
  rw [e0,show (((0:Nat)):Int) + 1=1 from rfl] at e2
  have e3:=Jd c (TP hp.1) TT (σ:=gst t s (nxq t q) hs ((t.jobs.length:Int) + 1)) (fun x hx=>by
    have:x=((5,0),(t.jobs.length:Int) + 1):=by simpa [advO] using hx
    subst this;rfl)
  rw [Su] at e3
  exact Hp e1 (Hp e2 e3)
inductive Trc (t:Tpl):List Int→(Nat→Int)→List Hh→List (List Hh)→List Int→(Nat→Int)→Prop
  | last {s:List Int} {q:Nat→Int} {b:List Hh}:HBok t s q b→Trc t s q b [] (afH t s b) (stA t q b)
  | more {s:List Int} {q:Nat→Int} {b b':List Hh} {bs:List (List Hh)} {s':List Int} {q':Nat→Int}:HBok t s q b→Pass t (afH t s b) (stA t q b)→Trc t (afH t s b) (nxq t (stA t q b)) b' bs s' q'→Trc t s q b (b' :: bs) s' q'
def plR (t:Tpl):(Nat→Int)→List (List Hh)→List Int
  | _,[]=>[]
  | q,b :: bs=>passP t q ++ (b.map hNoI ++ plR t (stA t (nxq t q) b) bs)
def pl (t:Tpl) (q:Nat→Int) (b:List Hh) (bs:List (List Hh)):List Int:=b.map hNoI ++ plR t (stA t q b) bs
theorem TV (c:Cmd t u) (ht:TplOk t) {b:List Hh} {bs:List (List Hh)} {s':List Int} {q':Nat→Int} (h:Trc t s q b bs s' q'):s.length=t.vars.length→∃ hl,PlanR u (enc t (gst t s q [] 0)) (pl t q b bs) (enc t (gst t s' q' hl 0)) bs.length:=by
  induction h with
  | @last s q b hb =>
    intro hsl
    refine ⟨b,?_⟩
    have:=Mi c ht hsl b [] hb
    unfold pl plR
    rw [List.append_nil]
    exact this
  | @more s q b b' bs s' q' hb hp _ ih =>
    intro hsl
    obtain ⟨hl,h2⟩:=ih (by rw [Ho];exact hsl)
    have h0:=Mi c ht hsl b [] hb
    have h1:=SA c ht (hs:=b) (by rw [Ho];exact hsl) hp
    refine ⟨hl,?_⟩
    have:=Hp h0 (Hp h1 h2)
    rw [show (0:Int) + (1 + (bs.length:Int))=((b' :: bs).length:Int) from by simp;omega] at this
    exact this
theorem SB (c:Cmd t u) (ht:TplOk t) (hsl:s.length=t.vars.length):holdsB u.goal (enc t (gst t s q hs p))=true↔holdsB t.goal s=true∧(∀ i,i < t.jobs.length→q i=0)∧p=0:=by
  rw [c.goal,NQ (by
    simp only [List.mem_append,or_imp,forall_and,List.mem_map,List.mem_range]
    refine ⟨⟨fun x hx=>key0 ht ht.goal.2 hx,fun x hx=>?_⟩,fun x hx=>?_⟩
    · obtain ⟨i,hi,rfl⟩:=hx;exact key1 hi
    · have:x=((5,0),0):=by simpa using hx
      subst this;exact key5)]
  simp only [List.mem_append,or_imp,forall_and,List.mem_map,List.mem_range]
  rw [Jc ht.goal.2 hsl,and_assoc]
  constructor
  · rintro ⟨h1,h2,h3⟩
    exact ⟨h1,fun i hi=>h2 ((1,i),0) ⟨i,hi,rfl⟩,h3 ((5,0),0) (by simp)⟩
  · rintro ⟨h1,h2,h3⟩
    refine ⟨h1,fun x hx=>?_,fun x hx=>?_⟩
    · obtain ⟨i,hi,rfl⟩:=hx;exact h2 i hi
    · have:x=((5,0),0):=by simpa using hx
      subst this;exact h3
end
end
section
open Go Go.RowKit
section
variable {t : Tpl} {s : List Int} {q : Nat → Int} {l : List Lch}
def en (t:Tpl) (x:Lch):Int:=x.tm + (jb t x.job.toNat).dur
def hap1 (t:Tpl) (τ:Nat) (x:Lch):List Hh:=(if x.tm=(τ:Int) then [(x.job.toNat,false)] else []) ++ (if en t x=(τ:Int) then [(x.job.toNat,true)] else [])
def hapA (t:Tpl) (l:List Lch) (τ:Nat):List Hh:=l.flatMap (hap1 t τ)
theorem CY {τ:Nat} {h:Hh}:h∈hapA t l τ↔∃ x∈l,x.job.toNat=h.1∧(if h.2=true then en t x=(τ:Int) else x.tm=(τ:Int)):=by
  unfold hapA hap1
  simp only [List.mem_flatMap,List.mem_append]
  obtain ⟨i,e⟩:=h
  constructor
  · rintro ⟨x,hx,h|h⟩
    · split at h
      · rename_i hh
        have:=List.mem_singleton.1 h
        injection this with h1 h2
        subst h1;subst h2
        exact ⟨x,hx,rfl,by simpa using hh⟩
      · cases h
    · split at h
      · rename_i hh
        have:=List.mem_singleton.1 h
        injection this with h1 h2
        subst h1;subst h2
        exact ⟨x,hx,rfl,by simpa using hh⟩
      · cases h
  · rintro ⟨x,hx,h1,h2⟩
    simp only at h1 h2
    subst h1
    cases e
    · simp only [Bool.false_eq_true,if_false] at h2
      exact ⟨x,hx,.inl (by rw [if_pos h2];simp)⟩
    · simp only [if_true] at h2
      exact ⟨x,hx,.inr (by rw [if_pos h2];simp)⟩
def LRng (t:Tpl) (l:List Lch):Prop:=∀ x∈l,0≤x.tm∧0≤x.job∧x.job < t.jobs.length
def Nov (t:Tpl) (l:List Lch) (τ:Nat):Prop:=∀ a∈l,∀ b∈l,a≠b→a.job=b.job→a.tm < (τ:Int)→b.tm < (τ:Int)→en t b < a.tm∨en t a < b.tm
def cd (t:Tpl) (x:Lch) (τ:Nat):Int:=if en t x=(τ:Int) then (jb t x.job.toNat).dur + 1 else en t x - τ
def Qc (t:Tpl) (l:List Lch) (τ:Nat) (q:Nat→Int):Prop:=∀ i,i < t.jobs.length→(q i=0∧∀ x∈l,x.job=(i:Int)→x.tm < (τ:Int)→en t x < (τ:Int))∨∃ x∈l,x.job=(i:Int)∧x.tm < (τ:Int)∧(τ:Int)≤en t x∧q i=cd t x τ
def Mc (t:Tpl) (l:List Lch) (τ:Nat) (q:Nat→Int):Prop:=∀ i,i < t.jobs.length→(q i=0∧∀ x∈l,x.job=(i:Int)→x.tm≤(τ:Int)→en t x≤(τ:Int))∨∃ x∈l,x.job=(i:Int)∧x.tm≤(τ:Int)∧(τ:Int) < en t x∧q i=en t x - τ
theorem Vz (ht:TplOk t) {τ:Nat} (h:Mc t l τ q):Qc t l (τ + 1) (nxq t q):=fun i hi=>by
  rcases h i hi with ⟨h1,h2⟩|⟨x,hx,h1,h2,h3,h4⟩
  · refine .inl ⟨by unfold nxq nxc;rw [h1];rfl,fun x hx hj ht=>?_⟩
    have:=h2 x hx hj (by omega);omega
  · refine .inr ⟨x,hx,h1,by omega,by omega,?_⟩
    have e:x.job.toNat=i:=by omega
    unfold nxq nxc cd
    rw [h4,e]
    by_cases h5:1 < en t x - τ
    · rw [if_pos h5,if_neg (by omega)];omega
    · rw [if_neg h5,if_pos (by omega),if_pos (by omega)]
theorem VA {hs:List Hh} (hn:(hs.map (·.1)).Nodup) {a b:Hh} (ha:a∈hs) (hb:b∈hs) (h:a.1=b.1):a=b:=by
  obtain ⟨i,hi,rfl⟩:=List.getElem_of_mem ha
  obtain ⟨j,hj,rfl⟩:=List.getElem_of_mem hb
  have:=(List.getElem_inj (h₀:=by simpa using hi) (h₁:=by simpa using hj) hn).1 (by simpa using h)
  subst this;rfl
theorem TW (ht:TplOk t) (hr:LRng t l) {τ:Nat} {hs:List Hh} (hv:Nov t l τ) (hq:Qc t l τ q) (hb:HBok t s q hs)
    (hst:∀ i,(i,false)∈hs↔∃ x∈l,x.job=((i:Nat):Int)∧x.tm=(τ:Int)) (hdue:∀ i,i < t.jobs.length→q i=(jb t i).dur + 1→(i,true)∈hs) :
    Nov t l (τ + 1)∧(∀ h,h∈hs↔h∈hapA t l τ)∧Mc t l τ (stA t q hs):=by
  have hlen:∀ x∈l,x.job.toNat < t.jobs.length:=fun x hx=>by have:=hr x hx;omega
  -- whose end is due
  have due:∀ i,(i,true)∈hs↔∃ x∈l,x.job=((i:Nat):Int)∧en t x=(τ:Int):=by
    intro i
    constructor
    · intro hm
      have hi:=hb.jobs _ hm
      have hown:=hb.own _ hm
      simp only [if_true] at hown hi
      have hd:=ht.dur i
      rcases hq i hi with ⟨h1,_⟩|⟨x,hx,h1,h2,h3,h4⟩
      · omega
      · refine ⟨x,hx,h1,?_⟩
        have e:x.job.toNat=i:=by omega
        unfold cd at h4
        rw [e] at h4
        split at h4
        · assumption
        · have:en t x=x.tm + (jb t i).dur:=by unfold en;rw [e]
          omega
    · rintro ⟨x,hx,h1,h2⟩
      have hi:=hlen x hx
      have e:x.job.toNat=i:=by omega
      have hd:=ht.dur i
      have he:en t x=x.tm + (jb t i).dur:=by unfold en;rw [e]
      refine hdue i (by omega) ?_
      rcases hq i (by omega) with ⟨_,g2⟩|⟨y,hy,g1,g2,g3,g4⟩
      · have:=g2 x hx h1 (by omega);omega
      · have e':y.job.toNat=i:=by omega
        by_cases hxy:y=x
        · subst hxy
          rw [g4];unfold cd;rw [if_pos h2,e]
        · rcases hv x hx y hy (Ne.symm hxy) (by omega) (by omega) g2 with h|h
          · omega
          · omega
  -- those that start were idle
  have idle:∀ i,(i,false)∈hs→∀ x∈l,x.job=(i:Int)→x.tm < (τ:Int)→en t x < (τ:Int):=by
    intro i hm x hx h1 h2
    have hi:=hb.jobs _ hm
    have hown:=hb.own _ hm
    simp only [Bool.false_eq_true,if_false] at hown hi
    have hd:=ht.dur i
    rcases hq i hi with ⟨_,g2⟩|⟨y,hy,g1,g2,g3,g4⟩
    · exact g2 x hx h1 h2
    · have e':y.job.toNat=i:=by omega
      have he:en t y=y.tm + (jb t i).dur:=by unfold en;rw [e']
      rw [hown] at g4
      unfold cd at g4
      rw [e'] at g4
      split at g4<;>omega
  refine ⟨?_,?_,?_⟩
  · intro a ha b hbm hne hj h1 h2
    have ja:=hr a ha
    have jb':=hr b hbm
    have ea:((a.job.toNat:Nat):Int)=a.job:=by omega
    by_cases g1:a.tm < (τ:Int)
    · by_cases g2:b.tm < (τ:Int)
      · exact hv a ha b hbm hne hj g1 g2
      · have e2:b.tm=(τ:Int):=by omega
        have:=idle a.job.toNat ((hst _).2 ⟨b,hbm,by omega,e2⟩) a ha (by omega) g1
        exact .inr (by omega)
    · have e1:a.tm=(τ:Int):=by omega
      by_cases g2:b.tm < (τ:Int)
      · have:=idle a.job.toNat ((hst _).2 ⟨a,ha,by omega,e1⟩) b hbm (by omega) g2
        exact .inl (by omega)
      · have e2:b.tm=(τ:Int):=by omega
        refine absurd ?_ hne
        obtain ⟨a1,a2⟩:=a
        obtain ⟨b1,b2⟩:=b
        simp only at e1 e2 hj
        rw [e1,e2,hj]
  · rintro ⟨i,e⟩
    rw [CY]
    cases e
    · rw [hst]
      constructor
      · rintro ⟨x,hx,h1,h2⟩
        exact ⟨x,hx,by simp only;omega,by simpa using h2⟩
      · rintro ⟨x,hx,h1,h2⟩
        have:=hr x hx
        exact ⟨x,hx,by simp only at h1;omega,by simpa using h2⟩
    · rw [due]
      constructor
      · rintro ⟨x,hx,h1,h2⟩
        exact ⟨x,hx,by simp only;omega,by simpa using h2⟩
      · rintro ⟨x,hx,h1,h2⟩
        have:=hr x hx
        exact ⟨x,hx,by simp only at h1;omega,by simpa using h2⟩
  · intro i hi
    have hd:=ht.dur i
    by_cases hm:∃ e,(i,e)∈hs
    · obtain ⟨e,hm⟩:=hm
      have hsa:=KZ (t:=t) (q:=q) hb.nod hm
      simp only at hsa
      cases e
      · simp only [Bool.false_eq_true,if_false] at hsa
        obtain ⟨x,hx,h1,h2⟩:=(hst i).1 hm
        have e':x.job.toNat=i:=by omega
        have he:en t x=x.tm + (jb t i).dur:=by unfold en;rw [e']
        exact .inr ⟨x,hx,h1,by omega,by omega,by omega⟩
      · simp only [if_true] at hsa
        refine .inl ⟨hsa,fun x hx h1 h2=>?_⟩
        obtain ⟨y,hy,g1,g2⟩:=(due i).1 hm
        have e':y.job.toNat=i:=by omega
        have he:en t y=y.tm + (jb t i).dur:=by unfold en;rw [e']
        by_cases hxy:x=y
        · subst hxy;omega
        · by_cases hxt:x.tm < (τ:Int)
          · rcases hv x hx y hy hxy (by omega) hxt (by omega) with h|h
            · omega
            · omega
          · have h3:(i,false)∈hs:=(hst i).2 ⟨x,hx,h1,by omega⟩
            have:=VA hb.nod hm h3 rfl
            cases this
    · have hno:∀ h∈hs,h.1≠i:=fun h hh e=>hm ⟨h.2,by subst e;exact hh⟩
      rw [Hv hno]
      rcases hq i hi with ⟨h1,h2⟩|⟨x,hx,h1,h2,h3,h4⟩
      · refine .inl ⟨h1,fun x hx hj hx2=>?_⟩
        by_cases hxt:x.tm < (τ:Int)
        · have:=h2 x hx hj hxt;omega
        · exact absurd ⟨false,(hst i).2 ⟨x,hx,hj,by omega⟩⟩ hm
      · by_cases he:en t x=(τ:Int)
        · exact absurd ⟨true,(due i).2 ⟨x,hx,h1,he⟩⟩ hm
        · refine .inr ⟨x,hx,h1,by omega,by omega,?_⟩
          rw [h4];unfold cd;rw [if_neg he]
def cano (n:Nat) (H:List Hh):List Hh:=[true,false].flatMap fun e=>(List.range n).flatMap fun i=>H.filter fun h=>decide (h=(i,e))
theorem OX {n:Nat} {H:List Hh} (hn:∀ h∈H,h.1 < n) {h:Hh}:h∈cano n H↔h∈H:=by
  unfold cano
  simp only [List.mem_flatMap,List.mem_range,List.mem_filter,decide_eq_true_eq,List.mem_cons,List.not_mem_nil,or_false]
  constructor
  · rintro ⟨e,_,i,_,hm,_⟩;exact hm
  · intro hm
    refine ⟨h.2,?_,h.1,hn h hm,hm,rfl⟩
    cases h.2
    · exact .inr rfl
    · exact .inl rfl
theorem MV {n:Nat} {H:List Hh} (hd:H.Nodup):(cano n H).Nodup:=by
  unfold cano List.Nodup
  rw [List.pairwise_flatMap]
  constructor
  · intro e _
    rw [List.pairwise_flatMap]
    refine ⟨fun i _=>List.Pairwise.filter _ hd,?_⟩
    refine List.Pairwise.imp ?_ List.nodup_range
    intro i j hij x hx y hy
    have h1:=(List.mem_filter.1 hx).2
    have h2:=(List.mem_filter.1 hy).2
    simp only [decide_eq_true_eq] at h1 h2
    rw [h1,h2]
    intro hh;injection hh with hh;exact hij hh
  · refine List.Pairwise.cons (fun e he x hx y hy=>?_) (List.pairwise_singleton _ _)
    have:e=false:=by simpa using he
    subst this
    obtain ⟨i,_,hx⟩:=List.mem_flatMap.1 hx
    obtain ⟨j,_,hy⟩:=List.mem_flatMap.1 hy
    have h1:=(List.mem_filter.1 hx).2
    have h2:=(List.mem_filter.1 hy).2
    simp only [decide_eq_true_eq] at h1 h2
    rw [h1,h2]
    intro hh;injection hh with _ hh;cases hh
def Sv (t:Tpl) (l:List Lch):Nat→List Int
  | 0=>t.init
  | τ + 1=>afH t (Sv t l τ) (cano t.jobs.length (hapA t l τ))
theorem MW (ht:TplOk t) (l:List Lch):∀ τ,(Sv t l τ).length=t.vars.length
  | 0=>ht.init.1
  | τ + 1=>by rw [Sv,Ho,MW ht l τ]
structure TickC (t:Tpl) (l:List Lch) (τ:Nat):Prop where
  non:(hapA t l τ).Pairwise fun a b=>¬ IntF t a b
  reads:∀ h∈hapA t l τ,holdsB (hR t h) (Sv t l τ)=true
  over:∀ x∈l,x.tm≤(τ:Int)→(τ:Int) < en t x→holdsB (jb t x.job.toNat).over (Sv t l (τ + 1))=true
structure VOk (t:Tpl) (l:List Lch):Prop where
  rng:LRng t l
  nd:l.Nodup
  nov:∀ a∈l,∀ b∈l,a≠b→a.job=b.job→en t b < a.tm∨en t a < b.tm
  tick:∀ τ,TickC t l τ
  goal:∀ τ:Nat,(∀ x∈l,en t x < (τ:Int))→holdsB t.goal (Sv t l τ)=true
theorem GV (ht:TplOk t) (x:Lch):x.tm < en t x:=by
  have:=ht.dur x.job.toNat
  unfold en;omega
theorem Fj (ht:TplOk t) (hr:LRng t l) (hd:l.Nodup) {τ:Nat} (hv:Nov t l (τ + 1)):(hapA t l τ).Nodup:=by
  unfold hapA List.Nodup
  rw [List.pairwise_flatMap]
  constructor
  · intro x _
    have:=GV ht x
    unfold hap1
    by_cases h1:x.tm=(τ:Int)
    · rw [if_pos h1,if_neg (by omega),List.append_nil];exact List.pairwise_singleton _ _
    · rw [if_neg h1,List.nil_append]
      split
      · exact List.pairwise_singleton _ _
      · exact .nil
  · refine List.Pairwise.imp_of_mem ?_ hd
    intro a b ha hb hne x hx y hy hxy
    subst hxy
    have ra:=hr a ha
    have rb:=hr b hb
    have ga:=GV ht a
    have gb:=GV ht b
    have m1:=(CY (l:=[a]) (t:=t) (τ:=τ) (h:=x)).1 (by unfold hapA;simpa using hx)
    have m2:=(CY (l:=[b]) (t:=t) (τ:=τ) (h:=x)).1 (by unfold hapA;simpa using hy)
    obtain ⟨a',ha',e1,e2⟩:=m1
    obtain ⟨b',hb',e3,e4⟩:=m2
    have:a'=a:=by simpa using ha'
    subst this
    have:b'=b:=by simpa using hb'
    subst this
    split at e2
    · rename_i h
      rw [if_pos h] at e4
      rcases hv a' ha b' hb hne (by omega) (by omega) (by omega) with h|h<;>omega
    · rename_i h
      rw [if_neg h] at e4
      rcases hv a' ha b' hb hne (by omega) (by omega) (by omega) with h|h<;>omega
theorem HBok.nodup {hs:List Hh} (h:HBok t s q hs):hs.Nodup:=by
  have:=h.nod
  unfold List.Nodup at this ⊢
  rw [List.pairwise_map] at this
  exact this.imp fun hne e=>hne (by rw [e])
theorem OY (hr:LRng t l) {τ:Nat}:∀ h∈hapA t l τ,h.1 < t.jobs.length:=fun h hh=>by
  obtain ⟨x,hx,e,_⟩:=CY.1 hh
  have:=hr x hx;omega
theorem PQ:∀ {x y:Hh},(¬ IntF t x y)→¬ IntF t y x:=fun h hh=>h hh.symm
def lau (τ:Nat):List (List Hh)→List Lch
  | []=>[]
  | b :: bs=>(b.filter fun h=>!h.2).map (fun h=>(⟨(τ:Int),(h.1:Int)⟩:Lch)) ++ lau (τ + 1) bs
theorem Nt {x:Lch}:∀ {bs:List (List Hh)} {τ:Nat},x∈lau τ bs↔∃ (k:Nat) (b:List Hh) (i:Nat),bs[k]?=some b∧(i,false)∈b∧x=⟨((τ + k:Nat):Int),(i:Int)⟩
  | [],τ=>by simp [lau]
  | b :: bs,τ=>by
    rw [lau,List.mem_append,Nt (bs:=bs)]
    constructor
    · rintro (h|⟨k,b',i,h1,h2,h3⟩)
      · obtain ⟨g,hh,rfl⟩:=List.mem_map.1 h
        obtain ⟨h1,h2⟩:=List.mem_filter.1 hh
        obtain ⟨i,e⟩:=g
        have:e=false:=by simpa using h2
        subst this
        exact ⟨0,b,i,rfl,h1,rfl⟩
      · exact ⟨k + 1,b',i,by simpa using h1,h2,by rw [h3];congr 2;omega⟩
    · rintro ⟨k,b',i,h1,h2,h3⟩
      cases k with
      | zero =>
        have:b=b':=by simpa using h1
        subst this
        exact .inl (List.mem_map.2 ⟨(i,false),List.mem_filter.2 ⟨h2,rfl⟩,h3.symm⟩)
      | succ k=>exact .inr ⟨k,b',i,by simpa using h1,h2,by rw [h3];congr 2;omega⟩
theorem UQ {bs:List (List Hh)} {τ:Nat} {x:Lch} (h:x∈lau τ bs):(τ:Int)≤x.tm:=by
  obtain ⟨k,b,i,_,_,rfl⟩:=Nt.1 h
  simp only;omega
theorem Rv {n:Nat} {H b:List Hh} (hn:∀ h∈H,h.1 < n) (hd:H.Nodup) (hb:b.Nodup) (h:∀ x,x∈b↔x∈H):b.Perm (cano n H) :=
  (List.perm_ext_iff_of_nodup hb (MV hd)).2 fun x=>(h x).trans (OX hn).symm
theorem Rx {a b:List Hh} (h:a.Perm b) (hp:a.Pairwise fun x y=>¬ IntF t x y):b.Pairwise fun x y=>¬ IntF t x y:=(h.pairwise_iff (fun hh=>PQ hh)).1 hp
end
end
end Go.Proofs.YtjohlgjklmagnaaGreatDoor

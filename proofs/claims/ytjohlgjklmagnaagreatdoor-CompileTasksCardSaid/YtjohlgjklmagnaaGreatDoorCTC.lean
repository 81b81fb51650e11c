/- Own text: what the proof of compileTasks_holds uses, part 3: rules, models and their proofs, plain laws. -/
import Derived.Test.YtjohlgjklmagnaaGreatDoorCTB
set_option linter.unusedVariables false
set_option linter.unusedSimpArgs false
namespace Go.Proofs.YtjohlgjklmagnaaGreatDoor
open Go Go.RowKit Go.Proofs.Tryz
section
open Go Go.RowKit
attribute [local irreducible] ewp owp hwp hwq Ev Evg Fn retPost Res1
attribute [local irreducible] hwx loudX
instance:TMap prog 115 3 119:=⟨underlying115⟩
instance:TKey prog 3 Int:=⟨underlying3⟩
structure Job where
  name:ByteArray
  dur:Int
  start:List Fct
  over:List Fct
  fin:List Fct
  atStart:List Fct
  atEnd:List Fct
instance:Rp Job where
  isAgg:=true
  size:=7
  R w F cs x:=∃ v0 v1 v2 v3 v4,cs=[.string x.name,.int .i64 x.dur,v0,v1,v2,v3,v4]∧Vb w F v0 x.start∧Vb w F v1 x.over∧Vb w F v2 x.fin∧Vb w F v3 x.atStart∧Vb w F v4 x.atEnd∧x.name.size≤9223372036854775807∧inI64 x.dur
  len:=by rintro w F cs x ⟨v0,v1,v2,v3,v4,rfl,h0,h1,h2,h3,h4,h5,h6⟩;rfl
  one:=by rintro w F cs x ⟨v0,v1,v2,v3,v4,rfl,h0,h1,h2,h3,h4,h5,h6⟩ u hu;simp at hu;rcases hu with rfl|rfl|rfl|rfl|rfl|rfl|rfl<;>first|rfl|exact Vb.one rfl (by assumption)
  agree:=by rintro w w' F cs x ⟨v0,v1,v2,v3,v4,rfl,h0,h1,h2,h3,h4,h5,h6⟩ ha;exact ⟨v0,v1,v2,v3,v4,rfl,h0.agree ha,h1.agree ha,h2.agree ha,h3.agree ha,h4.agree ha,h5,h6⟩
  mono:=by rintro w F G cs x ⟨v0,v1,v2,v3,v4,rfl,h0,h1,h2,h3,h4,h5,h6⟩ ha;exact ⟨v0,v1,v2,v3,v4,rfl,h0.mono ha,h1.mono ha,h2.mono ha,h3.mono ha,h4.mono ha,h5,h6⟩
structure Tpl where
  vars:List Int
  init:List Int
  goal:List Fct
  jobs:List Job
instance:Rp Tpl where
  isAgg:=true
  size:=4
  R w F cs x:=∃ v0 v1 v2 v3,cs=[v0,v1,v2,v3]∧Vb w F v0 x.vars∧Vb w F v1 x.init∧Vb w F v2 x.goal∧Vb w F v3 x.jobs
  len:=by rintro w F cs x ⟨v0,v1,v2,v3,rfl,h0,h1,h2,h3⟩;rfl
  one:=by rintro w F cs x ⟨v0,v1,v2,v3,rfl,h0,h1,h2,h3⟩ u hu;simp at hu;rcases hu with rfl|rfl|rfl|rfl<;>first|rfl|exact Vb.one rfl (by assumption)
  agree:=by rintro w w' F cs x ⟨v0,v1,v2,v3,rfl,h0,h1,h2,h3⟩ ha;exact ⟨v0,v1,v2,v3,rfl,h0.agree ha,h1.agree ha,h2.agree ha,h3.agree ha⟩
  mono:=by rintro w F G cs x ⟨v0,v1,v2,v3,rfl,h0,h1,h2,h3⟩ ha;exact ⟨v0,v1,v2,v3,rfl,h0.mono ha,h1.mono ha,h2.mono ha,h3.mono ha⟩
structure Lch where
  tm:Int
  job:Int
instance:Rp Lch where
  isAgg:=true
  size:=2
  R w F cs x:=cs=[.int .i64 x.tm,.int .i64 x.job]∧inI64 x.tm∧inI64 x.job
  len:=by rintro w F cs x ⟨rfl,h0,h1⟩;rfl
  one:=by rintro w F cs x ⟨rfl,h0,h1⟩ u hu;simp at hu;rcases hu with rfl|rfl<;>first|rfl|exact Vb.one rfl (by assumption)
  agree:=by rintro w w' F cs x ⟨rfl,h0,h1⟩ ha;exact ⟨rfl,h0,h1⟩
  mono:=by rintro w F G cs x ⟨rfl,h0,h1⟩ ha;exact ⟨rfl,h0,h1⟩
structure Hap where
  job:Int
  fin:Bool
instance:Rp Hap where
  isAgg:=true
  size:=2
  R w F cs x:=cs=[.int .i64 x.job,.bool x.fin]∧inI64 x.job
  len:=by rintro w F cs x ⟨rfl,h0⟩;rfl
  one:=by rintro w F cs x ⟨rfl,h0⟩ u hu;simp at hu;rcases hu with rfl|rfl<;>first|rfl|exact Vb.one rfl (by assumption)
  agree:=by rintro w w' F cs x ⟨rfl,h0⟩ ha;exact ⟨rfl,h0⟩
  mono:=by rintro w F G cs x ⟨rfl,h0⟩ ha;exact ⟨rfl,h0⟩
noncomputable def CM (x0:Tpl):Option (List (List Fct)) :=
  bnd (rng (ρ:=(List (List Fct))) (fun (k36:Nat) (a37:Job) (s34:(List (List Fct)))=>bnd (appI 24 s34 [a37.start,a37.over,a37.fin,a37.atStart,a37.atEnd]) fun u93=>some (.next u93)) x0.jobs 0 [x0.goal]) fun res32=>fin res32 fun (s108:(List (List Fct)))=>some s108
theorem Lj {w:World} {A:Nat→Prop} (hA:∀ k,A k→k < w.heap.size) {vx0:Value} {x0:Tpl} (y0:Vb w A vx0 x0) {r:(List (List Fct))} (hm:CM x0=some r) :
    Fn prog 59 [vx0] w fun v w'=>Ext w w'∧Vb w' (upA A w w') v r:=by
 obtain ⟨O,hB,p1⟩:=enter hA
 replace y0:=y0.mono p1
 obtain ⟨a3,rfl,v3,v4,v5,v6,rfl,h7,q1,p0,c0⟩:=y0
 obtain ⟨A8,c9,rfl⟩:=h7.form
 obtain ⟨r1,s1,rfl⟩:=q1.form
 obtain ⟨t1,u1,rfl⟩:=p0.form
 obtain ⟨z0,a1,rfl⟩:=c0.form
 refine AL func59 rfl ntmps59 ?_
 unfold CM at hm
 refine Ab (Aa (BL 2 O rfl fun v1 w1 n1 q0 j0=>?_))
 replace j0:Lc 2 w1 n1 v1 26 [(.slice A8 x0.vars.length c9),(.slice r1 x0.init.length s1),(.slice t1 x0.goal.length u1),(.slice z0 x0.jobs.length a1)]:=j0
 refine Am rfl (o_z ?_)
 refine Ab (Aa (Ax rfl (At (hc:=Blk.cell (i:=2) (j0.1) rfl) rfl ?_)))
 replace p0:=p0.st q0
 refine AQ 3 n1 (xs:=([x0.goal]:List (List Fct))) rfl rfl rfl ⟨p0,trivial⟩ fun x1 b3 y1 r0 z1=>?_
 refine Am rfl (o_z ?_)
 refine Ab (Ab (Aa (Ax rfl ?_)))
 replace j0:=j0.st r0
 refine At (hc:=Blk.cell (i:=3) (j0.1) rfl) rfl ?_
 refine AS rfl ?_
 replace c0:=(c0.st q0).st r0
 have b1:x0.jobs.length≤9223372036854775807:=Nat.le_trans c0.len.2.1 c0.len.2.2
 have c3:inI64 (x0.jobs.length:Int):=rngNat b1
 refine Ak rfl (o_z ?_)
 obtain ⟨k0,c1,hm⟩:=bs hm
 refine Ay (aft k0 (fun (d0:(List (List Fct))) (a0:(Option Addr×Nat))=>[(3,(.slice a0.1 d0.length a0.2))]) (fun d0 a0 w'=>∃ O':Lab,Bs w A w' O'∧Rw 3 w' O' 23 (.slice a0.1 d0.length a0.2) d0)) ?_ ?_
 ·
  refine AK ?_
  replace hB:=(hB.st q0).st r0
  refine AY (σ:=(List (List Fct))) (X:=(Option Addr×Nat)) (x0.jobs.length) c1 rfl b1 (fun (d0:(List (List Fct))) (a0:(Option Addr×Nat))=>[(3,(.slice a0.1 d0.length a0.2)),(10,(.slice z0 x0.jobs.length a1))]) _ (fun d0 a0 w'=>∃ O':Lab,Bs w A w' O'∧Rw 3 w' O' 23 (.slice a0.1 d0.length a0.2) d0∧Vb w' (Fr 0 w' O') (.slice z0 x0.jobs.length a1) x0.jobs) _ ((some ⟨x1,0,none⟩),1) ⟨y1,hB,z1,c0⟩ ⟨rfl,rfl,rfl,rfl,trivial⟩ (fun _ _=>⟨rfl,rfl⟩) (fun _ _=>⟨rfl,trivial⟩) (fun _ _ _ ⟨O',hB,e0,c0⟩=>⟨O',hB,e0⟩) ⟨rfl,rfl,rfl⟩ ⟨rfl,rfl⟩ ?_
  rintro a2 b0 d0 a0 d3 b2 l0 ⟨c2,hB,e0,c0⟩ i0 d1 e1
  have rk36:inI64 (a2:Int):=rngK l0 b1
  refine Ab (Aa ?_)
  obtain ⟨e3,f3,d2,f1,g1,h1,g3,h3,i3,j3,k3,rfl,s0,t0,u0,v0,w0,l3,m3⟩:=c0.elem' l0
  obtain ⟨e2,f2,rfl⟩:=s0.form
  obtain ⟨g2,h2,rfl⟩:=t0.form
  obtain ⟨i2,j2,rfl⟩:=u0.form
  obtain ⟨k2,l2,rfl⟩:=v0.form
  obtain ⟨m2,n2,rfl⟩:=w0.form
  refine Bi (hA:=f1) (hj:=rfl) (hlt:=g1) rfl rfl ?_
  refine Bd (hl:=rfl) (hc:=h1) rfl ?_
  refine AU 4 c2 fun o2 n3 o1 g0 f0=>?_
  refine Az f0 rfl rfl rfl (AJ) (allOne) fun p2 h0 f0=>?_
  replace f0:Lc 4 p2 o1 o2 66 [(.string b0.name),(.int .i64 b0.dur),(.slice e2 b0.start.length f2),(.slice g2 b0.over.length h2),(.slice i2 b0.fin.length j2),(.slice k2 b0.atStart.length l2),(.slice m2 b0.atEnd.length n2)]:=f0
  refine o_z ?_
  refine Aa (Ak rfl (Ax rfl (At (hc:=Blk.cell (i:=2) (f0.1) rfl) rfl ?_)))
  refine Ax rfl (At (hc:=Blk.cell (i:=3) (f0.1) rfl) rfl ?_)
  refine Ax rfl (At (hc:=Blk.cell (i:=4) (f0.1) rfl) rfl ?_)
  refine Ax rfl (At (hc:=Blk.cell (i:=5) (f0.1) rfl) rfl ?_)
  refine Ax rfl (At (hc:=Blk.cell (i:=6) (f0.1) rfl) rfl ?_)
  replace s0:=(s0.st g0).st h0
  replace t0:=(t0.st g0).st h0
  replace u0:=(u0.st g0).st h0
  replace v0:=(v0.st g0).st h0
  replace w0:=(w0.st g0).st h0
  refine AQ 5 o1 (xs:=([b0.start,b0.over,b0.fin,b0.atStart,b0.atEnd]:List (List Fct))) rfl rfl rfl ⟨s0,t0,u0,v0,w0,trivial⟩ fun o3 p3 q3 i1 q2=>?_
  obtain ⟨r3,j1,i0⟩:=bs i0
  obtain ⟨j1,r2,s2⟩:=AI j1
  replace e0:=((e0.st g0).st h0).st i1
  refine AZ rfl e0 (q2.rd) rfl rfl r2 s2 fun t2 u2 s3 v2 m0 n0=>?_
  rw [← j1] at n0 ⊢
  refine Am rfl (o_z ?_)
  obtain rfl:=sm i0
  exact show Exists _ from ⟨_,(t2,u2),rfl,⟨rfl,rfl,rfl,rfl,trivial⟩,_,(((hB.st g0).st h0).st i1).st m0,n0,(((c0.st g0).st h0).st i1).st m0⟩
 replace hB:=(hB.st q0).st r0
 rintro w2 k1 ⟨x2,y2,rfl,o0,z2,hB,e0⟩
 replace hm:=AR hm
 refine AH _ o0 ?_
 refine Ab (Aa (Ak rfl (Am rfl (o_z ?_))))
 refine AF ?_
 obtain ⟨l1,m1,e0⟩:=e0.freeze
 obtain rfl:=sm hm
 replace hB:=hB.st m1
 exact ret1v rfl (AA rfl) ⟨hB.ext,(Vb.mono (F:=Fr 0 k1 l1) e0 hB.out)⟩
noncomputable def CU (x0:List Fct):Option Bool :=
  bnd (if 64 < (x0.length:Int) then (some true) else (some false):Option Bool) fun y4=>some y4
theorem JD {w:World} {A:Nat→Prop} (hA:∀ k,A k→k < w.heap.size) {vx0:Value} {x0:List Fct} (b0:Vb w A vx0 x0) {r:Bool} (hm:CU x0=some r) :
    Fn prog 61 [vx0] w fun v w'=>Ext w w'∧Vb w' (upA A w w') v r:=by
 obtain ⟨O,hB,e0⟩:=enter hA
 replace b0:=b0.mono e0
 obtain ⟨A2,c3,rfl⟩:=b0.form
 refine AL func61 rfl ntmps61 ?_
 unfold CU at hm
 refine Ab (Aa (Am rfl (o_z ?_)))
 refine Ab ?_
 obtain ⟨y4,a0,hm⟩:=bs hm
 refine Ay (fun l' w'=>∃ (x7:Unit) (O':Lab),subs l' [(2,(.bool y4))]∧Bs w A w' O') ?_ ?_
 ·
  refine Aa (Ak rfl (AS rfl ?_))
  have l9:x0.length≤9223372036854775807:=Nat.le_trans b0.len.2.1 b0.len.2.2
  have r8:inI64 (x0.length:Int):=rngNat l9
  refine BW rfl rfl (fun c0=>?_) fun c0=>?_
  ·
   replace a0:=ip a0 c0
   refine Am rfl (o_z ?_)
   obtain rfl:=sm a0
   exact ⟨(),_,⟨rfl,trivial⟩,hB⟩
  replace a0:=im a0 c0
  refine Am rfl (o_z ?_)
  obtain rfl:=sm a0
  exact ⟨(),_,⟨rfl,trivial⟩,hB⟩
 rintro f0 g0 ⟨x7,h0,d0,hB⟩
 refine AH _ d0 ?_
 refine AF ?_
 obtain rfl:=sm hm
 exact ret1v rfl (AA rfl) ⟨hB.ext,vBool⟩
noncomputable def Bj (x0:List (List Fct)):Option Int :=
  bnd (rng (ρ:=Int) (fun (k11:Nat) (a12:List Fct) (s9:Unit)=>bnd (CU a12) fun q33=>if q33=true then some (.ret (k11:Int)) else some (.next ())) x0 0 ()) fun res7=>fin res7 fun (s44:Unit)=>some (-1)
theorem Dy {w:World} {A:Nat→Prop} (hA:∀ k,A k→k < w.heap.size) {vx0:Value} {x0:List (List Fct)} (b0:Vb w A vx0 x0) {r:Int} (hm:Bj x0=some r) :
    Fn prog 110 [vx0,(.func (.func 61) #[] #[])] w fun v w'=>Ext w w'∧Vb w' (upA A w w') v r:=by
 obtain ⟨O,hB,o0⟩:=enter hA
 replace b0:=b0.mono o0
 obtain ⟨A3,c4,rfl⟩:=b0.form
 refine AL func110 rfl ntmps110 ?_
 unfold Bj at hm
 refine Ab (Aa (Am rfl (o_z ?_)))
 refine Ab (Ab (Aa (Ak rfl (AS rfl ?_))))
 have l6:x0.length≤9223372036854775807:=Nat.le_trans b0.len.2.1 b0.len.2.2
 have r5:inI64 (x0.length:Int):=rngNat l6
 refine Ak rfl (o_z ?_)
 obtain ⟨g0,p0,hm⟩:=bs hm
 refine Ay (aft g0 (fun (s9:Unit) (e0:Unit)=>[]) (fun s9 e0 w'=>∃ O':Lab,Bs w A w' O')) ?_ ?_
 ·
  refine AK (AY (σ:=Unit) (X:=Unit) (x0.length) p0 rfl l6 (fun (s9:Unit) (e0:Unit)=>[(0,(.slice A3 x0.length c4)),(1,(.func (.func 61) #[] #[]))]) _ (fun s9 e0 w'=>∃ O':Lab,Bs w A w' O'∧Vb w' (Fr 0 w' O') (.slice A3 x0.length c4) x0) _ () ⟨O,hB,b0⟩ ⟨rfl,rfl,rfl,rfl,trivial⟩ (fun _ _=>⟨rfl,rfl⟩) (fun _ _=>trivial) (fun _ _ _ ⟨O',hB,b0⟩=>⟨O',hB⟩) ⟨rfl,rfl,rfl⟩ ⟨rfl,rfl⟩ ?_)
  rintro q0 y0 s9 e0 r0 s0 d0 ⟨t0,hB,b0⟩ a0 c0 h0
  have rk11:inI64 (q0:Int):=rngK d0 l6
  refine Ab (Aa (Ak rfl (Am rfl (o_z ?_))))
  refine Ab (Aa (Ak rfl (Ak rfl (Ak rfl ?_))))
  obtain ⟨z0,a1,u0,i0,j0,k0,b1,rfl,f0⟩:=b0.elem' d0
  replace f0:=Vb.of_slice f0
  obtain ⟨c1,d1,rfl⟩:=f0.form
  refine Bi (hA:=i0) (hj:=rfl) (hlt:=j0) rfl rfl ?_
  refine At (hc:=cat0 k0) rfl ?_
  obtain ⟨n0,v0,a0⟩:=bs a0
  refine PT (O:=t0) (A:=All r0) (R:=fun w' F v=>Vb w' F v n0) (JD (fun _ h=>h) (vMo f0) v0) rfl rfl rfl fun e1 f1 g1 l0 w0=>?_
  obtain rfl:=w0.bool
  cases n0
  case false =>
   replace a0:=iF a0
   refine o_z ?_
   refine Ae rfl (AO ?_)
   obtain rfl:=sm a0
   exact show Exists _ from ⟨_,(),rfl,⟨rfl,rfl,rfl,rfl,trivial⟩,_,hB.st l0,b0.st l0⟩
  replace a0:=iT a0
  refine o_z ?_
  refine Ah rfl (Ab (Aa (Ak rfl (Am rfl (o_z ?_)))))
  refine AF ?_
  obtain rfl:=sm a0
  obtain rfl:=c0 _ rfl
  obtain rfl:=sm (BY hm)
  replace hB:=hB.st l0
  exact ret1v rfl (AA rfl) ⟨hB.ext,(vInt rk11)⟩
 rintro h1 i1 ⟨j1,k1,rfl,m0,l1,hB⟩
 replace hm:=AR hm
 refine AH _ m0 ?_
 refine Ab (Aa (Am rfl (o_z ?_)))
 refine AF ?_
 obtain rfl:=sm hm
 exact ret1v rfl (AA rfl) ⟨hB.ext,(vInt (iI64 (-1)))⟩
noncomputable def Ba (x0:List (List Fct)):Option Bool :=
  bnd (bnd (Bj x0) fun q9=>if 0≤q9 then (some true) else (some false):Option Bool) fun y5=>some y5
theorem Do {w:World} {A:Nat→Prop} (hA:∀ k,A k→k < w.heap.size) {vx0:Value} {x0:List (List Fct)} (b0:Vb w A vx0 x0) {r:Bool} (hm:Ba x0=some r) :
    Fn prog 60 [vx0,(.func (.func 61) #[] #[])] w fun v w'=>Ext w w'∧Vb w' (upA A w w') v r:=by
 obtain ⟨O,hB,f0⟩:=enter hA
 replace b0:=b0.mono f0
 obtain ⟨A3,c4,rfl⟩:=b0.form
 refine AL func60 rfl ntmps60 ?_
 unfold Ba at hm
 refine Ab (Aa (Am rfl (o_z ?_)))
 refine Ab ?_
 obtain ⟨y5,a0,hm⟩:=bs hm
 refine Ay (fun l' w'=>∃ (x8:Unit) (O':Lab),subs l' [(4,(.bool y5))]∧Bs w A w' O') ?_ ?_
 ·
  refine Aa (Ak rfl (Ak rfl ?_))
  obtain ⟨q9,g0,a0⟩:=bs a0
  refine AM (O:=O) (Dy (fun _ h=>h) (vMo b0) g0) rfl fun i0 j0 k0 e0 h0=>?_
  obtain ⟨rfl,l0⟩:=h0.int
  refine ET rfl rfl (fun c0=>?_) fun c0=>?_
  ·
   replace a0:=ip a0 c0
   refine Am rfl (o_z ?_)
   obtain rfl:=sm a0
   exact ⟨(),_,⟨rfl,trivial⟩,hB.st e0⟩
  replace a0:=im a0 c0
  refine Am rfl (o_z ?_)
  obtain rfl:=sm a0
  exact ⟨(),_,⟨rfl,trivial⟩,hB.st e0⟩
 rintro m0 n0 ⟨x8,o0,d0,hB⟩
 refine AH _ d0 ?_
 refine AF ?_
 obtain rfl:=sm hm
 exact ret1v rfl (AA rfl) ⟨hB.ext,vBool⟩
noncomputable def CV (x0:List Fct) (y0:Tpl):Option Bool :=
  bnd (bnd (FX y0.vars x0) fun q24=>if q24=true then some false else some true:Option Bool) fun y20=>some y20
theorem JE {w:World} {A:Nat→Prop} (hA:∀ k,A k→k < w.heap.size) {vx0:Value} {x0:List Fct} (b0:Vb w A vx0 x0) {py0:Nat} {csy0:List Value} {y0:Tpl} (hby0:Blk w py0 26 csy0) (hay0:A py0) (hcy0:Rp.R w A csy0 y0) {r:Bool} (hm:CV x0 y0=some r) :
    Fn prog 63 [vx0,(.pointer (some ⟨py0,0,none⟩))] w fun v w'=>Ext w w'∧Vb w' (upA A w w') v r:=by
 obtain ⟨O,hB,c0⟩:=enter hA
 have hLy0:Lc 0 w O py0 26 csy0:=⟨hby0,(c0 py0 hay0).2⟩
 replace hcy0:=Rp.mono hcy0 c0
 obtain ⟨v2,v3,v4,v5,rfl,h6,h9,f0,g0⟩:=hcy0
 obtain ⟨A7,c8,rfl⟩:=h6.form
 obtain ⟨m0,n0,rfl⟩:=h9.form
 obtain ⟨o0,p0,rfl⟩:=f0.form
 obtain ⟨q0,r0,rfl⟩:=g0.form
 replace b0:=b0.mono c0
 obtain ⟨s0,t0,rfl⟩:=b0.form
 refine AL func63 rfl ntmps63 ?_
 unfold CV at hm
 refine Ab (Aa (Am rfl (o_z ?_)))
 refine Ab ?_
 obtain ⟨h0,a0,hm⟩:=bs hm
 refine Ay (fun l' w'=>∃ (i0:Unit) (O':Lab),subs l' [(3,(.bool h0))]∧Bs w A w' O') ?_ ?_
 ·
  refine Aa (Ax rfl (At (hc:=Blk.cell (i:=0) (hLy0.1) rfl) rfl ?_))
  refine Ak rfl ?_
  obtain ⟨j0,k0,a0⟩:=bs a0
  refine AM (O:=O) (Ny (fun _ h=>h) (vMo h6) (vMo b0) k0) rfl fun u0 v0 w0 e0 l0=>?_
  obtain rfl:=l0.bool
  cases j0
  case false =>
   replace a0:=iF a0
   refine Dl rfl (Am rfl (o_z ?_))
   obtain rfl:=sm a0
   exact ⟨(),_,⟨rfl,trivial⟩,hB.st e0⟩
  replace a0:=iT a0
  refine Dk rfl (Am rfl (o_z ?_))
  obtain rfl:=sm a0
  exact ⟨(),_,⟨rfl,trivial⟩,hB.st e0⟩
 rintro z0 a1 ⟨i0,b1,d0,hB⟩
 refine AH _ d0 ?_
 refine AF ?_
 obtain rfl:=sm hm
 exact ret1v rfl (AA rfl) ⟨hB.ext,vBool⟩
noncomputable def Bk (x0:List (List Fct)) (y0:Tpl):Option Int :=
  bnd (rng (ρ:=Int) (fun (k27:Nat) (a28:List Fct) (s25:Unit)=>bnd (CV a28 y0) fun q49=>if q49=true then some (.ret (k27:Int)) else some (.next ())) x0 0 ()) fun res23=>fin res23 fun (s60:Unit)=>some (-1)
theorem Dz {w:World} {A:Nat→Prop} (hA:∀ k,A k→k < w.heap.size) {vx0:Value} {x0:List (List Fct)} (b0:Vb w A vx0 x0) {py0:Nat} {csy0:List Value} {y0:Tpl} (hby0:Blk w py0 26 csy0) (hay0:A py0) (hcy0:Rp.R w A csy0 y0) {r:Int} (hm:Bk x0 y0=some r) :
    Fn prog 110 [vx0,(.func (.func 63) #[] #[(.pointer (some ⟨py0,0,none⟩))])] w fun v w'=>Ext w w'∧Vb w' (upA A w w') v r:=by
 obtain ⟨O,hB,m0⟩:=enter hA
 have hLy0:Lc 0 w O py0 26 csy0:=⟨hby0,(m0 py0 hay0).2⟩
 replace hcy0:=Rp.mono hcy0 m0
 obtain ⟨v3,v4,v5,v6,rfl,h7,e0,f0,g0⟩:=hcy0
 obtain ⟨A8,c9,rfl⟩:=h7.form
 obtain ⟨u0,v0,rfl⟩:=e0.form
 obtain ⟨w0,z0,rfl⟩:=f0.form
 obtain ⟨a1,b1,rfl⟩:=g0.form
 replace b0:=b0.mono m0
 obtain ⟨c1,d1,rfl⟩:=b0.form
 refine AL func110 rfl ntmps110 ?_
 unfold Bk at hm
 refine Ab (Aa (Am rfl (o_z ?_)))
 refine Ab (Ab (Aa (Ak rfl (AS rfl ?_))))
 have n0:x0.length≤9223372036854775807:=Nat.le_trans b0.len.2.1 b0.len.2.2
 have m1:inI64 (x0.length:Int):=rngNat n0
 refine Ak rfl (o_z ?_)
 obtain ⟨h0,o0,hm⟩:=bs hm
 refine Ay (aft h0 (fun (j0:Unit) (k0:Unit)=>[]) (fun j0 k0 w'=>∃ O':Lab,Bs w A w' O')) ?_ ?_
 ·
  refine AK (AY (σ:=Unit) (X:=Unit) (x0.length) o0 rfl n0 (fun (j0:Unit) (k0:Unit)=>[(0,(.slice c1 x0.length d1)),(1,(.func (.func 63) #[] #[(.pointer (some ⟨py0,0,none⟩))]))]) _ (fun j0 k0 w'=>∃ O':Lab,Bs w A w' O'∧Vb w' (Fr 0 w' O') (.slice c1 x0.length d1) x0∧Lc 0 w' O' py0 26 [(.slice A8 y0.vars.length c9),(.slice u0 y0.init.length v0),(.slice w0 y0.goal.length z0),(.slice a1 y0.jobs.length b1)]∧Vb w' (Fr 0 w' O') (.slice A8 y0.vars.length c9) y0.vars∧Vb w' (Fr 0 w' O') (.slice u0 y0.init.length v0) y0.init∧Vb w' (Fr 0 w' O') (.slice w0 y0.goal.length z0) y0.goal∧Vb w' (Fr 0 w' O') (.slice a1 y0.jobs.length b1) y0.jobs) _ () ⟨O,hB,b0,hLy0,h7,e0,f0,g0⟩ ⟨rfl,rfl,rfl,rfl,trivial⟩ (fun _ _=>⟨rfl,rfl⟩) (fun _ _=>trivial) (fun _ _ _ ⟨O',hB,b0,hLy0,h7,e0,f0,g0⟩=>⟨O',hB⟩) ⟨rfl,rfl,rfl⟩ ⟨rfl,rfl⟩ ?_)
  rintro h1 n1 j0 k0 e1 i1 i0 ⟨f1,hB,b0,hLy0,h7,e0,f0,g0⟩ a0 d0 p0
  have rk27:inI64 (h1:Int):=rngK i0 n0
  refine Ab (Aa (Ak rfl (Am rfl (o_z ?_))))
  refine Ab (Aa (Ak rfl (Ak rfl (Ak rfl ?_))))
  obtain ⟨o1,p1,j1,q0,r0,s0,q1,rfl,l0⟩:=b0.elem' i0
  replace l0:=Vb.of_slice l0
  obtain ⟨r1,s1,rfl⟩:=l0.form
  refine Bi (hA:=q0) (hj:=rfl) (hlt:=r0) rfl rfl ?_
  refine At (hc:=cat0 s0) rfl ?_
  obtain ⟨g1,k1,a0⟩:=bs a0
  refine Jg (O:=f1) (A:=All e1) (R:=fun w' F v=>Vb w' F v g1) (JE (fun _ h=>h) (vMo l0) hLy0.1 hLy0.1.lt (Rp.mono (F:=Fr 0 e1 f1) (x:=y0) ⟨_,_,_,_,rfl,h7,e0,f0,g0⟩ Fr.lt) k1) rfl rfl rfl rfl fun t1 u1 v1 c0 l1=>?_
  obtain rfl:=l1.bool
  cases g1
  case false =>
   replace a0:=iF a0
   refine o_z ?_
   refine Ae rfl (AO ?_)
   obtain rfl:=sm a0
   exact show Exists _ from ⟨_,(),rfl,⟨rfl,rfl,rfl,rfl,trivial⟩,_,hB.st c0,b0.st c0,hLy0.st c0,h7.st c0,e0.st c0,f0.st c0,g0.st c0⟩
  replace a0:=iT a0
  refine o_z ?_
  refine Ah rfl (Ab (Aa (Ak rfl (Am rfl (o_z ?_)))))
  refine AF ?_
  obtain rfl:=sm a0
  obtain rfl:=d0 _ rfl
  obtain rfl:=sm (BY hm)
  replace hB:=hB.st c0
  exact ret1v rfl (AA rfl) ⟨hB.ext,(vInt rk27)⟩
 rintro w1 x1 ⟨y1,z1,rfl,t0,a2,hB⟩
 replace hm:=AR hm
 refine AH _ t0 ?_
 refine Ab (Aa (Am rfl (o_z ?_)))
 refine AF ?_
 obtain rfl:=sm hm
 exact ret1v rfl (AA rfl) ⟨hB.ext,(vInt (iI64 (-1)))⟩
noncomputable def Bb (x0:List (List Fct)) (y0:Tpl):Option Bool :=
  bnd (bnd (Bk x0 y0) fun q25=>if 0≤q25 then (some true) else (some false):Option Bool) fun y21=>some y21
theorem Dp {w:World} {A:Nat→Prop} (hA:∀ k,A k→k < w.heap.size) {vx0:Value} {x0:List (List Fct)} (b0:Vb w A vx0 x0) {py0:Nat} {csy0:List Value} {y0:Tpl} (hby0:Blk w py0 26 csy0) (hay0:A py0) (hcy0:Rp.R w A csy0 y0) {r:Bool} (hm:Bb x0 y0=some r) :
    Fn prog 60 [vx0,(.func (.func 63) #[] #[(.pointer (some ⟨py0,0,none⟩))])] w fun v w'=>Ext w w'∧Vb w' (upA A w w') v r:=by
 obtain ⟨O,hB,c0⟩:=enter hA
 have hLy0:Lc 0 w O py0 26 csy0:=⟨hby0,(c0 py0 hay0).2⟩
 replace hcy0:=Rp.mono hcy0 c0
 obtain ⟨v3,v4,v5,v6,rfl,h7,f0,g0,h0⟩:=hcy0
 obtain ⟨A8,c9,rfl⟩:=h7.form
 obtain ⟨n0,o0,rfl⟩:=f0.form
 obtain ⟨p0,q0,rfl⟩:=g0.form
 obtain ⟨r0,s0,rfl⟩:=h0.form
 replace b0:=b0.mono c0
 obtain ⟨t0,u0,rfl⟩:=b0.form
 refine AL func60 rfl ntmps60 ?_
 unfold Bb at hm
 refine Ab (Aa (Am rfl (o_z ?_)))
 refine Ab ?_
 obtain ⟨j0,a0,hm⟩:=bs hm
 refine Ay (fun l' w'=>∃ (k0:Unit) (O':Lab),subs l' [(4,(.bool j0))]∧Bs w A w' O') ?_ ?_
 ·
  refine Aa (Ak rfl (Ak rfl ?_))
  obtain ⟨v0,l0,a0⟩:=bs a0
  refine AM (O:=O) (Dz (fun _ h=>h) (vMo b0) hLy0.1 hLy0.1.lt (Rp.mono (F:=Fr 0 w O) (x:=y0) ⟨_,_,_,_,rfl,h7,f0,g0,h0⟩ Fr.lt) l0) rfl fun w0 z0 a1 i0 m0=>?_
  obtain ⟨rfl,b1⟩:=m0.int
  refine ET rfl rfl (fun d0=>?_) fun d0=>?_
  ·
   replace a0:=ip a0 d0
   refine Am rfl (o_z ?_)
   obtain rfl:=sm a0
   exact ⟨(),_,⟨rfl,trivial⟩,hB.st i0⟩
  replace a0:=im a0 d0
  refine Am rfl (o_z ?_)
  obtain rfl:=sm a0
  exact ⟨(),_,⟨rfl,trivial⟩,hB.st i0⟩
 rintro c1 d1 ⟨k0,e1,e0,hB⟩
 refine AH _ e0 ?_
 refine AF ?_
 obtain rfl:=sm hm
 exact ret1v rfl (AA rfl) ⟨hB.ext,vBool⟩
noncomputable def Cz (x0:ByteArray):Option Bool :=
  bnd (rngN (ρ:=Bool) (fun (k7:Nat) (s5:Unit)=>bnd (bnd (bytI x0 (k7:Int)) fun n22=>if n22 < 32 then (some true) else (bnd (bytI x0 (k7:Int)) fun n26=>if 126 < n26 then (some true) else (some false)):Option Bool) fun y18=>if y18=true then (some (.ret false)) else (some (.next ()))) x0.size ()) fun res3=>fin res3 fun (s39:Unit)=>bnd (if (x0.size:Int)≤256 then (some true) else (some false):Option Bool) fun y41=>some y41
theorem Lk {w:World} {A:Nat→Prop} (hA:∀ k,A k→k < w.heap.size) {x0:ByteArray} (zx0:x0.size≤9223372036854775807) {r:Bool} (hm:Cz x0=some r) :
    Fn prog 65 [(.string x0)] w fun v w'=>Ext w w'∧Vb w' (upA A w w') v r:=by
 obtain ⟨O,hB,w0⟩:=enter hA
 refine AL func65 rfl ntmps65 ?_
 unfold Cz at hm
 refine Ab (Aa (Am rfl (o_z ?_)))
 refine Ab (Ab (Aa (Ak rfl (ID rfl ?_))))
 have r2:inI64 (x0.size:Int):=rngNat zx0
 refine Ak rfl (o_z ?_)
 obtain ⟨e0,q0,hm⟩:=bs hm
 refine Ay (aft e0 (fun (s5:Unit) (x6:Unit)=>[(0,(.string x0))]) (fun s5 x6 w'=>∃ O':Lab,Bs w A w' O')) ?_ ?_
 ·
  refine AK (Fp (σ:=Unit) (X:=Unit) (x0.size) q0 (rngNat' r2) (fun (s5:Unit) (x6:Unit)=>[(0,(.string x0))]) _ (fun s5 x6 w'=>∃ O':Lab,Bs w A w' O') _ () ⟨O,hB⟩ ⟨rfl,rfl,rfl,trivial⟩ (fun _ _=>⟨rfl,rfl⟩) (fun _ _=>⟨rfl,trivial⟩) (fun _ _ _ ⟨O',hB⟩=>⟨O',hB⟩) ⟨rfl,rfl,rfl⟩ ⟨rfl,rfl⟩ ?_)
  rintro k7 s5 x6 w9 r0 f0 ⟨y0,hB⟩ b0 d0 g0
  have rk7:inI64 (k7:Int):=rngKN f0 (rngNat' r2)
  refine Ab (Aa (Ak rfl (Am rfl (o_z ?_))))
  refine Ab ?_
  obtain ⟨s0,a0,b0⟩:=bs b0
  refine Ay (fun l' w'=>∃ (t0:Unit) (O':Lab),subs l' [(0,(.string x0)),(5,(.int .i64 (x0.size:Int))),(6,(.int .i64 (k7:Int))),(18,(.bool s0))]∧Bs w A w' O') ?_ ?_
  ·
   refine Aa (Ak rfl (Ak rfl ?_))
   obtain ⟨z0,o0,a0⟩:=bs a0
   have a1:=Hi o0
   refine Kr (he:=o0) rfl rfl rfl ?_
   refine Dm rfl rfl (fun h0=>?_) fun h0=>?_
   ·
    replace a0:=ip a0 h0
    refine Ak rfl (Al rfl rfl (Al rfl rfl (Al rfl rfl (Al rfl rfl (Bn rfl rfl (o_z ?_))))))
    obtain rfl:=sm a0
    exact ⟨(),_,⟨rfl,rfl,rfl,rfl,trivial⟩,hB⟩
   replace a0:=im a0 h0
   refine Ak rfl (An rfl rfl (Ak rfl (An rfl rfl (Ak rfl (An rfl rfl ?_)))))
   obtain ⟨b1,p0,a0⟩:=bs a0
   have c1:=Hi p0
   refine Kr (he:=p0) rfl rfl rfl ?_
   refine An rfl rfl (BW rfl rfl (fun i0=>?_) fun i0=>?_)
   ·
    replace a0:=ip a0 i0
    refine Bc rfl rfl (o_z ?_)
    obtain rfl:=sm a0
    exact ⟨(),_,⟨rfl,rfl,rfl,rfl,trivial⟩,hB⟩
   replace a0:=im a0 i0
   refine Bc rfl rfl (o_z ?_)
   obtain rfl:=sm a0
   exact ⟨(),_,⟨rfl,rfl,rfl,rfl,trivial⟩,hB⟩
  rintro d1 e1 ⟨t0,f1,j0,hB⟩
  refine AH _ j0 ?_
  refine Cd rfl (fun k0=>?_) (fun k0=>?_)
  ·
   replace b0:=ip b0 k0
   refine Ab (Aa (Am rfl (o_z ?_)))
   refine AF ?_
   obtain rfl:=sm b0
   obtain rfl:=d0 _ rfl
   obtain rfl:=sm (BY hm)
   exact ret1v rfl (AA rfl) ⟨hB.ext,vBool⟩
  replace b0:=im' b0 k0
  refine AO ?_
  obtain rfl:=sm b0
  exact show Exists _ from ⟨_,(),rfl,⟨rfl,rfl,rfl,trivial⟩,_,hB⟩
 rintro g1 h1 ⟨i1,j1,rfl,l0,k1,hB⟩
 replace hm:=AR hm
 refine AH _ l0 ?_
 refine Ab ?_
 obtain ⟨u0,c0,hm⟩:=bs hm
 refine Ay (fun l' w'=>∃ (v0:Unit) (O':Lab),subs l' [(2,(.bool u0))]∧Bs w A w' O') ?_ ?_
 ·
  refine Aa (Ak rfl (ID rfl ?_))
  have l1:inI64 (x0.size:Int):=rngNat zx0
  refine Ki rfl rfl rfl (fun m0=>?_) fun m0=>?_
  ·
   replace c0:=ip c0 m0
   refine Am rfl (o_z ?_)
   obtain rfl:=sm c0
   exact ⟨(),_,⟨rfl,trivial⟩,hB⟩
  replace c0:=im c0 m0
  refine Am rfl (o_z ?_)
  obtain rfl:=sm c0
  exact ⟨(),_,⟨rfl,trivial⟩,hB⟩
 rintro m1 n1 ⟨v0,o1,n0,hB⟩
 refine AH _ n0 ?_
 refine AF ?_
 obtain rfl:=sm hm
 exact ret1v rfl (AA rfl) ⟨hB.ext,vBool⟩
noncomputable def CN (x0:Tpl):Option Err :=
  bnd (CM x0) fun q24=>bnd (if 64 < (x0.vars.length:Int) then (some true) else (if 24 < (x0.jobs.length:Int) then (some true) else (bnd (Ba q24) fun q43=>if q43=true then some true else some false)):Option Bool) fun y33=>if y33=true then (some (⟨5⟩:Err)) else (bnd (rng (ρ:=Err) (fun (k61:Nat) (a62:Int) (s59:Unit)=>bnd (if a62 < 1 then (some true) else (if 64 < a62 then (some true) else (some false)):Option Bool) fun y80=>if y80=true then (some (.ret (⟨1⟩:Err))) else (some (.next ()))) x0.vars 0 ()) fun res57=>fin res57 fun (s95:Unit)=>bnd (rng (ρ:=Err) (fun (k103:Nat) (a104:Job) (s101:Unit)=>bnd (if a104.dur < 1 then (some true) else (if 62 < a104.dur then (some true) else (some false)):Option Bool) fun y150=>if y150=true then (some (.ret (⟨1⟩:Err))) else (some (.next ()))) x0.jobs 0 ()) fun res99=>fin res99 fun (s165:Unit)=>bnd (bnd (Fz x0.vars x0.init) fun q171=>if q171=true then bnd (Bb q24 x0) fun q178=>if q178=true then some true else some false else some true:Option Bool) fun y167=>if y167=true then (some (⟨2⟩:Err)) else (bnd (rng (ρ:=Err) (fun (k196:Nat) (a197:Job) (s194:Unit)=>bnd (Cz a197.name) fun q243=>if q243=true then some (.next ()) else some (.ret (⟨8⟩:Err))) x0.jobs 0 ()) fun res192=>fin res192 fun (s254:Unit)=>some (⟨0⟩:Err)))
theorem Ie {w:World} {A:Nat→Prop} (hA:∀ k,A k→k < w.heap.size) {vx0:Value} {x0:Tpl} (w2:Vb w A vx0 x0) {r:Err} (hm:CN x0=some r) :
    Fn prog 18 [vx0] w fun v w'=>Ext w w'∧Vb w' (upA A w w') v r:=by
 obtain ⟨O,hB,z5⟩:=enter hA
 replace w2:=w2.mono z5
 obtain ⟨j8,rfl,v3,v4,v5,v6,rfl,h7,f0,g0,c0⟩:=w2
 obtain ⟨A8,c9,rfl⟩:=h7.form
 obtain ⟨t0,u0,rfl⟩:=f0.form
 obtain ⟨v0,w0,rfl⟩:=g0.form
 obtain ⟨p0,q0,rfl⟩:=c0.form
 refine AL func18 rfl ntmps18 ?_
 unfold CN at hm
 refine Ab (Aa (BL 2 O rfl fun y0 a6 s5 h1 d0=>?_))
 replace d0:Lc 2 a6 s5 y0 26 [(.slice A8 x0.vars.length c9),(.slice t0 x0.init.length u0),(.slice v0 x0.goal.length w0),(.slice p0 x0.jobs.length q0)]:=d0
 refine Am rfl (o_z ?_)
 refine Ab (Aa (Bd (hl:=rfl) (hc:=(d0.1).cellsAt) rfl ?_))
 obtain ⟨s0,b6,hm⟩:=bs hm
 replace h7:=h7.st h1
 replace f0:=f0.st h1
 replace g0:=g0.st h1
 replace c0:=c0.st h1
 refine Cc (O:=s5) (Lj Fr.lt (Vb.ofAgg (cs:=[(.slice A8 x0.vars.length c9),(.slice t0 x0.init.length u0),(.slice v0 x0.goal.length w0),(.slice p0 x0.jobs.length q0)]) (x:=x0) rfl ⟨_,_,_,_,rfl,h7,f0,g0,c0⟩) b6) rfl fun k8 l8 c6 r0 j0=>?_
 obtain ⟨c1,d1,rfl⟩:=j0.form
 refine Am rfl (o_z ?_)
 refine Ab (Ab ?_)
 obtain ⟨d6,h0,hm⟩:=bs hm
 refine Ay (fun l' w'=>∃ (e6:Unit) (O':Lab),subs l' [(1,(.pointer (some ⟨y0,0,none⟩))),(3,(.slice c1 s0.length d1)),(25,(.bool d6))]∧Bs w A w' O'∧Lc 2 w' O' y0 26 [(.slice A8 x0.vars.length c9),(.slice t0 x0.init.length u0),(.slice v0 x0.goal.length w0),(.slice p0 x0.jobs.length q0)]∧Vb w' (Fr 0 w' O') (.slice A8 x0.vars.length c9) x0.vars∧Vb w' (Fr 0 w' O') (.slice t0 x0.init.length u0) x0.init∧Vb w' (Fr 0 w' O') (.slice v0 x0.goal.length w0) x0.goal∧Vb w' (Fr 0 w' O') (.slice p0 x0.jobs.length q0) x0.jobs∧Vb w' (Fr 0 w' O') (.slice c1 s0.length d1) s0) ?_ ?_
 ·
  refine Aa (Ax rfl ?_)
  replace d0:=d0.st r0
  refine At (hc:=Blk.cell (i:=0) (d0.1) rfl) rfl ?_
  refine AS rfl ?_
  replace h7:=h7.st r0
  have f6:x0.vars.length≤9223372036854775807:=Nat.le_trans h7.len.2.1 h7.len.2.2
  have m8:inI64 (x0.vars.length:Int):=rngNat f6
  refine BW rfl rfl (fun x2=>?_) fun x2=>?_
  ·
   replace h0:=ip h0 x2
   refine Ak rfl (Al rfl rfl (Al rfl rfl (Al rfl rfl (Al rfl rfl (Bn rfl rfl (Ak rfl (Al rfl rfl (Al rfl rfl (Bn rfl rfl (o_z ?_))))))))))
   obtain rfl:=sm h0
   exact ⟨(),_,⟨rfl,rfl,rfl,trivial⟩,(hB.st h1).st r0,d0,h7,f0.st r0,g0.st r0,c0.st r0,j0⟩
  replace h0:=im h0 x2
  refine Ak rfl (An rfl rfl (Ax rfl (An rfl rfl (At (hc:=Blk.cell (i:=3) (d0.1) rfl) rfl ?_))))
  refine An rfl rfl (AS rfl ?_)
  replace c0:=c0.st r0
  have g6:x0.jobs.length≤9223372036854775807:=Nat.le_trans c0.len.2.1 c0.len.2.2
  have n8:inI64 (x0.jobs.length:Int):=rngNat g6
  refine An rfl rfl (BW rfl rfl (fun y2=>?_) fun y2=>?_)
  ·
   replace h0:=ip h0 y2
   refine Bc rfl rfl (Ak rfl (Al rfl rfl (Al rfl rfl (Bn rfl rfl (o_z ?_)))))
   obtain rfl:=sm h0
   exact ⟨(),_,⟨rfl,rfl,rfl,trivial⟩,(hB.st h1).st r0,d0,h7,f0.st r0,g0.st r0,c0,j0⟩
  replace h0:=im h0 y2
  refine Bc rfl rfl (Ak rfl (An rfl rfl (Ak rfl (An rfl rfl ?_))))
  obtain ⟨h6,i6,h0⟩:=bs h0
  refine AM (O:=c6) (Do (fun _ h=>h) (vMo j0) i6) rfl fun o8 p8 q8 e1 j6=>?_
  obtain rfl:=j6.bool
  cases h6
  case false =>
   replace h0:=iF h0
   refine Bc rfl rfl (o_z ?_)
   obtain rfl:=sm h0
   exact ⟨(),_,⟨rfl,rfl,rfl,trivial⟩,((hB.st h1).st r0).st e1,d0.st e1,h7.st e1,(f0.st r0).st e1,(g0.st r0).st e1,c0.st e1,j0.st e1⟩
  replace h0:=iT h0
  refine Bc rfl rfl (o_z ?_)
  obtain rfl:=sm h0
  exact ⟨(),_,⟨rfl,rfl,rfl,trivial⟩,((hB.st h1).st r0).st e1,d0.st e1,h7.st e1,(f0.st r0).st e1,(g0.st r0).st e1,c0.st e1,j0.st e1⟩
 replace hB:=(hB.st h1).st r0
 replace h7:=h7.st r0
 replace f0:=f0.st r0
 replace g0:=g0.st r0
 replace c0:=c0.st r0
 replace d0:=d0.st r0
 rintro r8 s8 ⟨e6,k6,z2,hB,d0,h7,f0,g0,c0,j0⟩
 refine AH _ z2 ?_
 refine Cd rfl (fun a3=>?_) (fun a3=>?_)
 ·
  replace hm:=ip hm a3
  refine Ab (Aa (Gd rfl ?_))
  refine Am rfl (o_z ?_)
  refine AF ?_
  obtain rfl:=sm hm
  exact ret1v rfl (AA rfl) ⟨hB.ext,(vErr)⟩
 replace hm:=im' hm a3
 refine AO (Ab (Ab (Aa (Ax rfl (At (hc:=Blk.cell (i:=0) (d0.1) rfl) rfl ?_)))))
 refine AS rfl ?_
 have b3:x0.vars.length≤9223372036854775807:=Nat.le_trans h7.len.2.1 h7.len.2.2
 have t8:inI64 (x0.vars.length:Int):=rngNat b3
 refine Ak rfl (o_z ?_)
 obtain ⟨a2,c3,hm⟩:=bs hm
 refine Ay (aft a2 (fun (s2:Unit) (t2:Unit)=>[(1,(.pointer (some ⟨y0,0,none⟩))),(3,(.slice c1 s0.length d1))]) (fun s2 t2 w'=>∃ O':Lab,Bs w A w' O'∧Lc 2 w' O' y0 26 [(.slice A8 x0.vars.length c9),(.slice t0 x0.init.length u0),(.slice v0 x0.goal.length w0),(.slice p0 x0.jobs.length q0)]∧Vb w' (Fr 0 w' O') (.slice A8 x0.vars.length c9) x0.vars∧Vb w' (Fr 0 w' O') (.slice t0 x0.init.length u0) x0.init∧Vb w' (Fr 0 w' O') (.slice v0 x0.goal.length w0) x0.goal∧Vb w' (Fr 0 w' O') (.slice p0 x0.jobs.length q0) x0.jobs∧Vb w' (Fr 0 w' O') (.slice c1 s0.length d1) s0)) ?_ ?_
 ·
  refine AK (AY (σ:=Unit) (X:=Unit) (x0.vars.length) c3 rfl b3 (fun (s2:Unit) (t2:Unit)=>[(1,(.pointer (some ⟨y0,0,none⟩))),(3,(.slice c1 s0.length d1)),(28,(.slice A8 x0.vars.length c9))]) _ (fun s2 t2 w'=>∃ O':Lab,Bs w A w' O'∧Lc 2 w' O' y0 26 [(.slice A8 x0.vars.length c9),(.slice t0 x0.init.length u0),(.slice v0 x0.goal.length w0),(.slice p0 x0.jobs.length q0)]∧Vb w' (Fr 0 w' O') (.slice A8 x0.vars.length c9) x0.vars∧Vb w' (Fr 0 w' O') (.slice t0 x0.init.length u0) x0.init∧Vb w' (Fr 0 w' O') (.slice v0 x0.goal.length w0) x0.goal∧Vb w' (Fr 0 w' O') (.slice p0 x0.jobs.length q0) x0.jobs∧Vb w' (Fr 0 w' O') (.slice c1 s0.length d1) s0) _ () ⟨k6,hB,d0,h7,f0,g0,c0,j0⟩ ⟨rfl,rfl,rfl,rfl,rfl,trivial⟩ (fun _ _=>⟨rfl,rfl⟩) (fun _ _=>⟨rfl,rfl,trivial⟩) (fun _ _ _ ⟨O',hB,d0,h7,f0,g0,c0,j0⟩=>⟨O',hB,d0,h7,f0,g0,c0,j0⟩) ⟨rfl,rfl,rfl⟩ ⟨rfl,rfl⟩ ?_)
  rintro t5 u8 s2 t2 v8 l6 b2 ⟨w8,hB,d0,h7,f0,g0,c0,j0⟩ z0 q1 d3
  have rk61:inI64 (t5:Int):=rngK b2 b3
  refine Ab (Aa ?_)
  obtain ⟨x8,y8,m6,e3,f3,g3,rfl,z8⟩:=h7.elem' b2
  refine Bi (hA:=e3) (hj:=rfl) (hlt:=f3) rfl rfl ?_
  refine At (hc:=cat0 g3) rfl ?_
  refine Am rfl (o_z ?_)
  refine Ab ?_
  obtain ⟨n6,o0,z0⟩:=bs z0
  refine Ay (fun l' w'=>∃ (o6:Unit) (O':Lab),subs l' [(1,(.pointer (some ⟨y0,0,none⟩))),(3,(.slice c1 s0.length d1)),(28,(.slice A8 x0.vars.length c9)),(29,(.int .i64 (x0.vars.length:Int))),(30,(.int .i64 (t5:Int))),(39,(.bool n6))]∧Bs w A w' O'∧Lc 2 w' O' y0 26 [(.slice A8 x0.vars.length c9),(.slice t0 x0.init.length u0),(.slice v0 x0.goal.length w0),(.slice p0 x0.jobs.length q0)]∧Vb w' (Fr 0 w' O') (.slice A8 x0.vars.length c9) x0.vars∧Vb w' (Fr 0 w' O') (.slice t0 x0.init.length u0) x0.init∧Vb w' (Fr 0 w' O') (.slice v0 x0.goal.length w0) x0.goal∧Vb w' (Fr 0 w' O') (.slice p0 x0.jobs.length q0) x0.jobs∧Vb w' (Fr 0 w' O') (.slice c1 s0.length d1) s0) ?_ ?_
  ·
   refine Aa (Ak rfl (Dm rfl rfl (fun h3=>?_) fun h3=>?_))
   ·
    replace o0:=ip o0 h3
    refine Ak rfl (Al rfl rfl (Al rfl rfl (Bn rfl rfl (o_z ?_))))
    obtain rfl:=sm o0
    exact ⟨(),_,⟨rfl,rfl,rfl,rfl,rfl,rfl,trivial⟩,hB,d0,h7,f0,g0,c0,j0⟩
   replace o0:=im o0 h3
   refine Ak rfl (An rfl rfl (Ak rfl (An rfl rfl (BW rfl rfl (fun i3=>?_) fun i3=>?_))))
   ·
    replace o0:=ip o0 i3
    refine Bc rfl rfl (o_z ?_)
    obtain rfl:=sm o0
    exact ⟨(),_,⟨rfl,rfl,rfl,rfl,rfl,rfl,trivial⟩,hB,d0,h7,f0,g0,c0,j0⟩
   replace o0:=im o0 i3
   refine Bc rfl rfl (o_z ?_)
   obtain rfl:=sm o0
   exact ⟨(),_,⟨rfl,rfl,rfl,rfl,rfl,rfl,trivial⟩,hB,d0,h7,f0,g0,c0,j0⟩
  rintro a9 b9 ⟨o6,d9,j3,hB,d0,h7,f0,g0,c0,j0⟩
  refine AH _ j3 ?_
  refine Cd rfl (fun k3=>?_) (fun k3=>?_)
  ·
   replace z0:=ip z0 k3
   refine Ab (Aa (Gd rfl ?_))
   refine Am rfl (o_z ?_)
   refine AF ?_
   obtain rfl:=sm z0
   obtain rfl:=q1 _ rfl
   obtain rfl:=sm (BY hm)
   exact ret1v rfl (AA rfl) ⟨hB.ext,(vErr)⟩
  replace z0:=im' z0 k3
  refine AO ?_
  obtain rfl:=sm z0
  exact show Exists _ from ⟨_,(),rfl,⟨rfl,rfl,rfl,rfl,rfl,trivial⟩,_,hB,d0,h7,f0,g0,c0,j0⟩
 rintro e9 f9 ⟨g9,h9,rfl,l3,p6,hB,d0,h7,f0,g0,c0,j0⟩
 replace hm:=AR hm
 refine AH _ l3 ?_
 refine Ab (Ab (Aa (Ax rfl (At (hc:=Blk.cell (i:=3) (d0.1) rfl) rfl ?_))))
 refine AS rfl ?_
 have m3:x0.jobs.length≤9223372036854775807:=Nat.le_trans c0.len.2.1 c0.len.2.2
 have i9:inI64 (x0.jobs.length:Int):=rngNat m3
 refine Ak rfl (o_z ?_)
 obtain ⟨c2,d2,hm⟩:=bs hm
 refine Ay (aft c2 (fun (i1:Unit) (j1:Unit)=>[(1,(.pointer (some ⟨y0,0,none⟩))),(3,(.slice c1 s0.length d1))]) (fun i1 j1 w'=>∃ O':Lab,Bs w A w' O'∧Lc 2 w' O' y0 26 [(.slice A8 x0.vars.length c9),(.slice t0 x0.init.length u0),(.slice v0 x0.goal.length w0),(.slice p0 x0.jobs.length q0)]∧Vb w' (Fr 0 w' O') (.slice A8 x0.vars.length c9) x0.vars∧Vb w' (Fr 0 w' O') (.slice t0 x0.init.length u0) x0.init∧Vb w' (Fr 0 w' O') (.slice v0 x0.goal.length w0) x0.goal∧Vb w' (Fr 0 w' O') (.slice p0 x0.jobs.length q0) x0.jobs∧Vb w' (Fr 0 w' O') (.slice c1 s0.length d1) s0)) ?_ ?_
 ·
  refine AK (AY (σ:=Unit) (X:=Unit) (x0.jobs.length) d2 rfl m3 (fun (i1:Unit) (j1:Unit)=>[(1,(.pointer (some ⟨y0,0,none⟩))),(3,(.slice c1 s0.length d1)),(43,(.slice p0 x0.jobs.length q0))]) _ (fun i1 j1 w'=>∃ O':Lab,Bs w A w' O'∧Lc 2 w' O' y0 26 [(.slice A8 x0.vars.length c9),(.slice t0 x0.init.length u0),(.slice v0 x0.goal.length w0),(.slice p0 x0.jobs.length q0)]∧Vb w' (Fr 0 w' O') (.slice A8 x0.vars.length c9) x0.vars∧Vb w' (Fr 0 w' O') (.slice t0 x0.init.length u0) x0.init∧Vb w' (Fr 0 w' O') (.slice v0 x0.goal.length w0) x0.goal∧Vb w' (Fr 0 w' O') (.slice p0 x0.jobs.length q0) x0.jobs∧Vb w' (Fr 0 w' O') (.slice c1 s0.length d1) s0) _ () ⟨p6,hB,d0,h7,f0,g0,c0,j0⟩ ⟨rfl,rfl,rfl,rfl,rfl,trivial⟩ (fun _ _=>⟨rfl,rfl⟩) (fun _ _=>⟨rfl,rfl,trivial⟩) (fun _ _ _ ⟨O',hB,d0,h7,f0,g0,c0,j0⟩=>⟨O',hB,d0,h7,f0,g0,c0,j0⟩) ⟨rfl,rfl,rfl⟩ ⟨rfl,rfl⟩ ?_)
  rintro e2 a1 i1 j1 q6 u5 o1 ⟨n3,hB,d0,h7,f0,g0,c0,j0⟩ l0 k1 u2
  have rk103:inI64 (e2:Int):=rngK o1 m3
  refine Ab (Aa ?_)
  obtain ⟨r6,s6,w5,f2,g2,h2,t6,u6,w6,x6,y6,rfl,o3,p3,q3,r3,s3,z6,a7⟩:=c0.elem' o1
  obtain ⟨t3,u3,rfl⟩:=o3.form
  obtain ⟨w3,x3,rfl⟩:=p3.form
  obtain ⟨y3,z3,rfl⟩:=q3.form
  obtain ⟨a4,b4,rfl⟩:=r3.form
  obtain ⟨c4,d4,rfl⟩:=s3.form
  refine Bi (hA:=f2) (hj:=rfl) (hlt:=g2) rfl rfl ?_
  refine Bd (hl:=rfl) (hc:=h2) rfl ?_
  refine AU 3 n3 fun e4 b7 f4 a0 f1=>?_
  refine Az f1 rfl rfl rfl (AJ) (allOne) fun g4 b0 f1=>?_
  replace f1:Lc 3 g4 f4 e4 66 [(.string a1.name),(.int .i64 a1.dur),(.slice t3 a1.start.length u3),(.slice w3 a1.over.length x3),(.slice y3 a1.fin.length z3),(.slice a4 a1.atStart.length b4),(.slice c4 a1.atEnd.length d4)]:=f1
  refine o_z ?_
  refine Ab ?_
  obtain ⟨h4,i0,l0⟩:=bs l0
  refine Ay (fun l' w'=>∃ (i4:Unit) (O':Lab),subs l' [(1,(.pointer (some ⟨y0,0,none⟩))),(3,(.slice c1 s0.length d1)),(43,(.slice p0 x0.jobs.length q0)),(44,(.int .i64 (x0.jobs.length:Int))),(45,(.int .i64 (e2:Int))),(56,(.bool h4))]∧Bs w A w' O'∧Lc 2 w' O' y0 26 [(.slice A8 x0.vars.length c9),(.slice t0 x0.init.length u0),(.slice v0 x0.goal.length w0),(.slice p0 x0.jobs.length q0)]∧Vb w' (Fr 0 w' O') (.slice A8 x0.vars.length c9) x0.vars∧Vb w' (Fr 0 w' O') (.slice t0 x0.init.length u0) x0.init∧Vb w' (Fr 0 w' O') (.slice v0 x0.goal.length w0) x0.goal∧Vb w' (Fr 0 w' O') (.slice p0 x0.jobs.length q0) x0.jobs∧Vb w' (Fr 0 w' O') (.slice c1 s0.length d1) s0) ?_ ?_
  ·
   refine Aa (Ax rfl (At (hc:=Blk.cell (i:=1) (f1.1) rfl) rfl ?_))
   refine Dm rfl rfl (fun r1=>?_) fun r1=>?_
   ·
    replace i0:=ip i0 r1
    refine Ak rfl (Al rfl rfl (Al rfl rfl (Al rfl rfl (Bn rfl rfl (o_z ?_)))))
    obtain rfl:=sm i0
    exact ⟨(),_,⟨rfl,rfl,rfl,rfl,rfl,rfl,trivial⟩,(hB.st a0).st b0,(d0.st a0).st b0,(h7.st a0).st b0,(f0.st a0).st b0,(g0.st a0).st b0,(c0.st a0).st b0,(j0.st a0).st b0⟩
   replace i0:=im i0 r1
   refine Ak rfl (An rfl rfl (Ax rfl (An rfl rfl (At (hc:=Blk.cell (i:=1) (f1.1) rfl) rfl ?_))))
   refine An rfl rfl (BW rfl rfl (fun s1=>?_) fun s1=>?_)
   ·
    replace i0:=ip i0 s1
    refine Bc rfl rfl (o_z ?_)
    obtain rfl:=sm i0
    exact ⟨(),_,⟨rfl,rfl,rfl,rfl,rfl,rfl,trivial⟩,(hB.st a0).st b0,(d0.st a0).st b0,(h7.st a0).st b0,(f0.st a0).st b0,(g0.st a0).st b0,(c0.st a0).st b0,(j0.st a0).st b0⟩
   replace i0:=im i0 s1
   refine Bc rfl rfl (o_z ?_)
   obtain rfl:=sm i0
   exact ⟨(),_,⟨rfl,rfl,rfl,rfl,rfl,rfl,trivial⟩,(hB.st a0).st b0,(d0.st a0).st b0,(h7.st a0).st b0,(f0.st a0).st b0,(g0.st a0).st b0,(c0.st a0).st b0,(j0.st a0).st b0⟩
  replace hB:=(hB.st a0).st b0
  replace h7:=(h7.st a0).st b0
  replace f0:=(f0.st a0).st b0
  replace g0:=(g0.st a0).st b0
  replace c0:=(c0.st a0).st b0
  replace d0:=(d0.st a0).st b0
  replace j0:=(j0.st a0).st b0
  rintro c7 d7 ⟨i4,e7,i2,hB,d0,h7,f0,g0,c0,j0⟩
  refine AH _ i2 ?_
  refine Cd rfl (fun t1=>?_) (fun t1=>?_)
  ·
   replace l0:=ip l0 t1
   refine Ab (Aa (Gd rfl ?_))
   refine Am rfl (o_z ?_)
   refine AF ?_
   obtain rfl:=sm l0
   obtain rfl:=k1 _ rfl
   obtain rfl:=sm (BY hm)
   exact ret1v rfl (AA rfl) ⟨hB.ext,(vErr)⟩
  replace l0:=im' l0 t1
  refine AO ?_
  obtain rfl:=sm l0
  exact show Exists _ from ⟨_,(),rfl,⟨rfl,rfl,rfl,rfl,rfl,trivial⟩,_,hB,d0,h7,f0,g0,c0,j0⟩
 rintro f7 g7 ⟨i7,j7,rfl,j2,j4,hB,d0,h7,f0,g0,c0,j0⟩
 replace hm:=AR hm
 refine AH _ j2 ?_
 refine Ab (Ab ?_)
 obtain ⟨k4,e0,hm⟩:=bs hm
 refine Ay (fun l' w'=>∃ (l4:Unit) (O':Lab),subs l' [(1,(.pointer (some ⟨y0,0,none⟩))),(69,(.bool k4))]∧Bs w A w' O'∧Lc 2 w' O' y0 26 [(.slice A8 x0.vars.length c9),(.slice t0 x0.init.length u0),(.slice v0 x0.goal.length w0),(.slice p0 x0.jobs.length q0)]∧Vb w' (Fr 0 w' O') (.slice A8 x0.vars.length c9) x0.vars∧Vb w' (Fr 0 w' O') (.slice t0 x0.init.length u0) x0.init∧Vb w' (Fr 0 w' O') (.slice v0 x0.goal.length w0) x0.goal∧Vb w' (Fr 0 w' O') (.slice p0 x0.jobs.length q0) x0.jobs) ?_ ?_
 ·
  refine Aa (Ax rfl (At (hc:=Blk.cell (i:=0) (d0.1) rfl) rfl ?_))
  refine Ax rfl (At (hc:=Blk.cell (i:=1) (d0.1) rfl) rfl ?_)
  obtain ⟨m4,n4,e0⟩:=bs e0
  refine AM (O:=j4) (MO (fun _ h=>h) (vMo h7) (vMo f0) n4) rfl fun k7 o4 k2 k0 p4=>?_
  obtain rfl:=p4.bool
  cases m4
  case false =>
   replace e0:=iF e0
   refine Dl rfl (Ak rfl (Al rfl rfl (Al rfl rfl (Al rfl rfl (Bn rfl rfl (o_z ?_))))))
   obtain rfl:=sm e0
   exact ⟨(),_,⟨rfl,rfl,trivial⟩,hB.st k0,d0.st k0,h7.st k0,f0.st k0,g0.st k0,c0.st k0⟩
  replace e0:=iT e0
  refine Dk rfl (Ak rfl (An rfl rfl (Ak rfl (An rfl rfl (Nq rfl rfl rfl (An rfl rfl ?_))))))
  obtain ⟨q4,r4,e0⟩:=bs e0
  replace h7:=h7.st k0
  replace f0:=f0.st k0
  replace g0:=g0.st k0
  replace c0:=c0.st k0
  replace d0:=d0.st k0
  replace j0:=j0.st k0
  refine AM (O:=k2) (Dp (fun _ h=>h) (vMo j0) d0.1 d0.1.lt (Rp.mono (F:=Fr 0 o4 k2) (x:=x0) ⟨_,_,_,_,rfl,h7,f0,g0,c0⟩ Fr.lt) r4) rfl fun l7 m7 n7 n0 s4=>?_
  obtain rfl:=s4.bool
  cases q4
  case false =>
   replace e0:=iF e0
   refine Bc rfl rfl (o_z ?_)
   obtain rfl:=sm e0
   exact ⟨(),_,⟨rfl,rfl,trivial⟩,(hB.st k0).st n0,d0.st n0,h7.st n0,f0.st n0,g0.st n0,c0.st n0⟩
  replace e0:=iT e0
  refine Bc rfl rfl (o_z ?_)
  obtain rfl:=sm e0
  exact ⟨(),_,⟨rfl,rfl,trivial⟩,(hB.st k0).st n0,d0.st n0,h7.st n0,f0.st n0,g0.st n0,c0.st n0⟩
 rintro o7 p7 ⟨l4,t4,l2,hB,d0,h7,f0,g0,c0⟩
 refine AH _ l2 ?_
 refine Cd rfl (fun u1=>?_) (fun u1=>?_)
 ·
  replace hm:=ip hm u1
  refine Ab (Aa (Gd rfl ?_))
  refine Am rfl (o_z ?_)
  refine AF ?_
  obtain rfl:=sm hm
  exact ret1v rfl (AA rfl) ⟨hB.ext,(vErr)⟩
 replace hm:=im' hm u1
 refine AO (Ab (Ab (Aa (Ax rfl (At (hc:=Blk.cell (i:=3) (d0.1) rfl) rfl ?_)))))
 refine AS rfl ?_
 have v1:x0.jobs.length≤9223372036854775807:=Nat.le_trans c0.len.2.1 c0.len.2.2
 have q7:inI64 (x0.jobs.length:Int):=rngNat v1
 refine Ak rfl (o_z ?_)
 obtain ⟨w1,m2,hm⟩:=bs hm
 refine Ay (aft w1 (fun (l1:Unit) (m1:Unit)=>[]) (fun l1 m1 w'=>∃ O':Lab,Bs w A w' O')) ?_ ?_
 ·
  refine AK (AY (σ:=Unit) (X:=Unit) (x0.jobs.length) m2 rfl v1 (fun (l1:Unit) (m1:Unit)=>[(72,(.slice p0 x0.jobs.length q0))]) _ (fun l1 m1 w'=>∃ O':Lab,Bs w A w' O'∧Vb w' (Fr 0 w' O') (.slice p0 x0.jobs.length q0) x0.jobs) _ () ⟨t4,hB,c0⟩ ⟨rfl,rfl,rfl,trivial⟩ (fun _ _=>⟨rfl,rfl⟩) (fun _ _=>trivial) (fun _ _ _ ⟨O',hB,c0⟩=>⟨O',hB⟩) ⟨rfl,rfl,rfl⟩ ⟨rfl,rfl⟩ ?_)
  rintro u4 b1 l1 m1 r7 x5 p1 ⟨w4,hB,c0⟩ m0 n1 v2
  have rk196:inI64 (u4:Int):=rngK p1 v1
  refine Ab (Aa ?_)
  obtain ⟨s7,t7,y5,n2,o2,p2,u7,v7,w7,x7,y7,rfl,x4,y4,z4,a5,b5,c5,z7⟩:=c0.elem' p1
  obtain ⟨d5,e5,rfl⟩:=x4.form
  obtain ⟨f5,g5,rfl⟩:=y4.form
  obtain ⟨h5,i5,rfl⟩:=z4.form
  obtain ⟨j5,k5,rfl⟩:=a5.form
  obtain ⟨l5,m5,rfl⟩:=b5.form
  refine Bi (hA:=n2) (hj:=rfl) (hlt:=o2) rfl rfl ?_
  refine Bd (hl:=rfl) (hc:=p2) rfl ?_
  refine AU 4 w4 fun n5 a8 q2 x1 g1=>?_
  refine Az g1 rfl rfl rfl (AJ) (allOne) fun o5 y1 g1=>?_
  replace g1:Lc 4 o5 q2 n5 66 [(.string b1.name),(.int .i64 b1.dur),(.slice d5 b1.start.length e5),(.slice f5 b1.over.length g5),(.slice h5 b1.fin.length i5),(.slice j5 b1.atStart.length k5),(.slice l5 b1.atEnd.length m5)]:=g1
  refine o_z ?_
  refine Ab (Aa (Ax rfl (At (hc:=Blk.cell (i:=0) (g1.1) rfl) rfl ?_)))
  obtain ⟨p5,q5,m0⟩:=bs m0
  refine AM (O:=q2) (Lk (fun _ h=>h) c5 q5) rfl fun b8 c8 d8 z1 r5=>?_
  obtain rfl:=r5.bool
  cases p5
  case false =>
   replace m0:=iF m0
   refine Dl rfl (o_z ?_)
   refine Ah rfl (Ab (Aa (Gd rfl ?_)))
   refine Am rfl (o_z ?_)
   refine AF ?_
   obtain rfl:=sm m0
   obtain rfl:=n1 _ rfl
   obtain rfl:=sm (BY hm)
   replace hB:=((hB.st x1).st y1).st z1
   exact ret1v rfl (AA rfl) ⟨hB.ext,(vErr)⟩
  replace m0:=iT m0
  refine Dk rfl (o_z ?_)
  refine Ae rfl (AO ?_)
  obtain rfl:=sm m0
  exact show Exists _ from ⟨_,(),rfl,⟨rfl,rfl,rfl,trivial⟩,_,((hB.st x1).st y1).st z1,((c0.st x1).st y1).st z1⟩
 rintro e8 f8 ⟨g8,h8,rfl,r2,i8,hB⟩
 replace hm:=AR hm
 refine AH _ r2 ?_
 refine Ab (Aa (Am rfl (o_z ?_)))
 refine AF ?_
 obtain rfl:=sm hm
 exact ret1v rfl (AA rfl) ⟨hB.ext,(vErr (h:=(iI64 0)))⟩
noncomputable def DZ (x0:Tpl) (x1:List Lch):Option Err :=
  bnd (CN x0) fun q27=>if q27.n≠0 then (some (⟨q27.n⟩:Err)) else (if 4096 < (x1.length:Int) then (some (⟨5⟩:Err)) else (bnd (rng (ρ:=Err) (fun (k45:Nat) (a46:Lch) (s43:Unit)=>bnd (if a46.job < 0 then (some true) else (if (x0.jobs.length:Int)≤a46.job then (some true) else (if a46.tm < 0 then (some true) else (if 1048576 < a46.tm then (some true) else (some false)))):Option Bool) fun y72=>if y72=true then (some (.ret (⟨1⟩:Err))) else (some (.next ()))) x1 0 ()) fun res41=>fin res41 fun (s91:Unit)=>some (⟨0⟩:Err)))
theorem Kz {w:World} {A:Nat→Prop} (hA:∀ k,A k→k < w.heap.size) {vx0:Value} {x0:Tpl} (c1:Vb w A vx0 x0) {vx1:Value} {x1:List Lch} (d0:Vb w A vx1 x1) {r:Err} (hm:DZ x0 x1=some r) :
    Fn prog 70 [vx0,vx1] w fun v w'=>Ext w w'∧Vb w' (upA A w w') v r:=by
 obtain ⟨O,hB,t1⟩:=enter hA
 replace c1:=c1.mono t1
 obtain ⟨m2,rfl,v4,v5,v6,v7,rfl,h8,g0,h0,e0⟩:=c1
 obtain ⟨A9,n0,rfl⟩:=h8.form
 obtain ⟨o0,p0,rfl⟩:=g0.form
 obtain ⟨q0,r0,rfl⟩:=h0.form
 obtain ⟨s0,t0,rfl⟩:=e0.form
 replace d0:=d0.mono t1
 obtain ⟨y0,z0,rfl⟩:=d0.form
 refine AL func70 rfl ntmps70 ?_
 unfold DZ at hm
 refine Ab (Aa (BL 2 O rfl fun u0 u1 d1 k0 f0=>?_))
 replace f0:Lc 2 u1 d1 u0 26 [(.slice A9 x0.vars.length n0),(.slice o0 x0.init.length p0),(.slice q0 x0.goal.length r0),(.slice s0 x0.jobs.length t0)]:=f0
 refine Am rfl (o_z ?_)
 refine Ab (Ab (Aa (Bd (hl:=rfl) (hc:=(f0.1).cellsAt) rfl ?_)))
 obtain ⟨n2,y1,hm⟩:=bs hm
 replace h8:=h8.st k0
 replace g0:=g0.st k0
 replace h0:=h0.st k0
 replace e0:=e0.st k0
 refine AM (O:=d1) (Ie (fun _ h=>h) (Vb.mono (F:=Fr 0 u1 d1) (Vb.ofAgg (cs:=[(.slice A9 x0.vars.length n0),(.slice o0 x0.init.length p0),(.slice q0 x0.goal.length r0),(.slice s0 x0.jobs.length t0)]) (x:=x0) rfl ⟨_,_,_,_,rfl,h8,g0,h0,e0⟩) Fr.lt) y1) rfl fun o2 p2 z1 j0 a2=>?_
 obtain ⟨rfl,b2⟩:=a2.err
 refine Am rfl (o_z ?_)
 refine Ab (Aa (Ak rfl (Jj rfl (fun e1=>?_) fun e1=>?_)))
 ·
  replace hm:=ip hm e1
  refine o_z ?_
  refine Ah rfl (Ab (Aa (Ak rfl (Am rfl (o_z ?_)))))
  refine AF ?_
  obtain rfl:=sm hm
  replace hB:=(hB.st k0).st j0
  exact ret1v rfl (AA rfl) ⟨hB.ext,(vErr (h:=b2))⟩
 replace hm:=im hm e1
 refine o_z ?_
 refine Ae rfl (AO (Ab (Ab (Aa (Ak rfl (AS rfl ?_))))))
 replace d0:=(d0.st k0).st j0
 have c2:x1.length≤9223372036854775807:=Nat.le_trans d0.len.2.1 d0.len.2.2
 have q2:inI64 (x1.length:Int):=rngNat c2
 refine BW rfl rfl (fun f1=>?_) fun f1=>?_
 ·
  replace hm:=ip hm f1
  refine o_z ?_
  refine Ah rfl (Ab (Aa (Gd rfl ?_)))
  refine Am rfl (o_z ?_)
  refine AF ?_
  obtain rfl:=sm hm
  replace hB:=(hB.st k0).st j0
  exact ret1v rfl (AA rfl) ⟨hB.ext,(vErr)⟩
 replace hm:=im hm f1
 refine o_z ?_
 refine Ae rfl (AO (Ab (Ab (Aa (Ak rfl (AS rfl ?_))))))
 have g1:x1.length≤9223372036854775807:=Nat.le_trans d0.len.2.1 d0.len.2.2
 have r2:inI64 (x1.length:Int):=rngNat g1
 refine Ak rfl (o_z ?_)
 obtain ⟨v0,h1,hm⟩:=bs hm
 refine Ay (aft v0 (fun (a1:Unit) (b1:Unit)=>[]) (fun a1 b1 w'=>∃ O':Lab,Bs w A w' O')) ?_ ?_
 ·
  refine AK ?_
  replace hB:=(hB.st k0).st j0
  replace h8:=h8.st j0
  replace g0:=g0.st j0
  replace h0:=h0.st j0
  replace e0:=e0.st j0
  replace f0:=f0.st j0
  refine AY (σ:=Unit) (X:=Unit) (x1.length) h1 rfl g1 (fun (a1:Unit) (b1:Unit)=>[(2,(.pointer (some ⟨u0,0,none⟩))),(17,(.slice y0 x1.length z0))]) _ (fun a1 b1 w'=>∃ O':Lab,Bs w A w' O'∧Lc 2 w' O' u0 26 [(.slice A9 x0.vars.length n0),(.slice o0 x0.init.length p0),(.slice q0 x0.goal.length r0),(.slice s0 x0.jobs.length t0)]∧Vb w' (Fr 0 w' O') (.slice A9 x0.vars.length n0) x0.vars∧Vb w' (Fr 0 w' O') (.slice o0 x0.init.length p0) x0.init∧Vb w' (Fr 0 w' O') (.slice q0 x0.goal.length r0) x0.goal∧Vb w' (Fr 0 w' O') (.slice s0 x0.jobs.length t0) x0.jobs∧Vb w' (Fr 0 w' O') (.slice y0 x1.length z0) x1) _ () ⟨z1,hB,f0,h8,g0,h0,e0,d0⟩ ⟨rfl,rfl,rfl,rfl,trivial⟩ (fun _ _=>⟨rfl,rfl⟩) (fun _ _=>trivial) (fun _ _ _ ⟨O',hB,f0,h8,g0,h0,e0,d0⟩=>⟨O',hB⟩) ⟨rfl,rfl,rfl⟩ ⟨rfl,rfl⟩ ?_
  rintro v1 w1 a1 b1 s2 d2 w0 ⟨e2,hB,f0,h8,g0,h0,e0,d0⟩ i0 m0 i1
  have rk45:inI64 (v1:Int):=rngK w0 g1
  refine Ab (Aa ?_)
  obtain ⟨t2,u2,f2,j1,k1,l1,rfl,v2,w2⟩:=d0.elem' w0
  refine Bi (hA:=j1) (hj:=rfl) (hlt:=k1) rfl rfl ?_
  refine Bd (hl:=rfl) (hc:=l1) rfl ?_
  refine AU 3 e2 fun g2 x2 h2 b0 l0=>?_
  refine Az l0 rfl rfl rfl (AJ) (allOne) fun i2 c0 l0=>?_
  replace l0:Lc 3 i2 h2 g2 52 [(.int .i64 w1.tm),(.int .i64 w1.job)]:=l0
  refine o_z ?_
  refine Ab ?_
  obtain ⟨j2,a0,i0⟩:=bs i0
  refine Ay (fun l' w'=>∃ (k2:Unit) (O':Lab),subs l' [(2,(.pointer (some ⟨u0,0,none⟩))),(17,(.slice y0 x1.length z0)),(18,(.int .i64 (x1.length:Int))),(19,(.int .i64 (v1:Int))),(43,(.bool j2))]∧Bs w A w' O'∧Lc 2 w' O' u0 26 [(.slice A9 x0.vars.length n0),(.slice o0 x0.init.length p0),(.slice q0 x0.goal.length r0),(.slice s0 x0.jobs.length t0)]∧Vb w' (Fr 0 w' O') (.slice A9 x0.vars.length n0) x0.vars∧Vb w' (Fr 0 w' O') (.slice o0 x0.init.length p0) x0.init∧Vb w' (Fr 0 w' O') (.slice q0 x0.goal.length r0) x0.goal∧Vb w' (Fr 0 w' O') (.slice s0 x0.jobs.length t0) x0.jobs∧Vb w' (Fr 0 w' O') (.slice y0 x1.length z0) x1) ?_ ?_
  ·
   refine Aa (Ax rfl (At (hc:=Blk.cell (i:=1) (l0.1) rfl) rfl ?_))
   refine Dm rfl rfl (fun m1=>?_) fun m1=>?_
   ·
    replace a0:=ip a0 m1
    refine Ak rfl (Al rfl rfl (Al rfl rfl (Al rfl rfl (Al rfl rfl (Al rfl rfl (Al rfl rfl (Bn rfl rfl (Ak rfl (Al rfl rfl (Al rfl rfl (Al rfl rfl (Bn rfl rfl (Ak rfl (Al rfl rfl ?_))))))))))))))
    refine Al rfl rfl (Al rfl rfl (Bn rfl rfl (o_z ?_)))
    obtain rfl:=sm a0
    exact ⟨(),_,⟨rfl,rfl,rfl,rfl,rfl,trivial⟩,(hB.st b0).st c0,(f0.st b0).st c0,(h8.st b0).st c0,(g0.st b0).st c0,(h0.st b0).st c0,(e0.st b0).st c0,(d0.st b0).st c0⟩
   replace a0:=im a0 m1
   refine Ak rfl (An rfl rfl (Ax rfl (An rfl rfl (At (hc:=Blk.cell (i:=1) (l0.1) rfl) rfl ?_))))
   refine An rfl rfl (Ax rfl (An rfl rfl ?_))
   replace f0:=(f0.st b0).st c0
   refine At (hc:=Blk.cell (i:=3) (f0.1) rfl) rfl ?_
   refine An rfl rfl (AS rfl ?_)
   replace e0:=(e0.st b0).st c0
   have l2:x0.jobs.length≤9223372036854775807:=Nat.le_trans e0.len.2.1 e0.len.2.2
   have y2:inI64 (x0.jobs.length:Int):=rngNat l2
   refine An rfl rfl (ET rfl rfl (fun n1=>?_) fun n1=>?_)
   ·
    replace a0:=ip a0 n1
    refine Bc rfl rfl (Ak rfl (Al rfl rfl (Al rfl rfl (Al rfl rfl (Bn rfl rfl (Ak rfl (Al rfl rfl (Al rfl rfl (Al rfl rfl (Bn rfl rfl (o_z ?_)))))))))))
    obtain rfl:=sm a0
    exact ⟨(),_,⟨rfl,rfl,rfl,rfl,rfl,trivial⟩,(hB.st b0).st c0,f0,(h8.st b0).st c0,(g0.st b0).st c0,(h0.st b0).st c0,e0,(d0.st b0).st c0⟩
   replace a0:=im a0 n1
   refine Bc rfl rfl (Ak rfl (An rfl rfl (Ax rfl (An rfl rfl (At (hc:=Blk.cell (i:=0) (l0.1) rfl) rfl ?_)))))
   refine An rfl rfl (Dm rfl rfl (fun o1=>?_) fun o1=>?_)
   ·
    replace a0:=ip a0 o1
    refine Bc rfl rfl (Ak rfl (Al rfl rfl (Al rfl rfl (Al rfl rfl (Bn rfl rfl (o_z ?_))))))
    obtain rfl:=sm a0
    exact ⟨(),_,⟨rfl,rfl,rfl,rfl,rfl,trivial⟩,(hB.st b0).st c0,f0,(h8.st b0).st c0,(g0.st b0).st c0,(h0.st b0).st c0,e0,(d0.st b0).st c0⟩
   replace a0:=im a0 o1
   refine Bc rfl rfl (Ak rfl (An rfl rfl (Ax rfl (An rfl rfl (At (hc:=Blk.cell (i:=0) (l0.1) rfl) rfl ?_)))))
   refine An rfl rfl (BW rfl rfl (fun p1=>?_) fun p1=>?_)
   ·
    replace a0:=ip a0 p1
    refine Bc rfl rfl (o_z ?_)
    obtain rfl:=sm a0
    exact ⟨(),_,⟨rfl,rfl,rfl,rfl,rfl,trivial⟩,(hB.st b0).st c0,f0,(h8.st b0).st c0,(g0.st b0).st c0,(h0.st b0).st c0,e0,(d0.st b0).st c0⟩
   replace a0:=im a0 p1
   refine Bc rfl rfl (o_z ?_)
   obtain rfl:=sm a0
   exact ⟨(),_,⟨rfl,rfl,rfl,rfl,rfl,trivial⟩,(hB.st b0).st c0,f0,(h8.st b0).st c0,(g0.st b0).st c0,(h0.st b0).st c0,e0,(d0.st b0).st c0⟩
  replace hB:=(hB.st b0).st c0
  replace d0:=(d0.st b0).st c0
  replace h8:=(h8.st b0).st c0
  replace g0:=(g0.st b0).st c0
  replace h0:=(h0.st b0).st c0
  replace e0:=(e0.st b0).st c0
  replace f0:=(f0.st b0).st c0
  rintro z2 a3 ⟨k2,b3,q1,hB,f0,h8,g0,h0,e0,d0⟩
  refine AH _ q1 ?_
  refine Cd rfl (fun r1=>?_) (fun r1=>?_)
  ·
   replace i0:=ip i0 r1
   refine Ab (Aa (Gd rfl ?_))
   refine Am rfl (o_z ?_)
   refine AF ?_
   obtain rfl:=sm i0
   obtain rfl:=m0 _ rfl
   obtain rfl:=sm (BY hm)
   exact ret1v rfl (AA rfl) ⟨hB.ext,(vErr)⟩
  replace i0:=im' i0 r1
  refine AO ?_
  obtain rfl:=sm i0
  exact show Exists _ from ⟨_,(),rfl,⟨rfl,rfl,rfl,rfl,trivial⟩,_,hB,f0,h8,g0,h0,e0,d0⟩
 replace hB:=(hB.st k0).st j0
 rintro c3 d3 ⟨e3,f3,rfl,s1,g3,hB⟩
 replace hm:=AR hm
 refine AH _ s1 ?_
 refine Ab (Aa (Am rfl (o_z ?_)))
 refine AF ?_
 obtain rfl:=sm hm
 exact ret1v rfl (AA rfl) ⟨hB.ext,(vErr (h:=(iI64 0)))⟩
noncomputable def Da (x0:Tpl) (x1:Lch):Option Int :=
  bnd (atI x0.jobs x1.job) fun a33=>bnd (chkI (x1.tm + a33.dur)) fun n66=>some n66
theorem Db {w:World} {A:Nat→Prop} (hA:∀ k,A k→k < w.heap.size) {vx0:Value} {x0:Tpl} (d0:Vb w A vx0 x0) {vx1:Value} {x1:Lch} (e0:Vb w A vx1 x1) {r:Int} (hm:Da x0 x1=some r) :
    Fn prog 116 [vx0,vx1] w fun v w'=>Ext w w'∧Vb w' (upA A w w') v r:=by
 obtain ⟨O,hB,j0⟩:=enter hA
 replace d0:=d0.mono j0
 obtain ⟨n1,rfl,v4,v5,v6,v7,rfl,h8,o0,p0,b0⟩:=d0
 obtain ⟨A9,q0,rfl⟩:=h8.form
 obtain ⟨r0,s0,rfl⟩:=o0.form
 obtain ⟨t0,u0,rfl⟩:=p0.form
 obtain ⟨v0,w0,rfl⟩:=b0.form
 replace e0:=e0.mono j0
 obtain ⟨y0,rfl,rfl,o1,p1⟩:=e0
 refine AL func116 rfl ntmps116 ?_
 unfold Da at hm
 refine Ab (Aa (BL 2 O rfl fun z0 a1 k0 l0 a0=>?_))
 replace a0:Lc 2 a1 k0 z0 26 [(.slice A9 x0.vars.length q0),(.slice r0 x0.init.length s0),(.slice t0 x0.goal.length u0),(.slice v0 x0.jobs.length w0)]:=a0
 refine BL 3 k0 rfl fun b1 m0 c1 f0 c0=>?_
 replace c0:Lc 3 m0 c1 b1 52 [(.int .i64 x1.tm),(.int .i64 x1.job)]:=c0
 refine Am rfl (o_z ?_)
 refine Ab (FU (·=m0) [(0,true),(1,true),(2,true),(3,true),(4,true),(5,true),(6,true),(7,true),(8,true),(9,true),(10,true)] rfl rfl ?_)
 refine AT rfl rfl (FQ (hc:=Blk.cell (i:=0) (c0.1) rfl) rfl rfl ?_)
 refine AT rfl rfl ?_
 replace a0:=a0.st f0
 refine FQ (hc:=Blk.cell (i:=3) (a0.1) rfl) rfl rfl ?_
 refine AT rfl rfl (FQ (hc:=Blk.cell (i:=1) (c0.1) rfl) rfl rfl ?_)
 obtain ⟨q1,d1,hm⟩:=bs hm
 obtain ⟨e1,f1⟩:=EI d1
 replace b0:=(b0.st l0).st f0
 obtain ⟨r1,s1,g1,g0,h0,i0,t1,u1,v1,w1,y1,rfl,h1,i1,j1,k1,l1,z1,a2⟩:=b0.elem' f1
 obtain ⟨b2,c2,rfl⟩:=h1.form
 obtain ⟨d2,e2,rfl⟩:=i1.form
 obtain ⟨f2,g2,rfl⟩:=j1.form
 obtain ⟨h2,i2,rfl⟩:=k1.form
 obtain ⟨j2,k2,rfl⟩:=l1.form
 refine CK (hA:=g0) (hj:=(Int.toNat_of_nonneg e1).symm) (hlt:=h0) rfl rfl rfl ?_
 refine AT rfl rfl (FQ (hc:=cat1 i0) rfl rfl ?_)
 obtain ⟨l2,n0,hm⟩:=bs hm
 have m1:=(Bq n0)
 refine Hp (he:=n0) rfl rfl rfl ?_
 refine Nr rfl rfl rfl (h_z ?_)
 refine AF ?_
 obtain rfl:=sm hm
 replace hB:=(hB.st l0).st f0
 exact ret1v rfl (AA rfl) ⟨hB.ext,(vInt m1)⟩
noncomputable def DA (x0:Tpl) (x1:List Lch) (x2:Int):Option Bool :=
  bnd (rng (ρ:=Bool) (fun (k34:Nat) (a35:Lch) (s32:Unit)=>if a35.tm≠x2 then (some (.next ())) else (bnd (rng (ρ:=Ctl Unit Bool) (fun (k68:Nat) (a69:Lch) (s66:Unit)=>bnd (if (k34:Int)≠(k68:Int) then (if a35.job=a69.job then (if a69.tm≤x2 then (bnd (Da x0 a69) fun q102=>if x2≤q102 then (some true) else (some false)) else (some false)) else (some false)) else (some false):Option Bool) fun y95=>if y95=true then (some (.ret (.ret true))) else (some (.next ()))) x1 0 ()) fun res64=>fin res64 fun (s120:Unit)=>some (.next ()))) x1 0 ()) fun res30=>fin res30 fun (s126:Unit)=>some false
theorem JF {w:World} {A:Nat→Prop} (hA:∀ k,A k→k < w.heap.size) {vx0:Value} {x0:Tpl} (z1:Vb w A vx0 x0) {vx1:Value} {x1:List Lch} (e0:Vb w A vx1 x1) {x2:Int} (rx2:inI64 x2) {r:Bool} (hm:DA x0 x1 x2=some r) :
    Fn prog 118 [vx0,vx1,(.int .i64 x2)] w fun v w'=>Ext w w'∧Vb w' (upA A w w') v r:=by
 obtain ⟨O,hB,r2⟩:=enter hA
 replace z1:=z1.mono r2
 obtain ⟨b4,rfl,v5,v6,v7,v8,rfl,h9,f0,g0,h0⟩:=z1
 obtain ⟨r0,s0,rfl⟩:=h9.form
 obtain ⟨t0,u0,rfl⟩:=f0.form
 obtain ⟨v0,w0,rfl⟩:=g0.form
 obtain ⟨y0,z0,rfl⟩:=h0.form
 replace e0:=e0.mono r2
 obtain ⟨p0,q0,rfl⟩:=e0.form
 refine AL func118 rfl ntmps118 ?_
 unfold DA at hm
 refine Ab (Aa (BL 2 O rfl fun a1 v2 s2 b1 i0=>?_))
 replace i0:Lc 2 v2 s2 a1 26 [(.slice r0 x0.vars.length s0),(.slice t0 x0.init.length u0),(.slice v0 x0.goal.length w0),(.slice y0 x0.jobs.length z0)]:=i0
 refine Am rfl (o_z ?_)
 refine Ab (Ab (Aa (Ak rfl (AS rfl ?_))))
 replace e0:=e0.st b1
 have a2:x1.length≤9223372036854775807:=Nat.le_trans e0.len.2.1 e0.len.2.2
 have c4:inI64 (x1.length:Int):=rngNat a2
 refine Ak rfl (o_z ?_)
 obtain ⟨l1,b2,hm⟩:=bs hm
 refine Ay (aft l1 (fun (t1:Unit) (u1:Unit)=>[]) (fun t1 u1 w'=>∃ O':Lab,Bs w A w' O')) ?_ ?_
 ·
  refine AK ?_
  replace hB:=hB.st b1
  replace h9:=h9.st b1
  replace f0:=f0.st b1
  replace g0:=g0.st b1
  replace h0:=h0.st b1
  refine AY (σ:=Unit) (X:=Unit) (x1.length) b2 rfl a2 (fun (t1:Unit) (u1:Unit)=>[(1,(.slice p0 x1.length q0)),(2,(.int .i64 x2)),(3,(.pointer (some ⟨a1,0,none⟩))),(11,(.slice p0 x1.length q0))]) _ (fun t1 u1 w'=>∃ O':Lab,Bs w A w' O'∧Vb w' (Fr 0 w' O') (.slice p0 x1.length q0) x1∧Lc 2 w' O' a1 26 [(.slice r0 x0.vars.length s0),(.slice t0 x0.init.length u0),(.slice v0 x0.goal.length w0),(.slice y0 x0.jobs.length z0)]∧Vb w' (Fr 0 w' O') (.slice r0 x0.vars.length s0) x0.vars∧Vb w' (Fr 0 w' O') (.slice t0 x0.init.length u0) x0.init∧Vb w' (Fr 0 w' O') (.slice v0 x0.goal.length w0) x0.goal∧Vb w' (Fr 0 w' O') (.slice y0 x0.jobs.length z0) x0.jobs) _ () ⟨s2,hB,e0,i0,h9,f0,g0,h0⟩ ⟨rfl,rfl,rfl,rfl,rfl,rfl,trivial⟩ (fun _ _=>⟨rfl,rfl⟩) (fun _ _=>trivial) (fun _ _ _ ⟨O',hB,e0,i0,h9,f0,g0,h0⟩=>⟨O',hB⟩) ⟨rfl,rfl,rfl⟩ ⟨rfl,rfl⟩ ?_
  rintro j1 k1 t1 u1 d4 w2 m1 ⟨y2,hB,e0,i0,h9,f0,g0,h0⟩ j0 c1 c2
  have rk34:inI64 (j1:Int):=rngK m1 a2
  refine Ab (Aa (Ak rfl ?_))
  obtain ⟨e4,f4,z2,d2,e2,f2,rfl,g4,h4⟩:=e0.elem' m1
  refine Bi (hA:=d2) (hj:=rfl) (hlt:=e2) rfl rfl ?_
  refine Bd (hl:=rfl) (hc:=f2) rfl ?_
  refine AU 3 y2 fun n1 i4 t2 k0 l0=>?_
  refine Am rfl (Az l0 rfl rfl rfl (AJ) (allOne) fun a3 m0 l0=>?_)
  replace l0:Lc 3 a3 t2 n1 52 [(.int .i64 k1.tm),(.int .i64 k1.job)]:=l0
  refine o_z ?_
  refine Ab (Ab (Aa (Ax rfl (At (hc:=Blk.cell (i:=0) (l0.1) rfl) rfl ?_))))
  refine Ak rfl (HL rfl rfl (fun g2=>?_) fun g2=>?_)
  ·
   replace j0:=ip j0 g2
   refine o_z ?_
   refine Ah rfl (HX ?_)
   obtain rfl:=sm j0
   exact show Exists _ from ⟨_,(),rfl,⟨rfl,rfl,rfl,rfl,rfl,rfl,trivial⟩,_,(hB.st k0).st m0,(e0.st k0).st m0,(i0.st k0).st m0,(h9.st k0).st m0,(f0.st k0).st m0,(g0.st k0).st m0,(h0.st k0).st m0⟩
  replace j0:=im j0 g2
  refine o_z ?_
  refine Ae rfl (AO (Ab (Aa (Ak rfl (AS rfl ?_)))))
  replace e0:=(e0.st k0).st m0
  have h2:x1.length≤9223372036854775807:=Nat.le_trans e0.len.2.1 e0.len.2.2
  have j4:inI64 (x1.length:Int):=rngNat h2
  refine Ak rfl (o_z ?_)
  obtain ⟨o1,i2,j0⟩:=bs j0
  refine Ay (aft o1 (fun (v1:Unit) (w1:Unit)=>[(1,(.slice p0 x1.length q0)),(2,(.int .i64 x2)),(3,(.pointer (some ⟨a1,0,none⟩))),(11,(.slice p0 x1.length q0)),(12,(.int .i64 (x1.length:Int))),(13,(.int .i64 (j1:Int)))]) (fun v1 w1 w'=>∃ O':Lab,Bs w A w' O'∧Vb w' (Fr 0 w' O') (.slice p0 x1.length q0) x1∧Lc 2 w' O' a1 26 [(.slice r0 x0.vars.length s0),(.slice t0 x0.init.length u0),(.slice v0 x0.goal.length w0),(.slice y0 x0.jobs.length z0)]∧Vb w' (Fr 0 w' O') (.slice r0 x0.vars.length s0) x0.vars∧Vb w' (Fr 0 w' O') (.slice t0 x0.init.length u0) x0.init∧Vb w' (Fr 0 w' O') (.slice v0 x0.goal.length w0) x0.goal∧Vb w' (Fr 0 w' O') (.slice y0 x0.jobs.length z0) x0.jobs)) ?_ ?_
  ·
   refine AK ?_
   replace hB:=(hB.st k0).st m0
   replace h9:=(h9.st k0).st m0
   replace f0:=(f0.st k0).st m0
   replace g0:=(g0.st k0).st m0
   replace h0:=(h0.st k0).st m0
   replace i0:=(i0.st k0).st m0
   refine AY (σ:=Unit) (X:=Unit) (x1.length) i2 rfl h2 (fun (v1:Unit) (w1:Unit)=>[(1,(.slice p0 x1.length q0)),(2,(.int .i64 x2)),(3,(.pointer (some ⟨a1,0,none⟩))),(7,(.int .i64 (j1:Int))),(8,(.pointer (some ⟨n1,0,none⟩))),(11,(.slice p0 x1.length q0)),(12,(.int .i64 (x1.length:Int))),(13,(.int .i64 (j1:Int))),(22,(.slice p0 x1.length q0))]) _ (fun v1 w1 w'=>∃ O':Lab,Bs w A w' O'∧Vb w' (Fr 0 w' O') (.slice p0 x1.length q0) x1∧Lc 2 w' O' a1 26 [(.slice r0 x0.vars.length s0),(.slice t0 x0.init.length u0),(.slice v0 x0.goal.length w0),(.slice y0 x0.jobs.length z0)]∧Vb w' (Fr 0 w' O') (.slice r0 x0.vars.length s0) x0.vars∧Vb w' (Fr 0 w' O') (.slice t0 x0.init.length u0) x0.init∧Vb w' (Fr 0 w' O') (.slice v0 x0.goal.length w0) x0.goal∧Vb w' (Fr 0 w' O') (.slice y0 x0.jobs.length z0) x0.jobs∧Lc 3 w' O' n1 52 [(.int .i64 k1.tm),(.int .i64 k1.job)]) _ () ⟨t2,hB,e0,i0,h9,f0,g0,h0,l0⟩ ⟨rfl,rfl,rfl,rfl,rfl,rfl,rfl,rfl,rfl,rfl,rfl,trivial⟩ (fun _ _=>⟨rfl,rfl⟩) (fun _ _=>⟨rfl,rfl,rfl,rfl,rfl,rfl,trivial⟩) (fun _ _ _ ⟨O',hB,e0,i0,h9,f0,g0,h0,l0⟩=>⟨O',hB,e0,i0,h9,f0,g0,h0⟩) ⟨rfl,rfl,rfl⟩ ⟨rfl,rfl⟩ ?_
   rintro u2 p1 v1 w1 k4 b3 q1 ⟨c3,hB,e0,i0,h9,f0,g0,h0,l0⟩ o0 d1 j2
   have rk68:inI64 (u2:Int):=rngK q1 h2
   refine Ab (Aa (Ak rfl ?_))
   obtain ⟨l4,m4,d3,k2,l2,m2,rfl,e3,f3⟩:=e0.elem' q1
   refine Bi (hA:=k2) (hj:=rfl) (hlt:=l2) rfl rfl ?_
   refine Bd (hl:=rfl) (hc:=m2) rfl ?_
   refine AU 4 c3 fun g3 n4 y1 b0 e1=>?_
   refine Am rfl (Az e1 rfl rfl rfl (AJ) (allOne) fun n2 c0 e1=>?_)
   replace e1:Lc 4 n2 y1 g3 52 [(.int .i64 p1.tm),(.int .i64 p1.job)]:=e1
   refine o_z ?_
   refine Ab ?_
   obtain ⟨h3,a0,o0⟩:=bs o0
   refine Ay (fun l' w'=>∃ (i3:Unit) (O':Lab),subs l' [(1,(.slice p0 x1.length q0)),(2,(.int .i64 x2)),(3,(.pointer (some ⟨a1,0,none⟩))),(7,(.int .i64 (j1:Int))),(8,(.pointer (some ⟨n1,0,none⟩))),(11,(.slice p0 x1.length q0)),(12,(.int .i64 (x1.length:Int))),(13,(.int .i64 (j1:Int))),(22,(.slice p0 x1.length q0)),(23,(.int .i64 (x1.length:Int))),(24,(.int .i64 (u2:Int))),(51,(.bool h3))]∧Bs w A w' O'∧Vb w' (Fr 0 w' O') (.slice p0 x1.length q0) x1∧Lc 2 w' O' a1 26 [(.slice r0 x0.vars.length s0),(.slice t0 x0.init.length u0),(.slice v0 x0.goal.length w0),(.slice y0 x0.jobs.length z0)]∧Vb w' (Fr 0 w' O') (.slice r0 x0.vars.length s0) x0.vars∧Vb w' (Fr 0 w' O') (.slice t0 x0.init.length u0) x0.init∧Vb w' (Fr 0 w' O') (.slice v0 x0.goal.length w0) x0.goal∧Vb w' (Fr 0 w' O') (.slice y0 x0.jobs.length z0) x0.jobs∧Lc 3 w' O' n1 52 [(.int .i64 k1.tm),(.int .i64 k1.job)]) ?_ ?_
   ·
    refine Aa (Ak rfl (Ak rfl (HL rfl rfl (fun o2=>?_) fun o2=>?_)))
    ·
     replace a0:=ip a0 o2
     refine Ak rfl (An rfl rfl (Ax rfl (An rfl rfl ?_)))
     replace l0:=(l0.st b0).st c0
     refine At (hc:=Blk.cell (i:=1) (l0.1) rfl) rfl ?_
     refine An rfl rfl (Ax rfl (An rfl rfl (At (hc:=Blk.cell (i:=1) (e1.1) rfl) rfl ?_)))
     refine An rfl rfl (GU rfl rfl (fun f1=>?_) fun f1=>?_)
     ·
      replace a0:=ip a0 f1
      refine Bn rfl rfl (Ak rfl (An rfl rfl (Ax rfl (An rfl rfl (At (hc:=Blk.cell (i:=0) (e1.1) rfl) rfl ?_)))))
      refine An rfl rfl (Ak rfl (An rfl rfl (Ki rfl rfl rfl (fun g1=>?_) fun g1=>?_)))
      ·
       replace a0:=ip a0 g1
       refine Bn rfl rfl (Ak rfl (An rfl rfl (Ak rfl (An rfl rfl ?_))))
       replace i0:=(i0.st b0).st c0
       refine Bd (hl:=rfl) (hc:=(i0.1).cellsAt) rfl ?_
       refine An rfl rfl (Bd (hl:=rfl) (hc:=(e1.1).cellsAt) rfl ?_)
       refine An rfl rfl ?_
       obtain ⟨j3,p2,a0⟩:=bs a0
       replace h9:=(h9.st b0).st c0
       replace f0:=(f0.st b0).st c0
       replace g0:=(g0.st b0).st c0
       replace h0:=(h0.st b0).st c0
       refine AM (O:=y1) (Db (fun _ h=>h) (Vb.mono (F:=Fr 0 n2 y1) (Vb.ofAgg (cs:=[(.slice r0 x0.vars.length s0),(.slice t0 x0.init.length u0),(.slice v0 x0.goal.length w0),(.slice y0 x0.jobs.length z0)]) (x:=x0) rfl ⟨_,_,_,_,rfl,h9,f0,g0,h0⟩) Fr.lt) (Vb.mono (F:=Fr 0 n2 y1) (Vb.ofAgg (cs:=[(.int .i64 p1.tm),(.int .i64 p1.job)]) (x:=p1) rfl ⟨rfl,e3,f3⟩) Fr.lt) p2) rfl fun k3 l3 m3 d0 q2=>?_
       obtain ⟨rfl,n3⟩:=q2.int
       refine An rfl rfl (Ki rfl rfl rfl (fun h1=>?_) fun h1=>?_)
       ·
        replace a0:=ip a0 h1
        refine Bn rfl rfl (o_z ?_)
        obtain rfl:=sm a0
        exact ⟨(),_,⟨rfl,rfl,rfl,rfl,rfl,rfl,rfl,rfl,rfl,rfl,rfl,rfl,trivial⟩,((hB.st b0).st c0).st d0,((e0.st b0).st c0).st d0,i0.st d0,h9.st d0,f0.st d0,g0.st d0,h0.st d0,l0.st d0⟩
       replace a0:=im a0 h1
       refine Bn rfl rfl (o_z ?_)
       obtain rfl:=sm a0
       exact ⟨(),_,⟨rfl,rfl,rfl,rfl,rfl,rfl,rfl,rfl,rfl,rfl,rfl,rfl,trivial⟩,((hB.st b0).st c0).st d0,((e0.st b0).st c0).st d0,i0.st d0,h9.st d0,f0.st d0,g0.st d0,h0.st d0,l0.st d0⟩
      replace a0:=im a0 g1
      refine Bn rfl rfl (Ak rfl (Al rfl rfl (Al rfl rfl (Al rfl rfl (Al rfl rfl (Al rfl rfl (Bc rfl rfl (o_z ?_))))))))
      obtain rfl:=sm a0
      exact ⟨(),_,⟨rfl,rfl,rfl,rfl,rfl,rfl,rfl,rfl,rfl,rfl,rfl,rfl,trivial⟩,(hB.st b0).st c0,(e0.st b0).st c0,(i0.st b0).st c0,(h9.st b0).st c0,(f0.st b0).st c0,(g0.st b0).st c0,(h0.st b0).st c0,l0⟩
     replace a0:=im a0 f1
     refine Bn rfl rfl (Ak rfl (Al rfl rfl (Al rfl rfl (Al rfl rfl (Al rfl rfl (Bc rfl rfl (Ak rfl (Al rfl rfl (Al rfl rfl (Al rfl rfl (Al rfl rfl (Al rfl rfl (Bc rfl rfl (o_z ?_))))))))))))))
     obtain rfl:=sm a0
     exact ⟨(),_,⟨rfl,rfl,rfl,rfl,rfl,rfl,rfl,rfl,rfl,rfl,rfl,rfl,trivial⟩,(hB.st b0).st c0,(e0.st b0).st c0,(i0.st b0).st c0,(h9.st b0).st c0,(f0.st b0).st c0,(g0.st b0).st c0,(h0.st b0).st c0,l0⟩
    replace a0:=im a0 o2
    refine Ak rfl (Al rfl rfl (Al rfl rfl (Al rfl rfl (Al rfl rfl (Al rfl rfl (Bc rfl rfl (Ak rfl (Al rfl rfl (Al rfl rfl (Al rfl rfl (Al rfl rfl (Bc rfl rfl (Ak rfl (Al rfl rfl ?_))))))))))))))
    refine Al rfl rfl (Al rfl rfl (Al rfl rfl (Al rfl rfl (Bc rfl rfl (o_z ?_)))))
    obtain rfl:=sm a0
    exact ⟨(),_,⟨rfl,rfl,rfl,rfl,rfl,rfl,rfl,rfl,rfl,rfl,rfl,rfl,trivial⟩,(hB.st b0).st c0,(e0.st b0).st c0,(i0.st b0).st c0,(h9.st b0).st c0,(f0.st b0).st c0,(g0.st b0).st c0,(h0.st b0).st c0,(l0.st b0).st c0⟩
   replace hB:=(hB.st b0).st c0
   replace e0:=(e0.st b0).st c0
   replace h9:=(h9.st b0).st c0
   replace f0:=(f0.st b0).st c0
   replace g0:=(g0.st b0).st c0
   replace h0:=(h0.st b0).st c0
   replace i0:=(i0.st b0).st c0
   replace l0:=(l0.st b0).st c0
   rintro o3 p3 ⟨i3,q3,r1,hB,e0,i0,h9,f0,g0,h0,l0⟩
   refine AH _ r1 ?_
   refine Cd rfl (fun i1=>?_) (fun i1=>?_)
   ·
    replace o0:=ip o0 i1
    refine Ab (Aa (Am rfl (o_z ?_)))
    refine AF ?_
    obtain rfl:=sm o0
    obtain rfl:=d1 _ rfl
    obtain rfl:=sm (BY j0)
    obtain rfl:=c1 _ rfl
    obtain rfl:=sm (BY hm)
    exact ret1v rfl (AA rfl) ⟨hB.ext,vBool⟩
   replace o0:=im' o0 i1
   refine AO ?_
   obtain rfl:=sm o0
   exact show Exists _ from ⟨_,(),rfl,⟨rfl,rfl,rfl,rfl,rfl,rfl,rfl,rfl,rfl,rfl,rfl,trivial⟩,_,hB,e0,i0,h9,f0,g0,h0,l0⟩
  replace hB:=(hB.st k0).st m0
  replace h9:=(h9.st k0).st m0
  replace f0:=(f0.st k0).st m0
  replace g0:=(g0.st k0).st m0
  replace h0:=(h0.st k0).st m0
  replace i0:=(i0.st k0).st m0
  rintro r3 s3 ⟨t3,u3,rfl,n0,v3,hB,e0,i0,h9,f0,g0,h0⟩
  replace j0:=AR j0
  obtain rfl:=sm j0
  exact show Exists _ from ⟨_,(),rfl,⟨(Ar n0 _ _ rfl),(Ar n0 _ _ rfl),(Ar n0 _ _ rfl),(Ar n0 _ _ rfl),(Ar n0 _ _ rfl),(Ar n0 _ _ rfl),trivial⟩,_,hB,e0,i0,h9,f0,g0,h0⟩
 replace hB:=hB.st b1
 rintro w3 x3 ⟨y3,z3,rfl,s1,a4,hB⟩
 replace hm:=AR hm
 refine AH _ s1 ?_
 refine Ab (Aa (Am rfl (o_z ?_)))
 refine AF ?_
 obtain rfl:=sm hm
 exact ret1v rfl (AA rfl) ⟨hB.ext,vBool⟩
noncomputable def Ea (x0:Tpl) (x1:Hap):Option (List Fct) :=
  if x1.fin=true then (bnd (atI x0.jobs x1.job) fun a33=>some a33.atEnd) else (bnd (atI x0.jobs x1.job) fun a66=>some a66.atStart)
theorem KA {w:World} {A:Nat→Prop} (hA:∀ k,A k→k < w.heap.size) {vx0:Value} {x0:Tpl} (f0:Vb w A vx0 x0) {vx1:Value} {x1:Hap} (g0:Vb w A vx1 x1) {r:(List Fct)} (hm:Ea x0 x1=some r) :
    Fn prog 148 [vx0,vx1] w fun v w'=>Ext w w'∧Vb w' (upA A w w') v r:=by
 obtain ⟨O,hB,q0⟩:=enter hA
 replace f0:=f0.mono q0
 obtain ⟨z1,rfl,v4,v5,v6,v7,rfl,h8,u0,v0,b0⟩:=f0
 obtain ⟨A9,w0,rfl⟩:=h8.form
 obtain ⟨y0,z0,rfl⟩:=u0.form
 obtain ⟨a1,b1,rfl⟩:=v0.form
 obtain ⟨c1,d1,rfl⟩:=b0.form
 replace g0:=g0.mono q0
 obtain ⟨e1,rfl,rfl,a2⟩:=g0
 refine AL func148 rfl ntmps148 ?_
 unfold Ea at hm
 refine Ab (Aa (BL 2 O rfl fun f1 g1 r0 e0 a0=>?_))
 replace a0:Lc 2 g1 r0 f1 26 [(.slice A9 x0.vars.length w0),(.slice y0 x0.init.length z0),(.slice a1 x0.goal.length b1),(.slice c1 x0.jobs.length d1)]:=a0
 refine BL 3 r0 rfl fun h1 h0 i0 c0 d0=>?_
 replace d0:Lc 3 h0 i0 h1 182 [(.int .i64 x1.job),(.bool x1.fin)]:=d0
 refine Am rfl (o_z ?_)
 refine Ab (Ab (Aa (Ax rfl (At (hc:=Blk.cell (i:=1) (d0.1) rfl) rfl ?_))))
 refine o_z ?_
 refine Cd rfl (fun j0=>?_) (fun j0=>?_)
 ·
  replace hm:=ip hm j0
  refine Ab (Aa (Ax rfl ?_))
  replace a0:=a0.st c0
  refine At (hc:=Blk.cell (i:=3) (a0.1) rfl) rfl ?_
  refine Ax rfl (At (hc:=Blk.cell (i:=0) (d0.1) rfl) rfl ?_)
  obtain ⟨b2,i1,hm⟩:=bs hm
  obtain ⟨j1,k1⟩:=EI i1
  replace b0:=(b0.st e0).st c0
  obtain ⟨c2,d2,l1,k0,l0,m0,e2,f2,g2,h2,i2,rfl,m1,n1,o1,p1,s0,j2,k2⟩:=b0.elem' k1
  obtain ⟨l2,m2,rfl⟩:=m1.form
  obtain ⟨n2,o2,rfl⟩:=n1.form
  obtain ⟨p2,q2,rfl⟩:=o1.form
  obtain ⟨r2,s2,rfl⟩:=p1.form
  obtain ⟨t2,u2,rfl⟩:=s0.form
  refine Bi (hA:=k0) (hj:=(Int.toNat_of_nonneg j1).symm) (hlt:=l0) rfl rfl ?_
  refine Ax rfl (At (hc:=cat6 m0) rfl ?_)
  refine Am rfl (o_z ?_)
  refine AF ?_
  obtain rfl:=sm hm
  replace hB:=(hB.st e0).st c0
  exact ret1v rfl (AA rfl) ⟨hB.ext,(Vb.mono (F:=Fr 0 h0 i0) s0 hB.out)⟩
 replace hm:=im' hm j0
 refine AO (Ab (Aa (Ax rfl ?_)))
 replace a0:=a0.st c0
 refine At (hc:=Blk.cell (i:=3) (a0.1) rfl) rfl ?_
 refine Ax rfl (At (hc:=Blk.cell (i:=0) (d0.1) rfl) rfl ?_)
 obtain ⟨v2,q1,hm⟩:=bs hm
 obtain ⟨r1,s1⟩:=EI q1
 replace b0:=(b0.st e0).st c0
 obtain ⟨w2,x2,t1,n0,o0,p0,y2,z2,a3,b3,c3,rfl,u1,v1,w1,t0,y1,d3,e3⟩:=b0.elem' s1
 obtain ⟨f3,g3,rfl⟩:=u1.form
 obtain ⟨h3,i3,rfl⟩:=v1.form
 obtain ⟨j3,k3,rfl⟩:=w1.form
 obtain ⟨l3,m3,rfl⟩:=t0.form
 obtain ⟨n3,o3,rfl⟩:=y1.form
 refine Bi (hA:=n0) (hj:=(Int.toNat_of_nonneg r1).symm) (hlt:=o0) rfl rfl ?_
 refine Ax rfl (At (hc:=cat5 p0) rfl ?_)
 refine Am rfl (o_z ?_)
 refine AF ?_
 obtain rfl:=sm hm
 replace hB:=(hB.st e0).st c0
 exact ret1v rfl (AA rfl) ⟨hB.ext,(Vb.mono (F:=Fr 0 h0 i0) t0 hB.out)⟩
noncomputable def Et (x0:Tpl) (x1:Hap):Option (List Fct) :=
  if x1.fin=true then (bnd (atI x0.jobs x1.job) fun a33=>some a33.fin) else (bnd (atI x0.jobs x1.job) fun a66=>some a66.start)
theorem Ll {w:World} {A:Nat→Prop} (hA:∀ k,A k→k < w.heap.size) {vx0:Value} {x0:Tpl} (f0:Vb w A vx0 x0) {vx1:Value} {x1:Hap} (g0:Vb w A vx1 x1) {r:(List Fct)} (hm:Et x0 x1=some r) :
    Fn prog 120 [vx0,vx1] w fun v w'=>Ext w w'∧Vb w' (upA A w w') v r:=by
 obtain ⟨O,hB,q0⟩:=enter hA
 replace f0:=f0.mono q0
 obtain ⟨z1,rfl,v4,v5,v6,v7,rfl,h8,u0,v0,b0⟩:=f0
 obtain ⟨A9,w0,rfl⟩:=h8.form
 obtain ⟨y0,z0,rfl⟩:=u0.form
 obtain ⟨a1,b1,rfl⟩:=v0.form
 obtain ⟨c1,d1,rfl⟩:=b0.form
 replace g0:=g0.mono q0
 obtain ⟨e1,rfl,rfl,a2⟩:=g0
 refine AL func120 rfl ntmps120 ?_
 unfold Et at hm
 refine Ab (Aa (BL 2 O rfl fun f1 g1 r0 e0 a0=>?_))
 replace a0:Lc 2 g1 r0 f1 26 [(.slice A9 x0.vars.length w0),(.slice y0 x0.init.length z0),(.slice a1 x0.goal.length b1),(.slice c1 x0.jobs.length d1)]:=a0
 refine BL 3 r0 rfl fun h1 h0 i0 c0 d0=>?_
 replace d0:Lc 3 h0 i0 h1 182 [(.int .i64 x1.job),(.bool x1.fin)]:=d0
 refine Am rfl (o_z ?_)
 refine Ab (Ab (Aa (Ax rfl (At (hc:=Blk.cell (i:=1) (d0.1) rfl) rfl ?_))))
 refine o_z ?_
 refine Cd rfl (fun j0=>?_) (fun j0=>?_)
 ·
  replace hm:=ip hm j0
  refine Ab (Aa (Ax rfl ?_))
  replace a0:=a0.st c0
  refine At (hc:=Blk.cell (i:=3) (a0.1) rfl) rfl ?_
  refine Ax rfl (At (hc:=Blk.cell (i:=0) (d0.1) rfl) rfl ?_)
  obtain ⟨b2,i1,hm⟩:=bs hm
  obtain ⟨j1,k1⟩:=EI i1
  replace b0:=(b0.st e0).st c0
  obtain ⟨c2,d2,l1,k0,l0,m0,e2,f2,g2,h2,i2,rfl,m1,n1,s0,o1,p1,j2,k2⟩:=b0.elem' k1
  obtain ⟨l2,m2,rfl⟩:=m1.form
  obtain ⟨n2,o2,rfl⟩:=n1.form
  obtain ⟨p2,q2,rfl⟩:=s0.form
  obtain ⟨r2,s2,rfl⟩:=o1.form
  obtain ⟨t2,u2,rfl⟩:=p1.form
  refine Bi (hA:=k0) (hj:=(Int.toNat_of_nonneg j1).symm) (hlt:=l0) rfl rfl ?_
  refine Ax rfl (At (hc:=cat4 m0) rfl ?_)
  refine Am rfl (o_z ?_)
  refine AF ?_
  obtain rfl:=sm hm
  replace hB:=(hB.st e0).st c0
  exact ret1v rfl (AA rfl) ⟨hB.ext,(Vb.mono (F:=Fr 0 h0 i0) s0 hB.out)⟩
 replace hm:=im' hm j0
 refine AO (Ab (Aa (Ax rfl ?_)))
 replace a0:=a0.st c0
 refine At (hc:=Blk.cell (i:=3) (a0.1) rfl) rfl ?_
 refine Ax rfl (At (hc:=Blk.cell (i:=0) (d0.1) rfl) rfl ?_)
 obtain ⟨v2,q1,hm⟩:=bs hm
 obtain ⟨r1,s1⟩:=EI q1
 replace b0:=(b0.st e0).st c0
 obtain ⟨w2,x2,t1,n0,o0,p0,y2,z2,a3,b3,c3,rfl,t0,u1,v1,w1,y1,d3,e3⟩:=b0.elem' s1
 obtain ⟨f3,g3,rfl⟩:=t0.form
 obtain ⟨h3,i3,rfl⟩:=u1.form
 obtain ⟨j3,k3,rfl⟩:=v1.form
 obtain ⟨l3,m3,rfl⟩:=w1.form
 obtain ⟨n3,o3,rfl⟩:=y1.form
 refine Bi (hA:=n0) (hj:=(Int.toNat_of_nonneg r1).symm) (hlt:=o0) rfl rfl ?_
 refine Ax rfl (At (hc:=cat2 p0) rfl ?_)
 refine Am rfl (o_z ?_)
 refine AF ?_
 obtain rfl:=sm hm
 replace hB:=(hB.st e0).st c0
 exact ret1v rfl (AA rfl) ⟨hB.ext,(Vb.mono (F:=Fr 0 h0 i0) t0 hB.out)⟩
noncomputable def Fq (x0:Tpl) (x1:Hap) (x2:Hap):Option Bool :=
  none
theorem Jk {w:World} {A:Nat→Prop} (hA:∀ k,A k→k < w.heap.size) {vx0:Value} {x0:Tpl} (a0:Vb w A vx0 x0) {vx1:Value} {x1:Hap} (b0:Vb w A vx1 x1) {vx2:Value} {x2:Hap} (c0:Vb w A vx2 x2) {r:Bool} (hm:Fq x0 x1 x2=some r) :
    Fn prog 119 [vx0,vx1,vx2] w fun v w'=>Ext w w'∧Vb w' (upA A w w') v r:=by
 exact nomatch hm
noncomputable def Eu (x0:Tpl) (x1:List Int) (x2:List Hap):Option (List Int) :=
  bnd (Ct x1) fun q30=>bnd (rng (ρ:=(List Int)) (fun (k52:Nat) (a53:Bool) (s50:(List Int))=>bnd (rng (ρ:=Ctl (List Int) (List Int)) (fun (k80:Nat) (a81:Job) (s78:(List Int)×Bool)=>bnd (rng (ρ:=Ctl ((List Int)×Bool) (Ctl (List Int) (List Int))) (fun (k101:Nat) (a102:Hap) (s99:(List Int)×Bool)=>bnd (if a102.job≠(k80:Int) then (some (s99.2,true,a102.fin)) else (if a102.fin=true then (if s99.2=true then (some (true,false,true)) else (some (false,true,true))) else (if s99.2=true then (some (true,true,false)) else (some (false,false,false)))):Option (Bool×Bool×Bool)) fun y131=>if y131.2.1=true then (some (.next (s99.1,y131.1))) else (bnd (Ea x0 (⟨a102.job,y131.2.2⟩:Hap)) fun q144=>bnd (rng (ρ:=Ctl ((List Int)×Bool) (Ctl ((List Int)×Bool) (Ctl (List Int) (List Int)))) (fun (k159:Nat) (a160:Fct) (s157:(List Int))=>bnd (atI s157 a160.var) fun a190=>some (.next (s157.set (a160.var:Int).toNat a160.val))) q144 0 s99.1) fun res155=>fin res155 fun (s208:(List Int))=>some (.next (s208,y131.1)))) x2 0 (s78.1,s78.2)) fun res97=>fin res97 fun (s214:(List Int)×Bool)=>some (.next (s214.1,s214.2))) x0.jobs 0 (s50,a53)) fun res76=>fin res76 fun (s220:(List Int)×Bool)=>some (.next s220.1)) [true,false] 0 q30) fun res48=>fin res48 fun (s226:(List Int))=>some s226
theorem Lm {w:World} {A:Nat→Prop} (hA:∀ k,A k→k < w.heap.size) {vx0:Value} {x0:Tpl} (s3:Vb w A vx0 x0) {vx1:Value} {x1:List Int} (r2:Vb w A vx1 x1) {vx2:Value} {x2:List Hap} (e0:Vb w A vx2 x2) {r:(List Int)} (hm:Eu x0 x1 x2=some r) :
    Fn prog 121 [vx0,vx1,vx2] w fun v w'=>Ext w w'∧Vb w' (upA A w w') v r:=by
 obtain ⟨O,hB,t3⟩:=enter hA
 replace s3:=s3.mono t3
 obtain ⟨g7,rfl,v5,v6,v7,v8,rfl,h9,i0,j0,f0⟩:=s3
 obtain ⟨w0,y0,rfl⟩:=h9.form
 obtain ⟨z0,a1,rfl⟩:=i0.form
 obtain ⟨b1,c1,rfl⟩:=j0.form
 obtain ⟨d1,e1,rfl⟩:=f0.form
 replace r2:=r2.mono t3
 obtain ⟨h7,i7,rfl⟩:=r2.form
 replace e0:=e0.mono t3
 obtain ⟨s0,t0,rfl⟩:=e0.form
 refine AL func121 rfl ntmps121 ?_
 unfold Eu at hm
 refine Ab (Aa (BL 2 O rfl fun i1 j5 c5 d2 g0=>?_))
 replace g0:Lc 2 j5 c5 i1 26 [(.slice w0 x0.vars.length y0),(.slice z0 x0.init.length a1),(.slice b1 x0.goal.length c1),(.slice d1 x0.jobs.length e1)]:=g0
 refine Am rfl (o_z ?_)
 refine Ab (Aa (Ak rfl ?_))
 obtain ⟨f1,k5,hm⟩:=bs hm
 replace r2:=r2.st d2
 refine CZ 3 (O:=c5) (Gj Fr.lt r2 k5) rfl fun g1 h1 j7 l5 e2 u3=>?_
 refine Am rfl (o_z ?_)
 refine Ab (Ab (Aa (AQ 4 l5 (xs:=([true,false]:List Bool)) rfl rfl rfl ⟨vBool,vBool,trivial⟩ fun k1 k7 m5 z1 k0=>?_)))
 refine AS rfl ?_
 have v3:[true,false].length≤9223372036854775807:=Nat.le_trans k0.len.2.1 k0.len.2.2
 have l7:inI64 ([true,false].length:Int):=rngNat v3
 refine Ak rfl (o_z ?_)
 obtain ⟨t2,w3,hm⟩:=bs hm
 refine Ay (aft t2 (fun (s2:(List Int)) (m3:Unit)=>[(7,(.slice g1 f1.length h1))]) (fun s2 m3 w'=>∃ O':Lab,Bs w A w' O'∧Rw 3 w' O' 3 (.slice g1 f1.length h1) s2)) ?_ ?_
 ·
  refine AK ?_
  replace hB:=((hB.st d2).st e2).st z1
  replace e0:=((e0.st d2).st e2).st z1
  replace h9:=((h9.st d2).st e2).st z1
  replace i0:=((i0.st d2).st e2).st z1
  replace j0:=((j0.st d2).st e2).st z1
  replace f0:=((f0.st d2).st e2).st z1
  replace g0:=(g0.st e2).st z1
  replace u3:=u3.st z1
  refine AY (σ:=(List Int)) (X:=Unit) ([true,false].length) w3 rfl v3 (fun (s2:(List Int)) (m3:Unit)=>[(2,(.slice s0 x2.length t0)),(3,(.pointer (some ⟨i1,0,none⟩))),(7,(.slice g1 f1.length h1)),(17,(.slice (some ⟨k1,0,none⟩) [true,false].length 2))]) _ (fun s2 m3 w'=>∃ O':Lab,Bs w A w' O'∧Vb w' (Fr 0 w' O') (.slice s0 x2.length t0) x2∧Lc 2 w' O' i1 26 [(.slice w0 x0.vars.length y0),(.slice z0 x0.init.length a1),(.slice b1 x0.goal.length c1),(.slice d1 x0.jobs.length e1)]∧Vb w' (Fr 0 w' O') (.slice w0 x0.vars.length y0) x0.vars∧Vb w' (Fr 0 w' O') (.slice z0 x0.init.length a1) x0.init∧Vb w' (Fr 0 w' O') (.slice b1 x0.goal.length c1) x0.goal∧Vb w' (Fr 0 w' O') (.slice d1 x0.jobs.length e1) x0.jobs∧Rw 3 w' O' 3 (.slice g1 f1.length h1) s2∧Rw 4 w' O' 4 (.slice (some ⟨k1,0,none⟩) [true,false].length 2) [true,false]) _ () ⟨m5,hB,e0,g0,h9,i0,j0,f0,u3,k0⟩ ⟨rfl,rfl,rfl,rfl,rfl,rfl,trivial⟩ (fun _ _=>⟨rfl,rfl⟩) (fun _ _=>⟨rfl,trivial⟩) (fun _ _ _ ⟨O',hB,e0,g0,h9,i0,j0,f0,j2,k0⟩=>⟨O',hB,j2⟩) ⟨rfl,rfl,rfl⟩ ⟨rfl,rfl⟩ ?_
  rintro f2 m7 s2 m3 n7 n5 u2 ⟨o5,hB,e0,g0,h9,i0,j0,f0,j2,k0⟩ r1 x3 y3
  have rk52:inI64 (f2:Int):=rngK u2 v3
  refine Ab (Aa ?_)
  obtain ⟨o7,p7,p5,z3,a4,b4,rfl⟩:=k0.elem u2
  refine Bi (hA:=z3) (hj:=rfl) (hlt:=a4) rfl rfl ?_
  refine At (hc:=cat0 b4) rfl ?_
  refine Am rfl (o_z ?_)
  refine Ab (Aa (Ax rfl (At (hc:=Blk.cell (i:=3) (g0.1) rfl) rfl ?_)))
  refine AS rfl ?_
  have c4:x0.jobs.length≤9223372036854775807:=Nat.le_trans f0.len.2.1 f0.len.2.2
  have q7:inI64 (x0.jobs.length:Int):=rngNat c4
  refine Ak rfl (o_z ?_)
  obtain ⟨v2,d4,r1⟩:=bs r1
  refine Ay (aft v2 (fun (k2:(List Int)×Bool) (n3:Unit)=>[(2,(.slice s0 x2.length t0)),(3,(.pointer (some ⟨i1,0,none⟩))),(7,(.slice g1 f1.length h1)),(17,(.slice (some ⟨k1,0,none⟩) [true,false].length 2)),(18,(.int .i64 ([true,false].length:Int))),(19,(.int .i64 (f2:Int)))]) (fun k2 n3 w'=>∃ O':Lab,Bs w A w' O'∧Vb w' (Fr 0 w' O') (.slice s0 x2.length t0) x2∧Lc 2 w' O' i1 26 [(.slice w0 x0.vars.length y0),(.slice z0 x0.init.length a1),(.slice b1 x0.goal.length c1),(.slice d1 x0.jobs.length e1)]∧Vb w' (Fr 0 w' O') (.slice w0 x0.vars.length y0) x0.vars∧Vb w' (Fr 0 w' O') (.slice z0 x0.init.length a1) x0.init∧Vb w' (Fr 0 w' O') (.slice b1 x0.goal.length c1) x0.goal∧Vb w' (Fr 0 w' O') (.slice d1 x0.jobs.length e1) x0.jobs∧Rw 3 w' O' 3 (.slice g1 f1.length h1) k2.1∧Rw 4 w' O' 4 (.slice (some ⟨k1,0,none⟩) [true,false].length 2) [true,false])) ?_ ?_
  ·
   refine AK (AY (σ:=(List Int)×Bool) (X:=Unit) (x0.jobs.length) d4 rfl c4 (fun (k2:(List Int)×Bool) (n3:Unit)=>[(2,(.slice s0 x2.length t0)),(3,(.pointer (some ⟨i1,0,none⟩))),(7,(.slice g1 f1.length h1)),(9,(.bool k2.2)),(17,(.slice (some ⟨k1,0,none⟩) [true,false].length 2)),(18,(.int .i64 ([true,false].length:Int))),(19,(.int .i64 (f2:Int)))]) _ (fun k2 n3 w'=>∃ O':Lab,Bs w A w' O'∧Vb w' (Fr 0 w' O') (.slice s0 x2.length t0) x2∧Lc 2 w' O' i1 26 [(.slice w0 x0.vars.length y0),(.slice z0 x0.init.length a1),(.slice b1 x0.goal.length c1),(.slice d1 x0.jobs.length e1)]∧Vb w' (Fr 0 w' O') (.slice w0 x0.vars.length y0) x0.vars∧Vb w' (Fr 0 w' O') (.slice z0 x0.init.length a1) x0.init∧Vb w' (Fr 0 w' O') (.slice b1 x0.goal.length c1) x0.goal∧Vb w' (Fr 0 w' O') (.slice d1 x0.jobs.length e1) x0.jobs∧Rw 3 w' O' 3 (.slice g1 f1.length h1) k2.1∧Rw 4 w' O' 4 (.slice (some ⟨k1,0,none⟩) [true,false].length 2) [true,false]) _ () ⟨o5,hB,e0,g0,h9,i0,j0,f0,j2,k0⟩ ⟨rfl,rfl,rfl,rfl,rfl,rfl,rfl,rfl,rfl,trivial⟩ (fun _ _=>⟨rfl,rfl⟩) (fun _ _=>⟨rfl,rfl,rfl,rfl,rfl,rfl,trivial⟩) (fun _ _ _ ⟨O',hB,e0,g0,h9,i0,j0,f0,w2,k0⟩=>⟨O',hB,e0,g0,h9,i0,j0,f0,w2,k0⟩) ⟨rfl,rfl,rfl⟩ ⟨rfl,rfl⟩ ?_)
   rintro y1 r7 k2 n3 s7 q5 e4 ⟨r5,hB,e0,g0,h9,i0,j0,f0,w2,k0⟩ s1 f4 g4
   have rk80:inI64 (y1:Int):=rngK e4 c4
   refine Ab (Aa (Ak rfl (Am rfl (o_z ?_))))
   refine Ab (Aa (Ak rfl (AS rfl ?_)))
   have h4:x2.length≤9223372036854775807:=Nat.le_trans e0.len.2.1 e0.len.2.2
   have t7:inI64 (x2.length:Int):=rngNat h4
   refine Ak rfl (o_z ?_)
   obtain ⟨y2,i4,s1⟩:=bs s1
   refine Ay (aft y2 (fun (t1:(List Int)×Bool) (a2:Unit)=>[(2,(.slice s0 x2.length t0)),(3,(.pointer (some ⟨i1,0,none⟩))),(7,(.slice g1 f1.length h1)),(9,(.bool t1.2)),(17,(.slice (some ⟨k1,0,none⟩) [true,false].length 2)),(18,(.int .i64 ([true,false].length:Int))),(19,(.int .i64 (f2:Int))),(25,(.int .i64 (x0.jobs.length:Int))),(26,(.int .i64 (y1:Int)))]) (fun t1 a2 w'=>∃ O':Lab,Bs w A w' O'∧Vb w' (Fr 0 w' O') (.slice s0 x2.length t0) x2∧Lc 2 w' O' i1 26 [(.slice w0 x0.vars.length y0),(.slice z0 x0.init.length a1),(.slice b1 x0.goal.length c1),(.slice d1 x0.jobs.length e1)]∧Vb w' (Fr 0 w' O') (.slice w0 x0.vars.length y0) x0.vars∧Vb w' (Fr 0 w' O') (.slice z0 x0.init.length a1) x0.init∧Vb w' (Fr 0 w' O') (.slice b1 x0.goal.length c1) x0.goal∧Vb w' (Fr 0 w' O') (.slice d1 x0.jobs.length e1) x0.jobs∧Rw 3 w' O' 3 (.slice g1 f1.length h1) t1.1∧Rw 4 w' O' 4 (.slice (some ⟨k1,0,none⟩) [true,false].length 2) [true,false])) ?_ ?_
   ·
    refine AK (AY (σ:=(List Int)×Bool) (X:=Unit) (x2.length) i4 rfl h4 (fun (t1:(List Int)×Bool) (a2:Unit)=>[(2,(.slice s0 x2.length t0)),(3,(.pointer (some ⟨i1,0,none⟩))),(7,(.slice g1 f1.length h1)),(9,(.bool t1.2)),(10,(.int .i64 (y1:Int))),(17,(.slice (some ⟨k1,0,none⟩) [true,false].length 2)),(18,(.int .i64 ([true,false].length:Int))),(19,(.int .i64 (f2:Int))),(25,(.int .i64 (x0.jobs.length:Int))),(26,(.int .i64 (y1:Int))),(29,(.slice s0 x2.length t0))]) _ (fun t1 a2 w'=>∃ O':Lab,Bs w A w' O'∧Vb w' (Fr 0 w' O') (.slice s0 x2.length t0) x2∧Lc 2 w' O' i1 26 [(.slice w0 x0.vars.length y0),(.slice z0 x0.init.length a1),(.slice b1 x0.goal.length c1),(.slice d1 x0.jobs.length e1)]∧Vb w' (Fr 0 w' O') (.slice w0 x0.vars.length y0) x0.vars∧Vb w' (Fr 0 w' O') (.slice z0 x0.init.length a1) x0.init∧Vb w' (Fr 0 w' O') (.slice b1 x0.goal.length c1) x0.goal∧Vb w' (Fr 0 w' O') (.slice d1 x0.jobs.length e1) x0.jobs∧Rw 3 w' O' 3 (.slice g1 f1.length h1) t1.1∧Rw 4 w' O' 4 (.slice (some ⟨k1,0,none⟩) [true,false].length 2) [true,false]) _ () ⟨r5,hB,e0,g0,h9,i0,j0,f0,w2,k0⟩ ⟨rfl,rfl,rfl,rfl,rfl,rfl,rfl,rfl,rfl,rfl,rfl,rfl,rfl,trivial⟩ (fun _ _=>⟨rfl,rfl⟩) (fun _ _=>⟨rfl,rfl,rfl,rfl,rfl,rfl,rfl,rfl,rfl,trivial⟩) (fun _ _ _ ⟨O',hB,e0,g0,h9,i0,j0,f0,m0,k0⟩=>⟨O',hB,e0,g0,h9,i0,j0,f0,m0,k0⟩) ⟨rfl,rfl,rfl⟩ ⟨rfl,rfl⟩ ?_)
    rintro b2 n1 t1 a2 s5 d5 g2 ⟨j4,hB,e0,g0,h9,i0,j0,f0,m0,k0⟩ d0 o3 p3
    have rk101:inI64 (b2:Int):=rngK g2 h4
    refine Ab (Aa ?_)
    obtain ⟨t5,u5,e5,z2,a3,b3,rfl,k4⟩:=e0.elem' g2
    refine Bi (hA:=z2) (hj:=rfl) (hlt:=a3) rfl rfl ?_
    refine Bd (hl:=rfl) (hc:=b3) rfl ?_
    refine AU 5 j4 fun l2 w5 l4 a0 n0=>?_
    refine Az n0 rfl rfl rfl (AJ) (allOne) fun m4 b0 n0=>?_
    replace n0:Lc 5 m4 l4 l2 182 [(.int .i64 n1.job),(.bool n1.fin)]:=n0
    refine o_z ?_
    refine Ab (Ab ?_)
    obtain ⟨l1,c0,d0⟩:=bs d0
    refine Ay (fun l' w'=>∃ (n4:Unit) (O':Lab),subs l' [(2,(.slice s0 x2.length t0)),(3,(.pointer (some ⟨i1,0,none⟩))),(7,(.slice g1 f1.length h1)),(9,(.bool l1.1)),(10,(.int .i64 (y1:Int))),(12,(.pointer (some ⟨l2,0,none⟩))),(17,(.slice (some ⟨k1,0,none⟩) [true,false].length 2)),(18,(.int .i64 ([true,false].length:Int))),(19,(.int .i64 (f2:Int))),(25,(.int .i64 (x0.jobs.length:Int))),(26,(.int .i64 (y1:Int))),(29,(.slice s0 x2.length t0)),(30,(.int .i64 (x2.length:Int))),(31,(.int .i64 (b2:Int))),(44,(.bool l1.2.1))]∧Bs w A w' O'∧Vb w' (Fr 0 w' O') (.slice s0 x2.length t0) x2∧Lc 2 w' O' i1 26 [(.slice w0 x0.vars.length y0),(.slice z0 x0.init.length a1),(.slice b1 x0.goal.length c1),(.slice d1 x0.jobs.length e1)]∧Vb w' (Fr 0 w' O') (.slice w0 x0.vars.length y0) x0.vars∧Vb w' (Fr 0 w' O') (.slice z0 x0.init.length a1) x0.init∧Vb w' (Fr 0 w' O') (.slice b1 x0.goal.length c1) x0.goal∧Vb w' (Fr 0 w' O') (.slice d1 x0.jobs.length e1) x0.jobs∧Rw 3 w' O' 3 (.slice g1 f1.length h1) t1.1∧Lc 5 w' O' l2 182 [(.int .i64 n1.job),(.bool l1.2.2)]∧Rw 4 w' O' 4 (.slice (some ⟨k1,0,none⟩) [true,false].length 2) [true,false]) ?_ ?_
    ·
     refine Aa (Ax rfl (At (hc:=Blk.cell (i:=0) (n0.1) rfl) rfl ?_))
     refine Ak rfl (HL rfl rfl (fun m2=>?_) fun m2=>?_)
     ·
      replace c0:=ip c0 m2
      refine Ak rfl (Al rfl rfl (Al rfl rfl (Al rfl rfl (Al rfl rfl (Bn rfl rfl (o_z ?_))))))
      obtain rfl:=sm c0
      exact ⟨(),_,⟨rfl,rfl,rfl,rfl,rfl,rfl,rfl,rfl,rfl,rfl,rfl,rfl,rfl,rfl,rfl,trivial⟩,(hB.st a0).st b0,(e0.st a0).st b0,(g0.st a0).st b0,(h9.st a0).st b0,(i0.st a0).st b0,(j0.st a0).st b0,(f0.st a0).st b0,(m0.st a0).st b0,n0,(k0.st a0).st b0⟩
     replace c0:=im c0 m2
     refine Ak rfl (An rfl rfl (Ax rfl (An rfl rfl (At (hc:=Blk.cell (i:=1) (n0.1) rfl) rfl ?_))))
     refine An rfl rfl (Ak rfl (An rfl rfl ?_))
     rcases Bool.eq_false_or_eq_true n1.fin with m1|m1
     ·
      try rw [m1]
      rw [m1] at n0
      replace c0:=ip c0 m1
      rcases Bool.eq_false_or_eq_true t1.2 with u1|u1
      ·
       try simp only [u1]
       replace c0:=ip c0 u1
       refine OR rfl rfl rfl (Bc rfl rfl (o_z ?_))
       obtain rfl:=sm c0
       exact ⟨(),_,⟨rfl,rfl,rfl,rfl,rfl,rfl,rfl,rfl,rfl,rfl,rfl,rfl,rfl,rfl,rfl,trivial⟩,(hB.st a0).st b0,(e0.st a0).st b0,(g0.st a0).st b0,(h9.st a0).st b0,(i0.st a0).st b0,(j0.st a0).st b0,(f0.st a0).st b0,(m0.st a0).st b0,n0,(k0.st a0).st b0⟩
      try simp only [u1]
      replace c0:=im' c0 u1
      refine OR rfl rfl rfl (Bc rfl rfl (o_z ?_))
      obtain rfl:=sm c0
      exact ⟨(),_,⟨rfl,rfl,rfl,rfl,rfl,rfl,rfl,rfl,rfl,rfl,rfl,rfl,rfl,rfl,rfl,trivial⟩,(hB.st a0).st b0,(e0.st a0).st b0,(g0.st a0).st b0,(h9.st a0).st b0,(i0.st a0).st b0,(j0.st a0).st b0,(f0.st a0).st b0,(m0.st a0).st b0,n0,(k0.st a0).st b0⟩
     try rw [m1]
     rw [m1] at n0
     replace c0:=im' c0 m1
     rcases Bool.eq_false_or_eq_true t1.2 with v1|v1
     ·
      try simp only [v1]
      replace c0:=ip c0 v1
      refine OR rfl rfl rfl (Bc rfl rfl (o_z ?_))
      obtain rfl:=sm c0
      exact ⟨(),_,⟨rfl,rfl,rfl,rfl,rfl,rfl,rfl,rfl,rfl,rfl,rfl,rfl,rfl,rfl,rfl,trivial⟩,(hB.st a0).st b0,(e0.st a0).st b0,(g0.st a0).st b0,(h9.st a0).st b0,(i0.st a0).st b0,(j0.st a0).st b0,(f0.st a0).st b0,(m0.st a0).st b0,n0,(k0.st a0).st b0⟩
     try simp only [v1]
     replace c0:=im' c0 v1
     refine OR rfl rfl rfl (Bc rfl rfl (o_z ?_))
     obtain rfl:=sm c0
     exact ⟨(),_,⟨rfl,rfl,rfl,rfl,rfl,rfl,rfl,rfl,rfl,rfl,rfl,rfl,rfl,rfl,rfl,trivial⟩,(hB.st a0).st b0,(e0.st a0).st b0,(g0.st a0).st b0,(h9.st a0).st b0,(i0.st a0).st b0,(j0.st a0).st b0,(f0.st a0).st b0,(m0.st a0).st b0,n0,(k0.st a0).st b0⟩
    replace hB:=(hB.st a0).st b0
    replace e0:=(e0.st a0).st b0
    replace h9:=(h9.st a0).st b0
    replace i0:=(i0.st a0).st b0
    replace j0:=(j0.st a0).st b0
    replace f0:=(f0.st a0).st b0
    replace g0:=(g0.st a0).st b0
    replace k0:=(k0.st a0).st b0
    replace m0:=(m0.st a0).st b0
    rintro x5 y5 ⟨n4,o4,c3,hB,e0,g0,h9,i0,j0,f0,m0,n0,k0⟩
    refine AH _ c3 ?_
    refine Cd rfl (fun n2=>?_) (fun n2=>?_)
    ·
     replace d0:=ip d0 n2
     refine HX ?_
     obtain rfl:=sm d0
     exact show Exists _ from ⟨_,(),rfl,⟨rfl,rfl,rfl,rfl,rfl,rfl,rfl,rfl,rfl,rfl,rfl,rfl,rfl,trivial⟩,_,hB,e0,g0,h9,i0,j0,f0,m0,k0⟩
    replace d0:=im' d0 n2
    refine AO (Ab (Aa (Bd (hl:=rfl) (hc:=(g0.1).cellsAt) rfl ?_)))
    refine Bd (hl:=rfl) (hc:=(n0.1).cellsAt) rfl ?_
    obtain ⟨o1,p4,d0⟩:=bs d0
    refine Cc (O:=o4) (KA Fr.lt (Vb.ofAgg (cs:=[(.slice w0 x0.vars.length y0),(.slice z0 x0.init.length a1),(.slice b1 x0.goal.length c1),(.slice d1 x0.jobs.length e1)]) (x:=x0) rfl ⟨_,_,_,_,rfl,h9,i0,j0,f0⟩) (Vb.ofAgg (cs:=[(.int .i64 n1.job),(.bool l1.2.2)]) (x:=(⟨n1.job,l1.2.2⟩:Hap)) rfl ⟨rfl,k4⟩) p4) rfl fun z5 a6 q4 l0 j1=>?_
    obtain ⟨d3,e3,rfl⟩:=j1.form
    refine AS rfl ?_
    have o2:o1.length≤9223372036854775807:=Nat.le_trans j1.len.2.1 j1.len.2.2
    have b6:inI64 (o1.length:Int):=rngNat o2
    refine Ak rfl (o_z ?_)
    obtain ⟨p2,f3,d0⟩:=bs d0
    refine Ay (aft p2 (fun (p1:(List Int)) (c2:Unit)=>[(2,(.slice s0 x2.length t0)),(3,(.pointer (some ⟨i1,0,none⟩))),(7,(.slice g1 f1.length h1)),(9,(.bool l1.1)),(10,(.int .i64 (y1:Int))),(17,(.slice (some ⟨k1,0,none⟩) [true,false].length 2)),(18,(.int .i64 ([true,false].length:Int))),(19,(.int .i64 (f2:Int))),(25,(.int .i64 (x0.jobs.length:Int))),(26,(.int .i64 (y1:Int))),(29,(.slice s0 x2.length t0)),(30,(.int .i64 (x2.length:Int))),(31,(.int .i64 (b2:Int)))]) (fun p1 c2 w'=>∃ O':Lab,Bs w A w' O'∧Vb w' (Fr 0 w' O') (.slice s0 x2.length t0) x2∧Lc 2 w' O' i1 26 [(.slice w0 x0.vars.length y0),(.slice z0 x0.init.length a1),(.slice b1 x0.goal.length c1),(.slice d1 x0.jobs.length e1)]∧Vb w' (Fr 0 w' O') (.slice w0 x0.vars.length y0) x0.vars∧Vb w' (Fr 0 w' O') (.slice z0 x0.init.length a1) x0.init∧Vb w' (Fr 0 w' O') (.slice b1 x0.goal.length c1) x0.goal∧Vb w' (Fr 0 w' O') (.slice d1 x0.jobs.length e1) x0.jobs∧Rw 3 w' O' 3 (.slice g1 f1.length h1) p1∧Rw 4 w' O' 4 (.slice (some ⟨k1,0,none⟩) [true,false].length 2) [true,false])) ?_ ?_
    ·
     refine AK ?_
     replace hB:=hB.st l0
     replace e0:=e0.st l0
     replace h9:=h9.st l0
     replace i0:=i0.st l0
     replace j0:=j0.st l0
     replace f0:=f0.st l0
     replace g0:=g0.st l0
     replace k0:=k0.st l0
     replace m0:=m0.st l0
     refine AY (σ:=(List Int)) (X:=Unit) (o1.length) f3 rfl o2 (fun (p1:(List Int)) (c2:Unit)=>[(2,(.slice s0 x2.length t0)),(3,(.pointer (some ⟨i1,0,none⟩))),(7,(.slice g1 f1.length h1)),(9,(.bool l1.1)),(10,(.int .i64 (y1:Int))),(17,(.slice (some ⟨k1,0,none⟩) [true,false].length 2)),(18,(.int .i64 ([true,false].length:Int))),(19,(.int .i64 (f2:Int))),(25,(.int .i64 (x0.jobs.length:Int))),(26,(.int .i64 (y1:Int))),(29,(.slice s0 x2.length t0)),(30,(.int .i64 (x2.length:Int))),(31,(.int .i64 (b2:Int))),(47,(.slice d3 o1.length e3))]) _ (fun p1 c2 w'=>∃ O':Lab,Bs w A w' O'∧Vb w' (Fr 0 w' O') (.slice s0 x2.length t0) x2∧Lc 2 w' O' i1 26 [(.slice w0 x0.vars.length y0),(.slice z0 x0.init.length a1),(.slice b1 x0.goal.length c1),(.slice d1 x0.jobs.length e1)]∧Vb w' (Fr 0 w' O') (.slice w0 x0.vars.length y0) x0.vars∧Vb w' (Fr 0 w' O') (.slice z0 x0.init.length a1) x0.init∧Vb w' (Fr 0 w' O') (.slice b1 x0.goal.length c1) x0.goal∧Vb w' (Fr 0 w' O') (.slice d1 x0.jobs.length e1) x0.jobs∧Rw 3 w' O' 3 (.slice g1 f1.length h1) p1∧Rw 4 w' O' 4 (.slice (some ⟨k1,0,none⟩) [true,false].length 2) [true,false]∧Vb w' (Fr 0 w' O') (.slice d3 o1.length e3) o1) _ () ⟨q4,hB,e0,g0,h9,i0,j0,f0,m0,k0,j1⟩ ⟨rfl,rfl,rfl,rfl,rfl,rfl,rfl,rfl,rfl,rfl,rfl,rfl,rfl,rfl,rfl,rfl,trivial⟩ (fun _ _=>⟨rfl,rfl⟩) (fun _ _=>⟨rfl,rfl,rfl,rfl,rfl,rfl,rfl,rfl,rfl,rfl,rfl,rfl,rfl,trivial⟩) (fun _ _ _ ⟨O',hB,e0,g0,h9,i0,j0,f0,p0,k0,j1⟩=>⟨O',hB,e0,g0,h9,i0,j0,f0,p0,k0⟩) ⟨rfl,rfl,rfl⟩ ⟨rfl,rfl⟩ ?_
     rintro r4 q2 p1 c2 c6 f5 h2 ⟨s4,hB,e0,g0,h9,i0,j0,f0,p0,k0,j1⟩ w1 q3 r3
     have rk159:inI64 (r4:Int):=rngK h2 o2
     refine Ab (Aa ?_)
     obtain ⟨d6,e6,g5,g3,h3,i3,rfl,f6,t4⟩:=j1.elem' h2
     refine Bi (hA:=g3) (hj:=rfl) (hlt:=h3) rfl rfl ?_
     refine Bd (hl:=rfl) (hc:=i3) rfl ?_
     refine AU 6 s4 fun u4 g6 v4 q0 q1=>?_
     refine Az q1 rfl rfl rfl (AJ) (allOne) fun w4 r0 q1=>?_
     replace q1:Lc 6 w4 v4 u4 78 [(.int .i64 q2.var),(.int .i64 q2.val)]:=q1
     refine o_z ?_
     refine Aa (Ak rfl (Ax rfl (At (hc:=Blk.cell (i:=0) (q1.1) rfl) rfl ?_)))
     refine Ax rfl (At (hc:=Blk.cell (i:=1) (q1.1) rfl) rfl ?_)
     obtain ⟨h6,x4,w1⟩:=bs w1
     obtain ⟨y4,j3⟩:=EI x4
     replace p0:=(p0.st q0).st r0
     obtain ⟨i6,j6,h5,i2,k3,i5,rfl,k6⟩:=p0.elem j3
     refine Bi (hA:=i2) (hj:=(Int.toNat_of_nonneg y4).symm) (hlt:=k3) rfl rfl ?_
     refine Nt rfl p0 (a:=q2.val) (vInt t4) i2 rfl rfl (BR j3) fun l6 v0 p0=>?_
     refine o_z ?_
     obtain rfl:=sm w1
     exact show Exists _ from ⟨_,(),rfl,⟨rfl,rfl,rfl,rfl,rfl,rfl,rfl,rfl,rfl,rfl,rfl,rfl,rfl,rfl,rfl,rfl,trivial⟩,_,((hB.st q0).st r0).st v0,((e0.st q0).st r0).st v0,((g0.st q0).st r0).st v0,((h9.st q0).st r0).st v0,((i0.st q0).st r0).st v0,((j0.st q0).st r0).st v0,((f0.st q0).st r0).st v0,p0,((k0.st q0).st r0).st v0,((j1.st q0).st r0).st v0⟩
    replace hB:=hB.st l0
    replace e0:=e0.st l0
    replace h9:=h9.st l0
    replace i0:=i0.st l0
    replace j0:=j0.st l0
    replace f0:=f0.st l0
    replace g0:=g0.st l0
    replace k0:=k0.st l0
    rintro m6 n6 ⟨o6,p6,rfl,h0,q6,hB,e0,g0,h9,i0,j0,f0,p0,k0⟩
    replace d0:=AR d0
    obtain rfl:=sm d0
    exact show Exists _ from ⟨_,(),rfl,⟨(Ar h0 _ _ rfl),(Ar h0 _ _ rfl),(Ar h0 _ _ rfl),(Ar h0 _ _ rfl),(Ar h0 _ _ rfl),(Ar h0 _ _ rfl),(Ar h0 _ _ rfl),(Ar h0 _ _ rfl),(Ar h0 _ _ rfl),(Ar h0 _ _ rfl),(Ar h0 _ _ rfl),(Ar h0 _ _ rfl),(Ar h0 _ _ rfl),trivial⟩,_,hB,e0,g0,h9,i0,j0,f0,p0,k0⟩
   rintro r6 s6 ⟨t6,u6,rfl,o0,w6,hB,e0,g0,h9,i0,j0,f0,m0,k0⟩
   replace s1:=AR s1
   obtain rfl:=sm s1
   exact show Exists _ from ⟨_,(),rfl,⟨(Ar o0 _ _ rfl),(Ar o0 _ _ rfl),(Ar o0 _ _ rfl),(Ar o0 _ _ rfl),(Ar o0 _ _ rfl),(Ar o0 _ _ rfl),(Ar o0 _ _ rfl),(Ar o0 _ _ rfl),(Ar o0 _ _ rfl),trivial⟩,_,hB,e0,g0,h9,i0,j0,f0,m0,k0⟩
  rintro x6 y6 ⟨z6,a7,rfl,u0,b7,hB,e0,g0,h9,i0,j0,f0,w2,k0⟩
  replace r1:=AR r1
  obtain rfl:=sm r1
  exact show Exists _ from ⟨_,(),rfl,⟨(Ar u0 _ _ rfl),(Ar u0 _ _ rfl),(Ar u0 _ _ rfl),(Ar u0 _ _ rfl),(Ar u0 _ _ rfl),(Ar u0 _ _ rfl),trivial⟩,_,hB,e0,g0,h9,i0,j0,f0,w2,k0⟩
 replace hB:=((hB.st d2).st e2).st z1
 rintro c7 z4 ⟨d7,e7,rfl,l3,f7,hB,j2⟩
 replace hm:=AR hm
 refine AH _ l3 ?_
 refine Ab (Aa (Ak rfl (Am rfl (o_z ?_))))
 refine AF ?_
 obtain ⟨a5,b5,j2⟩:=j2.freeze
 obtain rfl:=sm hm
 replace hB:=hB.st b5
 exact ret1v rfl (AA rfl) ⟨hB.ext,(Vb.mono (F:=Fr 0 z4 a5) j2 hB.out)⟩
noncomputable def EL (x0:Tpl) (x1:List Lch) (x2:Int) (x3:List Int) (x4:List Hap):Option ((List Int)×Err) :=
  bnd (DA x0 x1 x2) fun q34=>if q34=true then some (([]:List Int),(⟨18⟩:Err)) else bnd (rng (ρ:=(List Int)×Err) (fun (k47:Nat) (a48:Hap) (s45:Unit)=>bnd (rngN (ρ:=Ctl Unit ((List Int)×Err)) (fun (k62:Nat) (s60:Unit)=>bnd (x4[k62]?) fun a81=>bnd (Fq x0 a48 a81) fun q91=>if q91=true then some (.ret (.ret (([]:List Int),(⟨17⟩:Err)))) else some (.next ())) k47 ()) fun res58=>fin res58 fun (s102:Unit)=>some (.next ())) x4 0 ()) fun res43=>fin res43 fun (s108:Unit)=>bnd (rng (ρ:=(List Int)×Err) (fun (k116:Nat) (a117:Hap) (s114:Unit)=>bnd (Et x0 a117) fun q142=>bnd (EX q142 x3) fun q151=>if q151=true then some (.next ()) else some (.ret (([]:List Int),(⟨12⟩:Err)))) x4 0 ()) fun res112=>fin res112 fun (s162:Unit)=>bnd (Eu x0 x3 x4) fun q164=>bnd (rng (ρ:=(List Int)×Err) (fun (k179:Nat) (a180:Lch) (s177:Unit)=>bnd (if a180.tm≤x2 then (bnd (Da x0 a180) fun q211=>if x2 < q211 then (bnd (atI x0.jobs a180.job) fun a220=>bnd (EX a220.over q164) fun q253=>if q253=true then some false else some true) else (some false)) else (some false):Option Bool) fun y206=>if y206=true then (some (.ret (([]:List Int),(⟨16⟩:Err)))) else (some (.next ()))) x1 0 ()) fun res175=>fin res175 fun (s269:Unit)=>some (q164,(⟨0⟩:Err))
theorem LO {w:World} {A:Nat→Prop} (hA:∀ k,A k→k < w.heap.size) {vx0:Value} {x0:Tpl} (z3:Vb w A vx0 x0) {vx1:Value} {x1:List Lch} (j0:Vb w A vx1 x1) {x2:Int} (rx2:inI64 x2) {vx3:Value} {x3:List Int} (o0:Vb w A vx3 x3) {vx4:Value} {x4:List Hap} (n0:Vb w A vx4 x4) {r:(List Int)×Err} (hm:EL x0 x1 x2 x3 x4=some r) :
    Fn prog 72 [vx0,vx1,(.int .i64 x2),vx3,vx4] w fun v w'=>Ext w w'∧T2 w' (upA A w w') v r:=by
 obtain ⟨O,hB,r3⟩:=enter hA
 replace z3:=z3.mono r3
 obtain ⟨p9,rfl,v7,v8,v9,q9,rfl,f0,g0,h0,d0⟩:=z3
 obtain ⟨r0,s0,rfl⟩:=f0.form
 obtain ⟨t0,u0,rfl⟩:=g0.form
 obtain ⟨v0,w0,rfl⟩:=h0.form
 obtain ⟨y0,z0,rfl⟩:=d0.form
 replace j0:=j0.mono r3
 obtain ⟨k1,l1,rfl⟩:=j0.form
 replace o0:=o0.mono r3
 obtain ⟨r1,s1,rfl⟩:=o0.form
 replace n0:=n0.mono r3
 obtain ⟨m1,n1,rfl⟩:=n0.form
 refine AL func72 rfl ntmps72 ?_
 unfold EL at hm
 refine Ab (Aa (BL 2 O rfl fun i1 g6 a4 t1 e0=>?_))
 replace e0:Lc 2 g6 a4 i1 26 [(.slice r0 x0.vars.length s0),(.slice t0 x0.init.length u0),(.slice v0 x0.goal.length w0),(.slice y0 x0.jobs.length z0)]:=e0
 refine Am rfl (Am rfl (o_z ?_))
 refine Ab (Ab (Aa (Bd (hl:=rfl) (hc:=(e0.1).cellsAt) rfl ?_)))
 refine Ak rfl (Ak rfl ?_)
 obtain ⟨n6,o6,hm⟩:=bs hm
 replace j0:=j0.st t1
 replace f0:=f0.st t1
 replace g0:=g0.st t1
 replace h0:=h0.st t1
 replace d0:=d0.st t1
 refine AM (O:=a4) (JF (fun _ h=>h) (Vb.mono (F:=Fr 0 g6 a4) (Vb.ofAgg (cs:=[(.slice r0 x0.vars.length s0),(.slice t0 x0.init.length u0),(.slice v0 x0.goal.length w0),(.slice y0 x0.jobs.length z0)]) (x:=x0) rfl ⟨_,_,_,_,rfl,f0,g0,h0,d0⟩) Fr.lt) (vMo j0) rx2 o6) rfl fun r9 p6 h6 h1 q6=>?_
 obtain rfl:=q6.bool
 cases n6
 case false =>
  replace hm:=iF hm
  refine o_z ?_
  refine Ae rfl (AO (Ab (Ab (Aa (Ak rfl (AS rfl ?_))))))
  replace n0:=(n0.st t1).st h1
  have b4:x4.length≤9223372036854775807:=Nat.le_trans n0.len.2.1 n0.len.2.2
  have s9:inI64 (x4.length:Int):=rngNat b4
  refine Ak rfl (o_z ?_)
  obtain ⟨s2,c4,hm⟩:=bs hm
  refine Ay (aft s2 (fun (s3:Unit) (t3:Unit)=>[(1,(.slice k1 x1.length l1)),(2,(.int .i64 x2)),(3,(.slice r1 x3.length s1)),(4,(.slice m1 x4.length n1)),(5,(.pointer (some ⟨i1,0,none⟩)))]) (fun s3 t3 w'=>∃ O':Lab,Bs w A w' O'∧Vb w' (Fr 0 w' O') (.slice k1 x1.length l1) x1∧Vb w' (Fr 0 w' O') (.slice r1 x3.length s1) x3∧Vb w' (Fr 0 w' O') (.slice m1 x4.length n1) x4∧Lc 2 w' O' i1 26 [(.slice r0 x0.vars.length s0),(.slice t0 x0.init.length u0),(.slice v0 x0.goal.length w0),(.slice y0 x0.jobs.length z0)]∧Vb w' (Fr 0 w' O') (.slice r0 x0.vars.length s0) x0.vars∧Vb w' (Fr 0 w' O') (.slice t0 x0.init.length u0) x0.init∧Vb w' (Fr 0 w' O') (.slice v0 x0.goal.length w0) x0.goal∧Vb w' (Fr 0 w' O') (.slice y0 x0.jobs.length z0) x0.jobs)) ?_ ?_
  ·
   refine AK ?_
   replace hB:=(hB.st t1).st h1
   replace j0:=j0.st h1
   replace o0:=(o0.st t1).st h1
   replace f0:=f0.st h1
   replace g0:=g0.st h1
   replace h0:=h0.st h1
   replace d0:=d0.st h1
   replace e0:=e0.st h1
   refine AY (σ:=Unit) (X:=Unit) (x4.length) c4 rfl b4 (fun (s3:Unit) (t3:Unit)=>[(1,(.slice k1 x1.length l1)),(2,(.int .i64 x2)),(3,(.slice r1 x3.length s1)),(4,(.slice m1 x4.length n1)),(5,(.pointer (some ⟨i1,0,none⟩)))]) _ (fun s3 t3 w'=>∃ O':Lab,Bs w A w' O'∧Vb w' (Fr 0 w' O') (.slice k1 x1.length l1) x1∧Vb w' (Fr 0 w' O') (.slice r1 x3.length s1) x3∧Vb w' (Fr 0 w' O') (.slice m1 x4.length n1) x4∧Lc 2 w' O' i1 26 [(.slice r0 x0.vars.length s0),(.slice t0 x0.init.length u0),(.slice v0 x0.goal.length w0),(.slice y0 x0.jobs.length z0)]∧Vb w' (Fr 0 w' O') (.slice r0 x0.vars.length s0) x0.vars∧Vb w' (Fr 0 w' O') (.slice t0 x0.init.length u0) x0.init∧Vb w' (Fr 0 w' O') (.slice v0 x0.goal.length w0) x0.goal∧Vb w' (Fr 0 w' O') (.slice y0 x0.jobs.length z0) x0.jobs) _ () ⟨h6,hB,j0,o0,n0,e0,f0,g0,h0,d0⟩ ⟨rfl,rfl,rfl,rfl,rfl,rfl,rfl,trivial⟩ (fun _ _=>⟨rfl,rfl⟩) (fun _ _=>⟨rfl,rfl,rfl,rfl,rfl,trivial⟩) (fun _ _ _ ⟨O',hB,j0,o0,n0,e0,f0,g0,h0,d0⟩=>⟨O',hB,j0,o0,n0,e0,f0,g0,h0,d0⟩) ⟨rfl,rfl,rfl⟩ ⟨rfl,rfl⟩ ?_
   rintro t2 d4 s3 t3 t9 r6 u2 ⟨s6,hB,j0,o0,n0,e0,f0,g0,h0,d0⟩ o1 i2 e4
   have rk47:inI64 (t2:Int):=rngK u2 b4
   refine Ab (Aa (Ak rfl (Am rfl (o_z ?_))))
   refine Ab (Aa (Ak rfl (Ak rfl (o_z ?_))))
   obtain ⟨v2,f4,o1⟩:=bs o1
   refine Ay (aft v2 (fun (u3:Unit) (v3:Unit)=>[(1,(.slice k1 x1.length l1)),(2,(.int .i64 x2)),(3,(.slice r1 x3.length s1)),(4,(.slice m1 x4.length n1)),(5,(.pointer (some ⟨i1,0,none⟩))),(25,(.int .i64 (x4.length:Int))),(26,(.int .i64 (t2:Int)))]) (fun u3 v3 w'=>∃ O':Lab,Bs w A w' O'∧Vb w' (Fr 0 w' O') (.slice k1 x1.length l1) x1∧Vb w' (Fr 0 w' O') (.slice r1 x3.length s1) x3∧Vb w' (Fr 0 w' O') (.slice m1 x4.length n1) x4∧Lc 2 w' O' i1 26 [(.slice r0 x0.vars.length s0),(.slice t0 x0.init.length u0),(.slice v0 x0.goal.length w0),(.slice y0 x0.jobs.length z0)]∧Vb w' (Fr 0 w' O') (.slice r0 x0.vars.length s0) x0.vars∧Vb w' (Fr 0 w' O') (.slice t0 x0.init.length u0) x0.init∧Vb w' (Fr 0 w' O') (.slice v0 x0.goal.length w0) x0.goal∧Vb w' (Fr 0 w' O') (.slice y0 x0.jobs.length z0) x0.jobs)) ?_ ?_
   ·
    refine AK (Fp (σ:=Unit) (X:=Unit) (t2) f4 (rngNat' rk47) (fun (u3:Unit) (v3:Unit)=>[(1,(.slice k1 x1.length l1)),(2,(.int .i64 x2)),(3,(.slice r1 x3.length s1)),(4,(.slice m1 x4.length n1)),(5,(.pointer (some ⟨i1,0,none⟩))),(12,(.int .i64 (t2:Int))),(25,(.int .i64 (x4.length:Int))),(26,(.int .i64 (t2:Int)))]) _ (fun u3 v3 w'=>∃ O':Lab,Bs w A w' O'∧Vb w' (Fr 0 w' O') (.slice k1 x1.length l1) x1∧Vb w' (Fr 0 w' O') (.slice r1 x3.length s1) x3∧Vb w' (Fr 0 w' O') (.slice m1 x4.length n1) x4∧Lc 2 w' O' i1 26 [(.slice r0 x0.vars.length s0),(.slice t0 x0.init.length u0),(.slice v0 x0.goal.length w0),(.slice y0 x0.jobs.length z0)]∧Vb w' (Fr 0 w' O') (.slice r0 x0.vars.length s0) x0.vars∧Vb w' (Fr 0 w' O') (.slice t0 x0.init.length u0) x0.init∧Vb w' (Fr 0 w' O') (.slice v0 x0.goal.length w0) x0.goal∧Vb w' (Fr 0 w' O') (.slice y0 x0.jobs.length z0) x0.jobs) _ () ⟨s6,hB,j0,o0,n0,e0,f0,g0,h0,d0⟩ ⟨rfl,rfl,rfl,rfl,rfl,rfl,rfl,rfl,rfl,rfl,trivial⟩ (fun _ _=>⟨rfl,rfl⟩) (fun _ _=>⟨rfl,rfl,rfl,rfl,rfl,rfl,rfl,trivial⟩) (fun _ _ _ ⟨O',hB,j0,o0,n0,e0,f0,g0,h0,d0⟩=>⟨O',hB,j0,o0,n0,e0,f0,g0,h0,d0⟩) ⟨rfl,rfl,rfl⟩ ⟨rfl,rfl⟩ ?_)
    rintro t6 u3 v3 g4 u6 h4 ⟨w2,hB,j0,o0,n0,e0,f0,g0,h0,d0⟩ a1 j2 i4
    have rk62:inI64 (t6:Int):=rngKN h4 (rngNat' rk47)
    refine Ab (Aa (Ak rfl (Am rfl (o_z ?_))))
    refine Ab (Br [] w2 ?_)
    refine AP (fuel:=1) [] [(0,true),(1,true),(2,true),(3,true),(4,true),(5,true),(6,true),(7,true),(8,true)] rfl ?_
    refine CJ (hl:=rfl) (hb:=fun w' ⟨O',hq⟩=>((e0.st hq (by decide)).1).cellsAt) rfl rfl ?_
    refine AX rfl rfl (AX rfl rfl ?_)
    obtain ⟨u9,w9,v6,j4,k4,l4,m4,rfl,w6⟩:=n0.elem u2
    refine CK (hA:=j4) (hj:=rfl) (hlt:=l4) rfl rfl rfl ?_
    refine CJ (hl:=rfl) (hb:=fun w' ⟨O',hq⟩=>(Bp (hq.agree (i:=0) (by decide)) k4 m4)) rfl rfl ?_
    refine AX rfl rfl (AX rfl rfl ?_)
    obtain ⟨n4,x6,a1⟩:=bs a1
    obtain ⟨x9,y9,y6,o4,p4,q4,r4,rfl,z6⟩:=n0.elem x6
    refine CK (hA:=o4) (hj:=rfl) (hlt:=q4) rfl rfl rfl ?_
    refine CJ (hl:=rfl) (hb:=fun w' ⟨O',hq⟩=>(Bp (hq.agree (i:=0) (by decide)) p4 r4)) rfl rfl ?_
    refine AC ?_
    refine AD (i:=9) rfl ?_
    obtain ⟨a7,b7,a1⟩:=bs a1
    refine AM (O:=w2) (Jk (fun _ h=>h) (Vb.mono (F:=Fr 0 g4 w2) (Vb.ofAgg (cs:=[(.slice r0 x0.vars.length s0),(.slice t0 x0.init.length u0),(.slice v0 x0.goal.length w0),(.slice y0 x0.jobs.length z0)]) (x:=x0) rfl ⟨_,_,_,_,rfl,f0,g0,h0,d0⟩) Fr.lt) (Vb.mono (F:=Fr 0 g4 w2) (Vb.ofAgg (cs:=[(.int .i64 d4.job),(.bool d4.fin)]) (x:=d4) rfl ⟨rfl,w6⟩) Fr.lt) (Vb.mono (F:=Fr 0 g4 w2) (Vb.ofAgg (cs:=[(.int .i64 n4.job),(.bool n4.fin)]) (x:=n4) rfl ⟨rfl,z6⟩) Fr.lt) b7) rfl fun z9 c7 d7 y1 e7=>?_
    obtain rfl:=e7.bool
    cases a7
    case false =>
     replace a1:=iF a1
     refine BF ?_
     refine Bv ?_
     refine Ae rfl (AO ?_)
     obtain rfl:=sm a1
     exact show Exists _ from ⟨_,(),rfl,⟨rfl,rfl,rfl,rfl,rfl,rfl,rfl,rfl,rfl,rfl,trivial⟩,_,hB.st y1,j0.st y1,o0.st y1,n0.st y1,e0.st y1,f0.st y1,g0.st y1,h0.st y1,d0.st y1⟩
    replace a1:=iT a1
    refine BF ?_
    refine Bv ?_
    refine Ah rfl (Ab (Aa (Gd rfl ?_)))
    refine Am rfl (Am rfl (o_z ?_))
    refine AF ?_
    obtain rfl:=sm a1
    obtain rfl:=j2 _ rfl
    obtain rfl:=sm (BY o1)
    obtain rfl:=i2 _ rfl
    obtain rfl:=sm (BY hm)
    replace hB:=hB.st y1
    exact ret2 rfl (AA rfl) (AA rfl) ⟨hB.ext,_,_,rfl,(Vb.mono (F:=Fr 0 c7 d7) (Vb.nil _ _) hB.out),(vErr)⟩
   rintro aA bA ⟨f7,g7,rfl,q0,h7,hB,j0,o0,n0,e0,f0,g0,h0,d0⟩
   replace o1:=AR o1
   obtain rfl:=sm o1
   exact show Exists _ from ⟨_,(),rfl,⟨(Ar q0 _ _ rfl),(Ar q0 _ _ rfl),(Ar q0 _ _ rfl),(Ar q0 _ _ rfl),(Ar q0 _ _ rfl),(Ar q0 _ _ rfl),(Ar q0 _ _ rfl),trivial⟩,_,hB,j0,o0,n0,e0,f0,g0,h0,d0⟩
  replace hB:=(hB.st t1).st h1
  replace j0:=j0.st h1
  replace o0:=(o0.st t1).st h1
  replace f0:=f0.st h1
  replace g0:=g0.st h1
  replace h0:=h0.st h1
  replace d0:=d0.st h1
  replace e0:=e0.st h1
  rintro i7 j7 ⟨k7,l7,rfl,y2,s4,hB,j0,o0,n0,e0,f0,g0,h0,d0⟩
  replace hm:=AR hm
  refine AH _ y2 ?_
  refine Ab (Ab (Aa (Ak rfl (AS rfl ?_))))
  have k2:x4.length≤9223372036854775807:=Nat.le_trans n0.len.2.1 n0.len.2.2
  have m7:inI64 (x4.length:Int):=rngNat k2
  refine Ak rfl (o_z ?_)
  obtain ⟨l2,z2,hm⟩:=bs hm
  refine Ay (aft l2 (fun (z1:Unit) (a2:Unit)=>[(1,(.slice k1 x1.length l1)),(2,(.int .i64 x2)),(3,(.slice r1 x3.length s1)),(4,(.slice m1 x4.length n1)),(5,(.pointer (some ⟨i1,0,none⟩)))]) (fun z1 a2 w'=>∃ O':Lab,Bs w A w' O'∧Vb w' (Fr 0 w' O') (.slice k1 x1.length l1) x1∧Vb w' (Fr 0 w' O') (.slice r1 x3.length s1) x3∧Vb w' (Fr 0 w' O') (.slice m1 x4.length n1) x4∧Lc 2 w' O' i1 26 [(.slice r0 x0.vars.length s0),(.slice t0 x0.init.length u0),(.slice v0 x0.goal.length w0),(.slice y0 x0.jobs.length z0)]∧Vb w' (Fr 0 w' O') (.slice r0 x0.vars.length s0) x0.vars∧Vb w' (Fr 0 w' O') (.slice t0 x0.init.length u0) x0.init∧Vb w' (Fr 0 w' O') (.slice v0 x0.goal.length w0) x0.goal∧Vb w' (Fr 0 w' O') (.slice y0 x0.jobs.length z0) x0.jobs)) ?_ ?_
  ·
   refine AK (AY (σ:=Unit) (X:=Unit) (x4.length) z2 rfl k2 (fun (z1:Unit) (a2:Unit)=>[(1,(.slice k1 x1.length l1)),(2,(.int .i64 x2)),(3,(.slice r1 x3.length s1)),(4,(.slice m1 x4.length n1)),(5,(.pointer (some ⟨i1,0,none⟩))),(46,(.slice m1 x4.length n1))]) _ (fun z1 a2 w'=>∃ O':Lab,Bs w A w' O'∧Vb w' (Fr 0 w' O') (.slice k1 x1.length l1) x1∧Vb w' (Fr 0 w' O') (.slice r1 x3.length s1) x3∧Vb w' (Fr 0 w' O') (.slice m1 x4.length n1) x4∧Lc 2 w' O' i1 26 [(.slice r0 x0.vars.length s0),(.slice t0 x0.init.length u0),(.slice v0 x0.goal.length w0),(.slice y0 x0.jobs.length z0)]∧Vb w' (Fr 0 w' O') (.slice r0 x0.vars.length s0) x0.vars∧Vb w' (Fr 0 w' O') (.slice t0 x0.init.length u0) x0.init∧Vb w' (Fr 0 w' O') (.slice v0 x0.goal.length w0) x0.goal∧Vb w' (Fr 0 w' O') (.slice y0 x0.jobs.length z0) x0.jobs) _ () ⟨s4,hB,j0,o0,n0,e0,f0,g0,h0,d0⟩ ⟨rfl,rfl,rfl,rfl,rfl,rfl,rfl,rfl,trivial⟩ (fun _ _=>⟨rfl,rfl⟩) (fun _ _=>⟨rfl,rfl,rfl,rfl,rfl,trivial⟩) (fun _ _ _ ⟨O',hB,j0,o0,n0,e0,f0,g0,h0,d0⟩=>⟨O',hB,j0,o0,n0,e0,f0,g0,h0,d0⟩) ⟨rfl,rfl,rfl⟩ ⟨rfl,rfl⟩ ?_)
   rintro t4 u1 z1 a2 n7 i6 g2 ⟨u4,hB,j0,o0,n0,e0,f0,g0,h0,d0⟩ m0 b2 w3
   have rk116:inI64 (t4:Int):=rngK g2 k2
   refine Ab (Aa ?_)
   obtain ⟨o7,p7,j6,a3,b3,c3,rfl,v4⟩:=n0.elem' g2
   refine Bi (hA:=a3) (hj:=rfl) (hlt:=b3) rfl rfl ?_
   refine Bd (hl:=rfl) (hc:=c3) rfl ?_
   refine AU 3 u4 fun w4 q7 d3 b1 v1=>?_
   refine Az v1 rfl rfl rfl (AJ) (allOne) fun y4 c1 v1=>?_
   replace v1:Lc 3 y4 d3 w4 182 [(.int .i64 u1.job),(.bool u1.fin)]:=v1
   refine o_z ?_
   refine Ab (Aa ?_)
   replace e0:=(e0.st b1).st c1
   refine Bd (hl:=rfl) (hc:=(e0.1).cellsAt) rfl ?_
   refine Bd (hl:=rfl) (hc:=(v1.1).cellsAt) rfl ?_
   obtain ⟨r7,z4,m0⟩:=bs m0
   replace f0:=(f0.st b1).st c1
   replace g0:=(g0.st b1).st c1
   replace h0:=(h0.st b1).st c1
   replace d0:=(d0.st b1).st c1
   refine Cc (O:=d3) (Ll Fr.lt (Vb.ofAgg (cs:=[(.slice r0 x0.vars.length s0),(.slice t0 x0.init.length u0),(.slice v0 x0.goal.length w0),(.slice y0 x0.jobs.length z0)]) (x:=x0) rfl ⟨_,_,_,_,rfl,f0,g0,h0,d0⟩) (Vb.ofAgg (cs:=[(.int .i64 u1.job),(.bool u1.fin)]) (x:=u1) rfl ⟨rfl,v4⟩) z4) rfl fun s7 t7 a5 d1 e3=>?_
   obtain ⟨u7,w7,rfl⟩:=e3.form
   refine Ak rfl ?_
   obtain ⟨b5,c5,m0⟩:=bs m0
   replace o0:=((o0.st b1).st c1).st d1
   refine AM (O:=a5) (Id (fun _ h=>h) (vMo e3) (vMo o0) c5) rfl fun x7 d5 e5 e1 f5=>?_
   obtain rfl:=f5.bool
   cases b5
   case false =>
    replace m0:=iF m0
    refine Dl rfl (o_z ?_)
    refine Ah rfl (Ab (Aa (Gd rfl ?_)))
    refine Am rfl (Am rfl (o_z ?_))
    refine AF ?_
    obtain rfl:=sm m0
    obtain rfl:=b2 _ rfl
    obtain rfl:=sm (BY hm)
    replace hB:=(((hB.st b1).st c1).st d1).st e1
    exact ret2 rfl (AA rfl) (AA rfl) ⟨hB.ext,_,_,rfl,(Vb.mono (F:=Fr 0 d5 e5) (Vb.nil _ _) hB.out),(vErr)⟩
   replace m0:=iT m0
   refine Dk rfl (o_z ?_)
   refine Ae rfl (AO ?_)
   obtain rfl:=sm m0
   exact show Exists _ from ⟨_,(),rfl,⟨rfl,rfl,rfl,rfl,rfl,rfl,rfl,rfl,trivial⟩,_,(((hB.st b1).st c1).st d1).st e1,(((j0.st b1).st c1).st d1).st e1,o0.st e1,(((n0.st b1).st c1).st d1).st e1,(e0.st d1).st e1,(f0.st d1).st e1,(g0.st d1).st e1,(h0.st d1).st e1,(d0.st d1).st e1⟩
  rintro y7 z7 ⟨a8,b8,rfl,f3,g5,hB,j0,o0,n0,e0,f0,g0,h0,d0⟩
  replace hm:=AR hm
  refine AH _ f3 ?_
  refine Ab (Aa (Bd (hl:=rfl) (hc:=(e0.1).cellsAt) rfl ?_))
  refine Ak rfl (Ak rfl ?_)
  obtain ⟨f1,h5,hm⟩:=bs hm
  refine Cc (O:=g5) (Lm Fr.lt (Vb.ofAgg (cs:=[(.slice r0 x0.vars.length s0),(.slice t0 x0.init.length u0),(.slice v0 x0.goal.length w0),(.slice y0 x0.jobs.length z0)]) (x:=x0) rfl ⟨_,_,_,_,rfl,f0,g0,h0,d0⟩) o0 n0 h5) rfl fun c8 d8 i5 j1 k0=>?_
  obtain ⟨p1,q1,rfl⟩:=k0.form
  refine Am rfl (o_z ?_)
  refine Ab (Ab (Aa (Ak rfl (AS rfl ?_))))
  replace j0:=j0.st j1
  have m2:x1.length≤9223372036854775807:=Nat.le_trans j0.len.2.1 j0.len.2.2
  have e8:inI64 (x1.length:Int):=rngNat m2
  refine Ak rfl (o_z ?_)
  obtain ⟨n2,g3,hm⟩:=bs hm
  refine Ay (aft n2 (fun (c2:Unit) (d2:Unit)=>[(16,(.slice p1 f1.length q1))]) (fun c2 d2 w'=>∃ O':Lab,Bs w A w' O'∧Vb w' (Fr 0 w' O') (.slice p1 f1.length q1) f1)) ?_ ?_
  ·
   refine AK ?_
   replace hB:=hB.st j1
   replace f0:=f0.st j1
   replace g0:=g0.st j1
   replace h0:=h0.st j1
   replace d0:=d0.st j1
   replace e0:=e0.st j1
   refine AY (σ:=Unit) (X:=Unit) (x1.length) g3 rfl m2 (fun (c2:Unit) (d2:Unit)=>[(2,(.int .i64 x2)),(5,(.pointer (some ⟨i1,0,none⟩))),(16,(.slice p1 f1.length q1)),(64,(.slice k1 x1.length l1))]) _ (fun c2 d2 w'=>∃ O':Lab,Bs w A w' O'∧Lc 2 w' O' i1 26 [(.slice r0 x0.vars.length s0),(.slice t0 x0.init.length u0),(.slice v0 x0.goal.length w0),(.slice y0 x0.jobs.length z0)]∧Vb w' (Fr 0 w' O') (.slice r0 x0.vars.length s0) x0.vars∧Vb w' (Fr 0 w' O') (.slice t0 x0.init.length u0) x0.init∧Vb w' (Fr 0 w' O') (.slice v0 x0.goal.length w0) x0.goal∧Vb w' (Fr 0 w' O') (.slice y0 x0.jobs.length z0) x0.jobs∧Vb w' (Fr 0 w' O') (.slice p1 f1.length q1) f1∧Vb w' (Fr 0 w' O') (.slice k1 x1.length l1) x1) _ () ⟨i5,hB,e0,f0,g0,h0,d0,k0,j0⟩ ⟨rfl,rfl,rfl,rfl,rfl,rfl,trivial⟩ (fun _ _=>⟨rfl,rfl⟩) (fun _ _=>⟨rfl,trivial⟩) (fun _ _ _ ⟨O',hB,e0,f0,g0,h0,d0,k0,j0⟩=>⟨O',hB,k0⟩) ⟨rfl,rfl,rfl⟩ ⟨rfl,rfl⟩ ?_
   rintro h3 w1 c2 d2 f8 k6 h2 ⟨j5,hB,e0,f0,g0,h0,d0,k0,j0⟩ p0 e2 y3
   have rk179:inI64 (h3:Int):=rngK h2 m2
   refine Ab (Aa ?_)
   obtain ⟨g8,h8,l6,i3,j3,k3,rfl,k5,l5⟩:=j0.elem' h2
   refine Bi (hA:=i3) (hj:=rfl) (hlt:=j3) rfl rfl ?_
   refine Bd (hl:=rfl) (hc:=k3) rfl ?_
   refine AU 4 j5 fun m5 i8 f2 b0 g1=>?_
   refine Az g1 rfl rfl rfl (AJ) (allOne) fun o2 c0 g1=>?_
   replace g1:Lc 4 o2 f2 m5 52 [(.int .i64 w1.tm),(.int .i64 w1.job)]:=g1
   refine o_z ?_
   refine Ab ?_
   obtain ⟨n5,a0,p0⟩:=bs p0
   refine Ay (fun l' w'=>∃ (o5:Unit) (O':Lab),subs l' [(2,(.int .i64 x2)),(5,(.pointer (some ⟨i1,0,none⟩))),(16,(.slice p1 f1.length q1)),(64,(.slice k1 x1.length l1)),(65,(.int .i64 (x1.length:Int))),(66,(.int .i64 (h3:Int))),(92,(.bool n5))]∧Bs w A w' O'∧Lc 2 w' O' i1 26 [(.slice r0 x0.vars.length s0),(.slice t0 x0.init.length u0),(.slice v0 x0.goal.length w0),(.slice y0 x0.jobs.length z0)]∧Vb w' (Fr 0 w' O') (.slice r0 x0.vars.length s0) x0.vars∧Vb w' (Fr 0 w' O') (.slice t0 x0.init.length u0) x0.init∧Vb w' (Fr 0 w' O') (.slice v0 x0.goal.length w0) x0.goal∧Vb w' (Fr 0 w' O') (.slice y0 x0.jobs.length z0) x0.jobs∧Vb w' (Fr 0 w' O') (.slice p1 f1.length q1) f1∧Vb w' (Fr 0 w' O') (.slice k1 x1.length l1) x1) ?_ ?_
   ·
    refine Aa (Ax rfl (At (hc:=Blk.cell (i:=0) (g1.1) rfl) rfl ?_))
    refine Ak rfl (Ki rfl rfl rfl (fun p2=>?_) fun p2=>?_)
    ·
     replace a0:=ip a0 p2
     refine Ak rfl (An rfl rfl (Ak rfl (An rfl rfl ?_)))
     replace e0:=(e0.st b0).st c0
     refine Bd (hl:=rfl) (hc:=(e0.1).cellsAt) rfl ?_
     refine An rfl rfl (Bd (hl:=rfl) (hc:=(g1.1).cellsAt) rfl ?_)
     refine An rfl rfl ?_
     obtain ⟨j8,p5,a0⟩:=bs a0
     replace f0:=(f0.st b0).st c0
     replace g0:=(g0.st b0).st c0
     replace h0:=(h0.st b0).st c0
     replace d0:=(d0.st b0).st c0
     refine AM (O:=f2) (Db (fun _ h=>h) (Vb.mono (F:=Fr 0 o2 f2) (Vb.ofAgg (cs:=[(.slice r0 x0.vars.length s0),(.slice t0 x0.init.length u0),(.slice v0 x0.goal.length w0),(.slice y0 x0.jobs.length z0)]) (x:=x0) rfl ⟨_,_,_,_,rfl,f0,g0,h0,d0⟩) Fr.lt) (Vb.mono (F:=Fr 0 o2 f2) (Vb.ofAgg (cs:=[(.int .i64 w1.tm),(.int .i64 w1.job)]) (x:=w1) rfl ⟨rfl,k5,l5⟩) Fr.lt) p5) rfl fun k8 l8 q5 i0 r5=>?_
     obtain ⟨rfl,m8⟩:=r5.int
     refine An rfl rfl (Dm rfl rfl (fun q2=>?_) fun q2=>?_)
     ·
      replace a0:=ip a0 q2
      refine Bn rfl rfl (Ak rfl (An rfl rfl (Ax rfl (An rfl rfl ?_))))
      replace e0:=e0.st i0
      refine At (hc:=Blk.cell (i:=3) (e0.1) rfl) rfl ?_
      refine An rfl rfl (Ax rfl (An rfl rfl ?_))
      replace g1:=g1.st i0
      refine At (hc:=Blk.cell (i:=1) (g1.1) rfl) rfl ?_
      refine An rfl rfl ?_
      obtain ⟨n8,s5,a0⟩:=bs a0
      obtain ⟨t5,u5⟩:=EI s5
      replace d0:=d0.st i0
      obtain ⟨o8,p8,m6,l3,m3,n3,q8,r8,s8,t8,u8,rfl,v5,o3,w5,x5,y5,w8,x8⟩:=d0.elem' u5
      obtain ⟨y8,z8,rfl⟩:=v5.form
      obtain ⟨a9,b9,rfl⟩:=o3.form
      obtain ⟨c9,d9,rfl⟩:=w5.form
      obtain ⟨e9,f9,rfl⟩:=x5.form
      obtain ⟨g9,h9,rfl⟩:=y5.form
      refine Bi (hA:=l3) (hj:=(Int.toNat_of_nonneg t5).symm) (hlt:=m3) rfl rfl ?_
      refine An rfl rfl (Ax rfl (An rfl rfl (At (hc:=cat3 n3) rfl ?_)))
      refine An rfl rfl (Ak rfl (An rfl rfl ?_))
      obtain ⟨z5,a6,a0⟩:=bs a0
      replace k0:=((k0.st b0).st c0).st i0
      refine AM (O:=q5) (Id (fun _ h=>h) (vMo o3) (vMo k0) a6) rfl fun i9 j9 k9 l0 b6=>?_
      obtain rfl:=b6.bool
      cases z5
      case false =>
       replace a0:=iF a0
       refine An rfl rfl (Dl rfl (Bn rfl rfl (o_z ?_)))
       obtain rfl:=sm a0
       exact ⟨(),_,⟨rfl,rfl,rfl,rfl,rfl,rfl,rfl,trivial⟩,(((hB.st b0).st c0).st i0).st l0,e0.st l0,(f0.st i0).st l0,(g0.st i0).st l0,(h0.st i0).st l0,d0.st l0,k0.st l0,(((j0.st b0).st c0).st i0).st l0⟩
      replace a0:=iT a0
      refine An rfl rfl (Dk rfl (Bn rfl rfl (o_z ?_)))
      obtain rfl:=sm a0
      exact ⟨(),_,⟨rfl,rfl,rfl,rfl,rfl,rfl,rfl,trivial⟩,(((hB.st b0).st c0).st i0).st l0,e0.st l0,(f0.st i0).st l0,(g0.st i0).st l0,(h0.st i0).st l0,d0.st l0,k0.st l0,(((j0.st b0).st c0).st i0).st l0⟩
     replace a0:=im a0 q2
     refine Bn rfl rfl (Ak rfl (Al rfl rfl (Al rfl rfl (Al rfl rfl (Al rfl rfl (Al rfl rfl (Al rfl rfl (Al rfl rfl (Al rfl rfl (Al rfl rfl (Al rfl rfl (Bc rfl rfl (o_z ?_)))))))))))))
     obtain rfl:=sm a0
     exact ⟨(),_,⟨rfl,rfl,rfl,rfl,rfl,rfl,rfl,trivial⟩,((hB.st b0).st c0).st i0,e0.st i0,f0.st i0,g0.st i0,h0.st i0,d0.st i0,((k0.st b0).st c0).st i0,((j0.st b0).st c0).st i0⟩
    replace a0:=im a0 p2
    refine Ak rfl (Al rfl rfl (Al rfl rfl (Al rfl rfl (Al rfl rfl (Al rfl rfl (Bc rfl rfl (Ak rfl (Al rfl rfl (Al rfl rfl (Al rfl rfl (Al rfl rfl (Al rfl rfl (Al rfl rfl (Al rfl rfl ?_))))))))))))))
    refine Al rfl rfl (Al rfl rfl (Al rfl rfl (Bc rfl rfl (o_z ?_))))
    obtain rfl:=sm a0
    exact ⟨(),_,⟨rfl,rfl,rfl,rfl,rfl,rfl,rfl,trivial⟩,(hB.st b0).st c0,(e0.st b0).st c0,(f0.st b0).st c0,(g0.st b0).st c0,(h0.st b0).st c0,(d0.st b0).st c0,(k0.st b0).st c0,(j0.st b0).st c0⟩
   replace hB:=(hB.st b0).st c0
   replace j0:=(j0.st b0).st c0
   replace f0:=(f0.st b0).st c0
   replace g0:=(g0.st b0).st c0
   replace h0:=(h0.st b0).st c0
   replace d0:=(d0.st b0).st c0
   replace e0:=(e0.st b0).st c0
   replace k0:=(k0.st b0).st c0
   rintro l9 c6 ⟨o5,d6,p3,hB,e0,f0,g0,h0,d0,k0,j0⟩
   refine AH _ p3 ?_
   refine Cd rfl (fun r2=>?_) (fun r2=>?_)
   ·
    replace p0:=ip p0 r2
    refine Ab (Aa (Gd rfl ?_))
    refine Am rfl (Am rfl (o_z ?_))
    refine AF ?_
    obtain rfl:=sm p0
    obtain rfl:=e2 _ rfl
    obtain rfl:=sm (BY hm)
    exact ret2 rfl (AA rfl) (AA rfl) ⟨hB.ext,_,_,rfl,(Vb.mono (F:=Fr 0 c6 d6) (Vb.nil _ _) hB.out),(vErr)⟩
   replace p0:=im' p0 r2
   refine AO ?_
   obtain rfl:=sm p0
   exact show Exists _ from ⟨_,(),rfl,⟨rfl,rfl,rfl,rfl,rfl,rfl,trivial⟩,_,hB,e0,f0,g0,h0,d0,k0,j0⟩
  replace hB:=hB.st j1
  rintro m9 e6 ⟨n9,o9,rfl,q3,f6,hB,k0⟩
  replace hm:=AR hm
  refine AH _ q3 ?_
  refine Ab (Aa (Ak rfl (Am rfl (Am rfl (o_z ?_)))))
  refine AF ?_
  obtain rfl:=sm hm
  exact ret2 rfl (AA rfl) (AA rfl) ⟨hB.ext,_,_,rfl,(Vb.mono (F:=Fr 0 e6 f6) k0 hB.out),(vErr (h:=(iI64 0)))⟩
 replace hm:=iT hm
 refine o_z ?_
 refine Ah rfl (Ab (Aa (Gd rfl ?_)))
 refine Am rfl (Am rfl (o_z ?_))
 refine AF ?_
 obtain rfl:=sm hm
 replace hB:=(hB.st t1).st h1
 exact ret2 rfl (AA rfl) (AA rfl) ⟨hB.ext,_,_,rfl,(Vb.mono (F:=Fr 0 p6 h6) (Vb.nil _ _) hB.out),(vErr)⟩
noncomputable def DB (x0:Tpl) (x1:List Lch):Option Int :=
  bnd (rng (ρ:=Int) (fun (k33:Nat) (a34:Lch) (s31:Int)=>bnd (Da x0 a34) fun q62=>some (.next (max s31 q62))) x1 0 0) fun res29=>fin res29 fun (s74:Int)=>some s74
theorem JG {w:World} {A:Nat→Prop} (hA:∀ k,A k→k < w.heap.size) {vx0:Value} {x0:Tpl} (a1:Vb w A vx0 x0) {vx1:Value} {x1:List Lch} (a0:Vb w A vx1 x1) {r:Int} (hm:DB x0 x1=some r) :
    Fn prog 74 [vx0,vx1] w fun v w'=>Ext w w'∧Vb w' (upA A w w') v r:=by
 obtain ⟨O,hB,l1⟩:=enter hA
 replace a1:=a1.mono l1
 obtain ⟨b2,rfl,v4,v5,v6,v7,rfl,h8,b0,c0,d0⟩:=a1
 obtain ⟨A9,q0,rfl⟩:=h8.form
 obtain ⟨r0,s0,rfl⟩:=b0.form
 obtain ⟨t0,u0,rfl⟩:=c0.form
 obtain ⟨v0,w0,rfl⟩:=d0.form
 replace a0:=a0.mono l1
 obtain ⟨m1,n1,rfl⟩:=a0.form
 refine AL func74 rfl ntmps74 ?_
 unfold DB at hm
 refine Ab (Aa (BL 2 O rfl fun b1 p1 o1 g0 e0=>?_))
 replace e0:Lc 2 p1 o1 b1 26 [(.slice A9 x0.vars.length q0),(.slice r0 x0.init.length s0),(.slice t0 x0.goal.length u0),(.slice v0 x0.jobs.length w0)]:=e0
 refine Am rfl (o_z ?_)
 refine Ab (Aa (Am rfl (o_z ?_)))
 refine Ab (Ab (Aa (Ak rfl (AS rfl ?_))))
 replace a0:=a0.st g0
 have c1:x1.length≤9223372036854775807:=Nat.le_trans a0.len.2.1 a0.len.2.2
 have c2:inI64 (x1.length:Int):=rngNat c1
 refine Ak rfl (o_z ?_)
 obtain ⟨l0,d1,hm⟩:=bs hm
 refine Ay (aft l0 (fun (f0:Int) (y0:Unit)=>[(5,(.int .i64 f0))]) (fun f0 y0 w'=>∃ O':Lab,Bs w A w' O'∧inI64 f0)) ?_ ?_
 ·
  refine AK ?_
  replace hB:=hB.st g0
  replace h8:=h8.st g0
  replace b0:=b0.st g0
  replace c0:=c0.st g0
  replace d0:=d0.st g0
  refine AY (σ:=Int) (X:=Unit) (x1.length) d1 rfl c1 (fun (f0:Int) (y0:Unit)=>[(2,(.pointer (some ⟨b1,0,none⟩))),(5,(.int .i64 f0)),(8,(.slice m1 x1.length n1))]) _ (fun f0 y0 w'=>∃ O':Lab,Bs w A w' O'∧Lc 2 w' O' b1 26 [(.slice A9 x0.vars.length q0),(.slice r0 x0.init.length s0),(.slice t0 x0.goal.length u0),(.slice v0 x0.jobs.length w0)]∧Vb w' (Fr 0 w' O') (.slice A9 x0.vars.length q0) x0.vars∧Vb w' (Fr 0 w' O') (.slice r0 x0.init.length s0) x0.init∧Vb w' (Fr 0 w' O') (.slice t0 x0.goal.length u0) x0.goal∧Vb w' (Fr 0 w' O') (.slice v0 x0.jobs.length w0) x0.jobs∧Vb w' (Fr 0 w' O') (.slice m1 x1.length n1) x1∧inI64 f0) _ () ⟨o1,hB,e0,h8,b0,c0,d0,a0,(iI64 0)⟩ ⟨rfl,rfl,rfl,rfl,rfl,trivial⟩ (fun _ _=>⟨rfl,rfl⟩) (fun _ _=>⟨rfl,trivial⟩) (fun _ _ _ ⟨O',hB,e0,h8,b0,c0,d0,a0,m0⟩=>⟨O',hB,m0⟩) ⟨rfl,rfl,rfl⟩ ⟨rfl,rfl⟩ ?_
  rintro q1 n0 f0 y0 d2 r1 o0 ⟨s1,hB,e0,h8,b0,c0,d0,a0,m0⟩ h0 e1 f1
  have rk33:inI64 (q1:Int):=rngK o0 c1
  refine Ab (Aa ?_)
  obtain ⟨e2,f2,t1,g1,h1,i1,rfl,u1,v1⟩:=a0.elem' o0
  refine Bi (hA:=g1) (hj:=rfl) (hlt:=h1) rfl rfl ?_
  refine Bd (hl:=rfl) (hc:=i1) rfl ?_
  refine AU 3 s1 fun w1 g2 z0 i0 p0=>?_
  refine Az p0 rfl rfl rfl (AJ) (allOne) fun j1 j0 p0=>?_
  replace p0:Lc 3 j1 z0 w1 52 [(.int .i64 n0.tm),(.int .i64 n0.job)]:=p0
  refine o_z ?_
  refine Aa (Ak rfl ?_)
  replace e0:=(e0.st i0).st j0
  refine Bd (hl:=rfl) (hc:=(e0.1).cellsAt) rfl ?_
  refine Bd (hl:=rfl) (hc:=(p0.1).cellsAt) rfl ?_
  obtain ⟨h2,y1,h0⟩:=bs h0
  replace h8:=(h8.st i0).st j0
  replace b0:=(b0.st i0).st j0
  replace c0:=(c0.st i0).st j0
  replace d0:=(d0.st i0).st j0
  refine AM (O:=z0) (Db (fun _ h=>h) (Vb.mono (F:=Fr 0 j1 z0) (Vb.ofAgg (cs:=[(.slice A9 x0.vars.length q0),(.slice r0 x0.init.length s0),(.slice t0 x0.goal.length u0),(.slice v0 x0.jobs.length w0)]) (x:=x0) rfl ⟨_,_,_,_,rfl,h8,b0,c0,d0⟩) Fr.lt) (Vb.mono (F:=Fr 0 j1 z0) (Vb.ofAgg (cs:=[(.int .i64 n0.tm),(.int .i64 n0.job)]) (x:=n0) rfl ⟨rfl,u1,v1⟩) Fr.lt) y1) rfl fun i2 j2 k2 k0 z1=>?_
  obtain ⟨rfl,a2⟩:=z1.int
  refine RT rfl rfl rfl ?_
  refine Am rfl (o_z ?_)
  obtain rfl:=sm h0
  exact show Exists _ from ⟨_,(),rfl,⟨rfl,rfl,rfl,rfl,rfl,trivial⟩,_,((hB.st i0).st j0).st k0,e0.st k0,h8.st k0,b0.st k0,c0.st k0,d0.st k0,((a0.st i0).st j0).st k0,(rngMax m0 a2)⟩
 replace hB:=hB.st g0
 rintro l2 m2 ⟨n2,o2,rfl,k1,p2,hB,m0⟩
 replace hm:=AR hm
 refine AH _ k1 ?_
 refine Ab (Aa (Ak rfl (Am rfl (o_z ?_))))
 refine AF ?_
 obtain rfl:=sm hm
 exact ret1v rfl (AA rfl) ⟨hB.ext,(vInt m0)⟩
noncomputable def FA (x0:Tpl):Option (List (List Fct)) :=
  bnd (rng (ρ:=(List (List Fct))) (fun (k36:Nat) (a37:Job) (s34:(List (List Fct)))=>bnd (appI 24 s34 [a37.start,a37.over,a37.fin,a37.atStart,a37.atEnd]) fun u93=>some (.next u93)) x0.jobs 0 [x0.goal]) fun res32=>fin res32 fun (s108:(List (List Fct)))=>some s108
theorem Jw {w:World} {A:Nat→Prop} (hA:∀ k,A k→k < w.heap.size) {vx0:Value} {x0:Tpl} (y0:Vb w A vx0 x0) {r:(List (List Fct))} (hm:FA x0=some r) :
    Fn prog 43 [vx0] w fun v w'=>Ext w w'∧Vb w' (upA A w w') v r:=by
 obtain ⟨O,hB,p1⟩:=enter hA
 replace y0:=y0.mono p1
 obtain ⟨a3,rfl,v3,v4,v5,v6,rfl,h7,q1,p0,c0⟩:=y0
 obtain ⟨A8,c9,rfl⟩:=h7.form
 obtain ⟨r1,s1,rfl⟩:=q1.form
 obtain ⟨t1,u1,rfl⟩:=p0.form
 obtain ⟨z0,a1,rfl⟩:=c0.form
 refine AL func43 rfl ntmps43 ?_
 unfold FA at hm
 refine Ab (Aa (BL 2 O rfl fun v1 w1 n1 q0 j0=>?_))
 replace j0:Lc 2 w1 n1 v1 26 [(.slice A8 x0.vars.length c9),(.slice r1 x0.init.length s1),(.slice t1 x0.goal.length u1),(.slice z0 x0.jobs.length a1)]:=j0
 refine Am rfl (o_z ?_)
 refine Ab (Aa (Ax rfl (At (hc:=Blk.cell (i:=2) (j0.1) rfl) rfl ?_)))
 replace p0:=p0.st q0
 refine AQ 3 n1 (xs:=([x0.goal]:List (List Fct))) rfl rfl rfl ⟨p0,trivial⟩ fun x1 b3 y1 r0 z1=>?_
 refine Am rfl (o_z ?_)
 refine Ab (Ab (Aa (Ax rfl ?_)))
 replace j0:=j0.st r0
 refine At (hc:=Blk.cell (i:=3) (j0.1) rfl) rfl ?_
 refine AS rfl ?_
 replace c0:=(c0.st q0).st r0
 have b1:x0.jobs.length≤9223372036854775807:=Nat.le_trans c0.len.2.1 c0.len.2.2
 have c3:inI64 (x0.jobs.length:Int):=rngNat b1
 refine Ak rfl (o_z ?_)
 obtain ⟨k0,c1,hm⟩:=bs hm
 refine Ay (aft k0 (fun (d0:(List (List Fct))) (a0:(Option Addr×Nat))=>[(3,(.slice a0.1 d0.length a0.2))]) (fun d0 a0 w'=>∃ O':Lab,Bs w A w' O'∧Rw 3 w' O' 23 (.slice a0.1 d0.length a0.2) d0)) ?_ ?_
 ·
  refine AK ?_
  replace hB:=(hB.st q0).st r0
  refine AY (σ:=(List (List Fct))) (X:=(Option Addr×Nat)) (x0.jobs.length) c1 rfl b1 (fun (d0:(List (List Fct))) (a0:(Option Addr×Nat))=>[(3,(.slice a0.1 d0.length a0.2)),(10,(.slice z0 x0.jobs.length a1))]) _ (fun d0 a0 w'=>∃ O':Lab,Bs w A w' O'∧Rw 3 w' O' 23 (.slice a0.1 d0.length a0.2) d0∧Vb w' (Fr 0 w' O') (.slice z0 x0.jobs.length a1) x0.jobs) _ ((some ⟨x1,0,none⟩),1) ⟨y1,hB,z1,c0⟩ ⟨rfl,rfl,rfl,rfl,trivial⟩ (fun _ _=>⟨rfl,rfl⟩) (fun _ _=>⟨rfl,trivial⟩) (fun _ _ _ ⟨O',hB,e0,c0⟩=>⟨O',hB,e0⟩) ⟨rfl,rfl,rfl⟩ ⟨rfl,rfl⟩ ?_
  rintro a2 b0 d0 a0 d3 b2 l0 ⟨c2,hB,e0,c0⟩ i0 d1 e1
  have rk36:inI64 (a2:Int):=rngK l0 b1
  refine Ab (Aa ?_)
  obtain ⟨e3,f3,d2,f1,g1,h1,g3,h3,i3,j3,k3,rfl,s0,t0,u0,v0,w0,l3,m3⟩:=c0.elem' l0
  obtain ⟨e2,f2,rfl⟩:=s0.form
  obtain ⟨g2,h2,rfl⟩:=t0.form
  obtain ⟨i2,j2,rfl⟩:=u0.form
  obtain ⟨k2,l2,rfl⟩:=v0.form
  obtain ⟨m2,n2,rfl⟩:=w0.form
  refine Bi (hA:=f1) (hj:=rfl) (hlt:=g1) rfl rfl ?_
  refine Bd (hl:=rfl) (hc:=h1) rfl ?_
  refine AU 4 c2 fun o2 n3 o1 g0 f0=>?_
  refine Az f0 rfl rfl rfl (AJ) (allOne) fun p2 h0 f0=>?_
  replace f0:Lc 4 p2 o1 o2 66 [(.string b0.name),(.int .i64 b0.dur),(.slice e2 b0.start.length f2),(.slice g2 b0.over.length h2),(.slice i2 b0.fin.length j2),(.slice k2 b0.atStart.length l2),(.slice m2 b0.atEnd.length n2)]:=f0
  refine o_z ?_
  refine Aa (Ak rfl (Ax rfl (At (hc:=Blk.cell (i:=2) (f0.1) rfl) rfl ?_)))
  refine Ax rfl (At (hc:=Blk.cell (i:=3) (f0.1) rfl) rfl ?_)
  refine Ax rfl (At (hc:=Blk.cell (i:=4) (f0.1) rfl) rfl ?_)
  refine Ax rfl (At (hc:=Blk.cell (i:=5) (f0.1) rfl) rfl ?_)
  refine Ax rfl (At (hc:=Blk.cell (i:=6) (f0.1) rfl) rfl ?_)
  replace s0:=(s0.st g0).st h0
  replace t0:=(t0.st g0).st h0
  replace u0:=(u0.st g0).st h0
  replace v0:=(v0.st g0).st h0
  replace w0:=(w0.st g0).st h0
  refine AQ 5 o1 (xs:=([b0.start,b0.over,b0.fin,b0.atStart,b0.atEnd]:List (List Fct))) rfl rfl rfl ⟨s0,t0,u0,v0,w0,trivial⟩ fun o3 p3 q3 i1 q2=>?_
  obtain ⟨r3,j1,i0⟩:=bs i0
  obtain ⟨j1,r2,s2⟩:=AI j1
  replace e0:=((e0.st g0).st h0).st i1
  refine AZ rfl e0 (q2.rd) rfl rfl r2 s2 fun t2 u2 s3 v2 m0 n0=>?_
  rw [← j1] at n0 ⊢
  refine Am rfl (o_z ?_)
  obtain rfl:=sm i0
  exact show Exists _ from ⟨_,(t2,u2),rfl,⟨rfl,rfl,rfl,rfl,trivial⟩,_,(((hB.st g0).st h0).st i1).st m0,n0,(((c0.st g0).st h0).st i1).st m0⟩
 replace hB:=(hB.st q0).st r0
 rintro w2 k1 ⟨x2,y2,rfl,o0,z2,hB,e0⟩
 replace hm:=AR hm
 refine AH _ o0 ?_
 refine Ab (Aa (Ak rfl (Am rfl (o_z ?_))))
 refine AF ?_
 obtain ⟨l1,m1,e0⟩:=e0.freeze
 obtain rfl:=sm hm
 replace hB:=hB.st m1
 exact ret1v rfl (AA rfl) ⟨hB.ext,(Vb.mono (F:=Fr 0 k1 l1) e0 hB.out)⟩
noncomputable def Gz (x0:ByteArray):Option Bool :=
  bnd (rngN (ρ:=Bool) (fun (k7:Nat) (s5:Unit)=>bnd (bnd (bytI x0 (k7:Int)) fun n22=>if n22 < 32 then (some true) else (bnd (bytI x0 (k7:Int)) fun n26=>if 126 < n26 then (some true) else (some false)):Option Bool) fun y18=>if y18=true then (some (.ret false)) else (some (.next ()))) x0.size ()) fun res3=>fin res3 fun (s39:Unit)=>bnd (if (x0.size:Int)≤256 then (some true) else (some false):Option Bool) fun y41=>some y41
theorem MP {w:World} {A:Nat→Prop} (hA:∀ k,A k→k < w.heap.size) {x0:ByteArray} (zx0:x0.size≤9223372036854775807) {r:Bool} (hm:Gz x0=some r) :
    Fn prog 46 [(.string x0)] w fun v w'=>Ext w w'∧Vb w' (upA A w w') v r:=by
 obtain ⟨O,hB,w0⟩:=enter hA
 refine AL func46 rfl ntmps46 ?_
 unfold Gz at hm
 refine Ab (Aa (Am rfl (o_z ?_)))
 refine Ab (Ab (Aa (Ak rfl (ID rfl ?_))))
 have r2:inI64 (x0.size:Int):=rngNat zx0
 refine Ak rfl (o_z ?_)
 obtain ⟨e0,q0,hm⟩:=bs hm
 refine Ay (aft e0 (fun (s5:Unit) (x6:Unit)=>[(0,(.string x0))]) (fun s5 x6 w'=>∃ O':Lab,Bs w A w' O')) ?_ ?_
 ·
  refine AK (Fp (σ:=Unit) (X:=Unit) (x0.size) q0 (rngNat' r2) (fun (s5:Unit) (x6:Unit)=>[(0,(.string x0))]) _ (fun s5 x6 w'=>∃ O':Lab,Bs w A w' O') _ () ⟨O,hB⟩ ⟨rfl,rfl,rfl,trivial⟩ (fun _ _=>⟨rfl,rfl⟩) (fun _ _=>⟨rfl,trivial⟩) (fun _ _ _ ⟨O',hB⟩=>⟨O',hB⟩) ⟨rfl,rfl,rfl⟩ ⟨rfl,rfl⟩ ?_)
  rintro k7 s5 x6 w9 r0 f0 ⟨y0,hB⟩ b0 d0 g0
  have rk7:inI64 (k7:Int):=rngKN f0 (rngNat' r2)
  refine Ab (Aa (Ak rfl (Am rfl (o_z ?_))))
  refine Ab ?_
  obtain ⟨s0,a0,b0⟩:=bs b0
  refine Ay (fun l' w'=>∃ (t0:Unit) (O':Lab),subs l' [(0,(.string x0)),(5,(.int .i64 (x0.size:Int))),(6,(.int .i64 (k7:Int))),(18,(.bool s0))]∧Bs w A w' O') ?_ ?_
  ·
   refine Aa (Ak rfl (Ak rfl ?_))
   obtain ⟨z0,o0,a0⟩:=bs a0
   have a1:=Hi o0
   refine Kr (he:=o0) rfl rfl rfl ?_
   refine Dm rfl rfl (fun h0=>?_) fun h0=>?_
   ·
    replace a0:=ip a0 h0
    refine Ak rfl (Al rfl rfl (Al rfl rfl (Al rfl rfl (Al rfl rfl (Bn rfl rfl (o_z ?_))))))
    obtain rfl:=sm a0
    exact ⟨(),_,⟨rfl,rfl,rfl,rfl,trivial⟩,hB⟩
   replace a0:=im a0 h0
   refine Ak rfl (An rfl rfl (Ak rfl (An rfl rfl (Ak rfl (An rfl rfl ?_)))))
   obtain ⟨b1,p0,a0⟩:=bs a0
   have c1:=Hi p0
   refine Kr (he:=p0) rfl rfl rfl ?_
   refine An rfl rfl (BW rfl rfl (fun i0=>?_) fun i0=>?_)
   ·
    replace a0:=ip a0 i0
    refine Bc rfl rfl (o_z ?_)
    obtain rfl:=sm a0
    exact ⟨(),_,⟨rfl,rfl,rfl,rfl,trivial⟩,hB⟩
   replace a0:=im a0 i0
   refine Bc rfl rfl (o_z ?_)
   obtain rfl:=sm a0
   exact ⟨(),_,⟨rfl,rfl,rfl,rfl,trivial⟩,hB⟩
  rintro d1 e1 ⟨t0,f1,j0,hB⟩
  refine AH _ j0 ?_
  refine Cd rfl (fun k0=>?_) (fun k0=>?_)
  ·
   replace b0:=ip b0 k0
   refine Ab (Aa (Am rfl (o_z ?_)))
   refine AF ?_
   obtain rfl:=sm b0
   obtain rfl:=d0 _ rfl
   obtain rfl:=sm (BY hm)
   exact ret1v rfl (AA rfl) ⟨hB.ext,vBool⟩
  replace b0:=im' b0 k0
  refine AO ?_
  obtain rfl:=sm b0
  exact show Exists _ from ⟨_,(),rfl,⟨rfl,rfl,rfl,trivial⟩,_,hB⟩
 rintro g1 h1 ⟨i1,j1,rfl,l0,k1,hB⟩
 replace hm:=AR hm
 refine AH _ l0 ?_
 refine Ab ?_
 obtain ⟨u0,c0,hm⟩:=bs hm
 refine Ay (fun l' w'=>∃ (v0:Unit) (O':Lab),subs l' [(2,(.bool u0))]∧Bs w A w' O') ?_ ?_
 ·
  refine Aa (Ak rfl (ID rfl ?_))
  have l1:inI64 (x0.size:Int):=rngNat zx0
  refine Ki rfl rfl rfl (fun m0=>?_) fun m0=>?_
  ·
   replace c0:=ip c0 m0
   refine Am rfl (o_z ?_)
   obtain rfl:=sm c0
   exact ⟨(),_,⟨rfl,trivial⟩,hB⟩
  replace c0:=im c0 m0
  refine Am rfl (o_z ?_)
  obtain rfl:=sm c0
  exact ⟨(),_,⟨rfl,trivial⟩,hB⟩
 rintro m1 n1 ⟨v0,o1,n0,hB⟩
 refine AH _ n0 ?_
 refine AF ?_
 obtain rfl:=sm hm
 exact ret1v rfl (AA rfl) ⟨hB.ext,vBool⟩
noncomputable def FB (x0:Tpl):Option Int :=
  bnd (if 64 < (x0.vars.length:Int) then (some true) else (if 24 < (x0.jobs.length:Int) then (some true) else (some false)):Option Bool) fun y24=>if y24=true then (some 5) else (bnd (FA x0) fun q39=>bnd (rng (ρ:=Int) (fun (k54:Nat) (a55:List Fct) (s52:Unit)=>if 64 < (a55.length:Int) then (some (.ret 5)) else (some (.next ()))) q39 0 ()) fun res50=>fin res50 fun (s83:Unit)=>bnd (rng (ρ:=Int) (fun (k91:Nat) (a92:Int) (s89:Unit)=>bnd (if a92 < 1 then (some true) else (if 64 < a92 then (some true) else (some false)):Option Bool) fun y110=>if y110=true then (some (.ret 1)) else (some (.next ()))) x0.vars 0 ()) fun res87=>fin res87 fun (s125:Unit)=>bnd (rng (ρ:=Int) (fun (k133:Nat) (a134:Job) (s131:Unit)=>bnd (if a134.dur < 1 then (some true) else (if 62 < a134.dur then (some true) else (some false)):Option Bool) fun y180=>if y180=true then (some (.ret 1)) else (some (.next ()))) x0.jobs 0 ()) fun res129=>fin res129 fun (s195:Unit)=>bnd (FW x0.vars x0.init) fun q197=>if q197=true then bnd (FA x0) fun q204=>bnd (rng (ρ:=Int) (fun (k219:Nat) (a220:List Fct) (s217:Unit)=>bnd (Dt x0.vars a220) fun q241=>if q241=true then some (.next ()) else some (.ret 2)) q204 0 ()) fun res215=>fin res215 fun (s252:Unit)=>bnd (rng (ρ:=Int) (fun (k260:Nat) (a261:Job) (s258:Unit)=>bnd (Gz a261.name) fun q307=>if q307=true then some (.next ()) else some (.ret 8)) x0.jobs 0 ()) fun res256=>fin res256 fun (s318:Unit)=>some 0 else some 2)
theorem MQ {w:World} {A:Nat→Prop} (hA:∀ k,A k→k < w.heap.size) {vx0:Value} {x0:Tpl} (z3:Vb w A vx0 x0) {r:Int} (hm:FB x0=some r) :
    Fn prog 13 [vx0] w fun v w'=>Ext w w'∧Vb w' (upA A w w') v r:=by
 obtain ⟨O,hB,m7⟩:=enter hA
 replace z3:=z3.mono m7
 obtain ⟨tA,rfl,v3,v4,v5,v6,rfl,h7,c0,d0,a0⟩:=z3
 obtain ⟨A8,c9,rfl⟩:=h7.form
 obtain ⟨n0,o0,rfl⟩:=c0.form
 obtain ⟨p0,q0,rfl⟩:=d0.form
 obtain ⟨i0,j0,rfl⟩:=a0.form
 refine AL func13 rfl ntmps13 ?_
 unfold FB at hm
 refine Ab (Aa (BL 2 O rfl fun s0 n7 o7 u0 b0=>?_))
 replace b0:Lc 2 n7 o7 s0 26 [(.slice A8 x0.vars.length c9),(.slice n0 x0.init.length o0),(.slice p0 x0.goal.length q0),(.slice i0 x0.jobs.length j0)]:=b0
 refine Am rfl (o_z ?_)
 refine Ab (Ab ?_)
 obtain ⟨p7,t0,hm⟩:=bs hm
 refine Ay (fun l' w'=>∃ (q7:Unit) (O':Lab),subs l' [(1,(.pointer (some ⟨s0,0,none⟩))),(22,(.bool p7))]∧Bs w A w' O'∧Lc 2 w' O' s0 26 [(.slice A8 x0.vars.length c9),(.slice n0 x0.init.length o0),(.slice p0 x0.goal.length q0),(.slice i0 x0.jobs.length j0)]∧Vb w' (Fr 0 w' O') (.slice A8 x0.vars.length c9) x0.vars∧Vb w' (Fr 0 w' O') (.slice n0 x0.init.length o0) x0.init∧Vb w' (Fr 0 w' O') (.slice p0 x0.goal.length q0) x0.goal∧Vb w' (Fr 0 w' O') (.slice i0 x0.jobs.length j0) x0.jobs) ?_ ?_
 ·
  refine Aa (Ax rfl (At (hc:=Blk.cell (i:=0) (b0.1) rfl) rfl ?_))
  refine AS rfl ?_
  replace h7:=h7.st u0
  have r7:x0.vars.length≤9223372036854775807:=Nat.le_trans h7.len.2.1 h7.len.2.2
  have uA:inI64 (x0.vars.length:Int):=rngNat r7
  refine BW rfl rfl (fun a4=>?_) fun a4=>?_
  ·
   replace t0:=ip t0 a4
   refine Ak rfl (Al rfl rfl (Al rfl rfl (Al rfl rfl (Al rfl rfl (Bn rfl rfl (o_z ?_))))))
   obtain rfl:=sm t0
   exact ⟨(),_,⟨rfl,rfl,trivial⟩,hB.st u0,b0,h7,c0.st u0,d0.st u0,a0.st u0⟩
  replace t0:=im t0 a4
  refine Ak rfl (An rfl rfl (Ax rfl (An rfl rfl (At (hc:=Blk.cell (i:=3) (b0.1) rfl) rfl ?_))))
  refine An rfl rfl (AS rfl ?_)
  replace a0:=a0.st u0
  have s7:x0.jobs.length≤9223372036854775807:=Nat.le_trans a0.len.2.1 a0.len.2.2
  have vA:inI64 (x0.jobs.length:Int):=rngNat s7
  refine An rfl rfl (BW rfl rfl (fun b4=>?_) fun b4=>?_)
  ·
   replace t0:=ip t0 b4
   refine Bc rfl rfl (o_z ?_)
   obtain rfl:=sm t0
   exact ⟨(),_,⟨rfl,rfl,trivial⟩,hB.st u0,b0,h7,c0.st u0,d0.st u0,a0⟩
  replace t0:=im t0 b4
  refine Bc rfl rfl (o_z ?_)
  obtain rfl:=sm t0
  exact ⟨(),_,⟨rfl,rfl,trivial⟩,hB.st u0,b0,h7,c0.st u0,d0.st u0,a0⟩
 replace hB:=hB.st u0
 replace h7:=h7.st u0
 replace c0:=c0.st u0
 replace d0:=d0.st u0
 replace a0:=a0.st u0
 rintro wA xA ⟨q7,t7,c4,hB,b0,h7,c0,d0,a0⟩
 refine AH _ c4 ?_
 refine Cd rfl (fun d4=>?_) (fun d4=>?_)
 ·
  replace hm:=ip hm d4
  refine Ab (Aa (Am rfl (o_z ?_)))
  refine AF ?_
  obtain rfl:=sm hm
  exact ret1v rfl (AA rfl) ⟨hB.ext,(vInt (iI64 5))⟩
 replace hm:=im' hm d4
 refine AO (Ab (Ab (Aa (Bd (hl:=rfl) (hc:=(b0.1).cellsAt) rfl ?_))))
 obtain ⟨m2,u7,hm⟩:=bs hm
 refine Cc (O:=t7) (Jw Fr.lt (Vb.ofAgg (cs:=[(.slice A8 x0.vars.length c9),(.slice n0 x0.init.length o0),(.slice p0 x0.goal.length q0),(.slice i0 x0.jobs.length j0)]) (x:=x0) rfl ⟨_,_,_,_,rfl,h7,c0,d0,a0⟩) u7) rfl fun yA zA v7 f1 r1=>?_
 obtain ⟨a7,b7,rfl⟩:=r1.form
 refine AS rfl ?_
 have e4:m2.length≤9223372036854775807:=Nat.le_trans r1.len.2.1 r1.len.2.2
 have aB:inI64 (m2.length:Int):=rngNat e4
 refine Ak rfl (o_z ?_)
 obtain ⟨n2,f4,hm⟩:=bs hm
 refine Ay (aft n2 (fun (r3:Unit) (s3:Unit)=>[(1,(.pointer (some ⟨s0,0,none⟩)))]) (fun r3 s3 w'=>∃ O':Lab,Bs w A w' O'∧Lc 2 w' O' s0 26 [(.slice A8 x0.vars.length c9),(.slice n0 x0.init.length o0),(.slice p0 x0.goal.length q0),(.slice i0 x0.jobs.length j0)]∧Vb w' (Fr 0 w' O') (.slice A8 x0.vars.length c9) x0.vars∧Vb w' (Fr 0 w' O') (.slice n0 x0.init.length o0) x0.init∧Vb w' (Fr 0 w' O') (.slice p0 x0.goal.length q0) x0.goal∧Vb w' (Fr 0 w' O') (.slice i0 x0.jobs.length j0) x0.jobs)) ?_ ?_
 ·
  refine AK ?_
  replace hB:=hB.st f1
  replace h7:=h7.st f1
  replace c0:=c0.st f1
  replace d0:=d0.st f1
  replace a0:=a0.st f1
  replace b0:=b0.st f1
  refine AY (σ:=Unit) (X:=Unit) (m2.length) f4 rfl e4 (fun (r3:Unit) (s3:Unit)=>[(1,(.pointer (some ⟨s0,0,none⟩))),(24,(.slice a7 m2.length b7))]) _ (fun r3 s3 w'=>∃ O':Lab,Bs w A w' O'∧Lc 2 w' O' s0 26 [(.slice A8 x0.vars.length c9),(.slice n0 x0.init.length o0),(.slice p0 x0.goal.length q0),(.slice i0 x0.jobs.length j0)]∧Vb w' (Fr 0 w' O') (.slice A8 x0.vars.length c9) x0.vars∧Vb w' (Fr 0 w' O') (.slice n0 x0.init.length o0) x0.init∧Vb w' (Fr 0 w' O') (.slice p0 x0.goal.length q0) x0.goal∧Vb w' (Fr 0 w' O') (.slice i0 x0.jobs.length j0) x0.jobs∧Vb w' (Fr 0 w' O') (.slice a7 m2.length b7) m2) _ () ⟨v7,hB,b0,h7,c0,d0,a0,r1⟩ ⟨rfl,rfl,rfl,rfl,trivial⟩ (fun _ _=>⟨rfl,rfl⟩) (fun _ _=>⟨rfl,trivial⟩) (fun _ _ _ ⟨O',hB,b0,h7,c0,d0,a0,r1⟩=>⟨O',hB,b0,h7,c0,d0,a0⟩) ⟨rfl,rfl,rfl⟩ ⟨rfl,rfl⟩ ?_
  rintro w7 c7 r3 s3 bB x7 o2 ⟨cB,hB,b0,h7,c0,d0,a0,r1⟩ c1 v1 g4
  have rk54:inI64 (w7:Int):=rngK o2 e4
  refine Ab (Aa ?_)
  obtain ⟨dB,eB,y7,h4,i4,j4,fB,rfl,p2⟩:=r1.elem' o2
  replace p2:=Vb.of_slice p2
  obtain ⟨gB,iB,rfl⟩:=p2.form
  refine Bi (hA:=h4) (hj:=rfl) (hlt:=i4) rfl rfl ?_
  refine At (hc:=cat0 j4) rfl ?_
  refine Am rfl (o_z ?_)
  refine Ab (Aa (Ak rfl (AS rfl ?_)))
  have z7:c7.length≤9223372036854775807:=Nat.le_trans p2.len.2.1 p2.len.2.2
  have jB:inI64 (c7.length:Int):=rngNat z7
  refine BW rfl rfl (fun k4=>?_) fun k4=>?_
  ·
   replace c1:=ip c1 k4
   refine o_z ?_
   refine Ah rfl (Ab (Aa (Am rfl (o_z ?_))))
   refine AF ?_
   obtain rfl:=sm c1
   obtain rfl:=v1 _ rfl
   obtain rfl:=sm (BY hm)
   exact ret1v rfl (AA rfl) ⟨hB.ext,(vInt (iI64 5))⟩
  replace c1:=im c1 k4
  refine o_z ?_
  refine Ae rfl (AO ?_)
  obtain rfl:=sm c1
  exact show Exists _ from ⟨_,(),rfl,⟨rfl,rfl,rfl,rfl,trivial⟩,_,hB,b0,h7,c0,d0,a0,r1⟩
 replace hB:=hB.st f1
 replace h7:=h7.st f1
 replace c0:=c0.st f1
 replace d0:=d0.st f1
 replace a0:=a0.st f1
 replace b0:=b0.st f1
 rintro kB lB ⟨mB,nB,rfl,l4,a8,hB,b0,h7,c0,d0,a0⟩
 replace hm:=AR hm
 refine AH _ l4 ?_
 refine Ab (Ab (Aa (Ax rfl (At (hc:=Blk.cell (i:=0) (b0.1) rfl) rfl ?_))))
 refine AS rfl ?_
 have m4:x0.vars.length≤9223372036854775807:=Nat.le_trans h7.len.2.1 h7.len.2.2
 have oB:inI64 (x0.vars.length:Int):=rngNat m4
 refine Ak rfl (o_z ?_)
 obtain ⟨q2,n4,hm⟩:=bs hm
 refine Ay (aft q2 (fun (t3:Unit) (u3:Unit)=>[(1,(.pointer (some ⟨s0,0,none⟩)))]) (fun t3 u3 w'=>∃ O':Lab,Bs w A w' O'∧Lc 2 w' O' s0 26 [(.slice A8 x0.vars.length c9),(.slice n0 x0.init.length o0),(.slice p0 x0.goal.length q0),(.slice i0 x0.jobs.length j0)]∧Vb w' (Fr 0 w' O') (.slice A8 x0.vars.length c9) x0.vars∧Vb w' (Fr 0 w' O') (.slice n0 x0.init.length o0) x0.init∧Vb w' (Fr 0 w' O') (.slice p0 x0.goal.length q0) x0.goal∧Vb w' (Fr 0 w' O') (.slice i0 x0.jobs.length j0) x0.jobs)) ?_ ?_
 ·
  refine AK (AY (σ:=Unit) (X:=Unit) (x0.vars.length) n4 rfl m4 (fun (t3:Unit) (u3:Unit)=>[(1,(.pointer (some ⟨s0,0,none⟩))),(35,(.slice A8 x0.vars.length c9))]) _ (fun t3 u3 w'=>∃ O':Lab,Bs w A w' O'∧Lc 2 w' O' s0 26 [(.slice A8 x0.vars.length c9),(.slice n0 x0.init.length o0),(.slice p0 x0.goal.length q0),(.slice i0 x0.jobs.length j0)]∧Vb w' (Fr 0 w' O') (.slice A8 x0.vars.length c9) x0.vars∧Vb w' (Fr 0 w' O') (.slice n0 x0.init.length o0) x0.init∧Vb w' (Fr 0 w' O') (.slice p0 x0.goal.length q0) x0.goal∧Vb w' (Fr 0 w' O') (.slice i0 x0.jobs.length j0) x0.jobs) _ () ⟨a8,hB,b0,h7,c0,d0,a0⟩ ⟨rfl,rfl,rfl,rfl,trivial⟩ (fun _ _=>⟨rfl,rfl⟩) (fun _ _=>⟨rfl,trivial⟩) (fun _ _ _ ⟨O',hB,b0,h7,c0,d0,a0⟩=>⟨O',hB,b0,h7,c0,d0,a0⟩) ⟨rfl,rfl,rfl⟩ ⟨rfl,rfl⟩ ?_)
  rintro d7 pB t3 u3 qB b8 r2 ⟨rB,hB,b0,h7,c0,d0,a0⟩ v0 w1 o4
  have rk91:inI64 (d7:Int):=rngK r2 m4
  refine Ab (Aa ?_)
  obtain ⟨c8,d8,e7,s2,t2,u2,rfl,e8⟩:=h7.elem' r2
  refine Bi (hA:=s2) (hj:=rfl) (hlt:=t2) rfl rfl ?_
  refine At (hc:=cat0 u2) rfl ?_
  refine Am rfl (o_z ?_)
  refine Ab ?_
  obtain ⟨p4,g0,v0⟩:=bs v0
  refine Ay (fun l' w'=>∃ (q4:Unit) (O':Lab),subs l' [(1,(.pointer (some ⟨s0,0,none⟩))),(35,(.slice A8 x0.vars.length c9)),(36,(.int .i64 (x0.vars.length:Int))),(37,(.int .i64 (d7:Int))),(46,(.bool p4))]∧Bs w A w' O'∧Lc 2 w' O' s0 26 [(.slice A8 x0.vars.length c9),(.slice n0 x0.init.length o0),(.slice p0 x0.goal.length q0),(.slice i0 x0.jobs.length j0)]∧Vb w' (Fr 0 w' O') (.slice A8 x0.vars.length c9) x0.vars∧Vb w' (Fr 0 w' O') (.slice n0 x0.init.length o0) x0.init∧Vb w' (Fr 0 w' O') (.slice p0 x0.goal.length q0) x0.goal∧Vb w' (Fr 0 w' O') (.slice i0 x0.jobs.length j0) x0.jobs) ?_ ?_
  ·
   refine Aa (Ak rfl (Dm rfl rfl (fun x1=>?_) fun x1=>?_))
   ·
    replace g0:=ip g0 x1
    refine Ak rfl (Al rfl rfl (Al rfl rfl (Bn rfl rfl (o_z ?_))))
    obtain rfl:=sm g0
    exact ⟨(),_,⟨rfl,rfl,rfl,rfl,rfl,trivial⟩,hB,b0,h7,c0,d0,a0⟩
   replace g0:=im g0 x1
   refine Ak rfl (An rfl rfl (Ak rfl (An rfl rfl (BW rfl rfl (fun y1=>?_) fun y1=>?_))))
   ·
    replace g0:=ip g0 y1
    refine Bc rfl rfl (o_z ?_)
    obtain rfl:=sm g0
    exact ⟨(),_,⟨rfl,rfl,rfl,rfl,rfl,trivial⟩,hB,b0,h7,c0,d0,a0⟩
   replace g0:=im g0 y1
   refine Bc rfl rfl (o_z ?_)
   obtain rfl:=sm g0
   exact ⟨(),_,⟨rfl,rfl,rfl,rfl,rfl,trivial⟩,hB,b0,h7,c0,d0,a0⟩
  rintro f8 g8 ⟨q4,h8,v2,hB,b0,h7,c0,d0,a0⟩
  refine AH _ v2 ?_
  refine Cd rfl (fun z1=>?_) (fun z1=>?_)
  ·
   replace v0:=ip v0 z1
   refine Ab (Aa (Am rfl (o_z ?_)))
   refine AF ?_
   obtain rfl:=sm v0
   obtain rfl:=w1 _ rfl
   obtain rfl:=sm (BY hm)
   exact ret1v rfl (AA rfl) ⟨hB.ext,(vInt (iI64 1))⟩
  replace v0:=im' v0 z1
  refine AO ?_
  obtain rfl:=sm v0
  exact show Exists _ from ⟨_,(),rfl,⟨rfl,rfl,rfl,rfl,trivial⟩,_,hB,b0,h7,c0,d0,a0⟩
 rintro i8 j8 ⟨k8,l8,rfl,w2,r4,hB,b0,h7,c0,d0,a0⟩
 replace hm:=AR hm
 refine AH _ w2 ?_
 refine Ab (Ab (Aa (Ax rfl (At (hc:=Blk.cell (i:=3) (b0.1) rfl) rfl ?_))))
 refine AS rfl ?_
 have a2:x0.jobs.length≤9223372036854775807:=Nat.le_trans a0.len.2.1 a0.len.2.2
 have m8:inI64 (x0.jobs.length:Int):=rngNat a2
 refine Ak rfl (o_z ?_)
 obtain ⟨b2,x2,hm⟩:=bs hm
 refine Ay (aft b2 (fun (h1:Unit) (i1:Unit)=>[(1,(.pointer (some ⟨s0,0,none⟩)))]) (fun h1 i1 w'=>∃ O':Lab,Bs w A w' O'∧Lc 2 w' O' s0 26 [(.slice A8 x0.vars.length c9),(.slice n0 x0.init.length o0),(.slice p0 x0.goal.length q0),(.slice i0 x0.jobs.length j0)]∧Vb w' (Fr 0 w' O') (.slice A8 x0.vars.length c9) x0.vars∧Vb w' (Fr 0 w' O') (.slice n0 x0.init.length o0) x0.init∧Vb w' (Fr 0 w' O') (.slice p0 x0.goal.length q0) x0.goal∧Vb w' (Fr 0 w' O') (.slice i0 x0.jobs.length j0) x0.jobs)) ?_ ?_
 ·
  refine AK (AY (σ:=Unit) (X:=Unit) (x0.jobs.length) x2 rfl a2 (fun (h1:Unit) (i1:Unit)=>[(1,(.pointer (some ⟨s0,0,none⟩))),(49,(.slice i0 x0.jobs.length j0))]) _ (fun h1 i1 w'=>∃ O':Lab,Bs w A w' O'∧Lc 2 w' O' s0 26 [(.slice A8 x0.vars.length c9),(.slice n0 x0.init.length o0),(.slice p0 x0.goal.length q0),(.slice i0 x0.jobs.length j0)]∧Vb w' (Fr 0 w' O') (.slice A8 x0.vars.length c9) x0.vars∧Vb w' (Fr 0 w' O') (.slice n0 x0.init.length o0) x0.init∧Vb w' (Fr 0 w' O') (.slice p0 x0.goal.length q0) x0.goal∧Vb w' (Fr 0 w' O') (.slice i0 x0.jobs.length j0) x0.jobs) _ () ⟨r4,hB,b0,h7,c0,d0,a0⟩ ⟨rfl,rfl,rfl,rfl,trivial⟩ (fun _ _=>⟨rfl,rfl⟩) (fun _ _=>⟨rfl,trivial⟩) (fun _ _ _ ⟨O',hB,b0,h7,c0,d0,a0⟩=>⟨O',hB,b0,h7,c0,d0,a0⟩) ⟨rfl,rfl,rfl⟩ ⟨rfl,rfl⟩ ?_)
  rintro y2 a1 h1 i1 n8 f7 s1 ⟨s4,hB,b0,h7,c0,d0,a0⟩ k0 j1 w3
  have rk133:inI64 (y2:Int):=rngK s1 a2
  refine Ab (Aa ?_)
  obtain ⟨o8,p8,g7,z2,a3,b3,q8,r8,s8,t8,u8,rfl,t4,u4,w4,x4,y4,v8,w8⟩:=a0.elem' s1
  obtain ⟨z4,a5,rfl⟩:=t4.form
  obtain ⟨b5,c5,rfl⟩:=u4.form
  obtain ⟨d5,e5,rfl⟩:=w4.form
  obtain ⟨f5,g5,rfl⟩:=x4.form
  obtain ⟨h5,i5,rfl⟩:=y4.form
  refine Bi (hA:=z2) (hj:=rfl) (hlt:=a3) rfl rfl ?_
  refine Bd (hl:=rfl) (hc:=b3) rfl ?_
  refine AU 3 s4 fun j5 x8 k5 e0 d1=>?_
  refine Az d1 rfl rfl rfl (AJ) (allOne) fun l5 f0 d1=>?_
  replace d1:Lc 3 l5 k5 j5 66 [(.string a1.name),(.int .i64 a1.dur),(.slice z4 a1.start.length a5),(.slice b5 a1.over.length c5),(.slice d5 a1.fin.length e5),(.slice f5 a1.atStart.length g5),(.slice h5 a1.atEnd.length i5)]:=d1
  refine o_z ?_
  refine Ab ?_
  obtain ⟨m5,h0,k0⟩:=bs k0
  refine Ay (fun l' w'=>∃ (n5:Unit) (O':Lab),subs l' [(1,(.pointer (some ⟨s0,0,none⟩))),(49,(.slice i0 x0.jobs.length j0)),(50,(.int .i64 (x0.jobs.length:Int))),(51,(.int .i64 (y2:Int))),(62,(.bool m5))]∧Bs w A w' O'∧Lc 2 w' O' s0 26 [(.slice A8 x0.vars.length c9),(.slice n0 x0.init.length o0),(.slice p0 x0.goal.length q0),(.slice i0 x0.jobs.length j0)]∧Vb w' (Fr 0 w' O') (.slice A8 x0.vars.length c9) x0.vars∧Vb w' (Fr 0 w' O') (.slice n0 x0.init.length o0) x0.init∧Vb w' (Fr 0 w' O') (.slice p0 x0.goal.length q0) x0.goal∧Vb w' (Fr 0 w' O') (.slice i0 x0.jobs.length j0) x0.jobs) ?_ ?_
  ·
   refine Aa (Ax rfl (At (hc:=Blk.cell (i:=1) (d1.1) rfl) rfl ?_))
   refine Dm rfl rfl (fun c2=>?_) fun c2=>?_
   ·
    replace h0:=ip h0 c2
    refine Ak rfl (Al rfl rfl (Al rfl rfl (Al rfl rfl (Bn rfl rfl (o_z ?_)))))
    obtain rfl:=sm h0
    exact ⟨(),_,⟨rfl,rfl,rfl,rfl,rfl,trivial⟩,(hB.st e0).st f0,(b0.st e0).st f0,(h7.st e0).st f0,(c0.st e0).st f0,(d0.st e0).st f0,(a0.st e0).st f0⟩
   replace h0:=im h0 c2
   refine Ak rfl (An rfl rfl (Ax rfl (An rfl rfl (At (hc:=Blk.cell (i:=1) (d1.1) rfl) rfl ?_))))
   refine An rfl rfl (BW rfl rfl (fun d2=>?_) fun d2=>?_)
   ·
    replace h0:=ip h0 d2
    refine Bc rfl rfl (o_z ?_)
    obtain rfl:=sm h0
    exact ⟨(),_,⟨rfl,rfl,rfl,rfl,rfl,trivial⟩,(hB.st e0).st f0,(b0.st e0).st f0,(h7.st e0).st f0,(c0.st e0).st f0,(d0.st e0).st f0,(a0.st e0).st f0⟩
   replace h0:=im h0 d2
   refine Bc rfl rfl (o_z ?_)
   obtain rfl:=sm h0
   exact ⟨(),_,⟨rfl,rfl,rfl,rfl,rfl,trivial⟩,(hB.st e0).st f0,(b0.st e0).st f0,(h7.st e0).st f0,(c0.st e0).st f0,(d0.st e0).st f0,(a0.st e0).st f0⟩
  replace hB:=(hB.st e0).st f0
  replace h7:=(h7.st e0).st f0
  replace c0:=(c0.st e0).st f0
  replace d0:=(d0.st e0).st f0
  replace a0:=(a0.st e0).st f0
  replace b0:=(b0.st e0).st f0
  rintro y8 z8 ⟨n5,a9,c3,hB,b0,h7,c0,d0,a0⟩
  refine AH _ c3 ?_
  refine Cd rfl (fun e2=>?_) (fun e2=>?_)
  ·
   replace k0:=ip k0 e2
   refine Ab (Aa (Am rfl (o_z ?_)))
   refine AF ?_
   obtain rfl:=sm k0
   obtain rfl:=j1 _ rfl
   obtain rfl:=sm (BY hm)
   exact ret1v rfl (AA rfl) ⟨hB.ext,(vInt (iI64 1))⟩
  replace k0:=im' k0 e2
  refine AO ?_
  obtain rfl:=sm k0
  exact show Exists _ from ⟨_,(),rfl,⟨rfl,rfl,rfl,rfl,trivial⟩,_,hB,b0,h7,c0,d0,a0⟩
 rintro b9 d9 ⟨e9,f9,rfl,d3,o5,hB,b0,h7,c0,d0,a0⟩
 replace hm:=AR hm
 refine AH _ d3 ?_
 refine Ab (Ab (Aa (Ax rfl (At (hc:=Blk.cell (i:=0) (b0.1) rfl) rfl ?_))))
 refine Ax rfl (At (hc:=Blk.cell (i:=1) (b0.1) rfl) rfl ?_)
 obtain ⟨p5,q5,hm⟩:=bs hm
 refine AM (O:=o5) (JT (fun _ h=>h) (vMo h7) (vMo c0) q5) rfl fun g9 h9 r5 w0 s5=>?_
 obtain rfl:=s5.bool
 cases p5
 case false =>
  replace hm:=iF hm
  refine Dl rfl (o_z ?_)
  refine Ah rfl (Ab (Aa (Am rfl (o_z ?_))))
  refine AF ?_
  obtain rfl:=sm hm
  replace hB:=hB.st w0
  exact ret1v rfl (AA rfl) ⟨hB.ext,(vInt (iI64 2))⟩
 replace hm:=iT hm
 refine Dk rfl (o_z ?_)
 refine Ae rfl (AO (Ab (Ab (Aa ?_))))
 replace b0:=b0.st w0
 refine Bd (hl:=rfl) (hc:=(b0.1).cellsAt) rfl ?_
 obtain ⟨e1,t5,hm⟩:=bs hm
 replace h7:=h7.st w0
 replace c0:=c0.st w0
 replace d0:=d0.st w0
 replace a0:=a0.st w0
 refine Cc (O:=r5) (Jw Fr.lt (Vb.ofAgg (cs:=[(.slice A8 x0.vars.length c9),(.slice n0 x0.init.length o0),(.slice p0 x0.goal.length q0),(.slice i0 x0.jobs.length j0)]) (x:=x0) rfl ⟨_,_,_,_,rfl,h7,c0,d0,a0⟩) t5) rfl fun i9 j9 u5 r0 y0=>?_
 obtain ⟨e3,f3,rfl⟩:=y0.form
 refine AS rfl ?_
 have f2:e1.length≤9223372036854775807:=Nat.le_trans y0.len.2.1 y0.len.2.2
 have k9:inI64 (e1.length:Int):=rngNat f2
 refine Ak rfl (o_z ?_)
 obtain ⟨g2,g3,hm⟩:=bs hm
 refine Ay (aft g2 (fun (k1:Unit) (l1:Unit)=>[(1,(.pointer (some ⟨s0,0,none⟩)))]) (fun k1 l1 w'=>∃ O':Lab,Bs w A w' O'∧Lc 2 w' O' s0 26 [(.slice A8 x0.vars.length c9),(.slice n0 x0.init.length o0),(.slice p0 x0.goal.length q0),(.slice i0 x0.jobs.length j0)]∧Vb w' (Fr 0 w' O') (.slice A8 x0.vars.length c9) x0.vars∧Vb w' (Fr 0 w' O') (.slice n0 x0.init.length o0) x0.init∧Vb w' (Fr 0 w' O') (.slice p0 x0.goal.length q0) x0.goal∧Vb w' (Fr 0 w' O') (.slice i0 x0.jobs.length j0) x0.jobs)) ?_ ?_
 ·
  refine AK ?_
  replace hB:=(hB.st w0).st r0
  replace h7:=h7.st r0
  replace c0:=c0.st r0
  replace d0:=d0.st r0
  replace a0:=a0.st r0
  replace b0:=b0.st r0
  refine AY (σ:=Unit) (X:=Unit) (e1.length) g3 rfl f2 (fun (k1:Unit) (l1:Unit)=>[(1,(.pointer (some ⟨s0,0,none⟩))),(71,(.slice e3 e1.length f3))]) _ (fun k1 l1 w'=>∃ O':Lab,Bs w A w' O'∧Lc 2 w' O' s0 26 [(.slice A8 x0.vars.length c9),(.slice n0 x0.init.length o0),(.slice p0 x0.goal.length q0),(.slice i0 x0.jobs.length j0)]∧Vb w' (Fr 0 w' O') (.slice A8 x0.vars.length c9) x0.vars∧Vb w' (Fr 0 w' O') (.slice n0 x0.init.length o0) x0.init∧Vb w' (Fr 0 w' O') (.slice p0 x0.goal.length q0) x0.goal∧Vb w' (Fr 0 w' O') (.slice i0 x0.jobs.length j0) x0.jobs∧Vb w' (Fr 0 w' O') (.slice e3 e1.length f3) e1) _ () ⟨u5,hB,b0,h7,c0,d0,a0,y0⟩ ⟨rfl,rfl,rfl,rfl,trivial⟩ (fun _ _=>⟨rfl,rfl⟩) (fun _ _=>⟨rfl,trivial⟩) (fun _ _ _ ⟨O',hB,b0,h7,c0,d0,a0,y0⟩=>⟨O',hB,b0,h7,c0,d0,a0⟩) ⟨rfl,rfl,rfl⟩ ⟨rfl,rfl⟩ ?_
  rintro w5 l9 k1 l1 m9 i7 t1 ⟨x5,hB,b0,h7,c0,d0,a0,y0⟩ l0 m1 x3
  have rk219:inI64 (w5:Int):=rngK t1 f2
  refine Ab (Aa ?_)
  obtain ⟨n9,o9,j7,h3,i3,j3,p9,rfl,n1⟩:=y0.elem' t1
  replace n1:=Vb.of_slice n1
  obtain ⟨q9,r9,rfl⟩:=n1.form
  refine Bi (hA:=h3) (hj:=rfl) (hlt:=i3) rfl rfl ?_
  refine At (hc:=cat0 j3) rfl ?_
  refine Am rfl (o_z ?_)
  refine Ab (Aa (Ax rfl (At (hc:=Blk.cell (i:=0) (b0.1) rfl) rfl ?_)))
  refine Ak rfl ?_
  obtain ⟨y5,z5,l0⟩:=bs l0
  refine AM (O:=x5) (Fy (fun _ h=>h) (vMo h7) (vMo n1) z5) rfl fun s9 t9 u9 z0 a6=>?_
  obtain rfl:=a6.bool
  cases y5
  case false =>
   replace l0:=iF l0
   refine Dl rfl (o_z ?_)
   refine Ah rfl (Ab (Aa (Am rfl (o_z ?_))))
   refine AF ?_
   obtain rfl:=sm l0
   obtain rfl:=m1 _ rfl
   obtain rfl:=sm (BY hm)
   replace hB:=hB.st z0
   exact ret1v rfl (AA rfl) ⟨hB.ext,(vInt (iI64 2))⟩
  replace l0:=iT l0
  refine Dk rfl (o_z ?_)
  refine Ae rfl (AO ?_)
  obtain rfl:=sm l0
  exact show Exists _ from ⟨_,(),rfl,⟨rfl,rfl,rfl,rfl,trivial⟩,_,hB.st z0,b0.st z0,h7.st z0,c0.st z0,d0.st z0,a0.st z0,y0.st z0⟩
 replace hB:=(hB.st w0).st r0
 replace h7:=h7.st r0
 replace c0:=c0.st r0
 replace d0:=d0.st r0
 replace a0:=a0.st r0
 replace b0:=b0.st r0
 rintro v9 w9 ⟨x9,y9,rfl,k3,b6,hB,b0,h7,c0,d0,a0⟩
 replace hm:=AR hm
 refine AH _ k3 ?_
 refine Ab (Ab (Aa (Ax rfl (At (hc:=Blk.cell (i:=3) (b0.1) rfl) rfl ?_))))
 refine AS rfl ?_
 have h2:x0.jobs.length≤9223372036854775807:=Nat.le_trans a0.len.2.1 a0.len.2.2
 have z9:inI64 (x0.jobs.length:Int):=rngNat h2
 refine Ak rfl (o_z ?_)
 obtain ⟨i2,l3,hm⟩:=bs hm
 refine Ay (aft i2 (fun (o1:Unit) (p1:Unit)=>[]) (fun o1 p1 w'=>∃ O':Lab,Bs w A w' O')) ?_ ?_
 ·
  refine AK (AY (σ:=Unit) (X:=Unit) (x0.jobs.length) l3 rfl h2 (fun (o1:Unit) (p1:Unit)=>[(84,(.slice i0 x0.jobs.length j0))]) _ (fun o1 p1 w'=>∃ O':Lab,Bs w A w' O'∧Vb w' (Fr 0 w' O') (.slice i0 x0.jobs.length j0) x0.jobs) _ () ⟨b6,hB,a0⟩ ⟨rfl,rfl,rfl,trivial⟩ (fun _ _=>⟨rfl,rfl⟩) (fun _ _=>trivial) (fun _ _ _ ⟨O',hB,a0⟩=>⟨O',hB⟩) ⟨rfl,rfl,rfl⟩ ⟨rfl,rfl⟩ ?_)
  rintro c6 b1 o1 p1 aA k7 u1 ⟨d6,hB,a0⟩ m0 q1 y3
  have rk260:inI64 (c6:Int):=rngK u1 h2
  refine Ab (Aa ?_)
  obtain ⟨bA,cA,l7,m3,n3,o3,dA,eA,fA,gA,iA,rfl,e6,f6,g6,h6,i6,j6,jA⟩:=a0.elem' u1
  obtain ⟨k6,l6,rfl⟩:=e6.form
  obtain ⟨m6,n6,rfl⟩:=f6.form
  obtain ⟨o6,p6,rfl⟩:=g6.form
  obtain ⟨q6,r6,rfl⟩:=h6.form
  obtain ⟨s6,t6,rfl⟩:=i6.form
  refine Bi (hA:=m3) (hj:=rfl) (hlt:=n3) rfl rfl ?_
  refine Bd (hl:=rfl) (hc:=o3) rfl ?_
  refine AU 4 d6 fun u6 kA p3 j2 g1=>?_
  refine Az g1 rfl rfl rfl (AJ) (allOne) fun w6 k2 g1=>?_
  replace g1:Lc 4 w6 p3 u6 66 [(.string b1.name),(.int .i64 b1.dur),(.slice k6 b1.start.length l6),(.slice m6 b1.over.length n6),(.slice o6 b1.fin.length p6),(.slice q6 b1.atStart.length r6),(.slice s6 b1.atEnd.length t6)]:=g1
  refine o_z ?_
  refine Ab (Aa (Ax rfl (At (hc:=Blk.cell (i:=0) (g1.1) rfl) rfl ?_)))
  obtain ⟨x6,y6,m0⟩:=bs m0
  refine AM (O:=p3) (MP (fun _ h=>h) j6 y6) rfl fun lA mA nA l2 z6=>?_
  obtain rfl:=z6.bool
  cases x6
  case false =>
   replace m0:=iF m0
   refine Dl rfl (o_z ?_)
   refine Ah rfl (Ab (Aa (Am rfl (o_z ?_))))
   refine AF ?_
   obtain rfl:=sm m0
   obtain rfl:=q1 _ rfl
   obtain rfl:=sm (BY hm)
   replace hB:=((hB.st j2).st k2).st l2
   exact ret1v rfl (AA rfl) ⟨hB.ext,(vInt (iI64 8))⟩
  replace m0:=iT m0
  refine Dk rfl (o_z ?_)
  refine Ae rfl (AO ?_)
  obtain rfl:=sm m0
  exact show Exists _ from ⟨_,(),rfl,⟨rfl,rfl,rfl,trivial⟩,_,((hB.st j2).st k2).st l2,((a0.st j2).st k2).st l2⟩
 rintro oA pA ⟨qA,rA,rfl,q3,sA,hB⟩
 replace hm:=AR hm
 refine AH _ q3 ?_
 refine Ab (Aa (Am rfl (o_z ?_)))
 refine AF ?_
 obtain rfl:=sm hm
 exact ret1v rfl (AA rfl) ⟨hB.ext,(vInt (iI64 0))⟩
end
section
open Go Go.RowKit Go.ChangeShapes Go.WideShapes Go.Deep
theorem QN:prog.cellsOf 66=7:=by kernel_rfl
theorem RI:prog.cellsOf 24=1:=by kernel_rfl
theorem Sh:prog.cellsOf 26=4:=by kernel_rfl
theorem len7 {α:Type} {l:List α} (h:l.length=7):∃ a b c d e f g,l=[a,b,c,d,e,f,g]:=by
  match l,h with
  | [a,b,c,d,e,f,g],_=>exact ⟨a,b,c,d,e,f,g,rfl⟩
instance:Reads prog 66 Job:=⟨fun {H enc w n cs x} h=>by
  obtain ⟨hl,m,hf⟩:=readsField underlying66 h
  obtain ⟨v0,v1,v2,v3,v4,v5,v6,rfl⟩:=len7 (hl.trans QN)
  obtain ⟨x0,g0⟩:=hf 0 9 0 1 rfl RX
  replace g0:DataW.trod enc prog w 0 (fun _=>true) true m 9 [v0]=some x0:=g0
  obtain ⟨x1,g1⟩:=hf 1 3 1 1 rfl Nd
  replace g1:DataW.trod enc prog w 0 (fun _=>true) true m 3 [v1]=some x1:=g1
  obtain ⟨x2,g2⟩:=hf 2 23 2 1 rfl HU
  replace g2:DataW.trod enc prog w 0 (fun _=>true) true m 23 [v2]=some x2:=g2
  obtain ⟨x3,g3⟩:=hf 3 23 3 1 rfl HU
  replace g3:DataW.trod enc prog w 0 (fun _=>true) true m 23 [v3]=some x3:=g3
  obtain ⟨x4,g4⟩:=hf 4 23 4 1 rfl HU
  replace g4:DataW.trod enc prog w 0 (fun _=>true) true m 23 [v4]=some x4:=g4
  obtain ⟨x5,g5⟩:=hf 5 23 5 1 rfl HU
  replace g5:DataW.trod enc prog w 0 (fun _=>true) true m 23 [v5]=some x5:=g5
  obtain ⟨x6,g6⟩:=hf 6 23 6 1 rfl HU
  replace g6:DataW.trod enc prog w 0 (fun _=>true) true m 23 [v6]=some x6:=g6
  obtain ⟨z0,e0,_,q0⟩:=DataW.trod_string underlying9 g0
  obtain rfl:v0=.string z0:=by simpa using e0
  obtain ⟨z1,e1,q1⟩:=(inferInstance:Reads prog 3 Int).of g1
  obtain rfl:v1=.int .i64 z1:=by simpa using e1
  obtain ⟨z2,q2⟩:=(inferInstance:Reads prog 23 (List Fct)).of g2
  obtain ⟨z3,q3⟩:=(inferInstance:Reads prog 23 (List Fct)).of g3
  obtain ⟨z4,q4⟩:=(inferInstance:Reads prog 23 (List Fct)).of g4
  obtain ⟨z5,q5⟩:=(inferInstance:Reads prog 23 (List Fct)).of g5
  obtain ⟨z6,q6⟩:=(inferInstance:Reads prog 23 (List Fct)).of g6
  exact ⟨⟨z0,z1,z2,z3,z4,z5,z6⟩,v2,v3,v4,v5,v6,rfl,q2,q3,q4,q5,q6,by simpa [maxLen] using q0,q1⟩⟩
instance:Reads prog 24 (List Job):=readsSlice underlying24 QN
instance:Reads prog 26 Tpl:=⟨fun {H enc w n cs x} h=>by
  obtain ⟨hl,m,hf⟩:=readsField underlying26 h
  obtain ⟨v0,v1,v2,v3,rfl⟩:=len4 (hl.trans Sh)
  obtain ⟨x0,g0⟩:=hf 0 22 0 1 rfl Pi
  replace g0:DataW.trod enc prog w 0 (fun _=>true) true m 22 [v0]=some x0:=g0
  obtain ⟨x1,g1⟩:=hf 1 22 1 1 rfl Pi
  replace g1:DataW.trod enc prog w 0 (fun _=>true) true m 22 [v1]=some x1:=g1
  obtain ⟨x2,g2⟩:=hf 2 23 2 1 rfl HU
  replace g2:DataW.trod enc prog w 0 (fun _=>true) true m 23 [v2]=some x2:=g2
  obtain ⟨x3,g3⟩:=hf 3 24 3 1 rfl RI
  replace g3:DataW.trod enc prog w 0 (fun _=>true) true m 24 [v3]=some x3:=g3
  obtain ⟨z0,q0⟩:=(inferInstance:Reads prog 22 (List Int)).of g0
  obtain ⟨z1,q1⟩:=(inferInstance:Reads prog 22 (List Int)).of g1
  obtain ⟨z2,q2⟩:=(inferInstance:Reads prog 23 (List Fct)).of g2
  obtain ⟨z3,q3⟩:=(inferInstance:Reads prog 24 (List Job)).of g3
  exact ⟨⟨z0,z1,z2,z3⟩,v0,v1,v2,v3,rfl,q0,q1,q2,q3⟩⟩
end
section
open Go Go.RowKit
structure LZ where
  idx:Nat
  dst:Nat
  fact:Value→World→Lab→Prop
def LK (zs:List LZ) (p:Nat→Bool) (l:Env) (w:World) (O:Lab):Prop:=∀ z∈zs,p z.idx=true→∃ v,lk l z.dst=some v∧z.fact v w O
def LStab (z:LZ):Prop:=∀ v w O w' O',z.fact v w O→St nT w O w' O'→z.fact v w' O'
def LPost (w:World) (O:Lab) (z:LZ) (l0:Env) (l':Env) (w':World):Prop:=∃ v O',l'=(z.dst,v) :: l0∧St nT w O w' O'∧z.fact v w' O'
theorem NA {α:Type} {f:α→Nat}:∀ {l:List α},(l.map f).Nodup→∀ {a b:α},a∈l→b∈l→f a=f b→a=b
  | [],_,a,b,h,_,_=>by cases h
  | x :: l,hn,a,b,ha,hb,e=>by
    rw [List.map_cons,List.nodup_cons] at hn
    rcases List.mem_cons.1 ha with h1|h1<;>rcases List.mem_cons.1 hb with h2|h2
    · rw [h1,h2]
    · subst h1;exact absurd (e ▸ List.mem_map_of_mem h2) hn.1
    · subst h2;exact absurd (e ▸ List.mem_map_of_mem h1) hn.1
    · exact NA hn.2 h1 h2 e
def LStep (P:Program) (n:Nat) (ops:Array Oper) (zs:List LZ) (l0:Env) (w0:World) (O0:Lab) (z:LZ):Prop :=
  ∃ o,ops[z.idx]?=some o∧∀ l w O,St nT w0 O0 w O→subs l l0→LK zs (bef ops z.idx) l w O→∃ front,subs l front∧∀ Q:Post,(∀ l' w',LPost w O z (front ++ l) l' w'→Q .normal l' w')→owp P n ops Q [o] (front ++ l) w
def LAll (P:Program) (n:Nat) (ops:Array Oper) (zs:List LZ) (l0:Env) (w0:World) (O0:Lab):List LZ→Prop
  | []=>True
  | z :: r=>(LStab z∧LStep P n ops zs l0 w0 O0 z)∧LAll P n ops zs l0 w0 O0 r
theorem LAll.get {P:Program} {n:Nat} {ops:Array Oper} {zs:List LZ} {l0:Env} {w0:World} {O0:Lab}:∀ {l:List LZ},LAll P n ops zs l0 w0 O0 l→∀ z∈l,LStab z∧LStep P n ops zs l0 w0 O0 z
  | [],_,z,h=>by cases h
  | y :: r,h,z,hz=>by
    rcases List.mem_cons.1 hz with rfl|hz
    · exact h.1
    · exact LAll.get h.2 z hz
def linOk (ops:Array Oper) (listed LS:Array Bool) (ds:List (Nat×Nat)) (l0:Env):Bool :=
  (ds.all fun z=>!listed.getD z.1 true && (l0.all fun q=>!Nat.beq q.1 z.2)) && (ds.map (·.2)).Nodup && (ds.map (·.1)).Nodup &&
  (LS == ds.foldl (fun a z=>a.setIfInBounds z.1 true) listed) && (listed.size == ops.size) &&
  ((List.range ops.size).all fun j=>LS.getD j false || ds.all fun z=>bef ops j z.1) &&
  ((List.range ops.size).all fun j=>(ops[j]?).all fun o=>o.after.all fun e=>!Region.binds .any e || decide (e.on < j))
theorem NB {l:Env}:∀ {f:Env},subs l f→∀ i v,lk (f ++ l) i=some v→lk l i=some v
  | [],_,i,v,h=>h
  | (j,u) :: r,hs,i,v,h=>by
    rw [List.cons_append,lk] at h
    cases hb:Nat.beq j i with
    | true =>
      rw [hb] at h
      have:j=i:=Nat.eq_of_beq_eq_true hb
      subst this
      rw [hs.1];exact h
    | false=>rw [hb] at h;exact NB hs.2 i v h
theorem Py {l f:Env} (hs:subs l f) {i:Nat} {v:Value} (h:lk l i=some v):lk (f ++ l) i=some v:=by
  induction f with
  | nil=>exact h
  | cons q r ih =>
    obtain ⟨j,u⟩:=q
    rw [List.cons_append,lk]
    cases hb:Nat.beq j i with
    | true =>
      have:j=i:=Nat.eq_of_beq_eq_true hb
      subst this
      have h1:=hs.1
      rw [h] at h1
      exact h1.symm
    | false=>exact ih hs.2
theorem Ok.front {n:Nat} {a:Act} {l f:Env} (h:Ok n a l) (hs:subs l f):Ok n a (f ++ l):=⟨h.size,h.defers,fun i v hv=>h.knows i v (NB hs i v hv)⟩
theorem On {l:Env}:∀ {l':Env},(∀ q∈l',lk l q.1=some q.2)→subs l l'
  | [],_=>trivial
  | q :: r,h=>⟨h q List.mem_cons_self,On fun x hx=>h x (List.mem_cons_of_mem _ hx)⟩
theorem NC {l:Env}:∀ {l':Env},subs l l'→∀ q∈l',lk l q.1=some q.2
  | [],_,q,h=>by cases h
  | x :: r,hs,q,h=>by
    rcases List.mem_cons.1 h with rfl|h
    · exact hs.1
    · exact NC hs.2 q h
theorem Qd (ds:List (Nat×Nat)):∀ (a:Array Bool) (j:Nat) (d:Bool),(∀ z∈ds,z.1 < a.size)→((ds.foldl (fun a z=>a.setIfInBounds z.1 true) a).getD j d=if ds.any (fun z=>z.1 == j) then true else a.getD j d):=by
  induction ds with
  | nil=>intro a j d _;rfl
  | cons z r ih =>
    intro a j d h
    rw [List.foldl_cons,ih _ _ _ (fun y hy=>by rw [Array.size_setIfInBounds];exact h y (List.mem_cons_of_mem _ hy))]
    rw [List.any_cons]
    by_cases hr:r.any (fun z=>z.1 == j)=true
    · rw [hr];simp
    · have hr':r.any (fun z=>z.1 == j)=false:=Bool.eq_false_iff.2 hr
      rw [hr',Bool.or_false]
      by_cases hz:z.1=j
      · subst hz
        have:=h z List.mem_cons_self
        simp [Array.getD_eq_getD_getElem?,this]
      · simp [hz,getD_set_ne d hz]
theorem MF:∀ (ds:List (Nat×Nat)) (a:Array Bool),(ds.foldl (fun a z=>a.setIfInBounds z.1 true) a).size=a.size
  | [],_=>rfl
  | z :: r,a=>by rw [List.foldl_cons,MF r,Array.size_setIfInBounds]
theorem IT {a:Array Bool} {j:Nat} (h:j < a.size) (d d':Bool):a.getD j d=a.getD j d':=by simp [Array.getD_eq_getD_getElem?,h]
theorem labB (O:Lab):∀ n:Nat,∃ b,∀ k,k < n→O k≤b
  | 0=>⟨0,fun k h=>by omega⟩
  | n + 1=>by
    obtain ⟨b,hb⟩:=labB O n
    refine ⟨max b (O n),fun k hk=>?_⟩
    rcases Nat.lt_or_ge k n with h|h
    · have:=hb k h;omega
    · have:k=n:=by omega
      subst this;omega
theorem labFr (O:Lab) (n:Nat):∃ j,j≠0∧j≠1∧j≠2∧∀ k,k < n→O k≠j:=by
  obtain ⟨c,hc⟩:=labB O n
  exact ⟨c + 3,by omega,by omega,by omega,fun k hk=>by have:=hc k hk;omega⟩
section
variable {P : Program} {n : Nat} {ops : Array Oper} {Q : Post} {acts : List (Nat × List Nat)} {w0 : World} {O0 : Lab}
theorem Pz {listed:Array Bool} (hs:listed.size=ops.size) (hc:((List.range ops.size).all fun j=>(ops[j]?).all fun o=>o.after.all fun e=>!Region.binds .any e || decide (e.on < j))=true):∀ (k:Nat),k < ops.size→listed.getD k true=false→Region.ready .any ops listed≠[]:=by
  intro k
  induction k using Nat.strongRecOn with
  | _ k ih =>
    intro hk hl he
    by_cases hj:∃ j,j < k∧listed.getD j true=false
    · obtain ⟨j,hj,hjl⟩:=hj
      exact ih j hj (by omega) hjl he
    · have:k∈Region.ready .any ops listed:=mem_ready.2 ⟨hl,ops[k],by simp [hk],fun e hm hb=>by
        have h1:=List.all_eq_true.1 hc k (List.mem_range.2 hk)
        rw [Array.getElem?_eq_getElem hk,Option.all_some,Array.all_eq_true'] at h1
        have h2:=h1 e hm
        rw [hb] at h2
        have h3:e.on < k:=by simpa using h2
        cases hx:listed.getD e.on true with
        | false=>exact absurd ⟨e.on,h3,hx⟩ hj
        | true=>rw [IT (by omega) false true];exact hx⟩
      rw [he] at this;cases this
theorem RJ {zs:List LZ} {l0:Env} {LS:Array Bool} {fend:Nat} {acts':List (Nat×List Nat)} (hA:LAll P n ops zs l0 w0 O0 zs)
    (hac:acts'.all (acts.contains ·)=true)
    (hd:((zs.map fun z=>(z.idx,z.dst)).all fun z=>(l0.all fun q=>!Nat.beq q.1 z.2))=true) (hn:((zs.map fun z=>(z.idx,z.dst)).map (·.2)).Nodup) (hn1:((zs.map fun z=>(z.idx,z.dst)).map (·.1)).Nodup)
    (hLb:((List.range ops.size).all fun j=>LS.getD j false || (zs.map fun z=>(z.idx,z.dst)).all fun z=>bef ops j z.1)=true)
    (hc:((List.range ops.size).all fun j=>(ops[j]?).all fun o=>o.after.all fun e=>!Region.binds .any e || decide (e.on < j))=true)
    (hend:∀ l w O,St nT w0 O0 w O→subs l l0→LK zs (fun _=>true) l w O→hwx P n ops Q acts' w O fend LS l w) :
    ∀ (m:Nat) (listed:Array Bool) (l:Env) (w:World) (O:Lab),(zs.filter fun z=>!listed.getD z.idx true).length=m→listed.size=ops.size→LS.size=ops.size→(∀ z∈zs,z.idx < ops.size) →
      (∀ j,listed.getD j false=true→LS.getD j false=true)→(∀ j,LS.getD j false=true→listed.getD j false=true∨∃ z∈zs,z.idx=j) →
      St nT w0 O0 w O→subs l l0→LK zs (fun i=>listed.getD i false) l w O→hwx P n ops Q acts w0 O0 (fend + m) listed l w:=by
  intro m
  induction m with
  | zero =>
    intro listed l w O hm hs hLs hzs h1 h2 hS hs0 hk
    have hall:∀ z∈zs,listed.getD z.idx false=true:=fun z hz=>by
      have h3:(zs.filter fun z=>!listed.getD z.idx true)=[]:=List.eq_nil_of_length_eq_zero hm
      rw [List.filter_eq_nil_iff] at h3
      have:=h3 z hz
      rw [IT (by rw [hs];exact hzs z hz) false true]
      simpa using this
    have he:listed=LS:=by
      apply Array.ext
      · rw [hs,hLs]
      · intro j hj1 hj2
        have e1:listed.getD j false=listed[j]:=by simp [Array.getD_eq_getD_getElem?,hj1]
        have e2:LS.getD j false=LS[j]:=by simp [Array.getD_eq_getD_getElem?,hj2]
        rw [← e1,← e2]
        cases hL:LS.getD j false with
        | false =>
          cases hl:listed.getD j false with
          | false=>rfl
          | true=>rw [h1 j hl] at hL;exact hL
        | true =>
          rcases h2 j hL with h|⟨z,hz,rfl⟩
          · exact h
          · exact hall z hz
    subst he
    intro hcl a d ha
    refine IE (fun _=>True) (fun _ _ h=>h) ?_ _ _ _ _ trivial (hend l w O hS hs0 (fun z hz _=>hk z hz (hall z hz)) hcl a d ha)
    rintro listed' v _ ⟨e,O'',hS'⟩
    refine ⟨e,O'',(hS.mono (fun _ h=>h.elim):St (·∈tcs acts listed') w0 O0 w O).comp (hS'.mono fun q hq=>?_) fun _ h=>h⟩
    unfold tcs at hq ⊢
    rw [List.mem_flatMap] at hq ⊢
    obtain ⟨p,h3,h4⟩:=hq
    rw [List.mem_filter] at h3
    exact ⟨p,List.mem_filter.2 ⟨by simpa using List.all_eq_true.1 hac p h3.1,h3.2⟩,h4⟩
  | succ m ih =>
    intro listed l w O hm hs hLs hzs h1 h2 hS hs0 hk hcl a d ha
    obtain ⟨z0,hz0⟩:∃ z,z∈zs.filter fun z=>!listed.getD z.idx true:=List.exists_mem_of_length_pos (by omega)
    rw [List.mem_filter] at hz0
    have hu0:listed.getD z0.idx true=false:=by simpa using hz0.2
    refine ⟨fun he=>(Pz hs hc z0.idx (hzs z0 hz0.1) hu0 he).elim,fun i hi=>?_⟩
    obtain ⟨hiu,oi,hoi,hafter⟩:=mem_ready.1 hi
    have hilt:i < ops.size:=by
      rcases Nat.lt_or_ge i ops.size with h|h
      · exact h
      · rw [Array.getElem?_eq_none h] at hoi;cases hoi
    have hiz:∃ z∈zs,z.idx=i:=by
      cases hL:LS.getD i false with
      | true =>
        rcases h2 i hL with h|h
        · rw [IT (by rw [hs];exact hilt) false true,hiu] at h;cases h
        · exact h
      | false =>
        exfalso
        have h3:=List.all_eq_true.1 hLb i (List.mem_range.2 hilt)
        rw [hL,Bool.false_or] at h3
        have h4:=List.all_eq_true.1 h3 (z0.idx,z0.dst) (List.mem_map.2 ⟨z0,hz0.1,rfl⟩)
        have h5:=DT hcl ops.size i z0.idx oi hoi hafter (Hy h4)
        rw [IT (by rw [hs];exact hzs z0 hz0.1) false true,hu0] at h5
        cases h5
    obtain ⟨z,hz,rfl⟩:=hiz
    obtain ⟨hst,o,ho,hstep⟩:=hA.get z hz
    obtain ⟨front,hf,hw⟩:=hstep l w O hS hs0 (fun y hy hb=>hk y hy (DT hcl ops.size z.idx y.idx oi hoi hafter (Hy hb)))
    refine GE (fuel:=fend + m) ho hi (l:=front ++ l) (hw _ ?_) hcl a d (ha.front hf)
    rintro l' w' ⟨v,O',rfl,hS',hF⟩
    have hSS:St nT w0 O0 w' O':=hS.comp hS' fun _ h=>h
    refine ⟨fun _=>⟨w'.drawn,O',hSS.mono fun _ h=>h.elim⟩,?_⟩
    have hlk:∀ i u,i≠z.dst→lk l i=some u→lk ((z.dst,v) :: (front ++ l)) i=some u:=fun i u hi hu=>by
      rw [lk]
      cases hb:Nat.beq z.dst i with
      | true=>exact absurd (Nat.eq_of_beq_eq_true hb).symm hi
      | false=>exact Py hf hu
    refine ih (listed.setIfInBounds z.idx true) _ w' O' ?_ (by rw [Array.size_setIfInBounds];exact hs) hLs hzs ?_ ?_ hSS ?_ ?_
    · have hnd:(zs.map (·.idx)).Nodup:=by simpa [List.map_map,Function.comp_def] using hn1
      have key:∀ (q:List LZ),(q.map (·.idx)).Nodup→z∈q→(∀ y∈q,y∈zs)→(q.filter fun y=>!listed.getD y.idx true).length=(q.filter fun y=>!(listed.setIfInBounds z.idx true).getD y.idx true).length + 1:=by
        intro q
        induction q with
        | nil=>intro _ h;cases h
        | cons y r ihq =>
          intro hnq hmem hsub
          rw [List.map_cons,List.nodup_cons] at hnq
          have hrest:∀ x∈r,x.idx≠y.idx:=fun x hx e=>hnq.1 (e ▸ List.mem_map_of_mem hx)
          rcases List.mem_cons.1 hmem with rfl|hm2
          · have e1:(listed.setIfInBounds z.idx true).getD z.idx true=true:=by
              simp [Array.getD_eq_getD_getElem?,hs,hilt]
            have e2:r.filter (fun y=>!(listed.setIfInBounds z.idx true).getD y.idx true)=r.filter (fun y=>!listed.getD y.idx true):=List.filter_congr fun x hx=>by rw [getD_set_ne true (Ne.symm (hrest x hx))]
            rw [List.filter_cons_of_pos (by simp [hiu]),List.filter_cons_of_neg (by simp [e1]),e2];rfl
          · have hne:z.idx≠y.idx:=hrest z hm2
            have e1:(listed.setIfInBounds z.idx true).getD y.idx true=listed.getD y.idx true:=getD_set_ne true hne
            have:=ihq hnq.2 hm2 fun x hx=>hsub x (List.mem_cons_of_mem _ hx)
            cases hy:listed.getD y.idx true with
            | true=>rw [List.filter_cons_of_neg (by simp [hy]),List.filter_cons_of_neg (by simp [e1,hy])];exact this
            | false=>rw [List.filter_cons_of_pos (by simp [hy]),List.filter_cons_of_pos (by simp [e1,hy]),List.length_cons,List.length_cons,this]
      have:=key zs hnd hz fun _ h=>h
      omega
    · intro j hj
      by_cases hji:z.idx=j
      · subst hji
        rcases Bool.eq_false_or_eq_true (LS.getD z.idx false) with h|h
        · exact h
        · exfalso
          have h3:=List.all_eq_true.1 hLb z.idx (List.mem_range.2 hilt)
          rw [h,Bool.false_or] at h3
          have h4:=List.all_eq_true.1 h3 (z0.idx,z0.dst) (List.mem_map.2 ⟨z0,hz0.1,rfl⟩)
          have h5:=DT hcl ops.size z.idx z0.idx oi hoi hafter (Hy h4)
          rw [IT (by rw [hs];exact hzs z0 hz0.1) false true,hu0] at h5
          cases h5
      · rw [getD_set_ne false hji] at hj;exact h1 j hj
    · intro j hj
      rcases h2 j hj with h|h
      · exact .inl (getD_set_true h)
      · exact .inr h
    · refine On fun q hq=>hlk q.1 q.2 ?_ (NC hs0 q hq)
      have h3:=List.all_eq_true.1 hd (z.idx,z.dst) (List.mem_map.2 ⟨z,hz,rfl⟩)
      have h4:=List.all_eq_true.1 h3 q hq
      intro e
      rw [e] at h4
      simp at h4
    · intro y hy hly
      by_cases hyz:y.dst=z.dst
      · have:y=z:=by
          have hnd:(zs.map (·.dst)).Nodup:=by simpa [List.map_map,Function.comp_def] using hn
          exact NA hnd hy hz hyz
        subst this
        exact ⟨v,by rw [lk];simp,hF⟩
      · have hne:y.idx≠z.idx:=fun e=>by
          have hnd:(zs.map (·.idx)).Nodup:=by simpa [List.map_map,Function.comp_def] using hn1
          exact hyz (by rw [NA hnd hy hz e])
        have hly2:(listed.setIfInBounds z.idx true).getD y.idx false=true:=hly
        have hly':listed.getD y.idx false=true:=by rwa [getD_set_ne false (Ne.symm hne)] at hly2
        obtain ⟨u,hu,hfu⟩:=hk y hy hly'
        exact ⟨u,hlk _ _ hyz hu,(hA.get y hy).1 _ _ _ _ _ hfu hS'⟩
theorem GX {zs:List LZ} {l l0:Env} {listed:Array Bool} {w:World} {tot:Nat} (LS:Array Bool) (fend:Nat) (acts':List (Nat×List Nat)) (hl:subs l l0) (hA:LAll P n ops zs l0 w O0 zs)
    (hend:∀ l w' O,St nT w O0 w' O→subs l l0→LK zs (fun _=>true) l w' O→hwx P n ops Q acts' w' O fend LS l w')
    (ht:fend + zs.length=tot)   (hac:acts'.all (acts.contains ·)=true:=by kernel_rfl) (hck:linOk ops listed LS (zs.map fun z=>(z.idx,z.dst)) l0=true:=by kernel_rfl):hwx P n ops Q acts w O0 tot listed l w:=by
  unfold linOk at hck
  simp only [Bool.and_eq_true,beq_iff_eq] at hck
  obtain ⟨⟨⟨⟨⟨⟨c1,c2⟩,c3⟩,c4⟩,c5⟩,c6⟩,c7⟩:=hck
  have hzl:∀ z∈zs,listed.getD z.idx true=false:=fun z hz=>by
    have:=List.all_eq_true.1 c1 (z.idx,z.dst) (List.mem_map.2 ⟨z,hz,rfl⟩)
    rw [Bool.and_eq_true] at this
    simpa using this.1
  have hzs:∀ z∈zs,z.idx < ops.size:=fun z hz=>by
    rcases Nat.lt_or_ge z.idx listed.size with h|h
    · omega
    · have:=hzl z hz
      rw [Array.getD_eq_getD_getElem?,Array.getElem?_eq_none h] at this;cases this
  have hfg:=Qd (zs.map fun z=>(z.idx,z.dst)) listed
  have hsz:∀ z∈zs.map (fun z=>(z.idx,z.dst)),z.1 < listed.size:=fun z hz=>by
    obtain ⟨y,hy,rfl⟩:=List.mem_map.1 hz
    rw [c5];exact hzs y hy
  have hLsz:LS.size=ops.size:=by
    rw [c4,← c5]
    exact MF _ _
  subst ht
  have hlen:(zs.filter fun z=>!listed.getD z.idx true).length=zs.length:=by
    rw [List.filter_eq_self.2 fun z hz=>by rw [hzl z hz];rfl]
  refine RJ hA hac ?_ (by simpa using c2) (by simpa using c3) c6 c7 hend zs.length listed l w O0 hlen c5 hLsz hzs ?_ ?_ (St.refl _ _ _) hl ?_
  · rw [List.all_eq_true]
    intro z hz
    have:=List.all_eq_true.1 c1 z hz
    rw [Bool.and_eq_true] at this
    exact this.2
  · intro j hj
    rw [c4,hfg j false hsz]
    split
    · rfl
    · exact hj
  · intro j hj
    rw [c4,hfg j false hsz] at hj
    split at hj
    · rename_i h
      obtain ⟨z,hz,he⟩:=List.any_eq_true.1 h
      obtain ⟨y,hy,rfl⟩:=List.mem_map.1 hz
      exact .inr ⟨y,hy,by simpa using he⟩
    · exact .inl hj
  · intro z hz h
    have h':listed.getD z.idx false=true:=h
    rw [IT (by rw [c5];exact hzs z hz) false true,hzl z hz] at h'
    cases h'
variable {rest : List Oper} {l : Env} {w : World} {d : Tmp} {ty : TypeId} {pos : String} {aft : Array Edge}
theorem CT {α:Type} [Rp α] (O:Lab) {t e:TypeId} [TSlice P t e] {z:Value} {size bytes len:Nat} [TInfo P e z size bytes] {ps:List (Nat×Operand)} {vs:List Value} {xs:List α} (hsize:size=Rp.size α)  (hx:opvs l (ps.map (·.2))=some vs) (hlen:len=xs.length)
    (hv:Vall w (Fr 0 w O) vs xs)   
    (h:∀ g w' O',St nT w O w' O'→Vb w' (Fr 0 w' O') (.slice (some ⟨g,0,none⟩) xs.length len) xs→owp P n ops Q rest ((d,.slice (some ⟨g,0,none⟩) xs.length len) :: l) w') (hk:idxOk 0 ps=true:=by exact rfl) (hz:len * size≤16777216:=by decide) (hm:len≤9223372036854775807:=by decide) (hd:Nat.blt d n=true:=by exact rfl):owp P n ops Q (⟨some d,.buildSlice t len ps.toArray,ty,pos,aft,none⟩ :: rest) l w:=by
  obtain ⟨i,hi,_,_,hf⟩:=labFr O w.heap.size
  refine AQ i (hi:=hi) O hsize (hk:=hk) hx hlen hv (hz:=hz) (hm:=hm) (hd:=hd) fun g w' O' hS hR=>?_
  obtain ⟨O2,hS2,h2⟩:=hR.freeze
  refine h g w' O2 ⟨hS2.os.trans hS.os,hS2.tape.trans hS.tape,hS2.output.trans hS.output,Nat.le_trans hS.size hS2.size,fun k hk hT=>?_⟩ h2
  obtain ⟨f1,e1⟩:=hS.same k hk hT
  obtain ⟨f2,e2⟩:=hS2.same k (Nat.lt_of_lt_of_le hk hS.size) (by rw [e1];exact hf k hk)
  exact ⟨f2.trans f1,e2.trans e1⟩
theorem LP {α:Type} [Rp α] {f:FuncId} [Callable P f] {xs:List Operand} {vs:List Value} {ts:Array TypeId} {O:Lab} {e:TypeId} {r:List α} (hc:Fn P f vs w fun v w'=>Ext w w'∧RowR w w' (upA (Fr 0 w O) w w') e v r) (hx:opvs l xs=some vs) (hd:Nat.blt d n=true)
    (h:∀ A c w' O',St nT w O w' O'→Vb w' (Fr 0 w' O') (.slice A r.length c) r→owp P n ops Q rest ((d,.slice A r.length c) :: l) w'):owp P n ops Q (⟨some d,.call { callee:=.value (.func f),args:=xs.toArray,argTypes:=ts },ty,pos,aft,none⟩ :: rest) l w:=by
  obtain ⟨i,hi,_,_,hf⟩:=labFr O w.heap.size
  refine CZ i (hi:=hi) hc hx (hd:=hd) fun A c w' O' hS hR=>?_
  obtain ⟨O2,hS2,h2⟩:=hR.freeze
  refine h A c w' O2 ⟨hS2.os.trans hS.os,hS2.tape.trans hS.tape,hS2.output.trans hS.output,Nat.le_trans hS.size hS2.size,fun k hk hT=>?_⟩ h2
  obtain ⟨f1,e1⟩:=hS.same k hk hT
  obtain ⟨f2,e2⟩:=hS2.same k (Nat.lt_of_lt_of_le hk hS.size) (by rw [e1];exact hf k hk)
  exact ⟨f2.trans f1,e2.trans e1⟩
theorem LK.at {zs:List LZ} {p:Nat→Bool} {l:Env} {w:World} {O:Lab} (h:LK zs p l w O) (k:Nat) {z:LZ} (hz:zs[k]?=some z) (hp:p z.idx=true):∃ v,lk l z.dst=some v∧z.fact v w O:=h z (List.mem_of_getElem? hz) hp
end
end
section
open Go Go.RowKit
attribute [local irreducible] ewp owp hwp hwq Ev Evg Fn retPost Res1
attribute [local irreducible] hwx loudX
noncomputable def Dc (x0:Tpl) (x1:List Lch):Option ((MapR 182 Int Hap)×(List Int)) :=
  bnd (rng (ρ:=(MapR 182 Int Hap)×(List Int)) (fun (k38:Nat) (a39:Lch) (s36:(MapR 182 Int Hap))=>bnd (appI 16 (mget ([]:List Hap) s36.l a39.tm) [(⟨a39.job,false⟩:Hap)]) fun u82=>bnd (Da x0 a39) fun q97=>bnd (appI 16 (mget ([]:List Hap) (⟨mput s36.l a39.tm u82⟩:MapR 182 Int Hap).l q97) [(⟨a39.job,true⟩:Hap)]) fun u99=>some (.next (⟨mput (⟨mput s36.l a39.tm u82⟩:MapR 182 Int Hap).l q97 u99⟩:MapR 182 Int Hap))) x1 0 (⟨[]⟩:MapR 182 Int Hap)) fun res34=>fin res34 fun (s219:(MapR 182 Int Hap))=>bnd (keysI s219) fun u221=>bnd (Cy u221) fun q235=>some (s219,q235)
theorem IU {w:World} {O:Lab} {vx0:Value} {x0:Tpl} (j3:Vb w (Fr 0 w O) vx0 x0) {vx1:Value} {x1:List Lch} (i1:Vb w (Fr 0 w O) vx1 x1) (j0:Nat) (hj0:j0≠0) {r:(MapR 182 Int Hap)×(List Int)} (hm:Dc x0 x1=some r) :
    Fn prog 71 [vx0,vx1] w fun v w'=>∃ O',St nT w O w' O'∧∃ v0 v1:Value,v=.tuple #[v0,v1]∧Ob j0 w' O' v0 (r.1:MapR 182 Int Hap)∧Vb w' (Fr 0 w' O') v1 r.2:=by
 obtain ⟨O0,hE,t4⟩:=ent0 (w:=w) (O:=O)
 have hB:Bm w O0 w O0:=Bm.refl
 replace j3:=j3.mono t4
 obtain ⟨d8,rfl,v4,v5,v6,v7,rfl,h8,c0,d0,e0⟩:=j3
 obtain ⟨A9,p1,rfl⟩:=h8.form
 obtain ⟨q1,r1,rfl⟩:=c0.form
 obtain ⟨s1,t1,rfl⟩:=d0.form
 obtain ⟨u1,w1,rfl⟩:=e0.form
 replace i1:=i1.mono t4
 obtain ⟨u4,w4,rfl⟩:=i1.form
 refine AL func71 rfl ntmps71 ?_
 unfold Dc at hm
 refine Ab (Aa (BL 2 O0 rfl fun k3 b5 x4 b2 j1=>?_))
 replace j1:Lc 2 b5 x4 k3 26 [(.slice A9 x0.vars.length p1),(.slice q1 x0.init.length r1),(.slice s1 x0.goal.length t1),(.slice u1 x0.jobs.length w1)]:=j1
 refine Am rfl (Am rfl (o_z ?_))
 refine Ab (Aa (PY (K:=Int) (V:=Hap) 182 3 (by decide) x4 rfl fun h3 e8 c5 y1 d5=>?_))
 refine Am rfl (o_z ?_)
 refine Ab (Ab (Aa (Ak rfl (AS rfl ?_))))
 replace i1:=(i1.st b2).st y1
 have l3:x1.length≤9223372036854775807:=Nat.le_trans i1.len.2.1 i1.len.2.2
 have f8:inI64 (x1.length:Int):=rngNat l3
 refine Ak rfl (o_z ?_)
 obtain ⟨o2,m3,hm⟩:=bs hm
 refine Ay (aft o2 (fun (m2:(MapR 182 Int Hap)) (i3:Unit)=>[(6,(.map (some h3)))]) (fun m2 i3 w'=>∃ O':Lab,Bm w O0 w' O'∧Ob 3 w' O' (.map (some h3)) m2)) ?_ ?_
 ·
  refine AK ?_
  replace hB:=(hB.st b2).st y1
  replace h8:=(h8.st b2).st y1
  replace c0:=(c0.st b2).st y1
  replace d0:=(d0.st b2).st y1
  replace e0:=(e0.st b2).st y1
  replace j1:=j1.st y1
  refine AY (σ:=(MapR 182 Int Hap)) (X:=Unit) (x1.length) m3 rfl l3 (fun (m2:(MapR 182 Int Hap)) (i3:Unit)=>[(2,(.pointer (some ⟨k3,0,none⟩))),(6,(.map (some h3))),(12,(.slice u4 x1.length w4))]) _ (fun m2 i3 w'=>∃ O':Lab,Bm w O0 w' O'∧Lc 2 w' O' k3 26 [(.slice A9 x0.vars.length p1),(.slice q1 x0.init.length r1),(.slice s1 x0.goal.length t1),(.slice u1 x0.jobs.length w1)]∧Vb w' (Fr 0 w' O') (.slice A9 x0.vars.length p1) x0.vars∧Vb w' (Fr 0 w' O') (.slice q1 x0.init.length r1) x0.init∧Vb w' (Fr 0 w' O') (.slice s1 x0.goal.length t1) x0.goal∧Vb w' (Fr 0 w' O') (.slice u1 x0.jobs.length w1) x0.jobs∧Ob 3 w' O' (.map (some h3)) m2∧Vb w' (Fr 0 w' O') (.slice u4 x1.length w4) x1) _ () ⟨c5,hB,j1,h8,c0,d0,e0,d5,i1⟩ ⟨rfl,rfl,rfl,rfl,rfl,trivial⟩ (fun _ _=>⟨rfl,rfl⟩) (fun _ _=>⟨rfl,trivial⟩) (fun _ _ _ ⟨O',hB,j1,h8,c0,d0,e0,e1,i1⟩=>⟨O',hB,e1⟩) ⟨rfl,rfl,rfl⟩ ⟨rfl,rfl⟩ ?_
  rintro e5 b0 m2 i3 g8 f5 p2 ⟨g5,hB,j1,h8,c0,d0,e0,e1,i1⟩ l0 n3 o3
  have rk38:inI64 (e5:Int):=rngK p2 l3
  refine Ab (Aa ?_)
  obtain ⟨i8,j8,h5,p3,q3,r3,rfl,q2,m1⟩:=i1.elem' p2
  refine Bi (hA:=p3) (hj:=rfl) (hlt:=q3) rfl rfl ?_
  refine Bd (hl:=rfl) (hc:=r3) rfl ?_
  refine AU 4 g5 fun i5 k8 s3 b1 l1=>?_
  refine Az l1 rfl rfl rfl (AJ) (allOne) fun j5 c1 l1=>?_
  replace l1:Lc 4 j5 s3 i5 52 [(.int .i64 b0.tm),(.int .i64 b0.job)]:=l1
  refine o_z ?_
  refine Ab (Br [(11,[3,6])] s3 ?_)
  refine AP (fuel:=6) [] [(3,true),(4,true),(5,true),(6,true),(7,true),(8,true),(9,true)] rfl ?_
  refine AX rfl rfl (AT rfl rfl (AV (hc:=bCell l1 0 rfl) rfl rfl ?_))
  replace e1:=(e1.st b1).st c1
  obtain ⟨l8,m8,n1,y4⟩:=MapR.get e1 b0.tm
  refine ON b0.tm (fun w' ⟨O',hq⟩=>n1.keep (hq.agree (i:=3) (by decide) _ (MapR.at e1))) rfl rfl rfl rfl ?_
  refine AT rfl rfl (AV (hc:=bCell l1 1 rfl) rfl rfl ?_)
  refine Cq rfl rfl rfl ?_
  refine AC ?_
  refine AP (fuel:=3) [3,6] [(0,true),(1,true),(2,true)] rfl ?_
  refine AX rfl rfl (AT rfl rfl (AV (hc:=bCell l1 0 rfl) rfl rfl ?_))
  refine AC ?_
  refine AD (i:=10) rfl ?_
  refine AQ 5 s3 (xs:=([(⟨b0.job,false⟩:Hap)]:List Hap)) rfl rfl rfl ⟨(Vb.ofAgg (cs:=[(.int .i64 b0.job),(.bool false)]) (x:=(⟨b0.job,false⟩:Hap)) rfl ⟨rfl,m1⟩),trivial⟩ fun n8 o8 p8 k0 t3=>?_
  have hZ:=lZ k0
  replace n1:=n1.keep (k0.agree (i:=3) id _ (MapR.at e1))
  replace y4:=y4.stS k0 id (fun _ _=>id)
  refine AN [(11,[3,6])] hZ ?_
  refine AD (i:=11) rfl ?_
  replace e1:=e1.st k0
  obtain ⟨q8,y0,u3,k5⟩:=MapR.take e1 n1 6 (by decide) (by decide)
  have hZ:=y0.lst [3] (fun _ h=>by cases h;decide)
  obtain ⟨r8,v3,l0⟩:=bs l0
  obtain ⟨v3,l5,m5⟩:=AI v3
  replace t3:=t3.st y0
  refine AZ rfl k5 (t3.rd) rfl rfl l5 m5 fun s8 t8 u8 v8 z0 z4=>?_
  rw [← v3] at z4 ⊢
  replace hZ:=hZ.cmp z0 [3,6] (fun _ h=>by cases h;decide) rfl
  refine AN [] hZ ?_
  refine AD (i:=12) rfl ?_
  replace u3:=u3.st z0
  refine Kp u3 z4 rfl rfl rfl fun a5 r2 d1 a1=>?_
  refine BF ?_
  refine Bv ?_
  obtain ⟨n2,s2,l0⟩:=bs l0
  obtain ⟨w8,m0,l0⟩:=bs l0
  refine Br [(13,[3,6])] r2 ?_
  refine AP (fuel:=7) [] [(1,true),(2,true),(4,true),(5,true),(6,true),(9,true),(10,true),(11,true)] rfl ?_
  replace j1:=(((((j1.st b1).st c1).st k0).st y0).st z0).st d1
  refine CJ (hl:=rfl) (hb:=fun w' ⟨O',hq⟩=>((j1.st hq (by decide)).1).cellsAt) rfl rfl ?_
  replace l1:=(((l1.st k0).st y0).st z0).st d1
  refine CJ (hl:=rfl) (hb:=fun w' ⟨O',hq⟩=>((l1.st hq (by decide)).1).cellsAt) rfl rfl ?_
  refine AX rfl rfl (CJ (hl:=rfl) (hb:=fun w' ⟨O',hq⟩=>((j1.st hq (by decide)).1).cellsAt) rfl rfl ?_)
  refine CJ (hl:=rfl) (hb:=fun w' ⟨O',hq⟩=>((l1.st hq (by decide)).1).cellsAt) rfl rfl ?_
  refine AT rfl rfl (AV (hc:=bCell l1 1 rfl) rfl rfl ?_)
  refine Cq rfl rfl rfl ?_
  refine AC ?_
  refine AP (fuel:=6) [3,6] [(0,true)] rfl ?_
  refine AX rfl rfl (AC ?_)
  refine EJ (i:=3) (j:=12) rfl rfl ?_ ?_
  ·
   replace h8:=(((((h8.st b1).st c1).st k0).st y0).st z0).st d1
   replace c0:=(((((c0.st b1).st c1).st k0).st y0).st z0).st d1
   replace d0:=(((((d0.st b1).st c1).st k0).st y0).st z0).st d1
   replace e0:=(((((e0.st b1).st c1).st k0).st y0).st z0).st d1
   refine AM (O:=r2) (Db (fun _ h=>h) (Vb.mono (F:=Fr 0 a5 r2) (Vb.ofAgg (cs:=[(.slice A9 x0.vars.length p1),(.slice q1 x0.init.length r1),(.slice s1 x0.goal.length t1),(.slice u1 x0.jobs.length w1)]) (x:=x0) rfl ⟨_,_,_,_,rfl,h8,c0,d0,e0⟩) Fr.lt) (Vb.mono (F:=Fr 0 a5 r2) (Vb.ofAgg (cs:=[(.int .i64 b0.tm),(.int .i64 b0.job)]) (x:=b0) rfl ⟨rfl,q2,m1⟩) Fr.lt) s2) rfl fun n5 t2 o1 a0 w3=>?_
   obtain ⟨rfl,o5⟩:=w3.int
   have hZ:=lZ a0
   refine AN [(13,[3,6])] hZ ?_
   refine EJ (i:=7) (j:=12) rfl rfl ?_ ?_
   ·
    replace h8:=h8.st a0
    replace c0:=c0.st a0
    replace d0:=d0.st a0
    replace e0:=e0.st a0
    refine AM (O:=o1) (Db (fun _ h=>h) (Vb.mono (F:=Fr 0 t2 o1) (Vb.ofAgg (cs:=[(.slice A9 x0.vars.length p1),(.slice q1 x0.init.length r1),(.slice s1 x0.goal.length t1),(.slice u1 x0.jobs.length w1)]) (x:=x0) rfl ⟨_,_,_,_,rfl,h8,c0,d0,e0⟩) Fr.lt) (Vb.mono (F:=Fr 0 t2 o1) (Vb.ofAgg (cs:=[(.int .i64 b0.tm),(.int .i64 b0.job)]) (x:=b0) rfl ⟨rfl,q2,m1⟩) Fr.lt) s2) rfl fun p5 q5 x3 n0 y3=>?_
    obtain ⟨rfl,r5⟩:=y3.int
    have hZ:=lZ n0
    refine AN [(13,[3,6])] hZ ?_
    refine AP (fuel:=3) [] [(8,true)] rfl ?_
    replace a1:=(a1.st a0).st n0
    obtain ⟨s5,t5,k1,u2⟩:=MapR.get a1 n2
    refine ON n2 (fun w' ⟨O',hq⟩=>k1.keep (hq.agree (i:=3) (by decide) _ (MapR.at a1))) rfl rfl rfl rfl ?_
    refine AC ?_
    refine AD (i:=12) rfl ?_
    refine AQ 7 x3 (xs:=([(⟨b0.job,true⟩:Hap)]:List Hap)) rfl rfl rfl ⟨(Vb.ofAgg (cs:=[(.int .i64 b0.job),(.bool true)]) (x:=(⟨b0.job,true⟩:Hap)) rfl ⟨rfl,m1⟩),trivial⟩ fun u5 w5 x5 f0 c2=>?_
    have hZ:=lZ f0
    replace k1:=k1.keep (f0.agree (i:=3) id _ (MapR.at a1))
    replace u2:=u2.stS f0 id (fun _ _=>id)
    refine AN [(13,[3,6])] hZ ?_
    refine AD (i:=13) rfl ?_
    replace a1:=a1.st f0
    obtain ⟨y5,o0,d2,z3⟩:=MapR.take a1 k1 6 (by decide) (by decide)
    have hZ:=o0.lst [3] (fun _ h=>by cases h;decide)
    obtain ⟨m0,a4,b4⟩:=AI m0
    replace c2:=c2.st o0
    refine AZ rfl z3 (c2.rd) rfl rfl a4 b4 fun z5 a6 b6 c6 p0 v2=>?_
    rw [← m0] at v2 ⊢
    replace hZ:=hZ.cmp p0 [3,6] (fun _ h=>by cases h;decide) rfl
    refine AN [] hZ ?_
    refine AD (i:=14) rfl ?_
    replace d2:=d2.st p0
    refine Kp d2 v2 rfl rfl rfl fun d6 e6 f1 c4=>?_
    refine BF ?_
    refine Bv ?_
    obtain rfl:=sm l0
    exact show Exists _ from ⟨_,(),rfl,⟨rfl,rfl,rfl,rfl,rfl,trivial⟩,_,(((((((((((hB.st b1).st c1).st k0).st y0).st z0).st d1).st a0).st n0).st f0).st o0).st p0).st f1,(((((j1.st a0).st n0).st f0).st o0).st p0).st f1,((((h8.st n0).st f0).st o0).st p0).st f1,((((c0.st n0).st f0).st o0).st p0).st f1,((((d0.st n0).st f0).st o0).st p0).st f1,((((e0.st n0).st f0).st o0).st p0).st f1,c4,(((((((((((i1.st b1).st c1).st k0).st y0).st z0).st d1).st a0).st n0).st f0).st o0).st p0).st f1⟩
   refine AQ 7 o1 (xs:=([(⟨b0.job,true⟩:Hap)]:List Hap)) rfl rfl rfl ⟨(Vb.ofAgg (cs:=[(.int .i64 b0.job),(.bool true)]) (x:=(⟨b0.job,true⟩:Hap)) rfl ⟨rfl,m1⟩),trivial⟩ fun f6 w2 e2 q0 f2=>?_
   have hZ:=lZ q0
   refine AN [(13,[3,6])] hZ ?_
   refine AD (i:=7) rfl ?_
   replace h8:=(h8.st a0).st q0
   replace c0:=(c0.st a0).st q0
   replace d0:=(d0.st a0).st q0
   replace e0:=(e0.st a0).st q0
   refine AM (O:=e2) (Db (fun _ h=>h) (Vb.mono (F:=Fr 0 w2 e2) (Vb.ofAgg (cs:=[(.slice A9 x0.vars.length p1),(.slice q1 x0.init.length r1),(.slice s1 x0.goal.length t1),(.slice u1 x0.jobs.length w1)]) (x:=x0) rfl ⟨_,_,_,_,rfl,h8,c0,d0,e0⟩) Fr.lt) (Vb.mono (F:=Fr 0 w2 e2) (Vb.ofAgg (cs:=[(.int .i64 b0.tm),(.int .i64 b0.job)]) (x:=b0) rfl ⟨rfl,q2,m1⟩) Fr.lt) s2) rfl fun g6 h6 i6 g0 d4=>?_
   obtain ⟨rfl,j6⟩:=d4.int
   have hZ:=lZ g0
   refine AN [(13,[3,6])] hZ ?_
   refine AP (fuel:=2) [] [(8,true)] rfl ?_
   replace a1:=((a1.st a0).st q0).st g0
   obtain ⟨k6,l6,z1,m6⟩:=MapR.get a1 n2
   refine ON n2 (fun w' ⟨O',hq⟩=>z1.keep (hq.agree (i:=3) (by decide) _ (MapR.at a1))) rfl rfl rfl rfl ?_
   refine AC ?_
   refine AD (i:=13) rfl ?_
   obtain ⟨n6,r0,g2,e4⟩:=MapR.take a1 z1 6 (by decide) (by decide)
   have hZ:=r0.lst [3] (fun _ h=>by cases h;decide)
   obtain ⟨m0,f4,g4⟩:=AI m0
   replace f2:=(f2.st g0).st r0
   refine AZ rfl e4 (f2.rd) rfl rfl f4 g4 fun o6 p6 q6 r6 s0 x2=>?_
   rw [← m0] at x2 ⊢
   replace hZ:=hZ.cmp s0 [3,6] (fun _ h=>by cases h;decide) rfl
   refine AN [] hZ ?_
   refine AD (i:=14) rfl ?_
   replace g2:=g2.st s0
   refine Kp g2 x2 rfl rfl rfl fun s6 t6 g1 h4=>?_
   refine BF ?_
   refine Bv ?_
   obtain rfl:=sm l0
   exact show Exists _ from ⟨_,(),rfl,⟨rfl,rfl,rfl,rfl,rfl,trivial⟩,_,(((((((((((hB.st b1).st c1).st k0).st y0).st z0).st d1).st a0).st q0).st g0).st r0).st s0).st g1,(((((j1.st a0).st q0).st g0).st r0).st s0).st g1,(((h8.st g0).st r0).st s0).st g1,(((c0.st g0).st r0).st s0).st g1,(((d0.st g0).st r0).st s0).st g1,(((e0.st g0).st r0).st s0).st g1,h4,(((((((((((i1.st b1).st c1).st k0).st y0).st z0).st d1).st a0).st q0).st g0).st r0).st s0).st g1⟩
  refine AQ 7 r2 (xs:=([(⟨b0.job,true⟩:Hap)]:List Hap)) rfl rfl rfl ⟨(Vb.ofAgg (cs:=[(.int .i64 b0.job),(.bool true)]) (x:=(⟨b0.job,true⟩:Hap)) rfl ⟨rfl,m1⟩),trivial⟩ fun u6 y2 h2 t0 i2=>?_
  have hZ:=lZ t0
  refine AN [(13,[3,6])] hZ ?_
  refine AD (i:=3) rfl ?_
  replace h8:=((((((h8.st b1).st c1).st k0).st y0).st z0).st d1).st t0
  replace c0:=((((((c0.st b1).st c1).st k0).st y0).st z0).st d1).st t0
  replace d0:=((((((d0.st b1).st c1).st k0).st y0).st z0).st d1).st t0
  replace e0:=((((((e0.st b1).st c1).st k0).st y0).st z0).st d1).st t0
  refine AM (O:=h2) (Db (fun _ h=>h) (Vb.mono (F:=Fr 0 y2 h2) (Vb.ofAgg (cs:=[(.slice A9 x0.vars.length p1),(.slice q1 x0.init.length r1),(.slice s1 x0.goal.length t1),(.slice u1 x0.jobs.length w1)]) (x:=x0) rfl ⟨_,_,_,_,rfl,h8,c0,d0,e0⟩) Fr.lt) (Vb.mono (F:=Fr 0 y2 h2) (Vb.ofAgg (cs:=[(.int .i64 b0.tm),(.int .i64 b0.job)]) (x:=b0) rfl ⟨rfl,q2,m1⟩) Fr.lt) s2) rfl fun w6 z2 j2 h0 i4=>?_
  obtain ⟨rfl,x6⟩:=i4.int
  have hZ:=lZ h0
  refine AN [(13,[3,6])] hZ ?_
  refine AD (i:=7) rfl ?_
  replace h8:=h8.st h0
  replace c0:=c0.st h0
  replace d0:=d0.st h0
  replace e0:=e0.st h0
  refine AM (O:=j2) (Db (fun _ h=>h) (Vb.mono (F:=Fr 0 z2 j2) (Vb.ofAgg (cs:=[(.slice A9 x0.vars.length p1),(.slice q1 x0.init.length r1),(.slice s1 x0.goal.length t1),(.slice u1 x0.jobs.length w1)]) (x:=x0) rfl ⟨_,_,_,_,rfl,h8,c0,d0,e0⟩) Fr.lt) (Vb.mono (F:=Fr 0 z2 j2) (Vb.ofAgg (cs:=[(.int .i64 b0.tm),(.int .i64 b0.job)]) (x:=b0) rfl ⟨rfl,q2,m1⟩) Fr.lt) s2) rfl fun y6 z6 a7 i0 j4=>?_
  obtain ⟨rfl,b7⟩:=j4.int
  have hZ:=lZ i0
  refine AN [(13,[3,6])] hZ ?_
  refine AP (fuel:=2) [] [(8,true)] rfl ?_
  replace a1:=((a1.st t0).st h0).st i0
  obtain ⟨c7,d7,a2,e7⟩:=MapR.get a1 n2
  refine ON n2 (fun w' ⟨O',hq⟩=>a2.keep (hq.agree (i:=3) (by decide) _ (MapR.at a1))) rfl rfl rfl rfl ?_
  refine AC ?_
  refine AD (i:=13) rfl ?_
  obtain ⟨f7,u0,k2,k4⟩:=MapR.take a1 a2 6 (by decide) (by decide)
  have hZ:=u0.lst [3] (fun _ h=>by cases h;decide)
  obtain ⟨m0,l4,m4⟩:=AI m0
  replace i2:=((i2.st h0).st i0).st u0
  refine AZ rfl k4 (i2.rd) rfl rfl l4 m4 fun g7 h7 i7 j7 w0 a3=>?_
  rw [← m0] at a3 ⊢
  replace hZ:=hZ.cmp w0 [3,6] (fun _ h=>by cases h;decide) rfl
  refine AN [] hZ ?_
  refine AD (i:=14) rfl ?_
  replace k2:=k2.st w0
  refine Kp k2 a3 rfl rfl rfl fun k7 l7 h1 n4=>?_
  refine BF ?_
  refine Bv ?_
  obtain rfl:=sm l0
  exact show Exists _ from ⟨_,(),rfl,⟨rfl,rfl,rfl,rfl,rfl,trivial⟩,_,(((((((((((hB.st b1).st c1).st k0).st y0).st z0).st d1).st t0).st h0).st i0).st u0).st w0).st h1,(((((j1.st t0).st h0).st i0).st u0).st w0).st h1,(((h8.st i0).st u0).st w0).st h1,(((c0.st i0).st u0).st w0).st h1,(((d0.st i0).st u0).st w0).st h1,(((e0.st i0).st u0).st w0).st h1,n4,(((((((((((i1.st b1).st c1).st k0).st y0).st z0).st d1).st t0).st h0).st i0).st u0).st w0).st h1⟩
 replace hB:=(hB.st b2).st y1
 rintro m7 n7 ⟨o7,p7,rfl,b3,q7,hB,e1⟩
 replace hm:=AR hm
 refine AH _ b3 ?_
 refine Ab (Aa (Am rfl (o_z ?_)))
 refine Ab ?_
 obtain ⟨r7,o4,hm⟩:=bs hm
 obtain ⟨p4,rfl⟩:=OQ o4
 refine Ps (q:=8) (j:=10) e1 p4 (by decide) (by decide) (by decide) (by decide) (by decide) rfl rfl (h:=fun s7 t7 u7 w7 q4 x7 c3 d3 r4 e3=>?_)
 rw [Pt c3] at hm
 refine AH _ e3 ?_
 refine Ab (Aa (Ak rfl ?_))
 obtain ⟨y7,s4,hm⟩:=bs hm
 refine Mh (O:=q4) (IG r4 s4) rfl rfl fun z7 a8 b8 f3 l2=>?_
 refine o_z ?_
 refine Ab (Aa (Ak rfl (Ak rfl (Am rfl (Am rfl (o_z ?_))))))
 refine AF ?_
 obtain ⟨c8,g3,l2⟩:=l2.freeze
 obtain rfl:=sm hm
 replace hB:=((hB.st d3).st f3).st g3
 obtain ⟨O',hS',hz,hl⟩:=hE.leave (fun q=>if q=3 then j0 else 0) rfl hB
 replace e1:=((e1.st d3).st f3).st g3
 exact ret2 rfl (AA rfl) (AA rfl) ⟨O',hS',_,_,rfl,(Ob.leave e1 hz (hl 3 (by decide) (by decide)) hj0),(Vb.mono l2 hz)⟩
noncomputable def DC (x0:Tpl) (x1:List Lch):Option (Int×Err) :=
  bnd (DZ x0 x1) fun q27=>if q27.n≠0 then (some (0,(⟨q27.n⟩:Err))) else (bnd (Dc x0 x1) fun q36=>bnd (rng (ρ:=Int×Err) (fun (k58:Nat) (a59:Int) (s56:(List Int))=>bnd (EL x0 x1 a59 s56 (mget ([]:List Hap) q36.1.l a59)) fun q83=>if q83.2.n≠0 then (some (.ret (0,(⟨q83.2.n⟩:Err)))) else (some (.next q83.1))) q36.2 0 x0.init) fun res54=>fin res54 fun (s102:(List Int))=>bnd (EX x0.goal s102) fun q104=>if q104=true then bnd (DB x0 x1) fun q111=>some (q111,(⟨0⟩:Err)) else some (0,(⟨13⟩:Err)))
theorem JH {w:World} {A:Nat→Prop} (hA:∀ k,A k→k < w.heap.size) {vx0:Value} {x0:Tpl} (i1:Vb w A vx0 x0) {vx1:Value} {x1:List Lch} (a0:Vb w A vx1 x1) {r:Int×Err} (hm:DC x0 x1=some r) :
    Fn prog 23 [vx0,vx1] w fun v w'=>Ext w w'∧T2 w' (upA A w w') v r:=by
 obtain ⟨O,hB,d2⟩:=enter hA
 replace i1:=i1.mono d2
 obtain ⟨l3,rfl,v4,v5,v6,v7,rfl,h8,b0,c0,e0⟩:=i1
 obtain ⟨A9,p0,rfl⟩:=h8.form
 obtain ⟨k0,l0,rfl⟩:=b0.form
 obtain ⟨q0,r0,rfl⟩:=c0.form
 obtain ⟨s0,t0,rfl⟩:=e0.form
 replace a0:=a0.mono d2
 obtain ⟨g1,h1,rfl⟩:=a0.form
 refine AL func23 rfl ntmps23 ?_
 unfold DC at hm
 refine Ab (Aa (BL 2 O rfl fun a1 e2 j1 v0 d0=>?_))
 replace d0:Lc 2 e2 j1 a1 26 [(.slice A9 x0.vars.length p0),(.slice k0 x0.init.length l0),(.slice q0 x0.goal.length r0),(.slice s0 x0.jobs.length t0)]:=d0
 refine Am rfl (Am rfl (o_z ?_))
 refine Ab (Ab (Aa (Bd (hl:=rfl) (hc:=(d0.1).cellsAt) rfl ?_)))
 refine Ak rfl ?_
 obtain ⟨m3,k2,hm⟩:=bs hm
 replace a0:=a0.st v0
 replace h8:=h8.st v0
 replace b0:=b0.st v0
 replace c0:=c0.st v0
 replace e0:=e0.st v0
 refine AM (O:=j1) (Kz (fun _ h=>h) (Vb.mono (F:=Fr 0 e2 j1) (Vb.ofAgg (cs:=[(.slice A9 x0.vars.length p0),(.slice k0 x0.init.length l0),(.slice q0 x0.goal.length r0),(.slice s0 x0.jobs.length t0)]) (x:=x0) rfl ⟨_,_,_,_,rfl,h8,b0,c0,e0⟩) Fr.lt) (vMo a0) k2) rfl fun n3 o3 l2 u0 m2=>?_
 obtain ⟨rfl,n2⟩:=m2.err
 refine Am rfl (o_z ?_)
 refine Ab (Aa (Ak rfl (Jj rfl (fun k1=>?_) fun k1=>?_)))
 ·
  replace hm:=ip hm k1
  refine o_z ?_
  refine Ah rfl (Ab (Aa (Ak rfl (Am rfl (Am rfl (o_z ?_))))))
  refine AF ?_
  obtain rfl:=sm hm
  replace hB:=(hB.st v0).st u0
  exact ret2 rfl (AA rfl) (AA rfl) ⟨hB.ext,_,_,rfl,(vInt (iI64 0)),(vErr (h:=n2))⟩
 replace hm:=im hm k1
 refine o_z ?_
 refine Ae rfl (AO (Ab (Aa (Ax rfl ?_))))
 replace d0:=d0.st u0
 refine At (hc:=Blk.cell (i:=1) (d0.1) rfl) rfl ?_
 refine Am rfl (o_z ?_)
 refine Ab (Aa (Bd (hl:=rfl) (hc:=(d0.1).cellsAt) rfl ?_))
 refine Ak rfl ?_
 obtain ⟨y0,o2,hm⟩:=bs hm
 replace a0:=a0.st u0
 replace h8:=h8.st u0
 replace b0:=b0.st u0
 replace c0:=c0.st u0
 replace e0:=e0.st u0
 refine Mh (O:=l2) (IU (Vb.ofAgg (cs:=[(.slice A9 x0.vars.length p0),(.slice k0 x0.init.length l0),(.slice q0 x0.goal.length r0),(.slice s0 x0.jobs.length t0)]) (x:=x0) rfl ⟨_,_,_,_,rfl,h8,b0,c0,e0⟩) a0 3 (by decide) o2) rfl rfl fun p3 q3 r3 i0 p2=>?_
 obtain ⟨s3,t3,rfl,w0,m0⟩:=p2
 obtain ⟨f2,rfl⟩:=w0.mptr
 obtain ⟨g2,h2,rfl⟩:=m0.form
 obtain ⟨q2,h0,w0⟩:=MapR.freeze w0
 refine Ak rfl (DU rfl rfl (DU rfl rfl (Am rfl (Am rfl (o_z ?_)))))
 refine Ab (Ab (Aa (Ak rfl (AS rfl ?_))))
 replace m0:=m0.st h0
 have l1:y0.2.length≤9223372036854775807:=Nat.le_trans m0.len.2.1 m0.len.2.2
 have u3:inI64 (y0.2.length:Int):=rngNat l1
 refine Ak rfl (o_z ?_)
 obtain ⟨b1,m1,hm⟩:=bs hm
 refine Ay (aft b1 (fun (n0:(List Int)) (j0:(Option Addr×Nat))=>[(1,(.slice g1 x1.length h1)),(2,(.pointer (some ⟨a1,0,none⟩))),(7,(.slice j0.1 n0.length j0.2))]) (fun n0 j0 w'=>∃ O':Lab,Bs w A w' O'∧Vb w' (Fr 0 w' O') (.slice g1 x1.length h1) x1∧Lc 2 w' O' a1 26 [(.slice A9 x0.vars.length p0),(.slice k0 x0.init.length l0),(.slice q0 x0.goal.length r0),(.slice s0 x0.jobs.length t0)]∧Vb w' (Fr 0 w' O') (.slice A9 x0.vars.length p0) x0.vars∧Vb w' (Fr 0 w' O') (.slice k0 x0.init.length l0) x0.init∧Vb w' (Fr 0 w' O') (.slice q0 x0.goal.length r0) x0.goal∧Vb w' (Fr 0 w' O') (.slice s0 x0.jobs.length t0) x0.jobs∧Vb w' (Fr 0 w' O') (.slice j0.1 n0.length j0.2) n0)) ?_ ?_
 ·
  refine AK ?_
  replace hB:=(((hB.st v0).st u0).st i0).st h0
  replace a0:=(a0.st i0).st h0
  replace h8:=(h8.st i0).st h0
  replace b0:=(b0.st i0).st h0
  replace c0:=(c0.st i0).st h0
  replace e0:=(e0.st i0).st h0
  replace d0:=(d0.st i0).st h0
  refine AY (σ:=(List Int)) (X:=(Option Addr×Nat)) (y0.2.length) m1 rfl l1 (fun (n0:(List Int)) (j0:(Option Addr×Nat))=>[(1,(.slice g1 x1.length h1)),(2,(.pointer (some ⟨a1,0,none⟩))),(7,(.slice j0.1 n0.length j0.2)),(8,(.map (some f2))),(28,(.slice g2 y0.2.length h2))]) _ (fun n0 j0 w'=>∃ O':Lab,Bs w A w' O'∧Vb w' (Fr 0 w' O') (.slice g1 x1.length h1) x1∧Lc 2 w' O' a1 26 [(.slice A9 x0.vars.length p0),(.slice k0 x0.init.length l0),(.slice q0 x0.goal.length r0),(.slice s0 x0.jobs.length t0)]∧Vb w' (Fr 0 w' O') (.slice A9 x0.vars.length p0) x0.vars∧Vb w' (Fr 0 w' O') (.slice k0 x0.init.length l0) x0.init∧Vb w' (Fr 0 w' O') (.slice q0 x0.goal.length r0) x0.goal∧Vb w' (Fr 0 w' O') (.slice s0 x0.jobs.length t0) x0.jobs∧Vb w' (Fr 0 w' O') (.slice j0.1 n0.length j0.2) n0∧MapZ w' O' f2 182 y0.1∧Vb w' (Fr 0 w' O') (.slice g2 y0.2.length h2) y0.2) _ (k0,l0) ⟨q2,hB,a0,d0,h8,b0,c0,e0,b0,w0,m0⟩ ⟨rfl,rfl,rfl,rfl,rfl,rfl,rfl,trivial⟩ (fun _ _=>⟨rfl,rfl⟩) (fun _ _=>⟨rfl,rfl,rfl,trivial⟩) (fun _ _ _ ⟨O',hB,a0,d0,h8,b0,c0,e0,c1,w0,m0⟩=>⟨O',hB,a0,d0,h8,b0,c0,e0,c1⟩) ⟨rfl,rfl,rfl⟩ ⟨rfl,rfl⟩ ?_
  rintro r2 i2 n0 j0 v3 s2 d1 ⟨t2,hB,a0,d0,h8,b0,c0,e0,c1,w0,m0⟩ f0 z0 n1
  have rk58:inI64 (r2:Int):=rngK d1 l1
  refine Ab (Aa ?_)
  obtain ⟨w3,x3,u2,o1,p1,q1,rfl,v2⟩:=m0.elem' d1
  refine Bi (hA:=o1) (hj:=rfl) (hlt:=p1) rfl rfl ?_
  refine At (hc:=cat0 q1) rfl ?_
  refine Am rfl (o_z ?_)
  refine Ab (Aa (Bd (hl:=rfl) (hc:=(d0.1).cellsAt) rfl ?_))
  refine Ak rfl (Ak rfl (Ak rfl (Ak rfl (Ak rfl ?_))))
  obtain ⟨y3,z3,r1,w2⟩:=MapZ.get w0 i2
  refine So i2 r1 rfl rfl rfl ?_
  obtain ⟨x2,y2,f0⟩:=bs f0
  refine GV (O:=t2) (R:=fun w' F v=>T2 w' F v x2) (LO Fr.lt (Vb.ofAgg (cs:=[(.slice A9 x0.vars.length p0),(.slice k0 x0.init.length l0),(.slice q0 x0.goal.length r0),(.slice s0 x0.jobs.length t0)]) (x:=x0) rfl ⟨_,_,_,_,rfl,h8,b0,c0,e0⟩) a0 v2 c1 w2 y2) rfl rfl fun a4 b4 c4 o0 z2=>?_
  obtain ⟨d4,e4,rfl,j2,a3⟩:=z2
  obtain ⟨b3,c3,rfl⟩:=j2.form
  obtain ⟨rfl,d3⟩:=a3.err
  refine Ak rfl (DU rfl rfl (DU rfl rfl (Am rfl (Am rfl (o_z ?_)))))
  refine Ab (Ab (Aa (Ak rfl (Jj rfl (fun s1=>?_) fun s1=>?_))))
  ·
   replace f0:=ip f0 s1
   refine o_z ?_
   refine Ah rfl (Ab (Aa (Ak rfl (Am rfl (Am rfl (o_z ?_))))))
   refine AF ?_
   obtain rfl:=sm f0
   obtain rfl:=z0 _ rfl
   obtain rfl:=sm (BY hm)
   replace hB:=hB.st o0
   exact ret2 rfl (AA rfl) (AA rfl) ⟨hB.ext,_,_,rfl,(vInt (iI64 0)),(vErr (h:=d3))⟩
  replace f0:=im f0 s1
  refine o_z ?_
  refine Ae rfl (AO (Aa (Ak rfl (Am rfl (o_z ?_)))))
  obtain rfl:=sm f0
  exact show Exists _ from ⟨_,(b3,c3),rfl,⟨rfl,rfl,rfl,rfl,rfl,rfl,rfl,trivial⟩,_,hB.st o0,a0.st o0,d0.st o0,h8.st o0,b0.st o0,c0.st o0,e0.st o0,j2,w0.st o0,m0.st o0⟩
 replace hB:=(((hB.st v0).st u0).st i0).st h0
 replace a0:=(a0.st i0).st h0
 replace h8:=(h8.st i0).st h0
 replace b0:=(b0.st i0).st h0
 replace c0:=(c0.st i0).st h0
 replace e0:=(e0.st i0).st h0
 replace d0:=(d0.st i0).st h0
 rintro f4 g4 ⟨e3,f3,rfl,e1,t1,hB,a0,d0,h8,b0,c0,e0,c1⟩
 replace hm:=AR hm
 refine AH _ e1 ?_
 refine Ab (Ab (Aa (Ax rfl (At (hc:=Blk.cell (i:=2) (d0.1) rfl) rfl ?_))))
 refine Ak rfl ?_
 obtain ⟨u1,v1,hm⟩:=bs hm
 refine AM (O:=t1) (Id (fun _ h=>h) (vMo c0) (vMo c1) v1) rfl fun g3 w1 f1 g0 y1=>?_
 obtain rfl:=y1.bool
 cases u1
 case false =>
  replace hm:=iF hm
  refine Dl rfl (o_z ?_)
  refine Ah rfl (Ab (Aa (Gd rfl ?_)))
  refine Am rfl (Am rfl (o_z ?_))
  refine AF ?_
  obtain rfl:=sm hm
  replace hB:=hB.st g0
  exact ret2 rfl (AA rfl) (AA rfl) ⟨hB.ext,_,_,rfl,(vInt (iI64 0)),(vErr)⟩
 replace hm:=iT hm
 refine Dk rfl (o_z ?_)
 refine Ae rfl (AO (Ab (Aa ?_)))
 replace d0:=d0.st g0
 refine Bd (hl:=rfl) (hc:=(d0.1).cellsAt) rfl ?_
 refine Ak rfl ?_
 obtain ⟨h3,z1,hm⟩:=bs hm
 replace a0:=a0.st g0
 replace h8:=h8.st g0
 replace b0:=b0.st g0
 replace c0:=c0.st g0
 replace e0:=e0.st g0
 refine AM (O:=f1) (JG (fun _ h=>h) (Vb.mono (F:=Fr 0 w1 f1) (Vb.ofAgg (cs:=[(.slice A9 x0.vars.length p0),(.slice k0 x0.init.length l0),(.slice q0 x0.goal.length r0),(.slice s0 x0.jobs.length t0)]) (x:=x0) rfl ⟨_,_,_,_,rfl,h8,b0,c0,e0⟩) Fr.lt) (vMo a0) z1) rfl fun i3 j3 k3 a2 b2=>?_
 obtain ⟨rfl,c2⟩:=b2.int
 refine Am rfl (Am rfl (o_z ?_))
 refine AF ?_
 obtain rfl:=sm hm
 replace hB:=(hB.st g0).st a2
 exact ret2 rfl (AA rfl) (AA rfl) ⟨hB.ext,_,_,rfl,(vInt c2),(vErr (h:=(iI64 0)))⟩
noncomputable def GA (x0:Job) (x1:Bool):Option (List Fct) :=
  if x1=true then (some x0.fin) else (some x0.start)
theorem MR {w:World} {A:Nat→Prop} (hA:∀ k,A k→k < w.heap.size) {vx0:Value} {x0:Job} (d0:Vb w A vx0 x0) {x1:Bool} {r:(List Fct)} (hm:GA x0 x1=some r) :
    Fn prog 131 [vx0,(.bool x1)] w fun v w'=>Ext w w'∧Vb w' (upA A w w') v r:=by
 obtain ⟨O,hB,h0⟩:=enter hA
 replace d0:=d0.mono h0
 obtain ⟨w0,rfl,v4,v5,v6,v7,v8,rfl,h9,i0,a0,j0,k0,y0,z0⟩:=d0
 obtain ⟨l0,m0,rfl⟩:=h9.form
 obtain ⟨n0,o0,rfl⟩:=i0.form
 obtain ⟨p0,q0,rfl⟩:=a0.form
 obtain ⟨r0,s0,rfl⟩:=j0.form
 obtain ⟨t0,u0,rfl⟩:=k0.form
 refine AL func131 rfl ntmps131 ?_
 unfold GA at hm
 refine Ab (Aa (BL 2 O rfl fun v0 e0 f0 b0 c0=>?_))
 replace c0:Lc 2 e0 f0 v0 66 [(.string x0.name),(.int .i64 x0.dur),(.slice l0 x0.start.length m0),(.slice n0 x0.over.length o0),(.slice p0 x0.fin.length q0),(.slice r0 x0.atStart.length s0),(.slice t0 x0.atEnd.length u0)]:=c0
 refine Am rfl (o_z ?_)
 refine Ab (Ab (Aa (Ak rfl (o_z ?_))))
 refine Cd rfl (fun g0=>?_) (fun g0=>?_)
 ·
  replace hm:=ip hm g0
  refine Ab (Aa (Ax rfl (At (hc:=Blk.cell (i:=4) (c0.1) rfl) rfl ?_)))
  refine Am rfl (o_z ?_)
  refine AF ?_
  obtain rfl:=sm hm
  replace hB:=hB.st b0
  replace a0:=a0.st b0
  exact ret1v rfl (AA rfl) ⟨hB.ext,(Vb.mono (F:=Fr 0 e0 f0) a0 hB.out)⟩
 replace hm:=im' hm g0
 refine AO (Ab (Aa (Ax rfl (At (hc:=Blk.cell (i:=2) (c0.1) rfl) rfl ?_))))
 refine Am rfl (o_z ?_)
 refine AF ?_
 obtain rfl:=sm hm
 replace hB:=hB.st b0
 replace h9:=h9.st b0
 exact ret1v rfl (AA rfl) ⟨hB.ext,(Vb.mono (F:=Fr 0 e0 f0) h9 hB.out)⟩
noncomputable def Ge (x0:Job) (x1:Bool):Option (List Fct) :=
  if x1=true then (some x0.atEnd) else (some x0.atStart)
theorem Mj {w:World} {A:Nat→Prop} (hA:∀ k,A k→k < w.heap.size) {vx0:Value} {x0:Job} (e0:Vb w A vx0 x0) {x1:Bool} {r:(List Fct)} (hm:Ge x0 x1=some r) :
    Fn prog 132 [vx0,(.bool x1)] w fun v w'=>Ext w w'∧Vb w' (upA A w w') v r:=by
 obtain ⟨O,hB,i0⟩:=enter hA
 replace e0:=e0.mono i0
 obtain ⟨w0,rfl,v4,v5,v6,v7,v8,rfl,h9,j0,k0,a0,b0,y0,z0⟩:=e0
 obtain ⟨l0,m0,rfl⟩:=h9.form
 obtain ⟨n0,o0,rfl⟩:=j0.form
 obtain ⟨p0,q0,rfl⟩:=k0.form
 obtain ⟨r0,s0,rfl⟩:=a0.form
 obtain ⟨t0,u0,rfl⟩:=b0.form
 refine AL func132 rfl ntmps132 ?_
 unfold Ge at hm
 refine Ab (Aa (BL 2 O rfl fun v0 f0 g0 c0 d0=>?_))
 replace d0:Lc 2 f0 g0 v0 66 [(.string x0.name),(.int .i64 x0.dur),(.slice l0 x0.start.length m0),(.slice n0 x0.over.length o0),(.slice p0 x0.fin.length q0),(.slice r0 x0.atStart.length s0),(.slice t0 x0.atEnd.length u0)]:=d0
 refine Am rfl (o_z ?_)
 refine Ab (Ab (Aa (Ak rfl (o_z ?_))))
 refine Cd rfl (fun h0=>?_) (fun h0=>?_)
 ·
  replace hm:=ip hm h0
  refine Ab (Aa (Ax rfl (At (hc:=Blk.cell (i:=6) (d0.1) rfl) rfl ?_)))
  refine Am rfl (o_z ?_)
  refine AF ?_
  obtain rfl:=sm hm
  replace hB:=hB.st c0
  replace b0:=b0.st c0
  exact ret1v rfl (AA rfl) ⟨hB.ext,(Vb.mono (F:=Fr 0 f0 g0) b0 hB.out)⟩
 replace hm:=im' hm h0
 refine AO (Ab (Aa (Ax rfl (At (hc:=Blk.cell (i:=5) (d0.1) rfl) rfl ?_))))
 refine Am rfl (o_z ?_)
 refine AF ?_
 obtain rfl:=sm hm
 replace hB:=hB.st c0
 replace a0:=a0.st c0
 exact ret1v rfl (AA rfl) ⟨hB.ext,(Vb.mono (F:=Fr 0 f0 g0) a0 hB.out)⟩
end
section
open Go Go.RowKit
def itoaB (i:Nat):ByteArray:=if i < 10 then ⟨#[UInt8.ofNat (48 + i)]⟩ else ⟨#[UInt8.ofNat (48 + i / 10),UInt8.ofNat (48 + i % 10)]⟩
def itoD:ByteArray:=⟨((List.range 10).map fun i=>UInt8.ofNat (48 + i)).toArray ++ ((List.range 26).map fun i=>UInt8.ofNat (97 + i)).toArray⟩
def itoS:ByteArray:=⟨(List.range 100).flatMap (fun i=>[UInt8.ofNat (48 + i / 10),UInt8.ofNat (48 + i % 10)]) |>.toArray⟩
theorem Qe:((List.range 10).all fun i=>(itoD.extract i (i + 1)).data.toList == (itoaB i).data.toList)=true:=by decide +kernel
theorem Qf:((List.range 100).all fun i=>decide (i < 10) || (itoS.extract (i * 2) (i * 2 + 2)).data.toList == (itoaB i).data.toList)=true:=by decide +kernel
theorem PA {a b:ByteArray} (h:a.data.toList=b.data.toList):a=b:=by
  cases a;cases b;simp only [ByteArray.mk.injEq];exact Array.toList_inj.1 h
theorem QW (i:Nat) (h:i < 10):itoD.extract i (i + 1)=itoaB i:=PA (by
  have:=List.all_eq_true.1 Qe i (List.mem_range.2 h)
  simpa using this)
theorem QX (i:Nat) (h:i < 100) (h0:10≤i):itoS.extract (i * 2) (i * 2 + 2)=itoaB i:=PA (by
  have:=List.all_eq_true.1 Qf i (List.mem_range.2 h)
  have h1:¬ i < 10:=by omega
  simpa [h1] using this)
theorem PB:itoD.size=36:=by decide +kernel
theorem PC:itoS.size=200:=by decide +kernel
theorem Jl (i:Nat):(itoaB i).size≤2:=by unfold itoaB;split<;>simp [ByteArray.size]
section
variable {P : Program} {l : Env} {w : World} {dst : Option Tmp} {ty : TypeId} {pos : String} {aft : Array Edge}
theorem ND {t:TypeId} [h:TStr P t] {x lo hi:Operand} {s:ByteArray} {a b:Int} (hx:opv l x=some (.string s)) (hlo:opv l lo=some (.int .i64 a)) (hhi:opv l hi=some (.int .i64 b)) (h0:0≤a) (hab:a≤b) (hb:b≤s.size) :
    Ev P ⟨dst,.slice t x (some lo) (some hi) none,ty,pos,aft,none⟩ l w (.string (s.extract a.toNat b.toNat)):=fun _ _ e ha=>by
  have:=run_slice_string (P:=P) (dr w e) t s .i64 .i64 a b h.eq h0 hab hb
  simp [execOp,ha.eval hx,ha.eval hlo,ha.eval hhi,Instr.sliceAt,run_underlying h.eq,this]
end
attribute [local irreducible] ewp owp hwp hwq Ev Evg Fn retPost Res1
attribute [local irreducible] hwx loudX
noncomputable def If (x0:Int):Option ByteArray:=if 0≤x0∧x0 < 100 then some (itoaB x0.toNat) else none
set_option maxRecDepth 100000 in
theorem Ig {w:World} {A:Nat→Prop} (hA:∀ k,A k→k < w.heap.size) {x0:Int} (rx0:inI64 x0) {r:ByteArray} (hm:If x0=some r) :
    Fn prog 171 [.int .i64 x0] w fun v w'=>Ext w w'∧Vb w' (upA A w w') v r:=by
  obtain ⟨⟨h0,h1⟩,rfl⟩:=CL hm
  obtain ⟨k,rfl⟩:∃ k:Nat,x0=(k:Int):=⟨x0.toNat,by omega⟩
  refine AL func171 rfl ntmps171 ?_
  have e1:chkI ((k:Int) + 1)=some ((k:Int) + 1):=if_pos ⟨by omega,by omega⟩
  have e2:chkI ((k:Int) * 2)=some ((k:Int) * 2):=if_pos ⟨by omega,by omega⟩
  have e3:chkI ((k:Int) * 2 + 2)=some ((k:Int) * 2 + 2):=if_pos ⟨by omega,by omega⟩
  repeat (first|refine Au ?_|refine Ah rfl ?_|refine Ae rfl ?_)
  refine Am rfl (o_z ?_)
  repeat (first|refine Au ?_|refine Ah rfl ?_|refine Ae rfl ?_)
  refine Ak rfl (Dm rfl rfl (fun h=>?_) fun h=>?_)
  · refine o_z ?_
    repeat (first|refine Au ?_|refine Ah rfl ?_|refine Ae rfl ?_)
    refine Ak rfl (Ak rfl ?_)
    refine Dn rfl rfl ?_ e1
    refine Bw (ND (s:=itoD) rfl rfl rfl (by omega) (by omega) (by rw [PB];omega)) rfl ?_
    refine Am rfl (o_z ?_)
    repeat (first|refine Au ?_|refine Ah rfl ?_|refine Ae rfl ?_)
    refine ret1v rfl (AA rfl) ⟨Below.refl _ _,?_⟩
    have:=QW k (by omega)
    have e:itoD.extract (k:Int).toNat ((k:Int) + 1).toNat=itoaB k:=by rw [← this];congr 1
    rw [e]
    exact vStr (Nat.le_trans (Jl k) (by decide))
  · refine o_z ?_
    repeat (first|refine Au ?_|refine Ah rfl ?_|refine Ae rfl ?_)
    refine Ak rfl ?_
    refine Iz rfl rfl ?_ e2
    refine Ak rfl ?_
    refine Iz rfl rfl ?_ e2
    refine Dn rfl rfl ?_ e3
    refine Bw (ND (s:=itoS) rfl rfl rfl (by omega) (by omega) (by rw [PC];omega)) rfl ?_
    refine Am rfl (o_z ?_)
    repeat (first|refine Au ?_|refine Ah rfl ?_|refine Ae rfl ?_)
    refine ret1v rfl (AA rfl) ⟨Below.refl _ _,?_⟩
    have:=QX k (by omega) (by omega)
    have e:itoS.extract ((k:Int) * 2).toNat ((k:Int) * 2 + 2).toNat=itoaB k:=by rw [← this];congr 1
    rw [e]
    exact vStr (Nat.le_trans (Jl k) (by decide))
noncomputable def DF (x0:Int) (x1:Int):Option ByteArray:=if x1=10∧0≤x0∧x0 < 100 then some (itoaB x0.toNat) else none
theorem Hj {w:World} {A:Nat→Prop} (hA:∀ k,A k→k < w.heap.size) {x0:Int} (rx0:inI64 x0) {x1:Int} (rx1:inI64 x1) {r:ByteArray} (hm:DF x0 x1=some r) :
    Fn prog 142 [.int .i64 x0,.int .i64 x1] w fun v w'=>Ext w w'∧Vb w' (upA A w w') v r:=by
  obtain ⟨⟨rfl,h0,h1⟩,rfl⟩:=CL hm
  refine AL func142 rfl ntmps142 ?_
  repeat (first|refine Au ?_|refine Ah rfl ?_|refine Ae rfl ?_)
  refine Am rfl (o_z ?_)
  repeat (first|refine Au ?_|refine Ah rfl ?_|refine Ae rfl ?_)
  refine Ak rfl (GU rfl rfl (fun _=>?_) fun h=>absurd rfl h)
  refine o_z ?_
  repeat (first|refine Au ?_|refine Ah rfl ?_|refine Ae rfl ?_)
  refine Ak rfl (Ki rfl rfl rfl (fun _=>?_) fun h=>absurd h0 h)
  refine Ak rfl ?_
  refine An rfl rfl ?_
  refine Ak rfl ?_
  refine An rfl rfl ?_
  refine Dm rfl rfl (fun _=>?_) fun h=>absurd h1 h
  refine Bn rfl rfl ?_
  refine o_z ?_
  repeat (first|refine Au ?_|refine Ah rfl ?_|refine Ae rfl ?_)
  refine Ak rfl ?_
  refine CQ (R:=fun v w'=>Ext w w'∧Vb w' (upA A w w') v (itoaB x0.toNat)) rfl rfl (Ig hA rx0 (if_pos ⟨h0,h1⟩)) fun v w' ⟨hE,hv⟩=>?_
  refine Am rfl (o_z ?_)
  repeat (first|refine Au ?_|refine Ah rfl ?_|refine Ae rfl ?_)
  exact ret1v rfl (AA rfl) ⟨hE,hv⟩
noncomputable def Dx (x0:Int):Option ByteArray :=
  bnd (DF x0 10) fun q2=>some q2
theorem Ir {w:World} {A:Nat→Prop} (hA:∀ k,A k→k < w.heap.size) {x0:Int} (rx0:inI64 x0) {r:ByteArray} (hm:Dx x0=some r) :
    Fn prog 109 [(.int .i64 x0)] w fun v w'=>Ext w w'∧Vb w' (upA A w w') v r:=by
 obtain ⟨O,hB,a0⟩:=enter hA
 refine AL func109 rfl ntmps109 ?_
 unfold Dx at hm
 refine Ab (Aa (Am rfl (o_z ?_)))
 refine Ab (Aa (Ak rfl ?_))
 obtain ⟨q2,e3,hm⟩:=bs hm
 refine AM (O:=O) (Hj (fun _ h=>h) rx0 (iI64 10) e3) rfl fun v8 w4 O5 S6 h7=>?_
 obtain ⟨rfl,z9⟩:=h7.str
 refine Am rfl (o_z ?_)
 refine AF ?_
 obtain rfl:=sm hm
 replace hB:=hB.st S6
 exact ret1v rfl (AA rfl) ⟨hB.ext,(vStr z9)⟩
noncomputable def Dd (x0:Int):Option ByteArray :=
  bnd (Dx x0) fun q2=>some q2
theorem Hk {w:World} {A:Nat→Prop} (hA:∀ k,A k→k < w.heap.size) {x0:Int} (rx0:inI64 x0) {r:ByteArray} (hm:Dd x0=some r) :
    Fn prog 54 [(.int .i64 x0)] w fun v w'=>Ext w w'∧Vb w' (upA A w w') v r:=by
 obtain ⟨O,hB,a0⟩:=enter hA
 refine AL func54 rfl ntmps54 ?_
 unfold Dd at hm
 refine Ab (Aa (Am rfl (o_z ?_)))
 refine Ab (Aa (Ak rfl ?_))
 obtain ⟨q2,e3,hm⟩:=bs hm
 refine AM (O:=O) (Ir (fun _ h=>h) rx0 e3) rfl fun v8 w4 O5 S6 h7=>?_
 obtain ⟨rfl,z9⟩:=h7.str
 refine Am rfl (o_z ?_)
 refine AF ?_
 obtain rfl:=sm hm
 replace hB:=hB.st S6
 exact ret1v rfl (AA rfl) ⟨hB.ext,(vStr z9)⟩
end
section
open Go.Shelf
def Mk:Go.Shelf.Ren:=⟨fun|6=>101|15=>139|14=>138|28=>169|29=>170|20=>161|21=>162|22=>163|23=>164|24=>165|25=>166|26=>167|27=>168|46=>192|47=>193|48=>194|49=>195|50=>196|57=>213|n=>n,fun|22=>23|24=>78|25=>170|3=>3|39=>224|0=>0|53=>258|55=>239|4=>4|46=>252|45=>251|50=>48|5=>5|9=>9|66=>280|70=>283|76=>296|77=>297|n=>n,fun|n=>n⟩
theorem LQ:Go.Proofs.SlLaysF0.n6 prog Mk:={
  mixed:=by kernel_rfl
  f6:=⟨f101.name,by decide,func101.trans (congrArg some (by kernel_rfl))⟩
  f14:=⟨f138.name,by decide,func138.trans (congrArg some (by kernel_rfl))⟩
  f15:=func139.trans (congrArg some (by kernel_rfl))
  f20:=⟨f161.name,by decide,func161.trans (congrArg some (by kernel_rfl))⟩
  f21:=⟨f162.name,by decide,func162.trans (congrArg some (by kernel_rfl))⟩
  f22:=⟨f163.name,by decide,func163.trans (congrArg some (by kernel_rfl))⟩
  f23:=⟨f164.name,by decide,func164.trans (congrArg some (by kernel_rfl))⟩
  f24:=⟨f165.name,by decide,func165.trans (congrArg some (by kernel_rfl))⟩
  f25:=⟨f166.name,by decide,func166.trans (congrArg some (by kernel_rfl))⟩
  f26:=⟨f167.name,by decide,func167.trans (congrArg some (by kernel_rfl))⟩
  f27:=⟨f168.name,by decide,func168.trans (congrArg some (by kernel_rfl))⟩
  f28:=func169.trans (congrArg some (by kernel_rfl))
  f29:=func170.trans (congrArg some (by kernel_rfl))
  f46:=⟨f192.name,by decide,func192.trans (congrArg some (by kernel_rfl))⟩
  f47:=func193.trans (congrArg some (by kernel_rfl))
  f48:=func194.trans (congrArg some (by kernel_rfl))
  f49:=⟨f195.name,by decide,func195.trans (congrArg some (by kernel_rfl))⟩
  f50:=⟨f196.name,by decide,func196.trans (congrArg some (by kernel_rfl))⟩
  f57:=⟨f213.name,by decide,func213.trans (congrArg some (by kernel_rfl))⟩
  t0:=underlying0
  a0:=isAgg0
  z0:=sizeOf0
  v0:=zeroValue0
  t3:=underlying3
  a3:=isAgg3
  z3:=sizeOf3
  v3:=zeroValue3
  t4:=underlying4
  a4:=isAgg4
  z4:=sizeOf4
  v4:=zeroValue4
  t5:=underlying5
  a5:=isAgg5
  z5:=sizeOf5
  v5:=zeroValue5
  t9:=underlying9
  a9:=isAgg9
  z9:=sizeOf9
  v9:=zeroValue9
  t22:=underlying23
  a22:=isAgg23
  z22:=sizeOf23
  v22:=zeroValue23
  t25:=underlying170
  a25:=isAgg170
  z25:=sizeOf170
  v25:=zeroValue170
  t39:=underlying224
  a39:=isAgg224
  z39:=sizeOf224
  v39:=zeroValue224
  t45:=underlying251
  a45:=isAgg251
  z45:=sizeOf251
  v45:=zeroValue251
  t46:=underlying252
  a46:=isAgg252
  z46:=sizeOf252
  v46:=zeroValue252
  t50:=underlying48
  a50:=isAgg48
  z50:=sizeOf48
  v50:=zeroValue48
  t53:=underlying258
  a53:=isAgg258
  z53:=sizeOf258
  v53:=zeroValue258
  t55:=underlying239
  a55:=isAgg239
  z55:=sizeOf239
  v55:=zeroValue239
  t66:=underlying280
  a66:=isAgg280
  z66:=sizeOf280
  v66:=zeroValue280
  t70:=underlying283
  a70:=isAgg283
  z70:=sizeOf283
  v70:=zeroValue283
  t76:=underlying296
  a76:=isAgg296
  z76:=sizeOf296
  v76:=zeroValue296
  t77:=underlying297
  a77:=isAgg297
  z77:=sizeOf297
  v77:=zeroValue297 }
open Go.RowKit Go.Lib Go.Sort in
theorem Qg {α:Type} [Inhabited α] (k:Nat) (aE:∀ w,(isAgg 78).run prog w=.ok true w) (zE:∀ w,(Go.sizeOf 78).run prog w=.ok k w) (enc:α→List Value) (hk:∀ x,(enc x).length=k) (h1:∀ x,∀ v∈enc x,v.oneCell'=true) (cf:α→α→Int) (hO:SWO (ltOf cf)) (g:Nat) (cb:Array Value) (blk off cap:Nat) (d:Array α) (w:World) (eg:∀ args w,(callFunc g args).run prog w=.ok (.enter g args) w) (hcmp:CmpLays prog g cb enc k cf blk off d.size w) (hH:HoldsK enc k w blk off d) (hblk:blk < w.heap.size) (hsz:d.size < 4611686018427387904) :
    Calls prog 101 #[.slice (some ⟨blk,off,none⟩) d.size cap,.func (.func g) #[] cb] w fun e w' =>
      e=.returned (.tuple #[])∧∃ n os,w'=sortWorldK enc k w blk off n (pdq (ltOf cf) d 0 d.size (Lib.bitLen d.size) true true) os:=AnyQ.slices_SortFunc_eq LQ k aE zE enc hk h1 cf hO g cb blk off cap d w eg hcmp hH hblk hsz
open Go.RowKit Go.Lib Go.Sort in
theorem OV {α:Type} [Inhabited α] (p:Option Addr) (cap:Nat) (fv:Value) (w:World) :
    Calls prog 101 #[.slice p 0 cap,fv] w fun e w'=>e=.returned (.tuple #[])∧w'=w:=AnyF.slices_SortFunc_none LQ p cap fv w
end
section
open Go Go.RowKit Go.Lib Go.Sort
instance:Inhabited Fct:=⟨⟨0,0⟩⟩
def encF (x:Fct):List Value:=[.int .i64 x.var,.int .i64 x.val]
def cfF (x y:Fct):Int:=Lib.compareInt x.var y.var
theorem ltF (x y:Fct):ltOf cfF x y=decide (x.var < y.var):=by
  unfold ltOf cfF Lib.compareInt
  by_cases h:x.var < y.var
  · simp [h]
  · by_cases h2:y.var < x.var<;>simp [h,h2]
theorem swoF:SWO (ltOf cfF) where
  irrefl x:=by rw [ltF];simp
  trans x y z h1 h2:=by rw [ltF] at *;simp at *;omega
  ntrans x y z h1 h2:=by rw [ltF] at *;simp at *;omega
theorem compareI (a b:Int) (W:World):Calls prog 103 #[.int .i64 a,.int .i64 b] W fun e w'=>e=.returned (.int .i64 (Lib.compareInt a b))∧w'=W:=by
  go_enter func103,ntmps103
  go_wp2
  · go_ret
    have h:a < b:=by assumption
    exact ⟨by simp [Lib.compareInt,h],rfl⟩
  · go_ret
    have h:b < a:=by assumption
    have h2:¬ a < b:=by omega
    exact ⟨by simp [Lib.compareInt,h,h2],rfl⟩
  · go_ret
    have h1:b≤a:=by assumption
    have h2:a≤b:=by assumption
    have h3:¬ a < b:=by omega
    have h4:¬ b < a:=by omega
    exact ⟨by simp [Lib.compareInt,h3,h4],rfl⟩
theorem closureF (x y:Fct) (W:World):Calls prog 102 #[.agg #[.int .i64 x.var,.int .i64 x.val],.agg #[.int .i64 y.var,.int .i64 y.val]] W fun e w'=>e=.returned (.int .i64 (cfF x y))∧∃ q os',w'=grow (W.drewN q) os':=by
  have hcon:=fun W'=>compareI x.var y.var W'
  unfold cfF
  generalize Lib.compareInt x.var y.var=r at hcon ⊢
  go_enter func102,ntmps102
  go_wp2_with (go_at_call 103;refine (hcon _).mono ?_;rintro e w' ⟨rfl,rfl⟩)
  go_ret
  exact ⟨rfl,0,_,by rw [alloc_eq_grow,alloc_eq_grow,grow_grow];rfl⟩
theorem cmpLaysF (blk off size:Nat) (w:World):CmpLays prog 102 #[] encF 2 cfF blk off size w:=fun _ _ _ _ x y=>closureF x y _
def AG (xs:List Fct):List Fct:=(pdq (ltOf cfF) xs.toArray 0 xs.length (Lib.bitLen xs.length) true true).toList
theorem Oo (xs:List Fct):PermIn 0 xs.toArray.size xs.toArray (AG xs).toArray∧SortedIn (ltOf cfF) 0 xs.toArray.size (AG xs).toArray:=by
  have:=pdq_sorts (ltOf cfF) swoF xs.toArray 0 xs.toArray.size (Lib.bitLen xs.length) true true (Nat.zero_le _) (Nat.le_refl _) (Or.inl rfl)
  simpa [AG] using this
theorem Hz (xs:List Fct):(AG xs).Perm xs:=by
  obtain ⟨⟨hsz,_,hperm⟩,_⟩:=Oo xs
  have e1:(AG xs).toArray.extract 0 xs.toArray.size=(AG xs).toArray:=by rw [← hsz];exact Array.extract_size
  rw [e1,Array.extract_size] at hperm
  simpa using hperm
theorem CO (xs:List Fct):(AG xs).length=xs.length:=(Hz xs).length_eq
theorem KR (xs:List Fct):(AG xs).Pairwise fun x y=>x.var≤y.var:=by
  obtain ⟨_,hs⟩:=Oo xs
  have hl:=CO xs
  rw [List.pairwise_iff_getElem]
  intro i j hi hj hij
  have:=hs i j (Nat.zero_le _) hij (by simp;omega)
  rw [getElem!_pos _ j (by simpa using hj),getElem!_pos _ i (by simpa using hi),ltF] at this
  simpa using this
theorem flatF:∀ (xs:List Fct),(flatK encF 2 xs.toArray).toList=xs.flatMap encF:=fun xs=>by
  apply List.ext_getElem?
  intro t
  have key:∀ (l:List Fct) (t:Nat),(l.flatMap encF)[t]?=(l[t / 2]?).bind fun x=>(encF x)[t % 2]?:=by
    intro l
    induction l with
    | nil=>intro t;simp
    | cons x l ih =>
      intro t
      rw [List.flatMap_cons]
      match t with
      | 0=>rfl
      | 1=>rfl
      | t + 2 =>
        rw [List.getElem?_append_right (by simp [encF]),show t + 2 - (encF x).length=t from by simp [encF],ih]
        rw [show (t + 2) / 2=t / 2 + 1 from by omega,show (t + 2) % 2=t % 2 from by omega]
        simp
  rw [key]
  by_cases ht:t < xs.length * 2
  · have h1:t / 2 < xs.length:=by omega
    have hsz:t < (flatK encF 2 xs.toArray).size:=by simpa using ht
    rw [Array.getElem?_toList,Array.getElem?_eq_getElem hsz,List.getElem?_eq_getElem h1,Option.bind_some]
    have:=get_flatK encF 2 xs.toArray t (by simpa using ht)
    rw [getElem!_pos (flatK encF 2 xs.toArray) t hsz,getElem!_pos xs.toArray (t / 2) (by simpa using h1)] at this
    rw [this]
    have h2:t % 2 < (encF xs[t / 2]).length:=by simp [encF];omega
    rw [List.getElem?_eq_getElem h2,List.getElem_toArray,getElem!_pos (encF xs[t / 2]) (t % 2) h2]
  · have h1:(flatK encF 2 xs.toArray).size≤t:=by rw [size_flatK];simpa using (by omega:xs.length * 2≤t)
    have h2:xs[t / 2]?=none:=List.getElem?_eq_none (by omega)
    rw [Array.getElem?_toList,Array.getElem?_eq_none h1,h2]
    rfl
theorem LR {w:World} {F:Nat→Prop}:∀ {xs:List Fct} {cells:List Value},Chunks w F cells xs→cells=xs.flatMap encF∧∀ x∈xs,inI64 x.var∧inI64 x.val
  | [],_,h=>⟨h,fun _ hx=>by simp at hx⟩
  | x :: xs,cells,⟨cs,rest,he,hr,hc⟩=>by
    obtain ⟨h1,h2⟩:=LR hc
    obtain ⟨h3,h4⟩:=hr
    refine ⟨by rw [he,h3,h1];rfl,fun y hy=>?_⟩
    rcases List.mem_cons.1 hy with rfl|hy
    · exact h4
    · exact h2 y hy
theorem LT {w:World} {F:Nat→Prop}:∀ {xs:List Fct},(∀ x∈xs,inI64 x.var∧inI64 x.val)→Chunks w F (xs.flatMap encF) xs
  | [],_=>rfl
  | x :: xs,h=>⟨encF x,xs.flatMap encF,rfl,⟨rfl,h x (by simp)⟩,LT fun y hy=>h y (by simp [hy])⟩
theorem Fl (xs:List Fct):(xs.flatMap encF).length=xs.length * 2:=by rw [← flatF,Array.length_toList,size_flatK];simp
theorem Hd {i:Nat} {w:World} {O:Lab} {v:Value} {xs:List Fct} (hR:Rw i w O 78 v xs) (hl:xs.length < 4611686018427387904) :
    Fn prog 101 [v,.func (.func 102) #[] #[]] w fun _ w'=>∃ O',St (eT i) w O w' O'∧Rw i w' O' 78 v (AG xs):=by
  intro d
  rcases Nat.eq_zero_or_pos xs.length with h0|h0
  · have hx:xs=[]:=List.eq_nil_of_length_eq_zero h0
    subst hx
    obtain ⟨p,c,rfl⟩:=hR.form
    have hs:AG []=[]:=List.eq_nil_of_length_eq_zero (CO [])
    exact (OV (α:=Fct) p c _ (dr w d)).mono fun e w' ⟨he,hw⟩=>⟨_,w,d,he,hw,O,St.refl _ _ _,by rw [hs];exact hR⟩
  · obtain ⟨g,cap,cells,sp,rfl,hg,hFg,hb,hc,hlen,hnc,hcm,htot⟩:=hR.1.open h0
    obtain ⟨rfl,hin⟩:=LR hc
    have hfl:=flatF xs
    have hH:HoldsK encF 2 (dr w d) g 0 xs.toArray:=fun j hj=>by
      have hj':j < xs.length * 2:=by simpa using hj
      refine ⟨?_,by rw [Nat.zero_add];exact hb.frozen j⟩
      rw [Nat.zero_add]
      refine hb.cell ?_
      rw [List.getElem?_append_left (by rw [Fl];exact hj'),← hfl,Array.getElem?_toList,Array.getElem?_eq_getElem hj,getElem!_pos _ j hj]
      rfl
    have aE:∀ w,(isAgg 78).run prog w=.ok true w:=fun w=>Gx w
    have zE:∀ w,(Go.sizeOf 78).run prog w=.ok 2 w:=fun w=>Dj w
    have eg:∀ args w,(callFunc 102 args).run prog w=.ok (.enter 102 args) w:=enters_of func102 (by kernel_rfl) rfl
    have hcall:=Qg 2 aE zE encF (fun _=>rfl) (fun x v hv=>by simp [encF] at hv;rcases hv with rfl|rfl<;>rfl) cfF swoF 102 #[] g 0 cap xs.toArray (dr w d) eg (cmpLaysF g 0 _ _) hH hb.lt (by simpa using hl)
    have e1:xs.toArray.size=xs.length:=by simp
    rw [e1] at hcall
    refine hcall.mono fun e w' ⟨he,n,os,hw⟩=>⟨_,w',w'.drawn,he,rfl,upO O w.heap.size (fun _=>0),?_,?_⟩
    · subst hw
      refine ⟨rfl,rfl,rfl,?_,fun k hk hne=>⟨?_,El hk⟩⟩
      · show w.heap.size≤((w.heap.modify g _) ++ os).size
        simp
      · have hkg:g≠k:=fun e=>hne (by rw [← e];exact hR.2.1 g rfl)
        show ((w.heap.modify g _) ++ os)[k]?=_
        rw [Array.getElem?_append_left (by simpa using hk),Array.getElem?_modify,if_neg hkg]
    · have hpd:pdq (ltOf cfF) xs.toArray 0 xs.length (Lib.bitLen xs.length) true true=(AG xs).toArray:=by simp [AG]
      rw [hpd] at hw
      have hsl:=CO xs
      have hf2:=flatF (AG xs)
      have hblk:Blk w' g 78 ((AG xs).flatMap encF ++ sp):=by
        subst hw
        unfold Blk at hb ⊢
        have hsz:g < w.heap.size:=Blk.lt hb
        show ((w.heap.modify g _) ++ os)[g]?=_
        rw [Array.getElem?_append_left (by simpa using hsz),Array.getElem?_modify,if_pos rfl,hb]
        simp only [Option.map_some,Go.Sort.onCells]
        congr 2
        apply Array.ext
        · simp only [Go.Sort.putCells,Array.size_mapIdx,List.size_toArray,List.length_append,Fl,hsl]
        · intro i h1 h2
          simp only [Go.Sort.putCells,Array.getElem_mapIdx,Nat.zero_add,Nat.sub_zero,Nat.zero_le,true_and]
          have e2:(flatK encF 2 (AG xs).toArray).size=xs.length * 2:=by rw [size_flatK];simp [hsl]
          by_cases hi:i < xs.length * 2
          · rw [if_pos (by rw [e2];exact hi)]
            simp only [List.getElem_toArray]
            rw [List.getElem_append_left (by rw [Fl,hsl];exact hi)]
            rw [getElem!_pos _ _ (by rw [e2];exact hi)]
            have:=congrArg (·[i]?) hf2
            simp only [Array.getElem?_toList] at this
            rw [Array.getElem?_eq_getElem (by rw [e2];exact hi),List.getElem?_eq_getElem (by rw [Fl,hsl];exact hi)] at this
            exact Option.some.inj this
          · rw [if_neg (by rw [e2];exact hi)]
            simp only [List.getElem_toArray]
            rw [List.getElem_append_right (by rw [Fl];omega),List.getElem_append_right (by rw [Fl,hsl];omega)]
            simp only [Fl,hsl]
      have hS:∀ k,Fr 0 w O k→Fr 0 w' (upO O w.heap.size fun _=>0) k:=fun k hk=>⟨by subst hw;show k < ((w.heap.modify g _) ++ os).size;have:=hk.1;simp;omega,(El hk.1).trans hk.2⟩
      have:=Own.close (w:=w') (base:=0) (F:=Fr 0 w O) (cap:=cap) (Nat.zero_le _) hFg hblk (LT (F:=Fr 0 w O) (w:=w') fun x hx=>hin x ((Hz xs).mem_iff.1 hx)) (by rw [hsl];exact hnc) hcm (by rw [List.length_append,Fl] at htot ⊢;rw [hsl];exact htot)
      rw [hsl] at this
      exact this.rw hS (fun g' hg'=>by
        have:g=g':=by simpa [Value.ownBlock] using hg'
        subst this
        exact (El hb.lt).trans (hR.2.1 g rfl)) hR.2.2
end
end Go.Proofs.YtjohlgjklmagnaaGreatDoor

/- Own text: what the proof of compileTasks_holds uses, part 4: rules, models and their proofs, plain laws. -/
import Derived.Test.YtjohlgjklmagnaaGreatDoorCTC
set_option linter.unusedVariables false
set_option linter.unusedSimpArgs false
namespace Go.Proofs.YtjohlgjklmagnaaGreatDoor
open Go Go.RowKit Go.Proofs.Tryz
section
open Go Go.RowKit
attribute [local irreducible] ewp owp hwp hwq Ev Evg Fn retPost Res1
attribute [local irreducible] hwx loudX
structure Lay where
  jobs:Int
  write:List Int
  read:List Int
  phase:Int
  vars:List Int
instance:Rp Lay where
  isAgg:=true
  size:=5
  R w F cs x:=∃ v0 v1 v2,cs=[.int .i64 x.jobs,v0,v1,.int .i64 x.phase,v2]∧Vb w F v0 x.write∧Vb w F v1 x.read∧Vb w F v2 x.vars∧inI64 x.jobs∧inI64 x.phase
  len:=by rintro w F cs x ⟨v0,v1,v2,rfl,h0,h1,h2,h3,h4⟩;rfl
  one:=by rintro w F cs x ⟨v0,v1,v2,rfl,h0,h1,h2,h3,h4⟩ u hu;simp at hu;rcases hu with rfl|rfl|rfl|rfl|rfl<;>first|rfl|exact Vb.one rfl (by assumption)
  agree:=by rintro w w' F cs x ⟨v0,v1,v2,rfl,h0,h1,h2,h3,h4⟩ ha;exact ⟨v0,v1,v2,rfl,h0.agree ha,h1.agree ha,h2.agree ha,h3,h4⟩
  mono:=by rintro w F G cs x ⟨v0,v1,v2,rfl,h0,h1,h2,h3,h4⟩ ha;exact ⟨v0,v1,v2,rfl,h0.mono ha,h1.mono ha,h2.mono ha,h3,h4⟩
noncomputable def CP (x0:Fct) (y0:Int):Option Bool :=
  bnd (if x0.var=y0 then (some true) else (some false):Option Bool) fun y11=>some y11
theorem Jm {w:World} {A:Nat→Prop} (hA:∀ k,A k→k < w.heap.size) {vx0:Value} {x0:Fct} (b0:Vb w A vx0 x0) {py0:Nat} {csy0:List Value} {y0:Int} (hby0:Blk w py0 3 csy0) (hay0:A py0) (hcy0:Rp.R w A csy0 y0) {r:Bool} (hm:CP x0 y0=some r) :
    Fn prog 135 [vx0,(.pointer (some ⟨py0,0,none⟩))] w fun v w'=>Ext w w'∧Vb w' (upA A w w') v r:=by
 obtain ⟨O,hB,c0⟩:=enter hA
 have hLy0:Lc 0 w O py0 3 csy0:=⟨hby0,(c0 py0 hay0).2⟩
 replace hcy0:=Rp.mono hcy0 c0
 obtain ⟨rfl,r2⟩:=hcy0
 replace b0:=b0.mono c0
 obtain ⟨i0,rfl,rfl,r4,r5⟩:=b0
 refine AL func135 rfl ntmps135 ?_
 unfold CP at hm
 refine Ab (Aa (BL 2 O rfl fun g6 w7 O8 S9 d0=>?_))
 replace d0:Lc 2 w7 O8 g6 78 [(.int .i64 x0.var),(.int .i64 x0.val)]:=d0
 refine Am rfl (o_z ?_)
 refine Ab ?_
 obtain ⟨g0,a0,hm⟩:=bs hm
 refine Ay (fun l' w'=>∃ (h0:Unit) (O':Lab),subs l' [(3,(.bool g0))]∧Bs w A w' O') ?_ ?_
 ·
  refine Aa (Ax rfl (At (hc:=Blk.cell (i:=0) (d0.1) rfl) rfl ?_))
  replace hLy0:=hLy0.st S9
  refine At (hc:=Blk.cell (i:=0) (hLy0.1) rfl) rfl ?_
  refine GU rfl rfl (fun e0=>?_) fun e0=>?_
  ·
   replace a0:=ip a0 e0
   refine Am rfl (o_z ?_)
   obtain rfl:=sm a0
   exact ⟨(),_,⟨rfl,trivial⟩,hB.st S9⟩
  replace a0:=im a0 e0
  refine Am rfl (o_z ?_)
  obtain rfl:=sm a0
  exact ⟨(),_,⟨rfl,trivial⟩,hB.st S9⟩
 replace hB:=hB.st S9
 rintro j0 k0 ⟨h0,l0,f0,hB⟩
 refine AH _ f0 ?_
 refine AF ?_
 obtain rfl:=sm hm
 exact ret1v rfl (AA rfl) ⟨hB.ext,vBool⟩
noncomputable def Bl (x0:List Fct) (y0:Int):Option Int :=
  bnd (rng (ρ:=Int) (fun (k12:Nat) (a13:Fct) (s10:Unit)=>bnd (CP a13 y0) fun q32=>if q32=true then some (.ret (k12:Int)) else some (.next ())) x0 0 ()) fun res8=>fin res8 fun (s43:Unit)=>some (-1)
theorem DD {w:World} {A:Nat→Prop} (hA:∀ k,A k→k < w.heap.size) {vx0:Value} {x0:List Fct} (b0:Vb w A vx0 x0) {py0:Nat} {csy0:List Value} {y0:Int} (hby0:Blk w py0 3 csy0) (hay0:A py0) (hcy0:Rp.R w A csy0 y0) {r:Int} (hm:Bl x0 y0=some r) :
    Fn prog 160 [vx0,(.func (.func 135) #[] #[(.pointer (some ⟨py0,0,none⟩))])] w fun v w'=>Ext w w'∧Vb w' (upA A w w') v r:=by
 obtain ⟨O,hB,h0⟩:=enter hA
 have hLy0:Lc 0 w O py0 3 csy0:=⟨hby0,(h0 py0 hay0).2⟩
 replace hcy0:=Rp.mono hcy0 h0
 obtain ⟨rfl,r3⟩:=hcy0
 replace b0:=b0.mono h0
 obtain ⟨A4,c5,rfl⟩:=b0.form
 refine AL func160 rfl ntmps160 ?_
 unfold Bl at hm
 refine Ab (Aa (Am rfl (o_z ?_)))
 refine Ab (Ab (Aa (Ak rfl (AS rfl ?_))))
 have l7:x0.length≤9223372036854775807:=Nat.le_trans b0.len.2.1 b0.len.2.2
 have r6:inI64 (x0.length:Int):=rngNat l7
 refine Ak rfl (o_z ?_)
 obtain ⟨i0,s0,hm⟩:=bs hm
 refine Ay (aft i0 (fun (e0:Unit) (f0:Unit)=>[]) (fun e0 f0 w'=>∃ O':Lab,Bs w A w' O')) ?_ ?_
 ·
  refine AK (AY (σ:=Unit) (X:=Unit) (x0.length) s0 rfl l7 (fun (e0:Unit) (f0:Unit)=>[(0,(.slice A4 x0.length c5)),(1,(.func (.func 135) #[] #[(.pointer (some ⟨py0,0,none⟩))]))]) _ (fun e0 f0 w'=>∃ O':Lab,Bs w A w' O'∧Vb w' (Fr 0 w' O') (.slice A4 x0.length c5) x0∧Lc 0 w' O' py0 3 [(.int .i64 y0)]) _ () ⟨O,hB,b0,hLy0⟩ ⟨rfl,rfl,rfl,rfl,trivial⟩ (fun _ _=>⟨rfl,rfl⟩) (fun _ _=>trivial) (fun _ _ _ ⟨O',hB,b0,hLy0⟩=>⟨O',hB⟩) ⟨rfl,rfl,rfl⟩ ⟨rfl,rfl⟩ ?_)
  rintro t0 j0 e0 f0 k0 u0 d0 ⟨l0,hB,b0,hLy0⟩ a0 c0 m0
  have rk12:inI64 (t0:Int):=rngK d0 l7
  refine Ab (Aa (Ak rfl (Am rfl (o_z ?_))))
  refine Ab (Aa (Ak rfl (Ak rfl (Ak rfl ?_))))
  obtain ⟨c1,d1,v0,n0,o0,p0,rfl,w0,z0⟩:=b0.elem' d0
  refine Bi (hA:=n0) (hj:=rfl) (hlt:=o0) rfl rfl ?_
  refine Bd (hl:=rfl) (hc:=p0) rfl ?_
  obtain ⟨r0,a1,a0⟩:=bs a0
  refine Jg (O:=l0) (A:=All k0) (R:=fun w' F v=>Vb w' F v r0) (Jm (fun _ h=>h) (Vb.mono (F:=Fr 0 k0 l0) (Vb.ofAgg (cs:=[(.int .i64 j0.var),(.int .i64 j0.val)]) (x:=j0) rfl ⟨rfl,w0,z0⟩) Fr.lt) hLy0.1 hLy0.1.lt (Rp.mono (F:=Fr 0 k0 l0) (x:=y0) (Vb.cells1 (vInt r3)) Fr.lt) a1) rfl rfl rfl rfl fun e1 f1 g1 g0 b1=>?_
  obtain rfl:=b1.bool
  cases r0
  case false =>
   replace a0:=iF a0
   refine o_z ?_
   refine Ae rfl (AO ?_)
   obtain rfl:=sm a0
   exact show Exists _ from ⟨_,(),rfl,⟨rfl,rfl,rfl,rfl,trivial⟩,_,hB.st g0,b0.st g0,hLy0.st g0⟩
  replace a0:=iT a0
  refine o_z ?_
  refine Ah rfl (Ab (Aa (Ak rfl (Am rfl (o_z ?_)))))
  refine AF ?_
  obtain rfl:=sm a0
  obtain rfl:=c0 _ rfl
  obtain rfl:=sm (BY hm)
  replace hB:=hB.st g0
  exact ret1v rfl (AA rfl) ⟨hB.ext,(vInt rk12)⟩
 rintro h1 i1 ⟨j1,k1,rfl,q0,l1,hB⟩
 replace hm:=AR hm
 refine AH _ q0 ?_
 refine Ab (Aa (Am rfl (o_z ?_)))
 refine AF ?_
 obtain rfl:=sm hm
 exact ret1v rfl (AA rfl) ⟨hB.ext,(vInt (iI64 (-1)))⟩
noncomputable def Bg (x0:List Fct) (y0:Int):Option Bool :=
  bnd (bnd (Bl x0 y0) fun q10=>if 0≤q10 then (some true) else (some false):Option Bool) fun y6=>some y6
theorem Dq {w:World} {A:Nat→Prop} (hA:∀ k,A k→k < w.heap.size) {vx0:Value} {x0:List Fct} (b0:Vb w A vx0 x0) {py0:Nat} {csy0:List Value} {y0:Int} (hby0:Blk w py0 3 csy0) (hay0:A py0) (hcy0:Rp.R w A csy0 y0) {r:Bool} (hm:Bg x0 y0=some r) :
    Fn prog 134 [vx0,(.func (.func 135) #[] #[(.pointer (some ⟨py0,0,none⟩))])] w fun v w'=>Ext w w'∧Vb w' (upA A w w') v r:=by
 obtain ⟨O,hB,c0⟩:=enter hA
 have hLy0:Lc 0 w O py0 3 csy0:=⟨hby0,(c0 py0 hay0).2⟩
 replace hcy0:=Rp.mono hcy0 c0
 obtain ⟨rfl,r3⟩:=hcy0
 replace b0:=b0.mono c0
 obtain ⟨A4,c5,rfl⟩:=b0.form
 refine AL func134 rfl ntmps134 ?_
 unfold Bg at hm
 refine Ab (Aa (Am rfl (o_z ?_)))
 refine Ab ?_
 obtain ⟨y6,a0,hm⟩:=bs hm
 refine Ay (fun l' w'=>∃ (x9:Unit) (O':Lab),subs l' [(4,(.bool y6))]∧Bs w A w' O') ?_ ?_
 ·
  refine Aa (Ak rfl (Ak rfl ?_))
  obtain ⟨i0,g0,a0⟩:=bs a0
  refine AM (O:=O) (DD (fun _ h=>h) (vMo b0) hLy0.1 hLy0.1.lt (Rp.mono (F:=Fr 0 w O) (x:=y0) (Vb.cells1 (vInt r3)) Fr.lt) g0) rfl fun j0 k0 l0 f0 h0=>?_
  obtain ⟨rfl,m0⟩:=h0.int
  refine ET rfl rfl (fun d0=>?_) fun d0=>?_
  ·
   replace a0:=ip a0 d0
   refine Am rfl (o_z ?_)
   obtain rfl:=sm a0
   exact ⟨(),_,⟨rfl,trivial⟩,hB.st f0⟩
  replace a0:=im a0 d0
  refine Am rfl (o_z ?_)
  obtain rfl:=sm a0
  exact ⟨(),_,⟨rfl,trivial⟩,hB.st f0⟩
 rintro n0 o0 ⟨x9,p0,e0,hB⟩
 refine AH _ e0 ?_
 refine AF ?_
 obtain rfl:=sm hm
 exact ret1v rfl (AA rfl) ⟨hB.ext,vBool⟩
noncomputable def Ca (x0:List Fct) (x1:Int):Option Bool :=
  bnd (bnd (Bg x0 x1) fun q14=>if q14=true then some true else some false:Option Bool) fun y10=>some y10
theorem Ds {w:World} {A:Nat→Prop} (hA:∀ k,A k→k < w.heap.size) {vx0:Value} {x0:List Fct} (b0:Vb w A vx0 x0) {x1:Int} (rx1:inI64 x1) {r:Bool} (hm:Ca x0 x1=some r) :
    Fn prog 96 [vx0,(.int .i64 x1)] w fun v w'=>Ext w w'∧Vb w' (upA A w w') v r:=by
 obtain ⟨O,hB,e0⟩:=enter hA
 replace b0:=b0.mono e0
 obtain ⟨A3,c4,rfl⟩:=b0.form
 refine AL func96 rfl ntmps96 ?_
 unfold Ca at hm
 refine Ab (Aa (BL 2 O rfl fun g5 w6 O7 S8 h9=>?_))
 refine Am rfl (o_z ?_)
 refine Ab ?_
 obtain ⟨f0,a0,hm⟩:=bs hm
 refine Ay (fun l' w'=>∃ (g0:Unit) (O':Lab),subs l' [(4,(.bool f0))]∧Bs w A w' O') ?_ ?_
 ·
  refine Aa (Ak rfl (Nq rfl rfl rfl ?_))
  obtain ⟨h0,i0,a0⟩:=bs a0
  replace b0:=b0.st S8
  refine AM (O:=O7) (Dq (fun _ h=>h) (vMo b0) h9.1 h9.1.lt (Rp.mono (F:=Fr 0 w6 O7) (x:=x1) (Vb.cells1 (vInt rx1)) Fr.lt) i0) rfl fun k0 l0 m0 d0 j0=>?_
  obtain rfl:=j0.bool
  cases h0
  case false =>
   replace a0:=iF a0
   refine Am rfl (o_z ?_)
   obtain rfl:=sm a0
   exact ⟨(),_,⟨rfl,trivial⟩,(hB.st S8).st d0⟩
  replace a0:=iT a0
  refine Am rfl (o_z ?_)
  obtain rfl:=sm a0
  exact ⟨(),_,⟨rfl,trivial⟩,(hB.st S8).st d0⟩
 replace hB:=hB.st S8
 rintro n0 o0 ⟨g0,p0,c0,hB⟩
 refine AH _ c0 ?_
 refine AF ?_
 obtain rfl:=sm hm
 exact ret1v rfl (AA rfl) ⟨hB.ext,vBool⟩
noncomputable def DG (x0:Job) (y0:Int):Option Bool :=
  bnd (bnd (Ca x0.atStart y0) fun q35=>if q35=true then some true else bnd (Ca x0.atEnd y0) fun q42=>if q42=true then some true else some false:Option Bool) fun y31=>some y31
theorem Ln {w:World} {A:Nat→Prop} (hA:∀ k,A k→k < w.heap.size) {vx0:Value} {x0:Job} (g0:Vb w A vx0 x0) {py0:Nat} {csy0:List Value} {y0:Int} (hby0:Blk w py0 3 csy0) (hay0:A py0) (hcy0:Rp.R w A csy0 y0) {r:Bool} (hm:DG x0 y0=some r) :
    Fn prog 95 [vx0,(.pointer (some ⟨py0,0,none⟩))] w fun v w'=>Ext w w'∧Vb w' (upA A w w') v r:=by
 obtain ⟨O,hB,h0⟩:=enter hA
 have hLy0:Lc 0 w O py0 3 csy0:=⟨hby0,(h0 py0 hay0).2⟩
 replace hcy0:=Rp.mono hcy0 h0
 obtain ⟨rfl,r2⟩:=hcy0
 replace g0:=g0.mono h0
 obtain ⟨k1,rfl,v4,v5,v6,v7,v8,rfl,h9,l0,m0,e0,f0,l1,m1⟩:=g0
 obtain ⟨n0,o0,rfl⟩:=h9.form
 obtain ⟨p0,q0,rfl⟩:=l0.form
 obtain ⟨r0,s0,rfl⟩:=m0.form
 obtain ⟨t0,u0,rfl⟩:=e0.form
 obtain ⟨v0,w0,rfl⟩:=f0.form
 refine AL func95 rfl ntmps95 ?_
 unfold DG at hm
 refine Ab (Aa (BL 2 O rfl fun z0 a1 j0 b0 c0=>?_))
 replace c0:Lc 2 a1 j0 z0 66 [(.string x0.name),(.int .i64 x0.dur),(.slice n0 x0.start.length o0),(.slice p0 x0.over.length q0),(.slice r0 x0.fin.length s0),(.slice t0 x0.atStart.length u0),(.slice v0 x0.atEnd.length w0)]:=c0
 refine Am rfl (o_z ?_)
 refine Ab ?_
 obtain ⟨b1,a0,hm⟩:=bs hm
 refine Ay (fun l' w'=>∃ (c1:Unit) (O':Lab),subs l' [(3,(.bool b1))]∧Bs w A w' O') ?_ ?_
 ·
  refine Aa (Ax rfl (At (hc:=Blk.cell (i:=5) (c0.1) rfl) rfl ?_))
  replace hLy0:=hLy0.st b0
  refine At (hc:=Blk.cell (i:=0) (hLy0.1) rfl) rfl ?_
  obtain ⟨d1,e1,a0⟩:=bs a0
  replace e0:=e0.st b0
  refine AM (O:=j0) (Ds (fun _ h=>h) (vMo e0) r2 e1) rfl fun n1 o1 f1 d0 g1=>?_
  obtain rfl:=g1.bool
  cases d1
  case false =>
   replace a0:=iF a0
   refine Ak rfl (An rfl rfl (Ax rfl (An rfl rfl ?_)))
   replace c0:=c0.st d0
   refine At (hc:=Blk.cell (i:=6) (c0.1) rfl) rfl ?_
   refine An rfl rfl ?_
   replace hLy0:=hLy0.st d0
   refine At (hc:=Blk.cell (i:=0) (hLy0.1) rfl) rfl ?_
   refine An rfl rfl ?_
   obtain ⟨h1,i1,a0⟩:=bs a0
   replace f0:=(f0.st b0).st d0
   refine AM (O:=f1) (Ds (fun _ h=>h) (vMo f0) r2 i1) rfl fun p1 q1 r1 k0 j1=>?_
   obtain rfl:=j1.bool
   cases h1
   case false =>
    replace a0:=iF a0
    refine Bc rfl rfl (Am rfl (o_z ?_))
    obtain rfl:=sm a0
    exact ⟨(),_,⟨rfl,trivial⟩,((hB.st b0).st d0).st k0⟩
   replace a0:=iT a0
   refine Bc rfl rfl (Am rfl (o_z ?_))
   obtain rfl:=sm a0
   exact ⟨(),_,⟨rfl,trivial⟩,((hB.st b0).st d0).st k0⟩
  replace a0:=iT a0
  refine Ak rfl (Al rfl rfl (Al rfl rfl (Al rfl rfl (Al rfl rfl (Bn rfl rfl (Am rfl (o_z ?_)))))))
  obtain rfl:=sm a0
  exact ⟨(),_,⟨rfl,trivial⟩,(hB.st b0).st d0⟩
 replace hB:=hB.st b0
 rintro s1 t1 ⟨c1,u1,i0,hB⟩
 refine AH _ i0 ?_
 refine AF ?_
 obtain rfl:=sm hm
 exact ret1v rfl (AA rfl) ⟨hB.ext,vBool⟩
noncomputable def Bt (x0:List Job) (y0:Int):Option Int :=
  bnd (rng (ρ:=Int) (fun (k12:Nat) (a13:Job) (s10:Unit)=>bnd (DG a13 y0) fun q52=>if q52=true then some (.ret (k12:Int)) else some (.next ())) x0 0 ()) fun res8=>fin res8 fun (s63:Unit)=>some (-1)
theorem Eb {w:World} {A:Nat→Prop} (hA:∀ k,A k→k < w.heap.size) {vx0:Value} {x0:List Job} (b0:Vb w A vx0 x0) {py0:Nat} {csy0:List Value} {y0:Int} (hby0:Blk w py0 3 csy0) (hay0:A py0) (hcy0:Rp.R w A csy0 y0) {r:Int} (hm:Bt x0 y0=some r) :
    Fn prog 133 [vx0,(.func (.func 95) #[] #[(.pointer (some ⟨py0,0,none⟩))])] w fun v w'=>Ext w w'∧Vb w' (upA A w w') v r:=by
 obtain ⟨O,hB,i0⟩:=enter hA
 have hLy0:Lc 0 w O py0 3 csy0:=⟨hby0,(i0 py0 hay0).2⟩
 replace hcy0:=Rp.mono hcy0 i0
 obtain ⟨rfl,r3⟩:=hcy0
 replace b0:=b0.mono i0
 obtain ⟨A4,c5,rfl⟩:=b0.form
 refine AL func133 rfl ntmps133 ?_
 unfold Bt at hm
 refine Ab (Aa (Am rfl (o_z ?_)))
 refine Ab (Ab (Aa (Ak rfl (AS rfl ?_))))
 have l7:x0.length≤9223372036854775807:=Nat.le_trans b0.len.2.1 b0.len.2.2
 have r6:inI64 (x0.length:Int):=rngNat l7
 refine Ak rfl (o_z ?_)
 obtain ⟨j0,z0,hm⟩:=bs hm
 refine Ay (aft j0 (fun (f0:Unit) (g0:Unit)=>[]) (fun f0 g0 w'=>∃ O':Lab,Bs w A w' O')) ?_ ?_
 ·
  refine AK (AY (σ:=Unit) (X:=Unit) (x0.length) z0 rfl l7 (fun (f0:Unit) (g0:Unit)=>[(0,(.slice A4 x0.length c5)),(1,(.func (.func 95) #[] #[(.pointer (some ⟨py0,0,none⟩))]))]) _ (fun f0 g0 w'=>∃ O':Lab,Bs w A w' O'∧Vb w' (Fr 0 w' O') (.slice A4 x0.length c5) x0∧Lc 0 w' O' py0 3 [(.int .i64 y0)]) _ () ⟨O,hB,b0,hLy0⟩ ⟨rfl,rfl,rfl,rfl,trivial⟩ (fun _ _=>⟨rfl,rfl⟩) (fun _ _=>trivial) (fun _ _ _ ⟨O',hB,b0,hLy0⟩=>⟨O',hB⟩) ⟨rfl,rfl,rfl⟩ ⟨rfl,rfl⟩ ?_)
  rintro a1 c0 f0 g0 k0 b1 e0 ⟨l0,hB,b0,hLy0⟩ a0 d0 m0
  have rk12:inI64 (a1:Int):=rngK e0 l7
  refine Ab (Aa (Ak rfl (Am rfl (o_z ?_))))
  refine Ab (Aa (Ak rfl (Ak rfl (Ak rfl ?_))))
  obtain ⟨r1,s1,c1,n0,o0,p0,t1,u1,v1,w1,x1,rfl,r0,s0,t0,u0,v0,d1,e1⟩:=b0.elem' e0
  obtain ⟨f1,g1,rfl⟩:=r0.form
  obtain ⟨h1,i1,rfl⟩:=s0.form
  obtain ⟨j1,k1,rfl⟩:=t0.form
  obtain ⟨l1,m1,rfl⟩:=u0.form
  obtain ⟨n1,o1,rfl⟩:=v0.form
  refine Bi (hA:=n0) (hj:=rfl) (hlt:=o0) rfl rfl ?_
  refine Bd (hl:=rfl) (hc:=p0) rfl ?_
  obtain ⟨w0,p1,a0⟩:=bs a0
  refine Jg (O:=l0) (A:=All k0) (R:=fun w' F v=>Vb w' F v w0) (Ln (fun _ h=>h) (Vb.mono (F:=Fr 0 k0 l0) (Vb.ofAgg (cs:=[(.string c0.name),(.int .i64 c0.dur),(.slice f1 c0.start.length g1),(.slice h1 c0.over.length i1),(.slice j1 c0.fin.length k1),(.slice l1 c0.atStart.length m1),(.slice n1 c0.atEnd.length o1)]) (x:=c0) rfl ⟨_,_,_,_,_,rfl,r0,s0,t0,u0,v0,d1,e1⟩) Fr.lt) hLy0.1 hLy0.1.lt (Rp.mono (F:=Fr 0 k0 l0) (x:=y0) (Vb.cells1 (vInt r3)) Fr.lt) p1) rfl rfl rfl rfl fun y1 z1 a2 h0 q1=>?_
  obtain rfl:=q1.bool
  cases w0
  case false =>
   replace a0:=iF a0
   refine o_z ?_
   refine Ae rfl (AO ?_)
   obtain rfl:=sm a0
   exact show Exists _ from ⟨_,(),rfl,⟨rfl,rfl,rfl,rfl,trivial⟩,_,hB.st h0,b0.st h0,hLy0.st h0⟩
  replace a0:=iT a0
  refine o_z ?_
  refine Ah rfl (Ab (Aa (Ak rfl (Am rfl (o_z ?_)))))
  refine AF ?_
  obtain rfl:=sm a0
  obtain rfl:=d0 _ rfl
  obtain rfl:=sm (BY hm)
  replace hB:=hB.st h0
  exact ret1v rfl (AA rfl) ⟨hB.ext,(vInt rk12)⟩
 rintro b2 c2 ⟨d2,e2,rfl,q0,f2,hB⟩
 replace hm:=AR hm
 refine AH _ q0 ?_
 refine Ab (Aa (Am rfl (o_z ?_)))
 refine AF ?_
 obtain rfl:=sm hm
 exact ret1v rfl (AA rfl) ⟨hB.ext,(vInt (iI64 (-1)))⟩
noncomputable def Be (x0:List Job) (y0:Int):Option Bool :=
  bnd (bnd (Bt x0 y0) fun q10=>if 0≤q10 then (some true) else (some false):Option Bool) fun y6=>some y6
theorem DP {w:World} {A:Nat→Prop} (hA:∀ k,A k→k < w.heap.size) {vx0:Value} {x0:List Job} (b0:Vb w A vx0 x0) {py0:Nat} {csy0:List Value} {y0:Int} (hby0:Blk w py0 3 csy0) (hay0:A py0) (hcy0:Rp.R w A csy0 y0) {r:Bool} (hm:Be x0 y0=some r) :
    Fn prog 94 [vx0,(.func (.func 95) #[] #[(.pointer (some ⟨py0,0,none⟩))])] w fun v w'=>Ext w w'∧Vb w' (upA A w w') v r:=by
 obtain ⟨O,hB,c0⟩:=enter hA
 have hLy0:Lc 0 w O py0 3 csy0:=⟨hby0,(c0 py0 hay0).2⟩
 replace hcy0:=Rp.mono hcy0 c0
 obtain ⟨rfl,r3⟩:=hcy0
 replace b0:=b0.mono c0
 obtain ⟨A4,c5,rfl⟩:=b0.form
 refine AL func94 rfl ntmps94 ?_
 unfold Be at hm
 refine Ab (Aa (Am rfl (o_z ?_)))
 refine Ab ?_
 obtain ⟨y6,a0,hm⟩:=bs hm
 refine Ay (fun l' w'=>∃ (x9:Unit) (O':Lab),subs l' [(4,(.bool y6))]∧Bs w A w' O') ?_ ?_
 ·
  refine Aa (Ak rfl (Ak rfl ?_))
  obtain ⟨i0,g0,a0⟩:=bs a0
  refine AM (O:=O) (Eb (fun _ h=>h) (vMo b0) hLy0.1 hLy0.1.lt (Rp.mono (F:=Fr 0 w O) (x:=y0) (Vb.cells1 (vInt r3)) Fr.lt) g0) rfl fun j0 k0 l0 f0 h0=>?_
  obtain ⟨rfl,m0⟩:=h0.int
  refine ET rfl rfl (fun d0=>?_) fun d0=>?_
  ·
   replace a0:=ip a0 d0
   refine Am rfl (o_z ?_)
   obtain rfl:=sm a0
   exact ⟨(),_,⟨rfl,trivial⟩,hB.st f0⟩
  replace a0:=im a0 d0
  refine Am rfl (o_z ?_)
  obtain rfl:=sm a0
  exact ⟨(),_,⟨rfl,trivial⟩,hB.st f0⟩
 rintro n0 o0 ⟨x9,p0,e0,hB⟩
 refine AH _ e0 ?_
 refine AF ?_
 obtain rfl:=sm hm
 exact ret1v rfl (AA rfl) ⟨hB.ext,vBool⟩
noncomputable def DH (x0:Job) (y0:Int):Option Bool :=
  bnd (bnd (Ca x0.start y0) fun q35=>if q35=true then some true else bnd (Ca x0.fin y0) fun q42=>if q42=true then some true else some false:Option Bool) fun y31=>some y31
theorem Lo {w:World} {A:Nat→Prop} (hA:∀ k,A k→k < w.heap.size) {vx0:Value} {x0:Job} (f0:Vb w A vx0 x0) {py0:Nat} {csy0:List Value} {y0:Int} (hby0:Blk w py0 3 csy0) (hay0:A py0) (hcy0:Rp.R w A csy0 y0) {r:Bool} (hm:DH x0 y0=some r) :
    Fn prog 97 [vx0,(.pointer (some ⟨py0,0,none⟩))] w fun v w'=>Ext w w'∧Vb w' (upA A w w') v r:=by
 obtain ⟨O,hB,g0⟩:=enter hA
 have hLy0:Lc 0 w O py0 3 csy0:=⟨hby0,(g0 py0 hay0).2⟩
 replace hcy0:=Rp.mono hcy0 g0
 obtain ⟨rfl,r2⟩:=hcy0
 replace f0:=f0.mono g0
 obtain ⟨k1,rfl,v4,v5,v6,v7,v8,rfl,h9,k0,e0,l0,m0,l1,m1⟩:=f0
 obtain ⟨n0,o0,rfl⟩:=h9.form
 obtain ⟨p0,q0,rfl⟩:=k0.form
 obtain ⟨r0,s0,rfl⟩:=e0.form
 obtain ⟨t0,u0,rfl⟩:=l0.form
 obtain ⟨v0,w0,rfl⟩:=m0.form
 refine AL func97 rfl ntmps97 ?_
 unfold DH at hm
 refine Ab (Aa (BL 2 O rfl fun z0 a1 i0 b0 c0=>?_))
 replace c0:Lc 2 a1 i0 z0 66 [(.string x0.name),(.int .i64 x0.dur),(.slice n0 x0.start.length o0),(.slice p0 x0.over.length q0),(.slice r0 x0.fin.length s0),(.slice t0 x0.atStart.length u0),(.slice v0 x0.atEnd.length w0)]:=c0
 refine Am rfl (o_z ?_)
 refine Ab ?_
 obtain ⟨b1,a0,hm⟩:=bs hm
 refine Ay (fun l' w'=>∃ (c1:Unit) (O':Lab),subs l' [(3,(.bool b1))]∧Bs w A w' O') ?_ ?_
 ·
  refine Aa (Ax rfl (At (hc:=Blk.cell (i:=2) (c0.1) rfl) rfl ?_))
  replace hLy0:=hLy0.st b0
  refine At (hc:=Blk.cell (i:=0) (hLy0.1) rfl) rfl ?_
  obtain ⟨d1,e1,a0⟩:=bs a0
  replace h9:=h9.st b0
  refine AM (O:=i0) (Ds (fun _ h=>h) (vMo h9) r2 e1) rfl fun n1 o1 f1 d0 g1=>?_
  obtain rfl:=g1.bool
  cases d1
  case false =>
   replace a0:=iF a0
   refine Ak rfl (An rfl rfl (Ax rfl (An rfl rfl ?_)))
   replace c0:=c0.st d0
   refine At (hc:=Blk.cell (i:=4) (c0.1) rfl) rfl ?_
   refine An rfl rfl ?_
   replace hLy0:=hLy0.st d0
   refine At (hc:=Blk.cell (i:=0) (hLy0.1) rfl) rfl ?_
   refine An rfl rfl ?_
   obtain ⟨h1,i1,a0⟩:=bs a0
   replace e0:=(e0.st b0).st d0
   refine AM (O:=f1) (Ds (fun _ h=>h) (vMo e0) r2 i1) rfl fun p1 q1 r1 j0 j1=>?_
   obtain rfl:=j1.bool
   cases h1
   case false =>
    replace a0:=iF a0
    refine Bc rfl rfl (Am rfl (o_z ?_))
    obtain rfl:=sm a0
    exact ⟨(),_,⟨rfl,trivial⟩,((hB.st b0).st d0).st j0⟩
   replace a0:=iT a0
   refine Bc rfl rfl (Am rfl (o_z ?_))
   obtain rfl:=sm a0
   exact ⟨(),_,⟨rfl,trivial⟩,((hB.st b0).st d0).st j0⟩
  replace a0:=iT a0
  refine Ak rfl (Al rfl rfl (Al rfl rfl (Al rfl rfl (Al rfl rfl (Bn rfl rfl (Am rfl (o_z ?_)))))))
  obtain rfl:=sm a0
  exact ⟨(),_,⟨rfl,trivial⟩,(hB.st b0).st d0⟩
 replace hB:=hB.st b0
 rintro s1 t1 ⟨c1,u1,h0,hB⟩
 refine AH _ h0 ?_
 refine AF ?_
 obtain rfl:=sm hm
 exact ret1v rfl (AA rfl) ⟨hB.ext,vBool⟩
noncomputable def Bu (x0:List Job) (y0:Int):Option Int :=
  bnd (rng (ρ:=Int) (fun (k12:Nat) (a13:Job) (s10:Unit)=>bnd (DH a13 y0) fun q52=>if q52=true then some (.ret (k12:Int)) else some (.next ())) x0 0 ()) fun res8=>fin res8 fun (s63:Unit)=>some (-1)
theorem Ec {w:World} {A:Nat→Prop} (hA:∀ k,A k→k < w.heap.size) {vx0:Value} {x0:List Job} (b0:Vb w A vx0 x0) {py0:Nat} {csy0:List Value} {y0:Int} (hby0:Blk w py0 3 csy0) (hay0:A py0) (hcy0:Rp.R w A csy0 y0) {r:Int} (hm:Bu x0 y0=some r) :
    Fn prog 133 [vx0,(.func (.func 97) #[] #[(.pointer (some ⟨py0,0,none⟩))])] w fun v w'=>Ext w w'∧Vb w' (upA A w w') v r:=by
 obtain ⟨O,hB,i0⟩:=enter hA
 have hLy0:Lc 0 w O py0 3 csy0:=⟨hby0,(i0 py0 hay0).2⟩
 replace hcy0:=Rp.mono hcy0 i0
 obtain ⟨rfl,r3⟩:=hcy0
 replace b0:=b0.mono i0
 obtain ⟨A4,c5,rfl⟩:=b0.form
 refine AL func133 rfl ntmps133 ?_
 unfold Bu at hm
 refine Ab (Aa (Am rfl (o_z ?_)))
 refine Ab (Ab (Aa (Ak rfl (AS rfl ?_))))
 have l7:x0.length≤9223372036854775807:=Nat.le_trans b0.len.2.1 b0.len.2.2
 have r6:inI64 (x0.length:Int):=rngNat l7
 refine Ak rfl (o_z ?_)
 obtain ⟨j0,z0,hm⟩:=bs hm
 refine Ay (aft j0 (fun (f0:Unit) (g0:Unit)=>[]) (fun f0 g0 w'=>∃ O':Lab,Bs w A w' O')) ?_ ?_
 ·
  refine AK (AY (σ:=Unit) (X:=Unit) (x0.length) z0 rfl l7 (fun (f0:Unit) (g0:Unit)=>[(0,(.slice A4 x0.length c5)),(1,(.func (.func 97) #[] #[(.pointer (some ⟨py0,0,none⟩))]))]) _ (fun f0 g0 w'=>∃ O':Lab,Bs w A w' O'∧Vb w' (Fr 0 w' O') (.slice A4 x0.length c5) x0∧Lc 0 w' O' py0 3 [(.int .i64 y0)]) _ () ⟨O,hB,b0,hLy0⟩ ⟨rfl,rfl,rfl,rfl,trivial⟩ (fun _ _=>⟨rfl,rfl⟩) (fun _ _=>trivial) (fun _ _ _ ⟨O',hB,b0,hLy0⟩=>⟨O',hB⟩) ⟨rfl,rfl,rfl⟩ ⟨rfl,rfl⟩ ?_)
  rintro a1 c0 f0 g0 k0 b1 e0 ⟨l0,hB,b0,hLy0⟩ a0 d0 m0
  have rk12:inI64 (a1:Int):=rngK e0 l7
  refine Ab (Aa (Ak rfl (Am rfl (o_z ?_))))
  refine Ab (Aa (Ak rfl (Ak rfl (Ak rfl ?_))))
  obtain ⟨r1,s1,c1,n0,o0,p0,t1,u1,v1,w1,x1,rfl,r0,s0,t0,u0,v0,d1,e1⟩:=b0.elem' e0
  obtain ⟨f1,g1,rfl⟩:=r0.form
  obtain ⟨h1,i1,rfl⟩:=s0.form
  obtain ⟨j1,k1,rfl⟩:=t0.form
  obtain ⟨l1,m1,rfl⟩:=u0.form
  obtain ⟨n1,o1,rfl⟩:=v0.form
  refine Bi (hA:=n0) (hj:=rfl) (hlt:=o0) rfl rfl ?_
  refine Bd (hl:=rfl) (hc:=p0) rfl ?_
  obtain ⟨w0,p1,a0⟩:=bs a0
  refine Jg (O:=l0) (A:=All k0) (R:=fun w' F v=>Vb w' F v w0) (Lo (fun _ h=>h) (Vb.mono (F:=Fr 0 k0 l0) (Vb.ofAgg (cs:=[(.string c0.name),(.int .i64 c0.dur),(.slice f1 c0.start.length g1),(.slice h1 c0.over.length i1),(.slice j1 c0.fin.length k1),(.slice l1 c0.atStart.length m1),(.slice n1 c0.atEnd.length o1)]) (x:=c0) rfl ⟨_,_,_,_,_,rfl,r0,s0,t0,u0,v0,d1,e1⟩) Fr.lt) hLy0.1 hLy0.1.lt (Rp.mono (F:=Fr 0 k0 l0) (x:=y0) (Vb.cells1 (vInt r3)) Fr.lt) p1) rfl rfl rfl rfl fun y1 z1 a2 h0 q1=>?_
  obtain rfl:=q1.bool
  cases w0
  case false =>
   replace a0:=iF a0
   refine o_z ?_
   refine Ae rfl (AO ?_)
   obtain rfl:=sm a0
   exact show Exists _ from ⟨_,(),rfl,⟨rfl,rfl,rfl,rfl,trivial⟩,_,hB.st h0,b0.st h0,hLy0.st h0⟩
  replace a0:=iT a0
  refine o_z ?_
  refine Ah rfl (Ab (Aa (Ak rfl (Am rfl (o_z ?_)))))
  refine AF ?_
  obtain rfl:=sm a0
  obtain rfl:=d0 _ rfl
  obtain rfl:=sm (BY hm)
  replace hB:=hB.st h0
  exact ret1v rfl (AA rfl) ⟨hB.ext,(vInt rk12)⟩
 rintro b2 c2 ⟨d2,e2,rfl,q0,f2,hB⟩
 replace hm:=AR hm
 refine AH _ q0 ?_
 refine Ab (Aa (Am rfl (o_z ?_)))
 refine AF ?_
 obtain rfl:=sm hm
 exact ret1v rfl (AA rfl) ⟨hB.ext,(vInt (iI64 (-1)))⟩
noncomputable def Bf (x0:List Job) (y0:Int):Option Bool :=
  bnd (bnd (Bu x0 y0) fun q10=>if 0≤q10 then (some true) else (some false):Option Bool) fun y6=>some y6
theorem DQ {w:World} {A:Nat→Prop} (hA:∀ k,A k→k < w.heap.size) {vx0:Value} {x0:List Job} (b0:Vb w A vx0 x0) {py0:Nat} {csy0:List Value} {y0:Int} (hby0:Blk w py0 3 csy0) (hay0:A py0) (hcy0:Rp.R w A csy0 y0) {r:Bool} (hm:Bf x0 y0=some r) :
    Fn prog 94 [vx0,(.func (.func 97) #[] #[(.pointer (some ⟨py0,0,none⟩))])] w fun v w'=>Ext w w'∧Vb w' (upA A w w') v r:=by
 obtain ⟨O,hB,c0⟩:=enter hA
 have hLy0:Lc 0 w O py0 3 csy0:=⟨hby0,(c0 py0 hay0).2⟩
 replace hcy0:=Rp.mono hcy0 c0
 obtain ⟨rfl,r3⟩:=hcy0
 replace b0:=b0.mono c0
 obtain ⟨A4,c5,rfl⟩:=b0.form
 refine AL func94 rfl ntmps94 ?_
 unfold Bf at hm
 refine Ab (Aa (Am rfl (o_z ?_)))
 refine Ab ?_
 obtain ⟨y6,a0,hm⟩:=bs hm
 refine Ay (fun l' w'=>∃ (x9:Unit) (O':Lab),subs l' [(4,(.bool y6))]∧Bs w A w' O') ?_ ?_
 ·
  refine Aa (Ak rfl (Ak rfl ?_))
  obtain ⟨i0,g0,a0⟩:=bs a0
  refine AM (O:=O) (Ec (fun _ h=>h) (vMo b0) hLy0.1 hLy0.1.lt (Rp.mono (F:=Fr 0 w O) (x:=y0) (Vb.cells1 (vInt r3)) Fr.lt) g0) rfl fun j0 k0 l0 f0 h0=>?_
  obtain ⟨rfl,m0⟩:=h0.int
  refine ET rfl rfl (fun d0=>?_) fun d0=>?_
  ·
   replace a0:=ip a0 d0
   refine Am rfl (o_z ?_)
   obtain rfl:=sm a0
   exact ⟨(),_,⟨rfl,trivial⟩,hB.st f0⟩
  replace a0:=im a0 d0
  refine Am rfl (o_z ?_)
  obtain rfl:=sm a0
  exact ⟨(),_,⟨rfl,trivial⟩,hB.st f0⟩
 rintro n0 o0 ⟨x9,p0,e0,hB⟩
 refine AH _ e0 ?_
 refine AF ?_
 obtain rfl:=sm hm
 exact ret1v rfl (AA rfl) ⟨hB.ext,vBool⟩
noncomputable def DV (x0:Tpl):Option Lay :=
  bnd (Ct x0.vars) fun q29=>bnd (rng (ρ:=Lay) (fun (k142:Nat) (a143:Job) (s140:(List Int))=>bnd (chkI (a143.dur + 2)) fun n193=>bnd (appI 8 s140 ([n193,2]:List Int)) fun u202=>some (.next u202)) x0.jobs 0 q29) fun res138=>fin res138 fun (s219:(List Int))=>bnd (rng (ρ:=Lay) (fun (k227:Nat) (a228:Int) (s225:(List Int)×(List Int)×(List Int))=>bnd (bnd (Be x0.jobs (k227:Int)) fun q265=>if q265=true then bnd (appI 8 s225.2.2 [2]) fun u274=>bnd (Bf x0.jobs (k227:Int)) fun q288=>if q288=true then bnd (appI 8 u274 [2]) fun u297=>some ((s225.2.2.length:Int),(u274.length:Int),u297) else some ((s225.2.2.length:Int),(-1),u274) else some ((-1),(-1),s225.2.2):Option (Int×Int×(List Int))) fun y257=>bnd (appI 8 s225.1 ([y257.1]:List Int)) fun u315=>bnd (appI 8 s225.2.1 ([y257.2.1]:List Int)) fun u317=>some (.next (u315,u317,y257.2.2))) x0.vars 0 (([]:List Int),([]:List Int),s219)) fun res223=>fin res223 fun (s419:(List Int)×(List Int)×(List Int))=>bnd (chkI ((x0.jobs.length:Int) + 2)) fun n427=>bnd (appI 8 s419.2.2 [n427]) fun u430=>some (⟨(x0.vars.length:Int),s419.1,s419.2.1,(s419.2.2.length:Int),u430⟩:Lay)
theorem MS {w:World} {A:Nat→Prop} (hA:∀ k,A k→k < w.heap.size) {vx0:Value} {x0:Tpl} (q6:Vb w A vx0 x0) {r:Lay} (hm:DV x0=some r) :
    Fn prog 35 [vx0] w fun v w'=>Ext w w'∧Vb w' (upA A w w') v r:=by
 obtain ⟨O,hB,nA⟩:=enter hA
 replace q6:=q6.mono nA
 obtain ⟨xD,rfl,v3,v4,v5,v6,rfl,h7,c1,d1,u0⟩:=q6
 obtain ⟨A8,c9,rfl⟩:=h7.form
 obtain ⟨r2,s2,rfl⟩:=c1.form
 obtain ⟨t2,u2,rfl⟩:=d1.form
 obtain ⟨p2,q2,rfl⟩:=u0.form
 refine AL func35 rfl ntmps35 ?_
 unfold DV at hm
 refine Ab (Aa (BL 2 O rfl fun k2 oA fA m3 q0=>?_))
 replace q0:Lc 2 oA fA k2 26 [(.slice A8 x0.vars.length c9),(.slice r2 x0.init.length s2),(.slice t2 x0.goal.length u2),(.slice p2 x0.jobs.length q2)]:=q0
 refine AU 3 fA fun l2 yD pA b3 v0=>?_
 refine o_z ?_
 refine Ab ?_
 obtain ⟨m2,qA,hm⟩:=bs hm
 refine Br [] pA ?_
 refine AP (fuel:=4) [] [(0,true),(1,true),(2,true),(3,true),(4,true)] rfl ?_
 refine AT rfl rfl ?_
 replace q0:=q0.st b3
 refine AV (hc:=bCell q0 0 rfl) rfl rfl ?_
 refine JQ rfl rfl ?_
 replace h7:=(h7.st m3).st b3
 have rA:x0.vars.length≤9223372036854775807:=Nat.le_trans h7.len.2.1 h7.len.2.2
 have sA:inI64 (x0.vars.length:Int):=rngNat rA
 refine AT rfl rfl (AV (hc:=bCell q0 0 rfl) rfl rfl ?_)
 refine AC ?_
 refine GX (l0:=[(1,(.pointer (some ⟨k2,0,none⟩))),(2,(.pointer (some ⟨l2,0,none⟩))),(11,(.int .i64 (x0.vars.length:Int))),(13,(.slice A8 x0.vars.length c9))]) (zs:=[⟨5,14,fun v w O=>∃ (h6:Option Addr),∃ (i6:Nat),v=(.slice h6 m2.length i6)∧Rw 4 w O 3 (.slice h6 m2.length i6) m2⟩,⟨6,15,fun v w O=>∃ (j6:Option Addr),∃ (k6:Nat),v=(.agg #[(.int .i64 (x0.vars.length:Int)),(.slice none 0 0),(.slice none 0 0),(.int .i64 0),(.slice j6 m2.length k6)])∧inI64 (x0.vars.length:Int)∧Rw 4 w O 3 (.slice j6 m2.length k6) m2⟩,⟨7,3,fun v w O=>∃ (l6:Nat),v=(.pointer (some ⟨l6,0,none⟩))∧Lc 5 w O l6 74 [(.int .i64 0),(.slice none 0 0),(.slice none 0 0),(.int .i64 0),(.slice none 0 0)]⟩]) #[true,true,true,true,true,true,true,true,false] 1 [] ⟨rfl,rfl,rfl,rfl,trivial⟩ ⟨⟨fun _ _ _ _ _ ⟨h6,i6,e,tA⟩ hS=>⟨h6,i6,e,tA.st hS id id⟩,?_⟩,⟨fun _ _ _ _ _ ⟨j6,k6,e,uA,vA⟩ hS=>⟨j6,k6,e,uA,vA.st hS id id⟩,?_⟩,⟨fun _ _ _ _ _ ⟨l6,e,wA⟩ hS=>⟨l6,e,wA.st hS id⟩,?_⟩,trivial⟩ ?_ rfl
 ·
  refine ⟨_,rfl,fun zD aE xA yA r6 hD49=>?_⟩
  refine ⟨[(13,(.slice A8 x0.vars.length c9))],⟨Ar r6 13 _ rfl,trivial⟩,fun Q50 hQ51=>?_⟩
  replace h7:=h7.st yA
  refine CZ 4 (O:=xA) (Gj Fr.lt h7 qA) rfl fun bE cE dE eE zA aB=>?_
  refine Bo (hQ51 _ _ ⟨_,_,rfl,zA,⟨_,_,rfl,aB⟩⟩)
 ·
  refine ⟨_,rfl,fun fE bB cB gE s6 hD77=>?_⟩
  obtain ⟨_,dB,gA,iA,rfl,t6⟩:=hD77.at 0 rfl (by kernel_rfl)
  replace t6:Rw 4 bB cB 3 (.slice gA m2.length iA) m2:=t6
  refine ⟨[(11,(.int .i64 (x0.vars.length:Int))),(14,(.slice gA m2.length iA))],⟨Ar s6 11 _ rfl,dB,trivial⟩,fun Q78 hQ79=>?_⟩
  refine Cl rfl rfl ?_
  refine Bo (hQ79 _ _ ⟨_,_,rfl,St.refl _ _ _,⟨_,_,rfl,sA,t6⟩⟩)
 ·
  refine ⟨_,rfl,fun eB fB u6 gB jA hD105=>?_⟩
  refine ⟨[],trivial,fun Q106 hQ107=>?_⟩
  refine AU 5 u6 fun iB jB kB w6 x6=>?_
  refine Bo (hQ107 _ _ ⟨_,_,rfl,w6,⟨_,rfl,x6⟩⟩)
 intro lB o4 c3 e1 n3 hD124
 obtain ⟨_,y6,j0,rfl,a0⟩:=hD124.at 2 rfl rfl
 replace a0:Lc 5 o4 c3 j0 74 [(.int .i64 0),(.slice none 0 0),(.slice none 0 0),(.int .i64 0),(.slice none 0 0)]:=a0
 obtain ⟨_,z6,d3,e3,rfl,p3,v2⟩:=hD124.at 1 rfl rfl
 replace p3:inI64 (x0.vars.length:Int):=p3
 replace v2:Rw 4 o4 c3 3 (.slice d3 m2.length e3) m2:=v2
 refine GW [(1,(.pointer (some ⟨k2,0,none⟩))),(2,(.pointer (some ⟨l2,0,none⟩))),(3,(.pointer (some ⟨j0,0,none⟩))),(15,(.agg #[(.int .i64 (x0.vars.length:Int)),(.slice none 0 0),(.slice none 0 0),(.int .i64 0),(.slice d3 m2.length e3)]))] ⟨Ar n3 1 _ rfl,Ar n3 2 _ rfl,y6,z6,trivial⟩ ?_
 refine AD (i:=8) rfl ?_
 refine Az a0 rfl rfl rfl (AJ) (allOne) fun a7 z0 a0=>?_
 replace a0:Lc 5 a7 c3 j0 74 [(.int .i64 (x0.vars.length:Int)),(.slice none 0 0),(.slice none 0 0),(.int .i64 0),(.slice d3 m2.length e3)]:=a0
 refine BF ?_
 refine Bv ?_
 refine Ab (Ab (Aa (Ax rfl ?_)))
 replace q0:=(q0.st e1).st z0
 refine At (hc:=Blk.cell (i:=3) (q0.1) rfl) rfl ?_
 refine AS rfl ?_
 replace u0:=(((u0.st m3).st b3).st e1).st z0
 have q3:x0.jobs.length≤9223372036854775807:=Nat.le_trans u0.len.2.1 u0.len.2.2
 have mB:inI64 (x0.jobs.length:Int):=rngNat q3
 refine Ak rfl (o_z ?_)
 obtain ⟨r3,p4,hm⟩:=bs hm
 refine Ay (aft r3 (fun (r1:(List Int)) (f1:(Option Addr×Nat))=>[(1,(.pointer (some ⟨k2,0,none⟩))),(2,(.pointer (some ⟨l2,0,none⟩))),(3,(.pointer (some ⟨j0,0,none⟩)))]) (fun r1 f1 w'=>∃ O':Lab,Bs w A w' O'∧Lc 2 w' O' k2 26 [(.slice A8 x0.vars.length c9),(.slice r2 x0.init.length s2),(.slice t2 x0.goal.length u2),(.slice p2 x0.jobs.length q2)]∧Vb w' (Fr 0 w' O') (.slice A8 x0.vars.length c9) x0.vars∧Vb w' (Fr 0 w' O') (.slice r2 x0.init.length s2) x0.init∧Vb w' (Fr 0 w' O') (.slice t2 x0.goal.length u2) x0.goal∧Vb w' (Fr 0 w' O') (.slice p2 x0.jobs.length q2) x0.jobs∧Lc 3 w' O' l2 74 [(.int .i64 0),(.slice none 0 0),(.slice none 0 0),(.int .i64 0),(.slice none 0 0)]∧Lc 5 w' O' j0 74 [(.int .i64 (x0.vars.length:Int)),(.slice none 0 0),(.slice none 0 0),(.int .i64 0),(.slice f1.1 r1.length f1.2)]∧Rw 4 w' O' 3 (.slice f1.1 r1.length f1.2) r1)) ?_ ?_
 ·
  refine AK ?_
  replace hB:=(((hB.st m3).st b3).st e1).st z0
  replace h7:=(h7.st e1).st z0
  replace c1:=(((c1.st m3).st b3).st e1).st z0
  replace d1:=(((d1.st m3).st b3).st e1).st z0
  replace v0:=(v0.st e1).st z0
  replace v2:=v2.st z0
  refine AY (σ:=(List Int)) (X:=(Option Addr×Nat)) (x0.jobs.length) p4 rfl q3 (fun (r1:(List Int)) (f1:(Option Addr×Nat))=>[(1,(.pointer (some ⟨k2,0,none⟩))),(2,(.pointer (some ⟨l2,0,none⟩))),(3,(.pointer (some ⟨j0,0,none⟩))),(17,(.slice p2 x0.jobs.length q2))]) _ (fun r1 f1 w'=>∃ O':Lab,Bs w A w' O'∧Lc 2 w' O' k2 26 [(.slice A8 x0.vars.length c9),(.slice r2 x0.init.length s2),(.slice t2 x0.goal.length u2),(.slice p2 x0.jobs.length q2)]∧Vb w' (Fr 0 w' O') (.slice A8 x0.vars.length c9) x0.vars∧Vb w' (Fr 0 w' O') (.slice r2 x0.init.length s2) x0.init∧Vb w' (Fr 0 w' O') (.slice t2 x0.goal.length u2) x0.goal∧Vb w' (Fr 0 w' O') (.slice p2 x0.jobs.length q2) x0.jobs∧Lc 3 w' O' l2 74 [(.int .i64 0),(.slice none 0 0),(.slice none 0 0),(.int .i64 0),(.slice none 0 0)]∧Lc 5 w' O' j0 74 [(.int .i64 (x0.vars.length:Int)),(.slice none 0 0),(.slice none 0 0),(.int .i64 0),(.slice f1.1 r1.length f1.2)]∧Rw 4 w' O' 3 (.slice f1.1 r1.length f1.2) r1) _ (d3,e3) ⟨c3,hB,q0,h7,c1,d1,u0,v0,a0,v2⟩ ⟨rfl,rfl,rfl,rfl,rfl,rfl,trivial⟩ (fun _ _=>⟨rfl,rfl⟩) (fun _ _=>⟨rfl,rfl,rfl,trivial⟩) (fun _ _ _ ⟨O',hB,q0,h7,c1,d1,u0,v0,a0,g2⟩=>⟨O',hB,q0,h7,c1,d1,u0,v0,a0,g2⟩) ⟨rfl,rfl,rfl⟩ ⟨rfl,rfl⟩ ?_
  rintro b7 h2 r1 f1 nB kA o3 ⟨c7,hB,q0,h7,c1,d1,u0,v0,a0,g2⟩ d2 m6 n6
  have rk142:inI64 (b7:Int):=rngK o3 q3
  refine Ab (Aa ?_)
  obtain ⟨oB,pB,lA,q4,r4,s4,qB,rB,sB,tB,uB,rfl,d7,e7,f7,g7,i7,vB,wB⟩:=u0.elem' o3
  obtain ⟨j7,k7,rfl⟩:=d7.form
  obtain ⟨l7,m7,rfl⟩:=e7.form
  obtain ⟨n7,o7,rfl⟩:=f7.form
  obtain ⟨p7,q7,rfl⟩:=g7.form
  obtain ⟨r7,s7,rfl⟩:=i7.form
  refine Bi (hA:=q4) (hj:=rfl) (hlt:=r4) rfl rfl ?_
  refine Bd (hl:=rfl) (hc:=s4) rfl ?_
  refine AU 6 c7 fun t7 xB t4 y1 w2=>?_
  refine Az w2 rfl rfl rfl (AJ) (allOne) fun u7 z1 w2=>?_
  replace w2:Lc 6 u7 t4 t7 66 [(.string h2.name),(.int .i64 h2.dur),(.slice j7 h2.start.length k7),(.slice l7 h2.over.length m7),(.slice n7 h2.fin.length o7),(.slice p7 h2.atStart.length q7),(.slice r7 h2.atEnd.length s7)]:=w2
  refine o_z ?_
  refine Aa (Ax rfl ?_)
  replace a0:=(a0.st y1).st z1
  refine At (hc:=Blk.cell (i:=4) (a0.1) rfl) rfl ?_
  refine Ax rfl (At (hc:=Blk.cell (i:=1) (w2.1) rfl) rfl ?_)
  obtain ⟨v7,u4,d2⟩:=bs d2
  have w7:=(Bq u4)
  refine Dn (he:=u4) rfl rfl ?_
  refine AQ 7 t4 (xs:=(([v7,2]:List Int):List Int)) rfl rfl rfl ⟨(vInt w7),(vInt (iI64 2)),trivial⟩ fun yB zB aC a2 x7=>?_
  obtain ⟨y7,s3,d2⟩:=bs d2
  obtain ⟨s3,z7,a8⟩:=AI s3
  replace g2:=((g2.st y1).st z1).st a2
  refine AZ rfl g2 (x7.rd) rfl rfl z7 a8 fun w4 x4 bC b8 e2 y4=>?_
  rw [← s3] at y4 ⊢
  refine Ax rfl ?_
  replace a0:=(a0.st a2).st e2
  refine Az a0 rfl rfl rfl (AJ) (allOne) fun c8 f2 a0=>?_
  replace a0:Lc 5 c8 b8 j0 74 [(.int .i64 (x0.vars.length:Int)),(.slice none 0 0),(.slice none 0 0),(.int .i64 0),(.slice w4 y7.length x4)]:=a0
  refine o_z ?_
  obtain rfl:=sm d2
  exact show Exists _ from ⟨_,(w4,x4),rfl,⟨rfl,rfl,rfl,rfl,rfl,rfl,trivial⟩,_,((((hB.st y1).st z1).st a2).st e2).st f2,((((q0.st y1).st z1).st a2).st e2).st f2,((((h7.st y1).st z1).st a2).st e2).st f2,((((c1.st y1).st z1).st a2).st e2).st f2,((((d1.st y1).st z1).st a2).st e2).st f2,((((u0.st y1).st z1).st a2).st e2).st f2,((((v0.st y1).st z1).st a2).st e2).st f2,a0,y4.st f2⟩
 replace hB:=(((hB.st m3).st b3).st e1).st z0
 replace h7:=(h7.st e1).st z0
 replace c1:=(((c1.st m3).st b3).st e1).st z0
 replace d1:=(((d1.st m3).st b3).st e1).st z0
 replace v0:=(v0.st e1).st z0
 rintro cC dC ⟨eC,z4,rfl,a5,d8,hB,q0,h7,c1,d1,u0,v0,a0,g2⟩
 replace hm:=AR hm
 refine AH _ a5 ?_
 refine Ab (Ab (Aa (Ax rfl (At (hc:=Blk.cell (i:=0) (q0.1) rfl) rfl ?_))))
 refine AS rfl ?_
 have t3:x0.vars.length≤9223372036854775807:=Nat.le_trans h7.len.2.1 h7.len.2.2
 have fC:inI64 (x0.vars.length:Int):=rngNat t3
 refine Ak rfl (o_z ?_)
 obtain ⟨u3,b5,hm⟩:=bs hm
 refine Ay (aft u3 (fun (c0:(List Int)×(List Int)×(List Int)) (b0:(Option Addr×Nat)×(Option Addr×Nat)×(Option Addr×Nat))=>[(1,(.pointer (some ⟨k2,0,none⟩))),(2,(.pointer (some ⟨l2,0,none⟩))),(3,(.pointer (some ⟨j0,0,none⟩)))]) (fun c0 b0 w'=>∃ O':Lab,Bs w A w' O'∧Lc 2 w' O' k2 26 [(.slice A8 x0.vars.length c9),(.slice r2 x0.init.length s2),(.slice t2 x0.goal.length u2),(.slice p2 x0.jobs.length q2)]∧Vb w' (Fr 0 w' O') (.slice A8 x0.vars.length c9) x0.vars∧Vb w' (Fr 0 w' O') (.slice r2 x0.init.length s2) x0.init∧Vb w' (Fr 0 w' O') (.slice t2 x0.goal.length u2) x0.goal∧Vb w' (Fr 0 w' O') (.slice p2 x0.jobs.length q2) x0.jobs∧Lc 3 w' O' l2 74 [(.int .i64 0),(.slice none 0 0),(.slice none 0 0),(.int .i64 0),(.slice none 0 0)]∧Lc 5 w' O' j0 74 [(.int .i64 (x0.vars.length:Int)),(.slice b0.1.1 c0.1.length b0.1.2),(.slice b0.2.1.1 c0.2.1.length b0.2.1.2),(.int .i64 0),(.slice b0.2.2.1 c0.2.2.length b0.2.2.2)]∧Rw 10 w' O' 3 (.slice b0.1.1 c0.1.length b0.1.2) c0.1∧Rw 12 w' O' 3 (.slice b0.2.1.1 c0.2.1.length b0.2.1.2) c0.2.1∧Rw 4 w' O' 3 (.slice b0.2.2.1 c0.2.2.length b0.2.2.2) c0.2.2)) ?_ ?_
 ·
  refine AK (AY (σ:=(List Int)×(List Int)×(List Int)) (X:=(Option Addr×Nat)×(Option Addr×Nat)×(Option Addr×Nat)) (x0.vars.length) b5 rfl t3 (fun (c0:(List Int)×(List Int)×(List Int)) (b0:(Option Addr×Nat)×(Option Addr×Nat)×(Option Addr×Nat))=>[(1,(.pointer (some ⟨k2,0,none⟩))),(2,(.pointer (some ⟨l2,0,none⟩))),(3,(.pointer (some ⟨j0,0,none⟩)))]) _ (fun c0 b0 w'=>∃ O':Lab,Bs w A w' O'∧Lc 2 w' O' k2 26 [(.slice A8 x0.vars.length c9),(.slice r2 x0.init.length s2),(.slice t2 x0.goal.length u2),(.slice p2 x0.jobs.length q2)]∧Vb w' (Fr 0 w' O') (.slice A8 x0.vars.length c9) x0.vars∧Vb w' (Fr 0 w' O') (.slice r2 x0.init.length s2) x0.init∧Vb w' (Fr 0 w' O') (.slice t2 x0.goal.length u2) x0.goal∧Vb w' (Fr 0 w' O') (.slice p2 x0.jobs.length q2) x0.jobs∧Lc 3 w' O' l2 74 [(.int .i64 0),(.slice none 0 0),(.slice none 0 0),(.int .i64 0),(.slice none 0 0)]∧Lc 5 w' O' j0 74 [(.int .i64 (x0.vars.length:Int)),(.slice b0.1.1 c0.1.length b0.1.2),(.slice b0.2.1.1 c0.2.1.length b0.2.1.2),(.int .i64 0),(.slice b0.2.2.1 c0.2.2.length b0.2.2.2)]∧Rw 10 w' O' 3 (.slice b0.1.1 c0.1.length b0.1.2) c0.1∧Rw 12 w' O' 3 (.slice b0.2.1.1 c0.2.1.length b0.2.1.2) c0.2.1∧Rw 4 w' O' 3 (.slice b0.2.2.1 c0.2.2.length b0.2.2.2) c0.2.2) _ ((none,0),(none,0),(z4.1,z4.2)) ⟨d8,hB,q0,h7,c1,d1,u0,v0,a0,(Rw.nil 10 (by decide)),(Rw.nil 12 (by decide)),g2⟩ ⟨rfl,rfl,rfl,rfl,rfl,trivial⟩ (fun _ _=>⟨rfl,rfl⟩) (fun _ _=>⟨rfl,rfl,rfl,trivial⟩) (fun _ _ _ ⟨O',hB,q0,h7,c1,d1,u0,v0,a0,h0,i0,w0⟩=>⟨O',hB,q0,h7,c1,d1,u0,v0,a0,h0,i0,w0⟩) ⟨rfl,rfl,rfl⟩ ⟨rfl,rfl⟩ ?_)
  rintro x2 gC c0 b0 hC mA c5 ⟨e8,hB,q0,h7,c1,d1,u0,v0,a0,h0,i0,w0⟩ y0 o6 p6
  have rk227:inI64 (x2:Int):=rngK c5 t3
  refine Ab (Aa (Ak rfl (AU 8 e8 fun f8 iC w3 d0 s1=>?_)))
  refine Az s1 rfl rfl rfl (AJ) (allOne) fun d5 e0 s1=>?_
  replace s1:Lc 8 d5 w3 f8 3 [(.int .i64 (x2:Int))]:=s1
  refine o_z ?_
  refine Ab (Aa (Am rfl (Am rfl (o_z ?_))))
  refine Ab ?_
  obtain ⟨s0,g0,y0⟩:=bs y0
  refine Ay (fun l' w'=>∃ (k0:(Option Addr×Nat)) (O':Lab),subs l' [(1,(.pointer (some ⟨k2,0,none⟩))),(2,(.pointer (some ⟨l2,0,none⟩))),(3,(.pointer (some ⟨j0,0,none⟩))),(7,(.int .i64 s0.1)),(8,(.int .i64 s0.2.1)),(34,(.int .i64 (x0.vars.length:Int))),(35,(.int .i64 (x2:Int)))]∧Bs w A w' O'∧Lc 2 w' O' k2 26 [(.slice A8 x0.vars.length c9),(.slice r2 x0.init.length s2),(.slice t2 x0.goal.length u2),(.slice p2 x0.jobs.length q2)]∧Vb w' (Fr 0 w' O') (.slice A8 x0.vars.length c9) x0.vars∧Vb w' (Fr 0 w' O') (.slice r2 x0.init.length s2) x0.init∧Vb w' (Fr 0 w' O') (.slice t2 x0.goal.length u2) x0.goal∧Vb w' (Fr 0 w' O') (.slice p2 x0.jobs.length q2) x0.jobs∧Lc 3 w' O' l2 74 [(.int .i64 0),(.slice none 0 0),(.slice none 0 0),(.int .i64 0),(.slice none 0 0)]∧Lc 5 w' O' j0 74 [(.int .i64 (x0.vars.length:Int)),(.slice b0.1.1 c0.1.length b0.1.2),(.slice b0.2.1.1 c0.2.1.length b0.2.1.2),(.int .i64 0),(.slice k0.1 s0.2.2.length k0.2)]∧Rw 10 w' O' 3 (.slice b0.1.1 c0.1.length b0.1.2) c0.1∧Rw 12 w' O' 3 (.slice b0.2.1.1 c0.2.1.length b0.2.1.2) c0.2.1∧Rw 4 w' O' 3 (.slice k0.1 s0.2.2.length k0.2) s0.2.2∧inI64 s0.1∧inI64 s0.2.1) ?_ ?_
  ·
   refine Ab (Aa (Ax rfl ?_))
   replace q0:=(q0.st d0).st e0
   refine At (hc:=Blk.cell (i:=3) (q0.1) rfl) rfl ?_
   refine Nq rfl rfl rfl ?_
   obtain ⟨g8,h8,g0⟩:=bs g0
   replace u0:=(u0.st d0).st e0
   refine AM (O:=w3) (DP (fun _ h=>h) (vMo u0) s1.1 s1.1.lt (Rp.mono (F:=Fr 0 d5 w3) (x:=(x2:Int)) (Vb.cells1 (vInt rk227)) Fr.lt) h8) rfl fun jC kC lC f0 i8=>?_
   obtain rfl:=i8.bool
   cases g8
   case false =>
    replace g0:=iF g0
    refine o_z ?_
    refine Ae rfl (AO ?_)
    obtain rfl:=sm g0
    exact ⟨(b0.2.2.1,b0.2.2.2),_,⟨rfl,rfl,rfl,rfl,rfl,rfl,rfl,trivial⟩,((hB.st d0).st e0).st f0,q0.st f0,((h7.st d0).st e0).st f0,((c1.st d0).st e0).st f0,((d1.st d0).st e0).st f0,u0.st f0,((v0.st d0).st e0).st f0,((a0.st d0).st e0).st f0,((h0.st d0).st e0).st f0,((i0.st d0).st e0).st f0,((w0.st d0).st e0).st f0,(iI64 (-1)),(iI64 (-1))⟩
   replace g0:=iT g0
   refine o_z ?_
   refine Ah rfl (Ab (Aa (Ax rfl ?_)))
   replace a0:=((a0.st d0).st e0).st f0
   refine At (hc:=Blk.cell (i:=4) (a0.1) rfl) rfl ?_
   refine AS rfl ?_
   replace w0:=((w0.st d0).st e0).st f0
   have j8:c0.2.2.length≤9223372036854775807:=Nat.le_trans w0.len.2.1 w0.len.2.2
   have e5:inI64 (c0.2.2.length:Int):=rngNat j8
   refine Am rfl (o_z ?_)
   refine Ab (Aa (Ax rfl (At (hc:=Blk.cell (i:=4) (a0.1) rfl) rfl ?_)))
   obtain ⟨x3,y3,g0⟩:=bs g0
   obtain ⟨y3,k8,l8⟩:=AI y3
   refine BC rfl (a:=2) w0 (vInt (iI64 2)) (fun _=>rfl) rfl k8 l8 ⟨rfl,rfl⟩ fun mC f5 g5 nC z3 t0 i2=>?_
   rw [← y3] at i2 ⊢
   refine Ax rfl ?_
   replace a0:=a0.st t0
   refine Az a0 rfl rfl rfl (AJ) (allOne) fun h5 r0 a0=>?_
   replace a0:Lc 5 h5 z3 j0 74 [(.int .i64 (x0.vars.length:Int)),(.slice b0.1.1 c0.1.length b0.1.2),(.slice b0.2.1.1 c0.2.1.length b0.2.1.2),(.int .i64 0),(.slice f5 x3.length g5)]:=a0
   refine o_z ?_
   refine Ab (Aa (Ax rfl ?_))
   replace q0:=((q0.st f0).st t0).st r0
   refine At (hc:=Blk.cell (i:=3) (q0.1) rfl) rfl ?_
   refine Nq rfl rfl rfl ?_
   obtain ⟨m8,n8,g0⟩:=bs g0
   replace u0:=((u0.st f0).st t0).st r0
   replace s1:=((s1.st f0).st t0).st r0
   refine AM (O:=z3) (DQ (fun _ h=>h) (vMo u0) s1.1 s1.1.lt (Rp.mono (F:=Fr 0 h5 z3) (x:=(x2:Int)) (Vb.cells1 (vInt rk227)) Fr.lt) n8) rfl fun oC pC qC n0 o8=>?_
   obtain rfl:=o8.bool
   cases m8
   case false =>
    replace g0:=iF g0
    refine o_z ?_
    refine Ae rfl (AO ?_)
    obtain rfl:=sm g0
    exact ⟨(f5,g5),_,⟨rfl,rfl,rfl,rfl,rfl,rfl,rfl,trivial⟩,(((((hB.st d0).st e0).st f0).st t0).st r0).st n0,q0.st n0,(((((h7.st d0).st e0).st f0).st t0).st r0).st n0,(((((c1.st d0).st e0).st f0).st t0).st r0).st n0,(((((d1.st d0).st e0).st f0).st t0).st r0).st n0,u0.st n0,(((((v0.st d0).st e0).st f0).st t0).st r0).st n0,a0.st n0,(((((h0.st d0).st e0).st f0).st t0).st r0).st n0,(((((i0.st d0).st e0).st f0).st t0).st r0).st n0,(i2.st r0).st n0,e5,(iI64 (-1))⟩
   replace g0:=iT g0
   refine o_z ?_
   refine Ah rfl (Ab (Aa (Ax rfl ?_)))
   replace a0:=a0.st n0
   refine At (hc:=Blk.cell (i:=4) (a0.1) rfl) rfl ?_
   refine AS rfl ?_
   replace i2:=(i2.st r0).st n0
   have p8:x3.length≤9223372036854775807:=Nat.le_trans i2.len.2.1 i2.len.2.2
   have q8:inI64 (x3.length:Int):=rngNat p8
   refine Am rfl (o_z ?_)
   refine Aa (Ax rfl (At (hc:=Blk.cell (i:=4) (a0.1) rfl) rfl ?_))
   obtain ⟨r8,a4,g0⟩:=bs g0
   obtain ⟨a4,s8,t8⟩:=AI a4
   refine BC rfl (a:=2) i2 (vInt (iI64 2)) (fun _=>rfl) rfl s8 t8 ⟨rfl,rfl⟩ fun rC i5 j5 sC u8 t1 k5=>?_
   rw [← a4] at k5 ⊢
   refine Ax rfl ?_
   replace a0:=a0.st t1
   refine Az a0 rfl rfl rfl (AJ) (allOne) fun v8 u1 a0=>?_
   replace a0:Lc 5 v8 u8 j0 74 [(.int .i64 (x0.vars.length:Int)),(.slice b0.1.1 c0.1.length b0.1.2),(.slice b0.2.1.1 c0.2.1.length b0.2.1.2),(.int .i64 0),(.slice i5 r8.length j5)]:=a0
   refine o_z ?_
   obtain rfl:=sm g0
   exact ⟨(i5,j5),_,⟨rfl,rfl,rfl,rfl,rfl,rfl,rfl,trivial⟩,(((((((hB.st d0).st e0).st f0).st t0).st r0).st n0).st t1).st u1,((q0.st n0).st t1).st u1,(((((((h7.st d0).st e0).st f0).st t0).st r0).st n0).st t1).st u1,(((((((c1.st d0).st e0).st f0).st t0).st r0).st n0).st t1).st u1,(((((((d1.st d0).st e0).st f0).st t0).st r0).st n0).st t1).st u1,((u0.st n0).st t1).st u1,(((((((v0.st d0).st e0).st f0).st t0).st r0).st n0).st t1).st u1,a0,(((((((h0.st d0).st e0).st f0).st t0).st r0).st n0).st t1).st u1,(((((((i0.st d0).st e0).st f0).st t0).st r0).st n0).st t1).st u1,k5.st u1,e5,q8⟩
  replace hB:=(hB.st d0).st e0
  replace h7:=(h7.st d0).st e0
  replace c1:=(c1.st d0).st e0
  replace d1:=(d1.st d0).st e0
  replace u0:=(u0.st d0).st e0
  replace q0:=(q0.st d0).st e0
  replace v0:=(v0.st d0).st e0
  replace a0:=(a0.st d0).st e0
  replace h0:=(h0.st d0).st e0
  replace i0:=(i0.st d0).st e0
  rintro tC uC ⟨k0,b4,l5,hB,q0,h7,c1,d1,u0,v0,a0,h0,i0,c4,m5,d4⟩
  refine AH _ l5 ?_
  obtain ⟨n2,b2,y0⟩:=bs y0
  obtain ⟨e4,c2,y0⟩:=bs y0
  refine Br [(4,[10]),(9,[12]),(11,[5])] b4 ?_
  refine AP (fuel:=11) [] [(0,true),(1,true),(2,true)] rfl ?_
  refine AT rfl rfl (AV (hc:=bCell a0 1 rfl) rfl rfl ?_)
  refine AX rfl rfl (AC ?_)
  refine AP (fuel:=8) [10] [(5,true),(6,true),(7,true)] rfl ?_
  refine AT rfl rfl (AV (hc:=bCell a0 2 rfl) rfl rfl ?_)
  refine AX rfl rfl (AC ?_)
  refine EJ (i:=3) (j:=8) rfl rfl ?_ ?_
  ·
   refine AQ 9 b4 (xs:=(([s0.1]:List Int):List Int)) rfl rfl rfl ⟨(vInt m5),trivial⟩ fun vC wC w8 m0 f3=>?_
   have hZ:=lZ m0
   refine AN [(4,[10]),(9,[12]),(11,[5])] hZ ?_
   refine EJ (i:=4) (j:=8) rfl rfl ?_ ?_
   ·
    obtain ⟨b2,x8,y8⟩:=AI b2
    replace h0:=h0.st m0
    refine AZ rfl h0 (f3.rd) rfl rfl x8 y8 fun f4 g4 xC z8 k1 n5=>?_
    rw [← b2] at n5 ⊢
    have hZ:=k1.lst [10] (fun _ h=>by cases h;decide)
    refine AN [(9,[12]),(11,[5])] hZ ?_
    refine AP (fuel:=5) [12] [(10,true)] rfl ?_
    refine AT rfl rfl (AC ?_)
    refine AD (i:=8) rfl ?_
    refine AQ 11 z8 (xs:=(([s0.2.1]:List Int):List Int)) rfl rfl rfl ⟨(vInt d4),trivial⟩ fun yC zC aD g1 a9=>?_
    have hZ:=lZ g1
    refine AN [(9,[12]),(11,[5])] hZ ?_
    refine AD (i:=9) rfl ?_
    obtain ⟨c2,b9,d9⟩:=AI c2
    replace i0:=((i0.st m0).st k1).st g1
    refine AZ rfl i0 (a9.rd) rfl rfl b9 d9 fun o5 p5 bD q5 l1 r5=>?_
    rw [← c2] at r5 ⊢
    have hZ:=l1.lst [12] (fun _ h=>by cases h;decide)
    refine AN [(11,[5])] hZ ?_
    refine AD (i:=11) rfl ?_
    replace a0:=(((a0.st m0).st k1).st g1).st l1
    refine Az a0 rfl rfl rfl (AJ) (allOne) fun e9 m1 a0=>?_
    replace a0:Lc 5 e9 q5 j0 74 [(.int .i64 (x0.vars.length:Int)),(.slice f4 n2.length g4),(.slice b0.2.1.1 c0.2.1.length b0.2.1.2),(.int .i64 0),(.slice k0.1 s0.2.2.length k0.2)]:=a0
    have hZ:=m1.lst [5] (fun _ h=>by cases h;decide)
    refine AN [] hZ ?_
    refine AP (fuel:=1) [] [(12,true)] rfl ?_
    refine AT rfl rfl (AC ?_)
    refine AD (i:=13) rfl ?_
    refine Az a0 rfl rfl rfl (AJ) (allOne) fun f9 v1 a0=>?_
    replace a0:Lc 5 f9 q5 j0 74 [(.int .i64 (x0.vars.length:Int)),(.slice f4 n2.length g4),(.slice o5 e4.length p5),(.int .i64 0),(.slice k0.1 s0.2.2.length k0.2)]:=a0
    refine BF ?_
    refine Bv ?_
    obtain rfl:=sm y0
    exact show Exists _ from ⟨_,((f4,g4),(o5,p5),(k0.1,k0.2)),rfl,⟨rfl,rfl,rfl,rfl,rfl,trivial⟩,_,(((((hB.st m0).st k1).st g1).st l1).st m1).st v1,(((((q0.st m0).st k1).st g1).st l1).st m1).st v1,(((((h7.st m0).st k1).st g1).st l1).st m1).st v1,(((((c1.st m0).st k1).st g1).st l1).st m1).st v1,(((((d1.st m0).st k1).st g1).st l1).st m1).st v1,(((((u0.st m0).st k1).st g1).st l1).st m1).st v1,(((((v0.st m0).st k1).st g1).st l1).st m1).st v1,a0,(((n5.st g1).st l1).st m1).st v1,(r5.st m1).st v1,(((((c4.st m0).st k1).st g1).st l1).st m1).st v1⟩
   refine AQ 11 w8 (xs:=(([s0.2.1]:List Int):List Int)) rfl rfl rfl ⟨(vInt d4),trivial⟩ fun cD dD eD a1 h4=>?_
   have hZ:=lZ a1
   refine AN [(4,[10]),(9,[12]),(11,[5])] hZ ?_
   refine AD (i:=4) rfl ?_
   obtain ⟨b2,g9,h9⟩:=AI b2
   replace h0:=(h0.st m0).st a1
   replace f3:=f3.st a1
   refine AZ rfl h0 (f3.rd) rfl rfl g9 h9 fun i4 j4 fD gD h1 s5=>?_
   rw [← b2] at s5 ⊢
   have hZ:=h1.lst [10] (fun _ h=>by cases h;decide)
   refine AN [(9,[12]),(11,[5])] hZ ?_
   refine AP (fuel:=4) [12] [(10,true)] rfl ?_
   refine AT rfl rfl (AC ?_)
   refine AD (i:=9) rfl ?_
   obtain ⟨c2,i9,j9⟩:=AI c2
   replace i0:=((i0.st m0).st a1).st h1
   replace h4:=h4.st h1
   refine AZ rfl i0 (h4.rd) rfl rfl i9 j9 fun t5 u5 hD w5 n1 x5=>?_
   rw [← c2] at x5 ⊢
   have hZ:=n1.lst [12] (fun _ h=>by cases h;decide)
   refine AN [(11,[5])] hZ ?_
   refine AD (i:=11) rfl ?_
   replace a0:=(((a0.st m0).st a1).st h1).st n1
   refine Az a0 rfl rfl rfl (AJ) (allOne) fun k9 o1 a0=>?_
   replace a0:Lc 5 k9 w5 j0 74 [(.int .i64 (x0.vars.length:Int)),(.slice i4 n2.length j4),(.slice b0.2.1.1 c0.2.1.length b0.2.1.2),(.int .i64 0),(.slice k0.1 s0.2.2.length k0.2)]:=a0
   have hZ:=o1.lst [5] (fun _ h=>by cases h;decide)
   refine AN [] hZ ?_
   refine AP (fuel:=1) [] [(12,true)] rfl ?_
   refine AT rfl rfl (AC ?_)
   refine AD (i:=13) rfl ?_
   refine Az a0 rfl rfl rfl (AJ) (allOne) fun l9 w1 a0=>?_
   replace a0:Lc 5 l9 w5 j0 74 [(.int .i64 (x0.vars.length:Int)),(.slice i4 n2.length j4),(.slice t5 e4.length u5),(.int .i64 0),(.slice k0.1 s0.2.2.length k0.2)]:=a0
   refine BF ?_
   refine Bv ?_
   obtain rfl:=sm y0
   exact show Exists _ from ⟨_,((i4,j4),(t5,u5),(k0.1,k0.2)),rfl,⟨rfl,rfl,rfl,rfl,rfl,trivial⟩,_,(((((hB.st m0).st a1).st h1).st n1).st o1).st w1,(((((q0.st m0).st a1).st h1).st n1).st o1).st w1,(((((h7.st m0).st a1).st h1).st n1).st o1).st w1,(((((c1.st m0).st a1).st h1).st n1).st o1).st w1,(((((d1.st m0).st a1).st h1).st n1).st o1).st w1,(((((u0.st m0).st a1).st h1).st n1).st o1).st w1,(((((v0.st m0).st a1).st h1).st n1).st o1).st w1,a0,((s5.st n1).st o1).st w1,(x5.st o1).st w1,(((((c4.st m0).st a1).st h1).st n1).st o1).st w1⟩
  refine AQ 11 b4 (xs:=(([s0.2.1]:List Int):List Int)) rfl rfl rfl ⟨(vInt d4),trivial⟩ fun iD jD m9 i1 k4=>?_
  have hZ:=lZ i1
  refine AN [(4,[10]),(9,[12]),(11,[5])] hZ ?_
  refine AD (i:=3) rfl ?_
  refine AQ 9 m9 (xs:=(([s0.1]:List Int):List Int)) rfl rfl rfl ⟨(vInt m5),trivial⟩ fun kD lD mD b1 n9=>?_
  have hZ:=lZ b1
  refine AN [(4,[10]),(9,[12]),(11,[5])] hZ ?_
  refine AD (i:=4) rfl ?_
  obtain ⟨b2,o9,p9⟩:=AI b2
  replace h0:=(h0.st i1).st b1
  refine AZ rfl h0 (n9.rd) rfl rfl o9 p9 fun l4 m4 nD oD j1 y5=>?_
  rw [← b2] at y5 ⊢
  have hZ:=j1.lst [10] (fun _ h=>by cases h;decide)
  refine AN [(9,[12]),(11,[5])] hZ ?_
  refine AP (fuel:=4) [12] [(10,true)] rfl ?_
  refine AT rfl rfl (AC ?_)
  refine AD (i:=9) rfl ?_
  obtain ⟨c2,q9,r9⟩:=AI c2
  replace i0:=((i0.st i1).st b1).st j1
  replace k4:=(k4.st b1).st j1
  refine AZ rfl i0 (k4.rd) rfl rfl q9 r9 fun z5 a6 pD b6 p1 c6=>?_
  rw [← c2] at c6 ⊢
  have hZ:=p1.lst [12] (fun _ h=>by cases h;decide)
  refine AN [(11,[5])] hZ ?_
  refine AD (i:=11) rfl ?_
  replace a0:=(((a0.st i1).st b1).st j1).st p1
  refine Az a0 rfl rfl rfl (AJ) (allOne) fun s9 q1 a0=>?_
  replace a0:Lc 5 s9 b6 j0 74 [(.int .i64 (x0.vars.length:Int)),(.slice l4 n2.length m4),(.slice b0.2.1.1 c0.2.1.length b0.2.1.2),(.int .i64 0),(.slice k0.1 s0.2.2.length k0.2)]:=a0
  have hZ:=q1.lst [5] (fun _ h=>by cases h;decide)
  refine AN [] hZ ?_
  refine AP (fuel:=1) [] [(12,true)] rfl ?_
  refine AT rfl rfl (AC ?_)
  refine AD (i:=13) rfl ?_
  refine Az a0 rfl rfl rfl (AJ) (allOne) fun t9 x1 a0=>?_
  replace a0:Lc 5 t9 b6 j0 74 [(.int .i64 (x0.vars.length:Int)),(.slice l4 n2.length m4),(.slice z5 e4.length a6),(.int .i64 0),(.slice k0.1 s0.2.2.length k0.2)]:=a0
  refine BF ?_
  refine Bv ?_
  obtain rfl:=sm y0
  exact show Exists _ from ⟨_,((l4,m4),(z5,a6),(k0.1,k0.2)),rfl,⟨rfl,rfl,rfl,rfl,rfl,trivial⟩,_,(((((hB.st i1).st b1).st j1).st p1).st q1).st x1,(((((q0.st i1).st b1).st j1).st p1).st q1).st x1,(((((h7.st i1).st b1).st j1).st p1).st q1).st x1,(((((c1.st i1).st b1).st j1).st p1).st q1).st x1,(((((d1.st i1).st b1).st j1).st p1).st q1).st x1,(((((u0.st i1).st b1).st j1).st p1).st q1).st x1,(((((v0.st i1).st b1).st j1).st p1).st q1).st x1,a0,((y5.st p1).st q1).st x1,(c6.st q1).st x1,(((((c4.st i1).st b1).st j1).st p1).st q1).st x1⟩
 rintro qD rD ⟨p0,o0,rfl,d6,u9,hB,q0,h7,c1,d1,u0,v0,a0,h0,i0,w0⟩
 replace hm:=AR hm
 refine AH _ d6 ?_
 refine Ab (Aa (Ax rfl (At (hc:=Blk.cell (i:=4) (a0.1) rfl) rfl ?_)))
 refine AS rfl ?_
 have v9:p0.2.2.length≤9223372036854775807:=Nat.le_trans w0.len.2.1 w0.len.2.2
 have w9:inI64 (p0.2.2.length:Int):=rngNat v9
 refine Ax rfl (Az a0 rfl rfl rfl (AJ) (allOne) fun x9 j2 a0=>?_)
 replace a0:Lc 5 x9 u9 j0 74 [(.int .i64 (x0.vars.length:Int)),(.slice o0.1.1 p0.1.length o0.1.2),(.slice o0.2.1.1 p0.2.1.length o0.2.1.2),(.int .i64 (p0.2.2.length:Int)),(.slice o0.2.2.1 p0.2.2.length o0.2.2.2)]:=a0
 refine o_z ?_
 refine Ab (Aa (Ax rfl (At (hc:=Blk.cell (i:=4) (a0.1) rfl) rfl ?_)))
 refine Ax rfl ?_
 replace q0:=q0.st j2
 refine At (hc:=Blk.cell (i:=3) (q0.1) rfl) rfl ?_
 refine AS rfl ?_
 replace u0:=u0.st j2
 have y9:x0.jobs.length≤9223372036854775807:=Nat.le_trans u0.len.2.1 u0.len.2.2
 have sD:inI64 (x0.jobs.length:Int):=rngNat y9
 obtain ⟨z9,e6,hm⟩:=bs hm
 have aA:=(Bq e6)
 refine Dn (he:=e6) rfl rfl ?_
 obtain ⟨y2,n4,hm⟩:=bs hm
 obtain ⟨n4,bA,cA⟩:=AI n4
 replace w0:=w0.st j2
 refine BC rfl (a:=z9) w0 (vInt aA) (fun _=>rfl) rfl bA cA ⟨rfl,rfl⟩ fun tD g3 h3 uD f6 z2 o2=>?_
 rw [← n4] at o2 ⊢
 refine Ax rfl ?_
 replace a0:=a0.st z2
 refine Az a0 rfl rfl rfl (AJ) (allOne) fun dA a3 a0=>?_
 replace a0:Lc 5 dA f6 j0 74 [(.int .i64 (x0.vars.length:Int)),(.slice o0.1.1 p0.1.length o0.1.2),(.slice o0.2.1.1 p0.2.1.length o0.2.1.2),(.int .i64 (p0.2.2.length:Int)),(.slice g3 y2.length h3)]:=a0
 refine o_z ?_
 refine Ab (Aa (Bd (hl:=rfl) (hc:=(a0.1).cellsAt) rfl ?_))
 replace v0:=((v0.st j2).st z2).st a3
 refine Az v0 rfl rfl rfl (AJ) (allOne) fun g6 i3 v0=>?_
 replace v0:Lc 3 g6 f6 l2 74 [(.int .i64 (x0.vars.length:Int)),(.slice o0.1.1 p0.1.length o0.1.2),(.slice o0.2.1.1 p0.2.1.length o0.2.1.2),(.int .i64 (p0.2.2.length:Int)),(.slice g3 y2.length h3)]:=v0
 refine o_z ?_
 refine AF ?_
 replace h0:=(((h0.st j2).st z2).st a3).st i3
 obtain ⟨vD,j3,h0⟩:=h0.freeze
 replace i0:=((((i0.st j2).st z2).st a3).st i3).st j3
 obtain ⟨wD,k3,i0⟩:=i0.freeze
 replace o2:=(((o2.st a3).st i3).st j3).st k3
 obtain ⟨eA,l3,o2⟩:=o2.freeze
 obtain rfl:=sm hm
 replace hB:=((((((hB.st j2).st z2).st a3).st i3).st j3).st k3).st l3
 replace v0:=((v0.st j3).st k3).st l3
 replace h0:=(h0.st k3).st l3
 replace i0:=i0.st l3
 exact ret1v rfl (Er (cs:=[(.int .i64 (x0.vars.length:Int)),(.slice o0.1.1 p0.1.length o0.1.2),(.slice o0.2.1.1 p0.2.1.length o0.2.1.2),(.int .i64 (p0.2.2.length:Int)),(.slice g3 y2.length h3)]) rfl rfl v0.1.cellsAt) ⟨hB.ext,(Vb.mono (F:=Fr 0 g6 eA) (Vb.ofAgg (cs:=[(.int .i64 (x0.vars.length:Int)),(.slice o0.1.1 p0.1.length o0.1.2),(.slice o0.2.1.1 p0.2.1.length o0.2.1.2),(.int .i64 (p0.2.2.length:Int)),(.slice g3 y2.length h3)]) (x:=(⟨(x0.vars.length:Int),p0.1,p0.2.1,(p0.2.2.length:Int),y2⟩:Lay)) rfl ⟨_,_,_,rfl,h0,i0,o2,p3,w9⟩) hB.out)⟩
noncomputable def Bz (x0:Lay) (x1:Int):Option Int :=
  bnd (chkI (2 * x1)) fun n23=>bnd (chkI (x0.jobs + n23)) fun n26=>some n26
theorem BJ {w:World} {A:Nat→Prop} (hA:∀ k,A k→k < w.heap.size) {vx0:Value} {x0:Lay} (a0:Vb w A vx0 x0) {x1:Int} (rx1:inI64 x1) {r:Int} (hm:Bz x0 x1=some r) :
    Fn prog 37 [vx0,(.int .i64 x1)] w fun v w'=>Ext w w'∧Vb w' (upA A w w') v r:=by
 obtain ⟨O,hB,e0⟩:=enter hA
 replace a0:=a0.mono e0
 obtain ⟨q0,rfl,v4,v5,v6,rfl,h7,f0,g0,r0,s0⟩:=a0
 obtain ⟨A8,c9,rfl⟩:=h7.form
 obtain ⟨h0,i0,rfl⟩:=f0.form
 obtain ⟨j0,k0,rfl⟩:=g0.form
 refine AL func37 rfl ntmps37 ?_
 unfold Bz at hm
 refine Ab (Aa (BL 2 O rfl fun l0 m0 n0 o0 b0=>?_))
 replace b0:Lc 2 m0 n0 l0 74 [(.int .i64 x0.jobs),(.slice A8 x0.write.length c9),(.slice h0 x0.read.length i0),(.int .i64 x0.phase),(.slice j0 x0.vars.length k0)]:=b0
 refine Am rfl (o_z ?_)
 refine Ab (Aa (Ax rfl (At (hc:=Blk.cell (i:=0) (b0.1) rfl) rfl ?_)))
 refine Ak rfl ?_
 obtain ⟨t0,c0,hm⟩:=bs hm
 have u0:=(Bq c0)
 refine Iz (he:=c0) rfl rfl ?_
 obtain ⟨v0,d0,hm⟩:=bs hm
 have p0:=(Bq d0)
 refine Dn (he:=d0) rfl rfl ?_
 refine Am rfl (o_z ?_)
 refine AF ?_
 obtain rfl:=sm hm
 replace hB:=hB.st o0
 exact ret1v rfl (AA rfl) ⟨hB.ext,(vInt p0)⟩
noncomputable def Cj (x0:Lay) (x1:Int):Option Int :=
  bnd (chkI (2 * x1)) fun n23=>bnd (chkI (x0.jobs + n23)) fun n26=>bnd (chkI (n26 + 1)) fun n29=>some n29
theorem BE {w:World} {A:Nat→Prop} (hA:∀ k,A k→k < w.heap.size) {vx0:Value} {x0:Lay} (a0:Vb w A vx0 x0) {x1:Int} (rx1:inI64 x1) {r:Int} (hm:Cj x0 x1=some r) :
    Fn prog 38 [vx0,(.int .i64 x1)] w fun v w'=>Ext w w'∧Vb w' (upA A w w') v r:=by
 obtain ⟨O,hB,f0⟩:=enter hA
 replace a0:=a0.mono f0
 obtain ⟨r0,rfl,v4,v5,v6,rfl,h7,g0,h0,s0,t0⟩:=a0
 obtain ⟨A8,c9,rfl⟩:=h7.form
 obtain ⟨i0,j0,rfl⟩:=g0.form
 obtain ⟨k0,l0,rfl⟩:=h0.form
 refine AL func38 rfl ntmps38 ?_
 unfold Cj at hm
 refine Ab (Aa (BL 2 O rfl fun m0 n0 o0 p0 b0=>?_))
 replace b0:Lc 2 n0 o0 m0 74 [(.int .i64 x0.jobs),(.slice A8 x0.write.length c9),(.slice i0 x0.read.length j0),(.int .i64 x0.phase),(.slice k0 x0.vars.length l0)]:=b0
 refine Am rfl (o_z ?_)
 refine Ab (Aa (Ax rfl (At (hc:=Blk.cell (i:=0) (b0.1) rfl) rfl ?_)))
 refine Ak rfl ?_
 obtain ⟨u0,c0,hm⟩:=bs hm
 have v0:=(Bq c0)
 refine Iz (he:=c0) rfl rfl ?_
 obtain ⟨w0,d0,hm⟩:=bs hm
 have y0:=(Bq d0)
 refine Dn (he:=d0) rfl rfl ?_
 obtain ⟨z0,e0,hm⟩:=bs hm
 have q0:=(Bq e0)
 refine Dn (he:=e0) rfl rfl ?_
 refine Am rfl (o_z ?_)
 refine AF ?_
 obtain rfl:=sm hm
 replace hB:=hB.st p0
 exact ret1v rfl (AA rfl) ⟨hB.ext,(vInt q0)⟩
noncomputable def BH (x0:List (List Fct)):Option (List Fct) :=
  bnd (rng (ρ:=(List Fct)) (fun (k10:Nat) (a11:List Fct) (s8:Int)=>bnd (chkI (s8 + (a11.length:Int))) fun n36=>if n36 < 0 then (none) else (some (.next n36))) x0 0 0) fun res6=>fin res6 fun (s44:Int)=>bnd (Cr s44) fun q46=>bnd (rng (ρ:=(List Fct)) (fun (k62:Nat) (a63:List Fct) (s60:(List Fct))=>bnd (appI 16 s60 a63) fun u88=>some (.next u88)) x0 0 q46) fun res58=>fin res58 fun (s103:(List Fct))=>some s103
theorem Gm {w:World} {A:Nat→Prop} (hA:∀ k,A k→k < w.heap.size) {vx0:Value} {x0:List (List Fct)} (a0:Vb w A vx0 x0) {r:(List Fct)} (hm:BH x0=some r) :
    Fn prog 98 [vx0] w fun v w'=>Ext w w'∧RowR w w' (upA A w w') 78 v r:=by
 obtain ⟨O,hB,j1⟩:=enter hA
 replace a0:=a0.mono j1
 obtain ⟨A2,c3,rfl⟩:=a0.form
 refine AL func98 rfl ntmps98 ?_
 unfold BH at hm
 refine Ab (Aa (Am rfl (o_z ?_)))
 refine Ab (Aa (Am rfl (o_z ?_)))
 refine Ab (Ab (Aa (Ak rfl (AS rfl ?_))))
 have l5:x0.length≤9223372036854775807:=Nat.le_trans a0.len.2.1 a0.len.2.2
 have r4:inI64 (x0.length:Int):=rngNat l5
 refine Ak rfl (o_z ?_)
 obtain ⟨n0,k1,hm⟩:=bs hm
 refine Ay (aft n0 (fun (s8:Int) (x9:Unit)=>[(0,(.slice A2 x0.length c3)),(3,(.int .i64 s8))]) (fun s8 x9 w'=>∃ O':Lab,Bs w A w' O'∧Vb w' (Fr 0 w' O') (.slice A2 x0.length c3) x0∧inI64 s8)) ?_ ?_
 ·
  refine AK (AY (σ:=Int) (X:=Unit) (x0.length) k1 rfl l5 (fun (s8:Int) (x9:Unit)=>[(0,(.slice A2 x0.length c3)),(3,(.int .i64 s8)),(9,(.slice A2 x0.length c3))]) _ (fun s8 x9 w'=>∃ O':Lab,Bs w A w' O'∧Vb w' (Fr 0 w' O') (.slice A2 x0.length c3) x0∧inI64 s8) _ () ⟨O,hB,a0,(iI64 0)⟩ ⟨rfl,rfl,rfl,rfl,rfl,trivial⟩ (fun _ _=>⟨rfl,rfl⟩) (fun _ _=>⟨rfl,rfl,trivial⟩) (fun _ _ _ ⟨O',hB,a0,l0⟩=>⟨O',hB,a0,l0⟩) ⟨rfl,rfl,rfl⟩ ⟨rfl,rfl⟩ ?_)
  rintro l1 f1 s8 x9 h2 m1 f0 ⟨i2,hB,a0,l0⟩ b0 o0 p0
  have rk10:inI64 (l1:Int):=rngK f0 l5
  refine Ab (Aa ?_)
  obtain ⟨j2,k2,n1,q0,r0,s0,l2,rfl,g0⟩:=a0.elem' f0
  replace g0:=Vb.of_slice g0
  obtain ⟨m2,n2,rfl⟩:=g0.form
  refine Bi (hA:=q0) (hj:=rfl) (hlt:=r0) rfl rfl ?_
  refine At (hc:=cat0 s0) rfl ?_
  refine Am rfl (o_z ?_)
  refine Ab (Aa (Ak rfl (Ak rfl (AS rfl ?_))))
  have o1:f1.length≤9223372036854775807:=Nat.le_trans g0.len.2.1 g0.len.2.2
  have o2:inI64 (f1.length:Int):=rngNat o1
  obtain ⟨p2,g1,b0⟩:=bs b0
  have p1:=(Bq g1)
  refine Dn (he:=g1) rfl rfl ?_
  refine Am rfl (o_z ?_)
  refine Ab (Aa (Ak rfl (Dm rfl rfl (fun t0=>?_) fun t0=>?_)))
  ·
   replace b0:=ip b0 t0
   refine o_z ?_
   refine Ah rfl ?_
   exact nomatch b0
  replace b0:=im b0 t0
  refine o_z ?_
  refine Ae rfl (AO ?_)
  obtain rfl:=sm b0
  exact show Exists _ from ⟨_,(),rfl,⟨rfl,rfl,rfl,rfl,rfl,trivial⟩,_,hB,a0,p1⟩
 rintro q2 r2 ⟨s2,t2,rfl,u0,q1,hB,a0,l0⟩
 replace hm:=AR hm
 refine AH _ u0 ?_
 refine Ab (Aa (Ak rfl ?_))
 obtain ⟨u2,r1,hm⟩:=bs hm
 refine CZ 2 (O:=q1) (GF Fr.lt l0 r1) rfl fun s1 t1 v2 u1 v0 v1=>?_
 refine Am rfl (o_z ?_)
 refine Ab (Ab (Aa (Ak rfl (AS rfl ?_))))
 replace a0:=a0.st v0
 have w0:x0.length≤9223372036854775807:=Nat.le_trans a0.len.2.1 a0.len.2.2
 have w2:inI64 (x0.length:Int):=rngNat w0
 refine Ak rfl (o_z ?_)
 obtain ⟨h0,y0,hm⟩:=bs hm
 refine Ay (aft h0 (fun (d0:(List Fct)) (c0:(Option Addr×Nat))=>[(6,(.slice c0.1 d0.length c0.2))]) (fun d0 c0 w'=>∃ O':Lab,Bs w A w' O'∧Rw 2 w' O' 78 (.slice c0.1 d0.length c0.2) d0)) ?_ ?_
 ·
  refine AK ?_
  replace hB:=hB.st v0
  refine AY (σ:=(List Fct)) (X:=(Option Addr×Nat)) (x0.length) y0 rfl w0 (fun (d0:(List Fct)) (c0:(Option Addr×Nat))=>[(6,(.slice c0.1 d0.length c0.2)),(25,(.slice A2 x0.length c3))]) _ (fun d0 c0 w'=>∃ O':Lab,Bs w A w' O'∧Rw 2 w' O' 78 (.slice c0.1 d0.length c0.2) d0∧Vb w' (Fr 0 w' O') (.slice A2 x0.length c3) x0) _ (s1,t1) ⟨u1,hB,v1,a0⟩ ⟨rfl,rfl,rfl,rfl,trivial⟩ (fun _ _=>⟨rfl,rfl⟩) (fun _ _=>⟨rfl,trivial⟩) (fun _ _ _ ⟨O',hB,i0,a0⟩=>⟨O',hB,i0⟩) ⟨rfl,rfl,rfl⟩ ⟨rfl,rfl⟩ ?_
  rintro w1 x2 d0 c0 y2 x1 j0 ⟨z2,hB,i0,a0⟩ e0 z0 a1
  have rk62:inI64 (w1:Int):=rngK j0 w0
  refine Ab (Aa ?_)
  obtain ⟨a3,b3,y1,b1,c1,d1,d3,rfl,m0⟩:=a0.elem' j0
  replace m0:=Vb.of_slice m0
  obtain ⟨e3,f3,rfl⟩:=m0.form
  refine Bi (hA:=b1) (hj:=rfl) (hlt:=c1) rfl rfl ?_
  refine At (hc:=cat0 d1) rfl ?_
  refine Am rfl (o_z ?_)
  refine Aa (Ak rfl (Ak rfl ?_))
  obtain ⟨g3,e1,e0⟩:=bs e0
  obtain ⟨e1,z1,a2⟩:=AI e1
  refine AZ rfl i0 (m0.rd) rfl rfl z1 a2 fun b2 c2 h3 i3 h1 i1=>?_
  rw [← e1] at i1 ⊢
  refine Am rfl (o_z ?_)
  obtain rfl:=sm e0
  exact show Exists _ from ⟨_,(b2,c2),rfl,⟨rfl,rfl,rfl,rfl,trivial⟩,_,hB.st h1,i1,a0.st h1⟩
 replace hB:=hB.st v0
 rintro j3 d2 ⟨e2,f2,rfl,k0,g2,hB,i0⟩
 replace hm:=AR hm
 refine AH _ k0 ?_
 refine Ab (Aa (Ak rfl (Am rfl (o_z ?_))))
 refine AF ?_
 obtain rfl:=sm hm
 exact ret1v rfl (AA rfl) ⟨hB.ext,(i0.out hB (by decide))⟩
noncomputable def CA (x0:Lay) (x1:List Fct) (x2:List Fct):Option ((List Fct)×(List Eff)) :=
  bnd (rng (ρ:=(List Fct)×(List Eff)) (fun (k34:Nat) (a35:Int) (s32:(List Fct)×(List Eff))=>bnd (Ca x2 (k34:Int)) fun q53=>if q53=true then bnd (appI 16 s32.1 [(⟨a35,0⟩:Fct)]) fun u135=>bnd (bnd (x0.read[k34]?) fun a153=>if 0≤a153 then (bnd (x0.read[k34]?) fun a164=>bnd (appI 16 u135 [(⟨a164,0⟩:Fct)]) fun u174=>some u174) else (some u135):Option (List Fct)) fun y147=>bnd (appI 40 s32.2 [(⟨([]:List Fct),a35,1⟩:Eff)]) fun u198=>some (.next (y147,u198)) else bnd (bnd (Ca x1 (k34:Int)) fun q64=>if q64=true then if 0≤a35 then (some true) else (some false) else some false:Option Bool) fun y60=>if y60=true then (bnd (appI 16 s32.1 [(⟨a35,0⟩:Fct)]) fun u93=>bnd (x0.read[k34]?) fun a105=>bnd (appI 40 s32.2 [(⟨([]:List Fct),a105,1⟩:Eff)]) fun u115=>some (.next (u93,u115))) else (some (.next (s32.1,s32.2)))) x0.write 0 (([]:List Fct),([]:List Eff))) fun res30=>fin res30 fun (s214:(List Fct)×(List Eff))=>some (s214.1,s214.2)
theorem IH {w:World} {A:Nat→Prop} (hA:∀ k,A k→k < w.heap.size) {vx0:Value} {x0:Lay} (t2:Vb w A vx0 x0) {vx1:Value} {x1:List Fct} (i0:Vb w A vx1 x1) {vx2:Value} {x2:List Fct} (m0:Vb w A vx2 x2) {r:(List Fct)×(List Eff)} (hm:CA x0 x1 x2=some r) :
    Fn prog 99 [vx0,vx1,vx2] w fun v w'=>Ext w w'∧T2 w' (upA A w w') v r:=by
 obtain ⟨O,hB,u2⟩:=enter hA
 replace t2:=t2.mono u2
 obtain ⟨u6,rfl,v5,v6,v7,rfl,h8,g0,n0,w6,x6⟩:=t2
 obtain ⟨A9,w0,rfl⟩:=h8.form
 obtain ⟨y0,z0,rfl⟩:=g0.form
 obtain ⟨a1,b1,rfl⟩:=n0.form
 replace i0:=i0.mono u2
 obtain ⟨n1,o1,rfl⟩:=i0.form
 replace m0:=m0.mono u2
 obtain ⟨p1,q1,rfl⟩:=m0.form
 refine AL func99 rfl ntmps99 ?_
 unfold CA at hm
 refine Ab (Aa (BL 2 O rfl fun c1 o4 i4 d1 f0=>?_))
 replace f0:Lc 2 o4 i4 c1 74 [(.int .i64 x0.jobs),(.slice A9 x0.write.length w0),(.slice y0 x0.read.length z0),(.int .i64 x0.phase),(.slice a1 x0.vars.length b1)]:=f0
 refine Am rfl (Am rfl (o_z ?_))
 refine Ab (Ab (Aa (Ax rfl (At (hc:=Blk.cell (i:=1) (f0.1) rfl) rfl ?_))))
 refine AS rfl ?_
 replace h8:=h8.st d1
 have v2:x0.write.length≤9223372036854775807:=Nat.le_trans h8.len.2.1 h8.len.2.2
 have y6:inI64 (x0.write.length:Int):=rngNat v2
 refine Ak rfl (o_z ?_)
 obtain ⟨r1,w2,hm⟩:=bs hm
 refine Ay (aft r1 (fun (j0:(List Fct)×(List Eff)) (e0:(Option Addr×Nat)×(Option Addr×Nat))=>[(6,(.slice e0.1.1 j0.1.length e0.1.2)),(7,(.slice e0.2.1 j0.2.length e0.2.2))]) (fun j0 e0 w'=>∃ O':Lab,Bs w A w' O'∧Rw 3 w' O' 78 (.slice e0.1.1 j0.1.length e0.1.2) j0.1∧Rw 4 w' O' 85 (.slice e0.2.1 j0.2.length e0.2.2) j0.2)) ?_ ?_
 ·
  refine AK ?_
  replace hB:=hB.st d1
  replace i0:=i0.st d1
  replace m0:=m0.st d1
  replace g0:=g0.st d1
  replace n0:=n0.st d1
  refine AY (σ:=(List Fct)×(List Eff)) (X:=(Option Addr×Nat)×(Option Addr×Nat)) (x0.write.length) w2 rfl v2 (fun (j0:(List Fct)×(List Eff)) (e0:(Option Addr×Nat)×(Option Addr×Nat))=>[(1,(.slice n1 x1.length o1)),(2,(.slice p1 x2.length q1)),(3,(.pointer (some ⟨c1,0,none⟩))),(6,(.slice e0.1.1 j0.1.length e0.1.2)),(7,(.slice e0.2.1 j0.2.length e0.2.2))]) _ (fun j0 e0 w'=>∃ O':Lab,Bs w A w' O'∧Vb w' (Fr 0 w' O') (.slice n1 x1.length o1) x1∧Vb w' (Fr 0 w' O') (.slice p1 x2.length q1) x2∧Lc 2 w' O' c1 74 [(.int .i64 x0.jobs),(.slice A9 x0.write.length w0),(.slice y0 x0.read.length z0),(.int .i64 x0.phase),(.slice a1 x0.vars.length b1)]∧Vb w' (Fr 0 w' O') (.slice A9 x0.write.length w0) x0.write∧Vb w' (Fr 0 w' O') (.slice y0 x0.read.length z0) x0.read∧Vb w' (Fr 0 w' O') (.slice a1 x0.vars.length b1) x0.vars∧Rw 3 w' O' 78 (.slice e0.1.1 j0.1.length e0.1.2) j0.1∧Rw 4 w' O' 85 (.slice e0.2.1 j0.2.length e0.2.2) j0.2) _ ((none,0),(none,0)) ⟨i4,hB,i0,m0,f0,h8,g0,n0,(Rw.nil 3 (by decide)),(Rw.nil 4 (by decide))⟩ ⟨rfl,rfl,rfl,rfl,rfl,rfl,rfl,trivial⟩ (fun _ _=>⟨rfl,rfl⟩) (fun _ _=>⟨rfl,rfl,trivial⟩) (fun _ _ _ ⟨O',hB,i0,m0,f0,h8,g0,n0,o0,l0⟩=>⟨O',hB,o0,l0⟩) ⟨rfl,rfl,rfl⟩ ⟨rfl,rfl⟩ ?_
  rintro s1 v0 j0 e0 z6 p4 u0 ⟨q4,hB,i0,m0,f0,h8,g0,n0,o0,l0⟩ a0 y2 z2
  have rk34:inI64 (s1:Int):=rngK u0 v2
  refine Ab (Aa (Ak rfl (Am rfl (o_z ?_))))
  refine AK (Ab (Aa (Ak rfl (Ak rfl ?_))))
  obtain ⟨r4,s4,a0⟩:=bs a0
  refine AM (O:=q4) (Ds (fun _ h=>h) (vMo m0) rk34 s4) rfl fun a7 b7 t4 b0 u4=>?_
  obtain rfl:=u4.bool
  cases r4
  case false =>
   replace a0:=iF a0
   refine Am rfl (o_z ?_)
   refine Ae rfl (Ab ?_)
   obtain ⟨v4,h0,a0⟩:=bs a0
   refine Ay (fun l' w'=>∃ (w4:Unit) (O':Lab),subs l' [(1,(.slice n1 x1.length o1)),(2,(.slice p1 x2.length q1)),(3,(.pointer (some ⟨c1,0,none⟩))),(6,(.slice e0.1.1 j0.1.length e0.1.2)),(7,(.slice e0.2.1 j0.2.length e0.2.2)),(8,(.int .i64 (s1:Int))),(11,(.int .i64 (x0.write.length:Int))),(12,(.int .i64 (s1:Int))),(52,(.bool v4))]∧Bs w A w' O'∧Vb w' (Fr 0 w' O') (.slice n1 x1.length o1) x1∧Vb w' (Fr 0 w' O') (.slice p1 x2.length q1) x2∧Lc 2 w' O' c1 74 [(.int .i64 x0.jobs),(.slice A9 x0.write.length w0),(.slice y0 x0.read.length z0),(.int .i64 x0.phase),(.slice a1 x0.vars.length b1)]∧Vb w' (Fr 0 w' O') (.slice A9 x0.write.length w0) x0.write∧Vb w' (Fr 0 w' O') (.slice y0 x0.read.length z0) x0.read∧Vb w' (Fr 0 w' O') (.slice a1 x0.vars.length b1) x0.vars∧Rw 3 w' O' 78 (.slice e0.1.1 j0.1.length e0.1.2) j0.1∧Rw 4 w' O' 85 (.slice e0.2.1 j0.2.length e0.2.2) j0.2) ?_ ?_
   ·
    refine Aa (Ak rfl (Ak rfl ?_))
    obtain ⟨x4,y4,h0⟩:=bs h0
    replace i0:=i0.st b0
    refine AM (O:=t4) (Ds (fun _ h=>h) (vMo i0) rk34 y4) rfl fun c7 d7 e7 k0 z4=>?_
    obtain rfl:=z4.bool
    cases x4
    case false =>
     replace h0:=iF h0
     refine Ak rfl (Al rfl rfl (Al rfl rfl (Al rfl rfl (Al rfl rfl (Al rfl rfl (Al rfl rfl (Bc rfl rfl (Am rfl (o_z ?_)))))))))
     obtain rfl:=sm h0
     exact ⟨(),_,⟨rfl,rfl,rfl,rfl,rfl,rfl,rfl,rfl,rfl,trivial⟩,(hB.st b0).st k0,i0.st k0,(m0.st b0).st k0,(f0.st b0).st k0,(h8.st b0).st k0,(g0.st b0).st k0,(n0.st b0).st k0,(o0.st b0).st k0,(l0.st b0).st k0⟩
    replace h0:=iT h0
    refine Ak rfl (An rfl rfl (Ax rfl (An rfl rfl ?_)))
    replace f0:=(f0.st b0).st k0
    refine At (hc:=Blk.cell (i:=1) (f0.1) rfl) rfl ?_
    refine An rfl rfl (Ak rfl (An rfl rfl ?_))
    replace h8:=(h8.st b0).st k0
    obtain ⟨f7,g7,a5,a3,b3,c3,rfl,h7⟩:=h8.elem' u0
    refine Bi (hA:=a3) (hj:=rfl) (hlt:=b3) rfl rfl ?_
    refine An rfl rfl (At (hc:=cat0 c3) rfl ?_)
    refine An rfl rfl (ET rfl rfl (fun d3=>?_) fun d3=>?_)
    ·
     replace h0:=ip h0 d3
     refine Bn rfl rfl (Am rfl (o_z ?_))
     obtain rfl:=sm h0
     exact ⟨(),_,⟨rfl,rfl,rfl,rfl,rfl,rfl,rfl,rfl,rfl,trivial⟩,(hB.st b0).st k0,i0.st k0,(m0.st b0).st k0,f0,h8,(g0.st b0).st k0,(n0.st b0).st k0,(o0.st b0).st k0,(l0.st b0).st k0⟩
    replace h0:=im h0 d3
    refine Bn rfl rfl (Am rfl (o_z ?_))
    obtain rfl:=sm h0
    exact ⟨(),_,⟨rfl,rfl,rfl,rfl,rfl,rfl,rfl,rfl,rfl,trivial⟩,(hB.st b0).st k0,i0.st k0,(m0.st b0).st k0,f0,h8,(g0.st b0).st k0,(n0.st b0).st k0,(o0.st b0).st k0,(l0.st b0).st k0⟩
   replace hB:=hB.st b0
   replace i0:=i0.st b0
   replace m0:=m0.st b0
   replace h8:=h8.st b0
   replace g0:=g0.st b0
   replace n0:=n0.st b0
   replace f0:=f0.st b0
   replace o0:=o0.st b0
   replace l0:=l0.st b0
   rintro i7 j7 ⟨w4,k7,e3,hB,i0,m0,f0,h8,g0,n0,o0,l0⟩
   refine AH _ e3 ?_
   refine Cd rfl (fun f3=>?_) (fun f3=>?_)
   ·
    replace a0:=ip a0 f3
    refine Ab (Aa (Ak rfl (Ax rfl (At (hc:=Blk.cell (i:=1) (f0.1) rfl) rfl ?_))))
    refine Ak rfl ?_
    obtain ⟨l7,m7,b5,g3,h3,i3,rfl,c5⟩:=h8.elem' u0
    refine Bi (hA:=g3) (hj:=rfl) (hlt:=h3) rfl rfl ?_
    refine At (hc:=cat0 i3) rfl ?_
    refine Cl rfl rfl ?_
    obtain ⟨n7,j3,a0⟩:=bs a0
    obtain ⟨j3,d5,e5⟩:=AI j3
    refine BC rfl (a:=(⟨v0,0⟩:Fct)) o0 (Vb.ofAgg (cs:=[(.int .i64 v0),(.int .i64 0)]) (x:=(⟨v0,0⟩:Fct)) rfl ⟨rfl,c5,(iI64 0)⟩) (fun _=>rfl) rfl d5 e5 ⟨rfl,rfl⟩ fun o7 f5 g5 h5 i5 p0 t1=>?_
    rw [← j3] at t1 ⊢
    refine Am rfl (o_z ?_)
    refine Aa (Ak rfl (Ax rfl ?_))
    replace f0:=f0.st p0
    refine At (hc:=Blk.cell (i:=2) (f0.1) rfl) rfl ?_
    refine Ak rfl ?_
    obtain ⟨e1,k3,a0⟩:=bs a0
    replace g0:=g0.st p0
    obtain ⟨j5,k5,j4,u1,v1,w1,rfl,l3⟩:=g0.elem' k3
    refine Bi (hA:=u1) (hj:=rfl) (hlt:=v1) rfl rfl ?_
    refine At (hc:=cat0 w1) rfl ?_
    refine Cl rfl rfl ?_
    obtain ⟨l5,f1,a0⟩:=bs a0
    obtain ⟨f1,m3,n3⟩:=AI f1
    replace l0:=l0.st p0
    refine BC rfl (a:=(⟨([]:List Fct),e1,1⟩:Eff)) l0 (Vb.ofAgg (cs:=[(.slice none 0 0),(.int .i64 e1),(.int .i64 1)]) (x:=(⟨([]:List Fct),e1,1⟩:Eff)) rfl ⟨_,rfl,(Vb.nil _ _),l3,(iI64 1)⟩) (fun _=>rfl) rfl m3 n3 ⟨rfl,rfl⟩ fun m5 o3 p3 n5 o5 q0 y1=>?_
    rw [← f1] at y1 ⊢
    refine Am rfl (o_z ?_)
    obtain rfl:=sm a0
    exact show Exists _ from ⟨_,((f5,g5),(o3,p3)),rfl,⟨rfl,rfl,rfl,rfl,rfl,rfl,rfl,trivial⟩,_,(hB.st p0).st q0,(i0.st p0).st q0,(m0.st p0).st q0,f0.st q0,(h8.st p0).st q0,g0.st q0,(n0.st p0).st q0,t1.st q0,y1⟩
   replace a0:=im' a0 f3
   refine AO ?_
   obtain rfl:=sm a0
   exact show Exists _ from ⟨_,((e0.1.1,e0.1.2),(e0.2.1,e0.2.2)),rfl,⟨rfl,rfl,rfl,rfl,rfl,rfl,rfl,trivial⟩,_,hB,i0,m0,f0,h8,g0,n0,o0,l0⟩
  replace a0:=iT a0
  refine Am rfl (o_z ?_)
  refine Ah rfl (Ab (Aa (Ak rfl (Ax rfl ?_))))
  replace f0:=f0.st b0
  refine At (hc:=Blk.cell (i:=1) (f0.1) rfl) rfl ?_
  refine Ak rfl ?_
  replace h8:=h8.st b0
  obtain ⟨p5,q5,k4,z1,a2,b2,rfl,q3⟩:=h8.elem' u0
  refine Bi (hA:=z1) (hj:=rfl) (hlt:=a2) rfl rfl ?_
  refine At (hc:=cat0 b2) rfl ?_
  refine Cl rfl rfl ?_
  obtain ⟨r5,g1,a0⟩:=bs a0
  obtain ⟨g1,r3,s3⟩:=AI g1
  replace o0:=o0.st b0
  refine BC rfl (a:=(⟨v0,0⟩:Fct)) o0 (Vb.ofAgg (cs:=[(.int .i64 v0),(.int .i64 0)]) (x:=(⟨v0,0⟩:Fct)) rfl ⟨rfl,q3,(iI64 0)⟩) (fun _=>rfl) rfl r3 s3 ⟨rfl,rfl⟩ fun s5 t3 u3 t5 u5 c0 h1=>?_
  rw [← g1] at h1 ⊢
  refine Am rfl (o_z ?_)
  refine Ab ?_
  obtain ⟨i1,d0,a0⟩:=bs a0
  refine Ay (fun l' w'=>∃ (t0:(Option Addr×Nat)) (O':Lab),subs l' [(1,(.slice n1 x1.length o1)),(2,(.slice p1 x2.length q1)),(3,(.pointer (some ⟨c1,0,none⟩))),(6,(.slice t0.1 i1.length t0.2)),(7,(.slice e0.2.1 j0.2.length e0.2.2)),(8,(.int .i64 (s1:Int))),(11,(.int .i64 (x0.write.length:Int))),(12,(.int .i64 (s1:Int)))]∧Bs w A w' O'∧Vb w' (Fr 0 w' O') (.slice n1 x1.length o1) x1∧Vb w' (Fr 0 w' O') (.slice p1 x2.length q1) x2∧Lc 2 w' O' c1 74 [(.int .i64 x0.jobs),(.slice A9 x0.write.length w0),(.slice y0 x0.read.length z0),(.int .i64 x0.phase),(.slice a1 x0.vars.length b1)]∧Vb w' (Fr 0 w' O') (.slice A9 x0.write.length w0) x0.write∧Vb w' (Fr 0 w' O') (.slice y0 x0.read.length z0) x0.read∧Vb w' (Fr 0 w' O') (.slice a1 x0.vars.length b1) x0.vars∧Rw 3 w' O' 78 (.slice t0.1 i1.length t0.2) i1∧Rw 4 w' O' 85 (.slice e0.2.1 j0.2.length e0.2.2) j0.2) ?_ ?_
  ·
   refine Ab (Aa (Ax rfl ?_))
   replace f0:=f0.st c0
   refine At (hc:=Blk.cell (i:=2) (f0.1) rfl) rfl ?_
   refine Ak rfl ?_
   obtain ⟨w5,v3,d0⟩:=bs d0
   replace g0:=(g0.st b0).st c0
   obtain ⟨x5,y5,l4,c2,d2,e2,rfl,z5⟩:=g0.elem' v3
   refine Bi (hA:=c2) (hj:=rfl) (hlt:=d2) rfl rfl ?_
   refine At (hc:=cat0 e2) rfl ?_
   refine ET rfl rfl (fun j1=>?_) fun j1=>?_
   ·
    replace d0:=ip d0 j1
    refine o_z ?_
    refine Ah rfl (Aa (Ak rfl (Ax rfl (At (hc:=Blk.cell (i:=2) (f0.1) rfl) rfl ?_))))
    refine Ak rfl ?_
    obtain ⟨k1,w3,d0⟩:=bs d0
    obtain ⟨a6,b6,m4,f2,g2,h2,rfl,x3⟩:=g0.elem' w3
    refine Bi (hA:=f2) (hj:=rfl) (hlt:=g2) rfl rfl ?_
    refine At (hc:=cat0 h2) rfl ?_
    refine Cl rfl rfl ?_
    obtain ⟨c6,l1,d0⟩:=bs d0
    obtain ⟨l1,y3,z3⟩:=AI l1
    refine BC rfl (a:=(⟨k1,0⟩:Fct)) h1 (Vb.ofAgg (cs:=[(.int .i64 k1),(.int .i64 0)]) (x:=(⟨k1,0⟩:Fct)) rfl ⟨rfl,x3,(iI64 0)⟩) (fun _=>rfl) rfl y3 z3 ⟨rfl,rfl⟩ fun d6 a4 b4 e6 f6 r0 i2=>?_
    rw [← l1] at i2 ⊢
    refine Am rfl (o_z ?_)
    obtain rfl:=sm d0
    exact ⟨(a4,b4),_,⟨rfl,rfl,rfl,rfl,rfl,rfl,rfl,rfl,trivial⟩,((hB.st b0).st c0).st r0,((i0.st b0).st c0).st r0,((m0.st b0).st c0).st r0,f0.st r0,(h8.st c0).st r0,g0.st r0,((n0.st b0).st c0).st r0,i2,((l0.st b0).st c0).st r0⟩
   replace d0:=im d0 j1
   refine o_z ?_
   refine Ae rfl (AO ?_)
   obtain rfl:=sm d0
   exact ⟨(t3,u3),_,⟨rfl,rfl,rfl,rfl,rfl,rfl,rfl,rfl,trivial⟩,(hB.st b0).st c0,(i0.st b0).st c0,(m0.st b0).st c0,f0,h8.st c0,g0,(n0.st b0).st c0,h1,(l0.st b0).st c0⟩
  replace hB:=(hB.st b0).st c0
  replace i0:=(i0.st b0).st c0
  replace m0:=(m0.st b0).st c0
  replace h8:=h8.st c0
  replace g0:=(g0.st b0).st c0
  replace n0:=(n0.st b0).st c0
  replace f0:=f0.st c0
  replace l0:=(l0.st b0).st c0
  rintro g6 h6 ⟨t0,i6,j2,hB,i0,m0,f0,h8,g0,n0,c4,l0⟩
  refine AH _ j2 ?_
  refine Aa (Ak rfl (Ax rfl (At (hc:=Blk.cell (i:=1) (f0.1) rfl) rfl ?_)))
  refine Ak rfl ?_
  obtain ⟨j6,k6,n4,k2,l2,m2,rfl,d4⟩:=h8.elem' u0
  refine Bi (hA:=k2) (hj:=rfl) (hlt:=l2) rfl rfl ?_
  refine At (hc:=cat0 m2) rfl ?_
  refine Cl rfl rfl ?_
  obtain ⟨l6,m1,a0⟩:=bs a0
  obtain ⟨m1,e4,f4⟩:=AI m1
  refine BC rfl (a:=(⟨([]:List Fct),v0,1⟩:Eff)) l0 (Vb.ofAgg (cs:=[(.slice none 0 0),(.int .i64 v0),(.int .i64 1)]) (x:=(⟨([]:List Fct),v0,1⟩:Eff)) rfl ⟨_,rfl,(Vb.nil _ _),d4,(iI64 1)⟩) (fun _=>rfl) rfl e4 f4 ⟨rfl,rfl⟩ fun m6 g4 h4 n6 o6 s0 n2=>?_
  rw [← m1] at n2 ⊢
  refine Am rfl (o_z ?_)
  obtain rfl:=sm a0
  exact show Exists _ from ⟨_,((t0.1,t0.2),(g4,h4)),rfl,⟨rfl,rfl,rfl,rfl,rfl,rfl,rfl,trivial⟩,_,hB.st s0,i0.st s0,m0.st s0,f0.st s0,h8.st s0,g0.st s0,n0.st s0,c4.st s0,n2⟩
 replace hB:=hB.st d1
 rintro p6 o2 ⟨q6,r6,rfl,p2,s6,hB,o0,l0⟩
 replace hm:=AR hm
 refine AH _ p2 ?_
 refine Ab (Aa (Ak rfl (Ak rfl (Am rfl (Am rfl (o_z ?_))))))
 refine AF ?_
 obtain ⟨t6,q2,o0⟩:=o0.freeze
 replace l0:=l0.st q2
 obtain ⟨r2,s2,l0⟩:=l0.freeze
 obtain rfl:=sm hm
 replace hB:=(hB.st q2).st s2
 replace o0:=o0.st s2
 exact ret2 rfl (AA rfl) (AA rfl) ⟨hB.ext,_,_,rfl,(Vb.mono (F:=Fr 0 o2 r2) o0 hB.out),(Vb.mono (F:=Fr 0 o2 r2) l0 hB.out)⟩
noncomputable def BA (x0:List (List Eff)):Option (List Eff) :=
  bnd (rng (ρ:=(List Eff)) (fun (k10:Nat) (a11:List Eff) (s8:Int)=>bnd (chkI (s8 + (a11.length:Int))) fun n36=>if n36 < 0 then (none) else (some (.next n36))) x0 0 0) fun res6=>fin res6 fun (s44:Int)=>bnd (Ce s44) fun q46=>bnd (rng (ρ:=(List Eff)) (fun (k62:Nat) (a63:List Eff) (s60:(List Eff))=>bnd (appI 40 s60 a63) fun u88=>some (.next u88)) x0 0 q46) fun res58=>fin res58 fun (s103:(List Eff))=>some s103
theorem FI {w:World} {A:Nat→Prop} (hA:∀ k,A k→k < w.heap.size) {vx0:Value} {x0:List (List Eff)} (a0:Vb w A vx0 x0) {r:(List Eff)} (hm:BA x0=some r) :
    Fn prog 100 [vx0] w fun v w'=>Ext w w'∧RowR w w' (upA A w w') 85 v r:=by
 obtain ⟨O,hB,j1⟩:=enter hA
 replace a0:=a0.mono j1
 obtain ⟨A2,c3,rfl⟩:=a0.form
 refine AL func100 rfl ntmps100 ?_
 unfold BA at hm
 refine Ab (Aa (Am rfl (o_z ?_)))
 refine Ab (Aa (Am rfl (o_z ?_)))
 refine Ab (Ab (Aa (Ak rfl (AS rfl ?_))))
 have l5:x0.length≤9223372036854775807:=Nat.le_trans a0.len.2.1 a0.len.2.2
 have r4:inI64 (x0.length:Int):=rngNat l5
 refine Ak rfl (o_z ?_)
 obtain ⟨n0,k1,hm⟩:=bs hm
 refine Ay (aft n0 (fun (s8:Int) (x9:Unit)=>[(0,(.slice A2 x0.length c3)),(3,(.int .i64 s8))]) (fun s8 x9 w'=>∃ O':Lab,Bs w A w' O'∧Vb w' (Fr 0 w' O') (.slice A2 x0.length c3) x0∧inI64 s8)) ?_ ?_
 ·
  refine AK (AY (σ:=Int) (X:=Unit) (x0.length) k1 rfl l5 (fun (s8:Int) (x9:Unit)=>[(0,(.slice A2 x0.length c3)),(3,(.int .i64 s8)),(9,(.slice A2 x0.length c3))]) _ (fun s8 x9 w'=>∃ O':Lab,Bs w A w' O'∧Vb w' (Fr 0 w' O') (.slice A2 x0.length c3) x0∧inI64 s8) _ () ⟨O,hB,a0,(iI64 0)⟩ ⟨rfl,rfl,rfl,rfl,rfl,trivial⟩ (fun _ _=>⟨rfl,rfl⟩) (fun _ _=>⟨rfl,rfl,trivial⟩) (fun _ _ _ ⟨O',hB,a0,l0⟩=>⟨O',hB,a0,l0⟩) ⟨rfl,rfl,rfl⟩ ⟨rfl,rfl⟩ ?_)
  rintro l1 f1 s8 x9 h2 m1 f0 ⟨i2,hB,a0,l0⟩ b0 o0 p0
  have rk10:inI64 (l1:Int):=rngK f0 l5
  refine Ab (Aa ?_)
  obtain ⟨j2,k2,n1,q0,r0,s0,l2,rfl,g0⟩:=a0.elem' f0
  replace g0:=Vb.of_slice g0
  obtain ⟨m2,n2,rfl⟩:=g0.form
  refine Bi (hA:=q0) (hj:=rfl) (hlt:=r0) rfl rfl ?_
  refine At (hc:=cat0 s0) rfl ?_
  refine Am rfl (o_z ?_)
  refine Ab (Aa (Ak rfl (Ak rfl (AS rfl ?_))))
  have o1:f1.length≤9223372036854775807:=Nat.le_trans g0.len.2.1 g0.len.2.2
  have o2:inI64 (f1.length:Int):=rngNat o1
  obtain ⟨p2,g1,b0⟩:=bs b0
  have p1:=(Bq g1)
  refine Dn (he:=g1) rfl rfl ?_
  refine Am rfl (o_z ?_)
  refine Ab (Aa (Ak rfl (Dm rfl rfl (fun t0=>?_) fun t0=>?_)))
  ·
   replace b0:=ip b0 t0
   refine o_z ?_
   refine Ah rfl ?_
   exact nomatch b0
  replace b0:=im b0 t0
  refine o_z ?_
  refine Ae rfl (AO ?_)
  obtain rfl:=sm b0
  exact show Exists _ from ⟨_,(),rfl,⟨rfl,rfl,rfl,rfl,rfl,trivial⟩,_,hB,a0,p1⟩
 rintro q2 r2 ⟨s2,t2,rfl,u0,q1,hB,a0,l0⟩
 replace hm:=AR hm
 refine AH _ u0 ?_
 refine Ab (Aa (Ak rfl ?_))
 obtain ⟨u2,r1,hm⟩:=bs hm
 refine CZ 2 (O:=q1) (FV Fr.lt l0 r1) rfl fun s1 t1 v2 u1 v0 v1=>?_
 refine Am rfl (o_z ?_)
 refine Ab (Ab (Aa (Ak rfl (AS rfl ?_))))
 replace a0:=a0.st v0
 have w0:x0.length≤9223372036854775807:=Nat.le_trans a0.len.2.1 a0.len.2.2
 have w2:inI64 (x0.length:Int):=rngNat w0
 refine Ak rfl (o_z ?_)
 obtain ⟨h0,y0,hm⟩:=bs hm
 refine Ay (aft h0 (fun (d0:(List Eff)) (c0:(Option Addr×Nat))=>[(6,(.slice c0.1 d0.length c0.2))]) (fun d0 c0 w'=>∃ O':Lab,Bs w A w' O'∧Rw 2 w' O' 85 (.slice c0.1 d0.length c0.2) d0)) ?_ ?_
 ·
  refine AK ?_
  replace hB:=hB.st v0
  refine AY (σ:=(List Eff)) (X:=(Option Addr×Nat)) (x0.length) y0 rfl w0 (fun (d0:(List Eff)) (c0:(Option Addr×Nat))=>[(6,(.slice c0.1 d0.length c0.2)),(25,(.slice A2 x0.length c3))]) _ (fun d0 c0 w'=>∃ O':Lab,Bs w A w' O'∧Rw 2 w' O' 85 (.slice c0.1 d0.length c0.2) d0∧Vb w' (Fr 0 w' O') (.slice A2 x0.length c3) x0) _ (s1,t1) ⟨u1,hB,v1,a0⟩ ⟨rfl,rfl,rfl,rfl,trivial⟩ (fun _ _=>⟨rfl,rfl⟩) (fun _ _=>⟨rfl,trivial⟩) (fun _ _ _ ⟨O',hB,i0,a0⟩=>⟨O',hB,i0⟩) ⟨rfl,rfl,rfl⟩ ⟨rfl,rfl⟩ ?_
  rintro w1 x2 d0 c0 y2 x1 j0 ⟨z2,hB,i0,a0⟩ e0 z0 a1
  have rk62:inI64 (w1:Int):=rngK j0 w0
  refine Ab (Aa ?_)
  obtain ⟨a3,b3,y1,b1,c1,d1,d3,rfl,m0⟩:=a0.elem' j0
  replace m0:=Vb.of_slice m0
  obtain ⟨e3,f3,rfl⟩:=m0.form
  refine Bi (hA:=b1) (hj:=rfl) (hlt:=c1) rfl rfl ?_
  refine At (hc:=cat0 d1) rfl ?_
  refine Am rfl (o_z ?_)
  refine Aa (Ak rfl (Ak rfl ?_))
  obtain ⟨g3,e1,e0⟩:=bs e0
  obtain ⟨e1,z1,a2⟩:=AI e1
  refine AZ rfl i0 (m0.rd) rfl rfl z1 a2 fun b2 c2 h3 i3 h1 i1=>?_
  rw [← e1] at i1 ⊢
  refine Am rfl (o_z ?_)
  obtain rfl:=sm e0
  exact show Exists _ from ⟨_,(b2,c2),rfl,⟨rfl,rfl,rfl,rfl,trivial⟩,_,hB.st h1,i1,a0.st h1⟩
 replace hB:=hB.st v0
 rintro j3 d2 ⟨e2,f2,rfl,k0,g2,hB,i0⟩
 replace hm:=AR hm
 refine AH _ k0 ?_
 refine Ab (Aa (Ak rfl (Am rfl (o_z ?_))))
 refine AF ?_
 obtain rfl:=sm hm
 exact ret1v rfl (AA rfl) ⟨hB.ext,(i0.out hB (by decide))⟩
noncomputable def BS (x0:Lay) (x1:ByteArray) (x2:List Fct) (x3:List Fct) (x4:List Fct) (x5:List Eff):Option Opr :=
  bnd (BH [x2,x4,[(⟨x0.phase,0⟩:Fct)]]) fun q56=>bnd (rng (ρ:=Opr) (fun (k79:Nat) (a80:Fct) (s77:(List Eff))=>bnd (appI 40 s77 [(⟨([]:List Fct),a80.var,a80.val⟩:Eff)]) fun u110=>some (.next u110)) x3 0 ([]:List Eff)) fun res75=>fin res75 fun (s128:(List Eff))=>bnd (CA x0 x2 x3) fun q130=>bnd (appI 16 q56 q130.1) fun u145=>bnd (BA [s128,x5,q130.2]) fun q168=>bnd (if u145.length < 4611686018427387904 then some (AG u145) else none) fun u185=>some (⟨x1,0,u185,q168⟩:Opr)
theorem FC {w:World} {A:Nat→Prop} (hA:∀ k,A k→k < w.heap.size) {vx0:Value} {x0:Lay} (k3:Vb w A vx0 x0) {x1:ByteArray} (zx1:x1.size≤9223372036854775807) {vx2:Value} {x2:List Fct} (j0:Vb w A vx2 x2) {vx3:Value} {x3:List Fct} (r0:Vb w A vx3 x3) {vx4:Value} {x4:List Fct} (g2:Vb w A vx4 x4) {vx5:Value} {x5:List Eff} (p0:Vb w A vx5 x5) {r:Opr} (hm:BS x0 x1 x2 x3 x4 x5=some r) :
    Fn prog 39 [vx0,(.string x1),vx2,vx3,vx4,vx5] w fun v w'=>Ext w w'∧Vb w' (upA A w w') v r:=by
 obtain ⟨O,hB,p2⟩:=enter hA
 replace k3:=k3.mono p2
 obtain ⟨i6,rfl,v8,v9,j6,rfl,b1,c1,d1,z4,v4⟩:=k3
 obtain ⟨h2,i2,rfl⟩:=b1.form
 obtain ⟨j2,k2,rfl⟩:=c1.form
 obtain ⟨l2,m2,rfl⟩:=d1.form
 replace j0:=j0.mono p2
 obtain ⟨g3,h3,rfl⟩:=j0.form
 replace r0:=r0.mono p2
 obtain ⟨q2,r2,rfl⟩:=r0.form
 replace g2:=g2.mono p2
 obtain ⟨k6,l6,rfl⟩:=g2.form
 replace p0:=p0.mono p2
 obtain ⟨i3,j3,rfl⟩:=p0.form
 refine AL func39 rfl ntmps39 ?_
 unfold BS at hm
 refine Ab (Aa (BL 2 O rfl fun s2 a5 w4 t0 q0=>?_))
 replace q0:Lc 2 a5 w4 s2 74 [(.int .i64 x0.jobs),(.slice h2 x0.write.length i2),(.slice j2 x0.read.length k2),(.int .i64 x0.phase),(.slice l2 x0.vars.length m2)]:=q0
 refine AU 3 w4 fun t2 m6 b5 s0 g0=>?_
 refine o_z ?_
 refine Ab (Aa (Ak rfl (Ak rfl (Ak rfl (Ax rfl ?_)))))
 replace q0:=q0.st s0
 refine At (hc:=Blk.cell (i:=3) (q0.1) rfl) rfl ?_
 refine Cl rfl rfl ?_
 refine AQ 4 b5 (xs:=([(⟨x0.phase,0⟩:Fct)]:List Fct)) rfl rfl rfl ⟨(Vb.ofAgg (cs:=[(.int .i64 x0.phase),(.int .i64 0)]) (x:=(⟨x0.phase,0⟩:Fct)) rfl ⟨rfl,v4,(iI64 0)⟩),trivial⟩ fun n6 o6 p6 k0 l3=>?_
 obtain ⟨c5,l0,l3⟩:=l3.freeze
 replace j0:=(((j0.st t0).st s0).st k0).st l0
 replace g2:=(((g2.st t0).st s0).st k0).st l0
 refine AQ 5 c5 (xs:=([x2,x4,[(⟨x0.phase,0⟩:Fct)]]:List (List Fct))) rfl rfl rfl ⟨j0,g2,l3,trivial⟩ fun q6 r6 s6 m0 m3=>?_
 obtain ⟨d5,n0,m3⟩:=m3.freeze
 obtain ⟨u1,e5,hm⟩:=bs hm
 refine CZ 6 (O:=d5) (Gm Fr.lt m3 e5) rfl fun n2 o2 t6 f5 o0 u0=>?_
 refine Cl rfl rfl ?_
 refine AU 7 f5 fun v1 u6 y4 h0 a0=>?_
 refine Az a0 rfl rfl rfl (AJ) (allOne) fun g5 i0 a0=>?_
 replace a0:Lc 7 g5 y4 v1 82 [(.string x1),(.int .i64 0),(.slice n2 u1.length o2),(.slice none 0 0)]:=a0
 refine o_z ?_
 refine Ab (Ab (Aa (Ak rfl (AS rfl ?_))))
 replace r0:=((((((((r0.st t0).st s0).st k0).st l0).st m0).st n0).st o0).st h0).st i0
 have n3:x3.length≤9223372036854775807:=Nat.le_trans r0.len.2.1 r0.len.2.2
 have v6:inI64 (x3.length:Int):=rngNat n3
 refine Ak rfl (o_z ?_)
 obtain ⟨u2,o3,hm⟩:=bs hm
 refine Ay (aft u2 (fun (l1:(List Eff)) (e1:(Option Addr×Nat))=>[(2,(.slice g3 x2.length h3)),(3,(.slice q2 x3.length r2)),(5,(.slice i3 x5.length j3)),(6,(.pointer (some ⟨s2,0,none⟩))),(12,(.pointer (some ⟨t2,0,none⟩))),(13,(.pointer (some ⟨v1,0,none⟩)))]) (fun l1 e1 w'=>∃ O':Lab,Bs w A w' O'∧Vb w' (Fr 0 w' O') (.slice g3 x2.length h3) x2∧Vb w' (Fr 0 w' O') (.slice q2 x3.length r2) x3∧Vb w' (Fr 0 w' O') (.slice i3 x5.length j3) x5∧Lc 2 w' O' s2 74 [(.int .i64 x0.jobs),(.slice h2 x0.write.length i2),(.slice j2 x0.read.length k2),(.int .i64 x0.phase),(.slice l2 x0.vars.length m2)]∧Vb w' (Fr 0 w' O') (.slice h2 x0.write.length i2) x0.write∧Vb w' (Fr 0 w' O') (.slice j2 x0.read.length k2) x0.read∧Vb w' (Fr 0 w' O') (.slice l2 x0.vars.length m2) x0.vars∧Lc 3 w' O' t2 82 [(.string (⟨#[]⟩:ByteArray)),(.int .i64 0),(.slice none 0 0),(.slice none 0 0)]∧Lc 7 w' O' v1 82 [(.string x1),(.int .i64 0),(.slice n2 u1.length o2),(.slice e1.1 l1.length e1.2)]∧Rw 6 w' O' 78 (.slice n2 u1.length o2) u1∧Rw 9 w' O' 85 (.slice e1.1 l1.length e1.2) l1)) ?_ ?_
 ·
  refine AK ?_
  replace hB:=((((((((hB.st t0).st s0).st k0).st l0).st m0).st n0).st o0).st h0).st i0
  replace j0:=((((j0.st m0).st n0).st o0).st h0).st i0
  replace p0:=((((((((p0.st t0).st s0).st k0).st l0).st m0).st n0).st o0).st h0).st i0
  replace b1:=((((((((b1.st t0).st s0).st k0).st l0).st m0).st n0).st o0).st h0).st i0
  replace c1:=((((((((c1.st t0).st s0).st k0).st l0).st m0).st n0).st o0).st h0).st i0
  replace d1:=((((((((d1.st t0).st s0).st k0).st l0).st m0).st n0).st o0).st h0).st i0
  replace q0:=((((((q0.st k0).st l0).st m0).st n0).st o0).st h0).st i0
  replace g0:=((((((g0.st k0).st l0).st m0).st n0).st o0).st h0).st i0
  replace u0:=(u0.st h0).st i0
  refine AY (σ:=(List Eff)) (X:=(Option Addr×Nat)) (x3.length) o3 rfl n3 (fun (l1:(List Eff)) (e1:(Option Addr×Nat))=>[(2,(.slice g3 x2.length h3)),(3,(.slice q2 x3.length r2)),(5,(.slice i3 x5.length j3)),(6,(.pointer (some ⟨s2,0,none⟩))),(12,(.pointer (some ⟨t2,0,none⟩))),(13,(.pointer (some ⟨v1,0,none⟩))),(28,(.slice q2 x3.length r2))]) _ (fun l1 e1 w'=>∃ O':Lab,Bs w A w' O'∧Vb w' (Fr 0 w' O') (.slice g3 x2.length h3) x2∧Vb w' (Fr 0 w' O') (.slice q2 x3.length r2) x3∧Vb w' (Fr 0 w' O') (.slice i3 x5.length j3) x5∧Lc 2 w' O' s2 74 [(.int .i64 x0.jobs),(.slice h2 x0.write.length i2),(.slice j2 x0.read.length k2),(.int .i64 x0.phase),(.slice l2 x0.vars.length m2)]∧Vb w' (Fr 0 w' O') (.slice h2 x0.write.length i2) x0.write∧Vb w' (Fr 0 w' O') (.slice j2 x0.read.length k2) x0.read∧Vb w' (Fr 0 w' O') (.slice l2 x0.vars.length m2) x0.vars∧Lc 3 w' O' t2 82 [(.string (⟨#[]⟩:ByteArray)),(.int .i64 0),(.slice none 0 0),(.slice none 0 0)]∧Lc 7 w' O' v1 82 [(.string x1),(.int .i64 0),(.slice n2 u1.length o2),(.slice e1.1 l1.length e1.2)]∧Rw 6 w' O' 78 (.slice n2 u1.length o2) u1∧Rw 9 w' O' 85 (.slice e1.1 l1.length e1.2) l1) _ (none,0) ⟨y4,hB,j0,r0,p0,q0,b1,c1,d1,g0,a0,u0,(Rw.nil 9 (by decide))⟩ ⟨rfl,rfl,rfl,rfl,rfl,rfl,rfl,rfl,rfl,trivial⟩ (fun _ _=>⟨rfl,rfl⟩) (fun _ _=>⟨rfl,rfl,rfl,rfl,rfl,rfl,trivial⟩) (fun _ _ _ ⟨O',hB,j0,r0,p0,q0,b1,c1,d1,g0,a0,u0,f1⟩=>⟨O',hB,j0,r0,p0,q0,b1,c1,d1,g0,a0,u0,f1⟩) ⟨rfl,rfl,rfl⟩ ⟨rfl,rfl⟩ ?_
  rintro h5 w1 l1 e1 w6 i5 v2 ⟨j5,hB,j0,r0,p0,q0,b1,c1,d1,g0,a0,u0,f1⟩ y1 p3 q3
  have rk79:inI64 (h5:Int):=rngK v2 n3
  refine Ab (Aa ?_)
  obtain ⟨x6,y6,k5,r3,s3,t3,rfl,u3,v3⟩:=r0.elem' v2
  refine Bi (hA:=r3) (hj:=rfl) (hlt:=s3) rfl rfl ?_
  refine Bd (hl:=rfl) (hc:=t3) rfl ?_
  refine AU 8 j5 fun w3 l5 y3 c0 v0=>?_
  refine Az v0 rfl rfl rfl (AJ) (allOne) fun z3 d0 v0=>?_
  replace v0:Lc 8 z3 y3 w3 78 [(.int .i64 w1.var),(.int .i64 w1.val)]:=v0
  refine o_z ?_
  refine Aa (Ax rfl ?_)
  replace a0:=(a0.st c0).st d0
  refine At (hc:=Blk.cell (i:=3) (a0.1) rfl) rfl ?_
  refine Ax rfl (At (hc:=Blk.cell (i:=0) (v0.1) rfl) rfl ?_)
  refine Ax rfl (At (hc:=Blk.cell (i:=1) (v0.1) rfl) rfl ?_)
  refine Cl rfl rfl ?_
  obtain ⟨a4,z1,y1⟩:=bs y1
  obtain ⟨z1,b4,c4⟩:=AI z1
  replace f1:=(f1.st c0).st d0
  refine BC rfl (a:=(⟨([]:List Fct),w1.var,w1.val⟩:Eff)) f1 (Vb.ofAgg (cs:=[(.slice none 0 0),(.int .i64 w1.var),(.int .i64 w1.val)]) (x:=(⟨([]:List Fct),w1.var,w1.val⟩:Eff)) rfl ⟨_,rfl,(Vb.nil _ _),u3,v3⟩) (fun _=>rfl) rfl b4 c4 ⟨rfl,rfl⟩ fun m5 w2 y2 n5 d4 e0 z2=>?_
  rw [← z1] at z2 ⊢
  refine Ax rfl ?_
  replace a0:=a0.st e0
  refine Az a0 rfl rfl rfl (AJ) (allOne) fun e4 f0 a0=>?_
  replace a0:Lc 7 e4 d4 v1 82 [(.string x1),(.int .i64 0),(.slice n2 u1.length o2),(.slice w2 a4.length y2)]:=a0
  refine o_z ?_
  obtain rfl:=sm y1
  exact show Exists _ from ⟨_,(w2,y2),rfl,⟨rfl,rfl,rfl,rfl,rfl,rfl,rfl,rfl,rfl,trivial⟩,_,(((hB.st c0).st d0).st e0).st f0,(((j0.st c0).st d0).st e0).st f0,(((r0.st c0).st d0).st e0).st f0,(((p0.st c0).st d0).st e0).st f0,(((q0.st c0).st d0).st e0).st f0,(((b1.st c0).st d0).st e0).st f0,(((c1.st c0).st d0).st e0).st f0,(((d1.st c0).st d0).st e0).st f0,(((g0.st c0).st d0).st e0).st f0,a0,(((u0.st c0).st d0).st e0).st f0,z2.st f0⟩
 replace hB:=((((((((hB.st t0).st s0).st k0).st l0).st m0).st n0).st o0).st h0).st i0
 replace j0:=((((j0.st m0).st n0).st o0).st h0).st i0
 replace p0:=((((((((p0.st t0).st s0).st k0).st l0).st m0).st n0).st o0).st h0).st i0
 replace b1:=((((((((b1.st t0).st s0).st k0).st l0).st m0).st n0).st o0).st h0).st i0
 replace c1:=((((((((c1.st t0).st s0).st k0).st l0).st m0).st n0).st o0).st h0).st i0
 replace d1:=((((((((d1.st t0).st s0).st k0).st l0).st m0).st n0).st o0).st h0).st i0
 replace q0:=((((((q0.st k0).st l0).st m0).st n0).st o0).st h0).st i0
 replace g0:=((((((g0.st k0).st l0).st m0).st n0).st o0).st h0).st i0
 replace u0:=(u0.st h0).st i0
 rintro o5 p5 ⟨a3,b3,rfl,c3,f4,hB,j0,r0,p0,q0,b1,c1,d1,g0,a0,u0,f1⟩
 replace hm:=AR hm
 refine AH _ c3 ?_
 refine Ab (Aa (Bd (hl:=rfl) (hc:=(q0.1).cellsAt) rfl ?_))
 refine Ak rfl (Ak rfl ?_)
 obtain ⟨d3,g4,hm⟩:=bs hm
 refine GV (O:=f4) (R:=fun w' F v=>T2 w' F v d3) (IH Fr.lt (Vb.ofAgg (cs:=[(.int .i64 x0.jobs),(.slice h2 x0.write.length i2),(.slice j2 x0.read.length k2),(.int .i64 x0.phase),(.slice l2 x0.vars.length m2)]) (x:=x0) rfl ⟨_,_,_,rfl,b1,c1,d1,z4,v4⟩) j0 r0 g4) rfl rfl fun q5 r5 s5 w0 h4=>?_
 obtain ⟨t5,u5,rfl,e3,m1⟩:=h4
 obtain ⟨v5,w5,rfl⟩:=e3.form
 obtain ⟨y5,z5,rfl⟩:=m1.form
 refine Ak rfl (DU rfl rfl (DU rfl rfl (Am rfl (Am rfl (o_z ?_)))))
 refine Ab (Aa (Ax rfl ?_))
 replace a0:=a0.st w0
 refine At (hc:=Blk.cell (i:=2) (a0.1) rfl) rfl ?_
 refine Ak rfl ?_
 obtain ⟨g1,a2,hm⟩:=bs hm
 obtain ⟨a2,i4,j4⟩:=AI a2
 replace u0:=u0.st w0
 refine AZ rfl u0 (e3.rd) rfl rfl i4 j4 fun h1 i1 a6 k4 y0 b0=>?_
 rw [← a2] at b0 ⊢
 refine Ax rfl ?_
 replace a0:=a0.st y0
 refine Az a0 rfl rfl rfl (AJ) (allOne) fun l4 z0 a0=>?_
 replace a0:Lc 7 l4 k4 v1 82 [(.string x1),(.int .i64 0),(.slice h1 g1.length i1),(.slice b3.1 a3.length b3.2)]:=a0
 refine o_z ?_
 refine Ab (Aa (Ax rfl (At (hc:=Blk.cell (i:=3) (a0.1) rfl) rfl ?_)))
 refine Ak rfl (Ak rfl ?_)
 replace f1:=((f1.st w0).st y0).st z0
 obtain ⟨m4,a1,f1⟩:=f1.freeze
 replace p0:=(((p0.st w0).st y0).st z0).st a1
 replace m1:=((m1.st y0).st z0).st a1
 refine AQ 10 m4 (xs:=([a3,x5,d3.2]:List (List Eff))) rfl rfl rfl ⟨f1,p0,m1,trivial⟩ fun b6 c6 d6 n1 b2=>?_
 obtain ⟨n4,o1,b2⟩:=b2.freeze
 obtain ⟨j1,o4,hm⟩:=bs hm
 refine CZ 11 (O:=n4) (FI Fr.lt b2 o4) rfl fun p1 q1 e6 p4 r1 k1=>?_
 refine Ax rfl ?_
 replace a0:=(((a0.st a1).st n1).st o1).st r1
 refine Az a0 rfl rfl rfl (AJ) (allOne) fun q4 s1 a0=>?_
 replace a0:Lc 7 q4 p4 v1 82 [(.string x1),(.int .i64 0),(.slice h1 g1.length i1),(.slice p1 j1.length q1)]:=a0
 refine o_z ?_
 refine Ab (Aa (Ax rfl (At (hc:=Blk.cell (i:=2) (a0.1) rfl) rfl ?_)))
 obtain ⟨r4,c2,hm⟩:=bs hm
 obtain ⟨s4,c2⟩:=CL c2
 replace b0:=(((((b0.st z0).st a1).st n1).st o1).st r1).st s1
 refine Pk (Hd b0 s4) rfl rfl fun f6 g6 t4 t1 b0=>?_
 rw [c2] at b0
 refine o_z ?_
 refine Ab (Aa ?_)
 replace a0:=a0.st t1
 refine Bd (hl:=rfl) (hc:=(a0.1).cellsAt) rfl ?_
 replace g0:=((((((((g0.st w0).st y0).st z0).st a1).st n1).st o1).st r1).st s1).st t1
 refine Az g0 rfl rfl rfl (AJ) (allOne) fun f3 d2 g0=>?_
 replace g0:Lc 3 f3 t4 t2 82 [(.string x1),(.int .i64 0),(.slice h1 g1.length i1),(.slice p1 j1.length q1)]:=g0
 refine o_z ?_
 refine AF ?_
 replace b0:=b0.st d2
 obtain ⟨h6,e2,b0⟩:=b0.freeze
 replace k1:=(((k1.st s1).st t1).st d2).st e2
 obtain ⟨u4,f2,k1⟩:=k1.freeze
 obtain rfl:=sm hm
 replace hB:=(((((((((((hB.st w0).st y0).st z0).st a1).st n1).st o1).st r1).st s1).st t1).st d2).st e2).st f2
 replace g0:=(g0.st e2).st f2
 replace b0:=b0.st f2
 exact ret1v rfl (Er (cs:=[(.string x1),(.int .i64 0),(.slice h1 g1.length i1),(.slice p1 j1.length q1)]) rfl rfl g0.1.cellsAt) ⟨hB.ext,(Vb.mono (F:=Fr 0 f3 u4) (Vb.ofAgg (cs:=[(.string x1),(.int .i64 0),(.slice h1 g1.length i1),(.slice p1 j1.length q1)]) (x:=(⟨x1,0,r4,j1⟩:Opr)) rfl ⟨_,_,rfl,b0,k1,(iI64 0),zx1⟩) hB.out)⟩
noncomputable def Cs (x0:Lay) (x1:Job) (x2:Int) (x3:Int):Option Opr :=
  bnd (catI (⟨#[119,97,105,116,32]⟩:ByteArray) x1.name) fun n58=>bnd (catI n58 (⟨#[32]⟩:ByteArray)) fun n60=>bnd (Dd x3) fun q62=>bnd (catI n60 q62) fun n64=>bnd (if 0 < x3 then (bnd (BD x1.over) fun q143=>some q143) else (some ([]:List Fct)):Option (List Fct)) fun y136=>bnd (chkI (x2 + 1)) fun n159=>bnd (Bz x0 x2) fun q162=>bnd (appI 16 y136 [(⟨q162,x3⟩:Fct),(⟨x0.phase,n159⟩:Fct)]) fun u176=>bnd (if 1 < x3 then (bnd (chkI (x3 - 1)) fun n196=>bnd (Bz x0 x2) fun q199=>bnd (appI 40 ([]:List Eff) [(⟨([]:List Fct),q199,n196⟩:Eff)]) fun u215=>some u215) else (if x3=1 then (bnd (chkI (x1.dur + 1)) fun n229=>bnd (Bz x0 x2) fun q232=>bnd (appI 40 ([]:List Eff) [(⟨([]:List Fct),q232,n229⟩:Eff)]) fun u248=>some u248) else (some ([]:List Eff))):Option (List Eff)) fun y189=>bnd (chkI (x2 + 2)) fun n265=>bnd (appI 40 y189 [(⟨([]:List Fct),x0.phase,n265⟩:Eff)]) fun u268=>some (⟨n64,0,u176,u268⟩:Opr)
theorem IV {w:World} {A:Nat→Prop} (hA:∀ k,A k→k < w.heap.size) {vx0:Value} {x0:Lay} (a4:Vb w A vx0 x0) {vx1:Value} {x1:Job} (b4:Vb w A vx1 x1) {x2:Int} (rx2:inI64 x2) {x3:Int} (rx3:inI64 x3) {r:Opr} (hm:Cs x0 x1 x2 x3=some r) :
    Fn prog 40 [vx0,vx1,(.int .i64 x2),(.int .i64 x3)] w fun v w'=>Ext w w'∧Vb w' (upA A w w') v r:=by
 obtain ⟨O,hB,t6⟩:=enter hA
 replace a4:=a4.mono t6
 obtain ⟨u8,rfl,v6,v7,v8,rfl,h9,u0,v0,c4,f3⟩:=a4
 obtain ⟨u1,v1,rfl⟩:=h9.form
 obtain ⟨w1,y1,rfl⟩:=u0.form
 obtain ⟨z1,a2,rfl⟩:=v0.form
 replace b4:=b4.mono t6
 obtain ⟨c7,rfl,w8,x8,y8,z8,a9,rfl,b3,p1,c3,d3,e3,b9,c9⟩:=b4
 obtain ⟨d4,e4,rfl⟩:=b3.form
 obtain ⟨f4,g4,rfl⟩:=p1.form
 obtain ⟨h4,i4,rfl⟩:=c3.form
 obtain ⟨j4,k4,rfl⟩:=d3.form
 obtain ⟨l4,m4,rfl⟩:=e3.form
 refine AL func40 rfl ntmps40 ?_
 unfold Cs at hm
 refine Ab (Aa (BL 2 O rfl fun b2 d7 u6 m0 s0=>?_))
 replace s0:Lc 2 d7 u6 b2 74 [(.int .i64 x0.jobs),(.slice u1 x0.write.length v1),(.slice w1 x0.read.length y1),(.int .i64 x0.phase),(.slice z1 x0.vars.length a2)]:=s0
 refine BL 3 u6 rfl fun g3 e7 w6 j0 i1=>?_
 replace i1:Lc 3 e7 w6 g3 66 [(.string x1.name),(.int .i64 x1.dur),(.slice d4 x1.start.length e4),(.slice f4 x1.over.length g4),(.slice h4 x1.fin.length i4),(.slice j4 x1.atStart.length k4),(.slice l4 x1.atEnd.length m4)]:=i1
 refine AU 4 w6 fun c2 d9 f7 i0 t0=>?_
 refine o_z ?_
 refine Ab ?_
 obtain ⟨e9,g7,hm⟩:=bs hm
 obtain ⟨x6,h7,hm⟩:=bs hm
 obtain ⟨y3,i7,hm⟩:=bs hm
 obtain ⟨j1,y6,hm⟩:=bs hm
 refine Br [] f7 ?_
 refine AP (fuel:=5) [] [(0,true),(1,true),(4,true),(2,true),(3,true)] rfl ?_
 refine AT rfl rfl ?_
 replace i1:=i1.st i0
 refine AV (hc:=bCell i1 0 rfl) rfl rfl ?_
 refine AX rfl rfl (Hq (he:=g7) rfl rfl rfl ?_)
 refine Hq (he:=h7) rfl rfl rfl ?_
 refine AC ?_
 refine GX (l0:=[(2,(.int .i64 x2)),(3,(.int .i64 x3)),(4,(.pointer (some ⟨b2,0,none⟩))),(5,(.pointer (some ⟨g3,0,none⟩))),(8,(.pointer (some ⟨c2,0,none⟩))),(13,(.string x6)),(14,(.int .i64 x3))]) (zs:=[⟨5,15,fun v w O=>v=(.string y3)∧y3.size≤9223372036854775807⟩,⟨6,16,fun v w O=>v=(.string j1)⟩,⟨7,17,fun v w O=>v=(.agg #[(.string j1),(.int .i64 0),(.slice none 0 0),(.slice none 0 0)])⟩,⟨8,9,fun v w O=>∃ (z3:Nat),v=(.pointer (some ⟨z3,0,none⟩))∧Lc 5 w O z3 82 [(.string (⟨#[]⟩:ByteArray)),(.int .i64 0),(.slice none 0 0),(.slice none 0 0)]⟩]) #[true,true,true,true,true,true,true,true,true,false] 1 [] ⟨rfl,rfl,rfl,rfl,rfl,rfl,rfl,trivial⟩ ⟨⟨fun _ _ _ _ _ ⟨e,j7⟩ hS=>⟨e,j7⟩,?_⟩,⟨fun _ _ _ _ _ e hS=>e,?_⟩,⟨fun _ _ _ _ _ e hS=>e,?_⟩,⟨fun _ _ _ _ _ ⟨z3,e,k7⟩ hS=>⟨z3,e,k7.st hS id⟩,?_⟩,trivial⟩ ?_ rfl
 ·
  refine ⟨_,rfl,fun f9 g9 l7 i9 n4 hD74=>?_⟩
  refine ⟨[(14,(.int .i64 x3))],⟨Ar n4 14 _ rfl,trivial⟩,fun Q75 hQ76=>?_⟩
  refine AM (O:=l7) (Hk (fun _ h=>h) rx3 i7) rfl fun j9 k9 l9 m7 n7=>?_
  obtain ⟨rfl,o7⟩:=n7.str
  refine Bo (hQ76 _ _ ⟨_,_,rfl,m7,⟨rfl,o7⟩⟩)
 ·
  refine ⟨_,rfl,fun m9 n9 o9 p9 o4 hD91=>?_⟩
  obtain ⟨_,p7,rfl,z6⟩:=hD91.at 0 rfl (by kernel_rfl)
  replace z6:y3.size≤9223372036854775807:=z6
  refine ⟨[(13,(.string x6)),(15,(.string y3))],⟨Ar o4 13 _ rfl,p7,trivial⟩,fun Q92 hQ93=>?_⟩
  refine Sf (he:=y6) rfl rfl rfl ?_
  refine Bo (hQ93 _ _ ⟨_,_,rfl,St.refl _ _ _,rfl⟩)
 ·
  refine ⟨_,rfl,fun q9 r9 s9 t9 a7 hD101=>?_⟩
  obtain ⟨_,p4,rfl⟩:=hD101.at 1 rfl (by kernel_rfl)
  refine ⟨[(16,(.string j1))],⟨p4,trivial⟩,fun Q102 hQ103=>?_⟩
  refine Cl rfl rfl ?_
  refine Bo (hQ103 _ _ ⟨_,_,rfl,St.refl _ _ _,rfl⟩)
 ·
  refine ⟨_,rfl,fun q7 r7 q4 s7 b7 hD110=>?_⟩
  refine ⟨[],trivial,fun Q111 hQ112=>?_⟩
  refine AU 5 q4 fun t7 u7 w7 r4 s4=>?_
  refine Bo (hQ112 _ _ ⟨_,_,rfl,r4,⟨_,rfl,s4⟩⟩)
 intro x7 t4 d2 b0 f1 hD129
 obtain ⟨_,u4,q0,rfl,a0⟩:=hD129.at 3 rfl rfl
 replace a0:Lc 5 t4 d2 q0 82 [(.string (⟨#[]⟩:ByteArray)),(.int .i64 0),(.slice none 0 0),(.slice none 0 0)]:=a0
 obtain ⟨_,v4,rfl⟩:=hD129.at 2 rfl rfl
 refine GW [(2,(.int .i64 x2)),(3,(.int .i64 x3)),(4,(.pointer (some ⟨b2,0,none⟩))),(5,(.pointer (some ⟨g3,0,none⟩))),(8,(.pointer (some ⟨c2,0,none⟩))),(9,(.pointer (some ⟨q0,0,none⟩))),(17,(.agg #[(.string j1),(.int .i64 0),(.slice none 0 0),(.slice none 0 0)]))] ⟨Ar f1 2 _ rfl,Ar f1 3 _ rfl,Ar f1 4 _ rfl,Ar f1 5 _ rfl,Ar f1 8 _ rfl,u4,v4,trivial⟩ ?_
 refine AD (i:=9) rfl ?_
 refine Az a0 rfl rfl rfl (AJ) (allOne) fun w4 c0 a0=>?_
 replace a0:Lc 5 w4 d2 q0 82 [(.string j1),(.int .i64 0),(.slice none 0 0),(.slice none 0 0)]:=a0
 refine BF ?_
 refine Bv ?_
 refine Ab ?_
 obtain ⟨e2,p0,hm⟩:=bs hm
 refine Ay (fun l' w'=>∃ (m1:(Option Addr×Nat)) (O':Lab),subs l' [(2,(.int .i64 x2)),(3,(.int .i64 x3)),(4,(.pointer (some ⟨b2,0,none⟩))),(5,(.pointer (some ⟨g3,0,none⟩))),(8,(.pointer (some ⟨c2,0,none⟩))),(9,(.pointer (some ⟨q0,0,none⟩)))]∧Bs w A w' O'∧Lc 2 w' O' b2 74 [(.int .i64 x0.jobs),(.slice u1 x0.write.length v1),(.slice w1 x0.read.length y1),(.int .i64 x0.phase),(.slice z1 x0.vars.length a2)]∧Vb w' (Fr 0 w' O') (.slice u1 x0.write.length v1) x0.write∧Vb w' (Fr 0 w' O') (.slice w1 x0.read.length y1) x0.read∧Vb w' (Fr 0 w' O') (.slice z1 x0.vars.length a2) x0.vars∧Lc 3 w' O' g3 66 [(.string x1.name),(.int .i64 x1.dur),(.slice d4 x1.start.length e4),(.slice f4 x1.over.length g4),(.slice h4 x1.fin.length i4),(.slice j4 x1.atStart.length k4),(.slice l4 x1.atEnd.length m4)]∧Vb w' (Fr 0 w' O') (.slice d4 x1.start.length e4) x1.start∧Vb w' (Fr 0 w' O') (.slice f4 x1.over.length g4) x1.over∧Vb w' (Fr 0 w' O') (.slice h4 x1.fin.length i4) x1.fin∧Vb w' (Fr 0 w' O') (.slice j4 x1.atStart.length k4) x1.atStart∧Vb w' (Fr 0 w' O') (.slice l4 x1.atEnd.length m4) x1.atEnd∧Lc 4 w' O' c2 82 [(.string (⟨#[]⟩:ByteArray)),(.int .i64 0),(.slice none 0 0),(.slice none 0 0)]∧Lc 5 w' O' q0 82 [(.string j1),(.int .i64 0),(.slice m1.1 e2.length m1.2),(.slice none 0 0)]∧Rw 6 w' O' 78 (.slice m1.1 e2.length m1.2) e2) ?_ ?_
 ·
  refine Ab (Aa (Ak rfl (BW rfl rfl (fun f2=>?_) fun f2=>?_)))
  ·
   replace p0:=ip p0 f2
   refine o_z ?_
   refine Ah rfl (Aa (Ax rfl ?_))
   replace i1:=(i1.st b0).st c0
   refine At (hc:=Blk.cell (i:=3) (i1.1) rfl) rfl ?_
   obtain ⟨x4,y4,p0⟩:=bs p0
   replace p1:=((((p1.st m0).st j0).st i0).st b0).st c0
   refine CZ 6 (O:=d2) (Ek Fr.lt p1 y4) rfl fun h3 i3 y7 z4 n0 a5=>?_
   refine Ax rfl ?_
   replace a0:=a0.st n0
   refine Az a0 rfl rfl rfl (AJ) (allOne) fun b5 o0 a0=>?_
   replace a0:Lc 5 b5 z4 q0 82 [(.string j1),(.int .i64 0),(.slice h3 x4.length i3),(.slice none 0 0)]:=a0
   refine o_z ?_
   obtain rfl:=sm p0
   exact ⟨(h3,i3),_,⟨rfl,rfl,rfl,rfl,rfl,rfl,trivial⟩,((((((hB.st m0).st j0).st i0).st b0).st c0).st n0).st o0,(((((s0.st j0).st i0).st b0).st c0).st n0).st o0,((((((h9.st m0).st j0).st i0).st b0).st c0).st n0).st o0,((((((u0.st m0).st j0).st i0).st b0).st c0).st n0).st o0,((((((v0.st m0).st j0).st i0).st b0).st c0).st n0).st o0,(i1.st n0).st o0,((((((b3.st m0).st j0).st i0).st b0).st c0).st n0).st o0,(p1.st n0).st o0,((((((c3.st m0).st j0).st i0).st b0).st c0).st n0).st o0,((((((d3.st m0).st j0).st i0).st b0).st c0).st n0).st o0,((((((e3.st m0).st j0).st i0).st b0).st c0).st n0).st o0,(((t0.st b0).st c0).st n0).st o0,a0,a5.st o0⟩
  replace p0:=im p0 f2
  refine o_z ?_
  refine Ae rfl (AO ?_)
  obtain rfl:=sm p0
  exact ⟨(none,0),_,⟨rfl,rfl,rfl,rfl,rfl,rfl,trivial⟩,((((hB.st m0).st j0).st i0).st b0).st c0,(((s0.st j0).st i0).st b0).st c0,((((h9.st m0).st j0).st i0).st b0).st c0,((((u0.st m0).st j0).st i0).st b0).st c0,((((v0.st m0).st j0).st i0).st b0).st c0,(i1.st b0).st c0,((((b3.st m0).st j0).st i0).st b0).st c0,((((p1.st m0).st j0).st i0).st b0).st c0,((((c3.st m0).st j0).st i0).st b0).st c0,((((d3.st m0).st j0).st i0).st b0).st c0,((((e3.st m0).st j0).st i0).st b0).st c0,(t0.st b0).st c0,a0,(Rw.nil 6 (by decide))⟩
 replace hB:=((((hB.st m0).st j0).st i0).st b0).st c0
 replace h9:=((((h9.st m0).st j0).st i0).st b0).st c0
 replace u0:=((((u0.st m0).st j0).st i0).st b0).st c0
 replace v0:=((((v0.st m0).st j0).st i0).st b0).st c0
 replace b3:=((((b3.st m0).st j0).st i0).st b0).st c0
 replace p1:=((((p1.st m0).st j0).st i0).st b0).st c0
 replace c3:=((((c3.st m0).st j0).st i0).st b0).st c0
 replace d3:=((((d3.st m0).st j0).st i0).st b0).st c0
 replace e3:=((((e3.st m0).st j0).st i0).st b0).st c0
 replace s0:=(((s0.st j0).st i0).st b0).st c0
 replace i1:=(i1.st b0).st c0
 replace t0:=(t0.st b0).st c0
 rintro z7 c5 ⟨m1,g2,j3,hB,s0,h9,u0,v0,i1,b3,p1,c3,d3,e3,t0,a0,h2⟩
 refine AH _ j3 ?_
 refine Ab (Br [(13,[6])] g2 ?_)
 refine AP (fuel:=6) [] [(0,true),(1,true),(2,true),(3,true),(5,true),(7,true),(8,true),(9,true),(10,true),(11,true)] rfl ?_
 refine AT rfl rfl (AV (hc:=bCell a0 2 rfl) rfl rfl ?_)
 refine CJ (hl:=rfl) (hb:=fun w' ⟨O',hq⟩=>((s0.st hq (by decide)).1).cellsAt) rfl rfl ?_
 refine AX rfl rfl (AX rfl rfl (AT rfl rfl (AV (hc:=bCell s0 3 rfl) rfl rfl ?_)))
 refine AX rfl rfl ?_
 obtain ⟨i2,k3,hm⟩:=bs hm
 have d5:=(Bq k3)
 refine Hp (he:=k3) rfl rfl rfl ?_
 refine Cq rfl rfl rfl ?_
 refine AC ?_
 refine AD (i:=4) rfl ?_
 obtain ⟨j2,e5,hm⟩:=bs hm
 refine AM (O:=g2) (BJ (fun _ h=>h) (Vb.mono (F:=Fr 0 c5 g2) (Vb.ofAgg (cs:=[(.int .i64 x0.jobs),(.slice u1 x0.write.length v1),(.slice w1 x0.read.length y1),(.int .i64 x0.phase),(.slice z1 x0.vars.length a2)]) (x:=x0) rfl ⟨_,_,_,rfl,h9,u0,v0,c4,f3⟩) Fr.lt) rx2 e5) rfl fun a8 b8 f5 f0 g5=>?_
 obtain ⟨rfl,h5⟩:=g5.int
 have hZ:=lZ f0
 refine AN [(13,[6])] hZ ?_
 refine AP (fuel:=4) [] [(6,true)] rfl ?_
 refine Cq rfl rfl rfl ?_
 refine AC ?_
 refine AD (i:=12) rfl ?_
 refine AQ 7 f5 (xs:=([(⟨j2,x3⟩:Fct),(⟨x0.phase,i2⟩:Fct)]:List Fct)) rfl rfl rfl ⟨(Vb.ofAgg (cs:=[(.int .i64 j2),(.int .i64 x3)]) (x:=(⟨j2,x3⟩:Fct)) rfl ⟨rfl,h5,rx3⟩),(Vb.ofAgg (cs:=[(.int .i64 x0.phase),(.int .i64 i2)]) (x:=(⟨x0.phase,i2⟩:Fct)) rfl ⟨rfl,f3,d5⟩),trivial⟩ fun c8 d8 e8 g0 i5=>?_
 have hZ:=lZ g0
 refine AN [(13,[6])] hZ ?_
 refine AD (i:=13) rfl ?_
 obtain ⟨r0,k2,hm⟩:=bs hm
 obtain ⟨k2,j5,k5⟩:=AI k2
 replace h2:=(h2.st f0).st g0
 refine AZ rfl h2 (i5.rd) rfl rfl j5 k5 fun w0 y0 f8 k1 h0 k0=>?_
 rw [← k2] at k0 ⊢
 have hZ:=h0.lst [6] (fun _ h=>by cases h;decide)
 refine AN [] hZ ?_
 refine AP (fuel:=1) [] [(14,true)] rfl ?_
 refine AT rfl rfl (AC ?_)
 refine AD (i:=15) rfl ?_
 replace a0:=((a0.st f0).st g0).st h0
 refine Az a0 rfl rfl rfl (AJ) (allOne) fun l2 e0 a0=>?_
 replace a0:Lc 5 l2 k1 q0 82 [(.string j1),(.int .i64 0),(.slice w0 r0.length y0),(.slice none 0 0)]:=a0
 refine BF ?_
 refine Bv ?_
 refine Ab ?_
 obtain ⟨m2,d0,hm⟩:=bs hm
 refine Ay (fun l' w'=>∃ (n1:(Option Addr×Nat)) (O':Lab),subs l' [(2,(.int .i64 x2)),(4,(.pointer (some ⟨b2,0,none⟩))),(8,(.pointer (some ⟨c2,0,none⟩))),(9,(.pointer (some ⟨q0,0,none⟩)))]∧Bs w A w' O'∧Lc 2 w' O' b2 74 [(.int .i64 x0.jobs),(.slice u1 x0.write.length v1),(.slice w1 x0.read.length y1),(.int .i64 x0.phase),(.slice z1 x0.vars.length a2)]∧Vb w' (Fr 0 w' O') (.slice u1 x0.write.length v1) x0.write∧Vb w' (Fr 0 w' O') (.slice w1 x0.read.length y1) x0.read∧Vb w' (Fr 0 w' O') (.slice z1 x0.vars.length a2) x0.vars∧Lc 4 w' O' c2 82 [(.string (⟨#[]⟩:ByteArray)),(.int .i64 0),(.slice none 0 0),(.slice none 0 0)]∧Lc 5 w' O' q0 82 [(.string j1),(.int .i64 0),(.slice w0 r0.length y0),(.slice n1.1 m2.length n1.2)]∧Rw 6 w' O' 78 (.slice w0 r0.length y0) r0∧Rw 9 w' O' 85 (.slice n1.1 m2.length n1.2) m2) ?_ ?_
 ·
  refine AK (Ab (Aa (Ak rfl (BW rfl rfl (fun n2=>?_) fun n2=>?_))))
  ·
   replace d0:=ip d0 n2
   refine Am rfl (o_z ?_)
   refine Ah rfl (Br [(9,[9])] k1 ?_)
   refine AP (fuel:=6) [] [(0,true),(1,true),(2,true),(3,true),(5,true),(6,true)] rfl ?_
   refine AT rfl rfl (AV (hc:=bCell a0 3 rfl) rfl rfl ?_)
   replace s0:=(((s0.st f0).st g0).st h0).st e0
   refine CJ (hl:=rfl) (hb:=fun w' ⟨O',hq⟩=>((s0.st hq (by decide)).1).cellsAt) rfl rfl ?_
   refine AX rfl rfl (AX rfl rfl ?_)
   obtain ⟨o2,l3,d0⟩:=bs d0
   have l5:=(Bq l3)
   refine OT (he:=l3) rfl rfl rfl rfl ?_
   refine AC ?_
   refine AD (i:=4) rfl ?_
   obtain ⟨p2,m5,d0⟩:=bs d0
   replace h9:=(((h9.st f0).st g0).st h0).st e0
   replace u0:=(((u0.st f0).st g0).st h0).st e0
   replace v0:=(((v0.st f0).st g0).st h0).st e0
   refine AM (O:=k1) (BJ (fun _ h=>h) (Vb.mono (F:=Fr 0 l2 k1) (Vb.ofAgg (cs:=[(.int .i64 x0.jobs),(.slice u1 x0.write.length v1),(.slice w1 x0.read.length y1),(.int .i64 x0.phase),(.slice z1 x0.vars.length a2)]) (x:=x0) rfl ⟨_,_,_,rfl,h9,u0,v0,c4,f3⟩) Fr.lt) rx2 m5) rfl fun g8 h8 n5 z0 o5=>?_
   obtain ⟨rfl,p5⟩:=o5.int
   have hZ:=lZ z0
   refine AN [(9,[9])] hZ ?_
   refine AP (fuel:=4) [] [(7,true)] rfl ?_
   refine Cq rfl rfl rfl ?_
   refine AC ?_
   refine AD (i:=8) rfl ?_
   refine AQ 8 n5 (xs:=([(⟨([]:List Fct),p2,o2⟩:Eff)]:List Eff)) rfl rfl rfl ⟨(Vb.ofAgg (cs:=[(.slice none 0 0),(.int .i64 p2),(.int .i64 o2)]) (x:=(⟨([]:List Fct),p2,o2⟩:Eff)) rfl ⟨_,rfl,(Vb.nil _ _),p5,l5⟩),trivial⟩ fun i8 q5 r5 a1 s5=>?_
   have hZ:=lZ a1
   refine AN [(9,[9])] hZ ?_
   refine AD (i:=9) rfl ?_
   have t5:Rw 9 q5 r5 85 (.slice none 0 0) ([]:List Eff):=Rw.nil 9 (by decide)
   obtain ⟨u5,q2,d0⟩:=bs d0
   obtain ⟨q2,v5,w5⟩:=AI q2
   refine AZ rfl t5 (s5.rd) rfl rfl v5 w5 fun m3 n3 j8 x5 b1 o3=>?_
   rw [← q2] at o3 ⊢
   have hZ:=b1.lst [9] (fun _ h=>by cases h;decide)
   refine AN [] hZ ?_
   refine AP (fuel:=1) [] [(10,true)] rfl ?_
   refine AT rfl rfl (AC ?_)
   refine AD (i:=11) rfl ?_
   replace a0:=((a0.st z0).st a1).st b1
   refine Az a0 rfl rfl rfl (AJ) (allOne) fun y5 g1 a0=>?_
   replace a0:Lc 5 y5 x5 q0 82 [(.string j1),(.int .i64 0),(.slice w0 r0.length y0),(.slice m3 u5.length n3)]:=a0
   refine BF ?_
   refine Bv ?_
   obtain rfl:=sm d0
   exact ⟨(m3,n3),_,⟨rfl,rfl,rfl,rfl,trivial⟩,(((((((hB.st f0).st g0).st h0).st e0).st z0).st a1).st b1).st g1,(((s0.st z0).st a1).st b1).st g1,(((h9.st z0).st a1).st b1).st g1,(((u0.st z0).st a1).st b1).st g1,(((v0.st z0).st a1).st b1).st g1,(((((((t0.st f0).st g0).st h0).st e0).st z0).st a1).st b1).st g1,a0,((((k0.st e0).st z0).st a1).st b1).st g1,o3.st g1⟩
  replace d0:=im d0 n2
  refine Am rfl (o_z ?_)
  refine Ae rfl (Ab (Aa (Ak rfl (GU rfl rfl (fun r2=>?_) fun r2=>?_))))
  ·
   replace d0:=ip d0 r2
   refine Am rfl (o_z ?_)
   refine Ah rfl (Br [(10,[9])] k1 ?_)
   refine AP (fuel:=6) [] [(0,true),(1,true),(2,true),(3,true),(5,true),(6,true),(7,true)] rfl ?_
   refine AT rfl rfl (AV (hc:=bCell a0 3 rfl) rfl rfl ?_)
   replace s0:=(((s0.st f0).st g0).st h0).st e0
   refine CJ (hl:=rfl) (hb:=fun w' ⟨O',hq⟩=>((s0.st hq (by decide)).1).cellsAt) rfl rfl ?_
   refine AX rfl rfl (AT rfl rfl ?_)
   replace i1:=(((i1.st f0).st g0).st h0).st e0
   refine AV (hc:=bCell i1 1 rfl) rfl rfl ?_
   obtain ⟨s2,p3,d0⟩:=bs d0
   have z5:=(Bq p3)
   refine Hp (he:=p3) rfl rfl rfl ?_
   refine AC ?_
   refine AD (i:=4) rfl ?_
   obtain ⟨t2,a6,d0⟩:=bs d0
   replace h9:=(((h9.st f0).st g0).st h0).st e0
   replace u0:=(((u0.st f0).st g0).st h0).st e0
   replace v0:=(((v0.st f0).st g0).st h0).st e0
   refine AM (O:=k1) (BJ (fun _ h=>h) (Vb.mono (F:=Fr 0 l2 k1) (Vb.ofAgg (cs:=[(.int .i64 x0.jobs),(.slice u1 x0.write.length v1),(.slice w1 x0.read.length y1),(.int .i64 x0.phase),(.slice z1 x0.vars.length a2)]) (x:=x0) rfl ⟨_,_,_,rfl,h9,u0,v0,c4,f3⟩) Fr.lt) rx2 a6) rfl fun k8 l8 b6 c1 c6=>?_
   obtain ⟨rfl,d6⟩:=c6.int
   have hZ:=lZ c1
   refine AN [(10,[9])] hZ ?_
   refine AP (fuel:=4) [] [(8,true)] rfl ?_
   refine Cq rfl rfl rfl ?_
   refine AC ?_
   refine AD (i:=9) rfl ?_
   refine AQ 10 b6 (xs:=([(⟨([]:List Fct),t2,s2⟩:Eff)]:List Eff)) rfl rfl rfl ⟨(Vb.ofAgg (cs:=[(.slice none 0 0),(.int .i64 t2),(.int .i64 s2)]) (x:=(⟨([]:List Fct),t2,s2⟩:Eff)) rfl ⟨_,rfl,(Vb.nil _ _),d6,z5⟩),trivial⟩ fun m8 e6 f6 d1 g6=>?_
   have hZ:=lZ d1
   refine AN [(10,[9])] hZ ?_
   refine AD (i:=10) rfl ?_
   have h6:Rw 9 e6 f6 85 (.slice none 0 0) ([]:List Eff):=Rw.nil 9 (by decide)
   obtain ⟨i6,u2,d0⟩:=bs d0
   obtain ⟨u2,j6,k6⟩:=AI u2
   refine AZ rfl h6 (g6.rd) rfl rfl j6 k6 fun q3 r3 n8 l6 e1 s3=>?_
   rw [← u2] at s3 ⊢
   have hZ:=e1.lst [9] (fun _ h=>by cases h;decide)
   refine AN [] hZ ?_
   refine AP (fuel:=1) [] [(11,true)] rfl ?_
   refine AT rfl rfl (AC ?_)
   refine AD (i:=12) rfl ?_
   replace a0:=((a0.st c1).st d1).st e1
   refine Az a0 rfl rfl rfl (AJ) (allOne) fun m6 h1 a0=>?_
   replace a0:Lc 5 m6 l6 q0 82 [(.string j1),(.int .i64 0),(.slice w0 r0.length y0),(.slice q3 i6.length r3)]:=a0
   refine BF ?_
   refine Bv ?_
   obtain rfl:=sm d0
   exact ⟨(q3,r3),_,⟨rfl,rfl,rfl,rfl,trivial⟩,(((((((hB.st f0).st g0).st h0).st e0).st c1).st d1).st e1).st h1,(((s0.st c1).st d1).st e1).st h1,(((h9.st c1).st d1).st e1).st h1,(((u0.st c1).st d1).st e1).st h1,(((v0.st c1).st d1).st e1).st h1,(((((((t0.st f0).st g0).st h0).st e0).st c1).st d1).st e1).st h1,a0,((((k0.st e0).st c1).st d1).st e1).st h1,s3.st h1⟩
  replace d0:=im d0 r2
  refine Am rfl (o_z ?_)
  refine Ae rfl (AO ?_)
  obtain rfl:=sm d0
  exact ⟨(none,0),_,⟨rfl,rfl,rfl,rfl,trivial⟩,(((hB.st f0).st g0).st h0).st e0,(((s0.st f0).st g0).st h0).st e0,(((h9.st f0).st g0).st h0).st e0,(((u0.st f0).st g0).st h0).st e0,(((v0.st f0).st g0).st h0).st e0,(((t0.st f0).st g0).st h0).st e0,a0,k0.st e0,(Rw.nil 9 (by decide))⟩
 replace hB:=(((hB.st f0).st g0).st h0).st e0
 replace h9:=(((h9.st f0).st g0).st h0).st e0
 replace u0:=(((u0.st f0).st g0).st h0).st e0
 replace v0:=(((v0.st f0).st g0).st h0).st e0
 replace s0:=(((s0.st f0).st g0).st h0).st e0
 replace t0:=(((t0.st f0).st g0).st h0).st e0
 replace k0:=k0.st e0
 rintro o8 p8 ⟨n1,q8,t3,hB,s0,h9,u0,v0,t0,a0,k0,n6⟩
 refine AH _ t3 ?_
 refine Ab (Aa (Ax rfl (At (hc:=Blk.cell (i:=3) (a0.1) rfl) rfl ?_)))
 refine Ax rfl (At (hc:=Blk.cell (i:=3) (s0.1) rfl) rfl ?_)
 refine Ak rfl ?_
 obtain ⟨v2,u3,hm⟩:=bs hm
 have o6:=(Bq u3)
 refine Dn (he:=u3) rfl rfl ?_
 refine Cl rfl rfl ?_
 obtain ⟨o1,w2,hm⟩:=bs hm
 obtain ⟨w2,p6,q6⟩:=AI w2
 refine BC rfl (a:=(⟨([]:List Fct),x0.phase,v2⟩:Eff)) n6 (Vb.ofAgg (cs:=[(.slice none 0 0),(.int .i64 x0.phase),(.int .i64 v2)]) (x:=(⟨([]:List Fct),x0.phase,v2⟩:Eff)) rfl ⟨_,rfl,(Vb.nil _ _),f3,o6⟩) (fun _=>rfl) rfl p6 q6 ⟨rfl,rfl⟩ fun r8 q1 r1 s8 v3 s1 l1=>?_
 rw [← w2] at l1 ⊢
 refine Ax rfl ?_
 replace a0:=a0.st s1
 refine Az a0 rfl rfl rfl (AJ) (allOne) fun r6 t1 a0=>?_
 replace a0:Lc 5 r6 v3 q0 82 [(.string j1),(.int .i64 0),(.slice w0 r0.length y0),(.slice q1 o1.length r1)]:=a0
 refine o_z ?_
 refine Ab (Aa (Bd (hl:=rfl) (hc:=(a0.1).cellsAt) rfl ?_))
 replace t0:=(t0.st s1).st t1
 refine Az t0 rfl rfl rfl (AJ) (allOne) fun w3 y2 t0=>?_
 replace t0:Lc 4 w3 v3 c2 82 [(.string j1),(.int .i64 0),(.slice w0 r0.length y0),(.slice q1 o1.length r1)]:=t0
 refine o_z ?_
 refine AF ?_
 replace k0:=((k0.st s1).st t1).st y2
 obtain ⟨t8,z2,k0⟩:=k0.freeze
 replace l1:=((l1.st t1).st y2).st z2
 obtain ⟨s6,a3,l1⟩:=l1.freeze
 obtain rfl:=sm hm
 replace hB:=((((hB.st s1).st t1).st y2).st z2).st a3
 replace t0:=(t0.st z2).st a3
 replace k0:=k0.st a3
 exact ret1v rfl (Er (cs:=[(.string j1),(.int .i64 0),(.slice w0 r0.length y0),(.slice q1 o1.length r1)]) rfl rfl t0.1.cellsAt) ⟨hB.ext,(Vb.mono (F:=Fr 0 w3 s6) (Vb.ofAgg (cs:=[(.string j1),(.int .i64 0),(.slice w0 r0.length y0),(.slice q1 o1.length r1)]) (x:=(⟨j1,0,r0,o1⟩:Opr)) rfl ⟨_,_,rfl,k0,l1,(iI64 0),(GP y6)⟩) hB.out)⟩
noncomputable def Cf (x0:Lay) (x1:Int):Option Opr :=
  bnd (chkI (x1 + 1)) fun n28=>bnd (natI x1) fun N57=>bnd (rngN (ρ:=Opr) (fun (k48:Nat) (s46:(List Eff))=>bnd (Cj x0 (k48:Int)) fun q63=>bnd (appI 40 s46 [(⟨([]:List Fct),q63,0⟩:Eff)]) fun u77=>some (.next u77)) N57 ([]:List Eff)) fun res44=>fin res44 fun (s94:(List Eff))=>bnd (rng (ρ:=Opr) (fun (k102:Nat) (a103:Int) (s100:(List Eff))=>bnd (if 0≤a103 then (bnd (appI 40 s100 [(⟨([]:List Fct),a103,0⟩:Eff)]) fun u146=>some u146) else (some s100):Option (List Eff)) fun y117=>bnd (x0.read[k102]?) fun a163=>if 0≤a163 then (bnd (x0.read[k102]?) fun a174=>bnd (appI 40 y117 [(⟨([]:List Fct),a174,0⟩:Eff)]) fun u190=>some (.next u190)) else (some (.next y117))) x0.write 0 s94) fun res98=>fin res98 fun (s207:(List Eff))=>bnd (appI 40 s207 [(⟨([]:List Fct),x0.phase,0⟩:Eff)]) fun u209=>some (⟨(⟨#[97,100,118,97,110,99,101]⟩:ByteArray),1,[(⟨x0.phase,n28⟩:Fct)],u209⟩:Opr)
theorem Ih {w:World} {A:Nat→Prop} (hA:∀ k,A k→k < w.heap.size) {vx0:Value} {x0:Lay} (p3:Vb w A vx0 x0) {x1:Int} (rx1:inI64 x1) {r:Opr} (hm:Cf x0 x1=some r) :
    Fn prog 41 [vx0,(.int .i64 x1)] w fun v w'=>Ext w w'∧Vb w' (upA A w w') v r:=by
 obtain ⟨O,hB,i5⟩:=enter hA
 replace p3:=p3.mono i5
 obtain ⟨l7,rfl,v4,v5,v6,rfl,h7,i0,j0,j5,q3⟩:=p3
 obtain ⟨A8,c9,rfl⟩:=h7.form
 obtain ⟨z0,a1,rfl⟩:=i0.form
 obtain ⟨b1,c1,rfl⟩:=j0.form
 refine AL func41 rfl ntmps41 ?_
 unfold Cf at hm
 refine Ab (Aa (BL 2 O rfl fun f1 k5 w4 v1 c0=>?_))
 replace c0:Lc 2 k5 w4 f1 74 [(.int .i64 x0.jobs),(.slice A8 x0.write.length c9),(.slice z0 x0.read.length a1),(.int .i64 x0.phase),(.slice b1 x0.vars.length c1)]:=c0
 refine AU 3 w4 fun g1 m7 l5 o1 d0=>?_
 refine o_z ?_
 refine Ab (Aa (Ax rfl ?_))
 replace c0:=c0.st o1
 refine At (hc:=Blk.cell (i:=3) (c0.1) rfl) rfl ?_
 refine Ak rfl ?_
 obtain ⟨f0,x4,hm⟩:=bs hm
 have m5:=(Bq x4)
 refine Dn (he:=x4) rfl rfl ?_
 refine Cl rfl rfl ?_
 refine AQ 4 l5 (xs:=([(⟨x0.phase,f0⟩:Fct)]:List Fct)) rfl rfl rfl ⟨(Vb.ofAgg (cs:=[(.int .i64 x0.phase),(.int .i64 f0)]) (x:=(⟨x0.phase,f0⟩:Fct)) rfl ⟨rfl,q3,m5⟩),trivial⟩ fun p0 n7 n5 d1 g0=>?_
 refine Cl rfl rfl ?_
 refine AU 5 n5 fun t0 o7 y4 v0 a0=>?_
 refine Az a0 rfl rfl rfl (AJ) (allOne) fun o5 w0 a0=>?_
 replace a0:Lc 5 o5 y4 t0 82 [(.string (⟨#[97,100,118,97,110,99,101]⟩:ByteArray)),(.int .i64 1),(.slice (some ⟨p0,0,none⟩) [(⟨x0.phase,f0⟩:Fct)].length 1),(.slice none 0 0)]:=a0
 refine o_z ?_
 refine Ab (Ab (Aa (Ak rfl (Ak rfl (o_z ?_)))))
 obtain ⟨p5,h1,hm⟩:=bs hm
 replace h1:=Hx h1
 obtain ⟨l2,r3,hm⟩:=bs hm
 refine Ay (aft l2 (fun (l1:(List Eff)) (e1:(Option Addr×Nat))=>[(2,(.pointer (some ⟨f1,0,none⟩))),(4,(.pointer (some ⟨g1,0,none⟩))),(5,(.pointer (some ⟨t0,0,none⟩)))]) (fun l1 e1 w'=>∃ O':Lab,Bs w A w' O'∧Lc 2 w' O' f1 74 [(.int .i64 x0.jobs),(.slice A8 x0.write.length c9),(.slice z0 x0.read.length a1),(.int .i64 x0.phase),(.slice b1 x0.vars.length c1)]∧Vb w' (Fr 0 w' O') (.slice A8 x0.write.length c9) x0.write∧Vb w' (Fr 0 w' O') (.slice z0 x0.read.length a1) x0.read∧Vb w' (Fr 0 w' O') (.slice b1 x0.vars.length c1) x0.vars∧Lc 3 w' O' g1 82 [(.string (⟨#[]⟩:ByteArray)),(.int .i64 0),(.slice none 0 0),(.slice none 0 0)]∧Lc 5 w' O' t0 82 [(.string (⟨#[97,100,118,97,110,99,101]⟩:ByteArray)),(.int .i64 1),(.slice (some ⟨p0,0,none⟩) [(⟨x0.phase,f0⟩:Fct)].length 1),(.slice e1.1 l1.length e1.2)]∧Rw 4 w' O' 78 (.slice (some ⟨p0,0,none⟩) [(⟨x0.phase,f0⟩:Fct)].length 1) [(⟨x0.phase,f0⟩:Fct)]∧Rw 7 w' O' 85 (.slice e1.1 l1.length e1.2) l1)) ?_ ?_
 ·
  refine AK ?_
  replace hB:=((((hB.st v1).st o1).st d1).st v0).st w0
  replace h7:=((((h7.st v1).st o1).st d1).st v0).st w0
  replace i0:=((((i0.st v1).st o1).st d1).st v0).st w0
  replace j0:=((((j0.st v1).st o1).st d1).st v0).st w0
  replace c0:=((c0.st d1).st v0).st w0
  replace d0:=((d0.st d1).st v0).st w0
  replace g0:=(g0.st v0).st w0
  refine Fp (σ:=(List Eff)) (X:=(Option Addr×Nat)) p5 r3 (FH h1 rx1) (fun (l1:(List Eff)) (e1:(Option Addr×Nat))=>[(2,(.pointer (some ⟨f1,0,none⟩))),(4,(.pointer (some ⟨g1,0,none⟩))),(5,(.pointer (some ⟨t0,0,none⟩)))]) _ (fun l1 e1 w'=>∃ O':Lab,Bs w A w' O'∧Lc 2 w' O' f1 74 [(.int .i64 x0.jobs),(.slice A8 x0.write.length c9),(.slice z0 x0.read.length a1),(.int .i64 x0.phase),(.slice b1 x0.vars.length c1)]∧Vb w' (Fr 0 w' O') (.slice A8 x0.write.length c9) x0.write∧Vb w' (Fr 0 w' O') (.slice z0 x0.read.length a1) x0.read∧Vb w' (Fr 0 w' O') (.slice b1 x0.vars.length c1) x0.vars∧Lc 3 w' O' g1 82 [(.string (⟨#[]⟩:ByteArray)),(.int .i64 0),(.slice none 0 0),(.slice none 0 0)]∧Lc 5 w' O' t0 82 [(.string (⟨#[97,100,118,97,110,99,101]⟩:ByteArray)),(.int .i64 1),(.slice (some ⟨p0,0,none⟩) [(⟨x0.phase,f0⟩:Fct)].length 1),(.slice e1.1 l1.length e1.2)]∧Rw 4 w' O' 78 (.slice (some ⟨p0,0,none⟩) [(⟨x0.phase,f0⟩:Fct)].length 1) [(⟨x0.phase,f0⟩:Fct)]∧Rw 7 w' O' 85 (.slice e1.1 l1.length e1.2) l1) _ (none,0) ⟨y4,hB,c0,h7,i0,j0,d0,a0,g0,(Rw.nil 7 (by decide))⟩ ⟨rfl,(congrArg (fun z=>some (Value.int .i64 z)) h1),rfl,rfl,rfl,trivial⟩ (fun _ _=>⟨rfl,rfl⟩) (fun _ _=>⟨rfl,rfl,rfl,trivial⟩) (fun _ _ _ ⟨O',hB,c0,h7,i0,j0,d0,a0,g0,y1⟩=>⟨O',hB,c0,h7,i0,j0,d0,a0,g0,y1⟩) ⟨rfl,rfl,rfl⟩ ⟨rfl,rfl⟩ ?_
  rintro q5 l1 e1 r5 s5 s3 ⟨t3,hB,c0,h7,i0,j0,d0,a0,g0,y1⟩ i1 u3 v3
  have rk48:inI64 (q5:Int):=rngKN s3 (FH h1 rx1)
  refine Ab (Aa (Ak rfl (Am rfl (o_z ?_))))
  refine Br [(7,[7])] t3 ?_
  refine AP (fuel:=6) [] [(0,true),(1,true),(2,true),(3,true)] rfl ?_
  refine AT rfl rfl (AV (hc:=bCell a0 3 rfl) rfl rfl ?_)
  refine CJ (hl:=rfl) (hb:=fun w' ⟨O',hq⟩=>((c0.st hq (by decide)).1).cellsAt) rfl rfl ?_
  refine AX rfl rfl (AC ?_)
  refine AD (i:=4) rfl ?_
  obtain ⟨w3,t5,i1⟩:=bs i1
  refine AM (O:=t3) (BE (fun _ h=>h) (Vb.mono (F:=Fr 0 r5 t3) (Vb.ofAgg (cs:=[(.int .i64 x0.jobs),(.slice A8 x0.write.length c9),(.slice z0 x0.read.length a1),(.int .i64 x0.phase),(.slice b1 x0.vars.length c1)]) (x:=x0) rfl ⟨_,_,_,rfl,h7,i0,j0,j5,q3⟩) Fr.lt) rk48 t5) rfl fun p7 q7 u5 m1 w5=>?_
  obtain ⟨rfl,x5⟩:=w5.int
  have hZ:=lZ m1
  refine AN [(7,[7])] hZ ?_
  refine AP (fuel:=4) [] [(5,true)] rfl ?_
  refine Cq rfl rfl rfl ?_
  refine AC ?_
  refine AD (i:=6) rfl ?_
  refine AQ 6 u5 (xs:=([(⟨([]:List Fct),w3,0⟩:Eff)]:List Eff)) rfl rfl rfl ⟨(Vb.ofAgg (cs:=[(.slice none 0 0),(.int .i64 w3),(.int .i64 0)]) (x:=(⟨([]:List Fct),w3,0⟩:Eff)) rfl ⟨_,rfl,(Vb.nil _ _),x5,(iI64 0)⟩),trivial⟩ fun r7 s7 t7 n1 y5=>?_
  have hZ:=lZ n1
  refine AN [(7,[7])] hZ ?_
  refine AD (i:=7) rfl ?_
  obtain ⟨z5,x3,i1⟩:=bs i1
  obtain ⟨x3,a6,b6⟩:=AI x3
  replace y1:=(y1.st m1).st n1
  refine AZ rfl y1 (y5.rd) rfl rfl a6 b6 fun z4 a5 u7 c6 p1 b5=>?_
  rw [← x3] at b5 ⊢
  have hZ:=p1.lst [7] (fun _ h=>by cases h;decide)
  refine AN [] hZ ?_
  refine AP (fuel:=1) [] [(8,true)] rfl ?_
  refine AT rfl rfl (AC ?_)
  refine AD (i:=9) rfl ?_
  replace a0:=((a0.st m1).st n1).st p1
  refine Az a0 rfl rfl rfl (AJ) (allOne) fun d6 w1 a0=>?_
  replace a0:Lc 5 d6 c6 t0 82 [(.string (⟨#[97,100,118,97,110,99,101]⟩:ByteArray)),(.int .i64 1),(.slice (some ⟨p0,0,none⟩) [(⟨x0.phase,f0⟩:Fct)].length 1),(.slice z4 z5.length a5)]:=a0
  refine BF ?_
  refine Bv ?_
  obtain rfl:=sm i1
  exact show Exists _ from ⟨_,(z4,a5),rfl,⟨rfl,rfl,rfl,rfl,rfl,trivial⟩,_,(((hB.st m1).st n1).st p1).st w1,(((c0.st m1).st n1).st p1).st w1,(((h7.st m1).st n1).st p1).st w1,(((i0.st m1).st n1).st p1).st w1,(((j0.st m1).st n1).st p1).st w1,(((d0.st m1).st n1).st p1).st w1,a0,(((g0.st m1).st n1).st p1).st w1,b5.st w1⟩
 replace hB:=((((hB.st v1).st o1).st d1).st v0).st w0
 replace h7:=((((h7.st v1).st o1).st d1).st v0).st w0
 replace i0:=((((i0.st v1).st o1).st d1).st v0).st w0
 replace j0:=((((j0.st v1).st o1).st d1).st v0).st w0
 replace c0:=((c0.st d1).st v0).st w0
 replace d0:=((d0.st d1).st v0).st w0
 replace g0:=(g0.st v0).st w0
 rintro v7 w7 ⟨x7,c5,rfl,y3,e6,hB,c0,h7,i0,j0,d0,a0,g0,y1⟩
 replace hm:=AR hm
 refine AH _ y3 ?_
 refine Ab (Ab (Aa (Ax rfl (At (hc:=Blk.cell (i:=1) (c0.1) rfl) rfl ?_))))
 refine AS rfl ?_
 have z3:x0.write.length≤9223372036854775807:=Nat.le_trans h7.len.2.1 h7.len.2.2
 have y7:inI64 (x0.write.length:Int):=rngNat z3
 refine Ak rfl (o_z ?_)
 obtain ⟨m2,a4,hm⟩:=bs hm
 refine Ay (aft m2 (fun (k0:(List Eff)) (e0:(Option Addr×Nat))=>[(2,(.pointer (some ⟨f1,0,none⟩))),(4,(.pointer (some ⟨g1,0,none⟩))),(5,(.pointer (some ⟨t0,0,none⟩)))]) (fun k0 e0 w'=>∃ O':Lab,Bs w A w' O'∧Lc 2 w' O' f1 74 [(.int .i64 x0.jobs),(.slice A8 x0.write.length c9),(.slice z0 x0.read.length a1),(.int .i64 x0.phase),(.slice b1 x0.vars.length c1)]∧Vb w' (Fr 0 w' O') (.slice A8 x0.write.length c9) x0.write∧Vb w' (Fr 0 w' O') (.slice z0 x0.read.length a1) x0.read∧Vb w' (Fr 0 w' O') (.slice b1 x0.vars.length c1) x0.vars∧Lc 3 w' O' g1 82 [(.string (⟨#[]⟩:ByteArray)),(.int .i64 0),(.slice none 0 0),(.slice none 0 0)]∧Lc 5 w' O' t0 82 [(.string (⟨#[97,100,118,97,110,99,101]⟩:ByteArray)),(.int .i64 1),(.slice (some ⟨p0,0,none⟩) [(⟨x0.phase,f0⟩:Fct)].length 1),(.slice e0.1 k0.length e0.2)]∧Rw 4 w' O' 78 (.slice (some ⟨p0,0,none⟩) [(⟨x0.phase,f0⟩:Fct)].length 1) [(⟨x0.phase,f0⟩:Fct)]∧Rw 7 w' O' 85 (.slice e0.1 k0.length e0.2) k0)) ?_ ?_
 ·
  refine AK (AY (σ:=(List Eff)) (X:=(Option Addr×Nat)) (x0.write.length) a4 rfl z3 (fun (k0:(List Eff)) (e0:(Option Addr×Nat))=>[(2,(.pointer (some ⟨f1,0,none⟩))),(4,(.pointer (some ⟨g1,0,none⟩))),(5,(.pointer (some ⟨t0,0,none⟩)))]) _ (fun k0 e0 w'=>∃ O':Lab,Bs w A w' O'∧Lc 2 w' O' f1 74 [(.int .i64 x0.jobs),(.slice A8 x0.write.length c9),(.slice z0 x0.read.length a1),(.int .i64 x0.phase),(.slice b1 x0.vars.length c1)]∧Vb w' (Fr 0 w' O') (.slice A8 x0.write.length c9) x0.write∧Vb w' (Fr 0 w' O') (.slice z0 x0.read.length a1) x0.read∧Vb w' (Fr 0 w' O') (.slice b1 x0.vars.length c1) x0.vars∧Lc 3 w' O' g1 82 [(.string (⟨#[]⟩:ByteArray)),(.int .i64 0),(.slice none 0 0),(.slice none 0 0)]∧Lc 5 w' O' t0 82 [(.string (⟨#[97,100,118,97,110,99,101]⟩:ByteArray)),(.int .i64 1),(.slice (some ⟨p0,0,none⟩) [(⟨x0.phase,f0⟩:Fct)].length 1),(.slice e0.1 k0.length e0.2)]∧Rw 4 w' O' 78 (.slice (some ⟨p0,0,none⟩) [(⟨x0.phase,f0⟩:Fct)].length 1) [(⟨x0.phase,f0⟩:Fct)]∧Rw 7 w' O' 85 (.slice e0.1 k0.length e0.2) k0) _ (c5.1,c5.2) ⟨e6,hB,c0,h7,i0,j0,d0,a0,g0,y1⟩ ⟨rfl,rfl,rfl,rfl,rfl,trivial⟩ (fun _ _=>⟨rfl,rfl⟩) (fun _ _=>⟨rfl,rfl,rfl,trivial⟩) (fun _ _ _ ⟨O',hB,c0,h7,i0,j0,d0,a0,g0,q0⟩=>⟨O',hB,c0,h7,i0,j0,d0,a0,g0,q0⟩) ⟨rfl,rfl,rfl⟩ ⟨rfl,rfl⟩ ?_)
  rintro z1 a2 k0 e0 f6 d5 j1 ⟨n2,hB,c0,h7,i0,j0,d0,a0,g0,q0⟩ b0 n3 o3
  have rk102:inI64 (z1:Int):=rngK j1 z3
  refine Ab (Aa (Ak rfl (Am rfl (o_z ?_))))
  refine Ab ?_
  obtain ⟨b2,h0,b0⟩:=bs b0
  refine Ay (fun l' w'=>∃ (u0:(Option Addr×Nat)) (O':Lab),subs l' [(2,(.pointer (some ⟨f1,0,none⟩))),(4,(.pointer (some ⟨g1,0,none⟩))),(5,(.pointer (some ⟨t0,0,none⟩))),(7,(.int .i64 (z1:Int))),(31,(.int .i64 (x0.write.length:Int))),(32,(.int .i64 (z1:Int)))]∧Bs w A w' O'∧Lc 2 w' O' f1 74 [(.int .i64 x0.jobs),(.slice A8 x0.write.length c9),(.slice z0 x0.read.length a1),(.int .i64 x0.phase),(.slice b1 x0.vars.length c1)]∧Vb w' (Fr 0 w' O') (.slice A8 x0.write.length c9) x0.write∧Vb w' (Fr 0 w' O') (.slice z0 x0.read.length a1) x0.read∧Vb w' (Fr 0 w' O') (.slice b1 x0.vars.length c1) x0.vars∧Lc 3 w' O' g1 82 [(.string (⟨#[]⟩:ByteArray)),(.int .i64 0),(.slice none 0 0),(.slice none 0 0)]∧Lc 5 w' O' t0 82 [(.string (⟨#[97,100,118,97,110,99,101]⟩:ByteArray)),(.int .i64 1),(.slice (some ⟨p0,0,none⟩) [(⟨x0.phase,f0⟩:Fct)].length 1),(.slice u0.1 b2.length u0.2)]∧Rw 4 w' O' 78 (.slice (some ⟨p0,0,none⟩) [(⟨x0.phase,f0⟩:Fct)].length 1) [(⟨x0.phase,f0⟩:Fct)]∧Rw 7 w' O' 85 (.slice u0.1 b2.length u0.2) b2) ?_ ?_
  ·
   refine Ab (Aa (Ax rfl (At (hc:=Blk.cell (i:=1) (c0.1) rfl) rfl ?_)))
   refine Ak rfl ?_
   obtain ⟨g6,h6,e5,o2,p2,q2,rfl,i6⟩:=h7.elem' j1
   refine Bi (hA:=o2) (hj:=rfl) (hlt:=p2) rfl rfl ?_
   refine At (hc:=cat0 q2) rfl ?_
   refine ET rfl rfl (fun c2=>?_) fun c2=>?_
   ·
    replace h0:=ip h0 c2
    refine o_z ?_
    refine Ah rfl (Br [(9,[7])] n2 ?_)
    refine AP (fuel:=4) [] [(0,true),(1,true),(2,true),(3,true),(4,true),(5,true),(6,true),(7,true)] rfl ?_
    refine AT rfl rfl (AV (hc:=bCell a0 3 rfl) rfl rfl ?_)
    refine AT rfl rfl (AV (hc:=bCell c0 1 rfl) rfl rfl ?_)
    refine AX rfl rfl ?_
    obtain ⟨j6,k6,f5,r2,s2,t2,u2,rfl,b4⟩:=h7.elem j1
    refine CK (hA:=r2) (hj:=rfl) (hlt:=t2) rfl rfl rfl ?_
    refine AV (hc:=fun w' ⟨O',hq⟩=>cat0 (Bp (hq.agree (i:=0) (by decide)) s2 u2)) rfl rfl ?_
    refine Cq rfl rfl rfl ?_
    refine AC ?_
    refine AD (i:=8) rfl ?_
    refine AQ 8 n2 (xs:=([(⟨([]:List Fct),a2,0⟩:Eff)]:List Eff)) rfl rfl rfl ⟨(Vb.ofAgg (cs:=[(.slice none 0 0),(.int .i64 a2),(.int .i64 0)]) (x:=(⟨([]:List Fct),a2,0⟩:Eff)) rfl ⟨_,rfl,(Vb.nil _ _),b4,(iI64 0)⟩),trivial⟩ fun l6 m6 n6 l0 c4=>?_
    have hZ:=lZ l0
    refine AN [(9,[7])] hZ ?_
    refine AD (i:=9) rfl ?_
    obtain ⟨d4,d2,h0⟩:=bs h0
    obtain ⟨d2,e4,f4⟩:=AI d2
    replace q0:=q0.st l0
    refine AZ rfl q0 (c4.rd) rfl rfl e4 f4 fun v2 w2 o6 g4 n0 x2=>?_
    rw [← d2] at x2 ⊢
    have hZ:=n0.lst [7] (fun _ h=>by cases h;decide)
    refine AN [] hZ ?_
    refine AP (fuel:=1) [] [(10,true)] rfl ?_
    refine AT rfl rfl (AC ?_)
    refine AD (i:=11) rfl ?_
    replace a0:=(a0.st l0).st n0
    refine Az a0 rfl rfl rfl (AJ) (allOne) fun h4 r0 a0=>?_
    replace a0:Lc 5 h4 g4 t0 82 [(.string (⟨#[97,100,118,97,110,99,101]⟩:ByteArray)),(.int .i64 1),(.slice (some ⟨p0,0,none⟩) [(⟨x0.phase,f0⟩:Fct)].length 1),(.slice v2 d4.length w2)]:=a0
    refine BF ?_
    refine Bv ?_
    obtain rfl:=sm h0
    exact ⟨(v2,w2),_,⟨rfl,rfl,rfl,rfl,rfl,rfl,trivial⟩,((hB.st l0).st n0).st r0,((c0.st l0).st n0).st r0,((h7.st l0).st n0).st r0,((i0.st l0).st n0).st r0,((j0.st l0).st n0).st r0,((d0.st l0).st n0).st r0,a0,((g0.st l0).st n0).st r0,x2.st r0⟩
   replace h0:=im h0 c2
   refine o_z ?_
   refine Ae rfl (AO ?_)
   obtain rfl:=sm h0
   exact ⟨(e0.1,e0.2),_,⟨rfl,rfl,rfl,rfl,rfl,rfl,trivial⟩,hB,c0,h7,i0,j0,d0,a0,g0,q0⟩
  rintro p6 q6 ⟨u0,y2,z2,hB,c0,h7,i0,j0,d0,a0,g0,q1⟩
  refine AH _ z2 ?_
  refine Ab (Aa (Ax rfl (At (hc:=Blk.cell (i:=2) (c0.1) rfl) rfl ?_)))
  refine Ak rfl ?_
  obtain ⟨r6,i4,b0⟩:=bs b0
  obtain ⟨s6,t6,g5,a3,b3,c3,rfl,u6⟩:=i0.elem' i4
  refine Bi (hA:=a3) (hj:=rfl) (hlt:=b3) rfl rfl ?_
  refine At (hc:=cat0 c3) rfl ?_
  refine ET rfl rfl (fun e2=>?_) fun e2=>?_
  ·
   replace b0:=ip b0 e2
   refine o_z ?_
   refine Ah rfl (Br [(9,[7])] y2 ?_)
   refine AP (fuel:=4) [] [(0,true),(1,true),(2,true),(3,true),(4,true),(5,true),(6,true),(7,true)] rfl ?_
   refine AT rfl rfl (AV (hc:=bCell a0 3 rfl) rfl rfl ?_)
   refine AT rfl rfl (AV (hc:=bCell c0 2 rfl) rfl rfl ?_)
   refine AX rfl rfl ?_
   obtain ⟨f2,j4,b0⟩:=bs b0
   obtain ⟨w6,x6,h5,d3,e3,f3,g3,rfl,k4⟩:=i0.elem j4
   refine CK (hA:=d3) (hj:=rfl) (hlt:=f3) rfl rfl rfl ?_
   refine AV (hc:=fun w' ⟨O',hq⟩=>cat0 (Bp (hq.agree (i:=0) (by decide)) e3 g3)) rfl rfl ?_
   refine Cq rfl rfl rfl ?_
   refine AC ?_
   refine AD (i:=8) rfl ?_
   refine AQ 9 y2 (xs:=([(⟨([]:List Fct),f2,0⟩:Eff)]:List Eff)) rfl rfl rfl ⟨(Vb.ofAgg (cs:=[(.slice none 0 0),(.int .i64 f2),(.int .i64 0)]) (x:=(⟨([]:List Fct),f2,0⟩:Eff)) rfl ⟨_,rfl,(Vb.nil _ _),k4,(iI64 0)⟩),trivial⟩ fun y6 z6 a7 m0 l4=>?_
   have hZ:=lZ m0
   refine AN [(9,[7])] hZ ?_
   refine AD (i:=9) rfl ?_
   obtain ⟨m4,g2,b0⟩:=bs b0
   obtain ⟨g2,n4,o4⟩:=AI g2
   replace q1:=q1.st m0
   refine AZ rfl q1 (l4.rd) rfl rfl n4 o4 fun h3 i3 b7 p4 o0 j3=>?_
   rw [← g2] at j3 ⊢
   have hZ:=o0.lst [7] (fun _ h=>by cases h;decide)
   refine AN [] hZ ?_
   refine AP (fuel:=1) [] [(10,true)] rfl ?_
   refine AT rfl rfl (AC ?_)
   refine AD (i:=11) rfl ?_
   replace a0:=(a0.st m0).st o0
   refine Az a0 rfl rfl rfl (AJ) (allOne) fun q4 s0 a0=>?_
   replace a0:Lc 5 q4 p4 t0 82 [(.string (⟨#[97,100,118,97,110,99,101]⟩:ByteArray)),(.int .i64 1),(.slice (some ⟨p0,0,none⟩) [(⟨x0.phase,f0⟩:Fct)].length 1),(.slice h3 m4.length i3)]:=a0
   refine BF ?_
   refine Bv ?_
   obtain rfl:=sm b0
   exact show Exists _ from ⟨_,(h3,i3),rfl,⟨rfl,rfl,rfl,rfl,rfl,trivial⟩,_,((hB.st m0).st o0).st s0,((c0.st m0).st o0).st s0,((h7.st m0).st o0).st s0,((i0.st m0).st o0).st s0,((j0.st m0).st o0).st s0,((d0.st m0).st o0).st s0,a0,((g0.st m0).st o0).st s0,j3.st s0⟩
  replace b0:=im b0 e2
  refine o_z ?_
  refine Ae rfl (AO ?_)
  obtain rfl:=sm b0
  exact show Exists _ from ⟨_,(u0.1,u0.2),rfl,⟨rfl,rfl,rfl,rfl,rfl,trivial⟩,_,hB,c0,h7,i0,j0,d0,a0,g0,q1⟩
 rintro c7 d7 ⟨e7,f7,rfl,k3,g7,hB,c0,h7,i0,j0,d0,a0,g0,q0⟩
 replace hm:=AR hm
 refine AH _ k3 ?_
 refine Ab (Aa (Ax rfl (At (hc:=Blk.cell (i:=3) (a0.1) rfl) rfl ?_)))
 refine Ax rfl (At (hc:=Blk.cell (i:=3) (c0.1) rfl) rfl ?_)
 refine Cl rfl rfl ?_
 obtain ⟨k1,h2,hm⟩:=bs hm
 obtain ⟨h2,r4,s4⟩:=AI h2
 refine BC rfl (a:=(⟨([]:List Fct),x0.phase,0⟩:Eff)) q0 (Vb.ofAgg (cs:=[(.slice none 0 0),(.int .i64 x0.phase),(.int .i64 0)]) (x:=(⟨([]:List Fct),x0.phase,0⟩:Eff)) rfl ⟨_,rfl,(Vb.nil _ _),q3,(iI64 0)⟩) (fun _=>rfl) rfl r4 s4 ⟨rfl,rfl⟩ fun i7 r1 s1 j7 l3 t1 y0=>?_
 rw [← h2] at y0 ⊢
 refine Ax rfl ?_
 replace a0:=a0.st t1
 refine Az a0 rfl rfl rfl (AJ) (allOne) fun t4 u1 a0=>?_
 replace a0:Lc 5 t4 l3 t0 82 [(.string (⟨#[97,100,118,97,110,99,101]⟩:ByteArray)),(.int .i64 1),(.slice (some ⟨p0,0,none⟩) [(⟨x0.phase,f0⟩:Fct)].length 1),(.slice r1 k1.length s1)]:=a0
 refine o_z ?_
 refine Ab (Aa (Bd (hl:=rfl) (hc:=(a0.1).cellsAt) rfl ?_))
 replace d0:=(d0.st t1).st u1
 refine Az d0 rfl rfl rfl (AJ) (allOne) fun m3 i2 d0=>?_
 replace d0:Lc 3 m3 l3 g1 82 [(.string (⟨#[97,100,118,97,110,99,101]⟩:ByteArray)),(.int .i64 1),(.slice (some ⟨p0,0,none⟩) [(⟨x0.phase,f0⟩:Fct)].length 1),(.slice r1 k1.length s1)]:=d0
 refine o_z ?_
 refine AF ?_
 replace g0:=((g0.st t1).st u1).st i2
 obtain ⟨k7,j2,g0⟩:=g0.freeze
 replace y0:=((y0.st u1).st i2).st j2
 obtain ⟨u4,k2,y0⟩:=y0.freeze
 obtain rfl:=sm hm
 replace hB:=((((hB.st t1).st u1).st i2).st j2).st k2
 replace d0:=(d0.st j2).st k2
 replace g0:=g0.st k2
 exact ret1v rfl (Er (cs:=[(.string (⟨#[97,100,118,97,110,99,101]⟩:ByteArray)),(.int .i64 1),(.slice (some ⟨p0,0,none⟩) [(⟨x0.phase,f0⟩:Fct)].length 1),(.slice r1 k1.length s1)]) rfl rfl d0.1.cellsAt) ⟨hB.ext,(Vb.mono (F:=Fr 0 m3 u4) (Vb.ofAgg (cs:=[(.string (⟨#[97,100,118,97,110,99,101]⟩:ByteArray)),(.int .i64 1),(.slice (some ⟨p0,0,none⟩) [(⟨x0.phase,f0⟩:Fct)].length 1),(.slice r1 k1.length s1)]) (x:=(⟨(⟨#[97,100,118,97,110,99,101]⟩:ByteArray),1,[(⟨x0.phase,f0⟩:Fct)],k1⟩:Opr)) rfl ⟨_,_,rfl,g0,y0,(iI64 1),(show (⟨#[97,100,118,97,110,99,101]⟩:ByteArray).size≤9223372036854775807 from by decide)⟩) hB.out)⟩
noncomputable def Cm (x0:Tpl):Option (Tsk×Err) :=
  bnd (CN x0) fun q29=>if q29.n≠0 then (some ((⟨([]:List Int),([]:List Int),([]:List Fct),([]:List Opr)⟩:Tsk),(⟨q29.n⟩:Err))) else (bnd (DV x0) fun q40=>bnd (mkI 8 (0:Int) (q40.vars.length:Int)) fun u69=>bnd (BD x0.goal) fun q71=>bnd (rng (ρ:=Tsk×Err) (fun (k256:Nat) (a257:Job) (s254:(List Fct)×(List Opr))=>bnd (Bz q40 (k256:Int)) fun q311=>bnd (Cj q40 (k256:Int)) fun q313=>bnd (some ():Option Unit) fun y315=>bnd (catI (⟨#[115,116,97,114,116,32]⟩:ByteArray) a257.name) fun n561=>bnd (Bz q40 (k256:Int)) fun q563=>bnd (BS q40 n561 a257.start a257.atStart ([(⟨q311,0⟩:Fct),(⟨q313,0⟩:Fct)]:List Fct) ([(⟨([]:List Fct),q563,a257.dur⟩:Eff)]:List Eff)) fun q565=>bnd (appI 72 s254.2 [q565]) fun u567=>bnd (chkI (a257.dur + 1)) fun n700=>bnd (Bz q40 (k256:Int)) fun q702=>bnd (catI (⟨#[101,110,100,32]⟩:ByteArray) a257.name) fun n776=>bnd (Bz q40 (k256:Int)) fun q778=>bnd (Cj q40 (k256:Int)) fun q780=>bnd (BS q40 n776 a257.fin a257.atEnd ([(⟨q702,n700⟩:Fct)]:List Fct) ([(⟨([]:List Fct),q778,0⟩:Eff),(⟨([]:List Fct),q780,1⟩:Eff)]:List Eff)) fun q782=>bnd (appI 72 u567 [q782]) fun u784=>bnd (appI 16 s254.1 [(⟨q311,0⟩:Fct)]) fun u951=>some (.next (u951,u784))) x0.jobs 0 (q71,([]:List Opr))) fun res252=>fin res252 fun (s969:(List Fct)×(List Opr))=>bnd (appI 16 s969.1 [(⟨q40.phase,0⟩:Fct)]) fun u971=>bnd (if 0 < (x0.jobs.length:Int) then (bnd (appI 72 s969.2 [(⟨(⟨#[116,105,99,107]⟩:ByteArray),0,[(⟨q40.phase,0⟩:Fct)],[(⟨([]:List Fct),q40.phase,1⟩:Eff)]⟩:Opr)]) fun u1010=>bnd (rng (ρ:=(List Opr)) (fun (k1030:Nat) (a1031:Job) (s1028:(List Opr))=>bnd (chkI (a1031.dur + 1)) fun n1081=>bnd (natI n1081) fun N1097=>bnd (rngN (ρ:=Ctl (List Opr) (List Opr)) (fun (k1088:Nat) (s1086:(List Opr))=>bnd (Cs q40 a1031 (k1030:Int) (k1088:Int)) fun q1103=>bnd (appI 72 s1086 [q1103]) fun u1127=>some (.next u1127)) N1097 s1028) fun res1084=>fin res1084 fun (s1144:(List Opr))=>some (.next s1144)) x0.jobs 0 u1010) fun res1026=>fin res1026 fun (s1150:(List Opr))=>bnd (Cf q40 (x0.jobs.length:Int)) fun q1154=>bnd (appI 72 s1150 [q1154]) fun u1178=>some u1178) else (some s969.2):Option (List Opr)) fun y985=>bnd (FY (⟨q40.vars,(cpyL u69 x0.init),u971,y985⟩:Tsk)) fun q1201=>if q1201.n≠0 then (some ((⟨([]:List Int),([]:List Int),([]:List Fct),([]:List Opr)⟩:Tsk),(⟨q1201.n⟩:Err))) else (some ((⟨q40.vars,(cpyL u69 x0.init),u971,y985⟩:Tsk),(⟨0⟩:Err))))
set_option maxHeartbeats 1000000 in
theorem Gn {w:World} {A:Nat→Prop} (hA:∀ k,A k→k < w.heap.size) {vx0:Value} {x0:Tpl} (aK:Vb w A vx0 x0) {r:Tsk×Err} (hm:Cm x0=some r) :
    Fn prog 12 [vx0] w fun v w'=>Ext w w'∧T2 w' (upA A w w') v r:=by
 obtain ⟨O,hB,mU⟩:=enter hA
 replace aK:=aK.mono mU
 obtain ⟨cs2,rfl,v3,v4,v5,v6,rfl,h7,b2,c2,w1⟩:=aK
 obtain ⟨A8,c9,rfl⟩:=h7.form
 obtain ⟨p7,q7,rfl⟩:=b2.form
 obtain ⟨m7,n7,rfl⟩:=c2.form
 obtain ⟨j6,k6,rfl⟩:=w1.form
 refine AL func12 rfl ntmps12 ?_
 unfold Cm at hm
 refine Ab (Aa (BL 2 O rfl fun a7 nU aS eC p1=>?_))
 replace p1:Lc 2 nU aS a7 26 [(.slice A8 x0.vars.length c9),(.slice p7 x0.init.length q7),(.slice m7 x0.goal.length n7),(.slice j6 x0.jobs.length k6)]:=p1
 refine AU 3 aS fun l6 oU bS aB i1=>?_
 refine Am rfl (o_z ?_)
 refine Ab (Ab (Aa ?_))
 replace p1:=p1.st aB
 refine Bd (hl:=rfl) (hc:=(p1.1).cellsAt) rfl ?_
 obtain ⟨q29,pU,hm⟩:=bs hm
 replace h7:=(h7.st eC).st aB
 replace b2:=(b2.st eC).st aB
 replace c2:=(c2.st eC).st aB
 replace w1:=(w1.st eC).st aB
 refine AM (O:=bS) (Ie (fun _ h=>h) (Vb.mono (F:=Fr 0 oU bS) (Vb.ofAgg (cs:=[(.slice A8 x0.vars.length c9),(.slice p7 x0.init.length q7),(.slice m7 x0.goal.length n7),(.slice j6 x0.jobs.length k6)]) (x:=x0) rfl ⟨_,_,_,_,rfl,h7,b2,c2,w1⟩) Fr.lt) pU) rfl fun v35 w31 bK h9 qU=>?_
 obtain ⟨rfl,rU⟩:=qU.err
 refine Am rfl (o_z ?_)
 refine Ab (Aa (Ak rfl (Jj rfl (fun cK=>?_) fun cK=>?_)))
 ·
  replace hm:=ip hm cK
  refine o_z ?_
  refine Ah rfl (Ab (Aa (Cl rfl rfl ?_)))
  refine Ak rfl ?_
  replace i1:=i1.st h9
  refine Az i1 rfl rfl rfl (AJ) (allOne) fun cS sU i1=>?_
  replace i1:Lc 3 cS bK l6 31 [(.slice none 0 0),(.slice none 0 0),(.slice none 0 0),(.slice none 0 0)]:=i1
  refine Am rfl (o_z ?_)
  refine AF ?_
  obtain rfl:=sm hm
  replace hB:=(((hB.st eC).st aB).st h9).st sU
  exact ret2 rfl (Er (cs:=[(.slice none 0 0),(.slice none 0 0),(.slice none 0 0),(.slice none 0 0)]) rfl rfl i1.1.cellsAt) (AA rfl) ⟨hB.ext,_,_,rfl,(Vb.mono (F:=Fr 0 cS bK) (Vb.ofAgg (cs:=[(.slice none 0 0),(.slice none 0 0),(.slice none 0 0),(.slice none 0 0)]) (x:=(⟨([]:List Int),([]:List Int),([]:List Fct),([]:List Opr)⟩:Tsk)) rfl ⟨_,_,_,_,rfl,(Vb.nil _ _),(Vb.nil _ _),(Vb.nil _ _),(Vb.nil _ _)⟩) hB.out),(vErr (h:=rU))⟩
 replace hm:=im hm cK
 refine o_z ?_
 refine Ae rfl (AO (Ab (Aa ?_)))
 replace p1:=p1.st h9
 refine Bd (hl:=rfl) (hc:=(p1.1).cellsAt) rfl ?_
 obtain ⟨c0,tU,hm⟩:=bs hm
 replace h7:=h7.st h9
 replace b2:=b2.st h9
 replace c2:=c2.st h9
 replace w1:=w1.st h9
 refine Cc (O:=bK) (MS Fr.lt (Vb.ofAgg (cs:=[(.slice A8 x0.vars.length c9),(.slice p7 x0.init.length q7),(.slice m7 x0.goal.length n7),(.slice j6 x0.jobs.length k6)]) (x:=x0) rfl ⟨_,_,_,_,rfl,h7,b2,c2,w1⟩) tU) rfl fun v46 w42 uU g9 vU=>?_
 obtain ⟨wU,rfl,v48,v49,v50,rfl,k0,m0,h0,z6,m6⟩:=vU
 obtain ⟨j2,k2,rfl⟩:=k0.form
 obtain ⟨l2,m2,rfl⟩:=m0.form
 obtain ⟨e2,f2,rfl⟩:=h0.form
 refine AU 4 uU fun b7 w63 dS r7 f1=>?_
 refine Az f1 rfl rfl rfl (AJ) (allOne) fun xU s7 f1=>?_
 replace f1:Lc 4 xU dS b7 74 [(.int .i64 c0.jobs),(.slice j2 c0.write.length k2),(.slice l2 c0.read.length m2),(.int .i64 c0.phase),(.slice e2 c0.vars.length f2)]:=f1
 refine o_z ?_
 refine Ab ?_
 obtain ⟨z2,yU,hm⟩:=bs hm
 obtain ⟨x8,zU,hm⟩:=bs hm
 refine Br [] dS ?_
 refine AP (fuel:=5) [] [(0,true),(1,true),(2,true),(3,true),(4,true),(6,true),(7,true)] rfl ?_
 refine AT rfl rfl (AV (hc:=bCell f1 4 rfl) rfl rfl ?_)
 refine AT rfl rfl (AV (hc:=bCell f1 4 rfl) rfl rfl ?_)
 refine JQ rfl rfl ?_
 replace h0:=(h0.st r7).st s7
 have aV:c0.vars.length≤9223372036854775807:=Nat.le_trans h0.len.2.1 h0.len.2.2
 have r73:inI64 (c0.vars.length:Int):=rngNat aV
 refine AT rfl rfl ?_
 replace p1:=((p1.st g9).st r7).st s7
 refine AV (hc:=bCell p1 2 rfl) rfl rfl ?_
 refine AC ?_
 refine GX (l0:=[(1,(.pointer (some ⟨a7,0,none⟩))),(2,(.pointer (some ⟨l6,0,none⟩))),(5,(.pointer (some ⟨b7,0,none⟩))),(25,(.slice e2 c0.vars.length f2)),(28,(.int .i64 (c0.vars.length:Int))),(31,(.slice m7 x0.goal.length n7))]) (zs:=[⟨5,29,fun v w O=>∃ (nJ:Option Addr),∃ (oJ:Nat),v=(.slice nJ z2.length oJ)∧Rw 5 w O 3 (.slice nJ z2.length oJ) z2⟩,⟨8,32,fun v w O=>∃ (pJ:Option Addr),∃ (qJ:Nat),v=(.slice pJ x8.length qJ)∧Rw 6 w O 78 (.slice pJ x8.length qJ) x8⟩,⟨9,33,fun v w O=>∃ (rJ:Option Addr),∃ (sJ:Nat),∃ (tJ:Option Addr),∃ (uJ:Nat),∃ (vJ:Option Addr),∃ (wJ:Nat),v=(.agg #[(.slice rJ c0.vars.length sJ),(.slice tJ z2.length uJ),(.slice vJ x8.length wJ),(.slice none 0 0)])∧Vb w (Fr 0 w O) (.slice rJ c0.vars.length sJ) c0.vars∧Rw 5 w O 3 (.slice tJ z2.length uJ) z2∧Rw 6 w O 78 (.slice vJ x8.length wJ) x8⟩,⟨10,6,fun v w O=>∃ (xJ:Nat),v=(.pointer (some ⟨xJ,0,none⟩))∧Lc 7 w O xJ 31 [(.slice none 0 0),(.slice none 0 0),(.slice none 0 0),(.slice none 0 0)]⟩]) #[true,true,true,true,true,true,true,true,true,true,true,false] 1 [] ⟨rfl,rfl,rfl,rfl,rfl,rfl,trivial⟩ ⟨⟨fun _ _ _ _ _ ⟨nJ,oJ,e,bV⟩ hS=>⟨nJ,oJ,e,bV.st hS id id⟩,?_⟩,⟨fun _ _ _ _ _ ⟨pJ,qJ,e,cV⟩ hS=>⟨pJ,qJ,e,cV.st hS id id⟩,?_⟩,⟨fun _ _ _ _ _ ⟨rJ,sJ,tJ,uJ,vJ,wJ,e,dV,eV,fV⟩ hS=>⟨rJ,sJ,tJ,uJ,vJ,wJ,e,dV.st hS id,eV.st hS id id,fV.st hS id id⟩,?_⟩,⟨fun _ _ _ _ _ ⟨xJ,e,gV⟩ hS=>⟨xJ,e,gV.st hS id⟩,?_⟩,trivial⟩ ?_ rfl
 ·
  refine ⟨_,rfl,fun l96 w97 hV S99 eE hD101=>?_⟩
  refine ⟨[(28,(.int .i64 (c0.vars.length:Int)))],⟨Ar eE 28 _ rfl,trivial⟩,fun Q102 hQ103=>?_⟩
  obtain ⟨iV,dK,eK,fK,gK⟩:=Lf yU
  refine Ns 5 hV (z0:=(0:Int)) rfl rfl rfl rfl rfl dK (vInt (iI64 0)) eK fK rfl fun jV kV lV hK fE=>?_
  rw [← gK] at fE ⊢
  refine Bo (hQ103 _ _ ⟨_,_,rfl,hK,⟨_,_,rfl,fE⟩⟩)
 ·
  refine ⟨_,rfl,fun mV nV iK jK gE hD132=>?_⟩
  refine ⟨[(31,(.slice m7 x0.goal.length n7))],⟨Ar gE 31 _ rfl,trivial⟩,fun Q133 hQ134=>?_⟩
  replace c2:=(((c2.st g9).st r7).st s7).st jK
  refine CZ 6 (O:=iK) (Ek Fr.lt c2 zU) rfl fun oV pV qV rV kK lK=>?_
  refine Bo (hQ134 _ _ ⟨_,_,rfl,kK,⟨_,_,rfl,lK⟩⟩)
 ·
  refine ⟨_,rfl,fun sV hE iE mK jE hD160=>?_⟩
  obtain ⟨_,nK,kE,lE,rfl,fC⟩:=hD160.at 0 rfl (by kernel_rfl)
  replace fC:Rw 5 hE iE 3 (.slice kE z2.length lE) z2:=fC
  obtain ⟨_,oK,mE,nE,rfl,gC⟩:=hD160.at 1 rfl (by kernel_rfl)
  replace gC:Rw 6 hE iE 78 (.slice mE x8.length nE) x8:=gC
  refine ⟨[(25,(.slice e2 c0.vars.length f2)),(29,(.slice kE z2.length lE)),(32,(.slice mE x8.length nE))],⟨Ar jE 25 _ rfl,nK,oK,trivial⟩,fun Q161 hQ162=>?_⟩
  refine Cl rfl rfl ?_
  replace h0:=h0.st mK
  refine Bo (hQ162 _ _ ⟨_,_,rfl,St.refl _ _ _,⟨_,_,_,_,_,_,rfl,h0,fC,gC⟩⟩)
 ·
  refine ⟨_,rfl,fun tV uV pK vV eS hD211=>?_⟩
  refine ⟨[],trivial,fun Q212 hQ213=>?_⟩
  refine AU 7 pK fun wV xV yV qK rK=>?_
  refine Bo (hQ213 _ _ ⟨_,_,rfl,qK,⟨_,rfl,rK⟩⟩)
 intro zV i9 y8 d5 j9 hD230
 obtain ⟨_,sK,n1,rfl,e0⟩:=hD230.at 3 rfl rfl
 replace e0:Lc 7 i9 y8 n1 31 [(.slice none 0 0),(.slice none 0 0),(.slice none 0 0),(.slice none 0 0)]:=e0
 obtain ⟨_,tK,q1,r1,s1,t1,eA,fA,rfl,j0,i0,k9⟩:=hD230.at 2 rfl rfl
 replace j0:Vb i9 (Fr 0 i9 y8) (.slice q1 c0.vars.length r1) c0.vars:=j0
 replace i0:Rw 5 i9 y8 3 (.slice s1 z2.length t1) z2:=i0
 replace k9:Rw 6 i9 y8 78 (.slice eA x8.length fA) x8:=k9
 refine GW [(1,(.pointer (some ⟨a7,0,none⟩))),(2,(.pointer (some ⟨l6,0,none⟩))),(5,(.pointer (some ⟨b7,0,none⟩))),(6,(.pointer (some ⟨n1,0,none⟩))),(33,(.agg #[(.slice q1 c0.vars.length r1),(.slice s1 z2.length t1),(.slice eA x8.length fA),(.slice none 0 0)]))] ⟨Ar j9 1 _ rfl,Ar j9 2 _ rfl,Ar j9 5 _ rfl,sK,tK,trivial⟩ ?_
 refine AD (i:=11) rfl ?_
 refine Az e0 rfl rfl rfl (AJ) (allOne) fun uK e4 e0=>?_
 replace e0:Lc 7 uK y8 n1 31 [(.slice q1 c0.vars.length r1),(.slice s1 z2.length t1),(.slice eA x8.length fA),(.slice none 0 0)]:=e0
 refine BF ?_
 refine Bv ?_
 refine Ab (Aa (Ax rfl (At (hc:=Blk.cell (i:=1) (e0.1) rfl) rfl ?_)))
 refine Ax rfl ?_
 replace p1:=(p1.st d5).st e4
 refine At (hc:=Blk.cell (i:=1) (p1.1) rfl) rfl ?_
 replace b2:=((((b2.st g9).st r7).st s7).st d5).st e4
 replace i0:=i0.st e4
 refine Px i0 b2 rfl rfl rfl fun aW n2 i0 _=>?_
 refine o_z ?_
 refine Ab (Ab (Aa (Ax rfl ?_)))
 replace p1:=p1.st n2
 refine At (hc:=Blk.cell (i:=3) (p1.1) rfl) rfl ?_
 refine AS rfl ?_
 replace w1:=(((((w1.st g9).st r7).st s7).st d5).st e4).st n2
 have hC:x0.jobs.length≤9223372036854775807:=Nat.le_trans w1.len.2.1 w1.len.2.2
 have bW:inI64 (x0.jobs.length:Int):=rngNat hC
 refine Ak rfl (o_z ?_)
 obtain ⟨iC,oE,hm⟩:=bs hm
 refine Ay (aft iC (fun (g2:(List Fct)×(List Opr)) (g1:(Option Addr×Nat)×(Option Addr×Nat))=>[(1,(.pointer (some ⟨a7,0,none⟩))),(2,(.pointer (some ⟨l6,0,none⟩))),(5,(.pointer (some ⟨b7,0,none⟩))),(6,(.pointer (some ⟨n1,0,none⟩)))]) (fun g2 g1 w'=>∃ O':Lab,Bs w A w' O'∧Lc 2 w' O' a7 26 [(.slice A8 x0.vars.length c9),(.slice p7 x0.init.length q7),(.slice m7 x0.goal.length n7),(.slice j6 x0.jobs.length k6)]∧Vb w' (Fr 0 w' O') (.slice A8 x0.vars.length c9) x0.vars∧Vb w' (Fr 0 w' O') (.slice p7 x0.init.length q7) x0.init∧Vb w' (Fr 0 w' O') (.slice m7 x0.goal.length n7) x0.goal∧Vb w' (Fr 0 w' O') (.slice j6 x0.jobs.length k6) x0.jobs∧Lc 3 w' O' l6 31 [(.slice none 0 0),(.slice none 0 0),(.slice none 0 0),(.slice none 0 0)]∧Lc 4 w' O' b7 74 [(.int .i64 c0.jobs),(.slice j2 c0.write.length k2),(.slice l2 c0.read.length m2),(.int .i64 c0.phase),(.slice e2 c0.vars.length f2)]∧Vb w' (Fr 0 w' O') (.slice j2 c0.write.length k2) c0.write∧Vb w' (Fr 0 w' O') (.slice l2 c0.read.length m2) c0.read∧Vb w' (Fr 0 w' O') (.slice e2 c0.vars.length f2) c0.vars∧Lc 7 w' O' n1 31 [(.slice q1 c0.vars.length r1),(.slice s1 z2.length t1),(.slice g1.1.1 g2.1.length g1.1.2),(.slice g1.2.1 g2.2.length g1.2.2)]∧Vb w' (Fr 0 w' O') (.slice q1 c0.vars.length r1) c0.vars∧Rw 5 w' O' 3 (.slice s1 z2.length t1) (cpyL z2 x0.init)∧Rw 6 w' O' 78 (.slice g1.1.1 g2.1.length g1.1.2) g2.1∧Rw 14 w' O' 82 (.slice g1.2.1 g2.2.length g1.2.2) g2.2)) ?_ ?_
 ·
  refine AK ?_
  replace hB:=((((((((hB.st eC).st aB).st h9).st g9).st r7).st s7).st d5).st e4).st n2
  replace h7:=(((((h7.st g9).st r7).st s7).st d5).st e4).st n2
  replace b2:=b2.st n2
  replace c2:=(((((c2.st g9).st r7).st s7).st d5).st e4).st n2
  replace i1:=((((((i1.st h9).st g9).st r7).st s7).st d5).st e4).st n2
  replace k0:=((((k0.st r7).st s7).st d5).st e4).st n2
  replace m0:=((((m0.st r7).st s7).st d5).st e4).st n2
  replace h0:=((h0.st d5).st e4).st n2
  replace f1:=((f1.st d5).st e4).st n2
  replace e0:=e0.st n2
  replace j0:=(j0.st e4).st n2
  replace k9:=(k9.st e4).st n2
  refine AY (σ:=(List Fct)×(List Opr)) (X:=(Option Addr×Nat)×(Option Addr×Nat)) (x0.jobs.length) oE rfl hC (fun (g2:(List Fct)×(List Opr)) (g1:(Option Addr×Nat)×(Option Addr×Nat))=>[(1,(.pointer (some ⟨a7,0,none⟩))),(2,(.pointer (some ⟨l6,0,none⟩))),(5,(.pointer (some ⟨b7,0,none⟩))),(6,(.pointer (some ⟨n1,0,none⟩))),(40,(.slice j6 x0.jobs.length k6))]) _ (fun g2 g1 w'=>∃ O':Lab,Bs w A w' O'∧Lc 2 w' O' a7 26 [(.slice A8 x0.vars.length c9),(.slice p7 x0.init.length q7),(.slice m7 x0.goal.length n7),(.slice j6 x0.jobs.length k6)]∧Vb w' (Fr 0 w' O') (.slice A8 x0.vars.length c9) x0.vars∧Vb w' (Fr 0 w' O') (.slice p7 x0.init.length q7) x0.init∧Vb w' (Fr 0 w' O') (.slice m7 x0.goal.length n7) x0.goal∧Vb w' (Fr 0 w' O') (.slice j6 x0.jobs.length k6) x0.jobs∧Lc 3 w' O' l6 31 [(.slice none 0 0),(.slice none 0 0),(.slice none 0 0),(.slice none 0 0)]∧Lc 4 w' O' b7 74 [(.int .i64 c0.jobs),(.slice j2 c0.write.length k2),(.slice l2 c0.read.length m2),(.int .i64 c0.phase),(.slice e2 c0.vars.length f2)]∧Vb w' (Fr 0 w' O') (.slice j2 c0.write.length k2) c0.write∧Vb w' (Fr 0 w' O') (.slice l2 c0.read.length m2) c0.read∧Vb w' (Fr 0 w' O') (.slice e2 c0.vars.length f2) c0.vars∧Lc 7 w' O' n1 31 [(.slice q1 c0.vars.length r1),(.slice s1 z2.length t1),(.slice g1.1.1 g2.1.length g1.1.2),(.slice g1.2.1 g2.2.length g1.2.2)]∧Vb w' (Fr 0 w' O') (.slice q1 c0.vars.length r1) c0.vars∧Rw 5 w' O' 3 (.slice s1 z2.length t1) (cpyL z2 x0.init)∧Rw 6 w' O' 78 (.slice g1.1.1 g2.1.length g1.1.2) g2.1∧Rw 14 w' O' 82 (.slice g1.2.1 g2.2.length g1.2.2) g2.2) _ ((eA,fA),(none,0)) ⟨y8,hB,p1,h7,b2,c2,w1,i1,f1,k0,m0,h0,e0,j0,i0,k9,(Rw.nil 14 (by decide))⟩ ⟨rfl,rfl,rfl,rfl,rfl,rfl,rfl,trivial⟩ (fun _ _=>⟨rfl,rfl⟩) (fun _ _=>⟨rfl,rfl,rfl,rfl,trivial⟩) (fun _ _ _ ⟨O',hB,p1,h7,b2,c2,w1,i1,f1,k0,m0,h0,e0,j0,i0,u4,o2⟩=>⟨O',hB,p1,h7,b2,c2,w1,i1,f1,k0,m0,h0,e0,j0,i0,u4,o2⟩) ⟨rfl,rfl,rfl⟩ ⟨rfl,rfl⟩ ?_
  rintro y4 t0 g2 g1 cW fS bB ⟨vK,hB,p1,h7,b2,c2,w1,i1,f1,k0,m0,h0,e0,j0,i0,u4,o2⟩ q0 yJ zJ
  have rk256:inI64 (y4:Int):=rngK bB hC
  refine Ab (Aa (Ak rfl ?_))
  obtain ⟨dW,eW,gS,pE,qE,rE,fW,gW,hW,iW,jW,rfl,e5,w5,f5,g5,h5,kW,wK⟩:=w1.elem' bB
  obtain ⟨l9,m9,rfl⟩:=e5.form
  obtain ⟨jC,kC,rfl⟩:=w5.form
  obtain ⟨n9,o9,rfl⟩:=f5.form
  obtain ⟨p9,q9,rfl⟩:=g5.form
  obtain ⟨r9,s9,rfl⟩:=h5.form
  refine Bi (hA:=pE) (hj:=rfl) (hlt:=qE) rfl rfl ?_
  refine Bd (hl:=rfl) (hc:=rE) rfl ?_
  refine AU 8 vK fun w7 lW z8 a0 x1=>?_
  refine Am rfl (Az x1 rfl rfl rfl (AJ) (allOne) fun sE b0 x1=>?_)
  replace x1:Lc 8 sE z8 w7 66 [(.string t0.name),(.int .i64 t0.dur),(.slice l9 t0.start.length m9),(.slice jC t0.over.length kC),(.slice n9 t0.fin.length o9),(.slice p9 t0.atStart.length q9),(.slice r9 t0.atEnd.length s9)]:=x1
  refine o_z ?_
  refine Ab ?_
  obtain ⟨z1,t9,q0⟩:=bs q0
  obtain ⟨p2,c7,q0⟩:=bs q0
  obtain ⟨mW,k5,q0⟩:=bs q0
  refine Ay (fun l' w'=>∃ (d7:Nat×Nat) (O':Lab),subs l' [(1,(.pointer (some ⟨a7,0,none⟩))),(2,(.pointer (some ⟨l6,0,none⟩))),(5,(.pointer (some ⟨b7,0,none⟩))),(6,(.pointer (some ⟨n1,0,none⟩))),(7,(.int .i64 (y4:Int))),(8,(.pointer (some ⟨w7,0,none⟩))),(9,(.pointer (some ⟨d7.1,0,none⟩))),(10,(.pointer (some ⟨d7.2,0,none⟩))),(40,(.slice j6 x0.jobs.length k6)),(41,(.int .i64 (x0.jobs.length:Int))),(42,(.int .i64 (y4:Int)))]∧Bs w A w' O'∧Lc 2 w' O' a7 26 [(.slice A8 x0.vars.length c9),(.slice p7 x0.init.length q7),(.slice m7 x0.goal.length n7),(.slice j6 x0.jobs.length k6)]∧Vb w' (Fr 0 w' O') (.slice A8 x0.vars.length c9) x0.vars∧Vb w' (Fr 0 w' O') (.slice p7 x0.init.length q7) x0.init∧Vb w' (Fr 0 w' O') (.slice m7 x0.goal.length n7) x0.goal∧Vb w' (Fr 0 w' O') (.slice j6 x0.jobs.length k6) x0.jobs∧Lc 3 w' O' l6 31 [(.slice none 0 0),(.slice none 0 0),(.slice none 0 0),(.slice none 0 0)]∧Lc 4 w' O' b7 74 [(.int .i64 c0.jobs),(.slice j2 c0.write.length k2),(.slice l2 c0.read.length m2),(.int .i64 c0.phase),(.slice e2 c0.vars.length f2)]∧Vb w' (Fr 0 w' O') (.slice j2 c0.write.length k2) c0.write∧Vb w' (Fr 0 w' O') (.slice l2 c0.read.length m2) c0.read∧Vb w' (Fr 0 w' O') (.slice e2 c0.vars.length f2) c0.vars∧Lc 7 w' O' n1 31 [(.slice q1 c0.vars.length r1),(.slice s1 z2.length t1),(.slice g1.1.1 g2.1.length g1.1.2),(.slice g1.2.1 g2.2.length g1.2.2)]∧Vb w' (Fr 0 w' O') (.slice q1 c0.vars.length r1) c0.vars∧Rw 5 w' O' 3 (.slice s1 z2.length t1) (cpyL z2 x0.init)∧Rw 6 w' O' 78 (.slice g1.1.1 g2.1.length g1.1.2) g2.1∧Rw 14 w' O' 82 (.slice g1.2.1 g2.2.length g1.2.2) g2.2∧Lc 8 w' O' w7 66 [(.string t0.name),(.int .i64 t0.dur),(.slice l9 t0.start.length m9),(.slice jC t0.over.length kC),(.slice n9 t0.fin.length o9),(.slice p9 t0.atStart.length q9),(.slice r9 t0.atEnd.length s9)]∧Vb w' (Fr 0 w' O') (.slice l9 t0.start.length m9) t0.start∧Vb w' (Fr 0 w' O') (.slice jC t0.over.length kC) t0.over∧Vb w' (Fr 0 w' O') (.slice n9 t0.fin.length o9) t0.fin∧Vb w' (Fr 0 w' O') (.slice p9 t0.atStart.length q9) t0.atStart∧Vb w' (Fr 0 w' O') (.slice r9 t0.atEnd.length s9) t0.atEnd∧Lc 9 w' O' d7.1 78 [(.int .i64 z1),(.int .i64 0)]∧Lc 10 w' O' d7.2 78 [(.int .i64 p2),(.int .i64 0)]∧inI64 z1∧inI64 p2) ?_ ?_
  ·
   refine Br [(10,[9])] z8 ?_
   refine AP (fuel:=8) [] [(0,true),(1,true),(4,true),(5,true)] rfl ?_
   replace f1:=(f1.st a0).st b0
   refine CJ (hl:=rfl) (hb:=fun w' ⟨O',hq⟩=>((f1.st hq (by decide)).1).cellsAt) rfl rfl ?_
   refine AX rfl rfl (CJ (hl:=rfl) (hb:=fun w' ⟨O',hq⟩=>((f1.st hq (by decide)).1).cellsAt) rfl rfl ?_)
   refine AX rfl rfl (AC ?_)
   refine Om (i:=2) (j:=8) (k:=9) rfl rfl rfl ?_ ?_ ?_
   ·
    replace k0:=(k0.st a0).st b0
    replace m0:=(m0.st a0).st b0
    replace h0:=(h0.st a0).st b0
    refine AM (O:=z8) (BJ (fun _ h=>h) (Vb.mono (F:=Fr 0 sE z8) (Vb.ofAgg (cs:=[(.int .i64 c0.jobs),(.slice j2 c0.write.length k2),(.slice l2 c0.read.length m2),(.int .i64 c0.phase),(.slice e2 c0.vars.length f2)]) (x:=c0) rfl ⟨_,_,_,rfl,k0,m0,h0,z6,m6⟩) Fr.lt) rk256 t9) rfl fun nW xK gA d0 yK=>?_
    obtain ⟨rfl,a9⟩:=yK.int
    have hZ:=lZ d0
    refine AN [(10,[9])] hZ ?_
    refine AP (fuel:=6) [] [(3,true)] rfl ?_
    refine Cq rfl rfl rfl ?_
    refine AC ?_
    refine Om (i:=6) (j:=8) (k:=9) rfl rfl rfl ?_ ?_ ?_
    ·
     replace k0:=k0.st d0
     replace m0:=m0.st d0
     replace h0:=h0.st d0
     refine AM (O:=gA) (BE (fun _ h=>h) (Vb.mono (F:=Fr 0 xK gA) (Vb.ofAgg (cs:=[(.int .i64 c0.jobs),(.slice j2 c0.write.length k2),(.slice l2 c0.read.length m2),(.int .i64 c0.phase),(.slice e2 c0.vars.length f2)]) (x:=c0) rfl ⟨_,_,_,rfl,k0,m0,h0,z6,m6⟩) Fr.lt) rk256 c7) rfl fun oW pW tE u0 zK=>?_
     obtain ⟨rfl,uE⟩:=zK.int
     have hZ:=lZ u0
     refine AN [(10,[9])] hZ ?_
     refine AP (fuel:=4) [9] [(7,true)] rfl ?_
     refine Cq rfl rfl rfl ?_
     refine AC ?_
     refine EJ (i:=8) (j:=9) rfl rfl ?_ ?_
     ·
      refine AU 9 tE fun vE qW aL f4 x7=>?_
      have hZ:=lZ f4
      refine AN [(10,[9])] hZ ?_
      refine AD (i:=9) rfl ?_
      refine AU 10 aL fun wE rW xE b3 y7=>?_
      have hZ:=lZ b3
      refine AN [(10,[9])] hZ ?_
      refine AD (i:=10) rfl ?_
      replace x7:=x7.st b3
      refine Az x7 rfl rfl rfl (AJ) (allOne) fun bL c3 x7=>?_
      replace x7:Lc 9 bL xE vE 78 [(.int .i64 z1),(.int .i64 0)]:=x7
      have hZ:=c3.lst [9] (fun _ h=>by cases h;decide)
      refine AN [] hZ ?_
      refine AD (i:=11) rfl ?_
      replace y7:=y7.st c3
      refine Az y7 rfl rfl rfl (AJ) (allOne) fun cL g4 y7=>?_
      replace y7:Lc 10 cL xE wE 78 [(.int .i64 p2),(.int .i64 0)]:=y7
      refine BF ?_
      refine Bv ?_
      obtain rfl:=sm k5
      exact ⟨(vE,wE),_,⟨rfl,rfl,rfl,rfl,rfl,rfl,rfl,rfl,rfl,rfl,rfl,trivial⟩,(((((((hB.st a0).st b0).st d0).st u0).st f4).st b3).st c3).st g4,(((((((p1.st a0).st b0).st d0).st u0).st f4).st b3).st c3).st g4,(((((((h7.st a0).st b0).st d0).st u0).st f4).st b3).st c3).st g4,(((((((b2.st a0).st b0).st d0).st u0).st f4).st b3).st c3).st g4,(((((((c2.st a0).st b0).st d0).st u0).st f4).st b3).st c3).st g4,(((((((w1.st a0).st b0).st d0).st u0).st f4).st b3).st c3).st g4,(((((((i1.st a0).st b0).st d0).st u0).st f4).st b3).st c3).st g4,(((((f1.st d0).st u0).st f4).st b3).st c3).st g4,((((k0.st u0).st f4).st b3).st c3).st g4,((((m0.st u0).st f4).st b3).st c3).st g4,((((h0.st u0).st f4).st b3).st c3).st g4,(((((((e0.st a0).st b0).st d0).st u0).st f4).st b3).st c3).st g4,(((((((j0.st a0).st b0).st d0).st u0).st f4).st b3).st c3).st g4,(((((((i0.st a0).st b0).st d0).st u0).st f4).st b3).st c3).st g4,(((((((u4.st a0).st b0).st d0).st u0).st f4).st b3).st c3).st g4,(((((((o2.st a0).st b0).st d0).st u0).st f4).st b3).st c3).st g4,(((((x1.st d0).st u0).st f4).st b3).st c3).st g4,(((((((e5.st a0).st b0).st d0).st u0).st f4).st b3).st c3).st g4,(((((((w5.st a0).st b0).st d0).st u0).st f4).st b3).st c3).st g4,(((((((f5.st a0).st b0).st d0).st u0).st f4).st b3).st c3).st g4,(((((((g5.st a0).st b0).st d0).st u0).st f4).st b3).st c3).st g4,(((((((h5.st a0).st b0).st d0).st u0).st f4).st b3).st c3).st g4,x7.st g4,y7,a9,uE⟩
     refine AU 10 tE fun yE sW dL h4 z7=>?_
     have hZ:=lZ h4
     refine AN [(10,[9])] hZ ?_
     refine AD (i:=8) rfl ?_
     refine AU 9 dL fun zE tW aF d3 u9=>?_
     have hZ:=lZ d3
     refine AN [(10,[9])] hZ ?_
     refine AD (i:=10) rfl ?_
     refine Az u9 rfl rfl rfl (AJ) (allOne) fun eL e3 u9=>?_
     replace u9:Lc 9 eL aF zE 78 [(.int .i64 z1),(.int .i64 0)]:=u9
     have hZ:=e3.lst [9] (fun _ h=>by cases h;decide)
     refine AN [] hZ ?_
     refine AD (i:=11) rfl ?_
     replace z7:=(z7.st d3).st e3
     refine Az z7 rfl rfl rfl (AJ) (allOne) fun fL i4 z7=>?_
     replace z7:Lc 10 fL aF yE 78 [(.int .i64 p2),(.int .i64 0)]:=z7
     refine BF ?_
     refine Bv ?_
     obtain rfl:=sm k5
     exact ⟨(zE,yE),_,⟨rfl,rfl,rfl,rfl,rfl,rfl,rfl,rfl,rfl,rfl,rfl,trivial⟩,(((((((hB.st a0).st b0).st d0).st u0).st h4).st d3).st e3).st i4,(((((((p1.st a0).st b0).st d0).st u0).st h4).st d3).st e3).st i4,(((((((h7.st a0).st b0).st d0).st u0).st h4).st d3).st e3).st i4,(((((((b2.st a0).st b0).st d0).st u0).st h4).st d3).st e3).st i4,(((((((c2.st a0).st b0).st d0).st u0).st h4).st d3).st e3).st i4,(((((((w1.st a0).st b0).st d0).st u0).st h4).st d3).st e3).st i4,(((((((i1.st a0).st b0).st d0).st u0).st h4).st d3).st e3).st i4,(((((f1.st d0).st u0).st h4).st d3).st e3).st i4,((((k0.st u0).st h4).st d3).st e3).st i4,((((m0.st u0).st h4).st d3).st e3).st i4,((((h0.st u0).st h4).st d3).st e3).st i4,(((((((e0.st a0).st b0).st d0).st u0).st h4).st d3).st e3).st i4,(((((((j0.st a0).st b0).st d0).st u0).st h4).st d3).st e3).st i4,(((((((i0.st a0).st b0).st d0).st u0).st h4).st d3).st e3).st i4,(((((((u4.st a0).st b0).st d0).st u0).st h4).st d3).st e3).st i4,(((((((o2.st a0).st b0).st d0).st u0).st h4).st d3).st e3).st i4,(((((x1.st d0).st u0).st h4).st d3).st e3).st i4,(((((((e5.st a0).st b0).st d0).st u0).st h4).st d3).st e3).st i4,(((((((w5.st a0).st b0).st d0).st u0).st h4).st d3).st e3).st i4,(((((((f5.st a0).st b0).st d0).st u0).st h4).st d3).st e3).st i4,(((((((g5.st a0).st b0).st d0).st u0).st h4).st d3).st e3).st i4,(((((((h5.st a0).st b0).st d0).st u0).st h4).st d3).st e3).st i4,u9.st i4,z7,a9,uE⟩
    ·
     refine AU 9 gA fun iA gL lC v0 f6=>?_
     have hZ:=lZ v0
     refine AN [(10,[9])] hZ ?_
     refine EJ (i:=6) (j:=9) rfl rfl ?_ ?_
     ·
      replace k0:=(k0.st d0).st v0
      replace m0:=(m0.st d0).st v0
      replace h0:=(h0.st d0).st v0
      refine AM (O:=lC) (BE (fun _ h=>h) (Vb.mono (F:=Fr 0 gL lC) (Vb.ofAgg (cs:=[(.int .i64 c0.jobs),(.slice j2 c0.write.length k2),(.slice l2 c0.read.length m2),(.int .i64 c0.phase),(.slice e2 c0.vars.length f2)]) (x:=c0) rfl ⟨_,_,_,rfl,k0,m0,h0,z6,m6⟩) Fr.lt) rk256 c7) rfl fun uW vW hL f3 iL=>?_
      obtain ⟨rfl,jL⟩:=iL.int
      have hZ:=lZ f3
      refine AN [(10,[9])] hZ ?_
      refine AP (fuel:=3) [9] [(7,true)] rfl ?_
      refine Cq rfl rfl rfl ?_
      refine AC ?_
      refine AD (i:=9) rfl ?_
      refine AU 10 hL fun bF wW cF g3 a8=>?_
      have hZ:=lZ g3
      refine AN [(10,[9])] hZ ?_
      refine AD (i:=10) rfl ?_
      replace f6:=(f6.st f3).st g3
      refine Az f6 rfl rfl rfl (AJ) (allOne) fun kL h3 f6=>?_
      replace f6:Lc 9 kL cF iA 78 [(.int .i64 z1),(.int .i64 0)]:=f6
      have hZ:=h3.lst [9] (fun _ h=>by cases h;decide)
      refine AN [] hZ ?_
      refine AD (i:=11) rfl ?_
      replace a8:=a8.st h3
      refine Az a8 rfl rfl rfl (AJ) (allOne) fun lL j4 a8=>?_
      replace a8:Lc 10 lL cF bF 78 [(.int .i64 p2),(.int .i64 0)]:=a8
      refine BF ?_
      refine Bv ?_
      obtain rfl:=sm k5
      exact ⟨(iA,bF),_,⟨rfl,rfl,rfl,rfl,rfl,rfl,rfl,rfl,rfl,rfl,rfl,trivial⟩,(((((((hB.st a0).st b0).st d0).st v0).st f3).st g3).st h3).st j4,(((((((p1.st a0).st b0).st d0).st v0).st f3).st g3).st h3).st j4,(((((((h7.st a0).st b0).st d0).st v0).st f3).st g3).st h3).st j4,(((((((b2.st a0).st b0).st d0).st v0).st f3).st g3).st h3).st j4,(((((((c2.st a0).st b0).st d0).st v0).st f3).st g3).st h3).st j4,(((((((w1.st a0).st b0).st d0).st v0).st f3).st g3).st h3).st j4,(((((((i1.st a0).st b0).st d0).st v0).st f3).st g3).st h3).st j4,(((((f1.st d0).st v0).st f3).st g3).st h3).st j4,(((k0.st f3).st g3).st h3).st j4,(((m0.st f3).st g3).st h3).st j4,(((h0.st f3).st g3).st h3).st j4,(((((((e0.st a0).st b0).st d0).st v0).st f3).st g3).st h3).st j4,(((((((j0.st a0).st b0).st d0).st v0).st f3).st g3).st h3).st j4,(((((((i0.st a0).st b0).st d0).st v0).st f3).st g3).st h3).st j4,(((((((u4.st a0).st b0).st d0).st v0).st f3).st g3).st h3).st j4,(((((((o2.st a0).st b0).st d0).st v0).st f3).st g3).st h3).st j4,(((((x1.st d0).st v0).st f3).st g3).st h3).st j4,(((((((e5.st a0).st b0).st d0).st v0).st f3).st g3).st h3).st j4,(((((((w5.st a0).st b0).st d0).st v0).st f3).st g3).st h3).st j4,(((((((f5.st a0).st b0).st d0).st v0).st f3).st g3).st h3).st j4,(((((((g5.st a0).st b0).st d0).st v0).st f3).st g3).st h3).st j4,(((((((h5.st a0).st b0).st d0).st v0).st f3).st g3).st h3).st j4,f6.st j4,a8,a9,jL⟩
     refine AU 10 lC fun dF mL eF i3 b8=>?_
     have hZ:=lZ i3
     refine AN [(10,[9])] hZ ?_
     refine AD (i:=6) rfl ?_
     replace k0:=((k0.st d0).st v0).st i3
     replace m0:=((m0.st d0).st v0).st i3
     replace h0:=((h0.st d0).st v0).st i3
     refine AM (O:=eF) (BE (fun _ h=>h) (Vb.mono (F:=Fr 0 mL eF) (Vb.ofAgg (cs:=[(.int .i64 c0.jobs),(.slice j2 c0.write.length k2),(.slice l2 c0.read.length m2),(.int .i64 c0.phase),(.slice e2 c0.vars.length f2)]) (x:=c0) rfl ⟨_,_,_,rfl,k0,m0,h0,z6,m6⟩) Fr.lt) rk256 c7) rfl fun xW yW fF q2 nL=>?_
     obtain ⟨rfl,oL⟩:=nL.int
     have hZ:=lZ q2
     refine AN [(10,[9])] hZ ?_
     refine AP (fuel:=2) [9] [(7,true)] rfl ?_
     refine Cq rfl rfl rfl ?_
     refine AC ?_
     refine AD (i:=10) rfl ?_
     replace f6:=(f6.st i3).st q2
     refine Az f6 rfl rfl rfl (AJ) (allOne) fun pL j3 f6=>?_
     replace f6:Lc 9 pL fF iA 78 [(.int .i64 z1),(.int .i64 0)]:=f6
     have hZ:=j3.lst [9] (fun _ h=>by cases h;decide)
     refine AN [] hZ ?_
     refine AD (i:=11) rfl ?_
     replace b8:=(b8.st q2).st j3
     refine Az b8 rfl rfl rfl (AJ) (allOne) fun qL k4 b8=>?_
     replace b8:Lc 10 qL fF dF 78 [(.int .i64 p2),(.int .i64 0)]:=b8
     refine BF ?_
     refine Bv ?_
     obtain rfl:=sm k5
     exact ⟨(iA,dF),_,⟨rfl,rfl,rfl,rfl,rfl,rfl,rfl,rfl,rfl,rfl,rfl,trivial⟩,(((((((hB.st a0).st b0).st d0).st v0).st i3).st q2).st j3).st k4,(((((((p1.st a0).st b0).st d0).st v0).st i3).st q2).st j3).st k4,(((((((h7.st a0).st b0).st d0).st v0).st i3).st q2).st j3).st k4,(((((((b2.st a0).st b0).st d0).st v0).st i3).st q2).st j3).st k4,(((((((c2.st a0).st b0).st d0).st v0).st i3).st q2).st j3).st k4,(((((((w1.st a0).st b0).st d0).st v0).st i3).st q2).st j3).st k4,(((((((i1.st a0).st b0).st d0).st v0).st i3).st q2).st j3).st k4,(((((f1.st d0).st v0).st i3).st q2).st j3).st k4,((k0.st q2).st j3).st k4,((m0.st q2).st j3).st k4,((h0.st q2).st j3).st k4,(((((((e0.st a0).st b0).st d0).st v0).st i3).st q2).st j3).st k4,(((((((j0.st a0).st b0).st d0).st v0).st i3).st q2).st j3).st k4,(((((((i0.st a0).st b0).st d0).st v0).st i3).st q2).st j3).st k4,(((((((u4.st a0).st b0).st d0).st v0).st i3).st q2).st j3).st k4,(((((((o2.st a0).st b0).st d0).st v0).st i3).st q2).st j3).st k4,(((((x1.st d0).st v0).st i3).st q2).st j3).st k4,(((((((e5.st a0).st b0).st d0).st v0).st i3).st q2).st j3).st k4,(((((((w5.st a0).st b0).st d0).st v0).st i3).st q2).st j3).st k4,(((((((f5.st a0).st b0).st d0).st v0).st i3).st q2).st j3).st k4,(((((((g5.st a0).st b0).st d0).st v0).st i3).st q2).st j3).st k4,(((((((h5.st a0).st b0).st d0).st v0).st i3).st q2).st j3).st k4,f6.st k4,b8,a9,oL⟩
    refine AU 10 gA fun jA rL mC w0 g6=>?_
    have hZ:=lZ w0
    refine AN [(10,[9])] hZ ?_
    refine EJ (i:=6) (j:=8) rfl rfl ?_ ?_
    ·
     replace k0:=(k0.st d0).st w0
     replace m0:=(m0.st d0).st w0
     replace h0:=(h0.st d0).st w0
     refine AM (O:=mC) (BE (fun _ h=>h) (Vb.mono (F:=Fr 0 rL mC) (Vb.ofAgg (cs:=[(.int .i64 c0.jobs),(.slice j2 c0.write.length k2),(.slice l2 c0.read.length m2),(.int .i64 c0.phase),(.slice e2 c0.vars.length f2)]) (x:=c0) rfl ⟨_,_,_,rfl,k0,m0,h0,z6,m6⟩) Fr.lt) rk256 c7) rfl fun zW aX sL k3 tL=>?_
     obtain ⟨rfl,uL⟩:=tL.int
     have hZ:=lZ k3
     refine AN [(10,[9])] hZ ?_
     refine AP (fuel:=3) [9] [(7,true)] rfl ?_
     refine Cq rfl rfl rfl ?_
     refine AC ?_
     refine AD (i:=8) rfl ?_
     refine AU 9 sL fun gF bX hF l3 v9=>?_
     have hZ:=lZ l3
     refine AN [(10,[9])] hZ ?_
     refine AD (i:=10) rfl ?_
     refine Az v9 rfl rfl rfl (AJ) (allOne) fun vL m3 v9=>?_
     replace v9:Lc 9 vL hF gF 78 [(.int .i64 z1),(.int .i64 0)]:=v9
     have hZ:=m3.lst [9] (fun _ h=>by cases h;decide)
     refine AN [] hZ ?_
     refine AD (i:=11) rfl ?_
     replace g6:=((g6.st k3).st l3).st m3
     refine Az g6 rfl rfl rfl (AJ) (allOne) fun wL l4 g6=>?_
     replace g6:Lc 10 wL hF jA 78 [(.int .i64 p2),(.int .i64 0)]:=g6
     refine BF ?_
     refine Bv ?_
     obtain rfl:=sm k5
     exact ⟨(gF,jA),_,⟨rfl,rfl,rfl,rfl,rfl,rfl,rfl,rfl,rfl,rfl,rfl,trivial⟩,(((((((hB.st a0).st b0).st d0).st w0).st k3).st l3).st m3).st l4,(((((((p1.st a0).st b0).st d0).st w0).st k3).st l3).st m3).st l4,(((((((h7.st a0).st b0).st d0).st w0).st k3).st l3).st m3).st l4,(((((((b2.st a0).st b0).st d0).st w0).st k3).st l3).st m3).st l4,(((((((c2.st a0).st b0).st d0).st w0).st k3).st l3).st m3).st l4,(((((((w1.st a0).st b0).st d0).st w0).st k3).st l3).st m3).st l4,(((((((i1.st a0).st b0).st d0).st w0).st k3).st l3).st m3).st l4,(((((f1.st d0).st w0).st k3).st l3).st m3).st l4,(((k0.st k3).st l3).st m3).st l4,(((m0.st k3).st l3).st m3).st l4,(((h0.st k3).st l3).st m3).st l4,(((((((e0.st a0).st b0).st d0).st w0).st k3).st l3).st m3).st l4,(((((((j0.st a0).st b0).st d0).st w0).st k3).st l3).st m3).st l4,(((((((i0.st a0).st b0).st d0).st w0).st k3).st l3).st m3).st l4,(((((((u4.st a0).st b0).st d0).st w0).st k3).st l3).st m3).st l4,(((((((o2.st a0).st b0).st d0).st w0).st k3).st l3).st m3).st l4,(((((x1.st d0).st w0).st k3).st l3).st m3).st l4,(((((((e5.st a0).st b0).st d0).st w0).st k3).st l3).st m3).st l4,(((((((w5.st a0).st b0).st d0).st w0).st k3).st l3).st m3).st l4,(((((((f5.st a0).st b0).st d0).st w0).st k3).st l3).st m3).st l4,(((((((g5.st a0).st b0).st d0).st w0).st k3).st l3).st m3).st l4,(((((((h5.st a0).st b0).st d0).st w0).st k3).st l3).st m3).st l4,v9.st l4,g6,a9,uL⟩
    refine AU 9 mC fun iF xL jF n3 c8=>?_
    have hZ:=lZ n3
    refine AN [(10,[9])] hZ ?_
    refine AD (i:=6) rfl ?_
    replace k0:=((k0.st d0).st w0).st n3
    replace m0:=((m0.st d0).st w0).st n3
    replace h0:=((h0.st d0).st w0).st n3
    refine AM (O:=jF) (BE (fun _ h=>h) (Vb.mono (F:=Fr 0 xL jF) (Vb.ofAgg (cs:=[(.int .i64 c0.jobs),(.slice j2 c0.write.length k2),(.slice l2 c0.read.length m2),(.int .i64 c0.phase),(.slice e2 c0.vars.length f2)]) (x:=c0) rfl ⟨_,_,_,rfl,k0,m0,h0,z6,m6⟩) Fr.lt) rk256 c7) rfl fun cX dX kF r2 yL=>?_
    obtain ⟨rfl,zL⟩:=yL.int
    have hZ:=lZ r2
    refine AN [(10,[9])] hZ ?_
    refine AP (fuel:=2) [9] [(7,true)] rfl ?_
    refine Cq rfl rfl rfl ?_
    refine AC ?_
    refine AD (i:=10) rfl ?_
    replace c8:=c8.st r2
    refine Az c8 rfl rfl rfl (AJ) (allOne) fun aM o3 c8=>?_
    replace c8:Lc 9 aM kF iF 78 [(.int .i64 z1),(.int .i64 0)]:=c8
    have hZ:=o3.lst [9] (fun _ h=>by cases h;decide)
    refine AN [] hZ ?_
    refine AD (i:=11) rfl ?_
    replace g6:=((g6.st n3).st r2).st o3
    refine Az g6 rfl rfl rfl (AJ) (allOne) fun bM m4 g6=>?_
    replace g6:Lc 10 bM kF jA 78 [(.int .i64 p2),(.int .i64 0)]:=g6
    refine BF ?_
    refine Bv ?_
    obtain rfl:=sm k5
    exact ⟨(iF,jA),_,⟨rfl,rfl,rfl,rfl,rfl,rfl,rfl,rfl,rfl,rfl,rfl,trivial⟩,(((((((hB.st a0).st b0).st d0).st w0).st n3).st r2).st o3).st m4,(((((((p1.st a0).st b0).st d0).st w0).st n3).st r2).st o3).st m4,(((((((h7.st a0).st b0).st d0).st w0).st n3).st r2).st o3).st m4,(((((((b2.st a0).st b0).st d0).st w0).st n3).st r2).st o3).st m4,(((((((c2.st a0).st b0).st d0).st w0).st n3).st r2).st o3).st m4,(((((((w1.st a0).st b0).st d0).st w0).st n3).st r2).st o3).st m4,(((((((i1.st a0).st b0).st d0).st w0).st n3).st r2).st o3).st m4,(((((f1.st d0).st w0).st n3).st r2).st o3).st m4,((k0.st r2).st o3).st m4,((m0.st r2).st o3).st m4,((h0.st r2).st o3).st m4,(((((((e0.st a0).st b0).st d0).st w0).st n3).st r2).st o3).st m4,(((((((j0.st a0).st b0).st d0).st w0).st n3).st r2).st o3).st m4,(((((((i0.st a0).st b0).st d0).st w0).st n3).st r2).st o3).st m4,(((((((u4.st a0).st b0).st d0).st w0).st n3).st r2).st o3).st m4,(((((((o2.st a0).st b0).st d0).st w0).st n3).st r2).st o3).st m4,(((((x1.st d0).st w0).st n3).st r2).st o3).st m4,(((((((e5.st a0).st b0).st d0).st w0).st n3).st r2).st o3).st m4,(((((((w5.st a0).st b0).st d0).st w0).st n3).st r2).st o3).st m4,(((((((f5.st a0).st b0).st d0).st w0).st n3).st r2).st o3).st m4,(((((((g5.st a0).st b0).st d0).st w0).st n3).st r2).st o3).st m4,(((((((h5.st a0).st b0).st d0).st w0).st n3).st r2).st o3).st m4,c8.st m4,g6,a9,zL⟩
   ·
    refine AU 9 z8 fun b9 cM nC f0 z4=>?_
    have hZ:=lZ f0
    refine AN [(10,[9])] hZ ?_
    refine EJ (i:=2) (j:=9) rfl rfl ?_ ?_
    ·
     replace k0:=((k0.st a0).st b0).st f0
     replace m0:=((m0.st a0).st b0).st f0
     replace h0:=((h0.st a0).st b0).st f0
     refine AM (O:=nC) (BJ (fun _ h=>h) (Vb.mono (F:=Fr 0 cM nC) (Vb.ofAgg (cs:=[(.int .i64 c0.jobs),(.slice j2 c0.write.length k2),(.slice l2 c0.read.length m2),(.int .i64 c0.phase),(.slice e2 c0.vars.length f2)]) (x:=c0) rfl ⟨_,_,_,rfl,k0,m0,h0,z6,m6⟩) Fr.lt) rk256 t9) rfl fun eX dM oC r0 eM=>?_
     obtain ⟨rfl,lF⟩:=eM.int
     have hZ:=lZ r0
     refine AN [(10,[9])] hZ ?_
     refine AP (fuel:=5) [] [(3,true)] rfl ?_
     refine Cq rfl rfl rfl ?_
     refine AC ?_
     refine EJ (i:=6) (j:=9) rfl rfl ?_ ?_
     ·
      replace k0:=k0.st r0
      replace m0:=m0.st r0
      replace h0:=h0.st r0
      refine AM (O:=oC) (BE (fun _ h=>h) (Vb.mono (F:=Fr 0 dM oC) (Vb.ofAgg (cs:=[(.int .i64 c0.jobs),(.slice j2 c0.write.length k2),(.slice l2 c0.read.length m2),(.int .i64 c0.phase),(.slice e2 c0.vars.length f2)]) (x:=c0) rfl ⟨_,_,_,rfl,k0,m0,h0,z6,m6⟩) Fr.lt) rk256 c7) rfl fun fX gX fM p3 gM=>?_
      obtain ⟨rfl,hM⟩:=gM.int
      have hZ:=lZ p3
      refine AN [(10,[9])] hZ ?_
      refine AP (fuel:=3) [9] [(7,true)] rfl ?_
      refine Cq rfl rfl rfl ?_
      refine AC ?_
      refine AD (i:=9) rfl ?_
      refine AU 10 fM fun mF hX nF q3 d8=>?_
      have hZ:=lZ q3
      refine AN [(10,[9])] hZ ?_
      refine AD (i:=10) rfl ?_
      replace z4:=((z4.st r0).st p3).st q3
      refine Az z4 rfl rfl rfl (AJ) (allOne) fun iM r3 z4=>?_
      replace z4:Lc 9 iM nF b9 78 [(.int .i64 z1),(.int .i64 0)]:=z4
      have hZ:=r3.lst [9] (fun _ h=>by cases h;decide)
      refine AN [] hZ ?_
      refine AD (i:=11) rfl ?_
      replace d8:=d8.st r3
      refine Az d8 rfl rfl rfl (AJ) (allOne) fun jM n4 d8=>?_
      replace d8:Lc 10 jM nF mF 78 [(.int .i64 p2),(.int .i64 0)]:=d8
      refine BF ?_
      refine Bv ?_
      obtain rfl:=sm k5
      exact ⟨(b9,mF),_,⟨rfl,rfl,rfl,rfl,rfl,rfl,rfl,rfl,rfl,rfl,rfl,trivial⟩,(((((((hB.st a0).st b0).st f0).st r0).st p3).st q3).st r3).st n4,(((((((p1.st a0).st b0).st f0).st r0).st p3).st q3).st r3).st n4,(((((((h7.st a0).st b0).st f0).st r0).st p3).st q3).st r3).st n4,(((((((b2.st a0).st b0).st f0).st r0).st p3).st q3).st r3).st n4,(((((((c2.st a0).st b0).st f0).st r0).st p3).st q3).st r3).st n4,(((((((w1.st a0).st b0).st f0).st r0).st p3).st q3).st r3).st n4,(((((((i1.st a0).st b0).st f0).st r0).st p3).st q3).st r3).st n4,(((((f1.st f0).st r0).st p3).st q3).st r3).st n4,(((k0.st p3).st q3).st r3).st n4,(((m0.st p3).st q3).st r3).st n4,(((h0.st p3).st q3).st r3).st n4,(((((((e0.st a0).st b0).st f0).st r0).st p3).st q3).st r3).st n4,(((((((j0.st a0).st b0).st f0).st r0).st p3).st q3).st r3).st n4,(((((((i0.st a0).st b0).st f0).st r0).st p3).st q3).st r3).st n4,(((((((u4.st a0).st b0).st f0).st r0).st p3).st q3).st r3).st n4,(((((((o2.st a0).st b0).st f0).st r0).st p3).st q3).st r3).st n4,(((((x1.st f0).st r0).st p3).st q3).st r3).st n4,(((((((e5.st a0).st b0).st f0).st r0).st p3).st q3).st r3).st n4,(((((((w5.st a0).st b0).st f0).st r0).st p3).st q3).st r3).st n4,(((((((f5.st a0).st b0).st f0).st r0).st p3).st q3).st r3).st n4,(((((((g5.st a0).st b0).st f0).st r0).st p3).st q3).st r3).st n4,(((((((h5.st a0).st b0).st f0).st r0).st p3).st q3).st r3).st n4,z4.st n4,d8,lF,hM⟩
     refine AU 10 oC fun oF kM pF s3 e8=>?_
     have hZ:=lZ s3
     refine AN [(10,[9])] hZ ?_
     refine AD (i:=6) rfl ?_
     replace k0:=(k0.st r0).st s3
     replace m0:=(m0.st r0).st s3
     replace h0:=(h0.st r0).st s3
     refine AM (O:=pF) (BE (fun _ h=>h) (Vb.mono (F:=Fr 0 kM pF) (Vb.ofAgg (cs:=[(.int .i64 c0.jobs),(.slice j2 c0.write.length k2),(.slice l2 c0.read.length m2),(.int .i64 c0.phase),(.slice e2 c0.vars.length f2)]) (x:=c0) rfl ⟨_,_,_,rfl,k0,m0,h0,z6,m6⟩) Fr.lt) rk256 c7) rfl fun iX jX qF s2 lM=>?_
     obtain ⟨rfl,mM⟩:=lM.int
     have hZ:=lZ s2
     refine AN [(10,[9])] hZ ?_
     refine AP (fuel:=2) [9] [(7,true)] rfl ?_
     refine Cq rfl rfl rfl ?_
     refine AC ?_
     refine AD (i:=10) rfl ?_
     replace z4:=((z4.st r0).st s3).st s2
     refine Az z4 rfl rfl rfl (AJ) (allOne) fun nM t3 z4=>?_
     replace z4:Lc 9 nM qF b9 78 [(.int .i64 z1),(.int .i64 0)]:=z4
     have hZ:=t3.lst [9] (fun _ h=>by cases h;decide)
     refine AN [] hZ ?_
     refine AD (i:=11) rfl ?_
     replace e8:=(e8.st s2).st t3
     refine Az e8 rfl rfl rfl (AJ) (allOne) fun oM o4 e8=>?_
     replace e8:Lc 10 oM qF oF 78 [(.int .i64 p2),(.int .i64 0)]:=e8
     refine BF ?_
     refine Bv ?_
     obtain rfl:=sm k5
     exact ⟨(b9,oF),_,⟨rfl,rfl,rfl,rfl,rfl,rfl,rfl,rfl,rfl,rfl,rfl,trivial⟩,(((((((hB.st a0).st b0).st f0).st r0).st s3).st s2).st t3).st o4,(((((((p1.st a0).st b0).st f0).st r0).st s3).st s2).st t3).st o4,(((((((h7.st a0).st b0).st f0).st r0).st s3).st s2).st t3).st o4,(((((((b2.st a0).st b0).st f0).st r0).st s3).st s2).st t3).st o4,(((((((c2.st a0).st b0).st f0).st r0).st s3).st s2).st t3).st o4,(((((((w1.st a0).st b0).st f0).st r0).st s3).st s2).st t3).st o4,(((((((i1.st a0).st b0).st f0).st r0).st s3).st s2).st t3).st o4,(((((f1.st f0).st r0).st s3).st s2).st t3).st o4,((k0.st s2).st t3).st o4,((m0.st s2).st t3).st o4,((h0.st s2).st t3).st o4,(((((((e0.st a0).st b0).st f0).st r0).st s3).st s2).st t3).st o4,(((((((j0.st a0).st b0).st f0).st r0).st s3).st s2).st t3).st o4,(((((((i0.st a0).st b0).st f0).st r0).st s3).st s2).st t3).st o4,(((((((u4.st a0).st b0).st f0).st r0).st s3).st s2).st t3).st o4,(((((((o2.st a0).st b0).st f0).st r0).st s3).st s2).st t3).st o4,(((((x1.st f0).st r0).st s3).st s2).st t3).st o4,(((((((e5.st a0).st b0).st f0).st r0).st s3).st s2).st t3).st o4,(((((((w5.st a0).st b0).st f0).st r0).st s3).st s2).st t3).st o4,(((((((f5.st a0).st b0).st f0).st r0).st s3).st s2).st t3).st o4,(((((((g5.st a0).st b0).st f0).st r0).st s3).st s2).st t3).st o4,(((((((h5.st a0).st b0).st f0).st r0).st s3).st s2).st t3).st o4,z4.st o4,e8,lF,mM⟩
    refine AU 10 nC fun rF pM sF u3 f8=>?_
    have hZ:=lZ u3
    refine AN [(10,[9])] hZ ?_
    refine AD (i:=2) rfl ?_
    replace k0:=(((k0.st a0).st b0).st f0).st u3
    replace m0:=(((m0.st a0).st b0).st f0).st u3
    replace h0:=(((h0.st a0).st b0).st f0).st u3
    refine AM (O:=sF) (BJ (fun _ h=>h) (Vb.mono (F:=Fr 0 pM sF) (Vb.ofAgg (cs:=[(.int .i64 c0.jobs),(.slice j2 c0.write.length k2),(.slice l2 c0.read.length m2),(.int .i64 c0.phase),(.slice e2 c0.vars.length f2)]) (x:=c0) rfl ⟨_,_,_,rfl,k0,m0,h0,z6,m6⟩) Fr.lt) rk256 t9) rfl fun kX qM tF t2 rM=>?_
    obtain ⟨rfl,sM⟩:=rM.int
    have hZ:=lZ t2
    refine AN [(10,[9])] hZ ?_
    refine AP (fuel:=4) [] [(3,true)] rfl ?_
    refine Cq rfl rfl rfl ?_
    refine AC ?_
    refine AD (i:=6) rfl ?_
    replace k0:=k0.st t2
    replace m0:=m0.st t2
    replace h0:=h0.st t2
    refine AM (O:=tF) (BE (fun _ h=>h) (Vb.mono (F:=Fr 0 qM tF) (Vb.ofAgg (cs:=[(.int .i64 c0.jobs),(.slice j2 c0.write.length k2),(.slice l2 c0.read.length m2),(.int .i64 c0.phase),(.slice e2 c0.vars.length f2)]) (x:=c0) rfl ⟨_,_,_,rfl,k0,m0,h0,z6,m6⟩) Fr.lt) rk256 c7) rfl fun lX mX uF u2 tM=>?_
    obtain ⟨rfl,uM⟩:=tM.int
    have hZ:=lZ u2
    refine AN [(10,[9])] hZ ?_
    refine AP (fuel:=2) [9] [(7,true)] rfl ?_
    refine Cq rfl rfl rfl ?_
    refine AC ?_
    refine AD (i:=10) rfl ?_
    replace z4:=((z4.st u3).st t2).st u2
    refine Az z4 rfl rfl rfl (AJ) (allOne) fun vM w3 z4=>?_
    replace z4:Lc 9 vM uF b9 78 [(.int .i64 z1),(.int .i64 0)]:=z4
    have hZ:=w3.lst [9] (fun _ h=>by cases h;decide)
    refine AN [] hZ ?_
    refine AD (i:=11) rfl ?_
    replace f8:=((f8.st t2).st u2).st w3
    refine Az f8 rfl rfl rfl (AJ) (allOne) fun wM p4 f8=>?_
    replace f8:Lc 10 wM uF rF 78 [(.int .i64 p2),(.int .i64 0)]:=f8
    refine BF ?_
    refine Bv ?_
    obtain rfl:=sm k5
    exact ⟨(b9,rF),_,⟨rfl,rfl,rfl,rfl,rfl,rfl,rfl,rfl,rfl,rfl,rfl,trivial⟩,(((((((hB.st a0).st b0).st f0).st u3).st t2).st u2).st w3).st p4,(((((((p1.st a0).st b0).st f0).st u3).st t2).st u2).st w3).st p4,(((((((h7.st a0).st b0).st f0).st u3).st t2).st u2).st w3).st p4,(((((((b2.st a0).st b0).st f0).st u3).st t2).st u2).st w3).st p4,(((((((c2.st a0).st b0).st f0).st u3).st t2).st u2).st w3).st p4,(((((((w1.st a0).st b0).st f0).st u3).st t2).st u2).st w3).st p4,(((((((i1.st a0).st b0).st f0).st u3).st t2).st u2).st w3).st p4,(((((f1.st f0).st u3).st t2).st u2).st w3).st p4,((k0.st u2).st w3).st p4,((m0.st u2).st w3).st p4,((h0.st u2).st w3).st p4,(((((((e0.st a0).st b0).st f0).st u3).st t2).st u2).st w3).st p4,(((((((j0.st a0).st b0).st f0).st u3).st t2).st u2).st w3).st p4,(((((((i0.st a0).st b0).st f0).st u3).st t2).st u2).st w3).st p4,(((((((u4.st a0).st b0).st f0).st u3).st t2).st u2).st w3).st p4,(((((((o2.st a0).st b0).st f0).st u3).st t2).st u2).st w3).st p4,(((((x1.st f0).st u3).st t2).st u2).st w3).st p4,(((((((e5.st a0).st b0).st f0).st u3).st t2).st u2).st w3).st p4,(((((((w5.st a0).st b0).st f0).st u3).st t2).st u2).st w3).st p4,(((((((f5.st a0).st b0).st f0).st u3).st t2).st u2).st w3).st p4,(((((((g5.st a0).st b0).st f0).st u3).st t2).st u2).st w3).st p4,(((((((h5.st a0).st b0).st f0).st u3).st t2).st u2).st w3).st p4,z4.st p4,f8,sM,uM⟩
   refine AU 10 z8 fun d9 xM pC g0 a5=>?_
   have hZ:=lZ g0
   refine AN [(10,[9])] hZ ?_
   refine EJ (i:=2) (j:=8) rfl rfl ?_ ?_
   ·
    replace k0:=((k0.st a0).st b0).st g0
    replace m0:=((m0.st a0).st b0).st g0
    replace h0:=((h0.st a0).st b0).st g0
    refine AM (O:=pC) (BJ (fun _ h=>h) (Vb.mono (F:=Fr 0 xM pC) (Vb.ofAgg (cs:=[(.int .i64 c0.jobs),(.slice j2 c0.write.length k2),(.slice l2 c0.read.length m2),(.int .i64 c0.phase),(.slice e2 c0.vars.length f2)]) (x:=c0) rfl ⟨_,_,_,rfl,k0,m0,h0,z6,m6⟩) Fr.lt) rk256 t9) rfl fun nX yM qC s0 zM=>?_
    obtain ⟨rfl,vF⟩:=zM.int
    have hZ:=lZ s0
    refine AN [(10,[9])] hZ ?_
    refine AP (fuel:=5) [] [(3,true)] rfl ?_
    refine Cq rfl rfl rfl ?_
    refine AC ?_
    refine EJ (i:=6) (j:=8) rfl rfl ?_ ?_
    ·
     replace k0:=k0.st s0
     replace m0:=m0.st s0
     replace h0:=h0.st s0
     refine AM (O:=qC) (BE (fun _ h=>h) (Vb.mono (F:=Fr 0 yM qC) (Vb.ofAgg (cs:=[(.int .i64 c0.jobs),(.slice j2 c0.write.length k2),(.slice l2 c0.read.length m2),(.int .i64 c0.phase),(.slice e2 c0.vars.length f2)]) (x:=c0) rfl ⟨_,_,_,rfl,k0,m0,h0,z6,m6⟩) Fr.lt) rk256 c7) rfl fun oX pX aN x3 bN=>?_
     obtain ⟨rfl,cN⟩:=bN.int
     have hZ:=lZ x3
     refine AN [(10,[9])] hZ ?_
     refine AP (fuel:=3) [9] [(7,true)] rfl ?_
     refine Cq rfl rfl rfl ?_
     refine AC ?_
     refine AD (i:=8) rfl ?_
     refine AU 9 aN fun wF qX xF y3 w9=>?_
     have hZ:=lZ y3
     refine AN [(10,[9])] hZ ?_
     refine AD (i:=10) rfl ?_
     refine Az w9 rfl rfl rfl (AJ) (allOne) fun dN z3 w9=>?_
     replace w9:Lc 9 dN xF wF 78 [(.int .i64 z1),(.int .i64 0)]:=w9
     have hZ:=z3.lst [9] (fun _ h=>by cases h;decide)
     refine AN [] hZ ?_
     refine AD (i:=11) rfl ?_
     replace a5:=(((a5.st s0).st x3).st y3).st z3
     refine Az a5 rfl rfl rfl (AJ) (allOne) fun eN q4 a5=>?_
     replace a5:Lc 10 eN xF d9 78 [(.int .i64 p2),(.int .i64 0)]:=a5
     refine BF ?_
     refine Bv ?_
     obtain rfl:=sm k5
     exact ⟨(wF,d9),_,⟨rfl,rfl,rfl,rfl,rfl,rfl,rfl,rfl,rfl,rfl,rfl,trivial⟩,(((((((hB.st a0).st b0).st g0).st s0).st x3).st y3).st z3).st q4,(((((((p1.st a0).st b0).st g0).st s0).st x3).st y3).st z3).st q4,(((((((h7.st a0).st b0).st g0).st s0).st x3).st y3).st z3).st q4,(((((((b2.st a0).st b0).st g0).st s0).st x3).st y3).st z3).st q4,(((((((c2.st a0).st b0).st g0).st s0).st x3).st y3).st z3).st q4,(((((((w1.st a0).st b0).st g0).st s0).st x3).st y3).st z3).st q4,(((((((i1.st a0).st b0).st g0).st s0).st x3).st y3).st z3).st q4,(((((f1.st g0).st s0).st x3).st y3).st z3).st q4,(((k0.st x3).st y3).st z3).st q4,(((m0.st x3).st y3).st z3).st q4,(((h0.st x3).st y3).st z3).st q4,(((((((e0.st a0).st b0).st g0).st s0).st x3).st y3).st z3).st q4,(((((((j0.st a0).st b0).st g0).st s0).st x3).st y3).st z3).st q4,(((((((i0.st a0).st b0).st g0).st s0).st x3).st y3).st z3).st q4,(((((((u4.st a0).st b0).st g0).st s0).st x3).st y3).st z3).st q4,(((((((o2.st a0).st b0).st g0).st s0).st x3).st y3).st z3).st q4,(((((x1.st g0).st s0).st x3).st y3).st z3).st q4,(((((((e5.st a0).st b0).st g0).st s0).st x3).st y3).st z3).st q4,(((((((w5.st a0).st b0).st g0).st s0).st x3).st y3).st z3).st q4,(((((((f5.st a0).st b0).st g0).st s0).st x3).st y3).st z3).st q4,(((((((g5.st a0).st b0).st g0).st s0).st x3).st y3).st z3).st q4,(((((((h5.st a0).st b0).st g0).st s0).st x3).st y3).st z3).st q4,w9.st q4,a5,vF,cN⟩
    refine AU 9 qC fun yF fN zF a4 g8=>?_
    have hZ:=lZ a4
    refine AN [(10,[9])] hZ ?_
    refine AD (i:=6) rfl ?_
    replace k0:=(k0.st s0).st a4
    replace m0:=(m0.st s0).st a4
    replace h0:=(h0.st s0).st a4
    refine AM (O:=zF) (BE (fun _ h=>h) (Vb.mono (F:=Fr 0 fN zF) (Vb.ofAgg (cs:=[(.int .i64 c0.jobs),(.slice j2 c0.write.length k2),(.slice l2 c0.read.length m2),(.int .i64 c0.phase),(.slice e2 c0.vars.length f2)]) (x:=c0) rfl ⟨_,_,_,rfl,k0,m0,h0,z6,m6⟩) Fr.lt) rk256 c7) rfl fun rX sX aG v2 gN=>?_
    obtain ⟨rfl,hN⟩:=gN.int
    have hZ:=lZ v2
    refine AN [(10,[9])] hZ ?_
    refine AP (fuel:=2) [9] [(7,true)] rfl ?_
    refine Cq rfl rfl rfl ?_
    refine AC ?_
    refine AD (i:=10) rfl ?_
    replace g8:=g8.st v2
    refine Az g8 rfl rfl rfl (AJ) (allOne) fun iN b4 g8=>?_
    replace g8:Lc 9 iN aG yF 78 [(.int .i64 z1),(.int .i64 0)]:=g8
    have hZ:=b4.lst [9] (fun _ h=>by cases h;decide)
    refine AN [] hZ ?_
    refine AD (i:=11) rfl ?_
    replace a5:=(((a5.st s0).st a4).st v2).st b4
    refine Az a5 rfl rfl rfl (AJ) (allOne) fun jN r4 a5=>?_
    replace a5:Lc 10 jN aG d9 78 [(.int .i64 p2),(.int .i64 0)]:=a5
    refine BF ?_
    refine Bv ?_
    obtain rfl:=sm k5
    exact ⟨(yF,d9),_,⟨rfl,rfl,rfl,rfl,rfl,rfl,rfl,rfl,rfl,rfl,rfl,trivial⟩,(((((((hB.st a0).st b0).st g0).st s0).st a4).st v2).st b4).st r4,(((((((p1.st a0).st b0).st g0).st s0).st a4).st v2).st b4).st r4,(((((((h7.st a0).st b0).st g0).st s0).st a4).st v2).st b4).st r4,(((((((b2.st a0).st b0).st g0).st s0).st a4).st v2).st b4).st r4,(((((((c2.st a0).st b0).st g0).st s0).st a4).st v2).st b4).st r4,(((((((w1.st a0).st b0).st g0).st s0).st a4).st v2).st b4).st r4,(((((((i1.st a0).st b0).st g0).st s0).st a4).st v2).st b4).st r4,(((((f1.st g0).st s0).st a4).st v2).st b4).st r4,((k0.st v2).st b4).st r4,((m0.st v2).st b4).st r4,((h0.st v2).st b4).st r4,(((((((e0.st a0).st b0).st g0).st s0).st a4).st v2).st b4).st r4,(((((((j0.st a0).st b0).st g0).st s0).st a4).st v2).st b4).st r4,(((((((i0.st a0).st b0).st g0).st s0).st a4).st v2).st b4).st r4,(((((((u4.st a0).st b0).st g0).st s0).st a4).st v2).st b4).st r4,(((((((o2.st a0).st b0).st g0).st s0).st a4).st v2).st b4).st r4,(((((x1.st g0).st s0).st a4).st v2).st b4).st r4,(((((((e5.st a0).st b0).st g0).st s0).st a4).st v2).st b4).st r4,(((((((w5.st a0).st b0).st g0).st s0).st a4).st v2).st b4).st r4,(((((((f5.st a0).st b0).st g0).st s0).st a4).st v2).st b4).st r4,(((((((g5.st a0).st b0).st g0).st s0).st a4).st v2).st b4).st r4,(((((((h5.st a0).st b0).st g0).st s0).st a4).st v2).st b4).st r4,g8.st r4,a5,vF,hN⟩
   refine AU 9 pC fun bG kN cG c4 h8=>?_
   have hZ:=lZ c4
   refine AN [(10,[9])] hZ ?_
   refine AD (i:=2) rfl ?_
   replace k0:=(((k0.st a0).st b0).st g0).st c4
   replace m0:=(((m0.st a0).st b0).st g0).st c4
   replace h0:=(((h0.st a0).st b0).st g0).st c4
   refine AM (O:=cG) (BJ (fun _ h=>h) (Vb.mono (F:=Fr 0 kN cG) (Vb.ofAgg (cs:=[(.int .i64 c0.jobs),(.slice j2 c0.write.length k2),(.slice l2 c0.read.length m2),(.int .i64 c0.phase),(.slice e2 c0.vars.length f2)]) (x:=c0) rfl ⟨_,_,_,rfl,k0,m0,h0,z6,m6⟩) Fr.lt) rk256 t9) rfl fun tX lN dG w2 mN=>?_
   obtain ⟨rfl,nN⟩:=mN.int
   have hZ:=lZ w2
   refine AN [(10,[9])] hZ ?_
   refine AP (fuel:=4) [] [(3,true)] rfl ?_
   refine Cq rfl rfl rfl ?_
   refine AC ?_
   refine AD (i:=6) rfl ?_
   replace k0:=k0.st w2
   replace m0:=m0.st w2
   replace h0:=h0.st w2
   refine AM (O:=dG) (BE (fun _ h=>h) (Vb.mono (F:=Fr 0 lN dG) (Vb.ofAgg (cs:=[(.int .i64 c0.jobs),(.slice j2 c0.write.length k2),(.slice l2 c0.read.length m2),(.int .i64 c0.phase),(.slice e2 c0.vars.length f2)]) (x:=c0) rfl ⟨_,_,_,rfl,k0,m0,h0,z6,m6⟩) Fr.lt) rk256 c7) rfl fun uX vX eG x2 oN=>?_
   obtain ⟨rfl,pN⟩:=oN.int
   have hZ:=lZ x2
   refine AN [(10,[9])] hZ ?_
   refine AP (fuel:=2) [9] [(7,true)] rfl ?_
   refine Cq rfl rfl rfl ?_
   refine AC ?_
   refine AD (i:=10) rfl ?_
   replace h8:=(h8.st w2).st x2
   refine Az h8 rfl rfl rfl (AJ) (allOne) fun qN d4 h8=>?_
   replace h8:Lc 9 qN eG bG 78 [(.int .i64 z1),(.int .i64 0)]:=h8
   have hZ:=d4.lst [9] (fun _ h=>by cases h;decide)
   refine AN [] hZ ?_
   refine AD (i:=11) rfl ?_
   replace a5:=(((a5.st c4).st w2).st x2).st d4
   refine Az a5 rfl rfl rfl (AJ) (allOne) fun rN s4 a5=>?_
   replace a5:Lc 10 rN eG d9 78 [(.int .i64 p2),(.int .i64 0)]:=a5
   refine BF ?_
   refine Bv ?_
   obtain rfl:=sm k5
   exact ⟨(bG,d9),_,⟨rfl,rfl,rfl,rfl,rfl,rfl,rfl,rfl,rfl,rfl,rfl,trivial⟩,(((((((hB.st a0).st b0).st g0).st c4).st w2).st x2).st d4).st s4,(((((((p1.st a0).st b0).st g0).st c4).st w2).st x2).st d4).st s4,(((((((h7.st a0).st b0).st g0).st c4).st w2).st x2).st d4).st s4,(((((((b2.st a0).st b0).st g0).st c4).st w2).st x2).st d4).st s4,(((((((c2.st a0).st b0).st g0).st c4).st w2).st x2).st d4).st s4,(((((((w1.st a0).st b0).st g0).st c4).st w2).st x2).st d4).st s4,(((((((i1.st a0).st b0).st g0).st c4).st w2).st x2).st d4).st s4,(((((f1.st g0).st c4).st w2).st x2).st d4).st s4,((k0.st x2).st d4).st s4,((m0.st x2).st d4).st s4,((h0.st x2).st d4).st s4,(((((((e0.st a0).st b0).st g0).st c4).st w2).st x2).st d4).st s4,(((((((j0.st a0).st b0).st g0).st c4).st w2).st x2).st d4).st s4,(((((((i0.st a0).st b0).st g0).st c4).st w2).st x2).st d4).st s4,(((((((u4.st a0).st b0).st g0).st c4).st w2).st x2).st d4).st s4,(((((((o2.st a0).st b0).st g0).st c4).st w2).st x2).st d4).st s4,(((((x1.st g0).st c4).st w2).st x2).st d4).st s4,(((((((e5.st a0).st b0).st g0).st c4).st w2).st x2).st d4).st s4,(((((((w5.st a0).st b0).st g0).st c4).st w2).st x2).st d4).st s4,(((((((f5.st a0).st b0).st g0).st c4).st w2).st x2).st d4).st s4,(((((((g5.st a0).st b0).st g0).st c4).st w2).st x2).st d4).st s4,(((((((h5.st a0).st b0).st g0).st c4).st w2).st x2).st d4).st s4,h8.st s4,a5,nN,pN⟩
  replace hB:=(hB.st a0).st b0
  replace h7:=(h7.st a0).st b0
  replace b2:=(b2.st a0).st b0
  replace c2:=(c2.st a0).st b0
  replace w1:=(w1.st a0).st b0
  replace p1:=(p1.st a0).st b0
  replace i1:=(i1.st a0).st b0
  replace k0:=(k0.st a0).st b0
  replace m0:=(m0.st a0).st b0
  replace h0:=(h0.st a0).st b0
  replace f1:=(f1.st a0).st b0
  replace e0:=(e0.st a0).st b0
  replace j0:=(j0.st a0).st b0
  replace i0:=(i0.st a0).st b0
  replace u4:=(u4.st a0).st b0
  replace o2:=(o2.st a0).st b0
  replace e5:=(e5.st a0).st b0
  replace w5:=(w5.st a0).st b0
  replace f5:=(f5.st a0).st b0
  replace g5:=(g5.st a0).st b0
  replace h5:=(h5.st a0).st b0
  rintro wX xX ⟨d7,sN,fG,hB,p1,h7,b2,c2,w1,i1,f1,k0,m0,h0,e0,j0,i0,u4,o2,x1,e5,w5,f5,g5,h5,kA,tN,gG,uN⟩
  refine AH _ fG ?_
  refine Ab ?_
  obtain ⟨hG,iG,q0⟩:=bs q0
  obtain ⟨r5,vN,q0⟩:=bs q0
  obtain ⟨e9,wN,q0⟩:=bs q0
  obtain ⟨rC,sC,q0⟩:=bs q0
  refine Br [(20,[11,12]),(22,[14])] sN ?_
  refine AP (fuel:=9) [11,12,14] [(0,true),(1,true),(2,true),(3,true),(4,true),(6,true),(7,true),(8,true),(9,true),(10,true),(11,true),(13,true),(14,true),(16,true),(17,true),(5,true)] rfl ?_
  refine AT rfl rfl (AV (hc:=bCell e0 3 rfl) rfl rfl ?_)
  refine CJ (hl:=rfl) (hb:=fun w' ⟨O',hq⟩=>((f1.st hq (by decide)).1).cellsAt) rfl rfl ?_
  refine AT rfl rfl (AV (hc:=bCell x1 0 rfl) rfl rfl ?_)
  refine AT rfl rfl (AV (hc:=bCell x1 2 rfl) rfl rfl ?_)
  refine AT rfl rfl (AV (hc:=bCell x1 5 rfl) rfl rfl ?_)
  refine CJ (hl:=rfl) (hb:=fun w' ⟨O',hq⟩=>((kA.st hq (by decide)).1).cellsAt) rfl rfl ?_
  refine CJ (hl:=rfl) (hb:=fun w' ⟨O',hq⟩=>((tN.st hq (by decide)).1).cellsAt) rfl rfl ?_
  refine CJ (hl:=rfl) (hb:=fun w' ⟨O',hq⟩=>((f1.st hq (by decide)).1).cellsAt) rfl rfl ?_
  refine AX rfl rfl (AT rfl rfl (AV (hc:=bCell x1 1 rfl) rfl rfl ?_))
  refine Hq (he:=iG) rfl rfl rfl ?_
  refine AC ?_
  refine GX (l0:=[(1,(.pointer (some ⟨a7,0,none⟩))),(2,(.pointer (some ⟨l6,0,none⟩))),(5,(.pointer (some ⟨b7,0,none⟩))),(6,(.pointer (some ⟨n1,0,none⟩))),(7,(.int .i64 (y4:Int))),(8,(.pointer (some ⟨w7,0,none⟩))),(9,(.pointer (some ⟨d7.1,0,none⟩))),(40,(.slice j6 x0.jobs.length k6)),(41,(.int .i64 (x0.jobs.length:Int))),(42,(.int .i64 (y4:Int))),(56,(.slice g1.2.1 g2.2.length g1.2.2)),(57,(.agg #[(.int .i64 c0.jobs),(.slice j2 c0.write.length k2),(.slice l2 c0.read.length m2),(.int .i64 c0.phase),(.slice e2 c0.vars.length f2)])),(60,(.string hG)),(62,(.slice l9 t0.start.length m9)),(64,(.slice p9 t0.atStart.length q9)),(65,(.agg #[(.int .i64 z1),(.int .i64 0)])),(66,(.agg #[(.int .i64 p2),(.int .i64 0)])),(68,(.agg #[(.int .i64 c0.jobs),(.slice j2 c0.write.length k2),(.slice l2 c0.read.length m2),(.int .i64 c0.phase),(.slice e2 c0.vars.length f2)])),(69,(.int .i64 (y4:Int))),(72,(.int .i64 t0.dur))]) (zs:=[⟨12,67,fun v w O=>∃ (lA:Option Addr),∃ (mA:Nat),v=(.slice lA ([(⟨z1,0⟩:Fct),(⟨p2,0⟩:Fct)]:List Fct).length mA)∧Vb w (Fr 0 w O) (.slice lA ([(⟨z1,0⟩:Fct),(⟨p2,0⟩:Fct)]:List Fct).length mA) ([(⟨z1,0⟩:Fct),(⟨p2,0⟩:Fct)]:List Fct)⟩,⟨15,70,fun v w O=>v=(.int .i64 r5)∧inI64 r5⟩,⟨18,73,fun v w O=>v=(.agg #[(.slice none 0 0),(.int .i64 r5),(.int .i64 t0.dur)])∧inI64 r5⟩,⟨19,74,fun v w O=>∃ (nA:Option Addr),∃ (oA:Nat),v=(.slice nA ([(⟨([]:List Fct),r5,t0.dur⟩:Eff)]:List Eff).length oA)∧Vb w (Fr 0 w O) (.slice nA ([(⟨([]:List Fct),r5,t0.dur⟩:Eff)]:List Eff).length oA) ([(⟨([]:List Fct),r5,t0.dur⟩:Eff)]:List Eff)⟩]) #[true,true,true,true,true,true,true,true,true,true,true,true,true,true,true,true,true,true,true,true,false,false,false,false,false] 5 [(20,[11,12]),(22,[14])] ⟨rfl,rfl,rfl,rfl,rfl,rfl,rfl,rfl,rfl,rfl,rfl,rfl,rfl,rfl,rfl,rfl,rfl,rfl,rfl,rfl,trivial⟩ ⟨⟨fun _ _ _ _ _ ⟨lA,mA,e,xN⟩ hS=>⟨lA,mA,e,xN.st hS id⟩,?_⟩,⟨fun _ _ _ _ _ ⟨e,yN⟩ hS=>⟨e,yN⟩,?_⟩,⟨fun _ _ _ _ _ ⟨e,zN⟩ hS=>⟨e,zN⟩,?_⟩,⟨fun _ _ _ _ _ ⟨nA,oA,e,aO⟩ hS=>⟨nA,oA,e,aO.st hS id⟩,?_⟩,trivial⟩ ?_ rfl
  ·
   refine ⟨_,rfl,fun yX zX bO aY cB hD582=>?_⟩
   refine ⟨[(65,(.agg #[(.int .i64 z1),(.int .i64 0)])),(66,(.agg #[(.int .i64 p2),(.int .i64 0)]))],⟨Ar cB 65 _ rfl,Ar cB 66 _ rfl,trivial⟩,fun Q583 hQ584=>?_⟩
   refine CT bO (xs:=([(⟨z1,0⟩:Fct),(⟨p2,0⟩:Fct)]:List Fct)) rfl rfl rfl ⟨(Vb.ofAgg (cs:=[(.int .i64 z1),(.int .i64 0)]) (x:=(⟨z1,0⟩:Fct)) rfl ⟨rfl,gG,(iI64 0)⟩),(Vb.ofAgg (cs:=[(.int .i64 p2),(.int .i64 0)]) (x:=(⟨p2,0⟩:Fct)) rfl ⟨rfl,uN,(iI64 0)⟩),trivial⟩ fun bY cY dY cO dO=>?_
   refine Bo (hQ584 _ _ ⟨_,_,rfl,cO,⟨_,_,rfl,dO⟩⟩)
  ·
   refine ⟨_,rfl,fun eY eO jG tC dB hD604=>?_⟩
   refine ⟨[(68,(.agg #[(.int .i64 c0.jobs),(.slice j2 c0.write.length k2),(.slice l2 c0.read.length m2),(.int .i64 c0.phase),(.slice e2 c0.vars.length f2)])),(69,(.int .i64 (y4:Int)))],⟨Ar dB 68 _ rfl,Ar dB 69 _ rfl,trivial⟩,fun Q605 hQ606=>?_⟩
   replace k0:=k0.st tC
   replace m0:=m0.st tC
   replace h0:=h0.st tC
   refine AM (O:=jG) (BJ (fun _ h=>h) (Vb.mono (F:=Fr 0 eO jG) (Vb.ofAgg (cs:=[(.int .i64 c0.jobs),(.slice j2 c0.write.length k2),(.slice l2 c0.read.length m2),(.int .i64 c0.phase),(.slice e2 c0.vars.length f2)]) (x:=c0) rfl ⟨_,_,_,rfl,k0,m0,h0,z6,m6⟩) Fr.lt) rk256 vN) rfl fun fY gY hY fO gO=>?_
   obtain ⟨rfl,hO⟩:=gO.int
   refine Bo (hQ606 _ _ ⟨_,_,rfl,fO,⟨rfl,hO⟩⟩)
  ·
   refine ⟨_,rfl,fun iY jY kY lY kG hD621=>?_⟩
   obtain ⟨_,iO,rfl,uC⟩:=hD621.at 1 rfl (by kernel_rfl)
   replace uC:inI64 r5:=uC
   refine ⟨[(70,(.int .i64 r5)),(72,(.int .i64 t0.dur))],⟨iO,Ar kG 72 _ rfl,trivial⟩,fun Q622 hQ623=>?_⟩
   refine Cl rfl rfl ?_
   refine Bo (hQ623 _ _ ⟨_,_,rfl,St.refl _ _ _,⟨rfl,uC⟩⟩)
  ·
   refine ⟨_,rfl,fun mY nY jO oY iS hD634=>?_⟩
   obtain ⟨_,kO,rfl,vC⟩:=hD634.at 2 rfl (by kernel_rfl)
   replace vC:inI64 r5:=vC
   refine ⟨[(73,(.agg #[(.slice none 0 0),(.int .i64 r5),(.int .i64 t0.dur)]))],⟨kO,trivial⟩,fun Q635 hQ636=>?_⟩
   refine CT jO (xs:=([(⟨([]:List Fct),r5,t0.dur⟩:Eff)]:List Eff)) rfl rfl rfl ⟨(Vb.ofAgg (cs:=[(.slice none 0 0),(.int .i64 r5),(.int .i64 t0.dur)]) (x:=(⟨([]:List Fct),r5,t0.dur⟩:Eff)) rfl ⟨_,rfl,(Vb.nil _ _),vC,wK⟩),trivial⟩ fun pY qY rY lO mO=>?_
   refine Bo (hQ636 _ _ ⟨_,_,rfl,lO,⟨_,_,rfl,mO⟩⟩)
  intro sY pA wC w4 t4 hD658
  obtain ⟨_,nO,lG,mG,rfl,xC⟩:=hD658.at 0 rfl rfl
  replace xC:Vb pA (Fr 0 pA wC) (.slice lG ([(⟨z1,0⟩:Fct),(⟨p2,0⟩:Fct)]:List Fct).length mG) ([(⟨z1,0⟩:Fct),(⟨p2,0⟩:Fct)]:List Fct):=xC
  obtain ⟨_,oO,nG,oG,rfl,yC⟩:=hD658.at 3 rfl rfl
  replace yC:Vb pA (Fr 0 pA wC) (.slice nG ([(⟨([]:List Fct),r5,t0.dur⟩:Eff)]:List Eff).length oG) ([(⟨([]:List Fct),r5,t0.dur⟩:Eff)]:List Eff):=yC
  refine GW [(1,(.pointer (some ⟨a7,0,none⟩))),(2,(.pointer (some ⟨l6,0,none⟩))),(5,(.pointer (some ⟨b7,0,none⟩))),(6,(.pointer (some ⟨n1,0,none⟩))),(7,(.int .i64 (y4:Int))),(8,(.pointer (some ⟨w7,0,none⟩))),(9,(.pointer (some ⟨d7.1,0,none⟩))),(40,(.slice j6 x0.jobs.length k6)),(41,(.int .i64 (x0.jobs.length:Int))),(42,(.int .i64 (y4:Int))),(56,(.slice g1.2.1 g2.2.length g1.2.2)),(57,(.agg #[(.int .i64 c0.jobs),(.slice j2 c0.write.length k2),(.slice l2 c0.read.length m2),(.int .i64 c0.phase),(.slice e2 c0.vars.length f2)])),(60,(.string hG)),(62,(.slice l9 t0.start.length m9)),(64,(.slice p9 t0.atStart.length q9)),(67,(.slice lG ([(⟨z1,0⟩:Fct),(⟨p2,0⟩:Fct)]:List Fct).length mG)),(74,(.slice nG ([(⟨([]:List Fct),r5,t0.dur⟩:Eff)]:List Eff).length oG))] ⟨Ar t4 1 _ rfl,Ar t4 2 _ rfl,Ar t4 5 _ rfl,Ar t4 6 _ rfl,Ar t4 7 _ rfl,Ar t4 8 _ rfl,Ar t4 9 _ rfl,Ar t4 40 _ rfl,Ar t4 41 _ rfl,Ar t4 42 _ rfl,Ar t4 56 _ rfl,Ar t4 57 _ rfl,Ar t4 60 _ rfl,Ar t4 62 _ rfl,Ar t4 64 _ rfl,nO,oO,trivial⟩ ?_
  refine AD (i:=20) rfl ?_
  replace k0:=k0.st w4
  replace m0:=m0.st w4
  replace h0:=h0.st w4
  replace e5:=e5.st w4
  replace g5:=g5.st w4
  refine Cc (O:=wC) (FC Fr.lt (Vb.ofAgg (cs:=[(.int .i64 c0.jobs),(.slice j2 c0.write.length k2),(.slice l2 c0.read.length m2),(.int .i64 c0.phase),(.slice e2 c0.vars.length f2)]) (x:=c0) rfl ⟨_,_,_,rfl,k0,m0,h0,z6,m6⟩) (GP iG) e5 g5 xC yC wN) rfl fun tY uY pO u1 qO=>?_
  obtain ⟨jS,rfl,vY,wY,rfl,pG,qG,rO,sO⟩:=qO
  obtain ⟨tO,uO,rfl⟩:=pG.form
  obtain ⟨vO,wO,rfl⟩:=qG.form
  have hZ:=lZ u1
  refine AN [(22,[14])] hZ ?_
  refine AD (i:=21) rfl ?_
  refine AQ 13 pO (xs:=([e9]:List Opr)) rfl rfl rfl ⟨(Vb.ofAgg (cs:=[(.string e9.name),(.int .i64 e9.cost),(.slice tO e9.pre.length uO),(.slice vO e9.effs.length wO)]) (x:=e9) rfl ⟨_,_,rfl,pG,qG,rO,sO⟩),trivial⟩ fun xY yY zY v1 xO=>?_
  have hZ:=lZ v1
  refine AN [(22,[14])] hZ ?_
  refine AD (i:=22) rfl ?_
  obtain ⟨sC,yO,zO⟩:=AI sC
  replace o2:=((o2.st w4).st u1).st v1
  refine AZ rfl o2 (xO.rd) rfl rfl yO zO fun zC aD aZ rG y1 qA=>?_
  rw [← sC] at qA ⊢
  have hZ:=y1.lst [14] (fun _ h=>by cases h;decide)
  refine AN [] hZ ?_
  refine AP (fuel:=1) [] [(23,true)] rfl ?_
  refine AT rfl rfl (AC ?_)
  refine AD (i:=24) rfl ?_
  replace e0:=(((e0.st w4).st u1).st v1).st y1
  refine Az e0 rfl rfl rfl (AJ) (allOne) fun aP a2 e0=>?_
  replace e0:Lc 7 aP rG n1 31 [(.slice q1 c0.vars.length r1),(.slice s1 z2.length t1),(.slice g1.1.1 g2.1.length g1.1.2),(.slice zC rC.length aD)]:=e0
  refine BF ?_
  refine Bv ?_
  refine Ab ?_
  obtain ⟨m5,sG,q0⟩:=bs q0
  obtain ⟨b5,bP,q0⟩:=bs q0
  refine Br [] rG ?_
  refine AP (fuel:=4) [] [(0,true),(1,true),(3,true),(4,true),(5,true)] rfl ?_
  replace f1:=((((f1.st w4).st u1).st v1).st y1).st a2
  refine CJ (hl:=rfl) (hb:=fun w' ⟨O',hq⟩=>((f1.st hq (by decide)).1).cellsAt) rfl rfl ?_
  refine AX rfl rfl (AT rfl rfl ?_)
  replace x1:=((((x1.st w4).st u1).st v1).st y1).st a2
  refine AV (hc:=bCell x1 1 rfl) rfl rfl ?_
  have cP:=(Bq sG)
  refine Hp (he:=sG) rfl rfl rfl ?_
  refine AC ?_
  refine GX (l0:=[(1,(.pointer (some ⟨a7,0,none⟩))),(2,(.pointer (some ⟨l6,0,none⟩))),(5,(.pointer (some ⟨b7,0,none⟩))),(6,(.pointer (some ⟨n1,0,none⟩))),(7,(.int .i64 (y4:Int))),(8,(.pointer (some ⟨w7,0,none⟩))),(9,(.pointer (some ⟨d7.1,0,none⟩))),(40,(.slice j6 x0.jobs.length k6)),(41,(.int .i64 (x0.jobs.length:Int))),(42,(.int .i64 (y4:Int))),(79,(.agg #[(.int .i64 c0.jobs),(.slice j2 c0.write.length k2),(.slice l2 c0.read.length m2),(.int .i64 c0.phase),(.slice e2 c0.vars.length f2)])),(80,(.int .i64 (y4:Int))),(84,(.int .i64 m5))]) (zs:=[⟨2,81,fun v w O=>v=(.int .i64 b5)∧inI64 b5⟩,⟨6,85,fun v w O=>v=(.agg #[(.int .i64 b5),(.int .i64 m5)])∧inI64 b5∧inI64 m5⟩,⟨7,11,fun v w O=>∃ (rA:Nat),v=(.pointer (some ⟨rA,0,none⟩))∧Lc 15 w O rA 78 [(.int .i64 0),(.int .i64 0)]⟩]) #[true,true,true,true,true,true,true,true,false] 1 [] ⟨rfl,rfl,rfl,rfl,rfl,rfl,rfl,rfl,rfl,rfl,rfl,rfl,rfl,trivial⟩ ⟨⟨fun _ _ _ _ _ ⟨e,dP⟩ hS=>⟨e,dP⟩,?_⟩,⟨fun _ _ _ _ _ ⟨e,eP,fP⟩ hS=>⟨e,eP,fP⟩,?_⟩,⟨fun _ _ _ _ _ ⟨rA,e,gP⟩ hS=>⟨rA,e,gP.st hS id⟩,?_⟩,trivial⟩ ?_ rfl
  ·
   refine ⟨_,rfl,fun bZ hP tG bD eB hD715=>?_⟩
   refine ⟨[(79,(.agg #[(.int .i64 c0.jobs),(.slice j2 c0.write.length k2),(.slice l2 c0.read.length m2),(.int .i64 c0.phase),(.slice e2 c0.vars.length f2)])),(80,(.int .i64 (y4:Int)))],⟨Ar eB 79 _ rfl,Ar eB 80 _ rfl,trivial⟩,fun Q716 hQ717=>?_⟩
   replace k0:=((((k0.st u1).st v1).st y1).st a2).st bD
   replace m0:=((((m0.st u1).st v1).st y1).st a2).st bD
   replace h0:=((((h0.st u1).st v1).st y1).st a2).st bD
   refine AM (O:=tG) (BJ (fun _ h=>h) (Vb.mono (F:=Fr 0 hP tG) (Vb.ofAgg (cs:=[(.int .i64 c0.jobs),(.slice j2 c0.write.length k2),(.slice l2 c0.read.length m2),(.int .i64 c0.phase),(.slice e2 c0.vars.length f2)]) (x:=c0) rfl ⟨_,_,_,rfl,k0,m0,h0,z6,m6⟩) Fr.lt) rk256 bP) rfl fun cZ dZ eZ iP jP=>?_
   obtain ⟨rfl,kP⟩:=jP.int
   refine Bo (hQ717 _ _ ⟨_,_,rfl,iP,⟨rfl,kP⟩⟩)
  ·
   refine ⟨_,rfl,fun fZ gZ iZ jZ uG hD732=>?_⟩
   obtain ⟨_,lP,rfl,cD⟩:=hD732.at 0 rfl (by kernel_rfl)
   replace cD:inI64 b5:=cD
   refine ⟨[(81,(.int .i64 b5)),(84,(.int .i64 m5))],⟨lP,Ar uG 84 _ rfl,trivial⟩,fun Q733 hQ734=>?_⟩
   refine Cl rfl rfl ?_
   refine Bo (hQ734 _ _ ⟨_,_,rfl,St.refl _ _ _,⟨rfl,cD,cP⟩⟩)
  ·
   refine ⟨_,rfl,fun kZ mZ mP nZ kS hD748=>?_⟩
   refine ⟨[],trivial,fun Q749 hQ750=>?_⟩
   refine AU 15 mP fun oZ pZ qZ nP oP=>?_
   refine Bo (hQ750 _ _ ⟨_,_,rfl,nP,⟨_,rfl,oP⟩⟩)
  intro rZ pP dD h2 y5 hD767
  obtain ⟨_,qP,eD,rfl,i8⟩:=hD767.at 2 rfl rfl
  replace i8:Lc 15 pP dD eD 78 [(.int .i64 0),(.int .i64 0)]:=i8
  obtain ⟨_,rP,rfl,fD,gD⟩:=hD767.at 1 rfl rfl
  replace fD:inI64 b5:=fD
  replace gD:inI64 m5:=gD
  refine GW [(1,(.pointer (some ⟨a7,0,none⟩))),(2,(.pointer (some ⟨l6,0,none⟩))),(5,(.pointer (some ⟨b7,0,none⟩))),(6,(.pointer (some ⟨n1,0,none⟩))),(7,(.int .i64 (y4:Int))),(8,(.pointer (some ⟨w7,0,none⟩))),(9,(.pointer (some ⟨d7.1,0,none⟩))),(11,(.pointer (some ⟨eD,0,none⟩))),(40,(.slice j6 x0.jobs.length k6)),(41,(.int .i64 (x0.jobs.length:Int))),(42,(.int .i64 (y4:Int))),(85,(.agg #[(.int .i64 b5),(.int .i64 m5)]))] ⟨Ar y5 1 _ rfl,Ar y5 2 _ rfl,Ar y5 5 _ rfl,Ar y5 6 _ rfl,Ar y5 7 _ rfl,Ar y5 8 _ rfl,Ar y5 9 _ rfl,qP,Ar y5 40 _ rfl,Ar y5 41 _ rfl,Ar y5 42 _ rfl,rP,trivial⟩ ?_
  refine AD (i:=8) rfl ?_
  refine Az i8 rfl rfl rfl (AJ) (allOne) fun sP i2 i8=>?_
  replace i8:Lc 15 sP dD eD 78 [(.int .i64 b5),(.int .i64 m5)]:=i8
  refine BF ?_
  refine Bv ?_
  refine Ab ?_
  obtain ⟨vG,wG,q0⟩:=bs q0
  obtain ⟨s5,tP,q0⟩:=bs q0
  obtain ⟨t5,uP,q0⟩:=bs q0
  obtain ⟨f9,vP,q0⟩:=bs q0
  obtain ⟨xG,hD,q0⟩:=bs q0
  refine Br [(21,[16,17]),(23,[14])] dD ?_
  refine AP (fuel:=11) [14,16,17] [(0,true),(1,true),(2,true),(3,true),(4,true),(6,true),(7,true),(8,true),(9,true),(10,true),(12,true),(13,true),(16,true),(17,true),(5,true)] rfl ?_
  refine AT rfl rfl ?_
  replace e0:=(e0.st h2).st i2
  refine AV (hc:=bCell e0 3 rfl) rfl rfl ?_
  replace f1:=(f1.st h2).st i2
  refine CJ (hl:=rfl) (hb:=fun w' ⟨O',hq⟩=>((f1.st hq (by decide)).1).cellsAt) rfl rfl ?_
  refine AT rfl rfl ?_
  replace x1:=(x1.st h2).st i2
  refine AV (hc:=bCell x1 0 rfl) rfl rfl ?_
  refine AT rfl rfl (AV (hc:=bCell x1 4 rfl) rfl rfl ?_)
  refine AT rfl rfl (AV (hc:=bCell x1 6 rfl) rfl rfl ?_)
  refine CJ (hl:=rfl) (hb:=fun w' ⟨O',hq⟩=>((i8.st hq (by decide)).1).cellsAt) rfl rfl ?_
  refine CJ (hl:=rfl) (hb:=fun w' ⟨O',hq⟩=>((f1.st hq (by decide)).1).cellsAt) rfl rfl ?_
  refine AX rfl rfl (CJ (hl:=rfl) (hb:=fun w' ⟨O',hq⟩=>((f1.st hq (by decide)).1).cellsAt) rfl rfl ?_)
  refine AX rfl rfl (Hq (he:=wG) rfl rfl rfl ?_)
  refine AC ?_
  refine GX (l0:=[(1,(.pointer (some ⟨a7,0,none⟩))),(2,(.pointer (some ⟨l6,0,none⟩))),(5,(.pointer (some ⟨b7,0,none⟩))),(6,(.pointer (some ⟨n1,0,none⟩))),(9,(.pointer (some ⟨d7.1,0,none⟩))),(40,(.slice j6 x0.jobs.length k6)),(41,(.int .i64 (x0.jobs.length:Int))),(42,(.int .i64 (y4:Int))),(87,(.slice zC rC.length aD)),(88,(.agg #[(.int .i64 c0.jobs),(.slice j2 c0.write.length k2),(.slice l2 c0.read.length m2),(.int .i64 c0.phase),(.slice e2 c0.vars.length f2)])),(91,(.string vG)),(93,(.slice n9 t0.fin.length o9)),(95,(.slice r9 t0.atEnd.length s9)),(96,(.agg #[(.int .i64 b5),(.int .i64 m5)])),(98,(.agg #[(.int .i64 c0.jobs),(.slice j2 c0.write.length k2),(.slice l2 c0.read.length m2),(.int .i64 c0.phase),(.slice e2 c0.vars.length f2)])),(99,(.int .i64 (y4:Int))),(102,(.agg #[(.int .i64 c0.jobs),(.slice j2 c0.write.length k2),(.slice l2 c0.read.length m2),(.int .i64 c0.phase),(.slice e2 c0.vars.length f2)])),(103,(.int .i64 (y4:Int)))]) (zs:=[⟨11,97,fun v w O=>∃ (sA:Option Addr),∃ (tA:Nat),v=(.slice sA ([(⟨b5,m5⟩:Fct)]:List Fct).length tA)∧Vb w (Fr 0 w O) (.slice sA ([(⟨b5,m5⟩:Fct)]:List Fct).length tA) ([(⟨b5,m5⟩:Fct)]:List Fct)⟩,⟨14,100,fun v w O=>v=(.int .i64 s5)∧inI64 s5⟩,⟨15,101,fun v w O=>v=(.agg #[(.slice none 0 0),(.int .i64 s5),(.int .i64 0)])∧inI64 s5⟩,⟨18,104,fun v w O=>v=(.int .i64 t5)∧inI64 t5⟩,⟨19,105,fun v w O=>v=(.agg #[(.slice none 0 0),(.int .i64 t5),(.int .i64 1)])∧inI64 t5⟩,⟨20,106,fun v w O=>∃ (uA:Option Addr),∃ (vA:Nat),v=(.slice uA ([(⟨([]:List Fct),s5,0⟩:Eff),(⟨([]:List Fct),t5,1⟩:Eff)]:List Eff).length vA)∧Vb w (Fr 0 w O) (.slice uA ([(⟨([]:List Fct),s5,0⟩:Eff),(⟨([]:List Fct),t5,1⟩:Eff)]:List Eff).length vA) ([(⟨([]:List Fct),s5,0⟩:Eff),(⟨([]:List Fct),t5,1⟩:Eff)]:List Eff)⟩]) #[true,true,true,true,true,true,true,true,true,true,true,true,true,true,true,true,true,true,true,true,true,false,false,false,false,false] 5 [(21,[16,17]),(23,[14])] ⟨rfl,rfl,rfl,rfl,rfl,rfl,rfl,rfl,rfl,rfl,rfl,rfl,rfl,rfl,rfl,rfl,rfl,rfl,trivial⟩ ⟨⟨fun _ _ _ _ _ ⟨sA,tA,e,wP⟩ hS=>⟨sA,tA,e,wP.st hS id⟩,?_⟩,⟨fun _ _ _ _ _ ⟨e,xP⟩ hS=>⟨e,xP⟩,?_⟩,⟨fun _ _ _ _ _ ⟨e,yP⟩ hS=>⟨e,yP⟩,?_⟩,⟨fun _ _ _ _ _ ⟨e,zP⟩ hS=>⟨e,zP⟩,?_⟩,⟨fun _ _ _ _ _ ⟨e,aQ⟩ hS=>⟨e,aQ⟩,?_⟩,⟨fun _ _ _ _ _ ⟨uA,vA,e,bQ⟩ hS=>⟨uA,vA,e,bQ.st hS id⟩,?_⟩,trivial⟩ ?_ rfl
  ·
   refine ⟨_,rfl,fun sZ tZ cQ uZ yG hD801=>?_⟩
   refine ⟨[(96,(.agg #[(.int .i64 b5),(.int .i64 m5)]))],⟨Ar yG 96 _ rfl,trivial⟩,fun Q802 hQ803=>?_⟩
   refine CT cQ (xs:=([(⟨b5,m5⟩:Fct)]:List Fct)) rfl rfl rfl ⟨(Vb.ofAgg (cs:=[(.int .i64 b5),(.int .i64 m5)]) (x:=(⟨b5,m5⟩:Fct)) rfl ⟨rfl,fD,gD⟩),trivial⟩ fun vZ wZ xZ dQ eQ=>?_
   refine Bo (hQ803 _ _ ⟨_,_,rfl,dQ,⟨_,_,rfl,eQ⟩⟩)
  ·
   refine ⟨_,rfl,fun yZ fQ zG iD fB hD823=>?_⟩
   refine ⟨[(98,(.agg #[(.int .i64 c0.jobs),(.slice j2 c0.write.length k2),(.slice l2 c0.read.length m2),(.int .i64 c0.phase),(.slice e2 c0.vars.length f2)])),(99,(.int .i64 (y4:Int)))],⟨Ar fB 98 _ rfl,Ar fB 99 _ rfl,trivial⟩,fun Q824 hQ825=>?_⟩
   replace k0:=((((((k0.st u1).st v1).st y1).st a2).st h2).st i2).st iD
   replace m0:=((((((m0.st u1).st v1).st y1).st a2).st h2).st i2).st iD
   replace h0:=((((((h0.st u1).st v1).st y1).st a2).st h2).st i2).st iD
   refine AM (O:=zG) (BJ (fun _ h=>h) (Vb.mono (F:=Fr 0 fQ zG) (Vb.ofAgg (cs:=[(.int .i64 c0.jobs),(.slice j2 c0.write.length k2),(.slice l2 c0.read.length m2),(.int .i64 c0.phase),(.slice e2 c0.vars.length f2)]) (x:=c0) rfl ⟨_,_,_,rfl,k0,m0,h0,z6,m6⟩) Fr.lt) rk256 tP) rfl fun zZ w826 O827 gQ hQ=>?_
   obtain ⟨rfl,iQ⟩:=hQ.int
   refine Bo (hQ825 _ _ ⟨_,_,rfl,gQ,⟨rfl,iQ⟩⟩)
  ·
   refine ⟨_,rfl,fun l835 w836 O837 S838 lS hD840=>?_⟩
   obtain ⟨_,jQ,rfl,jD⟩:=hD840.at 1 rfl (by kernel_rfl)
   replace jD:inI64 s5:=jD
   refine ⟨[(100,(.int .i64 s5))],⟨jQ,trivial⟩,fun Q841 hQ842=>?_⟩
   refine Cl rfl rfl ?_
   refine Bo (hQ842 _ _ ⟨_,_,rfl,St.refl _ _ _,⟨rfl,jD⟩⟩)
  ·
   refine ⟨_,rfl,fun l848 kQ aH kD gB hD853=>?_⟩
   refine ⟨[(102,(.agg #[(.int .i64 c0.jobs),(.slice j2 c0.write.length k2),(.slice l2 c0.read.length m2),(.int .i64 c0.phase),(.slice e2 c0.vars.length f2)])),(103,(.int .i64 (y4:Int)))],⟨Ar gB 102 _ rfl,Ar gB 103 _ rfl,trivial⟩,fun Q854 hQ855=>?_⟩
   replace k0:=((((((k0.st u1).st v1).st y1).st a2).st h2).st i2).st kD
   replace m0:=((((((m0.st u1).st v1).st y1).st a2).st h2).st i2).st kD
   replace h0:=((((((h0.st u1).st v1).st y1).st a2).st h2).st i2).st kD
   refine AM (O:=aH) (BE (fun _ h=>h) (Vb.mono (F:=Fr 0 kQ aH) (Vb.ofAgg (cs:=[(.int .i64 c0.jobs),(.slice j2 c0.write.length k2),(.slice l2 c0.read.length m2),(.int .i64 c0.phase),(.slice e2 c0.vars.length f2)]) (x:=c0) rfl ⟨_,_,_,rfl,k0,m0,h0,z6,m6⟩) Fr.lt) rk256 uP) rfl fun v860 w856 O857 lQ mQ=>?_
   obtain ⟨rfl,nQ⟩:=mQ.int
   refine Bo (hQ855 _ _ ⟨_,_,rfl,lQ,⟨rfl,nQ⟩⟩)
  ·
   refine ⟨_,rfl,fun l865 w866 O867 S868 mS hD870=>?_⟩
   obtain ⟨_,oQ,rfl,lD⟩:=hD870.at 3 rfl (by kernel_rfl)
   replace lD:inI64 t5:=lD
   refine ⟨[(104,(.int .i64 t5))],⟨oQ,trivial⟩,fun Q871 hQ872=>?_⟩
   refine Cl rfl rfl ?_
   refine Bo (hQ872 _ _ ⟨_,_,rfl,St.refl _ _ _,⟨rfl,lD⟩⟩)
  ·
   refine ⟨_,rfl,fun l878 w879 pQ S881 nS hD883=>?_⟩
   obtain ⟨_,qQ,rfl,mD⟩:=hD883.at 2 rfl (by kernel_rfl)
   replace mD:inI64 s5:=mD
   obtain ⟨_,rQ,rfl,nD⟩:=hD883.at 4 rfl (by kernel_rfl)
   replace nD:inI64 t5:=nD
   refine ⟨[(101,(.agg #[(.slice none 0 0),(.int .i64 s5),(.int .i64 0)])),(105,(.agg #[(.slice none 0 0),(.int .i64 t5),(.int .i64 1)]))],⟨qQ,rQ,trivial⟩,fun Q884 hQ885=>?_⟩
   refine CT pQ (xs:=([(⟨([]:List Fct),s5,0⟩:Eff),(⟨([]:List Fct),t5,1⟩:Eff)]:List Eff)) rfl rfl rfl ⟨(Vb.ofAgg (cs:=[(.slice none 0 0),(.int .i64 s5),(.int .i64 0)]) (x:=(⟨([]:List Fct),s5,0⟩:Eff)) rfl ⟨_,rfl,(Vb.nil _ _),mD,(iI64 0)⟩),(Vb.ofAgg (cs:=[(.slice none 0 0),(.int .i64 t5),(.int .i64 1)]) (x:=(⟨([]:List Fct),t5,1⟩:Eff)) rfl ⟨_,rfl,(Vb.nil _ _),nD,(iI64 1)⟩),trivial⟩ fun g890 w891 O892 sQ tQ=>?_
   refine Bo (hQ885 _ _ ⟨_,_,rfl,sQ,⟨_,_,rfl,tQ⟩⟩)
  intro l904 wA oD i5 c5 hD909
  obtain ⟨_,uQ,bH,cH,rfl,pD⟩:=hD909.at 0 rfl rfl
  replace pD:Vb wA (Fr 0 wA oD) (.slice bH ([(⟨b5,m5⟩:Fct)]:List Fct).length cH) ([(⟨b5,m5⟩:Fct)]:List Fct):=pD
  obtain ⟨_,vQ,dH,eH,rfl,qD⟩:=hD909.at 5 rfl rfl
  replace qD:Vb wA (Fr 0 wA oD) (.slice dH ([(⟨([]:List Fct),s5,0⟩:Eff),(⟨([]:List Fct),t5,1⟩:Eff)]:List Eff).length eH) ([(⟨([]:List Fct),s5,0⟩:Eff),(⟨([]:List Fct),t5,1⟩:Eff)]:List Eff):=qD
  refine GW [(1,(.pointer (some ⟨a7,0,none⟩))),(2,(.pointer (some ⟨l6,0,none⟩))),(5,(.pointer (some ⟨b7,0,none⟩))),(6,(.pointer (some ⟨n1,0,none⟩))),(9,(.pointer (some ⟨d7.1,0,none⟩))),(40,(.slice j6 x0.jobs.length k6)),(41,(.int .i64 (x0.jobs.length:Int))),(42,(.int .i64 (y4:Int))),(87,(.slice zC rC.length aD)),(88,(.agg #[(.int .i64 c0.jobs),(.slice j2 c0.write.length k2),(.slice l2 c0.read.length m2),(.int .i64 c0.phase),(.slice e2 c0.vars.length f2)])),(91,(.string vG)),(93,(.slice n9 t0.fin.length o9)),(95,(.slice r9 t0.atEnd.length s9)),(97,(.slice bH ([(⟨b5,m5⟩:Fct)]:List Fct).length cH)),(106,(.slice dH ([(⟨([]:List Fct),s5,0⟩:Eff),(⟨([]:List Fct),t5,1⟩:Eff)]:List Eff).length eH))] ⟨Ar c5 1 _ rfl,Ar c5 2 _ rfl,Ar c5 5 _ rfl,Ar c5 6 _ rfl,Ar c5 9 _ rfl,Ar c5 40 _ rfl,Ar c5 41 _ rfl,Ar c5 42 _ rfl,Ar c5 87 _ rfl,Ar c5 88 _ rfl,Ar c5 91 _ rfl,Ar c5 93 _ rfl,Ar c5 95 _ rfl,uQ,vQ,trivial⟩ ?_
  refine AD (i:=21) rfl ?_
  replace k0:=((((((k0.st u1).st v1).st y1).st a2).st h2).st i2).st i5
  replace m0:=((((((m0.st u1).st v1).st y1).st a2).st h2).st i2).st i5
  replace h0:=((((((h0.st u1).st v1).st y1).st a2).st h2).st i2).st i5
  replace f5:=(((((((f5.st w4).st u1).st v1).st y1).st a2).st h2).st i2).st i5
  replace h5:=(((((((h5.st w4).st u1).st v1).st y1).st a2).st h2).st i2).st i5
  refine Cc (O:=oD) (FC Fr.lt (Vb.ofAgg (cs:=[(.int .i64 c0.jobs),(.slice j2 c0.write.length k2),(.slice l2 c0.read.length m2),(.int .i64 c0.phase),(.slice e2 c0.vars.length f2)]) (x:=c0) rfl ⟨_,_,_,rfl,k0,m0,h0,z6,m6⟩) (GP wG) f5 h5 pD qD vP) rfl fun v922 w918 wQ n5 xQ=>?_
  obtain ⟨oS,rfl,v924,v925,rfl,fH,gH,yQ,zQ⟩:=xQ
  obtain ⟨aR,bR,rfl⟩:=fH.form
  obtain ⟨cR,dR,rfl⟩:=gH.form
  have hZ:=lZ n5
  refine AN [(23,[14])] hZ ?_
  refine AD (i:=22) rfl ?_
  refine AQ 18 wQ (xs:=([f9]:List Opr)) rfl rfl rfl ⟨(Vb.ofAgg (cs:=[(.string f9.name),(.int .i64 f9.cost),(.slice aR f9.pre.length bR),(.slice cR f9.effs.length dR)]) (x:=f9) rfl ⟨_,_,rfl,fH,gH,yQ,zQ⟩),trivial⟩ fun g934 w935 O936 o5 eR=>?_
  have hZ:=lZ o5
  refine AN [(23,[14])] hZ ?_
  refine AD (i:=23) rfl ?_
  obtain ⟨hD,fR,gR⟩:=AI hD
  replace qA:=(((((qA.st a2).st h2).st i2).st i5).st n5).st o5
  refine AZ rfl qA (eR.rd) rfl rfl fR gR fun rD sD w944 hR u5 hH=>?_
  rw [← hD] at hH ⊢
  have hZ:=u5.lst [14] (fun _ h=>by cases h;decide)
  refine AN [] hZ ?_
  refine AP (fuel:=1) [] [(24,true)] rfl ?_
  refine AT rfl rfl (AC ?_)
  refine AD (i:=25) rfl ?_
  replace e0:=(((e0.st i5).st n5).st o5).st u5
  refine Az e0 rfl rfl rfl (AJ) (allOne) fun iR x5 e0=>?_
  replace e0:Lc 7 iR hR n1 31 [(.slice q1 c0.vars.length r1),(.slice s1 z2.length t1),(.slice g1.1.1 g2.1.length g1.1.2),(.slice rD xG.length sD)]:=e0
  refine BF ?_
  refine Bv ?_
  refine Aa (Ax rfl (At (hc:=Blk.cell (i:=2) (e0.1) rfl) rfl ?_))
  replace kA:=(((((((((((kA.st w4).st u1).st v1).st y1).st a2).st h2).st i2).st i5).st n5).st o5).st u5).st x5
  refine Bd (hl:=rfl) (hc:=(kA.1).cellsAt) rfl ?_
  obtain ⟨jR,tD,q0⟩:=bs q0
  obtain ⟨tD,kR,lR⟩:=AI tD
  replace u4:=(((((((((((u4.st w4).st u1).st v1).st y1).st a2).st h2).st i2).st i5).st n5).st o5).st u5).st x5
  refine BC rfl (a:=(⟨z1,0⟩:Fct)) u4 (Vb.ofAgg (cs:=[(.int .i64 z1),(.int .i64 0)]) (x:=(⟨z1,0⟩:Fct)) rfl ⟨rfl,gG,(iI64 0)⟩) (fun _=>rfl) rfl kR lR ⟨rfl,rfl⟩ fun g955 iH jH w958 mR c6 kH=>?_
  rw [← tD] at kH ⊢
  refine Ax rfl ?_
  replace e0:=e0.st c6
  refine Az e0 rfl rfl rfl (AJ) (allOne) fun nR d6 e0=>?_
  replace e0:Lc 7 nR mR n1 31 [(.slice q1 c0.vars.length r1),(.slice s1 z2.length t1),(.slice iH jR.length jH),(.slice rD xG.length sD)]:=e0
  refine o_z ?_
  obtain rfl:=sm q0
  exact show Exists _ from ⟨_,((iH,jH),(rD,sD)),rfl,⟨rfl,rfl,rfl,rfl,rfl,rfl,rfl,trivial⟩,_,(((((((((((((hB.st w4).st u1).st v1).st y1).st a2).st h2).st i2).st i5).st n5).st o5).st u5).st x5).st c6).st d6,(((((((((((((p1.st w4).st u1).st v1).st y1).st a2).st h2).st i2).st i5).st n5).st o5).st u5).st x5).st c6).st d6,(((((((((((((h7.st w4).st u1).st v1).st y1).st a2).st h2).st i2).st i5).st n5).st o5).st u5).st x5).st c6).st d6,(((((((((((((b2.st w4).st u1).st v1).st y1).st a2).st h2).st i2).st i5).st n5).st o5).st u5).st x5).st c6).st d6,(((((((((((((c2.st w4).st u1).st v1).st y1).st a2).st h2).st i2).st i5).st n5).st o5).st u5).st x5).st c6).st d6,(((((((((((((w1.st w4).st u1).st v1).st y1).st a2).st h2).st i2).st i5).st n5).st o5).st u5).st x5).st c6).st d6,(((((((((((((i1.st w4).st u1).st v1).st y1).st a2).st h2).st i2).st i5).st n5).st o5).st u5).st x5).st c6).st d6,((((((f1.st i5).st n5).st o5).st u5).st x5).st c6).st d6,(((((k0.st n5).st o5).st u5).st x5).st c6).st d6,(((((m0.st n5).st o5).st u5).st x5).st c6).st d6,(((((h0.st n5).st o5).st u5).st x5).st c6).st d6,e0,(((((((((((((j0.st w4).st u1).st v1).st y1).st a2).st h2).st i2).st i5).st n5).st o5).st u5).st x5).st c6).st d6,(((((((((((((i0.st w4).st u1).st v1).st y1).st a2).st h2).st i2).st i5).st n5).st o5).st u5).st x5).st c6).st d6,kH.st d6,((hH.st x5).st c6).st d6⟩
 replace hB:=((((((((hB.st eC).st aB).st h9).st g9).st r7).st s7).st d5).st e4).st n2
 replace h7:=(((((h7.st g9).st r7).st s7).st d5).st e4).st n2
 replace b2:=b2.st n2
 replace c2:=(((((c2.st g9).st r7).st s7).st d5).st e4).st n2
 replace i1:=((((((i1.st h9).st g9).st r7).st s7).st d5).st e4).st n2
 replace k0:=((((k0.st r7).st s7).st d5).st e4).st n2
 replace m0:=((((m0.st r7).st s7).st d5).st e4).st n2
 replace h0:=((h0.st d5).st e4).st n2
 replace f1:=((f1.st d5).st e4).st n2
 replace e0:=e0.st n2
 replace j0:=(j0.st e4).st n2
 rintro l965 w966 ⟨oR,xA,rfl,lH,O967,hB,p1,h7,b2,c2,w1,i1,f1,k0,m0,h0,e0,j0,i0,u4,o2⟩
 replace hm:=AR hm
 refine AH _ lH ?_
 refine Ab (Aa (Ax rfl (At (hc:=Blk.cell (i:=2) (e0.1) rfl) rfl ?_)))
 refine Ax rfl (At (hc:=Blk.cell (i:=3) (f1.1) rfl) rfl ?_)
 refine Cl rfl rfl ?_
 obtain ⟨y2,uD,hm⟩:=bs hm
 obtain ⟨uD,pR,qR⟩:=AI uD
 refine BC rfl (a:=(⟨c0.phase,0⟩:Fct)) u4 (Vb.ofAgg (cs:=[(.int .i64 c0.phase),(.int .i64 0)]) (x:=(⟨c0.phase,0⟩:Fct)) rfl ⟨rfl,m6,(iI64 0)⟩) (fun _=>rfl) rfl pR qR ⟨rfl,rfl⟩ fun g975 p5 q5 w978 mH l1 h1=>?_
 rw [← uD] at h1 ⊢
 refine Ax rfl ?_
 replace e0:=e0.st l1
 refine Az e0 rfl rfl rfl (AJ) (allOne) fun rR e1 e0=>?_
 replace e0:Lc 7 rR mH n1 31 [(.slice q1 c0.vars.length r1),(.slice s1 z2.length t1),(.slice p5 y2.length q5),(.slice xA.2.1 oR.2.length xA.2.2)]:=e0
 refine o_z ?_
 refine Ab ?_
 obtain ⟨o7,a3,hm⟩:=bs hm
 refine Ay (fun l' w'=>∃ (n6:(Option Addr×Nat)) (O':Lab),subs l' [(2,(.pointer (some ⟨l6,0,none⟩))),(6,(.pointer (some ⟨n1,0,none⟩)))]∧Bs w A w' O'∧Lc 3 w' O' l6 31 [(.slice none 0 0),(.slice none 0 0),(.slice none 0 0),(.slice none 0 0)]∧Lc 7 w' O' n1 31 [(.slice q1 c0.vars.length r1),(.slice s1 z2.length t1),(.slice p5 y2.length q5),(.slice n6.1 o7.length n6.2)]∧Vb w' (Fr 0 w' O') (.slice q1 c0.vars.length r1) c0.vars∧Rw 5 w' O' 3 (.slice s1 z2.length t1) (cpyL z2 x0.init)∧Rw 6 w' O' 78 (.slice p5 y2.length q5) y2∧Rw 14 w' O' 82 (.slice n6.1 o7.length n6.2) o7) ?_ ?_
 ·
  refine Ab (Aa (Ax rfl ?_))
  replace p1:=(p1.st l1).st e1
  refine At (hc:=Blk.cell (i:=3) (p1.1) rfl) rfl ?_
  refine AS rfl ?_
  replace w1:=(w1.st l1).st e1
  have sR:x0.jobs.length≤9223372036854775807:=Nat.le_trans w1.len.2.1 w1.len.2.2
  have r991:inI64 (x0.jobs.length:Int):=rngNat sR
  refine BW rfl rfl (fun vD=>?_) fun vD=>?_
  ·
   replace a3:=ip a3 vD
   refine o_z ?_
   refine Ah rfl (Ab (Aa (Ax rfl (At (hc:=Blk.cell (i:=3) (e0.1) rfl) rfl ?_))))
   refine Ax rfl ?_
   replace f1:=(f1.st l1).st e1
   refine At (hc:=Blk.cell (i:=3) (f1.1) rfl) rfl ?_
   refine Cl rfl rfl ?_
   refine AQ 19 mH (xs:=([(⟨c0.phase,0⟩:Fct)]:List Fct)) rfl rfl rfl ⟨(Vb.ofAgg (cs:=[(.int .i64 c0.phase),(.int .i64 0)]) (x:=(⟨c0.phase,0⟩:Fct)) rfl ⟨rfl,m6,(iI64 0)⟩),trivial⟩ fun tR w995 uR d2 j8=>?_
   refine Ax rfl ?_
   replace f1:=f1.st d2
   refine At (hc:=Blk.cell (i:=3) (f1.1) rfl) rfl ?_
   refine Cl rfl rfl ?_
   refine AQ 20 uR (xs:=([(⟨([]:List Fct),c0.phase,1⟩:Eff)]:List Eff)) rfl rfl rfl ⟨(Vb.ofAgg (cs:=[(.slice none 0 0),(.int .i64 c0.phase),(.int .i64 1)]) (x:=(⟨([]:List Fct),c0.phase,1⟩:Eff)) rfl ⟨_,rfl,(Vb.nil _ _),m6,(iI64 1)⟩),trivial⟩ fun nH pS qS y0 t7=>?_
   refine Cl rfl rfl ?_
   replace j8:=j8.st y0
   obtain ⟨rS,a1,j8⟩:=j8.freeze
   replace t7:=t7.st a1
   obtain ⟨sS,b1,t7⟩:=t7.freeze
   obtain ⟨oH,x9,a3⟩:=bs a3
   obtain ⟨x9,pH,qH⟩:=AI x9
   replace o2:=(((((o2.st l1).st e1).st d2).st y0).st a1).st b1
   replace j8:=j8.st b1
   refine BC rfl (a:=(⟨(⟨#[116,105,99,107]⟩:ByteArray),0,[(⟨c0.phase,0⟩:Fct)],[(⟨([]:List Fct),c0.phase,1⟩:Eff)]⟩:Opr)) o2 (Vb.ofAgg (cs:=[(.string (⟨#[116,105,99,107]⟩:ByteArray)),(.int .i64 0),(.slice (some ⟨tR,0,none⟩) [(⟨c0.phase,0⟩:Fct)].length 1),(.slice (some ⟨nH,0,none⟩) [(⟨([]:List Fct),c0.phase,1⟩:Eff)].length 1)]) (x:=(⟨(⟨#[116,105,99,107]⟩:ByteArray),0,[(⟨c0.phase,0⟩:Fct)],[(⟨([]:List Fct),c0.phase,1⟩:Eff)]⟩:Opr)) rfl ⟨_,_,rfl,j8,t7,(iI64 0),(show (⟨#[116,105,99,107]⟩:ByteArray).size≤9223372036854775807 from by decide)⟩) (fun _=>rfl) rfl pH qH ⟨rfl,rfl⟩ fun tS iB jB uS kB c1 k8=>?_
   rw [← x9] at k8 ⊢
   refine Ax rfl ?_
   replace e0:=((((e0.st d2).st y0).st a1).st b1).st c1
   refine Az e0 rfl rfl rfl (AJ) (allOne) fun rH d1 e0=>?_
   replace e0:Lc 7 rH kB n1 31 [(.slice q1 c0.vars.length r1),(.slice s1 z2.length t1),(.slice p5 y2.length q5),(.slice iB oH.length jB)]:=e0
   refine o_z ?_
   refine Ab (Ab (Aa (Ax rfl ?_)))
   replace p1:=(((((p1.st d2).st y0).st a1).st b1).st c1).st d1
   refine At (hc:=Blk.cell (i:=3) (p1.1) rfl) rfl ?_
   refine AS rfl ?_
   replace w1:=(((((w1.st d2).st y0).st a1).st b1).st c1).st d1
   have y9:x0.jobs.length≤9223372036854775807:=Nat.le_trans w1.len.2.1 w1.len.2.2
   have vS:inI64 (x0.jobs.length:Int):=rngNat y9
   refine Ak rfl (o_z ?_)
   obtain ⟨yA,wD,a3⟩:=bs a3
   refine Ay (aft yA (fun (z5:(List Opr)) (x4:(Option Addr×Nat))=>[(1,(.pointer (some ⟨a7,0,none⟩))),(2,(.pointer (some ⟨l6,0,none⟩))),(5,(.pointer (some ⟨b7,0,none⟩))),(6,(.pointer (some ⟨n1,0,none⟩)))]) (fun z5 x4 w'=>∃ O':Lab,Bs w A w' O'∧Lc 2 w' O' a7 26 [(.slice A8 x0.vars.length c9),(.slice p7 x0.init.length q7),(.slice m7 x0.goal.length n7),(.slice j6 x0.jobs.length k6)]∧Vb w' (Fr 0 w' O') (.slice A8 x0.vars.length c9) x0.vars∧Vb w' (Fr 0 w' O') (.slice p7 x0.init.length q7) x0.init∧Vb w' (Fr 0 w' O') (.slice m7 x0.goal.length n7) x0.goal∧Vb w' (Fr 0 w' O') (.slice j6 x0.jobs.length k6) x0.jobs∧Lc 3 w' O' l6 31 [(.slice none 0 0),(.slice none 0 0),(.slice none 0 0),(.slice none 0 0)]∧Lc 4 w' O' b7 74 [(.int .i64 c0.jobs),(.slice j2 c0.write.length k2),(.slice l2 c0.read.length m2),(.int .i64 c0.phase),(.slice e2 c0.vars.length f2)]∧Vb w' (Fr 0 w' O') (.slice j2 c0.write.length k2) c0.write∧Vb w' (Fr 0 w' O') (.slice l2 c0.read.length m2) c0.read∧Vb w' (Fr 0 w' O') (.slice e2 c0.vars.length f2) c0.vars∧Lc 7 w' O' n1 31 [(.slice q1 c0.vars.length r1),(.slice s1 z2.length t1),(.slice p5 y2.length q5),(.slice x4.1 z5.length x4.2)]∧Vb w' (Fr 0 w' O') (.slice q1 c0.vars.length r1) c0.vars∧Rw 5 w' O' 3 (.slice s1 z2.length t1) (cpyL z2 x0.init)∧Rw 6 w' O' 78 (.slice p5 y2.length q5) y2∧Rw 14 w' O' 82 (.slice x4.1 z5.length x4.2) z5)) ?_ ?_
   ·
    refine AK ?_
    replace hB:=(((((((hB.st l1).st e1).st d2).st y0).st a1).st b1).st c1).st d1
    replace h7:=(((((((h7.st l1).st e1).st d2).st y0).st a1).st b1).st c1).st d1
    replace b2:=(((((((b2.st l1).st e1).st d2).st y0).st a1).st b1).st c1).st d1
    replace c2:=(((((((c2.st l1).st e1).st d2).st y0).st a1).st b1).st c1).st d1
    replace i1:=(((((((i1.st l1).st e1).st d2).st y0).st a1).st b1).st c1).st d1
    replace k0:=(((((((k0.st l1).st e1).st d2).st y0).st a1).st b1).st c1).st d1
    replace m0:=(((((((m0.st l1).st e1).st d2).st y0).st a1).st b1).st c1).st d1
    replace h0:=(((((((h0.st l1).st e1).st d2).st y0).st a1).st b1).st c1).st d1
    replace f1:=((((f1.st y0).st a1).st b1).st c1).st d1
    replace j0:=(((((((j0.st l1).st e1).st d2).st y0).st a1).st b1).st c1).st d1
    replace i0:=(((((((i0.st l1).st e1).st d2).st y0).st a1).st b1).st c1).st d1
    replace h1:=((((((h1.st e1).st d2).st y0).st a1).st b1).st c1).st d1
    replace k8:=k8.st d1
    refine AY (σ:=(List Opr)) (X:=(Option Addr×Nat)) (x0.jobs.length) wD rfl y9 (fun (z5:(List Opr)) (x4:(Option Addr×Nat))=>[(1,(.pointer (some ⟨a7,0,none⟩))),(2,(.pointer (some ⟨l6,0,none⟩))),(5,(.pointer (some ⟨b7,0,none⟩))),(6,(.pointer (some ⟨n1,0,none⟩))),(145,(.slice j6 x0.jobs.length k6))]) _ (fun z5 x4 w'=>∃ O':Lab,Bs w A w' O'∧Lc 2 w' O' a7 26 [(.slice A8 x0.vars.length c9),(.slice p7 x0.init.length q7),(.slice m7 x0.goal.length n7),(.slice j6 x0.jobs.length k6)]∧Vb w' (Fr 0 w' O') (.slice A8 x0.vars.length c9) x0.vars∧Vb w' (Fr 0 w' O') (.slice p7 x0.init.length q7) x0.init∧Vb w' (Fr 0 w' O') (.slice m7 x0.goal.length n7) x0.goal∧Vb w' (Fr 0 w' O') (.slice j6 x0.jobs.length k6) x0.jobs∧Lc 3 w' O' l6 31 [(.slice none 0 0),(.slice none 0 0),(.slice none 0 0),(.slice none 0 0)]∧Lc 4 w' O' b7 74 [(.int .i64 c0.jobs),(.slice j2 c0.write.length k2),(.slice l2 c0.read.length m2),(.int .i64 c0.phase),(.slice e2 c0.vars.length f2)]∧Vb w' (Fr 0 w' O') (.slice j2 c0.write.length k2) c0.write∧Vb w' (Fr 0 w' O') (.slice l2 c0.read.length m2) c0.read∧Vb w' (Fr 0 w' O') (.slice e2 c0.vars.length f2) c0.vars∧Lc 7 w' O' n1 31 [(.slice q1 c0.vars.length r1),(.slice s1 z2.length t1),(.slice p5 y2.length q5),(.slice x4.1 z5.length x4.2)]∧Vb w' (Fr 0 w' O') (.slice q1 c0.vars.length r1) c0.vars∧Rw 5 w' O' 3 (.slice s1 z2.length t1) (cpyL z2 x0.init)∧Rw 6 w' O' 78 (.slice p5 y2.length q5) y2∧Rw 14 w' O' 82 (.slice x4.1 z5.length x4.2) z5) _ (iB,jB) ⟨kB,hB,p1,h7,b2,c2,w1,i1,f1,k0,m0,h0,e0,j0,i0,h1,k8⟩ ⟨rfl,rfl,rfl,rfl,rfl,rfl,rfl,trivial⟩ (fun _ _=>⟨rfl,rfl⟩) (fun _ _=>⟨rfl,rfl,rfl,rfl,trivial⟩) (fun _ _ _ ⟨O',hB,p1,h7,b2,c2,w1,i1,f1,k0,m0,h0,e0,j0,i0,h1,h6⟩=>⟨O',hB,p1,h7,b2,c2,w1,i1,f1,k0,m0,h0,e0,j0,i0,h1,h6⟩) ⟨rfl,rfl,rfl⟩ ⟨rfl,rfl⟩ ?_
    rintro l8 p0 z5 x4 wS vR z9 ⟨sH,hB,p1,h7,b2,c2,w1,i1,f1,k0,m0,h0,e0,j0,i0,h1,h6⟩ j5 tH uH
    have rk1030:inI64 (l8:Int):=rngK z9 y9
    refine Ab (Aa (Ak rfl ?_))
    obtain ⟨xS,yS,wR,xD,yD,zD,zS,aT,bT,cT,dT,rfl,o6,p6,q6,r6,s6,vH,wH⟩:=w1.elem' z9
    obtain ⟨m8,n8,rfl⟩:=o6.form
    obtain ⟨o8,p8,rfl⟩:=p6.form
    obtain ⟨q8,r8,rfl⟩:=q6.form
    obtain ⟨s8,t8,rfl⟩:=r6.form
    obtain ⟨u8,v8,rfl⟩:=s6.form
    refine Bi (hA:=xD) (hj:=rfl) (hlt:=yD) rfl rfl ?_
    refine Bd (hl:=rfl) (hc:=zD) rfl ?_
    refine AU 21 sH fun aA eT lB n0 a6=>?_
    refine Am rfl (Az a6 rfl rfl rfl (AJ) (allOne) fun xH o0 a6=>?_)
    replace a6:Lc 21 xH lB aA 66 [(.string p0.name),(.int .i64 p0.dur),(.slice m8 p0.start.length n8),(.slice o8 p0.over.length p8),(.slice q8 p0.fin.length r8),(.slice s8 p0.atStart.length t8),(.slice u8 p0.atEnd.length v8)]:=a6
    refine o_z ?_
    refine Ab (Aa (Ax rfl (At (hc:=Blk.cell (i:=1) (a6.1) rfl) rfl ?_)))
    obtain ⟨fT,mB,j5⟩:=bs j5
    have nB:=(Bq mB)
    refine Dn (he:=mB) rfl rfl ?_
    refine Ak rfl (o_z ?_)
    obtain ⟨yH,e7,j5⟩:=bs j5
    replace e7:=Hx e7
    obtain ⟨zA,aE,j5⟩:=bs j5
    refine Ay (aft zA (fun (b6:(List Opr)) (l5:(Option Addr×Nat))=>[(1,(.pointer (some ⟨a7,0,none⟩))),(2,(.pointer (some ⟨l6,0,none⟩))),(5,(.pointer (some ⟨b7,0,none⟩))),(6,(.pointer (some ⟨n1,0,none⟩))),(145,(.slice j6 x0.jobs.length k6)),(146,(.int .i64 (x0.jobs.length:Int))),(147,(.int .i64 (l8:Int)))]) (fun b6 l5 w'=>∃ O':Lab,Bs w A w' O'∧Lc 2 w' O' a7 26 [(.slice A8 x0.vars.length c9),(.slice p7 x0.init.length q7),(.slice m7 x0.goal.length n7),(.slice j6 x0.jobs.length k6)]∧Vb w' (Fr 0 w' O') (.slice A8 x0.vars.length c9) x0.vars∧Vb w' (Fr 0 w' O') (.slice p7 x0.init.length q7) x0.init∧Vb w' (Fr 0 w' O') (.slice m7 x0.goal.length n7) x0.goal∧Vb w' (Fr 0 w' O') (.slice j6 x0.jobs.length k6) x0.jobs∧Lc 3 w' O' l6 31 [(.slice none 0 0),(.slice none 0 0),(.slice none 0 0),(.slice none 0 0)]∧Lc 4 w' O' b7 74 [(.int .i64 c0.jobs),(.slice j2 c0.write.length k2),(.slice l2 c0.read.length m2),(.int .i64 c0.phase),(.slice e2 c0.vars.length f2)]∧Vb w' (Fr 0 w' O') (.slice j2 c0.write.length k2) c0.write∧Vb w' (Fr 0 w' O') (.slice l2 c0.read.length m2) c0.read∧Vb w' (Fr 0 w' O') (.slice e2 c0.vars.length f2) c0.vars∧Lc 7 w' O' n1 31 [(.slice q1 c0.vars.length r1),(.slice s1 z2.length t1),(.slice p5 y2.length q5),(.slice l5.1 b6.length l5.2)]∧Vb w' (Fr 0 w' O') (.slice q1 c0.vars.length r1) c0.vars∧Rw 5 w' O' 3 (.slice s1 z2.length t1) (cpyL z2 x0.init)∧Rw 6 w' O' 78 (.slice p5 y2.length q5) y2∧Rw 14 w' O' 82 (.slice l5.1 b6.length l5.2) b6)) ?_ ?_
    ·
     refine AK ?_
     replace hB:=(hB.st n0).st o0
     replace h7:=(h7.st n0).st o0
     replace b2:=(b2.st n0).st o0
     replace c2:=(c2.st n0).st o0
     replace w1:=(w1.st n0).st o0
     replace p1:=(p1.st n0).st o0
     replace i1:=(i1.st n0).st o0
     replace k0:=(k0.st n0).st o0
     replace m0:=(m0.st n0).st o0
     replace h0:=(h0.st n0).st o0
     replace f1:=(f1.st n0).st o0
     replace e0:=(e0.st n0).st o0
     replace j0:=(j0.st n0).st o0
     replace i0:=(i0.st n0).st o0
     replace h1:=(h1.st n0).st o0
     replace h6:=(h6.st n0).st o0
     replace o6:=(o6.st n0).st o0
     replace p6:=(p6.st n0).st o0
     replace q6:=(q6.st n0).st o0
     replace r6:=(r6.st n0).st o0
     replace s6:=(s6.st n0).st o0
     refine Fp (σ:=(List Opr)) (X:=(Option Addr×Nat)) yH aE (FH e7 nB) (fun (b6:(List Opr)) (l5:(Option Addr×Nat))=>[(1,(.pointer (some ⟨a7,0,none⟩))),(2,(.pointer (some ⟨l6,0,none⟩))),(5,(.pointer (some ⟨b7,0,none⟩))),(6,(.pointer (some ⟨n1,0,none⟩))),(12,(.int .i64 (l8:Int))),(13,(.pointer (some ⟨aA,0,none⟩))),(145,(.slice j6 x0.jobs.length k6)),(146,(.int .i64 (x0.jobs.length:Int))),(147,(.int .i64 (l8:Int)))]) _ (fun b6 l5 w'=>∃ O':Lab,Bs w A w' O'∧Lc 2 w' O' a7 26 [(.slice A8 x0.vars.length c9),(.slice p7 x0.init.length q7),(.slice m7 x0.goal.length n7),(.slice j6 x0.jobs.length k6)]∧Vb w' (Fr 0 w' O') (.slice A8 x0.vars.length c9) x0.vars∧Vb w' (Fr 0 w' O') (.slice p7 x0.init.length q7) x0.init∧Vb w' (Fr 0 w' O') (.slice m7 x0.goal.length n7) x0.goal∧Vb w' (Fr 0 w' O') (.slice j6 x0.jobs.length k6) x0.jobs∧Lc 3 w' O' l6 31 [(.slice none 0 0),(.slice none 0 0),(.slice none 0 0),(.slice none 0 0)]∧Lc 4 w' O' b7 74 [(.int .i64 c0.jobs),(.slice j2 c0.write.length k2),(.slice l2 c0.read.length m2),(.int .i64 c0.phase),(.slice e2 c0.vars.length f2)]∧Vb w' (Fr 0 w' O') (.slice j2 c0.write.length k2) c0.write∧Vb w' (Fr 0 w' O') (.slice l2 c0.read.length m2) c0.read∧Vb w' (Fr 0 w' O') (.slice e2 c0.vars.length f2) c0.vars∧Lc 7 w' O' n1 31 [(.slice q1 c0.vars.length r1),(.slice s1 z2.length t1),(.slice p5 y2.length q5),(.slice l5.1 b6.length l5.2)]∧Vb w' (Fr 0 w' O') (.slice q1 c0.vars.length r1) c0.vars∧Rw 5 w' O' 3 (.slice s1 z2.length t1) (cpyL z2 x0.init)∧Rw 6 w' O' 78 (.slice p5 y2.length q5) y2∧Rw 14 w' O' 82 (.slice l5.1 b6.length l5.2) b6∧Lc 21 w' O' aA 66 [(.string p0.name),(.int .i64 p0.dur),(.slice m8 p0.start.length n8),(.slice o8 p0.over.length p8),(.slice q8 p0.fin.length r8),(.slice s8 p0.atStart.length t8),(.slice u8 p0.atEnd.length v8)]∧Vb w' (Fr 0 w' O') (.slice m8 p0.start.length n8) p0.start∧Vb w' (Fr 0 w' O') (.slice o8 p0.over.length p8) p0.over∧Vb w' (Fr 0 w' O') (.slice q8 p0.fin.length r8) p0.fin∧Vb w' (Fr 0 w' O') (.slice s8 p0.atStart.length t8) p0.atStart∧Vb w' (Fr 0 w' O') (.slice u8 p0.atEnd.length v8) p0.atEnd) _ (x4.1,x4.2) ⟨lB,hB,p1,h7,b2,c2,w1,i1,f1,k0,m0,h0,e0,j0,i0,h1,h6,a6,o6,p6,q6,r6,s6⟩ ⟨rfl,(congrArg (fun z=>some (Value.int .i64 z)) e7),rfl,rfl,rfl,rfl,rfl,rfl,rfl,rfl,rfl,trivial⟩ (fun _ _=>⟨rfl,rfl⟩) (fun _ _=>⟨rfl,rfl,rfl,rfl,rfl,rfl,rfl,trivial⟩) (fun _ _ _ ⟨O',hB,p1,h7,b2,c2,w1,i1,f1,k0,m0,h0,e0,j0,i0,h1,f7,a6,o6,p6,q6,r6,s6⟩=>⟨O',hB,p1,h7,b2,c2,w1,i1,f1,k0,m0,h0,e0,j0,i0,h1,f7⟩) ⟨rfl,rfl,rfl⟩ ⟨rfl,rfl⟩ ?_
     rintro zH b6 l5 gT xR bE ⟨oB,hB,p1,h7,b2,c2,w1,i1,f1,k0,m0,h0,e0,j0,i0,h1,f7,a6,o6,p6,q6,r6,s6⟩ g7 aI bI
     have rk1088:inI64 (zH:Int):=rngKN bE (FH e7 nB)
     refine Ab (Aa (Ak rfl (Am rfl (o_z ?_))))
     refine Br [(8,[14])] oB ?_
     refine AP (fuel:=5) [] [(0,true),(1,true),(2,true),(3,true),(4,true),(5,true)] rfl ?_
     refine AT rfl rfl (AV (hc:=bCell e0 3 rfl) rfl rfl ?_)
     refine CJ (hl:=rfl) (hb:=fun w' ⟨O',hq⟩=>((f1.st hq (by decide)).1).cellsAt) rfl rfl ?_
     refine CJ (hl:=rfl) (hb:=fun w' ⟨O',hq⟩=>((a6.st hq (by decide)).1).cellsAt) rfl rfl ?_
     refine AX rfl rfl (AX rfl rfl (AC ?_))
     refine AD (i:=6) rfl ?_
     obtain ⟨j7,cI,g7⟩:=bs g7
     refine Cc (O:=oB) (IV Fr.lt (Vb.ofAgg (cs:=[(.int .i64 c0.jobs),(.slice j2 c0.write.length k2),(.slice l2 c0.read.length m2),(.int .i64 c0.phase),(.slice e2 c0.vars.length f2)]) (x:=c0) rfl ⟨_,_,_,rfl,k0,m0,h0,z6,m6⟩) (Vb.ofAgg (cs:=[(.string p0.name),(.int .i64 p0.dur),(.slice m8 p0.start.length n8),(.slice o8 p0.over.length p8),(.slice q8 p0.fin.length r8),(.slice s8 p0.atStart.length t8),(.slice u8 p0.atEnd.length v8)]) (x:=p0) rfl ⟨_,_,_,_,_,rfl,o6,p6,q6,r6,s6,vH,wH⟩) rk1030 rk1088 cI) rfl fun hT iT dI j1 eI=>?_
     obtain ⟨yR,rfl,jT,kT,rfl,pB,qB,fI,gI⟩:=eI
     obtain ⟨hI,iI,rfl⟩:=pB.form
     obtain ⟨jI,kI,rfl⟩:=qB.form
     have hZ:=lZ j1
     refine AN [(8,[14])] hZ ?_
     refine AD (i:=7) rfl ?_
     refine AQ 22 dI (xs:=([j7]:List Opr)) rfl rfl rfl ⟨(Vb.ofAgg (cs:=[(.string j7.name),(.int .i64 j7.cost),(.slice hI j7.pre.length iI),(.slice jI j7.effs.length kI)]) (x:=j7) rfl ⟨_,_,rfl,pB,qB,fI,gI⟩),trivial⟩ fun lT mT nT k1 lI=>?_
     have hZ:=lZ k1
     refine AN [(8,[14])] hZ ?_
     refine AD (i:=8) rfl ?_
     obtain ⟨mI,bA,g7⟩:=bs g7
     obtain ⟨bA,nI,oI⟩:=AI bA
     replace f7:=(f7.st j1).st k1
     refine AZ rfl f7 (lI.rd) rfl rfl nI oI fun rB sB oT pI m1 tB=>?_
     rw [← bA] at tB ⊢
     have hZ:=m1.lst [14] (fun _ h=>by cases h;decide)
     refine AN [] hZ ?_
     refine AP (fuel:=1) [] [(9,true)] rfl ?_
     refine AT rfl rfl (AC ?_)
     refine AD (i:=10) rfl ?_
     replace e0:=((e0.st j1).st k1).st m1
     refine Az e0 rfl rfl rfl (AJ) (allOne) fun qI o1 e0=>?_
     replace e0:Lc 7 qI pI n1 31 [(.slice q1 c0.vars.length r1),(.slice s1 z2.length t1),(.slice p5 y2.length q5),(.slice rB mI.length sB)]:=e0
     refine BF ?_
     refine Bv ?_
     obtain rfl:=sm g7
     exact show Exists _ from ⟨_,(rB,sB),rfl,⟨rfl,rfl,rfl,rfl,rfl,rfl,rfl,rfl,rfl,rfl,rfl,trivial⟩,_,(((hB.st j1).st k1).st m1).st o1,(((p1.st j1).st k1).st m1).st o1,(((h7.st j1).st k1).st m1).st o1,(((b2.st j1).st k1).st m1).st o1,(((c2.st j1).st k1).st m1).st o1,(((w1.st j1).st k1).st m1).st o1,(((i1.st j1).st k1).st m1).st o1,(((f1.st j1).st k1).st m1).st o1,(((k0.st j1).st k1).st m1).st o1,(((m0.st j1).st k1).st m1).st o1,(((h0.st j1).st k1).st m1).st o1,e0,(((j0.st j1).st k1).st m1).st o1,(((i0.st j1).st k1).st m1).st o1,(((h1.st j1).st k1).st m1).st o1,tB.st o1,(((a6.st j1).st k1).st m1).st o1,(((o6.st j1).st k1).st m1).st o1,(((p6.st j1).st k1).st m1).st o1,(((q6.st j1).st k1).st m1).st o1,(((r6.st j1).st k1).st m1).st o1,(((s6.st j1).st k1).st m1).st o1⟩
    replace hB:=(hB.st n0).st o0
    replace h7:=(h7.st n0).st o0
    replace b2:=(b2.st n0).st o0
    replace c2:=(c2.st n0).st o0
    replace w1:=(w1.st n0).st o0
    replace p1:=(p1.st n0).st o0
    replace i1:=(i1.st n0).st o0
    replace k0:=(k0.st n0).st o0
    replace m0:=(m0.st n0).st o0
    replace h0:=(h0.st n0).st o0
    replace f1:=(f1.st n0).st o0
    replace e0:=(e0.st n0).st o0
    replace j0:=(j0.st n0).st o0
    replace i0:=(i0.st n0).st o0
    replace h1:=(h1.st n0).st o0
    rintro pT qT ⟨rT,uB,rfl,e6,sT,hB,p1,h7,b2,c2,w1,i1,f1,k0,m0,h0,e0,j0,i0,h1,f7⟩
    replace j5:=AR j5
    obtain rfl:=sm j5
    exact show Exists _ from ⟨_,(uB.1,uB.2),rfl,⟨(Ar e6 _ _ rfl),(Ar e6 _ _ rfl),(Ar e6 _ _ rfl),(Ar e6 _ _ rfl),(Ar e6 _ _ rfl),(Ar e6 _ _ rfl),(Ar e6 _ _ rfl),trivial⟩,_,hB,p1,h7,b2,c2,w1,i1,f1,k0,m0,h0,e0,j0,i0,h1,f7⟩
   replace hB:=(((((((hB.st l1).st e1).st d2).st y0).st a1).st b1).st c1).st d1
   replace h7:=(((((((h7.st l1).st e1).st d2).st y0).st a1).st b1).st c1).st d1
   replace b2:=(((((((b2.st l1).st e1).st d2).st y0).st a1).st b1).st c1).st d1
   replace c2:=(((((((c2.st l1).st e1).st d2).st y0).st a1).st b1).st c1).st d1
   replace i1:=(((((((i1.st l1).st e1).st d2).st y0).st a1).st b1).st c1).st d1
   replace k0:=(((((((k0.st l1).st e1).st d2).st y0).st a1).st b1).st c1).st d1
   replace m0:=(((((((m0.st l1).st e1).st d2).st y0).st a1).st b1).st c1).st d1
   replace h0:=(((((((h0.st l1).st e1).st d2).st y0).st a1).st b1).st c1).st d1
   replace f1:=((((f1.st y0).st a1).st b1).st c1).st d1
   replace j0:=(((((((j0.st l1).st e1).st d2).st y0).st a1).st b1).st c1).st d1
   replace i0:=(((((((i0.st l1).st e1).st d2).st y0).st a1).st b1).st c1).st d1
   replace h1:=((((((h1.st e1).st d2).st y0).st a1).st b1).st c1).st d1
   rintro tT uT ⟨vT,wT,rfl,cE,vB,hB,p1,h7,b2,c2,w1,i1,f1,k0,m0,h0,e0,j0,i0,h1,h6⟩
   replace a3:=AR a3
   refine AH _ cE ?_
   refine Br [(8,[14])] vB ?_
   refine AP (fuel:=5) [] [(0,true),(1,true),(2,true),(3,true),(4,true),(5,true)] rfl ?_
   refine AT rfl rfl (AV (hc:=bCell e0 3 rfl) rfl rfl ?_)
   refine CJ (hl:=rfl) (hb:=fun w' ⟨O',hq⟩=>((f1.st hq (by decide)).1).cellsAt) rfl rfl ?_
   refine AT rfl rfl (AV (hc:=bCell p1 3 rfl) rfl rfl ?_)
   refine JQ rfl rfl ?_
   have rI:x0.jobs.length≤9223372036854775807:=Nat.le_trans w1.len.2.1 w1.len.2.2
   have sI:inI64 (x0.jobs.length:Int):=rngNat rI
   refine AC ?_
   refine AD (i:=6) rfl ?_
   obtain ⟨k7,tI,a3⟩:=bs a3
   refine Cc (O:=vB) (Ih Fr.lt (Vb.ofAgg (cs:=[(.int .i64 c0.jobs),(.slice j2 c0.write.length k2),(.slice l2 c0.read.length m2),(.int .i64 c0.phase),(.slice e2 c0.vars.length f2)]) (x:=c0) rfl ⟨_,_,_,rfl,k0,m0,h0,z6,m6⟩) sI tI) rfl fun xT yT uI t6 vI=>?_
   obtain ⟨zR,rfl,zT,aU,rfl,wB,xB,wI,xI⟩:=vI
   obtain ⟨yI,zI,rfl⟩:=wB.form
   obtain ⟨aJ,bJ,rfl⟩:=xB.form
   have hZ:=lZ t6
   refine AN [(8,[14])] hZ ?_
   refine AD (i:=7) rfl ?_
   refine AQ 23 uI (xs:=([k7]:List Opr)) rfl rfl rfl ⟨(Vb.ofAgg (cs:=[(.string k7.name),(.int .i64 k7.cost),(.slice yI k7.pre.length zI),(.slice aJ k7.effs.length bJ)]) (x:=k7) rfl ⟨_,_,rfl,wB,xB,wI,xI⟩),trivial⟩ fun bU cU dU u6 cJ=>?_
   have hZ:=lZ u6
   refine AN [(8,[14])] hZ ?_
   refine AD (i:=8) rfl ?_
   obtain ⟨dJ,cA,a3⟩:=bs a3
   obtain ⟨cA,eJ,fJ⟩:=AI cA
   replace h6:=(h6.st t6).st u6
   refine AZ rfl h6 (cJ.rd) rfl rfl eJ fJ fun yB zB eU gJ i7 aC=>?_
   rw [← cA] at aC ⊢
   have hZ:=i7.lst [14] (fun _ h=>by cases h;decide)
   refine AN [] hZ ?_
   refine AP (fuel:=1) [] [(9,true)] rfl ?_
   refine AT rfl rfl (AC ?_)
   refine AD (i:=10) rfl ?_
   replace e0:=((e0.st t6).st u6).st i7
   refine Az e0 rfl rfl rfl (AJ) (allOne) fun hJ l7 e0=>?_
   replace e0:Lc 7 hJ gJ n1 31 [(.slice q1 c0.vars.length r1),(.slice s1 z2.length t1),(.slice p5 y2.length q5),(.slice yB dJ.length zB)]:=e0
   refine BF ?_
   refine Bv ?_
   obtain rfl:=sm a3
   exact ⟨(yB,zB),_,⟨rfl,rfl,trivial⟩,(((hB.st t6).st u6).st i7).st l7,(((i1.st t6).st u6).st i7).st l7,e0,(((j0.st t6).st u6).st i7).st l7,(((i0.st t6).st u6).st i7).st l7,(((h1.st t6).st u6).st i7).st l7,aC.st l7⟩
  replace a3:=im a3 vD
  refine o_z ?_
  refine Ae rfl (AO ?_)
  obtain rfl:=sm a3
  exact ⟨(xA.2.1,xA.2.2),_,⟨rfl,rfl,trivial⟩,(hB.st l1).st e1,(i1.st l1).st e1,e0,(j0.st l1).st e1,(i0.st l1).st e1,h1.st e1,(o2.st l1).st e1⟩
 replace hB:=(hB.st l1).st e1
 replace i1:=(i1.st l1).st e1
 replace j0:=(j0.st l1).st e1
 replace i0:=(i0.st l1).st e1
 replace h1:=h1.st e1
 rintro fU iJ ⟨n6,gU,dE,hB,i1,e0,j0,i0,h1,u7⟩
 refine AH _ dE ?_
 refine Ab (Ab (Aa (Bd (hl:=rfl) (hc:=(e0.1).cellsAt) rfl ?_)))
 obtain ⟨hU,w6,i0⟩:=i0.freeze
 replace h1:=h1.st w6
 obtain ⟨iU,x6,h1⟩:=h1.freeze
 replace u7:=(u7.st w6).st x6
 obtain ⟨bC,y6,u7⟩:=u7.freeze
 obtain ⟨jU,jJ,hm⟩:=bs hm
 replace j0:=((j0.st w6).st x6).st y6
 replace i0:=(i0.st x6).st y6
 replace h1:=h1.st y6
 refine AM (O:=bC) (Nz (fun _ h=>h) (Vb.mono (F:=Fr 0 iJ bC) (Vb.ofAgg (cs:=[(.slice q1 c0.vars.length r1),(.slice s1 z2.length t1),(.slice p5 y2.length q5),(.slice n6.1 o7.length n6.2)]) (x:=(⟨c0.vars,(cpyL z2 x0.init),y2,o7⟩:Tsk)) rfl ⟨_,_,_,_,rfl,j0,i0,h1,u7⟩) Fr.lt) jJ) rfl fun kU lU w8 i6 kJ=>?_
 obtain ⟨rfl,lJ⟩:=kJ.err
 refine Am rfl (o_z ?_)
 refine Ab (Aa (Ak rfl (Jj rfl (fun dA=>?_) fun dA=>?_)))
 ·
  replace hm:=ip hm dA
  refine o_z ?_
  refine Ah rfl (Ab (Aa (Cl rfl rfl ?_)))
  refine Ak rfl ?_
  replace i1:=(((i1.st w6).st x6).st y6).st i6
  refine Az i1 rfl rfl rfl (AJ) (allOne) fun cC mJ i1=>?_
  replace i1:Lc 3 cC w8 l6 31 [(.slice none 0 0),(.slice none 0 0),(.slice none 0 0),(.slice none 0 0)]:=i1
  refine Am rfl (o_z ?_)
  refine AF ?_
  obtain rfl:=sm hm
  replace hB:=((((hB.st w6).st x6).st y6).st i6).st mJ
  exact ret2 rfl (Er (cs:=[(.slice none 0 0),(.slice none 0 0),(.slice none 0 0),(.slice none 0 0)]) rfl rfl i1.1.cellsAt) (AA rfl) ⟨hB.ext,_,_,rfl,(Vb.mono (F:=Fr 0 cC w8) (Vb.ofAgg (cs:=[(.slice none 0 0),(.slice none 0 0),(.slice none 0 0),(.slice none 0 0)]) (x:=(⟨([]:List Int),([]:List Int),([]:List Fct),([]:List Opr)⟩:Tsk)) rfl ⟨_,_,_,_,rfl,(Vb.nil _ _),(Vb.nil _ _),(Vb.nil _ _),(Vb.nil _ _)⟩) hB.out),(vErr (h:=lJ))⟩
 replace hm:=im hm dA
 refine o_z ?_
 refine Ae rfl (AO (Ab (Aa ?_)))
 replace e0:=(((e0.st w6).st x6).st y6).st i6
 refine Bd (hl:=rfl) (hc:=(e0.1).cellsAt) rfl ?_
 replace i1:=(((i1.st w6).st x6).st y6).st i6
 refine Az i1 rfl rfl rfl (AJ) (allOne) fun dC v7 i1=>?_
 replace i1:Lc 3 dC w8 l6 31 [(.slice q1 c0.vars.length r1),(.slice s1 z2.length t1),(.slice p5 y2.length q5),(.slice n6.1 o7.length n6.2)]:=i1
 refine Am rfl (o_z ?_)
 refine AF ?_
 obtain rfl:=sm hm
 replace hB:=((((hB.st w6).st x6).st y6).st i6).st v7
 replace j0:=(j0.st i6).st v7
 replace i0:=(i0.st i6).st v7
 replace h1:=(h1.st i6).st v7
 replace u7:=(u7.st i6).st v7
 exact ret2 rfl (Er (cs:=[(.slice q1 c0.vars.length r1),(.slice s1 z2.length t1),(.slice p5 y2.length q5),(.slice n6.1 o7.length n6.2)]) rfl rfl i1.1.cellsAt) (AA rfl) ⟨hB.ext,_,_,rfl,(Vb.mono (F:=Fr 0 dC w8) (Vb.ofAgg (cs:=[(.slice q1 c0.vars.length r1),(.slice s1 z2.length t1),(.slice p5 y2.length q5),(.slice n6.1 o7.length n6.2)]) (x:=(⟨c0.vars,(cpyL z2 x0.init),y2,o7⟩:Tsk)) rfl ⟨_,_,_,_,rfl,j0,i0,h1,u7⟩) hB.out),(vErr (h:=(iI64 0)))⟩
end
section
open Go Go.RowKit
def lift1 (n:Nat) (Q:Post) (e:Exit) (a:Act) (w:World):Prop:=noPanic e∧∃ l,Ok n a l∧Q e l w
def ewp1 (P:Program) (n:Nat) (c:Code) (Q:Post) (l:Env) (w:World):Prop:=∀ a,Ok n a l→c.wp P (lift1 n Q) a w
def owp1 (P:Program) (n:Nat) (ops:Array Oper) (Q:Post) (rest:List Oper) (l:Env) (w:World):Prop:=∀ a,Ok n a l→wpList P ops (lift1 n Q) rest a w
section
variable {P : Program} {n : Nat} {Q : Post} {l : Env} {w : World}
theorem Em {x y:Code} (h:ewp1 P n x (thn (ewp1 P n y Q) Q) l w):ewp1 P n (.seq x y) Q l w:=fun a ha =>
  wp_seq (Code.wp_mono (fun e a w hl=>by
    obtain ⟨hn,l',ho,hq⟩:=hl
    cases e with
    | normal=>exact hq a ho
    | panic c=>exact hn.elim
    | outgrown=>exact hn.elim
    | exit i=>exact ⟨trivial,l',ho,hq⟩
    | goto i=>exact ⟨trivial,l',ho,hq⟩
    | ret=>exact ⟨trivial,l',ho,hq⟩) (h a ha))
theorem NE (h:Q .normal l w):ewp1 P n .skip Q l w:=fun _ ha=>wp_skip ⟨trivial,l,ha,h⟩
theorem Qh {i:Nat} (h:Q (.exit i) l w):ewp1 P n (.exit i) Q l w:=fun _ ha=>wp_exit ⟨trivial,l,ha,h⟩
theorem Ml (h:Q .ret l w):ewp1 P n .ret Q l w:=fun _ ha=>wp_ret ⟨trivial,l,ha,h⟩
theorem NF {c:Operand} {x y:Code} (hc:opv l c=some (.bool true)) (h:ewp1 P n x Q l w):ewp1 P n (.cond c x y) Q l w:=fun a ha=>wp_cond_true (ha.eval hc) (h a ha)
theorem MG {c:Operand} {x y:Code} (hc:opv l c=some (.bool false)) (h:ewp1 P n y Q l w):ewp1 P n (.cond c x y) Q l w:=fun a ha=>wp_cond_false (ha.eval hc) (h a ha)
theorem MH {id:Nat} {c:Code} (h:ewp1 P n c (inBlk id Q) l w):ewp1 P n (.block id c) Q l w:=fun a ha =>
  wp_block (Code.wp_mono (fun e a w hl=>by
    obtain ⟨hn,l',ho,hq⟩:=hl
    cases e with
    | exit i =>
      simp only [Exit.inBlock]
      simp only [inBlk] at hq
      by_cases hi:i=id
      · subst hi
        have hb:Nat.beq i i=true:=Nat.beq_refl i
        rw [hb] at hq
        rw [if_pos rfl]
        exact ⟨trivial,l',ho,hq⟩
      · have hb:Nat.beq i id=false:=by
          cases hx:Nat.beq i id
          · rfl
          · exact absurd (Nat.eq_of_beq_eq_true hx) hi
        rw [hb] at hq
        rw [if_neg hi]
        exact ⟨trivial,l',ho,hq⟩
    | panic c=>exact hn.elim
    | outgrown=>exact hn.elim
    | normal=>exact ⟨trivial,l',ho,hq⟩
    | goto i=>exact ⟨trivial,l',ho,hq⟩
    | ret=>exact ⟨trivial,l',ho,hq⟩) (h a ha))
theorem DJ {id:Nat} {L:List Oper} (h:owp1 P n L.toArray Q L l w):ewp1 P n (.region id L.toArray false) Q l w:=fun a ha=>wp_region_lit (h a ha)
theorem Qi {c:Code} (E:Nat→Env) (I:Nat→Prop) (N k₀:Nat) (hs:subs l (E k₀)) (h₀:I k₀)
    (round:∀ k,I k→k≤N∧ewp1 P n c (thn (fun l' w'=>w'=w∧subs l' (E (k + 1))∧I (k + 1)) Q) (E k) w):ewp1 P n (.loop c) Q l w:=by
  intro a ha
  have hex:∀ a' w',(∃ k,w'=w∧Ok n a' (E k)∧I k)→∃ m,(∃ k,w'=w∧Ok n a' (E k)∧I k∧N - k=m)∧∀ k,Ok n a' (E k)→I k→m≤N - k:=by
    intro a' w' ⟨k,h1,h2,h3⟩
    have:∀ (q k:Nat),N - k≤q→Ok n a' (E k)→I k→∃ m,(∃ k,w'=w∧Ok n a' (E k)∧I k∧N - k=m)∧∀ k,Ok n a' (E k)→I k→m≤N - k:=by
      intro q
      induction q with
      | zero=>intro k hq ho hI;exact ⟨N - k,⟨k,h1,ho,hI,rfl⟩,fun _ _ _=>by omega⟩
      | succ q ih =>
        intro k hq ho hI
        by_cases hx:∃ k',Ok n a' (E k')∧I k'∧N - k'≤q
        · obtain ⟨k',g1,g2,g3⟩:=hx
          exact ih k' g3 g1 g2
        · refine ⟨N - k,⟨k,h1,ho,hI,rfl⟩,fun k' g1 g2=>?_⟩
          rcases Nat.lt_or_ge (N - k') (N - k) with h|h
          · exact absurd ⟨k',g1,g2,by omega⟩ hx
          · exact h
    exact this _ k (Nat.le_refl _) h2 h3
  refine wp_loop (fun a' w'=>∃ k,w'=w∧Ok n a' (E k)∧I k) (fun a' w'=>Classical.epsilon fun m=>(∃ k,w'=w∧Ok n a' (E k)∧I k∧N - k=m)∧∀ k,Ok n a' (E k)→I k→m≤N - k) ⟨k₀,rfl,ha.sub hs,h₀⟩ ?_
  intro a' w' hinv
  obtain ⟨⟨k,rfl,ho,hI,hk⟩,_⟩:=Classical.epsilon_spec (hex a' w' hinv)
  obtain ⟨hkN,hr⟩:=round k hI
  refine Code.wp_mono (fun e a'' w'' hl=>?_) (hr a' ho)
  obtain ⟨hn,l',ho',hq⟩:=hl
  cases e with
  | normal =>
    obtain ⟨rfl,hs₂,hI₂⟩:=hq
    have ho₂:=ho'.sub hs₂
    refine ⟨⟨k + 1,rfl,ho₂,hI₂⟩,?_⟩
    obtain ⟨_,hmin⟩:=Classical.epsilon_spec (hex a'' w'' ⟨k + 1,rfl,ho₂,hI₂⟩)
    have h1:=hmin (k + 1) ho₂ hI₂
    have h2:=(round (k + 1) hI₂).1
    exact Nat.lt_of_le_of_lt h1 (Nat.lt_of_lt_of_eq (by omega) hk)
  | panic c=>exact hn.elim
  | outgrown=>exact hn.elim
  | exit i=>exact ⟨trivial,l',ho',hq⟩
  | goto i=>exact ⟨trivial,l',ho',hq⟩
  | ret=>exact ⟨trivial,l',ho',hq⟩
variable {ops : Array Oper} {rest : List Oper} {d : Tmp} {ty : TypeId} {pos : String} {aft : Array Edge}
theorem Ht {K:Env→World→Prop} [h:NilQ Q K] (hk:K l w):owp1 P n ops Q [] l w:=fun _ ha=>wpList_nil ⟨trivial,l,ha,h.of l w hk⟩
theorem Dr {op:Op} {v:Value} (he:Ev P ⟨some d,op,ty,pos,aft,none⟩ l w v)  (h:owp1 P n ops Q rest ((d,v) :: l) w) (hd:Nat.blt d n=true:=by exact rfl):owp1 P n ops Q (⟨some d,op,ty,pos,aft,none⟩ :: rest) l w :=
  fun a ha=>wpList_plain rfl fun K hK=>by
    unfold Oper.wp
    have:=he n a w.drawn ha
    rw [GM] at this
    rw [this]
    exact hK _ _ (h _ (ha.put hd v))
theorem Lp {f:FuncId} [hf:Callable P f] {xs:List Operand} {vs:List Value} {ts:Array TypeId} {v:Value} (hx:opvs l xs=some vs) (hd:Nat.blt d n=true) (hc:Calls P f vs.toArray w fun e w'=>e=.returned v∧w'=w)
    (h:owp1 P n ops Q rest ((d,v) :: l) w):owp1 P n ops Q (⟨some d,.call { callee:=.value (.func f),args:=xs.toArray,argTypes:=ts },ty,pos,aft,none⟩ :: rest) l w :=
  fun a ha=>wpList_plain rfl fun K hK=>by
    obtain ⟨fn,h1,h2,h3⟩:=hf.eq
    have h2':¬ fn.body=none:=fun e=>by rw [e] at h2;simp at h2
    have h3' : ¬ fn.name = "runtime.NumGoroutine" := fun e => by rw [e] at h3; simp at h3
    unfold Oper.wp
    have hev:a.eval (.func f)=.func (.func f) #[] #[]:=rfl
    have:(execOp a.eval ⟨some d,.call { callee:=.value (.func f),args:=xs.toArray,argTypes:=ts },ty,pos,aft,none⟩).run P w=.ok (.enter f vs.toArray) w:=by
      simp [execOp,resolve,hev,Deferred.ofValue,invoke,callFunc,h1,h2',h3',ha.evals hx]
    rw [this]
    exact hc.mono fun _ _ ⟨he,hw⟩=>by subst he;subst hw;exact hK _ _ (h _ (ha.put hd v))
end
theorem PD {P:Program} {f:FuncId} {fn:Func} {c:Code} {vs:List Value} {w:World} {v:Value} {n:Nat} (hf:P.funcs[f]?=some fn) (hb:fn.body=some c) (hn:fn.ntmps=n) (hl:Nat.ble vs.length n=true)
    (h:ewp1 P n c (retPost P fn fun u w'=>u=v∧w'=w) (ent 0 vs) w):Calls P f vs.toArray w fun e w'=>e=.returned v∧w'=w:=by
  have hl':vs.length≤n:=by simpa using hl
  refine calls_of_wp hf hb (Code.wp_mono (fun e a w' hq=>?_) (h _ (?_:Ok n { tmps:=vs.toArray ++ Array.replicate (fn.ntmps - vs.toArray.size) undef,defers:=[] } (ent 0 vs))))
  · obtain ⟨hp,l,ho,q⟩:=hq
    cases e with
    | normal=>obtain ⟨v',hr,hv,hw⟩:=q;subst hv hw;have:=hr n a w'.drawn ho;rw [GM] at this;exact ⟨ho.defers,v',this,rfl,rfl⟩
    | ret=>obtain ⟨v',hr,hv,hw⟩:=q;subst hv hw;have:=hr n a w'.drawn ho;rw [GM] at this;exact ⟨ho.defers,v',this,rfl,rfl⟩
    | panic c=>exact hp.elim
    | outgrown=>exact hp.elim
    | exit i=>exact q.elim
    | goto i=>exact q.elim
  · refine ⟨by simp [hn];omega,rfl,fun i v hv=>?_⟩
    obtain ⟨_,h2⟩:=Lz vs 0 i v hv
    simp only [Nat.sub_zero] at h2
    have hi:i < vs.length:=(List.getElem?_eq_some_iff.1 h2).1
    simp only [Array.getD_eq_getD_getElem?]
    rw [Array.getElem?_append_left (by simpa using hi)]
    simp [h2]
end
section
open Go Go.RowKit
section
variable {P : Program} {n : Nat} {Q : Post} {ops : Array Oper} {rest : List Oper} {l : Env} {w : World} {d : Tmp} {ty : TypeId} {pos : String} {aft : Array Edge} {S : World → Prop}
theorem Ks (h:Q .normal l w):owp1 P n ops Q [] l w:=fun _ ha=>wpList_nil ⟨trivial,l,ha,h⟩
theorem Oq {op:Op} {v:Value} {w':World} (he:∀ a,Ok n a l→(execOp a.eval ⟨some d,op,ty,pos,aft,none⟩).run P w=.ok (.value v) w') (hd:Nat.blt d n=true) (h:owp1 P n ops Q rest ((d,v) :: l) w'):owp1 P n ops Q (⟨some d,op,ty,pos,aft,none⟩ :: rest) l w :=
  fun a ha=>wpList_plain rfl fun K hK=>by
    unfold Oper.wp
    rw [he a ha]
    exact hK _ _ (h _ (ha.put hd v))
theorem Ot {t:TypeId} {x:Operand} {v:Value} (hx:opv l x=some v) (hd:Nat.blt d n=true) (h:owp1 P n ops Q rest ((d,.pointer (some ⟨w.heap.size,0,none⟩)) :: l) (w.alloc (.cells v.cells t))):owp1 P n ops Q (⟨some d,.box t x,ty,pos,aft,none⟩ :: rest) l w :=
  Oq (fun a ha=>by simp [execOp,Instr.box,ha.eval hx,newVar,Fo]) hd h
theorem OW {t e:TypeId} [hs:TSlice P t e] {z:Value} {size bytes len:Nat} [TInfo P e z size bytes] {ps:List (Nat×Operand)} {vs:List Value} (hk:idxOk 0 ps=true) (hx:opvs l (ps.map (·.2))=some vs) (hlen:vs.length=len) (hv:∀ v∈vs,v.cells.toList.length=size) (hz:len * size≤16777216) (hd:Nat.blt d n=true)
    (h:owp1 P n ops Q rest ((d,.slice (some ⟨w.heap.size,0,none⟩) len len) :: l) (w.alloc (.cells (vs.flatMap fun v=>v.cells.toList).toArray e))):owp1 P n ops Q (⟨some d,.buildSlice t len ps.toArray,ty,pos,aft,none⟩ :: rest) l w :=
  Oq (fun a ha=>by
    have hps:(ps.map fun p=>(p.1,a.eval p.2))=idxs 0 vs:=by
      rw [KX ps 0 hk,KY,ha.evals hx]
    have hv':∀ v∈vs,v.cells.size=size:=fun v hm=>by simpa using hv v hm
    have h24:¬ 16777216 < len * size:=by omega
    have hf:∀ acc:Array Value,acc.size=len * size→Instr.fill (fun i=>some (i * size,size)) acc (idxs 0 vs)=some (vs.flatMap fun v=>v.cells.toList).toArray:=fun acc hacc=>by
      obtain ⟨out,ho1,ho2⟩:=KZ (size:=size) vs 0 acc [] acc.toList (by simp) (by simp) (by simp [hacc,hlen]) hv'
      rw [ho1]
      congr 1
      apply Array.toList_inj.1
      rw [ho2];simp
    simp only [execOp,Instr.buildSlice]
    by_cases h0:len * size=0
    · simp [run_underlying hs.eq,Dj (P:=P) (t:=e),h0]
      rw [hps,hf _ (by simp [h0])]
      simp [Fo]
    · simp [run_underlying hs.eq,Dj (P:=P) (t:=e),HZ (P:=P) (t:=e),h0,h24]
      rw [hps,hf _ (by simp)]
      simp [Fo]) hd h
def hwp1 (P:Program) (n:Nat) (ops:Array Oper) (Q:Post) (S:World→Prop) (ord:List (Nat×Bool)) (l:Env) (w:World):Prop:=∀ a,Ok n a l→wpOrd P ops (lift1 n Q) S ord a w
theorem QY (h:Q .normal l w):hwp1 P n ops Q S [] l w:=fun _ ha=>⟨trivial,l,ha,h⟩
theorem HN {i:Nat} {op:Op} {r:List (Nat×Bool)} {v:Value} (hi:ops[i]?=some ⟨some d,op,ty,pos,aft,none⟩) (he:∀ w',S w'→Ev P ⟨some d,op,ty,pos,aft,none⟩ l w' v)  (h:hwp1 P n ops Q S r ((d,v) :: l) w) (hn:Nat.blt d n=true:=by exact rfl):hwp1 P n ops Q S ((i,true) :: r) l w:=fun a ha =>
  ⟨_,v,hi,.inl ⟨by simp [Region.wanted],fun w' hS=>by have:=he w' hS n a w'.drawn ha;rwa [GM] at this⟩,h _ (ha.put hn v)⟩
def loud1 (P:Program) (n:Nat) (ops:Array Oper) (Q:Post) (S:World→Prop) (r:List (Nat×Bool)):Post
  | .normal,l,w=>(r≠[]→S w)∧hwp1 P n ops Q S r l w
  | _,_,_=>False
theorem Jn {i:Nat} {o:Oper} {r:List (Nat×Bool)} (hi:ops[i]?=some o) (h:owp1 P n ops (loud1 P n ops Q S r) [o] l w):hwp1 P n ops Q S ((i,false) :: r) l w:=fun a ha=>by
  have h1:=h a ha
  show wpOp P ops (lift1 n Q) i _ a w
  unfold wpList at h1
  unfold wpOp
  simp only [hi]
  have conv:∀ a' w',lift1 n (loud1 P n ops Q S r) .normal a' w'→(r≠[]→S w')∧wpOrd P ops (lift1 n Q) S r a' w':=by
    rintro a' w' ⟨_,l',ho,hS,hh⟩
    exact ⟨hS,hh a' ho⟩
  have nope:∀ e' a' w',lift1 n (loud1 P n ops Q S r) e' a' w'→e'=.normal:=by
    rintro e' a' w' ⟨hn,l',ho,hh⟩
    cases e'<;>first|rfl|exact hh.elim
  by_cases hw:Region.wanted o (yielded ops a.tmps)=true
  · rw [if_pos hw] at h1
    rw [if_pos hw]
    rcases h1 with h1|⟨h1,a0,w0,h2⟩
    · refine .inl ?_
      unfold Oper.wp at *
      generalize (execOp a.eval o).run P w=res at *
      cases res with
      | ok nx w' =>
        cases nx<;>simp only [Oper.upon] at h1 ⊢ <;>
          first
            | exact conv _ _ h1
            | exact Calls.mono h1 (fun en w'' he=>by
                cases en with
                | returned v=>exact conv _ _ he
                | panicked c=>exact absurd (nope _ _ _ he) (by simp)
                | outgrown=>obtain ⟨a0,w0,hq⟩:=he;exact absurd (nope _ _ _ hq) (by simp))
            | exact Rows.mono h1 (fun _ _ he=>conv _ _ he)
            | exact h1.elim
      | halt x w'=>cases x<;>simp only [Oper.upon] at h1 ⊢<;>first|exact h1.elim|exact absurd (nope _ _ _ h1) (by simp)
    · exact absurd (nope _ _ _ h2) (by simp)
  · rw [if_neg hw] at h1
    rw [if_neg hw]
    exact conv _ _ h1
theorem Qj [hm:Mixed P] {id:Nat} {L:List Oper} (S:World→Prop) (ord:List (Nat×Bool)) (hs:Region.noSelect L.toArray=true) (hl:ord.length=L.toArray.size) (hc:ordOk L.toArray (Array.replicate L.toArray.size false) ord=true) (hS:S (dr w (w.drawn + 1)))
    (h:hwp1 P n L.toArray Q S ord l (dr w (w.drawn + 1))):ewp1 P n (.region id L.toArray true) Q l w:=fun a ha =>
  wp_region_any hm.eq (by
    have:=Gs (P:=P) hs (Q:=lift1 n Q) (S:=S) (fun c a w hq=>hq.1) ord (Array.replicate L.toArray.size false) a (dr w (w.drawn + 1)) (fun m om hm=>by
      simp only [Array.getD_eq_getD_getElem?,Array.getElem?_replicate] at hm
      split at hm<;>simp at hm) hc (fun _=>hS) (h a ha)
    rw [hl] at this
    exact Jd _ _ _ _ this)
end
theorem OX {P:Program} {f:FuncId} {fn:Func} {c:Code} {vs:List Value} {w:World} {R:Value→World→Prop} {n:Nat} (hf:P.funcs[f]?=some fn) (hb:fn.body=some c) (hn:fn.ntmps=n) (hl:Nat.ble vs.length n=true)
    (h:ewp1 P n c (retPost P fn R) (ent 0 vs) w):Calls P f vs.toArray w fun e w'=>∃ v,e=.returned v∧R v w':=by
  have hl':vs.length≤n:=by simpa using hl
  refine calls_of_wp hf hb (Code.wp_mono (fun e a w' hq=>?_) (h _ (?_:Ok n { tmps:=vs.toArray ++ Array.replicate (fn.ntmps - vs.toArray.size) undef,defers:=[] } (ent 0 vs))))
  · obtain ⟨hp,l,ho,q⟩:=hq
    cases e with
    | normal=>obtain ⟨v',hr,hv⟩:=q;have:=hr n a w'.drawn ho;rw [GM] at this;exact ⟨ho.defers,v',this,v',rfl,hv⟩
    | ret=>obtain ⟨v',hr,hv⟩:=q;have:=hr n a w'.drawn ho;rw [GM] at this;exact ⟨ho.defers,v',this,v',rfl,hv⟩
    | panic c=>exact hp.elim
    | outgrown=>exact hp.elim
    | exit i=>exact q.elim
    | goto i=>exact q.elim
  · refine ⟨by simp [hn];omega,rfl,fun i v hv=>?_⟩
    obtain ⟨_,h2⟩:=Lz vs 0 i v hv
    simp only [Nat.sub_zero] at h2
    have hi:i < vs.length:=(List.getElem?_eq_some_iff.1 h2).1
    simp only [Array.getD_eq_getD_getElem?]
    rw [Array.getElem?_append_left (by simpa using hi)]
    simp [h2]
end
section
open Go Go.RowKit Go.Lib Go.Sort
def orL:List Int→Int
  | []=>0
  | x :: xs=>if x≠0 then x else orL xs
theorem Qk {xs:List Int} {k:Nat} {x:Int} (h:xs[k]?=some x):orL (xs.drop k)=if x≠0 then x else orL (xs.drop (k + 1)):=by
  have:xs.drop k=x :: xs.drop (k + 1):=by
    rw [List.drop_eq_getElem_cons (BR h)]
    rw [List.getElem?_eq_getElem (BR h)] at h
    rw [Option.some.inj h]
  rw [this];rfl
theorem Ql {W:World} {F:Nat→Prop} {v:Value} {xs:List Int} (h1:Vb W F v xs):Calls prog 114 [v].toArray W fun e w'=>e=.returned (.int .i64 (orL xs))∧w'=W:=by
  obtain ⟨A1,c1,rfl⟩:=h1.form
  have l1:xs.length≤9223372036854775807:=Nat.le_trans h1.len.2.1 h1.len.2.2
  refine PD func114 rfl ntmps114 rfl ?_
  refine Em (DJ (Dr (EF rfl) (Ht ?_)))
  refine Em (DJ (Dr (EF rfl) (Ht ?_)))
  refine Em (Em (DJ (Dr (EV rfl) (Dr (Lv rfl) (Dr (EV rfl) (Ht ?_))))))
  refine MH (Qi (fun k=>[(3,.int .i64 0),(6,.slice A1 xs.length c1),(7,.int .i64 (xs.length:Int)),(8,.int .i64 (k:Int))]) (fun k=>k≤xs.length∧orL xs=orL (xs.drop k)) xs.length 0 ⟨rfl,rfl,rfl,rfl,trivial⟩ ⟨Nat.zero_le _,rfl⟩ fun k hk=>⟨hk.1,?_⟩)
  obtain ⟨k1,k3⟩:=hk
  refine Em (DJ (Dr (CG rfl rfl) (Ht ?_)))
  refine Em ?_
  by_cases hlt:(k:Int) < (xs.length:Int)
  · rw [decide_eq_true hlt]
    refine NF rfl (NE ?_)
    obtain ⟨x,hx⟩:∃ x,xs[k]?=some x:=⟨xs[k],List.getElem?_eq_getElem (by omega)⟩
    obtain ⟨b1,o1,ce1,hA1,hl1,hd1,rfl,r1⟩:=h1.elem' hx
    have hst:=Qk hx
    refine Em (MH ?_)
    refine Em (DJ (Dr (LI rfl rfl hA1 rfl hl1) (Dr (EO rfl (cat0 hd1)) (Dr (EF rfl) (Ht ?_)))))
    refine Em (DJ (Dr (EV rfl) (Dr (EV rfl) (Dr (FP rfl rfl) (Ht ?_)))))
    by_cases hc:x≠0
    · rw [decide_eq_true hc]
      rw [if_pos hc] at hst
      refine NF rfl (Em (DJ (Dr (EV rfl) (Dr (EF rfl) (Ht ?_)))))
      refine Ml ?_
      exact ⟨_,res1 rfl (AA rfl),by rw [k3,hst],rfl⟩
    · rw [decide_eq_false hc]
      rw [if_neg hc] at hst
      refine MG rfl (NE ?_)
      refine DJ (Dr (Nl rfl rfl (by omega)) (Dr (EV rfl) (Ht ?_)))
      exact ⟨rfl,⟨rfl,rfl,rfl,rfl,trivial⟩,by omega,by rw [k3,hst]⟩
  · rw [decide_eq_false hlt]
    refine MG rfl (Qh ?_)
    refine Em (DJ (Dr (EV rfl) (Dr (EF rfl) (Ht ?_))))
    have hkx:k=xs.length:=by omega
    refine Ml ?_
    exact ⟨_,res1 rfl (AA rfl),by rw [k3,hkx,List.drop_length];rfl,rfl⟩
def encU (x:Lch):List Value:=[.int .i64 x.tm,.int .i64 x.job]
def cfU (x y:Lch):Int:=orL [Lib.compareInt x.tm y.tm,Lib.compareInt x.job y.job]
theorem Ou (a b:Int):inI64 (Lib.compareInt a b):=by unfold Lib.compareInt inI64;split<;>(try split)<;>omega
theorem closureU (x y:Lch) (W:World):Calls prog 113 #[.agg #[.int .i64 x.tm,.int .i64 x.job],.agg #[.int .i64 y.tm,.int .i64 y.job]] W fun e w'=>e=.returned (.int .i64 (cfU x y))∧∃ q os',w'=grow (W.drewN q) os':=by
  have main:=OX (P:=prog) (f:=113) (vs:=[.agg #[.int .i64 x.tm,.int .i64 x.job],.agg #[.int .i64 y.tm,.int .i64 y.job]]) (w:=W) (R:=fun v w'=>v=.int .i64 (cfU x y)∧∃ q os',w'=grow (W.drewN q) os') func113 rfl ntmps113 rfl ?_
  · exact main.mono fun e w' ⟨v,he,hv,hg⟩=>⟨by rw [he,hv],hg⟩
  refine Em (DJ (Ot rfl rfl (Ot rfl rfl (Dr (EF rfl) (Ht ?_)))))
  have hB1:Blk ((W.alloc (.cells (encU x).toArray 52)).alloc (.cells (encU y).toArray 52)) W.heap.size 52 (encU x) :=
    (New.mk' W _ (encU x)).blk.keep ((New.mk' _ _ (encU y)).ext.block _ (New.mk' W _ (encU x)).blk.lt)
  have hB2:Blk ((W.alloc (.cells (encU x).toArray 52)).alloc (.cells (encU y).toArray 52)) (W.alloc (.cells (encU x).toArray 52)).heap.size 52 (encU y):=(New.mk' _ _ (encU y)).blk
  generalize hW:(W.alloc (.cells (encU x).toArray 52)).alloc (.cells (encU y).toArray 52)=W2 at hB1 hB2
  have hW':(W.alloc (.cells (Value.agg #[.int .i64 x.tm,.int .i64 x.job]).cells 52)).alloc (.cells (Value.agg #[.int .i64 y.tm,.int .i64 y.job]).cells 52)=W2:=hW
  rw [hW']
  generalize hb1:W.heap.size=b1 at hB1
  generalize hb2:(W.alloc (.cells (encU x).toArray 52)).heap.size=b2 at hB2
  have hb2':(W.alloc (.cells (Value.agg #[.int .i64 x.tm,.int .i64 x.job]).cells 52)).heap.size=b2:=hb2
  rw [hb2']
  refine Em (Qj (fun w'=>Blk w' b1 52 (encU x)∧Blk w' b2 52 (encU y)) [(0,true),(1,true),(2,true),(3,true),(5,true),(6,true),(7,true),(8,true),(4,false),(9,false),(10,false),(11,false),(12,true)] (by kernel_rfl) rfl (by kernel_rfl) ⟨hB1,hB2⟩ ?_)
  refine HN rfl (fun _ _=>Eq rfl) ?_
  refine HN rfl (fun _ hS=>EO rfl (hS.1.cell (i:=0) rfl)) ?_
  refine HN rfl (fun _ _=>Eq rfl) ?_
  refine HN rfl (fun _ hS=>EO rfl (hS.2.cell (i:=0) rfl)) ?_
  refine HN rfl (fun _ _=>Eq rfl) ?_
  refine HN rfl (fun _ hS=>EO rfl (hS.1.cell (i:=1) rfl)) ?_
  refine HN rfl (fun _ _=>Eq rfl) ?_
  refine HN rfl (fun _ hS=>EO rfl (hS.2.cell (i:=1) rfl)) ?_
  refine Jn rfl (Lp rfl rfl (compareI x.tm y.tm _) (Ks ⟨fun _=>⟨hB1,hB2⟩,?_⟩))
  refine Jn rfl (Lp rfl rfl (compareI x.job y.job _) (Ks ⟨fun _=>⟨hB1,hB2⟩,?_⟩))
  have hN:=New.mk' (dr W2 (W2.drawn + 1)) 3 [.int .i64 (Lib.compareInt x.tm y.tm),.int .i64 (Lib.compareInt x.job y.job)]
  have hB3:=hB1.keep (hN.ext.block b1 hB1.lt)
  have hB4:=hB2.keep (hN.ext.block b2 hB2.lt)
  have hV:Vb ((dr W2 (W2.drawn + 1)).alloc (.cells [.int .i64 (Lib.compareInt x.tm y.tm),.int .i64 (Lib.compareInt x.job y.job)].toArray 3)) (fun _=>True) (.slice (some ⟨(dr W2 (W2.drawn + 1)).heap.size,0,none⟩) 2 2) [Lib.compareInt x.tm y.tm,Lib.compareInt x.job y.job] :=
    Vb.made hN ⟨[_],_,rfl,⟨rfl,Ou _ _⟩,[_],_,rfl,⟨rfl,Ou _ _⟩,rfl⟩ rfl trivial (by decide)
  refine Jn rfl (OW rfl rfl rfl (fun v hv=>by simp at hv;rcases hv with rfl|rfl<;>rfl) (by decide) rfl (Ks ⟨fun _=>⟨hB3,hB4⟩,?_⟩))
  refine Jn rfl (Lp rfl rfl (Ql hV) (Ks ⟨fun _=>⟨hB3,hB4⟩,?_⟩))
  refine HN rfl (fun _ _=>EF rfl) ?_
  refine QY ?_
  refine Ml ?_
  refine ⟨_,res1 rfl (AA rfl),rfl,1,#[.cells (encU x).toArray 52,.cells (encU y).toArray 52,.cells [.int .i64 (Lib.compareInt x.tm y.tm),.int .i64 (Lib.compareInt x.job y.job)].toArray 3],?_⟩
  subst hW
  have hd:∀ os d,dr (grow W os) d=grow (dr W d) os:=fun _ _=>rfl
  rw [alloc_eq_grow,alloc_eq_grow,alloc_eq_grow,grow_grow,hd,grow_grow]
  rfl
end
section
open Go.Shelf
def Mm:Go.Shelf.Ren:=⟨fun|6=>144|15=>139|14=>176|28=>169|29=>170|20=>201|21=>202|22=>203|23=>204|24=>205|25=>206|26=>207|27=>208|46=>216|47=>193|48=>194|49=>217|50=>218|57=>220|n=>n,fun|22=>50|24=>52|25=>179|3=>3|39=>224|0=>0|53=>258|55=>239|4=>4|46=>252|45=>251|50=>48|5=>5|9=>9|66=>280|70=>283|76=>296|77=>297|n=>n,fun|n=>n⟩
theorem LU:Go.Proofs.SlLaysF0.n6 prog Mm:={
  mixed:=by kernel_rfl
  f6:=⟨f144.name,by decide,func144.trans (congrArg some (by kernel_rfl))⟩
  f14:=⟨f176.name,by decide,func176.trans (congrArg some (by kernel_rfl))⟩
  f15:=func139.trans (congrArg some (by kernel_rfl))
  f20:=⟨f201.name,by decide,func201.trans (congrArg some (by kernel_rfl))⟩
  f21:=⟨f202.name,by decide,func202.trans (congrArg some (by kernel_rfl))⟩
  f22:=⟨f203.name,by decide,func203.trans (congrArg some (by kernel_rfl))⟩
  f23:=⟨f204.name,by decide,func204.trans (congrArg some (by kernel_rfl))⟩
  f24:=⟨f205.name,by decide,func205.trans (congrArg some (by kernel_rfl))⟩
  f25:=⟨f206.name,by decide,func206.trans (congrArg some (by kernel_rfl))⟩
  f26:=⟨f207.name,by decide,func207.trans (congrArg some (by kernel_rfl))⟩
  f27:=⟨f208.name,by decide,func208.trans (congrArg some (by kernel_rfl))⟩
  f28:=func169.trans (congrArg some (by kernel_rfl))
  f29:=func170.trans (congrArg some (by kernel_rfl))
  f46:=⟨f216.name,by decide,func216.trans (congrArg some (by kernel_rfl))⟩
  f47:=func193.trans (congrArg some (by kernel_rfl))
  f48:=func194.trans (congrArg some (by kernel_rfl))
  f49:=⟨f217.name,by decide,func217.trans (congrArg some (by kernel_rfl))⟩
  f50:=⟨f218.name,by decide,func218.trans (congrArg some (by kernel_rfl))⟩
  f57:=⟨f220.name,by decide,func220.trans (congrArg some (by kernel_rfl))⟩
  t0:=underlying0
  a0:=isAgg0
  z0:=sizeOf0
  v0:=zeroValue0
  t3:=underlying3
  a3:=isAgg3
  z3:=sizeOf3
  v3:=zeroValue3
  t4:=underlying4
  a4:=isAgg4
  z4:=sizeOf4
  v4:=zeroValue4
  t5:=underlying5
  a5:=isAgg5
  z5:=sizeOf5
  v5:=zeroValue5
  t9:=underlying9
  a9:=isAgg9
  z9:=sizeOf9
  v9:=zeroValue9
  t22:=underlying50
  a22:=isAgg50
  z22:=sizeOf50
  v22:=zeroValue50
  t25:=underlying179
  a25:=isAgg179
  z25:=sizeOf179
  v25:=zeroValue179
  t39:=underlying224
  a39:=isAgg224
  z39:=sizeOf224
  v39:=zeroValue224
  t45:=underlying251
  a45:=isAgg251
  z45:=sizeOf251
  v45:=zeroValue251
  t46:=underlying252
  a46:=isAgg252
  z46:=sizeOf252
  v46:=zeroValue252
  t50:=underlying48
  a50:=isAgg48
  z50:=sizeOf48
  v50:=zeroValue48
  t53:=underlying258
  a53:=isAgg258
  z53:=sizeOf258
  v53:=zeroValue258
  t55:=underlying239
  a55:=isAgg239
  z55:=sizeOf239
  v55:=zeroValue239
  t66:=underlying280
  a66:=isAgg280
  z66:=sizeOf280
  v66:=zeroValue280
  t70:=underlying283
  a70:=isAgg283
  z70:=sizeOf283
  v70:=zeroValue283
  t76:=underlying296
  a76:=isAgg296
  z76:=sizeOf296
  v76:=zeroValue296
  t77:=underlying297
  a77:=isAgg297
  z77:=sizeOf297
  v77:=zeroValue297 }
open Go.RowKit Go.Lib Go.Sort in
theorem Qm {α:Type} [Inhabited α] (k:Nat) (aE:∀ w,(isAgg 52).run prog w=.ok true w) (zE:∀ w,(Go.sizeOf 52).run prog w=.ok k w) (enc:α→List Value) (hk:∀ x,(enc x).length=k) (h1:∀ x,∀ v∈enc x,v.oneCell'=true) (cf:α→α→Int) (hO:SWO (ltOf cf)) (g:Nat) (cb:Array Value) (blk off cap:Nat) (d:Array α) (w:World) (eg:∀ args w,(callFunc g args).run prog w=.ok (.enter g args) w) (hcmp:CmpLays prog g cb enc k cf blk off d.size w) (hH:HoldsK enc k w blk off d) (hblk:blk < w.heap.size) (hsz:d.size < 4611686018427387904) :
    Calls prog 144 #[.slice (some ⟨blk,off,none⟩) d.size cap,.func (.func g) #[] cb] w fun e w' =>
      e=.returned (.tuple #[])∧∃ n os,w'=sortWorldK enc k w blk off n (pdq (ltOf cf) d 0 d.size (Lib.bitLen d.size) true true) os:=AnyQ.slices_SortFunc_eq LU k aE zE enc hk h1 cf hO g cb blk off cap d w eg hcmp hH hblk hsz
open Go.RowKit Go.Lib Go.Sort in
theorem OY {α:Type} [Inhabited α] (p:Option Addr) (cap:Nat) (fv:Value) (w:World) :
    Calls prog 144 #[.slice p 0 cap,fv] w fun e w'=>e=.returned (.tuple #[])∧w'=w:=AnyF.slices_SortFunc_none LU p cap fv w
end
section
open Go Go.RowKit Go.Lib Go.Sort
instance:Inhabited Lch:=⟨⟨0,0⟩⟩
def lexU (x y:Lch):Prop:=x.tm < y.tm∨(x.tm=y.tm∧x.job < y.job)
instance (x y:Lch):Decidable (lexU x y):=by unfold lexU;infer_instance
theorem cmp3 (a b:Int):(a < b∧Lib.compareInt a b=-1)∨(a=b∧Lib.compareInt a b=0)∨(b < a∧Lib.compareInt a b=1):=by
  unfold Lib.compareInt
  by_cases h:a < b
  · simp [h]
  · by_cases h2:b < a
    · simp [h,h2]
    · right;left;simp [h,h2];omega
theorem RK (a b:Int):orL [a,b] < 0↔a < 0∨(a=0∧b < 0):=by
  simp only [orL]
  by_cases h1:a=0
  · rw [if_neg (by simp [h1])]
    by_cases h2:b=0
    · rw [if_neg (by simp [h2])];omega
    · rw [if_pos h2];omega
  · rw [if_pos h1];omega
theorem ltU (x y:Lch):ltOf cfU x y=decide (lexU x y):=by
  unfold ltOf cfU
  rw [Bool.eq_iff_iff]
  simp only [decide_eq_true_eq]
  rw [RK]
  unfold lexU
  have h1:=cmp3 x.tm y.tm
  have h2:=cmp3 x.job y.job
  omega
theorem swoU:SWO (ltOf cfU) where
  irrefl x:=by rw [ltU];simp [lexU]
  trans x y z h1 h2:=by rw [ltU] at *;simp only [decide_eq_true_eq] at *;unfold lexU at *;omega
  ntrans x y z h1 h2:=by rw [ltU] at *;simp only [decide_eq_false_iff_not] at *;unfold lexU at *;omega
theorem cmpLaysU (blk off size:Nat) (w:World):CmpLays prog 113 #[] encU 2 cfU blk off size w:=fun _ _ _ _ x y=>closureU x y _
def Bh (xs:List Lch):List Lch:=(pdq (ltOf cfU) xs.toArray 0 xs.length (Lib.bitLen xs.length) true true).toList
theorem Ov (xs:List Lch):PermIn 0 xs.toArray.size xs.toArray (Bh xs).toArray∧SortedIn (ltOf cfU) 0 xs.toArray.size (Bh xs).toArray:=by
  have:=pdq_sorts (ltOf cfU) swoU xs.toArray 0 xs.toArray.size (Lib.bitLen xs.length) true true (Nat.zero_le _) (Nat.le_refl _) (Or.inl rfl)
  simpa [Bh] using this
theorem JU (xs:List Lch):(Bh xs).Perm xs:=by
  obtain ⟨⟨hsz,_,hperm⟩,_⟩:=Ov xs
  have e1:(Bh xs).toArray.extract 0 xs.toArray.size=(Bh xs).toArray:=by rw [← hsz];exact Array.extract_size
  rw [e1,Array.extract_size] at hperm
  simpa using hperm
theorem Eh (xs:List Lch):(Bh xs).length=xs.length:=(JU xs).length_eq
theorem Oa (xs:List Lch):(Bh xs).Pairwise fun x y=>¬ lexU y x:=by
  obtain ⟨_,hs⟩:=Ov xs
  have hl:=Eh xs
  rw [List.pairwise_iff_getElem]
  intro i j hi hj hij
  have:=hs i j (Nat.zero_le _) hij (by simp;omega)
  rw [getElem!_pos _ j (by simpa using hj),getElem!_pos _ i (by simpa using hi),ltU] at this
  simpa using this
theorem flatU:∀ (xs:List Lch),(flatK encU 2 xs.toArray).toList=xs.flatMap encU:=fun xs=>by
  apply List.ext_getElem?
  intro t
  have key:∀ (l:List Lch) (t:Nat),(l.flatMap encU)[t]?=(l[t / 2]?).bind fun x=>(encU x)[t % 2]?:=by
    intro l
    induction l with
    | nil=>intro t;simp
    | cons x l ih =>
      intro t
      rw [List.flatMap_cons]
      match t with
      | 0=>rfl
      | 1=>rfl
      | t + 2 =>
        rw [List.getElem?_append_right (by simp [encU]),show t + 2 - (encU x).length=t from by simp [encU],ih]
        rw [show (t + 2) / 2=t / 2 + 1 from by omega,show (t + 2) % 2=t % 2 from by omega]
        simp
  rw [key]
  by_cases ht:t < xs.length * 2
  · have h1:t / 2 < xs.length:=by omega
    have hsz:t < (flatK encU 2 xs.toArray).size:=by simpa using ht
    rw [Array.getElem?_toList,Array.getElem?_eq_getElem hsz,List.getElem?_eq_getElem h1,Option.bind_some]
    have:=get_flatK encU 2 xs.toArray t (by simpa using ht)
    rw [getElem!_pos (flatK encU 2 xs.toArray) t hsz,getElem!_pos xs.toArray (t / 2) (by simpa using h1)] at this
    rw [this]
    have h2:t % 2 < (encU xs[t / 2]).length:=by simp [encU];omega
    rw [List.getElem?_eq_getElem h2,List.getElem_toArray,getElem!_pos (encU xs[t / 2]) (t % 2) h2]
  · have h1:(flatK encU 2 xs.toArray).size≤t:=by rw [size_flatK];simpa using (by omega:xs.length * 2≤t)
    have h2:xs[t / 2]?=none:=List.getElem?_eq_none (by omega)
    rw [Array.getElem?_toList,Array.getElem?_eq_none h1,h2]
    rfl
theorem HO {w:World} {F:Nat→Prop}:∀ {xs:List Lch} {cells:List Value},Chunks w F cells xs→cells=xs.flatMap encU∧∀ x∈xs,inI64 x.tm∧inI64 x.job
  | [],_,h=>⟨h,fun _ hx=>by simp at hx⟩
  | x :: xs,cells,⟨cs,rest,he,hr,hc⟩=>by
    obtain ⟨h1,h2⟩:=HO hc
    obtain ⟨h3,h4⟩:=hr
    refine ⟨by rw [he,h3,h1];rfl,fun y hy=>?_⟩
    rcases List.mem_cons.1 hy with rfl|hy
    · exact h4
    · exact h2 y hy
theorem GY {w:World} {F:Nat→Prop}:∀ {xs:List Lch},(∀ x∈xs,inI64 x.tm∧inI64 x.job)→Chunks w F (xs.flatMap encU) xs
  | [],_=>rfl
  | x :: xs,h=>⟨encU x,xs.flatMap encU,rfl,⟨rfl,h x (by simp)⟩,GY fun y hy=>h y (by simp [hy])⟩
theorem Fm (xs:List Lch):(xs.flatMap encU).length=xs.length * 2:=by rw [← flatU,Array.length_toList,size_flatK];simp
theorem JI {i:Nat} {w:World} {O:Lab} {v:Value} {xs:List Lch} (hR:Rw i w O 52 v xs) (hl:xs.length < 4611686018427387904) :
    Fn prog 144 [v,.func (.func 113) #[] #[]] w fun _ w'=>∃ O',St (eT i) w O w' O'∧Rw i w' O' 52 v (Bh xs):=by
  intro d
  rcases Nat.eq_zero_or_pos xs.length with h0|h0
  · have hx:xs=[]:=List.eq_nil_of_length_eq_zero h0
    subst hx
    obtain ⟨p,c,rfl⟩:=hR.form
    have hs:Bh []=[]:=List.eq_nil_of_length_eq_zero (Eh [])
    exact (OY (α:=Lch) p c _ (dr w d)).mono fun e w' ⟨he,hw⟩=>⟨_,w,d,he,hw,O,St.refl _ _ _,by rw [hs];exact hR⟩
  · obtain ⟨g,cap,cells,sp,rfl,hg,hFg,hb,hc,hlen,hnc,hcm,htot⟩:=hR.1.open h0
    obtain ⟨rfl,hin⟩:=HO hc
    have hfl:=flatU xs
    have hH:HoldsK encU 2 (dr w d) g 0 xs.toArray:=fun j hj=>by
      have hj':j < xs.length * 2:=by simpa using hj
      refine ⟨?_,by rw [Nat.zero_add];exact hb.frozen j⟩
      rw [Nat.zero_add]
      refine hb.cell ?_
      rw [List.getElem?_append_left (by rw [Fm];exact hj'),← hfl,Array.getElem?_toList,Array.getElem?_eq_getElem hj,getElem!_pos _ j hj]
      rfl
    have aE:∀ w,(isAgg 52).run prog w=.ok true w:=fun w=>Gx w
    have zE:∀ w,(Go.sizeOf 52).run prog w=.ok 2 w:=fun w=>Dj w
    have eg:∀ args w,(callFunc 113 args).run prog w=.ok (.enter 113 args) w:=enters_of func113 (by kernel_rfl) rfl
    have hcall:=Qm 2 aE zE encU (fun _=>rfl) (fun x v hv=>by simp [encU] at hv;rcases hv with rfl|rfl<;>rfl) cfU swoU 113 #[] g 0 cap xs.toArray (dr w d) eg (cmpLaysU g 0 _ _) hH hb.lt (by simpa using hl)
    have e1:xs.toArray.size=xs.length:=by simp
    rw [e1] at hcall
    refine hcall.mono fun e w' ⟨he,n,os,hw⟩=>⟨_,w',w'.drawn,he,rfl,upO O w.heap.size (fun _=>0),?_,?_⟩
    · subst hw
      refine ⟨rfl,rfl,rfl,?_,fun k hk hne=>⟨?_,El hk⟩⟩
      · show w.heap.size≤((w.heap.modify g _) ++ os).size
        simp
      · have hkg:g≠k:=fun e=>hne (by rw [← e];exact hR.2.1 g rfl)
        show ((w.heap.modify g _) ++ os)[k]?=_
        rw [Array.getElem?_append_left (by simpa using hk),Array.getElem?_modify,if_neg hkg]
    · have hpd:pdq (ltOf cfU) xs.toArray 0 xs.length (Lib.bitLen xs.length) true true=(Bh xs).toArray:=by simp [Bh]
      rw [hpd] at hw
      have hsl:=Eh xs
      have hf2:=flatU (Bh xs)
      have hblk:Blk w' g 52 ((Bh xs).flatMap encU ++ sp):=by
        subst hw
        unfold Blk at hb ⊢
        have hsz:g < w.heap.size:=Blk.lt hb
        show ((w.heap.modify g _) ++ os)[g]?=_
        rw [Array.getElem?_append_left (by simpa using hsz),Array.getElem?_modify,if_pos rfl,hb]
        simp only [Option.map_some,Go.Sort.onCells]
        congr 2
        apply Array.ext
        · simp only [Go.Sort.putCells,Array.size_mapIdx,List.size_toArray,List.length_append,Fm,hsl]
        · intro i h1 h2
          simp only [Go.Sort.putCells,Array.getElem_mapIdx,Nat.zero_add,Nat.sub_zero,Nat.zero_le,true_and]
          have e2:(flatK encU 2 (Bh xs).toArray).size=xs.length * 2:=by rw [size_flatK];simp [hsl]
          by_cases hi:i < xs.length * 2
          · rw [if_pos (by rw [e2];exact hi)]
            simp only [List.getElem_toArray]
            rw [List.getElem_append_left (by rw [Fm,hsl];exact hi)]
            rw [getElem!_pos _ _ (by rw [e2];exact hi)]
            have:=congrArg (·[i]?) hf2
            simp only [Array.getElem?_toList] at this
            rw [Array.getElem?_eq_getElem (by rw [e2];exact hi),List.getElem?_eq_getElem (by rw [Fm,hsl];exact hi)] at this
            exact Option.some.inj this
          · rw [if_neg (by rw [e2];exact hi)]
            simp only [List.getElem_toArray]
            rw [List.getElem_append_right (by rw [Fm];omega),List.getElem_append_right (by rw [Fm,hsl];omega)]
            simp only [Fm,hsl]
      have hS:∀ k,Fr 0 w O k→Fr 0 w' (upO O w.heap.size fun _=>0) k:=fun k hk=>⟨by subst hw;show k < ((w.heap.modify g _) ++ os).size;have:=hk.1;simp;omega,(El hk.1).trans hk.2⟩
      have:=Own.close (w:=w') (base:=0) (F:=Fr 0 w O) (cap:=cap) (Nat.zero_le _) hFg hblk (GY (F:=Fr 0 w O) (w:=w') fun x hx=>hin x ((JU xs).mem_iff.1 hx)) (by rw [hsl];exact hnc) hcm (by rw [List.length_append,Fm] at htot ⊢;rw [hsl];exact htot)
      rw [hsl] at this
      exact this.rw hS (fun g' hg'=>by
        have:g=g':=by simpa [Value.ownBlock] using hg'
        subst this
        exact (El hb.lt).trans (hR.2.1 g rfl)) hR.2.2
theorem KS {α:Type} {R:α→α→Prop}:∀ {a b:List α},a.Perm b→a.Pairwise R→b.Pairwise R→(∀ x y,R x y→R y x→x=y)→a=b
  | [],b,h,_,_,_=>(List.nil_perm.1 h).symm
  | x :: a,[],h,_,_,_=>by simp at h
  | x :: a,y :: b,h,ha,hb,hR=>by
    obtain ⟨ha1,ha2⟩:=List.pairwise_cons.1 ha
    obtain ⟨hb1,hb2⟩:=List.pairwise_cons.1 hb
    have hx:x∈y :: b:=h.mem_iff.1 List.mem_cons_self
    have hy:y∈x :: a:=h.mem_iff.2 List.mem_cons_self
    have e:x=y:=by
      rcases List.mem_cons.1 hx with rfl|hx
      · rfl
      · rcases List.mem_cons.1 hy with rfl|hy
        · rfl
        · exact hR x y (ha1 y hy) (hb1 x hx)
    subst e
    rw [KS ((List.perm_cons x).1 h) ha2 hb2 hR]
theorem QZ {xs:List Lch} (h:xs.Pairwise fun x y=>¬ lexU y x):Bh xs=xs :=
  KS (JU xs) (Oa xs) h fun x y h1 h2=>by
    obtain ⟨a,b⟩:=x
    obtain ⟨a',b'⟩:=y
    unfold lexU at h1 h2
    dsimp only at h1 h2
    have e1:a=a':=by omega
    have e2:b=b':=by omega
    rw [e1,e2]
end
end Go.Proofs.YtjohlgjklmagnaaGreatDoor

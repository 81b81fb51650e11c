/- Own text: what the proof of compilePlans_holds uses, part 5: rules, models and their proofs, plain laws. -/
import Derived.Test.YtjohlgjklmagnaaGreatDoorCPD
set_option linter.unusedVariables false
set_option linter.unusedSimpArgs false
namespace Go.Proofs.YtjohlgjklmagnaaGreatDoor
open Go Go.RowKit
section
open Go Go.RowKit
attribute [local irreducible] ewp owp hwp hwq Ev Evg Fn retPost Res1
attribute [local irreducible] hwx loudX
structure Lay where
  jobs:Int
  write:List Int
  read:List Int
  phase:Int
  vars:List Int
instance:Rp Lay where
  isAgg:=true
  size:=5
  R w F cs x:=∃ v0 v1 v2,cs=[.int .i64 x.jobs,v0,v1,.int .i64 x.phase,v2]∧Vb w F v0 x.write∧Vb w F v1 x.read∧Vb w F v2 x.vars∧inI64 x.jobs∧inI64 x.phase
  len:=by rintro w F cs x ⟨v0,v1,v2,rfl,h0,h1,h2,h3,h4⟩;rfl
  one:=by rintro w F cs x ⟨v0,v1,v2,rfl,h0,h1,h2,h3,h4⟩ u hu;simp at hu;rcases hu with rfl|rfl|rfl|rfl|rfl<;>first|rfl|exact Vb.one rfl (by assumption)
  agree:=by rintro w w' F cs x ⟨v0,v1,v2,rfl,h0,h1,h2,h3,h4⟩ ha;exact ⟨v0,v1,v2,rfl,h0.agree ha,h1.agree ha,h2.agree ha,h3,h4⟩
  mono:=by rintro w F G cs x ⟨v0,v1,v2,rfl,h0,h1,h2,h3,h4⟩ ha;exact ⟨v0,v1,v2,rfl,h0.mono ha,h1.mono ha,h2.mono ha,h3,h4⟩
noncomputable def Dp (x0:Fct) (y0:Int):Option Bool :=
  bnd (if x0.var=y0 then (some true) else (some false):Option Bool) fun y11=>some y11
theorem Kk {w:World} {A:Nat→Prop} (hA:∀ k,A k→k < w.heap.size) {vx0:Value} {x0:Fct} (b0:Vb w A vx0 x0) {py0:Nat} {csy0:List Value} {y0:Int} (hby0:Blk w py0 3 csy0) (hay0:A py0) (hcy0:Rp.R w A csy0 y0) {r:Bool} (hm:Dp x0 y0=some r) :
    Fn Tryz.prog 135 [vx0,(.pointer (some ⟨py0,0,none⟩))] w fun v w'=>Ext w w'∧Vb w' (upA A w w') v r:=by
 obtain ⟨O,hB,c0⟩:=enter hA
 have hLy0:Lc 0 w O py0 3 csy0:=⟨hby0,(c0 py0 hay0).2⟩
 replace hcy0:=Rp.mono hcy0 c0
 obtain ⟨rfl,r2⟩:=hcy0
 replace b0:=b0.mono c0
 obtain ⟨i0,rfl,rfl,r4,r5⟩:=b0
 refine AH Tryz.func135 rfl Tryz.ntmps135 ?_
 unfold Dp at hm
 refine Ab (Aa (BQ 2 O rfl fun g6 w7 O8 S9 d0=>?_))
 replace d0:Lc 2 w7 O8 g6 78 [(.int .i64 x0.var),(.int .i64 x0.val)]:=d0
 refine Al rfl (o_z ?_)
 refine Ab ?_
 obtain ⟨g0,a0,hm⟩:=bs hm
 refine Au (fun l' w'=>∃ (h0:Unit) (O':Lab),subs l' [(3,(.bool g0))]∧Bs w A w' O') ?_ ?_
 ·
  refine Aa (AB rfl (Az (hc:=Blk.cell (i:=0) (d0.1) rfl) rfl ?_))
  replace hLy0:=hLy0.st S9
  refine Az (hc:=Blk.cell (i:=0) (hLy0.1) rfl) rfl ?_
  refine EZ rfl rfl (fun e0=>?_) fun e0=>?_
  ·
   replace a0:=ip a0 e0
   refine Al rfl (o_z ?_)
   obtain rfl:=sm a0
   exact ⟨(),_,⟨rfl,trivial⟩,hB.st S9⟩
  replace a0:=im a0 e0
  refine Al rfl (o_z ?_)
  obtain rfl:=sm a0
  exact ⟨(),_,⟨rfl,trivial⟩,hB.st S9⟩
 replace hB:=hB.st S9
 rintro j0 k0 ⟨h0,l0,f0,hB⟩
 refine AE _ f0 ?_
 refine AC ?_
 obtain rfl:=sm hm
 exact ret1v rfl (At rfl) ⟨hB.ext,vBool⟩
noncomputable def Bk (x0:List Fct) (y0:Int):Option Int :=
  bnd (rng (ρ:=Int) (fun (k12:Nat) (a13:Fct) (s10:Unit)=>bnd (Dp a13 y0) fun q32=>if q32=true then some (.ret (k12:Int)) else some (.next ())) x0 0 ()) fun res8=>fin res8 fun (s43:Unit)=>some (-1)
theorem Eg {w:World} {A:Nat→Prop} (hA:∀ k,A k→k < w.heap.size) {vx0:Value} {x0:List Fct} (b0:Vb w A vx0 x0) {py0:Nat} {csy0:List Value} {y0:Int} (hby0:Blk w py0 3 csy0) (hay0:A py0) (hcy0:Rp.R w A csy0 y0) {r:Int} (hm:Bk x0 y0=some r) :
    Fn Tryz.prog 160 [vx0,(.func (.func 135) #[] #[(.pointer (some ⟨py0,0,none⟩))])] w fun v w'=>Ext w w'∧Vb w' (upA A w w') v r:=by
 obtain ⟨O,hB,h0⟩:=enter hA
 have hLy0:Lc 0 w O py0 3 csy0:=⟨hby0,(h0 py0 hay0).2⟩
 replace hcy0:=Rp.mono hcy0 h0
 obtain ⟨rfl,r3⟩:=hcy0
 replace b0:=b0.mono h0
 obtain ⟨A4,c5,rfl⟩:=b0.form
 refine AH Tryz.func160 rfl Tryz.ntmps160 ?_
 unfold Bk at hm
 refine Ab (Aa (Al rfl (o_z ?_)))
 refine Ab (Ab (Aa (Ak rfl (AR rfl ?_))))
 have l7:x0.length≤9223372036854775807:=Nat.le_trans b0.len.2.1 b0.len.2.2
 have r6:inI64 (x0.length:Int):=rngNat l7
 refine Ak rfl (o_z ?_)
 obtain ⟨i0,s0,hm⟩:=bs hm
 refine Au (aft i0 (fun (e0:Unit) (f0:Unit)=>[]) (fun e0 f0 w'=>∃ O':Lab,Bs w A w' O')) ?_ ?_
 ·
  refine AJ (Bh (σ:=Unit) (X:=Unit) (x0.length) s0 rfl l7 (fun (e0:Unit) (f0:Unit)=>[(0,(.slice A4 x0.length c5)),(1,(.func (.func 135) #[] #[(.pointer (some ⟨py0,0,none⟩))]))]) _ (fun e0 f0 w'=>∃ O':Lab,Bs w A w' O'∧Vb w' (Fr 0 w' O') (.slice A4 x0.length c5) x0∧Lc 0 w' O' py0 3 [(.int .i64 y0)]) _ () ⟨O,hB,b0,hLy0⟩ ⟨rfl,rfl,rfl,rfl,trivial⟩ (fun _ _=>⟨rfl,rfl⟩) (fun _ _=>trivial) (fun _ _ _ ⟨O',hB,b0,hLy0⟩=>⟨O',hB⟩) ⟨rfl,rfl,rfl⟩ ⟨rfl,rfl⟩ ?_)
  rintro t0 j0 e0 f0 k0 u0 d0 ⟨l0,hB,b0,hLy0⟩ a0 c0 m0
  have rk12:inI64 (t0:Int):=rngK d0 l7
  refine Ab (Aa (Ak rfl (Al rfl (o_z ?_))))
  refine Ab (Aa (Ak rfl (Ak rfl (Ak rfl ?_))))
  obtain ⟨c1,d1,v0,n0,o0,p0,rfl,w0,z0⟩:=b0.elem' d0
  refine Bv (hA:=n0) (hj:=rfl) (hlt:=o0) rfl rfl ?_
  refine Bg (hl:=rfl) (hc:=p0) rfl ?_
  obtain ⟨r0,a1,a0⟩:=bs a0
  refine HI (O:=l0) (A:=All k0) (R:=fun w' F v=>Vb w' F v r0) (Kk (fun _ h=>h) (Vb.mono (F:=Fr 0 k0 l0) (Vb.ofAgg (cs:=[(.int .i64 j0.var),(.int .i64 j0.val)]) (x:=j0) rfl ⟨rfl,w0,z0⟩) Fr.lt) hLy0.1 hLy0.1.lt (Rp.mono (F:=Fr 0 k0 l0) (x:=y0) (Vb.cells1 (vInt r3)) Fr.lt) a1) rfl rfl rfl rfl fun e1 f1 g1 g0 b1=>?_
  obtain rfl:=b1.bool
  cases r0
  case false =>
   replace a0:=iF a0
   refine o_z ?_
   refine Ah rfl (AK ?_)
   obtain rfl:=sm a0
   exact show Exists _ from ⟨_,(),rfl,⟨rfl,rfl,rfl,rfl,trivial⟩,_,hB.st g0,b0.st g0,hLy0.st g0⟩
  replace a0:=iT a0
  refine o_z ?_
  refine Aj rfl (Ab (Aa (Ak rfl (Al rfl (o_z ?_)))))
  refine AC ?_
  obtain rfl:=sm a0
  obtain rfl:=c0 _ rfl
  obtain rfl:=sm (CG hm)
  replace hB:=hB.st g0
  exact ret1v rfl (At rfl) ⟨hB.ext,(vInt rk12)⟩
 rintro h1 i1 ⟨j1,k1,rfl,q0,l1,hB⟩
 replace hm:=AP hm
 refine AE _ q0 ?_
 refine Ab (Aa (Al rfl (o_z ?_)))
 refine AC ?_
 obtain rfl:=sm hm
 exact ret1v rfl (At rfl) ⟨hB.ext,(vInt (show inI64 (-1) from by decide))⟩
noncomputable def Bd (x0:List Fct) (y0:Int):Option Bool :=
  bnd (bnd (Bk x0 y0) fun q10=>if 0≤q10 then (some true) else (some false):Option Bool) fun y6=>some y6
theorem DQ {w:World} {A:Nat→Prop} (hA:∀ k,A k→k < w.heap.size) {vx0:Value} {x0:List Fct} (b0:Vb w A vx0 x0) {py0:Nat} {csy0:List Value} {y0:Int} (hby0:Blk w py0 3 csy0) (hay0:A py0) (hcy0:Rp.R w A csy0 y0) {r:Bool} (hm:Bd x0 y0=some r) :
    Fn Tryz.prog 134 [vx0,(.func (.func 135) #[] #[(.pointer (some ⟨py0,0,none⟩))])] w fun v w'=>Ext w w'∧Vb w' (upA A w w') v r:=by
 obtain ⟨O,hB,c0⟩:=enter hA
 have hLy0:Lc 0 w O py0 3 csy0:=⟨hby0,(c0 py0 hay0).2⟩
 replace hcy0:=Rp.mono hcy0 c0
 obtain ⟨rfl,r3⟩:=hcy0
 replace b0:=b0.mono c0
 obtain ⟨A4,c5,rfl⟩:=b0.form
 refine AH Tryz.func134 rfl Tryz.ntmps134 ?_
 unfold Bd at hm
 refine Ab (Aa (Al rfl (o_z ?_)))
 refine Ab ?_
 obtain ⟨y6,a0,hm⟩:=bs hm
 refine Au (fun l' w'=>∃ (x9:Unit) (O':Lab),subs l' [(4,(.bool y6))]∧Bs w A w' O') ?_ ?_
 ·
  refine Aa (Ak rfl (Ak rfl ?_))
  obtain ⟨g0,h0,a0⟩:=bs a0
  refine AG (O:=O) (A:=All w) (R:=fun w' F v=>Vb w' F v g0) (Eg (fun _ h=>h) (Vb.mono (F:=Fr 0 w O) b0 Fr.lt) hLy0.1 hLy0.1.lt (Rp.mono (F:=Fr 0 w O) (x:=y0) (Vb.cells1 (vInt r3)) Fr.lt) h0) rfl fun j0 k0 l0 f0 i0=>?_
  obtain ⟨rfl,m0⟩:=i0.int
  refine Fs rfl rfl (fun d0=>?_) fun d0=>?_
  ·
   replace a0:=ip a0 d0
   refine Al rfl (o_z ?_)
   obtain rfl:=sm a0
   exact ⟨(),_,⟨rfl,trivial⟩,hB.st f0⟩
  replace a0:=im a0 d0
  refine Al rfl (o_z ?_)
  obtain rfl:=sm a0
  exact ⟨(),_,⟨rfl,trivial⟩,hB.st f0⟩
 rintro n0 o0 ⟨x9,p0,e0,hB⟩
 refine AE _ e0 ?_
 refine AC ?_
 obtain rfl:=sm hm
 exact ret1v rfl (At rfl) ⟨hB.ext,vBool⟩
noncomputable def Ck (x0:List Fct) (x1:Int):Option Bool :=
  bnd (bnd (Bd x0 x1) fun q14=>if q14=true then some true else some false:Option Bool) fun y10=>some y10
theorem DT {w:World} {A:Nat→Prop} (hA:∀ k,A k→k < w.heap.size) {vx0:Value} {x0:List Fct} (b0:Vb w A vx0 x0) {x1:Int} (rx1:inI64 x1) {r:Bool} (hm:Ck x0 x1=some r) :
    Fn Tryz.prog 96 [vx0,(.int .i64 x1)] w fun v w'=>Ext w w'∧Vb w' (upA A w w') v r:=by
 obtain ⟨O,hB,f0⟩:=enter hA
 replace b0:=b0.mono f0
 obtain ⟨A3,c4,rfl⟩:=b0.form
 refine AH Tryz.func96 rfl Tryz.ntmps96 ?_
 unfold Ck at hm
 refine Ab (Aa (BQ 2 O rfl fun g5 w6 O7 S8 h9=>?_))
 refine Al rfl (o_z ?_)
 refine Ab ?_
 obtain ⟨g0,a0,hm⟩:=bs hm
 refine Au (fun l' w'=>∃ (h0:Unit) (O':Lab),subs l' [(4,(.bool g0))]∧Bs w A w' O') ?_ ?_
 ·
  refine Aa (Ak rfl (LY rfl rfl ?_))
  obtain ⟨d0,i0,a0⟩:=bs a0
  replace b0:=b0.st S8
  refine AG (O:=O7) (A:=All w6) (R:=fun w' F v=>Vb w' F v d0) (DQ (fun _ h=>h) (Vb.mono (F:=Fr 0 w6 O7) b0 Fr.lt) h9.1 h9.1.lt (Rp.mono (F:=Fr 0 w6 O7) (x:=x1) (Vb.cells1 (vInt rx1)) Fr.lt) i0) rfl fun k0 l0 m0 e0 j0=>?_
  obtain rfl:=j0.bool
  cases d0
  case false =>
   replace a0:=iF a0
   refine Al rfl (o_z ?_)
   obtain rfl:=sm a0
   exact ⟨(),_,⟨rfl,trivial⟩,(hB.st S8).st e0⟩
  replace a0:=iT a0
  refine Al rfl (o_z ?_)
  obtain rfl:=sm a0
  exact ⟨(),_,⟨rfl,trivial⟩,(hB.st S8).st e0⟩
 replace hB:=hB.st S8
 rintro n0 o0 ⟨h0,p0,c0,hB⟩
 refine AE _ c0 ?_
 refine AC ?_
 obtain rfl:=sm hm
 exact ret1v rfl (At rfl) ⟨hB.ext,vBool⟩
noncomputable def El (x0:Job) (y0:Int):Option Bool :=
  bnd (bnd (Ck x0.atStart y0) fun q35=>if q35=true then some true else bnd (Ck x0.atEnd y0) fun q42=>if q42=true then some true else some false:Option Bool) fun y31=>some y31
theorem Mo {w:World} {A:Nat→Prop} (hA:∀ k,A k→k < w.heap.size) {vx0:Value} {x0:Job} (g0:Vb w A vx0 x0) {py0:Nat} {csy0:List Value} {y0:Int} (hby0:Blk w py0 3 csy0) (hay0:A py0) (hcy0:Rp.R w A csy0 y0) {r:Bool} (hm:El x0 y0=some r) :
    Fn Tryz.prog 95 [vx0,(.pointer (some ⟨py0,0,none⟩))] w fun v w'=>Ext w w'∧Vb w' (upA A w w') v r:=by
 obtain ⟨O,hB,h0⟩:=enter hA
 have hLy0:Lc 0 w O py0 3 csy0:=⟨hby0,(h0 py0 hay0).2⟩
 replace hcy0:=Rp.mono hcy0 h0
 obtain ⟨rfl,r2⟩:=hcy0
 replace g0:=g0.mono h0
 obtain ⟨l1,rfl,v4,v5,v6,v7,v8,rfl,h9,q0,r0,e0,f0,m1,n1⟩:=g0
 obtain ⟨s0,t0,rfl⟩:=h9.form
 obtain ⟨u0,v0,rfl⟩:=q0.form
 obtain ⟨w0,z0,rfl⟩:=r0.form
 obtain ⟨a1,b1,rfl⟩:=e0.form
 obtain ⟨c1,d1,rfl⟩:=f0.form
 refine AH Tryz.func95 rfl Tryz.ntmps95 ?_
 unfold El at hm
 refine Ab (Aa (BQ 2 O rfl fun e1 i0 j0 b0 c0=>?_))
 replace c0:Lc 2 i0 j0 e1 66 [(.string x0.name),(.int .i64 x0.dur),(.slice s0 x0.start.length t0),(.slice u0 x0.over.length v0),(.slice w0 x0.fin.length z0),(.slice a1 x0.atStart.length b1),(.slice c1 x0.atEnd.length d1)]:=c0
 refine Al rfl (o_z ?_)
 refine Ab ?_
 obtain ⟨f1,a0,hm⟩:=bs hm
 refine Au (fun l' w'=>∃ (g1:Unit) (O':Lab),subs l' [(3,(.bool f1))]∧Bs w A w' O') ?_ ?_
 ·
  refine Aa (AB rfl (Az (hc:=Blk.cell (i:=5) (c0.1) rfl) rfl ?_))
  replace hLy0:=hLy0.st b0
  refine Az (hc:=Blk.cell (i:=0) (hLy0.1) rfl) rfl ?_
  obtain ⟨l0,h1,a0⟩:=bs a0
  replace e0:=e0.st b0
  refine AG (O:=j0) (A:=All i0) (R:=fun w' F v=>Vb w' F v l0) (DT (fun _ h=>h) (Vb.mono (F:=Fr 0 i0 j0) e0 Fr.lt) r2 h1) rfl fun o1 m0 n0 d0 i1=>?_
  obtain rfl:=i1.bool
  cases l0
  case false =>
   replace a0:=iF a0
   refine Ak rfl (An rfl rfl (AB rfl (An rfl rfl ?_)))
   replace c0:=c0.st d0
   refine Az (hc:=Blk.cell (i:=6) (c0.1) rfl) rfl ?_
   refine An rfl rfl ?_
   replace hLy0:=hLy0.st d0
   refine Az (hc:=Blk.cell (i:=0) (hLy0.1) rfl) rfl ?_
   refine An rfl rfl ?_
   obtain ⟨o0,j1,a0⟩:=bs a0
   replace f0:=(f0.st b0).st d0
   refine AG (O:=n0) (A:=All m0) (R:=fun w' F v=>Vb w' F v o0) (DT (fun _ h=>h) (Vb.mono (F:=Fr 0 m0 n0) f0 Fr.lt) r2 j1) rfl fun p1 q1 r1 p0 k1=>?_
   obtain rfl:=k1.bool
   cases o0
   case false =>
    replace a0:=iF a0
    refine By rfl rfl (Al rfl (o_z ?_))
    obtain rfl:=sm a0
    exact ⟨(),_,⟨rfl,trivial⟩,((hB.st b0).st d0).st p0⟩
   replace a0:=iT a0
   refine By rfl rfl (Al rfl (o_z ?_))
   obtain rfl:=sm a0
   exact ⟨(),_,⟨rfl,trivial⟩,((hB.st b0).st d0).st p0⟩
  replace a0:=iT a0
  refine Ak rfl (Am rfl rfl (Am rfl rfl (Am rfl rfl (Am rfl rfl (BD rfl rfl (Al rfl (o_z ?_)))))))
  obtain rfl:=sm a0
  exact ⟨(),_,⟨rfl,trivial⟩,(hB.st b0).st d0⟩
 replace hB:=hB.st b0
 rintro s1 t1 ⟨g1,u1,k0,hB⟩
 refine AE _ k0 ?_
 refine AC ?_
 obtain rfl:=sm hm
 exact ret1v rfl (At rfl) ⟨hB.ext,vBool⟩
noncomputable def Bt (x0:List Job) (y0:Int):Option Int :=
  bnd (rng (ρ:=Int) (fun (k12:Nat) (a13:Job) (s10:Unit)=>bnd (El a13 y0) fun q52=>if q52=true then some (.ret (k12:Int)) else some (.next ())) x0 0 ()) fun res8=>fin res8 fun (s63:Unit)=>some (-1)
theorem EL {w:World} {A:Nat→Prop} (hA:∀ k,A k→k < w.heap.size) {vx0:Value} {x0:List Job} (b0:Vb w A vx0 x0) {py0:Nat} {csy0:List Value} {y0:Int} (hby0:Blk w py0 3 csy0) (hay0:A py0) (hcy0:Rp.R w A csy0 y0) {r:Int} (hm:Bt x0 y0=some r) :
    Fn Tryz.prog 133 [vx0,(.func (.func 95) #[] #[(.pointer (some ⟨py0,0,none⟩))])] w fun v w'=>Ext w w'∧Vb w' (upA A w w') v r:=by
 obtain ⟨O,hB,i0⟩:=enter hA
 have hLy0:Lc 0 w O py0 3 csy0:=⟨hby0,(i0 py0 hay0).2⟩
 replace hcy0:=Rp.mono hcy0 i0
 obtain ⟨rfl,r3⟩:=hcy0
 replace b0:=b0.mono i0
 obtain ⟨A4,c5,rfl⟩:=b0.form
 refine AH Tryz.func133 rfl Tryz.ntmps133 ?_
 unfold Bt at hm
 refine Ab (Aa (Al rfl (o_z ?_)))
 refine Ab (Ab (Aa (Ak rfl (AR rfl ?_))))
 have l7:x0.length≤9223372036854775807:=Nat.le_trans b0.len.2.1 b0.len.2.2
 have r6:inI64 (x0.length:Int):=rngNat l7
 refine Ak rfl (o_z ?_)
 obtain ⟨j0,z0,hm⟩:=bs hm
 refine Au (aft j0 (fun (f0:Unit) (g0:Unit)=>[]) (fun f0 g0 w'=>∃ O':Lab,Bs w A w' O')) ?_ ?_
 ·
  refine AJ (Bh (σ:=Unit) (X:=Unit) (x0.length) z0 rfl l7 (fun (f0:Unit) (g0:Unit)=>[(0,(.slice A4 x0.length c5)),(1,(.func (.func 95) #[] #[(.pointer (some ⟨py0,0,none⟩))]))]) _ (fun f0 g0 w'=>∃ O':Lab,Bs w A w' O'∧Vb w' (Fr 0 w' O') (.slice A4 x0.length c5) x0∧Lc 0 w' O' py0 3 [(.int .i64 y0)]) _ () ⟨O,hB,b0,hLy0⟩ ⟨rfl,rfl,rfl,rfl,trivial⟩ (fun _ _=>⟨rfl,rfl⟩) (fun _ _=>trivial) (fun _ _ _ ⟨O',hB,b0,hLy0⟩=>⟨O',hB⟩) ⟨rfl,rfl,rfl⟩ ⟨rfl,rfl⟩ ?_)
  rintro a1 c0 f0 g0 k0 b1 e0 ⟨l0,hB,b0,hLy0⟩ a0 d0 m0
  have rk12:inI64 (a1:Int):=rngK e0 l7
  refine Ab (Aa (Ak rfl (Al rfl (o_z ?_))))
  refine Ab (Aa (Ak rfl (Ak rfl (Ak rfl ?_))))
  obtain ⟨r1,s1,c1,n0,o0,p0,t1,u1,v1,w1,x1,rfl,r0,s0,t0,u0,v0,d1,e1⟩:=b0.elem' e0
  obtain ⟨f1,g1,rfl⟩:=r0.form
  obtain ⟨h1,i1,rfl⟩:=s0.form
  obtain ⟨j1,k1,rfl⟩:=t0.form
  obtain ⟨l1,m1,rfl⟩:=u0.form
  obtain ⟨n1,o1,rfl⟩:=v0.form
  refine Bv (hA:=n0) (hj:=rfl) (hlt:=o0) rfl rfl ?_
  refine Bg (hl:=rfl) (hc:=p0) rfl ?_
  obtain ⟨w0,p1,a0⟩:=bs a0
  refine HI (O:=l0) (A:=All k0) (R:=fun w' F v=>Vb w' F v w0) (Mo (fun _ h=>h) (Vb.mono (F:=Fr 0 k0 l0) (Vb.ofAgg (cs:=[(.string c0.name),(.int .i64 c0.dur),(.slice f1 c0.start.length g1),(.slice h1 c0.over.length i1),(.slice j1 c0.fin.length k1),(.slice l1 c0.atStart.length m1),(.slice n1 c0.atEnd.length o1)]) (x:=c0) rfl ⟨_,_,_,_,_,rfl,r0,s0,t0,u0,v0,d1,e1⟩) Fr.lt) hLy0.1 hLy0.1.lt (Rp.mono (F:=Fr 0 k0 l0) (x:=y0) (Vb.cells1 (vInt r3)) Fr.lt) p1) rfl rfl rfl rfl fun y1 z1 a2 h0 q1=>?_
  obtain rfl:=q1.bool
  cases w0
  case false =>
   replace a0:=iF a0
   refine o_z ?_
   refine Ah rfl (AK ?_)
   obtain rfl:=sm a0
   exact show Exists _ from ⟨_,(),rfl,⟨rfl,rfl,rfl,rfl,trivial⟩,_,hB.st h0,b0.st h0,hLy0.st h0⟩
  replace a0:=iT a0
  refine o_z ?_
  refine Aj rfl (Ab (Aa (Ak rfl (Al rfl (o_z ?_)))))
  refine AC ?_
  obtain rfl:=sm a0
  obtain rfl:=d0 _ rfl
  obtain rfl:=sm (CG hm)
  replace hB:=hB.st h0
  exact ret1v rfl (At rfl) ⟨hB.ext,(vInt rk12)⟩
 rintro b2 c2 ⟨d2,e2,rfl,q0,f2,hB⟩
 replace hm:=AP hm
 refine AE _ q0 ?_
 refine Ab (Aa (Al rfl (o_z ?_)))
 refine AC ?_
 obtain rfl:=sm hm
 exact ret1v rfl (At rfl) ⟨hB.ext,(vInt (show inI64 (-1) from by decide))⟩
noncomputable def AU (x0:List Job) (y0:Int):Option Bool :=
  bnd (bnd (Bt x0 y0) fun q10=>if 0≤q10 then (some true) else (some false):Option Bool) fun y6=>some y6
theorem EB {w:World} {A:Nat→Prop} (hA:∀ k,A k→k < w.heap.size) {vx0:Value} {x0:List Job} (b0:Vb w A vx0 x0) {py0:Nat} {csy0:List Value} {y0:Int} (hby0:Blk w py0 3 csy0) (hay0:A py0) (hcy0:Rp.R w A csy0 y0) {r:Bool} (hm:AU x0 y0=some r) :
    Fn Tryz.prog 94 [vx0,(.func (.func 95) #[] #[(.pointer (some ⟨py0,0,none⟩))])] w fun v w'=>Ext w w'∧Vb w' (upA A w w') v r:=by
 obtain ⟨O,hB,c0⟩:=enter hA
 have hLy0:Lc 0 w O py0 3 csy0:=⟨hby0,(c0 py0 hay0).2⟩
 replace hcy0:=Rp.mono hcy0 c0
 obtain ⟨rfl,r3⟩:=hcy0
 replace b0:=b0.mono c0
 obtain ⟨A4,c5,rfl⟩:=b0.form
 refine AH Tryz.func94 rfl Tryz.ntmps94 ?_
 unfold AU at hm
 refine Ab (Aa (Al rfl (o_z ?_)))
 refine Ab ?_
 obtain ⟨y6,a0,hm⟩:=bs hm
 refine Au (fun l' w'=>∃ (x9:Unit) (O':Lab),subs l' [(4,(.bool y6))]∧Bs w A w' O') ?_ ?_
 ·
  refine Aa (Ak rfl (Ak rfl ?_))
  obtain ⟨g0,h0,a0⟩:=bs a0
  refine AG (O:=O) (A:=All w) (R:=fun w' F v=>Vb w' F v g0) (EL (fun _ h=>h) (Vb.mono (F:=Fr 0 w O) b0 Fr.lt) hLy0.1 hLy0.1.lt (Rp.mono (F:=Fr 0 w O) (x:=y0) (Vb.cells1 (vInt r3)) Fr.lt) h0) rfl fun j0 k0 l0 f0 i0=>?_
  obtain ⟨rfl,m0⟩:=i0.int
  refine Fs rfl rfl (fun d0=>?_) fun d0=>?_
  ·
   replace a0:=ip a0 d0
   refine Al rfl (o_z ?_)
   obtain rfl:=sm a0
   exact ⟨(),_,⟨rfl,trivial⟩,hB.st f0⟩
  replace a0:=im a0 d0
  refine Al rfl (o_z ?_)
  obtain rfl:=sm a0
  exact ⟨(),_,⟨rfl,trivial⟩,hB.st f0⟩
 rintro n0 o0 ⟨x9,p0,e0,hB⟩
 refine AE _ e0 ?_
 refine AC ?_
 obtain rfl:=sm hm
 exact ret1v rfl (At rfl) ⟨hB.ext,vBool⟩
noncomputable def Em (x0:Job) (y0:Int):Option Bool :=
  bnd (bnd (Ck x0.start y0) fun q35=>if q35=true then some true else bnd (Ck x0.fin y0) fun q42=>if q42=true then some true else some false:Option Bool) fun y31=>some y31
theorem Mp {w:World} {A:Nat→Prop} (hA:∀ k,A k→k < w.heap.size) {vx0:Value} {x0:Job} (f0:Vb w A vx0 x0) {py0:Nat} {csy0:List Value} {y0:Int} (hby0:Blk w py0 3 csy0) (hay0:A py0) (hcy0:Rp.R w A csy0 y0) {r:Bool} (hm:Em x0 y0=some r) :
    Fn Tryz.prog 97 [vx0,(.pointer (some ⟨py0,0,none⟩))] w fun v w'=>Ext w w'∧Vb w' (upA A w w') v r:=by
 obtain ⟨O,hB,g0⟩:=enter hA
 have hLy0:Lc 0 w O py0 3 csy0:=⟨hby0,(g0 py0 hay0).2⟩
 replace hcy0:=Rp.mono hcy0 g0
 obtain ⟨rfl,r2⟩:=hcy0
 replace f0:=f0.mono g0
 obtain ⟨l1,rfl,v4,v5,v6,v7,v8,rfl,h9,p0,e0,q0,r0,m1,n1⟩:=f0
 obtain ⟨s0,t0,rfl⟩:=h9.form
 obtain ⟨u0,v0,rfl⟩:=p0.form
 obtain ⟨w0,z0,rfl⟩:=e0.form
 obtain ⟨a1,b1,rfl⟩:=q0.form
 obtain ⟨c1,d1,rfl⟩:=r0.form
 refine AH Tryz.func97 rfl Tryz.ntmps97 ?_
 unfold Em at hm
 refine Ab (Aa (BQ 2 O rfl fun e1 h0 i0 b0 c0=>?_))
 replace c0:Lc 2 h0 i0 e1 66 [(.string x0.name),(.int .i64 x0.dur),(.slice s0 x0.start.length t0),(.slice u0 x0.over.length v0),(.slice w0 x0.fin.length z0),(.slice a1 x0.atStart.length b1),(.slice c1 x0.atEnd.length d1)]:=c0
 refine Al rfl (o_z ?_)
 refine Ab ?_
 obtain ⟨f1,a0,hm⟩:=bs hm
 refine Au (fun l' w'=>∃ (g1:Unit) (O':Lab),subs l' [(3,(.bool f1))]∧Bs w A w' O') ?_ ?_
 ·
  refine Aa (AB rfl (Az (hc:=Blk.cell (i:=2) (c0.1) rfl) rfl ?_))
  replace hLy0:=hLy0.st b0
  refine Az (hc:=Blk.cell (i:=0) (hLy0.1) rfl) rfl ?_
  obtain ⟨k0,h1,a0⟩:=bs a0
  replace h9:=h9.st b0
  refine AG (O:=i0) (A:=All h0) (R:=fun w' F v=>Vb w' F v k0) (DT (fun _ h=>h) (Vb.mono (F:=Fr 0 h0 i0) h9 Fr.lt) r2 h1) rfl fun o1 l0 m0 d0 i1=>?_
  obtain rfl:=i1.bool
  cases k0
  case false =>
   replace a0:=iF a0
   refine Ak rfl (An rfl rfl (AB rfl (An rfl rfl ?_)))
   replace c0:=c0.st d0
   refine Az (hc:=Blk.cell (i:=4) (c0.1) rfl) rfl ?_
   refine An rfl rfl ?_
   replace hLy0:=hLy0.st d0
   refine Az (hc:=Blk.cell (i:=0) (hLy0.1) rfl) rfl ?_
   refine An rfl rfl ?_
   obtain ⟨n0,j1,a0⟩:=bs a0
   replace e0:=(e0.st b0).st d0
   refine AG (O:=m0) (A:=All l0) (R:=fun w' F v=>Vb w' F v n0) (DT (fun _ h=>h) (Vb.mono (F:=Fr 0 l0 m0) e0 Fr.lt) r2 j1) rfl fun p1 q1 r1 o0 k1=>?_
   obtain rfl:=k1.bool
   cases n0
   case false =>
    replace a0:=iF a0
    refine By rfl rfl (Al rfl (o_z ?_))
    obtain rfl:=sm a0
    exact ⟨(),_,⟨rfl,trivial⟩,((hB.st b0).st d0).st o0⟩
   replace a0:=iT a0
   refine By rfl rfl (Al rfl (o_z ?_))
   obtain rfl:=sm a0
   exact ⟨(),_,⟨rfl,trivial⟩,((hB.st b0).st d0).st o0⟩
  replace a0:=iT a0
  refine Ak rfl (Am rfl rfl (Am rfl rfl (Am rfl rfl (Am rfl rfl (BD rfl rfl (Al rfl (o_z ?_)))))))
  obtain rfl:=sm a0
  exact ⟨(),_,⟨rfl,trivial⟩,(hB.st b0).st d0⟩
 replace hB:=hB.st b0
 rintro s1 t1 ⟨g1,u1,j0,hB⟩
 refine AE _ j0 ?_
 refine AC ?_
 obtain rfl:=sm hm
 exact ret1v rfl (At rfl) ⟨hB.ext,vBool⟩
noncomputable def Bu (x0:List Job) (y0:Int):Option Int :=
  bnd (rng (ρ:=Int) (fun (k12:Nat) (a13:Job) (s10:Unit)=>bnd (Em a13 y0) fun q52=>if q52=true then some (.ret (k12:Int)) else some (.next ())) x0 0 ()) fun res8=>fin res8 fun (s63:Unit)=>some (-1)
theorem EM {w:World} {A:Nat→Prop} (hA:∀ k,A k→k < w.heap.size) {vx0:Value} {x0:List Job} (b0:Vb w A vx0 x0) {py0:Nat} {csy0:List Value} {y0:Int} (hby0:Blk w py0 3 csy0) (hay0:A py0) (hcy0:Rp.R w A csy0 y0) {r:Int} (hm:Bu x0 y0=some r) :
    Fn Tryz.prog 133 [vx0,(.func (.func 97) #[] #[(.pointer (some ⟨py0,0,none⟩))])] w fun v w'=>Ext w w'∧Vb w' (upA A w w') v r:=by
 obtain ⟨O,hB,i0⟩:=enter hA
 have hLy0:Lc 0 w O py0 3 csy0:=⟨hby0,(i0 py0 hay0).2⟩
 replace hcy0:=Rp.mono hcy0 i0
 obtain ⟨rfl,r3⟩:=hcy0
 replace b0:=b0.mono i0
 obtain ⟨A4,c5,rfl⟩:=b0.form
 refine AH Tryz.func133 rfl Tryz.ntmps133 ?_
 unfold Bu at hm
 refine Ab (Aa (Al rfl (o_z ?_)))
 refine Ab (Ab (Aa (Ak rfl (AR rfl ?_))))
 have l7:x0.length≤9223372036854775807:=Nat.le_trans b0.len.2.1 b0.len.2.2
 have r6:inI64 (x0.length:Int):=rngNat l7
 refine Ak rfl (o_z ?_)
 obtain ⟨j0,z0,hm⟩:=bs hm
 refine Au (aft j0 (fun (f0:Unit) (g0:Unit)=>[]) (fun f0 g0 w'=>∃ O':Lab,Bs w A w' O')) ?_ ?_
 ·
  refine AJ (Bh (σ:=Unit) (X:=Unit) (x0.length) z0 rfl l7 (fun (f0:Unit) (g0:Unit)=>[(0,(.slice A4 x0.length c5)),(1,(.func (.func 97) #[] #[(.pointer (some ⟨py0,0,none⟩))]))]) _ (fun f0 g0 w'=>∃ O':Lab,Bs w A w' O'∧Vb w' (Fr 0 w' O') (.slice A4 x0.length c5) x0∧Lc 0 w' O' py0 3 [(.int .i64 y0)]) _ () ⟨O,hB,b0,hLy0⟩ ⟨rfl,rfl,rfl,rfl,trivial⟩ (fun _ _=>⟨rfl,rfl⟩) (fun _ _=>trivial) (fun _ _ _ ⟨O',hB,b0,hLy0⟩=>⟨O',hB⟩) ⟨rfl,rfl,rfl⟩ ⟨rfl,rfl⟩ ?_)
  rintro a1 c0 f0 g0 k0 b1 e0 ⟨l0,hB,b0,hLy0⟩ a0 d0 m0
  have rk12:inI64 (a1:Int):=rngK e0 l7
  refine Ab (Aa (Ak rfl (Al rfl (o_z ?_))))
  refine Ab (Aa (Ak rfl (Ak rfl (Ak rfl ?_))))
  obtain ⟨r1,s1,c1,n0,o0,p0,t1,u1,v1,w1,x1,rfl,r0,s0,t0,u0,v0,d1,e1⟩:=b0.elem' e0
  obtain ⟨f1,g1,rfl⟩:=r0.form
  obtain ⟨h1,i1,rfl⟩:=s0.form
  obtain ⟨j1,k1,rfl⟩:=t0.form
  obtain ⟨l1,m1,rfl⟩:=u0.form
  obtain ⟨n1,o1,rfl⟩:=v0.form
  refine Bv (hA:=n0) (hj:=rfl) (hlt:=o0) rfl rfl ?_
  refine Bg (hl:=rfl) (hc:=p0) rfl ?_
  obtain ⟨w0,p1,a0⟩:=bs a0
  refine HI (O:=l0) (A:=All k0) (R:=fun w' F v=>Vb w' F v w0) (Mp (fun _ h=>h) (Vb.mono (F:=Fr 0 k0 l0) (Vb.ofAgg (cs:=[(.string c0.name),(.int .i64 c0.dur),(.slice f1 c0.start.length g1),(.slice h1 c0.over.length i1),(.slice j1 c0.fin.length k1),(.slice l1 c0.atStart.length m1),(.slice n1 c0.atEnd.length o1)]) (x:=c0) rfl ⟨_,_,_,_,_,rfl,r0,s0,t0,u0,v0,d1,e1⟩) Fr.lt) hLy0.1 hLy0.1.lt (Rp.mono (F:=Fr 0 k0 l0) (x:=y0) (Vb.cells1 (vInt r3)) Fr.lt) p1) rfl rfl rfl rfl fun y1 z1 a2 h0 q1=>?_
  obtain rfl:=q1.bool
  cases w0
  case false =>
   replace a0:=iF a0
   refine o_z ?_
   refine Ah rfl (AK ?_)
   obtain rfl:=sm a0
   exact show Exists _ from ⟨_,(),rfl,⟨rfl,rfl,rfl,rfl,trivial⟩,_,hB.st h0,b0.st h0,hLy0.st h0⟩
  replace a0:=iT a0
  refine o_z ?_
  refine Aj rfl (Ab (Aa (Ak rfl (Al rfl (o_z ?_)))))
  refine AC ?_
  obtain rfl:=sm a0
  obtain rfl:=d0 _ rfl
  obtain rfl:=sm (CG hm)
  replace hB:=hB.st h0
  exact ret1v rfl (At rfl) ⟨hB.ext,(vInt rk12)⟩
 rintro b2 c2 ⟨d2,e2,rfl,q0,f2,hB⟩
 replace hm:=AP hm
 refine AE _ q0 ?_
 refine Ab (Aa (Al rfl (o_z ?_)))
 refine AC ?_
 obtain rfl:=sm hm
 exact ret1v rfl (At rfl) ⟨hB.ext,(vInt (show inI64 (-1) from by decide))⟩
noncomputable def AZ (x0:List Job) (y0:Int):Option Bool :=
  bnd (bnd (Bu x0 y0) fun q10=>if 0≤q10 then (some true) else (some false):Option Bool) fun y6=>some y6
theorem EC {w:World} {A:Nat→Prop} (hA:∀ k,A k→k < w.heap.size) {vx0:Value} {x0:List Job} (b0:Vb w A vx0 x0) {py0:Nat} {csy0:List Value} {y0:Int} (hby0:Blk w py0 3 csy0) (hay0:A py0) (hcy0:Rp.R w A csy0 y0) {r:Bool} (hm:AZ x0 y0=some r) :
    Fn Tryz.prog 94 [vx0,(.func (.func 97) #[] #[(.pointer (some ⟨py0,0,none⟩))])] w fun v w'=>Ext w w'∧Vb w' (upA A w w') v r:=by
 obtain ⟨O,hB,c0⟩:=enter hA
 have hLy0:Lc 0 w O py0 3 csy0:=⟨hby0,(c0 py0 hay0).2⟩
 replace hcy0:=Rp.mono hcy0 c0
 obtain ⟨rfl,r3⟩:=hcy0
 replace b0:=b0.mono c0
 obtain ⟨A4,c5,rfl⟩:=b0.form
 refine AH Tryz.func94 rfl Tryz.ntmps94 ?_
 unfold AZ at hm
 refine Ab (Aa (Al rfl (o_z ?_)))
 refine Ab ?_
 obtain ⟨y6,a0,hm⟩:=bs hm
 refine Au (fun l' w'=>∃ (x9:Unit) (O':Lab),subs l' [(4,(.bool y6))]∧Bs w A w' O') ?_ ?_
 ·
  refine Aa (Ak rfl (Ak rfl ?_))
  obtain ⟨g0,h0,a0⟩:=bs a0
  refine AG (O:=O) (A:=All w) (R:=fun w' F v=>Vb w' F v g0) (EM (fun _ h=>h) (Vb.mono (F:=Fr 0 w O) b0 Fr.lt) hLy0.1 hLy0.1.lt (Rp.mono (F:=Fr 0 w O) (x:=y0) (Vb.cells1 (vInt r3)) Fr.lt) h0) rfl fun j0 k0 l0 f0 i0=>?_
  obtain ⟨rfl,m0⟩:=i0.int
  refine Fs rfl rfl (fun d0=>?_) fun d0=>?_
  ·
   replace a0:=ip a0 d0
   refine Al rfl (o_z ?_)
   obtain rfl:=sm a0
   exact ⟨(),_,⟨rfl,trivial⟩,hB.st f0⟩
  replace a0:=im a0 d0
  refine Al rfl (o_z ?_)
  obtain rfl:=sm a0
  exact ⟨(),_,⟨rfl,trivial⟩,hB.st f0⟩
 rintro n0 o0 ⟨x9,p0,e0,hB⟩
 refine AE _ e0 ?_
 refine AC ?_
 obtain rfl:=sm hm
 exact ret1v rfl (At rfl) ⟨hB.ext,vBool⟩
noncomputable def Dy (x0:Tpl):Option Lay :=
  bnd (Bw x0.vars) fun q29=>bnd (some q29:Option (List Int)) fun y31=>bnd (rng (ρ:=Lay) (fun (k81:Nat) (a82:Job) (s79:(List Int))=>bnd (chkI (a82.dur + 2)) fun n132=>bnd (appI 8 s79 ([n132,2]:List Int)) fun u141=>some (.next u141)) x0.jobs 0 y31) fun res77=>fin res77 fun (s158:(List Int))=>bnd (rng (ρ:=Lay) (fun (k166:Nat) (a167:Int) (s164:(List Int)×(List Int)×(List Int))=>bnd (bnd (AU x0.jobs (k166:Int)) fun q204=>if q204=true then bnd (appI 8 s164.2.2 [2]) fun u213=>bnd (AZ x0.jobs (k166:Int)) fun q227=>if q227=true then bnd (appI 8 u213 [2]) fun u236=>some ((s164.2.2.length:Int),(u213.length:Int),u236) else some ((s164.2.2.length:Int),(-1),u213) else some ((-1),(-1),s164.2.2):Option (Int×Int×(List Int))) fun y196=>bnd (appI 8 s164.1 ([y196.1]:List Int)) fun u254=>bnd (appI 8 s164.2.1 ([y196.2.1]:List Int)) fun u256=>some (.next (u254,u256,y196.2.2))) x0.vars 0 (([]:List Int),([]:List Int),s158)) fun res162=>fin res162 fun (s358:(List Int)×(List Int)×(List Int))=>bnd (chkI ((x0.jobs.length:Int) + 2)) fun n366=>bnd (appI 8 s358.2.2 [n366]) fun u369=>some (⟨(x0.vars.length:Int),s358.1,s358.2.1,(s358.2.2.length:Int),u369⟩:Lay)
theorem Of {w:World} {A:Nat→Prop} (hA:∀ k,A k→k < w.heap.size) {vx0:Value} {x0:Tpl} (g6:Vb w A vx0 x0) {r:Lay} (hm:Dy x0=some r) :
    Fn Tryz.prog 35 [vx0] w fun v w'=>Ext w w'∧Vb w' (upA A w w') v r:=by
 obtain ⟨O,hB,bA⟩:=enter hA
 replace g6:=g6.mono bA
 obtain ⟨cD,rfl,v3,v4,v5,v6,rfl,h7,a1,b1,p0⟩:=g6
 obtain ⟨A8,c9,rfl⟩:=h7.form
 obtain ⟨g2,h2,rfl⟩:=a1.form
 obtain ⟨i2,j2,rfl⟩:=b1.form
 obtain ⟨d2,e2,rfl⟩:=p0.form
 refine AH Tryz.func35 rfl Tryz.ntmps35 ?_
 unfold Dy at hm
 refine Ab (Aa (BQ 2 O rfl fun k2 cA q9 f2 o0=>?_))
 replace o0:Lc 2 cA q9 k2 26 [(.slice A8 x0.vars.length c9),(.slice g2 x0.init.length h2),(.slice i2 x0.goal.length j2),(.slice d2 x0.jobs.length e2)]:=o0
 refine AT 3 q9 fun l2 dD h6 a2 t0=>?_
 refine o_z ?_
 refine Ab ?_
 obtain ⟨r9,s9,hm⟩:=bs hm
 obtain ⟨i6,k4,hm⟩:=bs hm
 refine Au (fun l' w'=>∃ (u0:Nat×(Option Addr×Nat)) (O':Lab),subs l' [(1,(.pointer (some ⟨k2,0,none⟩))),(2,(.pointer (some ⟨l2,0,none⟩))),(3,(.pointer (some ⟨u0.1,0,none⟩)))]∧Bs w A w' O'∧Lc 2 w' O' k2 26 [(.slice A8 x0.vars.length c9),(.slice g2 x0.init.length h2),(.slice i2 x0.goal.length j2),(.slice d2 x0.jobs.length e2)]∧Vb w' (Fr 0 w' O') (.slice A8 x0.vars.length c9) x0.vars∧Vb w' (Fr 0 w' O') (.slice g2 x0.init.length h2) x0.init∧Vb w' (Fr 0 w' O') (.slice i2 x0.goal.length j2) x0.goal∧Vb w' (Fr 0 w' O') (.slice d2 x0.jobs.length e2) x0.jobs∧Lc 3 w' O' l2 74 [(.int .i64 0),(.slice none 0 0),(.slice none 0 0),(.int .i64 0),(.slice none 0 0)]∧Lc 5 w' O' u0.1 74 [(.int .i64 (x0.vars.length:Int)),(.slice none 0 0),(.slice none 0 0),(.int .i64 0),(.slice u0.2.1 i6.length u0.2.2)]∧Rw 4 w' O' 3 (.slice u0.2.1 i6.length u0.2.2) i6∧inI64 (x0.vars.length:Int)) ?_ ?_
 ·
  refine BP [] h6 ?_
  refine AM (fuel:=4) [] [(0,true),(1,true),(2,true),(3,true),(4,true)] rfl ?_
  refine Bo rfl rfl ?_
  replace o0:=o0.st a2
  refine BK (hc:=fun w' ⟨O',hq⟩=>Blk.cell (i:=0) ((o0.st hq (by decide)).1) rfl) rfl rfl ?_
  refine Nk rfl rfl rfl ?_
  replace h7:=(h7.st f2).st a2
  have dA:x0.vars.length≤9223372036854775807:=Nat.le_trans h7.len.2.1 h7.len.2.2
  have t9:inI64 (x0.vars.length:Int):=rngNat dA
  refine Bo rfl rfl (BK (hc:=fun w' ⟨O',hq⟩=>Blk.cell (i:=0) ((o0.st hq (by decide)).1) rfl) rfl rfl ?_)
  refine Ay ?_
  refine Ec (i:=5) (j:=7) rfl rfl ?_ ?_
  ·
   refine Dh 4 (O:=h6) (Dq Fr.lt h7 s9) rfl fun u9 v9 eD eA j3 fA=>?_
   have hZ:=j3.lst [] (fun _ h=>h.elim)
   refine AF [] hZ ?_
   refine AM (fuel:=2) [] [(6,true)] rfl ?_
   refine CE rfl rfl rfl ?_
   refine Ay ?_
   refine Ax (i:=7) rfl ?_
   refine AT 5 eA fun w9 fD gA w2 l4=>?_
   have hZ:=w2.lst [] (fun _ h=>h.elim)
   refine AF [] hZ ?_
   refine Ax (i:=8) rfl ?_
   refine AD l4 rfl rfl rfl (AL) (allOne) fun iA k3 l4=>?_
   replace l4:Lc 5 iA gA w9 74 [(.int .i64 (x0.vars.length:Int)),(.slice none 0 0),(.slice none 0 0),(.int .i64 0),(.slice u9 r9.length v9)]:=l4
   refine BL ?_
   refine BG ?_
   obtain rfl:=sm k4
   exact ⟨(w9,(u9,v9)),_,⟨rfl,rfl,rfl,trivial⟩,((((hB.st f2).st a2).st j3).st w2).st k3,((o0.st j3).st w2).st k3,((h7.st j3).st w2).st k3,((((a1.st f2).st a2).st j3).st w2).st k3,((((b1.st f2).st a2).st j3).st w2).st k3,((((p0.st f2).st a2).st j3).st w2).st k3,((t0.st j3).st w2).st k3,l4,(fA.st w2).st k3,t9⟩
  refine AT 5 h6 fun x9 gD jA l3 n3=>?_
  have hZ:=l3.lst [] (fun _ h=>h.elim)
  refine AF [] hZ ?_
  refine Ax (i:=5) rfl ?_
  replace h7:=h7.st l3
  refine Dh 4 (O:=jA) (Dq Fr.lt h7 s9) rfl fun y9 z9 hD kA x2 lA=>?_
  have hZ:=x2.lst [] (fun _ h=>h.elim)
  refine AF [] hZ ?_
  refine AM (fuel:=1) [] [(6,true)] rfl ?_
  refine CE rfl rfl rfl ?_
  refine Ay ?_
  refine Ax (i:=8) rfl ?_
  replace n3:=n3.st x2
  refine AD n3 rfl rfl rfl (AL) (allOne) fun mA m3 n3=>?_
  replace n3:Lc 5 mA kA x9 74 [(.int .i64 (x0.vars.length:Int)),(.slice none 0 0),(.slice none 0 0),(.int .i64 0),(.slice y9 r9.length z9)]:=n3
  refine BL ?_
  refine BG ?_
  obtain rfl:=sm k4
  exact ⟨(x9,(y9,z9)),_,⟨rfl,rfl,rfl,trivial⟩,((((hB.st f2).st a2).st l3).st x2).st m3,((o0.st l3).st x2).st m3,(h7.st x2).st m3,((((a1.st f2).st a2).st l3).st x2).st m3,((((b1.st f2).st a2).st l3).st x2).st m3,((((p0.st f2).st a2).st l3).st x2).st m3,((t0.st l3).st x2).st m3,n3,lA.st m3,t9⟩
 replace hB:=(hB.st f2).st a2
 replace h7:=(h7.st f2).st a2
 replace a1:=(a1.st f2).st a2
 replace b1:=(b1.st f2).st a2
 replace p0:=(p0.st f2).st a2
 replace o0:=o0.st a2
 rintro iD jD ⟨u0,nA,j6,hB,o0,h7,a1,b1,p0,t0,b0,oA,pA⟩
 refine AE _ j6 ?_
 refine Ab (Ab (Aa (AB rfl (Az (hc:=Blk.cell (i:=3) (o0.1) rfl) rfl ?_))))
 refine AR rfl ?_
 have k6:x0.jobs.length≤9223372036854775807:=Nat.le_trans p0.len.2.1 p0.len.2.2
 have kD:inI64 (x0.jobs.length:Int):=rngNat k6
 refine Ak rfl (o_z ?_)
 obtain ⟨m4,l6,hm⟩:=bs hm
 refine Au (aft m4 (fun (v2:(List Int)) (o2:(Option Addr×Nat))=>[(1,(.pointer (some ⟨k2,0,none⟩))),(2,(.pointer (some ⟨l2,0,none⟩))),(3,(.pointer (some ⟨u0.1,0,none⟩)))]) (fun v2 o2 w'=>∃ O':Lab,Bs w A w' O'∧Lc 2 w' O' k2 26 [(.slice A8 x0.vars.length c9),(.slice g2 x0.init.length h2),(.slice i2 x0.goal.length j2),(.slice d2 x0.jobs.length e2)]∧Vb w' (Fr 0 w' O') (.slice A8 x0.vars.length c9) x0.vars∧Vb w' (Fr 0 w' O') (.slice g2 x0.init.length h2) x0.init∧Vb w' (Fr 0 w' O') (.slice i2 x0.goal.length j2) x0.goal∧Vb w' (Fr 0 w' O') (.slice d2 x0.jobs.length e2) x0.jobs∧Lc 3 w' O' l2 74 [(.int .i64 0),(.slice none 0 0),(.slice none 0 0),(.int .i64 0),(.slice none 0 0)]∧Lc 5 w' O' u0.1 74 [(.int .i64 (x0.vars.length:Int)),(.slice none 0 0),(.slice none 0 0),(.int .i64 0),(.slice o2.1 v2.length o2.2)]∧Rw 4 w' O' 3 (.slice o2.1 v2.length o2.2) v2)) ?_ ?_
 ·
  refine AJ (Bh (σ:=(List Int)) (X:=(Option Addr×Nat)) (x0.jobs.length) l6 rfl k6 (fun (v2:(List Int)) (o2:(Option Addr×Nat))=>[(1,(.pointer (some ⟨k2,0,none⟩))),(2,(.pointer (some ⟨l2,0,none⟩))),(3,(.pointer (some ⟨u0.1,0,none⟩))),(17,(.slice d2 x0.jobs.length e2))]) _ (fun v2 o2 w'=>∃ O':Lab,Bs w A w' O'∧Lc 2 w' O' k2 26 [(.slice A8 x0.vars.length c9),(.slice g2 x0.init.length h2),(.slice i2 x0.goal.length j2),(.slice d2 x0.jobs.length e2)]∧Vb w' (Fr 0 w' O') (.slice A8 x0.vars.length c9) x0.vars∧Vb w' (Fr 0 w' O') (.slice g2 x0.init.length h2) x0.init∧Vb w' (Fr 0 w' O') (.slice i2 x0.goal.length j2) x0.goal∧Vb w' (Fr 0 w' O') (.slice d2 x0.jobs.length e2) x0.jobs∧Lc 3 w' O' l2 74 [(.int .i64 0),(.slice none 0 0),(.slice none 0 0),(.int .i64 0),(.slice none 0 0)]∧Lc 5 w' O' u0.1 74 [(.int .i64 (x0.vars.length:Int)),(.slice none 0 0),(.slice none 0 0),(.int .i64 0),(.slice o2.1 v2.length o2.2)]∧Rw 4 w' O' 3 (.slice o2.1 v2.length o2.2) v2) _ (u0.2.1,u0.2.2) ⟨nA,hB,o0,h7,a1,b1,p0,t0,b0,oA⟩ ⟨rfl,rfl,rfl,rfl,rfl,rfl,trivial⟩ (fun _ _=>⟨rfl,rfl⟩) (fun _ _=>⟨rfl,rfl,rfl,trivial⟩) (fun _ _ _ ⟨O',hB,o0,h7,a1,b1,p0,t0,b0,o3⟩=>⟨O',hB,o0,h7,a1,b1,p0,t0,b0,o3⟩) ⟨rfl,rfl,rfl⟩ ⟨rfl,rfl⟩ ?_)
  rintro qA p3 v2 o2 lD rA n4 ⟨sA,hB,o0,h7,a1,b1,p0,t0,b0,o3⟩ p2 m6 n6
  have rk81:inI64 (qA:Int):=rngK n4 k6
  refine Ab (Aa ?_)
  obtain ⟨mD,nD,tA,o6,o4,p4,uA,vA,wA,xA,yA,rfl,p6,q6,r6,s6,t6,zA,aB⟩:=p0.elem' n4
  obtain ⟨u6,w6,rfl⟩:=p6.form
  obtain ⟨x6,y6,rfl⟩:=q6.form
  obtain ⟨z6,a7,rfl⟩:=r6.form
  obtain ⟨b7,c7,rfl⟩:=s6.form
  obtain ⟨d7,e7,rfl⟩:=t6.form
  refine Bv (hA:=o6) (hj:=rfl) (hlt:=o4) rfl rfl ?_
  refine Bg (hl:=rfl) (hc:=p4) rfl ?_
  refine AT 6 sA fun f7 bB q4 t1 q2=>?_
  refine AD q2 rfl rfl rfl (AL) (allOne) fun g7 u1 q2=>?_
  replace q2:Lc 6 g7 q4 f7 66 [(.string p3.name),(.int .i64 p3.dur),(.slice u6 p3.start.length w6),(.slice x6 p3.over.length y6),(.slice z6 p3.fin.length a7),(.slice b7 p3.atStart.length c7),(.slice d7 p3.atEnd.length e7)]:=q2
  refine o_z ?_
  refine Aa (AB rfl ?_)
  replace b0:=(b0.st t1).st u1
  refine Az (hc:=Blk.cell (i:=4) (b0.1) rfl) rfl ?_
  refine AB rfl (Az (hc:=Blk.cell (i:=1) (q2.1) rfl) rfl ?_)
  obtain ⟨i7,r4,p2⟩:=bs p2
  have j7:=(AX r4)
  refine Dn (he:=r4) rfl rfl ?_
  refine AN 7 (by decide) q4 (xs:=(([i7,2]:List Int):List Int)) rfl rfl rfl ⟨(vInt j7),(vInt (show inI64 (2) from by decide)),trivial⟩ (by decide) (by decide) rfl fun cB dB eB v1 k7=>?_
  obtain ⟨l7,q3,p2⟩:=bs p2
  obtain ⟨q3,m7,n7⟩:=AO q3
  replace o3:=((o3.st t1).st u1).st v1
  refine BE rfl o3 (k7.rd) rfl rfl (by decide) m7 n7 rfl fun s4 t4 fB o7 y1 u4=>?_
  rw [← q3] at u4 ⊢
  refine AB rfl ?_
  replace b0:=(b0.st v1).st y1
  refine AD b0 rfl rfl rfl (AL) (allOne) fun p7 z1 b0=>?_
  replace b0:Lc 5 p7 o7 u0.1 74 [(.int .i64 (x0.vars.length:Int)),(.slice none 0 0),(.slice none 0 0),(.int .i64 0),(.slice s4 l7.length t4)]:=b0
  refine o_z ?_
  obtain rfl:=sm p2
  exact show Exists _ from ⟨_,(s4,t4),rfl,⟨rfl,rfl,rfl,rfl,rfl,rfl,trivial⟩,_,((((hB.st t1).st u1).st v1).st y1).st z1,((((o0.st t1).st u1).st v1).st y1).st z1,((((h7.st t1).st u1).st v1).st y1).st z1,((((a1.st t1).st u1).st v1).st y1).st z1,((((b1.st t1).st u1).st v1).st y1).st z1,((((p0.st t1).st u1).st v1).st y1).st z1,((((t0.st t1).st u1).st v1).st y1).st z1,b0,u4.st z1⟩
 rintro gB iB ⟨jB,w4,rfl,x4,q7,hB,o0,h7,a1,b1,p0,t0,b0,o3⟩
 replace hm:=AP hm
 refine AE _ x4 ?_
 refine Ab (Ab (Aa (AB rfl (Az (hc:=Blk.cell (i:=0) (o0.1) rfl) rfl ?_))))
 refine AR rfl ?_
 have r3:x0.vars.length≤9223372036854775807:=Nat.le_trans h7.len.2.1 h7.len.2.2
 have kB:inI64 (x0.vars.length:Int):=rngNat r3
 refine Ak rfl (o_z ?_)
 obtain ⟨s3,y4,hm⟩:=bs hm
 refine Au (aft s3 (fun (c0:(List Int)×(List Int)×(List Int)) (a0:(Option Addr×Nat)×(Option Addr×Nat)×(Option Addr×Nat))=>[(1,(.pointer (some ⟨k2,0,none⟩))),(2,(.pointer (some ⟨l2,0,none⟩))),(3,(.pointer (some ⟨u0.1,0,none⟩)))]) (fun c0 a0 w'=>∃ O':Lab,Bs w A w' O'∧Lc 2 w' O' k2 26 [(.slice A8 x0.vars.length c9),(.slice g2 x0.init.length h2),(.slice i2 x0.goal.length j2),(.slice d2 x0.jobs.length e2)]∧Vb w' (Fr 0 w' O') (.slice A8 x0.vars.length c9) x0.vars∧Vb w' (Fr 0 w' O') (.slice g2 x0.init.length h2) x0.init∧Vb w' (Fr 0 w' O') (.slice i2 x0.goal.length j2) x0.goal∧Vb w' (Fr 0 w' O') (.slice d2 x0.jobs.length e2) x0.jobs∧Lc 3 w' O' l2 74 [(.int .i64 0),(.slice none 0 0),(.slice none 0 0),(.int .i64 0),(.slice none 0 0)]∧Lc 5 w' O' u0.1 74 [(.int .i64 (x0.vars.length:Int)),(.slice a0.1.1 c0.1.length a0.1.2),(.slice a0.2.1.1 c0.2.1.length a0.2.1.2),(.int .i64 0),(.slice a0.2.2.1 c0.2.2.length a0.2.2.2)]∧Rw 10 w' O' 3 (.slice a0.1.1 c0.1.length a0.1.2) c0.1∧Rw 12 w' O' 3 (.slice a0.2.1.1 c0.2.1.length a0.2.1.2) c0.2.1∧Rw 4 w' O' 3 (.slice a0.2.2.1 c0.2.2.length a0.2.2.2) c0.2.2)) ?_ ?_
 ·
  refine AJ (Bh (σ:=(List Int)×(List Int)×(List Int)) (X:=(Option Addr×Nat)×(Option Addr×Nat)×(Option Addr×Nat)) (x0.vars.length) y4 rfl r3 (fun (c0:(List Int)×(List Int)×(List Int)) (a0:(Option Addr×Nat)×(Option Addr×Nat)×(Option Addr×Nat))=>[(1,(.pointer (some ⟨k2,0,none⟩))),(2,(.pointer (some ⟨l2,0,none⟩))),(3,(.pointer (some ⟨u0.1,0,none⟩)))]) _ (fun c0 a0 w'=>∃ O':Lab,Bs w A w' O'∧Lc 2 w' O' k2 26 [(.slice A8 x0.vars.length c9),(.slice g2 x0.init.length h2),(.slice i2 x0.goal.length j2),(.slice d2 x0.jobs.length e2)]∧Vb w' (Fr 0 w' O') (.slice A8 x0.vars.length c9) x0.vars∧Vb w' (Fr 0 w' O') (.slice g2 x0.init.length h2) x0.init∧Vb w' (Fr 0 w' O') (.slice i2 x0.goal.length j2) x0.goal∧Vb w' (Fr 0 w' O') (.slice d2 x0.jobs.length e2) x0.jobs∧Lc 3 w' O' l2 74 [(.int .i64 0),(.slice none 0 0),(.slice none 0 0),(.int .i64 0),(.slice none 0 0)]∧Lc 5 w' O' u0.1 74 [(.int .i64 (x0.vars.length:Int)),(.slice a0.1.1 c0.1.length a0.1.2),(.slice a0.2.1.1 c0.2.1.length a0.2.1.2),(.int .i64 0),(.slice a0.2.2.1 c0.2.2.length a0.2.2.2)]∧Rw 10 w' O' 3 (.slice a0.1.1 c0.1.length a0.1.2) c0.1∧Rw 12 w' O' 3 (.slice a0.2.1.1 c0.2.1.length a0.2.1.2) c0.2.1∧Rw 4 w' O' 3 (.slice a0.2.2.1 c0.2.2.length a0.2.2.2) c0.2.2) _ ((none,0),(none,0),(w4.1,w4.2)) ⟨q7,hB,o0,h7,a1,b1,p0,t0,b0,(Rw.nil 10 (by decide)),(Rw.nil 12 (by decide)),o3⟩ ⟨rfl,rfl,rfl,rfl,rfl,trivial⟩ (fun _ _=>⟨rfl,rfl⟩) (fun _ _=>⟨rfl,rfl,rfl,trivial⟩) (fun _ _ _ ⟨O',hB,o0,h7,a1,b1,p0,t0,b0,h0,i0,v0⟩=>⟨O',hB,o0,h7,a1,b1,p0,t0,b0,h0,i0,v0⟩) ⟨rfl,rfl,rfl⟩ ⟨rfl,rfl⟩ ?_)
  rintro r2 lB c0 a0 mB aA z4 ⟨r7,hB,o0,h7,a1,b1,p0,t0,b0,h0,i0,v0⟩ w0 e6 f6
  have rk166:inI64 (r2:Int):=rngK z4 r3
  refine Ab (Aa (Ak rfl (AT 8 r7 fun s7 nB y2 d0 n1=>?_)))
  refine AD n1 rfl rfl rfl (AL) (allOne) fun z2 e0 n1=>?_
  replace n1:Lc 8 z2 y2 s7 3 [(.int .i64 (r2:Int))]:=n1
  refine o_z ?_
  refine Ab (Aa (Al rfl (Al rfl (o_z ?_))))
  refine Ab ?_
  obtain ⟨r0,g0,w0⟩:=bs w0
  refine Au (fun l' w'=>∃ (j0:(Option Addr×Nat)) (O':Lab),subs l' [(1,(.pointer (some ⟨k2,0,none⟩))),(2,(.pointer (some ⟨l2,0,none⟩))),(3,(.pointer (some ⟨u0.1,0,none⟩))),(7,(.int .i64 r0.1)),(8,(.int .i64 r0.2.1)),(34,(.int .i64 (x0.vars.length:Int))),(35,(.int .i64 (r2:Int)))]∧Bs w A w' O'∧Lc 2 w' O' k2 26 [(.slice A8 x0.vars.length c9),(.slice g2 x0.init.length h2),(.slice i2 x0.goal.length j2),(.slice d2 x0.jobs.length e2)]∧Vb w' (Fr 0 w' O') (.slice A8 x0.vars.length c9) x0.vars∧Vb w' (Fr 0 w' O') (.slice g2 x0.init.length h2) x0.init∧Vb w' (Fr 0 w' O') (.slice i2 x0.goal.length j2) x0.goal∧Vb w' (Fr 0 w' O') (.slice d2 x0.jobs.length e2) x0.jobs∧Lc 3 w' O' l2 74 [(.int .i64 0),(.slice none 0 0),(.slice none 0 0),(.int .i64 0),(.slice none 0 0)]∧Lc 5 w' O' u0.1 74 [(.int .i64 (x0.vars.length:Int)),(.slice a0.1.1 c0.1.length a0.1.2),(.slice a0.2.1.1 c0.2.1.length a0.2.1.2),(.int .i64 0),(.slice j0.1 r0.2.2.length j0.2)]∧Rw 10 w' O' 3 (.slice a0.1.1 c0.1.length a0.1.2) c0.1∧Rw 12 w' O' 3 (.slice a0.2.1.1 c0.2.1.length a0.2.1.2) c0.2.1∧Rw 4 w' O' 3 (.slice j0.1 r0.2.2.length j0.2) r0.2.2∧inI64 r0.1∧inI64 r0.2.1) ?_ ?_
  ·
   refine Ab (Aa (AB rfl ?_))
   replace o0:=(o0.st d0).st e0
   refine Az (hc:=Blk.cell (i:=3) (o0.1) rfl) rfl ?_
   refine LY rfl rfl ?_
   obtain ⟨a5,t7,g0⟩:=bs g0
   replace p0:=(p0.st d0).st e0
   refine AG (O:=y2) (A:=All z2) (R:=fun w' F v=>Vb w' F v a5) (EB (fun _ h=>h) (Vb.mono (F:=Fr 0 z2 y2) p0 Fr.lt) n1.1 n1.1.lt (Rp.mono (F:=Fr 0 z2 y2) (x:=(r2:Int)) (Vb.cells1 (vInt rk166)) Fr.lt) t7) rfl fun oB pB qB f0 u7=>?_
   obtain rfl:=u7.bool
   cases a5
   case false =>
    replace g0:=iF g0
    refine o_z ?_
    refine Ah rfl (AK ?_)
    obtain rfl:=sm g0
    exact ⟨(a0.2.2.1,a0.2.2.2),_,⟨rfl,rfl,rfl,rfl,rfl,rfl,rfl,trivial⟩,((hB.st d0).st e0).st f0,o0.st f0,((h7.st d0).st e0).st f0,((a1.st d0).st e0).st f0,((b1.st d0).st e0).st f0,p0.st f0,((t0.st d0).st e0).st f0,((b0.st d0).st e0).st f0,((h0.st d0).st e0).st f0,((i0.st d0).st e0).st f0,((v0.st d0).st e0).st f0,(show inI64 (-1) from by decide),(show inI64 (-1) from by decide)⟩
   replace g0:=iT g0
   refine o_z ?_
   refine Aj rfl (Ab (Aa (AB rfl ?_)))
   replace b0:=((b0.st d0).st e0).st f0
   refine Az (hc:=Blk.cell (i:=4) (b0.1) rfl) rfl ?_
   refine AR rfl ?_
   replace v0:=((v0.st d0).st e0).st f0
   have v7:c0.2.2.length≤9223372036854775807:=Nat.le_trans v0.len.2.1 v0.len.2.2
   have b5:inI64 (c0.2.2.length:Int):=rngNat v7
   refine Al rfl (o_z ?_)
   refine Ab (Aa (AB rfl (Az (hc:=Blk.cell (i:=4) (b0.1) rfl) rfl ?_)))
   obtain ⟨t3,u3,g0⟩:=bs g0
   obtain ⟨u3,w7,x7⟩:=AO u3
   refine Co rfl (a:=2) v0 (vInt (show inI64 (2) from by decide)) (fun _=>rfl) rfl w7 x7 ⟨rfl,rfl⟩ fun rB c5 d5 sB a3 s0 b2=>?_
   rw [← u3] at b2 ⊢
   refine AB rfl ?_
   replace b0:=b0.st s0
   refine AD b0 rfl rfl rfl (AL) (allOne) fun b3 q0 b0=>?_
   replace b0:Lc 5 b3 a3 u0.1 74 [(.int .i64 (x0.vars.length:Int)),(.slice a0.1.1 c0.1.length a0.1.2),(.slice a0.2.1.1 c0.2.1.length a0.2.1.2),(.int .i64 0),(.slice c5 t3.length d5)]:=b0
   refine o_z ?_
   refine Ab (Aa (AB rfl ?_))
   replace o0:=((o0.st f0).st s0).st q0
   refine Az (hc:=Blk.cell (i:=3) (o0.1) rfl) rfl ?_
   refine LY rfl rfl ?_
   obtain ⟨e5,y7,g0⟩:=bs g0
   replace p0:=((p0.st f0).st s0).st q0
   replace n1:=((n1.st f0).st s0).st q0
   refine AG (O:=a3) (A:=All b3) (R:=fun w' F v=>Vb w' F v e5) (EC (fun _ h=>h) (Vb.mono (F:=Fr 0 b3 a3) p0 Fr.lt) n1.1 n1.1.lt (Rp.mono (F:=Fr 0 b3 a3) (x:=(r2:Int)) (Vb.cells1 (vInt rk166)) Fr.lt) y7) rfl fun tB uB vB l0 z7=>?_
   obtain rfl:=z7.bool
   cases e5
   case false =>
    replace g0:=iF g0
    refine o_z ?_
    refine Ah rfl (AK ?_)
    obtain rfl:=sm g0
    exact ⟨(c5,d5),_,⟨rfl,rfl,rfl,rfl,rfl,rfl,rfl,trivial⟩,(((((hB.st d0).st e0).st f0).st s0).st q0).st l0,o0.st l0,(((((h7.st d0).st e0).st f0).st s0).st q0).st l0,(((((a1.st d0).st e0).st f0).st s0).st q0).st l0,(((((b1.st d0).st e0).st f0).st s0).st q0).st l0,p0.st l0,(((((t0.st d0).st e0).st f0).st s0).st q0).st l0,b0.st l0,(((((h0.st d0).st e0).st f0).st s0).st q0).st l0,(((((i0.st d0).st e0).st f0).st s0).st q0).st l0,(b2.st q0).st l0,b5,(show inI64 (-1) from by decide)⟩
   replace g0:=iT g0
   refine o_z ?_
   refine Aj rfl (Ab (Aa (AB rfl ?_)))
   replace b0:=b0.st l0
   refine Az (hc:=Blk.cell (i:=4) (b0.1) rfl) rfl ?_
   refine AR rfl ?_
   replace b2:=(b2.st q0).st l0
   have a8:t3.length≤9223372036854775807:=Nat.le_trans b2.len.2.1 b2.len.2.2
   have b8:inI64 (t3.length:Int):=rngNat a8
   refine Al rfl (o_z ?_)
   refine Aa (AB rfl (Az (hc:=Blk.cell (i:=4) (b0.1) rfl) rfl ?_))
   obtain ⟨c8,w3,g0⟩:=bs g0
   obtain ⟨w3,d8,e8⟩:=AO w3
   refine Co rfl (a:=2) b2 (vInt (show inI64 (2) from by decide)) (fun _=>rfl) rfl d8 e8 ⟨rfl,rfl⟩ fun wB f5 g5 xB f8 o1 h5=>?_
   rw [← w3] at h5 ⊢
   refine AB rfl ?_
   replace b0:=b0.st o1
   refine AD b0 rfl rfl rfl (AL) (allOne) fun g8 p1 b0=>?_
   replace b0:Lc 5 g8 f8 u0.1 74 [(.int .i64 (x0.vars.length:Int)),(.slice a0.1.1 c0.1.length a0.1.2),(.slice a0.2.1.1 c0.2.1.length a0.2.1.2),(.int .i64 0),(.slice f5 c8.length g5)]:=b0
   refine o_z ?_
   obtain rfl:=sm g0
   exact ⟨(f5,g5),_,⟨rfl,rfl,rfl,rfl,rfl,rfl,rfl,trivial⟩,(((((((hB.st d0).st e0).st f0).st s0).st q0).st l0).st o1).st p1,((o0.st l0).st o1).st p1,(((((((h7.st d0).st e0).st f0).st s0).st q0).st l0).st o1).st p1,(((((((a1.st d0).st e0).st f0).st s0).st q0).st l0).st o1).st p1,(((((((b1.st d0).st e0).st f0).st s0).st q0).st l0).st o1).st p1,((p0.st l0).st o1).st p1,(((((((t0.st d0).st e0).st f0).st s0).st q0).st l0).st o1).st p1,b0,(((((((h0.st d0).st e0).st f0).st s0).st q0).st l0).st o1).st p1,(((((((i0.st d0).st e0).st f0).st s0).st q0).st l0).st o1).st p1,h5.st p1,b5,b8⟩
  replace hB:=(hB.st d0).st e0
  replace h7:=(h7.st d0).st e0
  replace a1:=(a1.st d0).st e0
  replace b1:=(b1.st d0).st e0
  replace p0:=(p0.st d0).st e0
  replace o0:=(o0.st d0).st e0
  replace t0:=(t0.st d0).st e0
  replace b0:=(b0.st d0).st e0
  replace h0:=(h0.st d0).st e0
  replace i0:=(i0.st d0).st e0
  rintro yB zB ⟨j0,x3,i5,hB,o0,h7,a1,b1,p0,t0,b0,h0,i0,y3,j5,z3⟩
  refine AE _ i5 ?_
  obtain ⟨m2,w1,w0⟩:=bs w0
  obtain ⟨a4,x1,w0⟩:=bs w0
  refine BP [(4,[10]),(9,[12]),(11,[5])] x3 ?_
  refine AM (fuel:=11) [] [(0,true),(1,true),(2,true)] rfl ?_
  refine Bo rfl rfl (BK (hc:=fun w' ⟨O',hq⟩=>Blk.cell (i:=1) ((b0.st hq (by decide)).1) rfl) rfl rfl ?_)
  refine Bp rfl rfl (Ay ?_)
  refine AM (fuel:=8) [10] [(5,true),(6,true),(7,true)] rfl ?_
  refine Bo rfl rfl (BK (hc:=fun w' ⟨O',hq⟩=>Blk.cell (i:=2) ((b0.st hq (by decide)).1) rfl) rfl rfl ?_)
  refine Bp rfl rfl (Ay ?_)
  refine Ec (i:=3) (j:=8) rfl rfl ?_ ?_
  ·
   refine AN 9 (by decide) x3 (xs:=(([r0.1]:List Int):List Int)) rfl rfl rfl ⟨(vInt j5),trivial⟩ (by decide) (by decide) rfl fun aC bC h8 k0 c3=>?_
   have hZ:=k0.lst [] (fun _ h=>h.elim)
   refine AF [(4,[10]),(9,[12]),(11,[5])] hZ ?_
   refine Ec (i:=4) (j:=8) rfl rfl ?_ ?_
   ·
    obtain ⟨w1,i8,j8⟩:=AO w1
    replace h0:=h0.st k0
    refine BE rfl h0 (c3.rd) rfl rfl (by decide) i8 j8 rfl fun b4 c4 cC k8 g1 k5=>?_
    rw [← w1] at k5 ⊢
    have hZ:=g1.lst [10] (fun _ h=>by cases h;decide)
    refine AF [(9,[12]),(11,[5])] hZ ?_
    refine AM (fuel:=5) [12] [(10,true)] rfl ?_
    refine Bo rfl rfl (Ay ?_)
    refine Ax (i:=8) rfl ?_
    refine AN 11 (by decide) k8 (xs:=(([r0.2.1]:List Int):List Int)) rfl rfl rfl ⟨(vInt z3),trivial⟩ (by decide) (by decide) rfl fun dC eC fC c1 l8=>?_
    have hZ:=c1.lst [] (fun _ h=>h.elim)
    refine AF [(9,[12]),(11,[5])] hZ ?_
    refine Ax (i:=9) rfl ?_
    obtain ⟨x1,m8,n8⟩:=AO x1
    replace i0:=((i0.st k0).st g1).st c1
    refine BE rfl i0 (l8.rd) rfl rfl (by decide) m8 n8 rfl fun l5 m5 gC n5 h1 o5=>?_
    rw [← x1] at o5 ⊢
    have hZ:=h1.lst [12] (fun _ h=>by cases h;decide)
    refine AF [(11,[5])] hZ ?_
    refine Ax (i:=11) rfl ?_
    replace b0:=(((b0.st k0).st g1).st c1).st h1
    refine AD b0 rfl rfl rfl (AL) (allOne) fun o8 i1 b0=>?_
    replace b0:Lc 5 o8 n5 u0.1 74 [(.int .i64 (x0.vars.length:Int)),(.slice b4 m2.length c4),(.slice a0.2.1.1 c0.2.1.length a0.2.1.2),(.int .i64 0),(.slice j0.1 r0.2.2.length j0.2)]:=b0
    have hZ:=i1.lst [5] (fun _ h=>by cases h;decide)
    refine AF [] hZ ?_
    refine AM (fuel:=1) [] [(12,true)] rfl ?_
    refine Bo rfl rfl (Ay ?_)
    refine Ax (i:=13) rfl ?_
    refine AD b0 rfl rfl rfl (AL) (allOne) fun p8 q1 b0=>?_
    replace b0:Lc 5 p8 n5 u0.1 74 [(.int .i64 (x0.vars.length:Int)),(.slice b4 m2.length c4),(.slice l5 a4.length m5),(.int .i64 0),(.slice j0.1 r0.2.2.length j0.2)]:=b0
    refine BL ?_
    refine BG ?_
    obtain rfl:=sm w0
    exact show Exists _ from ⟨_,((b4,c4),(l5,m5),(j0.1,j0.2)),rfl,⟨rfl,rfl,rfl,rfl,rfl,trivial⟩,_,(((((hB.st k0).st g1).st c1).st h1).st i1).st q1,(((((o0.st k0).st g1).st c1).st h1).st i1).st q1,(((((h7.st k0).st g1).st c1).st h1).st i1).st q1,(((((a1.st k0).st g1).st c1).st h1).st i1).st q1,(((((b1.st k0).st g1).st c1).st h1).st i1).st q1,(((((p0.st k0).st g1).st c1).st h1).st i1).st q1,(((((t0.st k0).st g1).st c1).st h1).st i1).st q1,b0,(((k5.st c1).st h1).st i1).st q1,(o5.st i1).st q1,(((((y3.st k0).st g1).st c1).st h1).st i1).st q1⟩
   refine AN 11 (by decide) h8 (xs:=(([r0.2.1]:List Int):List Int)) rfl rfl rfl ⟨(vInt z3),trivial⟩ (by decide) (by decide) rfl fun hC iC jC y0 d4=>?_
   have hZ:=y0.lst [] (fun _ h=>h.elim)
   refine AF [(4,[10]),(9,[12]),(11,[5])] hZ ?_
   refine Ax (i:=4) rfl ?_
   obtain ⟨w1,q8,r8⟩:=AO w1
   replace h0:=(h0.st k0).st y0
   replace c3:=c3.st y0
   refine BE rfl h0 (c3.rd) rfl rfl (by decide) q8 r8 rfl fun e4 f4 kC lC d1 p5=>?_
   rw [← w1] at p5 ⊢
   have hZ:=d1.lst [10] (fun _ h=>by cases h;decide)
   refine AF [(9,[12]),(11,[5])] hZ ?_
   refine AM (fuel:=4) [12] [(10,true)] rfl ?_
   refine Bo rfl rfl (Ay ?_)
   refine Ax (i:=9) rfl ?_
   obtain ⟨x1,s8,t8⟩:=AO x1
   replace i0:=((i0.st k0).st y0).st d1
   replace d4:=d4.st d1
   refine BE rfl i0 (d4.rd) rfl rfl (by decide) s8 t8 rfl fun q5 r5 mC s5 j1 t5=>?_
   rw [← x1] at t5 ⊢
   have hZ:=j1.lst [12] (fun _ h=>by cases h;decide)
   refine AF [(11,[5])] hZ ?_
   refine Ax (i:=11) rfl ?_
   replace b0:=(((b0.st k0).st y0).st d1).st j1
   refine AD b0 rfl rfl rfl (AL) (allOne) fun u8 k1 b0=>?_
   replace b0:Lc 5 u8 s5 u0.1 74 [(.int .i64 (x0.vars.length:Int)),(.slice e4 m2.length f4),(.slice a0.2.1.1 c0.2.1.length a0.2.1.2),(.int .i64 0),(.slice j0.1 r0.2.2.length j0.2)]:=b0
   have hZ:=k1.lst [5] (fun _ h=>by cases h;decide)
   refine AF [] hZ ?_
   refine AM (fuel:=1) [] [(12,true)] rfl ?_
   refine Bo rfl rfl (Ay ?_)
   refine Ax (i:=13) rfl ?_
   refine AD b0 rfl rfl rfl (AL) (allOne) fun v8 r1 b0=>?_
   replace b0:Lc 5 v8 s5 u0.1 74 [(.int .i64 (x0.vars.length:Int)),(.slice e4 m2.length f4),(.slice q5 a4.length r5),(.int .i64 0),(.slice j0.1 r0.2.2.length j0.2)]:=b0
   refine BL ?_
   refine BG ?_
   obtain rfl:=sm w0
   exact show Exists _ from ⟨_,((e4,f4),(q5,r5),(j0.1,j0.2)),rfl,⟨rfl,rfl,rfl,rfl,rfl,trivial⟩,_,(((((hB.st k0).st y0).st d1).st j1).st k1).st r1,(((((o0.st k0).st y0).st d1).st j1).st k1).st r1,(((((h7.st k0).st y0).st d1).st j1).st k1).st r1,(((((a1.st k0).st y0).st d1).st j1).st k1).st r1,(((((b1.st k0).st y0).st d1).st j1).st k1).st r1,(((((p0.st k0).st y0).st d1).st j1).st k1).st r1,(((((t0.st k0).st y0).st d1).st j1).st k1).st r1,b0,((p5.st j1).st k1).st r1,(t5.st k1).st r1,(((((y3.st k0).st y0).st d1).st j1).st k1).st r1⟩
  refine AN 11 (by decide) x3 (xs:=(([r0.2.1]:List Int):List Int)) rfl rfl rfl ⟨(vInt z3),trivial⟩ (by decide) (by decide) rfl fun nC oC w8 e1 g4=>?_
  have hZ:=e1.lst [] (fun _ h=>h.elim)
  refine AF [(4,[10]),(9,[12]),(11,[5])] hZ ?_
  refine Ax (i:=3) rfl ?_
  refine AN 9 (by decide) w8 (xs:=(([r0.1]:List Int):List Int)) rfl rfl rfl ⟨(vInt j5),trivial⟩ (by decide) (by decide) rfl fun pC qC rC z0 x8=>?_
  have hZ:=z0.lst [] (fun _ h=>h.elim)
  refine AF [(4,[10]),(9,[12]),(11,[5])] hZ ?_
  refine Ax (i:=4) rfl ?_
  obtain ⟨w1,y8,z8⟩:=AO w1
  replace h0:=(h0.st e1).st z0
  refine BE rfl h0 (x8.rd) rfl rfl (by decide) y8 z8 rfl fun h4 i4 sC tC f1 u5=>?_
  rw [← w1] at u5 ⊢
  have hZ:=f1.lst [10] (fun _ h=>by cases h;decide)
  refine AF [(9,[12]),(11,[5])] hZ ?_
  refine AM (fuel:=4) [12] [(10,true)] rfl ?_
  refine Bo rfl rfl (Ay ?_)
  refine Ax (i:=9) rfl ?_
  obtain ⟨x1,a9,b9⟩:=AO x1
  replace i0:=((i0.st e1).st z0).st f1
  replace g4:=(g4.st z0).st f1
  refine BE rfl i0 (g4.rd) rfl rfl (by decide) a9 b9 rfl fun w5 x5 uC y5 l1 z5=>?_
  rw [← x1] at z5 ⊢
  have hZ:=l1.lst [12] (fun _ h=>by cases h;decide)
  refine AF [(11,[5])] hZ ?_
  refine Ax (i:=11) rfl ?_
  replace b0:=(((b0.st e1).st z0).st f1).st l1
  refine AD b0 rfl rfl rfl (AL) (allOne) fun d9 m1 b0=>?_
  replace b0:Lc 5 d9 y5 u0.1 74 [(.int .i64 (x0.vars.length:Int)),(.slice h4 m2.length i4),(.slice a0.2.1.1 c0.2.1.length a0.2.1.2),(.int .i64 0),(.slice j0.1 r0.2.2.length j0.2)]:=b0
  have hZ:=m1.lst [5] (fun _ h=>by cases h;decide)
  refine AF [] hZ ?_
  refine AM (fuel:=1) [] [(12,true)] rfl ?_
  refine Bo rfl rfl (Ay ?_)
  refine Ax (i:=13) rfl ?_
  refine AD b0 rfl rfl rfl (AL) (allOne) fun e9 s1 b0=>?_
  replace b0:Lc 5 e9 y5 u0.1 74 [(.int .i64 (x0.vars.length:Int)),(.slice h4 m2.length i4),(.slice w5 a4.length x5),(.int .i64 0),(.slice j0.1 r0.2.2.length j0.2)]:=b0
  refine BL ?_
  refine BG ?_
  obtain rfl:=sm w0
  exact show Exists _ from ⟨_,((h4,i4),(w5,x5),(j0.1,j0.2)),rfl,⟨rfl,rfl,rfl,rfl,rfl,trivial⟩,_,(((((hB.st e1).st z0).st f1).st l1).st m1).st s1,(((((o0.st e1).st z0).st f1).st l1).st m1).st s1,(((((h7.st e1).st z0).st f1).st l1).st m1).st s1,(((((a1.st e1).st z0).st f1).st l1).st m1).st s1,(((((b1.st e1).st z0).st f1).st l1).st m1).st s1,(((((p0.st e1).st z0).st f1).st l1).st m1).st s1,(((((t0.st e1).st z0).st f1).st l1).st m1).st s1,b0,((u5.st l1).st m1).st s1,(z5.st m1).st s1,(((((y3.st e1).st z0).st f1).st l1).st m1).st s1⟩
 rintro vC wC ⟨n0,m0,rfl,a6,f9,hB,o0,h7,a1,b1,p0,t0,b0,h0,i0,v0⟩
 replace hm:=AP hm
 refine AE _ a6 ?_
 refine Ab (Aa (AB rfl (Az (hc:=Blk.cell (i:=4) (b0.1) rfl) rfl ?_)))
 refine AR rfl ?_
 have g9:n0.2.2.length≤9223372036854775807:=Nat.le_trans v0.len.2.1 v0.len.2.2
 have h9:inI64 (n0.2.2.length:Int):=rngNat g9
 refine AB rfl (AD b0 rfl rfl rfl (AL) (allOne) fun i9 c2 b0=>?_)
 replace b0:Lc 5 i9 f9 u0.1 74 [(.int .i64 (x0.vars.length:Int)),(.slice m0.1.1 n0.1.length m0.1.2),(.slice m0.2.1.1 n0.2.1.length m0.2.1.2),(.int .i64 (n0.2.2.length:Int)),(.slice m0.2.2.1 n0.2.2.length m0.2.2.2)]:=b0
 refine o_z ?_
 refine Ab (Aa (AB rfl (Az (hc:=Blk.cell (i:=4) (b0.1) rfl) rfl ?_)))
 refine AB rfl ?_
 replace o0:=o0.st c2
 refine Az (hc:=Blk.cell (i:=3) (o0.1) rfl) rfl ?_
 refine AR rfl ?_
 replace p0:=p0.st c2
 have j9:x0.jobs.length≤9223372036854775807:=Nat.le_trans p0.len.2.1 p0.len.2.2
 have xC:inI64 (x0.jobs.length:Int):=rngNat j9
 obtain ⟨k9,b6,hm⟩:=bs hm
 have l9:=(AX b6)
 refine Dn (he:=b6) rfl rfl ?_
 obtain ⟨s2,j4,hm⟩:=bs hm
 obtain ⟨j4,m9,n9⟩:=AO j4
 replace v0:=v0.st c2
 refine Co rfl (a:=k9) v0 (vInt l9) (fun _=>rfl) rfl m9 n9 ⟨rfl,rfl⟩ fun yC d3 e3 zC c6 t2 n2=>?_
 rw [← j4] at n2 ⊢
 refine AB rfl ?_
 replace b0:=b0.st t2
 refine AD b0 rfl rfl rfl (AL) (allOne) fun o9 u2 b0=>?_
 replace b0:Lc 5 o9 c6 u0.1 74 [(.int .i64 (x0.vars.length:Int)),(.slice m0.1.1 n0.1.length m0.1.2),(.slice m0.2.1.1 n0.2.1.length m0.2.1.2),(.int .i64 (n0.2.2.length:Int)),(.slice d3 s2.length e3)]:=b0
 refine o_z ?_
 refine Ab (Aa (Bg (hl:=rfl) (hc:=(b0.1).cellsAt) rfl ?_))
 replace t0:=((t0.st c2).st t2).st u2
 refine AD t0 rfl rfl rfl (AL) (allOne) fun d6 f3 t0=>?_
 replace t0:Lc 3 d6 c6 l2 74 [(.int .i64 (x0.vars.length:Int)),(.slice m0.1.1 n0.1.length m0.1.2),(.slice m0.2.1.1 n0.2.1.length m0.2.1.2),(.int .i64 (n0.2.2.length:Int)),(.slice d3 s2.length e3)]:=t0
 refine o_z ?_
 refine AC ?_
 replace h0:=(((h0.st c2).st t2).st u2).st f3
 obtain ⟨aD,g3,h0⟩:=h0.freeze
 replace i0:=((((i0.st c2).st t2).st u2).st f3).st g3
 obtain ⟨bD,h3,i0⟩:=i0.freeze
 replace n2:=(((n2.st u2).st f3).st g3).st h3
 obtain ⟨p9,i3,n2⟩:=n2.freeze
 obtain rfl:=sm hm
 replace hB:=((((((hB.st c2).st t2).st u2).st f3).st g3).st h3).st i3
 replace t0:=((t0.st g3).st h3).st i3
 replace h0:=(h0.st h3).st i3
 replace i0:=i0.st i3
 exact ret1v rfl (Gn (cs:=[(.int .i64 (x0.vars.length:Int)),(.slice m0.1.1 n0.1.length m0.1.2),(.slice m0.2.1.1 n0.2.1.length m0.2.1.2),(.int .i64 (n0.2.2.length:Int)),(.slice d3 s2.length e3)]) rfl rfl t0.1.cellsAt) ⟨hB.ext,(Vb.mono (F:=Fr 0 d6 p9) (Vb.ofAgg (cs:=[(.int .i64 (x0.vars.length:Int)),(.slice m0.1.1 n0.1.length m0.1.2),(.slice m0.2.1.1 n0.2.1.length m0.2.1.2),(.int .i64 (n0.2.2.length:Int)),(.slice d3 s2.length e3)]) (x:=(⟨(x0.vars.length:Int),n0.1,n0.2.1,(n0.2.2.length:Int),s2⟩:Lay)) rfl ⟨_,_,_,rfl,h0,i0,n2,pA,h9⟩) hB.out)⟩
noncomputable def BF (x0:Lay) (x1:Int):Option Int :=
  bnd (chkI (2 * x1)) fun n23=>bnd (chkI (x0.jobs + n23)) fun n26=>some n26
theorem BC {w:World} {A:Nat→Prop} (hA:∀ k,A k→k < w.heap.size) {vx0:Value} {x0:Lay} (a0:Vb w A vx0 x0) {x1:Int} (rx1:inI64 x1) {r:Int} (hm:BF x0 x1=some r) :
    Fn Tryz.prog 37 [vx0,(.int .i64 x1)] w fun v w'=>Ext w w'∧Vb w' (upA A w w') v r:=by
 obtain ⟨O,hB,e0⟩:=enter hA
 replace a0:=a0.mono e0
 obtain ⟨q0,rfl,v4,v5,v6,rfl,h7,f0,g0,r0,s0⟩:=a0
 obtain ⟨A8,c9,rfl⟩:=h7.form
 obtain ⟨h0,i0,rfl⟩:=f0.form
 obtain ⟨j0,k0,rfl⟩:=g0.form
 refine AH Tryz.func37 rfl Tryz.ntmps37 ?_
 unfold BF at hm
 refine Ab (Aa (BQ 2 O rfl fun l0 m0 n0 o0 b0=>?_))
 replace b0:Lc 2 m0 n0 l0 74 [(.int .i64 x0.jobs),(.slice A8 x0.write.length c9),(.slice h0 x0.read.length i0),(.int .i64 x0.phase),(.slice j0 x0.vars.length k0)]:=b0
 refine Al rfl (o_z ?_)
 refine Ab (Aa (AB rfl (Az (hc:=Blk.cell (i:=0) (b0.1) rfl) rfl ?_)))
 refine Ak rfl ?_
 obtain ⟨t0,c0,hm⟩:=bs hm
 have u0:=(AX c0)
 refine GU (he:=c0) rfl rfl ?_
 obtain ⟨v0,d0,hm⟩:=bs hm
 have p0:=(AX d0)
 refine Dn (he:=d0) rfl rfl ?_
 refine Al rfl (o_z ?_)
 refine AC ?_
 obtain rfl:=sm hm
 replace hB:=hB.st o0
 exact ret1v rfl (At rfl) ⟨hB.ext,(vInt p0)⟩
noncomputable def Cv (x0:Lay) (x1:Int):Option Int :=
  bnd (chkI (2 * x1)) fun n23=>bnd (chkI (x0.jobs + n23)) fun n26=>bnd (chkI (n26 + 1)) fun n29=>some n29
theorem Bz {w:World} {A:Nat→Prop} (hA:∀ k,A k→k < w.heap.size) {vx0:Value} {x0:Lay} (a0:Vb w A vx0 x0) {x1:Int} (rx1:inI64 x1) {r:Int} (hm:Cv x0 x1=some r) :
    Fn Tryz.prog 38 [vx0,(.int .i64 x1)] w fun v w'=>Ext w w'∧Vb w' (upA A w w') v r:=by
 obtain ⟨O,hB,f0⟩:=enter hA
 replace a0:=a0.mono f0
 obtain ⟨r0,rfl,v4,v5,v6,rfl,h7,g0,h0,s0,t0⟩:=a0
 obtain ⟨A8,c9,rfl⟩:=h7.form
 obtain ⟨i0,j0,rfl⟩:=g0.form
 obtain ⟨k0,l0,rfl⟩:=h0.form
 refine AH Tryz.func38 rfl Tryz.ntmps38 ?_
 unfold Cv at hm
 refine Ab (Aa (BQ 2 O rfl fun m0 n0 o0 p0 b0=>?_))
 replace b0:Lc 2 n0 o0 m0 74 [(.int .i64 x0.jobs),(.slice A8 x0.write.length c9),(.slice i0 x0.read.length j0),(.int .i64 x0.phase),(.slice k0 x0.vars.length l0)]:=b0
 refine Al rfl (o_z ?_)
 refine Ab (Aa (AB rfl (Az (hc:=Blk.cell (i:=0) (b0.1) rfl) rfl ?_)))
 refine Ak rfl ?_
 obtain ⟨u0,c0,hm⟩:=bs hm
 have v0:=(AX c0)
 refine GU (he:=c0) rfl rfl ?_
 obtain ⟨w0,d0,hm⟩:=bs hm
 have y0:=(AX d0)
 refine Dn (he:=d0) rfl rfl ?_
 obtain ⟨z0,e0,hm⟩:=bs hm
 have q0:=(AX e0)
 refine Dn (he:=e0) rfl rfl ?_
 refine Al rfl (o_z ?_)
 refine AC ?_
 obtain rfl:=sm hm
 replace hB:=hB.st p0
 exact ret1v rfl (At rfl) ⟨hB.ext,(vInt q0)⟩
noncomputable def BM (x0:List (List Fct)):Option (List Fct) :=
  bnd (rng (ρ:=(List Fct)) (fun (k10:Nat) (a11:List Fct) (s8:Int)=>bnd (chkI (s8 + (a11.length:Int))) fun n36=>if n36 < 0 then (none) else (some (.next n36))) x0 0 0) fun res6=>fin res6 fun (s44:Int)=>bnd (CC s44) fun q46=>bnd (rng (ρ:=(List Fct)) (fun (k62:Nat) (a63:List Fct) (s60:(List Fct))=>bnd (appI 16 s60 a63) fun u88=>some (.next u88)) x0 0 q46) fun res58=>fin res58 fun (s103:(List Fct))=>some s103
theorem GJ {w:World} {A:Nat→Prop} (hA:∀ k,A k→k < w.heap.size) {vx0:Value} {x0:List (List Fct)} (a0:Vb w A vx0 x0) {r:(List Fct)} (hm:BM x0=some r) :
    Fn Tryz.prog 98 [vx0] w fun v w'=>Ext w w'∧RowR w w' (upA A w w') 78 v r:=by
 obtain ⟨O,hB,j1⟩:=enter hA
 replace a0:=a0.mono j1
 obtain ⟨A2,c3,rfl⟩:=a0.form
 refine AH Tryz.func98 rfl Tryz.ntmps98 ?_
 unfold BM at hm
 refine Ab (Aa (Al rfl (o_z ?_)))
 refine Ab (Aa (Al rfl (o_z ?_)))
 refine Ab (Ab (Aa (Ak rfl (AR rfl ?_))))
 have l5:x0.length≤9223372036854775807:=Nat.le_trans a0.len.2.1 a0.len.2.2
 have r4:inI64 (x0.length:Int):=rngNat l5
 refine Ak rfl (o_z ?_)
 obtain ⟨n0,k1,hm⟩:=bs hm
 refine Au (aft n0 (fun (s8:Int) (x9:Unit)=>[(0,(.slice A2 x0.length c3)),(3,(.int .i64 s8))]) (fun s8 x9 w'=>∃ O':Lab,Bs w A w' O'∧Vb w' (Fr 0 w' O') (.slice A2 x0.length c3) x0∧inI64 s8)) ?_ ?_
 ·
  refine AJ (Bh (σ:=Int) (X:=Unit) (x0.length) k1 rfl l5 (fun (s8:Int) (x9:Unit)=>[(0,(.slice A2 x0.length c3)),(3,(.int .i64 s8)),(9,(.slice A2 x0.length c3))]) _ (fun s8 x9 w'=>∃ O':Lab,Bs w A w' O'∧Vb w' (Fr 0 w' O') (.slice A2 x0.length c3) x0∧inI64 s8) _ () ⟨O,hB,a0,(show inI64 (0) from by decide)⟩ ⟨rfl,rfl,rfl,rfl,rfl,trivial⟩ (fun _ _=>⟨rfl,rfl⟩) (fun _ _=>⟨rfl,rfl,trivial⟩) (fun _ _ _ ⟨O',hB,a0,l0⟩=>⟨O',hB,a0,l0⟩) ⟨rfl,rfl,rfl⟩ ⟨rfl,rfl⟩ ?_)
  rintro l1 f1 s8 x9 h2 m1 f0 ⟨i2,hB,a0,l0⟩ b0 o0 p0
  have rk10:inI64 (l1:Int):=rngK f0 l5
  refine Ab (Aa ?_)
  obtain ⟨j2,k2,n1,q0,r0,s0,l2,rfl,g0⟩:=a0.elem' f0
  replace g0:=Vb.of_slice g0
  obtain ⟨m2,n2,rfl⟩:=g0.form
  refine Bv (hA:=q0) (hj:=rfl) (hlt:=r0) rfl rfl ?_
  refine Az (hc:=cat0 s0) rfl ?_
  refine Al rfl (o_z ?_)
  refine Ab (Aa (Ak rfl (Ak rfl (AR rfl ?_))))
  have o1:f1.length≤9223372036854775807:=Nat.le_trans g0.len.2.1 g0.len.2.2
  have o2:inI64 (f1.length:Int):=rngNat o1
  obtain ⟨p2,g1,b0⟩:=bs b0
  have p1:=(AX g1)
  refine Dn (he:=g1) rfl rfl ?_
  refine Al rfl (o_z ?_)
  refine Ab (Aa (Ak rfl (Ep rfl rfl (fun t0=>?_) fun t0=>?_)))
  ·
   replace b0:=ip b0 t0
   refine o_z ?_
   refine Aj rfl ?_
   exact nomatch b0
  replace b0:=im b0 t0
  refine o_z ?_
  refine Ah rfl (AK ?_)
  obtain rfl:=sm b0
  exact show Exists _ from ⟨_,(),rfl,⟨rfl,rfl,rfl,rfl,rfl,trivial⟩,_,hB,a0,p1⟩
 rintro q2 r2 ⟨s2,t2,rfl,u0,q1,hB,a0,l0⟩
 replace hm:=AP hm
 refine AE _ u0 ?_
 refine Ab (Aa (Ak rfl ?_))
 obtain ⟨u2,r1,hm⟩:=bs hm
 refine Dh 2 (O:=q1) (Ha Fr.lt l0 r1) rfl fun s1 t1 v2 u1 v0 v1=>?_
 refine Al rfl (o_z ?_)
 refine Ab (Ab (Aa (Ak rfl (AR rfl ?_))))
 replace a0:=a0.st v0
 have w0:x0.length≤9223372036854775807:=Nat.le_trans a0.len.2.1 a0.len.2.2
 have w2:inI64 (x0.length:Int):=rngNat w0
 refine Ak rfl (o_z ?_)
 obtain ⟨h0,y0,hm⟩:=bs hm
 refine Au (aft h0 (fun (d0:(List Fct)) (c0:(Option Addr×Nat))=>[(6,(.slice c0.1 d0.length c0.2))]) (fun d0 c0 w'=>∃ O':Lab,Bs w A w' O'∧Rw 2 w' O' 78 (.slice c0.1 d0.length c0.2) d0)) ?_ ?_
 ·
  refine AJ ?_
  replace hB:=hB.st v0
  refine Bh (σ:=(List Fct)) (X:=(Option Addr×Nat)) (x0.length) y0 rfl w0 (fun (d0:(List Fct)) (c0:(Option Addr×Nat))=>[(6,(.slice c0.1 d0.length c0.2)),(25,(.slice A2 x0.length c3))]) _ (fun d0 c0 w'=>∃ O':Lab,Bs w A w' O'∧Rw 2 w' O' 78 (.slice c0.1 d0.length c0.2) d0∧Vb w' (Fr 0 w' O') (.slice A2 x0.length c3) x0) _ (s1,t1) ⟨u1,hB,v1,a0⟩ ⟨rfl,rfl,rfl,rfl,trivial⟩ (fun _ _=>⟨rfl,rfl⟩) (fun _ _=>⟨rfl,trivial⟩) (fun _ _ _ ⟨O',hB,i0,a0⟩=>⟨O',hB,i0⟩) ⟨rfl,rfl,rfl⟩ ⟨rfl,rfl⟩ ?_
  rintro w1 x2 d0 c0 y2 x1 j0 ⟨z2,hB,i0,a0⟩ e0 z0 a1
  have rk62:inI64 (w1:Int):=rngK j0 w0
  refine Ab (Aa ?_)
  obtain ⟨a3,b3,y1,b1,c1,d1,d3,rfl,m0⟩:=a0.elem' j0
  replace m0:=Vb.of_slice m0
  obtain ⟨e3,f3,rfl⟩:=m0.form
  refine Bv (hA:=b1) (hj:=rfl) (hlt:=c1) rfl rfl ?_
  refine Az (hc:=cat0 d1) rfl ?_
  refine Al rfl (o_z ?_)
  refine Aa (Ak rfl (Ak rfl ?_))
  obtain ⟨g3,e1,e0⟩:=bs e0
  obtain ⟨e1,z1,a2⟩:=AO e1
  refine BE rfl i0 (m0.rd) rfl rfl (by decide) z1 a2 rfl fun b2 c2 h3 i3 h1 i1=>?_
  rw [← e1] at i1 ⊢
  refine Al rfl (o_z ?_)
  obtain rfl:=sm e0
  exact show Exists _ from ⟨_,(b2,c2),rfl,⟨rfl,rfl,rfl,rfl,trivial⟩,_,hB.st h1,i1,a0.st h1⟩
 replace hB:=hB.st v0
 rintro j3 d2 ⟨e2,f2,rfl,k0,g2,hB,i0⟩
 replace hm:=AP hm
 refine AE _ k0 ?_
 refine Ab (Aa (Ak rfl (Al rfl (o_z ?_))))
 refine AC ?_
 obtain rfl:=sm hm
 exact ret1v rfl (At rfl) ⟨hB.ext,(i0.out hB (by decide))⟩
noncomputable def CI (x0:Lay) (x1:List Fct) (x2:List Fct):Option ((List Fct)×(List Eff)) :=
  bnd (rng (ρ:=(List Fct)×(List Eff)) (fun (k34:Nat) (a35:Int) (s32:(List Fct)×(List Eff))=>bnd (Ck x2 (k34:Int)) fun q53=>if q53=true then bnd (appI 16 s32.1 [(⟨a35,0⟩:Fct)]) fun u135=>bnd (bnd (x0.read[k34]?) fun a153=>if 0≤a153 then (bnd (x0.read[k34]?) fun a164=>bnd (appI 16 u135 [(⟨a164,0⟩:Fct)]) fun u174=>some u174) else (some u135):Option (List Fct)) fun y147=>bnd (appI 40 s32.2 [(⟨([]:List Fct),a35,1⟩:Eff)]) fun u198=>some (.next (y147,u198)) else bnd (bnd (Ck x1 (k34:Int)) fun q64=>if q64=true then if 0≤a35 then (some true) else (some false) else some false:Option Bool) fun y60=>if y60=true then (bnd (appI 16 s32.1 [(⟨a35,0⟩:Fct)]) fun u93=>bnd (x0.read[k34]?) fun a105=>bnd (appI 40 s32.2 [(⟨([]:List Fct),a105,1⟩:Eff)]) fun u115=>some (.next (u93,u115))) else (some (.next (s32.1,s32.2)))) x0.write 0 (([]:List Fct),([]:List Eff))) fun res30=>fin res30 fun (s214:(List Fct)×(List Eff))=>some (s214.1,s214.2)
theorem Jm {w:World} {A:Nat→Prop} (hA:∀ k,A k→k < w.heap.size) {vx0:Value} {x0:Lay} (t2:Vb w A vx0 x0) {vx1:Value} {x1:List Fct} (i0:Vb w A vx1 x1) {vx2:Value} {x2:List Fct} (m0:Vb w A vx2 x2) {r:(List Fct)×(List Eff)} (hm:CI x0 x1 x2=some r) :
    Fn Tryz.prog 99 [vx0,vx1,vx2] w fun v w'=>Ext w w'∧T2 w' (upA A w w') v r:=by
 obtain ⟨O,hB,u2⟩:=enter hA
 replace t2:=t2.mono u2
 obtain ⟨x6,rfl,v5,v6,v7,rfl,h8,g0,n0,y6,z6⟩:=t2
 obtain ⟨A9,w0,rfl⟩:=h8.form
 obtain ⟨y0,z0,rfl⟩:=g0.form
 obtain ⟨a1,b1,rfl⟩:=n0.form
 replace i0:=i0.mono u2
 obtain ⟨n1,o1,rfl⟩:=i0.form
 replace m0:=m0.mono u2
 obtain ⟨p1,q1,rfl⟩:=m0.form
 refine AH Tryz.func99 rfl Tryz.ntmps99 ?_
 unfold CI at hm
 refine Ab (Aa (BQ 2 O rfl fun c1 u4 i4 d1 f0=>?_))
 replace f0:Lc 2 u4 i4 c1 74 [(.int .i64 x0.jobs),(.slice A9 x0.write.length w0),(.slice y0 x0.read.length z0),(.int .i64 x0.phase),(.slice a1 x0.vars.length b1)]:=f0
 refine Al rfl (Al rfl (o_z ?_))
 refine Ab (Ab (Aa (AB rfl (Az (hc:=Blk.cell (i:=1) (f0.1) rfl) rfl ?_))))
 refine AR rfl ?_
 replace h8:=h8.st d1
 have v2:x0.write.length≤9223372036854775807:=Nat.le_trans h8.len.2.1 h8.len.2.2
 have a7:inI64 (x0.write.length:Int):=rngNat v2
 refine Ak rfl (o_z ?_)
 obtain ⟨r1,w2,hm⟩:=bs hm
 refine Au (aft r1 (fun (j0:(List Fct)×(List Eff)) (e0:(Option Addr×Nat)×(Option Addr×Nat))=>[(6,(.slice e0.1.1 j0.1.length e0.1.2)),(7,(.slice e0.2.1 j0.2.length e0.2.2))]) (fun j0 e0 w'=>∃ O':Lab,Bs w A w' O'∧Rw 3 w' O' 78 (.slice e0.1.1 j0.1.length e0.1.2) j0.1∧Rw 4 w' O' 85 (.slice e0.2.1 j0.2.length e0.2.2) j0.2)) ?_ ?_
 ·
  refine AJ ?_
  replace hB:=hB.st d1
  replace i0:=i0.st d1
  replace m0:=m0.st d1
  replace g0:=g0.st d1
  replace n0:=n0.st d1
  refine Bh (σ:=(List Fct)×(List Eff)) (X:=(Option Addr×Nat)×(Option Addr×Nat)) (x0.write.length) w2 rfl v2 (fun (j0:(List Fct)×(List Eff)) (e0:(Option Addr×Nat)×(Option Addr×Nat))=>[(1,(.slice n1 x1.length o1)),(2,(.slice p1 x2.length q1)),(3,(.pointer (some ⟨c1,0,none⟩))),(6,(.slice e0.1.1 j0.1.length e0.1.2)),(7,(.slice e0.2.1 j0.2.length e0.2.2))]) _ (fun j0 e0 w'=>∃ O':Lab,Bs w A w' O'∧Vb w' (Fr 0 w' O') (.slice n1 x1.length o1) x1∧Vb w' (Fr 0 w' O') (.slice p1 x2.length q1) x2∧Lc 2 w' O' c1 74 [(.int .i64 x0.jobs),(.slice A9 x0.write.length w0),(.slice y0 x0.read.length z0),(.int .i64 x0.phase),(.slice a1 x0.vars.length b1)]∧Vb w' (Fr 0 w' O') (.slice A9 x0.write.length w0) x0.write∧Vb w' (Fr 0 w' O') (.slice y0 x0.read.length z0) x0.read∧Vb w' (Fr 0 w' O') (.slice a1 x0.vars.length b1) x0.vars∧Rw 3 w' O' 78 (.slice e0.1.1 j0.1.length e0.1.2) j0.1∧Rw 4 w' O' 85 (.slice e0.2.1 j0.2.length e0.2.2) j0.2) _ ((none,0),(none,0)) ⟨i4,hB,i0,m0,f0,h8,g0,n0,(Rw.nil 3 (by decide)),(Rw.nil 4 (by decide))⟩ ⟨rfl,rfl,rfl,rfl,rfl,rfl,rfl,trivial⟩ (fun _ _=>⟨rfl,rfl⟩) (fun _ _=>⟨rfl,rfl,trivial⟩) (fun _ _ _ ⟨O',hB,i0,m0,f0,h8,g0,n0,o0,l0⟩=>⟨O',hB,o0,l0⟩) ⟨rfl,rfl,rfl⟩ ⟨rfl,rfl⟩ ?_
  rintro s1 v0 j0 e0 j4 v4 u0 ⟨k4,hB,i0,m0,f0,h8,g0,n0,o0,l0⟩ a0 y2 z2
  have rk34:inI64 (s1:Int):=rngK u0 v2
  refine Ab (Aa (Ak rfl (Al rfl (o_z ?_))))
  refine AJ (Ab (Aa (Ak rfl (Ak rfl ?_))))
  obtain ⟨l4,w4,a0⟩:=bs a0
  refine AG (O:=k4) (A:=All j4) (R:=fun w' F v=>Vb w' F v l4) (DT (fun _ h=>h) (Vb.mono (F:=Fr 0 j4 k4) m0 Fr.lt) rk34 w4) rfl fun b7 m4 n4 b0 x4=>?_
  obtain rfl:=x4.bool
  cases l4
  case false =>
   replace a0:=iF a0
   refine Al rfl (o_z ?_)
   refine Ah rfl (Ab ?_)
   obtain ⟨y4,h0,a0⟩:=bs a0
   refine Au (fun l' w'=>∃ (z4:Unit) (O':Lab),subs l' [(1,(.slice n1 x1.length o1)),(2,(.slice p1 x2.length q1)),(3,(.pointer (some ⟨c1,0,none⟩))),(6,(.slice e0.1.1 j0.1.length e0.1.2)),(7,(.slice e0.2.1 j0.2.length e0.2.2)),(8,(.int .i64 (s1:Int))),(11,(.int .i64 (x0.write.length:Int))),(12,(.int .i64 (s1:Int))),(52,(.bool y4))]∧Bs w A w' O'∧Vb w' (Fr 0 w' O') (.slice n1 x1.length o1) x1∧Vb w' (Fr 0 w' O') (.slice p1 x2.length q1) x2∧Lc 2 w' O' c1 74 [(.int .i64 x0.jobs),(.slice A9 x0.write.length w0),(.slice y0 x0.read.length z0),(.int .i64 x0.phase),(.slice a1 x0.vars.length b1)]∧Vb w' (Fr 0 w' O') (.slice A9 x0.write.length w0) x0.write∧Vb w' (Fr 0 w' O') (.slice y0 x0.read.length z0) x0.read∧Vb w' (Fr 0 w' O') (.slice a1 x0.vars.length b1) x0.vars∧Rw 3 w' O' 78 (.slice e0.1.1 j0.1.length e0.1.2) j0.1∧Rw 4 w' O' 85 (.slice e0.2.1 j0.2.length e0.2.2) j0.2) ?_ ?_
   ·
    refine Aa (Ak rfl (Ak rfl ?_))
    obtain ⟨o4,a5,h0⟩:=bs h0
    replace i0:=i0.st b0
    refine AG (O:=n4) (A:=All m4) (R:=fun w' F v=>Vb w' F v o4) (DT (fun _ h=>h) (Vb.mono (F:=Fr 0 m4 n4) i0 Fr.lt) rk34 a5) rfl fun c7 d7 e7 k0 b5=>?_
    obtain rfl:=b5.bool
    cases o4
    case false =>
     replace h0:=iF h0
     refine Ak rfl (Am rfl rfl (Am rfl rfl (Am rfl rfl (Am rfl rfl (Am rfl rfl (Am rfl rfl (By rfl rfl (Al rfl (o_z ?_)))))))))
     obtain rfl:=sm h0
     exact ⟨(),_,⟨rfl,rfl,rfl,rfl,rfl,rfl,rfl,rfl,rfl,trivial⟩,(hB.st b0).st k0,i0.st k0,(m0.st b0).st k0,(f0.st b0).st k0,(h8.st b0).st k0,(g0.st b0).st k0,(n0.st b0).st k0,(o0.st b0).st k0,(l0.st b0).st k0⟩
    replace h0:=iT h0
    refine Ak rfl (An rfl rfl (AB rfl (An rfl rfl ?_)))
    replace f0:=(f0.st b0).st k0
    refine Az (hc:=Blk.cell (i:=1) (f0.1) rfl) rfl ?_
    refine An rfl rfl (Ak rfl (An rfl rfl ?_))
    replace h8:=(h8.st b0).st k0
    obtain ⟨f7,g7,c5,a3,b3,c3,rfl,h7⟩:=h8.elem' u0
    refine Bv (hA:=a3) (hj:=rfl) (hlt:=b3) rfl rfl ?_
    refine An rfl rfl (Az (hc:=cat0 c3) rfl ?_)
    refine An rfl rfl (Fs rfl rfl (fun d3=>?_) fun d3=>?_)
    ·
     replace h0:=ip h0 d3
     refine BD rfl rfl (Al rfl (o_z ?_))
     obtain rfl:=sm h0
     exact ⟨(),_,⟨rfl,rfl,rfl,rfl,rfl,rfl,rfl,rfl,rfl,trivial⟩,(hB.st b0).st k0,i0.st k0,(m0.st b0).st k0,f0,h8,(g0.st b0).st k0,(n0.st b0).st k0,(o0.st b0).st k0,(l0.st b0).st k0⟩
    replace h0:=im h0 d3
    refine BD rfl rfl (Al rfl (o_z ?_))
    obtain rfl:=sm h0
    exact ⟨(),_,⟨rfl,rfl,rfl,rfl,rfl,rfl,rfl,rfl,rfl,trivial⟩,(hB.st b0).st k0,i0.st k0,(m0.st b0).st k0,f0,h8,(g0.st b0).st k0,(n0.st b0).st k0,(o0.st b0).st k0,(l0.st b0).st k0⟩
   replace hB:=hB.st b0
   replace i0:=i0.st b0
   replace m0:=m0.st b0
   replace h8:=h8.st b0
   replace g0:=g0.st b0
   replace n0:=n0.st b0
   replace f0:=f0.st b0
   replace o0:=o0.st b0
   replace l0:=l0.st b0
   rintro i7 j7 ⟨z4,k7,e3,hB,i0,m0,f0,h8,g0,n0,o0,l0⟩
   refine AE _ e3 ?_
   refine Cw rfl (fun f3=>?_) (fun f3=>?_)
   ·
    replace a0:=ip a0 f3
    refine Ab (Aa (Ak rfl (AB rfl (Az (hc:=Blk.cell (i:=1) (f0.1) rfl) rfl ?_))))
    refine Ak rfl ?_
    obtain ⟨l7,m7,d5,g3,h3,i3,rfl,e5⟩:=h8.elem' u0
    refine Bv (hA:=g3) (hj:=rfl) (hlt:=h3) rfl rfl ?_
    refine Az (hc:=cat0 i3) rfl ?_
    refine Eh rfl rfl ?_
    obtain ⟨n7,j3,a0⟩:=bs a0
    obtain ⟨j3,f5,g5⟩:=AO j3
    refine Co rfl (a:=(⟨v0,0⟩:Fct)) o0 (Vb.ofAgg (cs:=[(.int .i64 v0),(.int .i64 0)]) (x:=(⟨v0,0⟩:Fct)) rfl ⟨rfl,e5,(show inI64 0 from by decide)⟩) (fun _=>rfl) rfl f5 g5 ⟨rfl,rfl⟩ fun o7 h5 i5 j5 k5 p0 t1=>?_
    rw [← j3] at t1 ⊢
    refine Al rfl (o_z ?_)
    refine Aa (Ak rfl (AB rfl ?_))
    replace f0:=f0.st p0
    refine Az (hc:=Blk.cell (i:=2) (f0.1) rfl) rfl ?_
    refine Ak rfl ?_
    obtain ⟨e1,k3,a0⟩:=bs a0
    replace g0:=g0.st p0
    obtain ⟨l5,m5,p4,u1,v1,w1,rfl,l3⟩:=g0.elem' k3
    refine Bv (hA:=u1) (hj:=rfl) (hlt:=v1) rfl rfl ?_
    refine Az (hc:=cat0 w1) rfl ?_
    refine Eh rfl rfl ?_
    obtain ⟨n5,f1,a0⟩:=bs a0
    obtain ⟨f1,m3,n3⟩:=AO f1
    replace l0:=l0.st p0
    refine Co rfl (a:=(⟨([]:List Fct),e1,1⟩:Eff)) l0 (Vb.ofAgg (cs:=[(.slice none 0 0),(.int .i64 e1),(.int .i64 1)]) (x:=(⟨([]:List Fct),e1,1⟩:Eff)) rfl ⟨_,rfl,(Vb.nil _ _),l3,(show inI64 (1) from by decide)⟩) (fun _=>rfl) rfl m3 n3 ⟨rfl,rfl⟩ fun o5 o3 p3 p5 q5 q0 y1=>?_
    rw [← f1] at y1 ⊢
    refine Al rfl (o_z ?_)
    obtain rfl:=sm a0
    exact show Exists _ from ⟨_,((h5,i5),(o3,p3)),rfl,⟨rfl,rfl,rfl,rfl,rfl,rfl,rfl,trivial⟩,_,(hB.st p0).st q0,(i0.st p0).st q0,(m0.st p0).st q0,f0.st q0,(h8.st p0).st q0,g0.st q0,(n0.st p0).st q0,t1.st q0,y1⟩
   replace a0:=im' a0 f3
   refine AK ?_
   obtain rfl:=sm a0
   exact show Exists _ from ⟨_,((e0.1.1,e0.1.2),(e0.2.1,e0.2.2)),rfl,⟨rfl,rfl,rfl,rfl,rfl,rfl,rfl,trivial⟩,_,hB,i0,m0,f0,h8,g0,n0,o0,l0⟩
  replace a0:=iT a0
  refine Al rfl (o_z ?_)
  refine Aj rfl (Ab (Aa (Ak rfl (AB rfl ?_))))
  replace f0:=f0.st b0
  refine Az (hc:=Blk.cell (i:=1) (f0.1) rfl) rfl ?_
  refine Ak rfl ?_
  replace h8:=h8.st b0
  obtain ⟨r5,s5,q4,z1,a2,b2,rfl,q3⟩:=h8.elem' u0
  refine Bv (hA:=z1) (hj:=rfl) (hlt:=a2) rfl rfl ?_
  refine Az (hc:=cat0 b2) rfl ?_
  refine Eh rfl rfl ?_
  obtain ⟨t5,g1,a0⟩:=bs a0
  obtain ⟨g1,r3,s3⟩:=AO g1
  replace o0:=o0.st b0
  refine Co rfl (a:=(⟨v0,0⟩:Fct)) o0 (Vb.ofAgg (cs:=[(.int .i64 v0),(.int .i64 0)]) (x:=(⟨v0,0⟩:Fct)) rfl ⟨rfl,q3,(show inI64 0 from by decide)⟩) (fun _=>rfl) rfl r3 s3 ⟨rfl,rfl⟩ fun u5 t3 u3 w5 x5 c0 h1=>?_
  rw [← g1] at h1 ⊢
  refine Al rfl (o_z ?_)
  refine Ab ?_
  obtain ⟨i1,d0,a0⟩:=bs a0
  refine Au (fun l' w'=>∃ (t0:(Option Addr×Nat)) (O':Lab),subs l' [(1,(.slice n1 x1.length o1)),(2,(.slice p1 x2.length q1)),(3,(.pointer (some ⟨c1,0,none⟩))),(6,(.slice t0.1 i1.length t0.2)),(7,(.slice e0.2.1 j0.2.length e0.2.2)),(8,(.int .i64 (s1:Int))),(11,(.int .i64 (x0.write.length:Int))),(12,(.int .i64 (s1:Int)))]∧Bs w A w' O'∧Vb w' (Fr 0 w' O') (.slice n1 x1.length o1) x1∧Vb w' (Fr 0 w' O') (.slice p1 x2.length q1) x2∧Lc 2 w' O' c1 74 [(.int .i64 x0.jobs),(.slice A9 x0.write.length w0),(.slice y0 x0.read.length z0),(.int .i64 x0.phase),(.slice a1 x0.vars.length b1)]∧Vb w' (Fr 0 w' O') (.slice A9 x0.write.length w0) x0.write∧Vb w' (Fr 0 w' O') (.slice y0 x0.read.length z0) x0.read∧Vb w' (Fr 0 w' O') (.slice a1 x0.vars.length b1) x0.vars∧Rw 3 w' O' 78 (.slice t0.1 i1.length t0.2) i1∧Rw 4 w' O' 85 (.slice e0.2.1 j0.2.length e0.2.2) j0.2) ?_ ?_
  ·
   refine Ab (Aa (AB rfl ?_))
   replace f0:=f0.st c0
   refine Az (hc:=Blk.cell (i:=2) (f0.1) rfl) rfl ?_
   refine Ak rfl ?_
   obtain ⟨y5,v3,d0⟩:=bs d0
   replace g0:=(g0.st b0).st c0
   obtain ⟨z5,a6,r4,c2,d2,e2,rfl,b6⟩:=g0.elem' v3
   refine Bv (hA:=c2) (hj:=rfl) (hlt:=d2) rfl rfl ?_
   refine Az (hc:=cat0 e2) rfl ?_
   refine Fs rfl rfl (fun j1=>?_) fun j1=>?_
   ·
    replace d0:=ip d0 j1
    refine o_z ?_
    refine Aj rfl (Aa (Ak rfl (AB rfl (Az (hc:=Blk.cell (i:=2) (f0.1) rfl) rfl ?_))))
    refine Ak rfl ?_
    obtain ⟨k1,w3,d0⟩:=bs d0
    obtain ⟨c6,d6,s4,f2,g2,h2,rfl,x3⟩:=g0.elem' w3
    refine Bv (hA:=f2) (hj:=rfl) (hlt:=g2) rfl rfl ?_
    refine Az (hc:=cat0 h2) rfl ?_
    refine Eh rfl rfl ?_
    obtain ⟨e6,l1,d0⟩:=bs d0
    obtain ⟨l1,y3,z3⟩:=AO l1
    refine Co rfl (a:=(⟨k1,0⟩:Fct)) h1 (Vb.ofAgg (cs:=[(.int .i64 k1),(.int .i64 0)]) (x:=(⟨k1,0⟩:Fct)) rfl ⟨rfl,x3,(show inI64 0 from by decide)⟩) (fun _=>rfl) rfl y3 z3 ⟨rfl,rfl⟩ fun f6 a4 b4 g6 h6 r0 i2=>?_
    rw [← l1] at i2 ⊢
    refine Al rfl (o_z ?_)
    obtain rfl:=sm d0
    exact ⟨(a4,b4),_,⟨rfl,rfl,rfl,rfl,rfl,rfl,rfl,rfl,trivial⟩,((hB.st b0).st c0).st r0,((i0.st b0).st c0).st r0,((m0.st b0).st c0).st r0,f0.st r0,(h8.st c0).st r0,g0.st r0,((n0.st b0).st c0).st r0,i2,((l0.st b0).st c0).st r0⟩
   replace d0:=im d0 j1
   refine o_z ?_
   refine Ah rfl (AK ?_)
   obtain rfl:=sm d0
   exact ⟨(t3,u3),_,⟨rfl,rfl,rfl,rfl,rfl,rfl,rfl,rfl,trivial⟩,(hB.st b0).st c0,(i0.st b0).st c0,(m0.st b0).st c0,f0,h8.st c0,g0,(n0.st b0).st c0,h1,(l0.st b0).st c0⟩
  replace hB:=(hB.st b0).st c0
  replace i0:=(i0.st b0).st c0
  replace m0:=(m0.st b0).st c0
  replace h8:=h8.st c0
  replace g0:=(g0.st b0).st c0
  replace n0:=(n0.st b0).st c0
  replace f0:=f0.st c0
  replace l0:=(l0.st b0).st c0
  rintro i6 j6 ⟨t0,k6,j2,hB,i0,m0,f0,h8,g0,n0,c4,l0⟩
  refine AE _ j2 ?_
  refine Aa (Ak rfl (AB rfl (Az (hc:=Blk.cell (i:=1) (f0.1) rfl) rfl ?_)))
  refine Ak rfl ?_
  obtain ⟨l6,m6,t4,k2,l2,m2,rfl,d4⟩:=h8.elem' u0
  refine Bv (hA:=k2) (hj:=rfl) (hlt:=l2) rfl rfl ?_
  refine Az (hc:=cat0 m2) rfl ?_
  refine Eh rfl rfl ?_
  obtain ⟨n6,m1,a0⟩:=bs a0
  obtain ⟨m1,e4,f4⟩:=AO m1
  refine Co rfl (a:=(⟨([]:List Fct),v0,1⟩:Eff)) l0 (Vb.ofAgg (cs:=[(.slice none 0 0),(.int .i64 v0),(.int .i64 1)]) (x:=(⟨([]:List Fct),v0,1⟩:Eff)) rfl ⟨_,rfl,(Vb.nil _ _),d4,(show inI64 (1) from by decide)⟩) (fun _=>rfl) rfl e4 f4 ⟨rfl,rfl⟩ fun o6 g4 h4 p6 q6 s0 n2=>?_
  rw [← m1] at n2 ⊢
  refine Al rfl (o_z ?_)
  obtain rfl:=sm a0
  exact show Exists _ from ⟨_,((t0.1,t0.2),(g4,h4)),rfl,⟨rfl,rfl,rfl,rfl,rfl,rfl,rfl,trivial⟩,_,hB.st s0,i0.st s0,m0.st s0,f0.st s0,h8.st s0,g0.st s0,n0.st s0,c4.st s0,n2⟩
 replace hB:=hB.st d1
 rintro r6 o2 ⟨s6,t6,rfl,p2,u6,hB,o0,l0⟩
 replace hm:=AP hm
 refine AE _ p2 ?_
 refine Ab (Aa (Ak rfl (Ak rfl (Al rfl (Al rfl (o_z ?_))))))
 refine AC ?_
 obtain ⟨w6,q2,o0⟩:=o0.freeze
 replace l0:=l0.st q2
 obtain ⟨r2,s2,l0⟩:=l0.freeze
 obtain rfl:=sm hm
 replace hB:=(hB.st q2).st s2
 replace o0:=o0.st s2
 exact ret2 rfl (At rfl) (At rfl) ⟨hB.ext,_,_,rfl,(Vb.mono (F:=Fr 0 o2 r2) o0 hB.out),(Vb.mono (F:=Fr 0 o2 r2) l0 hB.out)⟩
noncomputable def BI (x0:List (List Eff)):Option (List Eff) :=
  bnd (rng (ρ:=(List Eff)) (fun (k10:Nat) (a11:List Eff) (s8:Int)=>bnd (chkI (s8 + (a11.length:Int))) fun n36=>if n36 < 0 then (none) else (some (.next n36))) x0 0 0) fun res6=>fin res6 fun (s44:Int)=>bnd (Cp s44) fun q46=>bnd (rng (ρ:=(List Eff)) (fun (k62:Nat) (a63:List Eff) (s60:(List Eff))=>bnd (appI 40 s60 a63) fun u88=>some (.next u88)) x0 0 q46) fun res58=>fin res58 fun (s103:(List Eff))=>some s103
theorem Gb {w:World} {A:Nat→Prop} (hA:∀ k,A k→k < w.heap.size) {vx0:Value} {x0:List (List Eff)} (a0:Vb w A vx0 x0) {r:(List Eff)} (hm:BI x0=some r) :
    Fn Tryz.prog 100 [vx0] w fun v w'=>Ext w w'∧RowR w w' (upA A w w') 85 v r:=by
 obtain ⟨O,hB,j1⟩:=enter hA
 replace a0:=a0.mono j1
 obtain ⟨A2,c3,rfl⟩:=a0.form
 refine AH Tryz.func100 rfl Tryz.ntmps100 ?_
 unfold BI at hm
 refine Ab (Aa (Al rfl (o_z ?_)))
 refine Ab (Aa (Al rfl (o_z ?_)))
 refine Ab (Ab (Aa (Ak rfl (AR rfl ?_))))
 have l5:x0.length≤9223372036854775807:=Nat.le_trans a0.len.2.1 a0.len.2.2
 have r4:inI64 (x0.length:Int):=rngNat l5
 refine Ak rfl (o_z ?_)
 obtain ⟨n0,k1,hm⟩:=bs hm
 refine Au (aft n0 (fun (s8:Int) (x9:Unit)=>[(0,(.slice A2 x0.length c3)),(3,(.int .i64 s8))]) (fun s8 x9 w'=>∃ O':Lab,Bs w A w' O'∧Vb w' (Fr 0 w' O') (.slice A2 x0.length c3) x0∧inI64 s8)) ?_ ?_
 ·
  refine AJ (Bh (σ:=Int) (X:=Unit) (x0.length) k1 rfl l5 (fun (s8:Int) (x9:Unit)=>[(0,(.slice A2 x0.length c3)),(3,(.int .i64 s8)),(9,(.slice A2 x0.length c3))]) _ (fun s8 x9 w'=>∃ O':Lab,Bs w A w' O'∧Vb w' (Fr 0 w' O') (.slice A2 x0.length c3) x0∧inI64 s8) _ () ⟨O,hB,a0,(show inI64 (0) from by decide)⟩ ⟨rfl,rfl,rfl,rfl,rfl,trivial⟩ (fun _ _=>⟨rfl,rfl⟩) (fun _ _=>⟨rfl,rfl,trivial⟩) (fun _ _ _ ⟨O',hB,a0,l0⟩=>⟨O',hB,a0,l0⟩) ⟨rfl,rfl,rfl⟩ ⟨rfl,rfl⟩ ?_)
  rintro l1 f1 s8 x9 h2 m1 f0 ⟨i2,hB,a0,l0⟩ b0 o0 p0
  have rk10:inI64 (l1:Int):=rngK f0 l5
  refine Ab (Aa ?_)
  obtain ⟨j2,k2,n1,q0,r0,s0,l2,rfl,g0⟩:=a0.elem' f0
  replace g0:=Vb.of_slice g0
  obtain ⟨m2,n2,rfl⟩:=g0.form
  refine Bv (hA:=q0) (hj:=rfl) (hlt:=r0) rfl rfl ?_
  refine Az (hc:=cat0 s0) rfl ?_
  refine Al rfl (o_z ?_)
  refine Ab (Aa (Ak rfl (Ak rfl (AR rfl ?_))))
  have o1:f1.length≤9223372036854775807:=Nat.le_trans g0.len.2.1 g0.len.2.2
  have o2:inI64 (f1.length:Int):=rngNat o1
  obtain ⟨p2,g1,b0⟩:=bs b0
  have p1:=(AX g1)
  refine Dn (he:=g1) rfl rfl ?_
  refine Al rfl (o_z ?_)
  refine Ab (Aa (Ak rfl (Ep rfl rfl (fun t0=>?_) fun t0=>?_)))
  ·
   replace b0:=ip b0 t0
   refine o_z ?_
   refine Aj rfl ?_
   exact nomatch b0
  replace b0:=im b0 t0
  refine o_z ?_
  refine Ah rfl (AK ?_)
  obtain rfl:=sm b0
  exact show Exists _ from ⟨_,(),rfl,⟨rfl,rfl,rfl,rfl,rfl,trivial⟩,_,hB,a0,p1⟩
 rintro q2 r2 ⟨s2,t2,rfl,u0,q1,hB,a0,l0⟩
 replace hm:=AP hm
 refine AE _ u0 ?_
 refine Ab (Aa (Ak rfl ?_))
 obtain ⟨u2,r1,hm⟩:=bs hm
 refine Dh 2 (O:=q1) (Gp Fr.lt l0 r1) rfl fun s1 t1 v2 u1 v0 v1=>?_
 refine Al rfl (o_z ?_)
 refine Ab (Ab (Aa (Ak rfl (AR rfl ?_))))
 replace a0:=a0.st v0
 have w0:x0.length≤9223372036854775807:=Nat.le_trans a0.len.2.1 a0.len.2.2
 have w2:inI64 (x0.length:Int):=rngNat w0
 refine Ak rfl (o_z ?_)
 obtain ⟨h0,y0,hm⟩:=bs hm
 refine Au (aft h0 (fun (d0:(List Eff)) (c0:(Option Addr×Nat))=>[(6,(.slice c0.1 d0.length c0.2))]) (fun d0 c0 w'=>∃ O':Lab,Bs w A w' O'∧Rw 2 w' O' 85 (.slice c0.1 d0.length c0.2) d0)) ?_ ?_
 ·
  refine AJ ?_
  replace hB:=hB.st v0
  refine Bh (σ:=(List Eff)) (X:=(Option Addr×Nat)) (x0.length) y0 rfl w0 (fun (d0:(List Eff)) (c0:(Option Addr×Nat))=>[(6,(.slice c0.1 d0.length c0.2)),(25,(.slice A2 x0.length c3))]) _ (fun d0 c0 w'=>∃ O':Lab,Bs w A w' O'∧Rw 2 w' O' 85 (.slice c0.1 d0.length c0.2) d0∧Vb w' (Fr 0 w' O') (.slice A2 x0.length c3) x0) _ (s1,t1) ⟨u1,hB,v1,a0⟩ ⟨rfl,rfl,rfl,rfl,trivial⟩ (fun _ _=>⟨rfl,rfl⟩) (fun _ _=>⟨rfl,trivial⟩) (fun _ _ _ ⟨O',hB,i0,a0⟩=>⟨O',hB,i0⟩) ⟨rfl,rfl,rfl⟩ ⟨rfl,rfl⟩ ?_
  rintro w1 x2 d0 c0 y2 x1 j0 ⟨z2,hB,i0,a0⟩ e0 z0 a1
  have rk62:inI64 (w1:Int):=rngK j0 w0
  refine Ab (Aa ?_)
  obtain ⟨a3,b3,y1,b1,c1,d1,d3,rfl,m0⟩:=a0.elem' j0
  replace m0:=Vb.of_slice m0
  obtain ⟨e3,f3,rfl⟩:=m0.form
  refine Bv (hA:=b1) (hj:=rfl) (hlt:=c1) rfl rfl ?_
  refine Az (hc:=cat0 d1) rfl ?_
  refine Al rfl (o_z ?_)
  refine Aa (Ak rfl (Ak rfl ?_))
  obtain ⟨g3,e1,e0⟩:=bs e0
  obtain ⟨e1,z1,a2⟩:=AO e1
  refine BE rfl i0 (m0.rd) rfl rfl (by decide) z1 a2 rfl fun b2 c2 h3 i3 h1 i1=>?_
  rw [← e1] at i1 ⊢
  refine Al rfl (o_z ?_)
  obtain rfl:=sm e0
  exact show Exists _ from ⟨_,(b2,c2),rfl,⟨rfl,rfl,rfl,rfl,trivial⟩,_,hB.st h1,i1,a0.st h1⟩
 replace hB:=hB.st v0
 rintro j3 d2 ⟨e2,f2,rfl,k0,g2,hB,i0⟩
 replace hm:=AP hm
 refine AE _ k0 ?_
 refine Ab (Aa (Ak rfl (Al rfl (o_z ?_))))
 refine AC ?_
 obtain rfl:=sm hm
 exact ret1v rfl (At rfl) ⟨hB.ext,(i0.out hB (by decide))⟩
noncomputable def Ca (x0:Lay) (x1:ByteArray) (x2:List Fct) (x3:List Fct) (x4:List Fct) (x5:List Eff):Option Opr :=
  bnd (BM [x2,x4,[(⟨x0.phase,0⟩:Fct)]]) fun q56=>bnd (rng (ρ:=Opr) (fun (k79:Nat) (a80:Fct) (s77:(List Eff))=>bnd (appI 40 s77 [(⟨([]:List Fct),a80.var,a80.val⟩:Eff)]) fun u110=>some (.next u110)) x3 0 ([]:List Eff)) fun res75=>fin res75 fun (s128:(List Eff))=>bnd (CI x0 x2 x3) fun q130=>bnd (appI 16 q56 q130.1) fun u145=>bnd (BI [s128,x5,q130.2]) fun q168=>bnd (if u145.length < 4611686018427387904 then some (AI u145) else none) fun u185=>some (⟨x1,0,u185,q168⟩:Opr)
theorem Cx {w:World} {A:Nat→Prop} (hA:∀ k,A k→k < w.heap.size) {vx0:Value} {x0:Lay} (k3:Vb w A vx0 x0) {x1:ByteArray} (zx1:x1.size≤9223372036854775807) {vx2:Value} {x2:List Fct} (j0:Vb w A vx2 x2) {vx3:Value} {x3:List Fct} (r0:Vb w A vx3 x3) {vx4:Value} {x4:List Fct} (g2:Vb w A vx4 x4) {vx5:Value} {x5:List Eff} (p0:Vb w A vx5 x5) {r:Opr} (hm:Ca x0 x1 x2 x3 x4 x5=some r) :
    Fn Tryz.prog 39 [vx0,(.string x1),vx2,vx3,vx4,vx5] w fun v w'=>Ext w w'∧Vb w' (upA A w w') v r:=by
 obtain ⟨O,hB,p2⟩:=enter hA
 replace k3:=k3.mono p2
 obtain ⟨i6,rfl,v8,v9,j6,rfl,b1,c1,d1,z4,v4⟩:=k3
 obtain ⟨h2,i2,rfl⟩:=b1.form
 obtain ⟨j2,k2,rfl⟩:=c1.form
 obtain ⟨l2,m2,rfl⟩:=d1.form
 replace j0:=j0.mono p2
 obtain ⟨g3,h3,rfl⟩:=j0.form
 replace r0:=r0.mono p2
 obtain ⟨q2,r2,rfl⟩:=r0.form
 replace g2:=g2.mono p2
 obtain ⟨k6,l6,rfl⟩:=g2.form
 replace p0:=p0.mono p2
 obtain ⟨i3,j3,rfl⟩:=p0.form
 refine AH Tryz.func39 rfl Tryz.ntmps39 ?_
 unfold Ca at hm
 refine Ab (Aa (BQ 2 O rfl fun s2 a5 w4 t0 q0=>?_))
 replace q0:Lc 2 a5 w4 s2 74 [(.int .i64 x0.jobs),(.slice h2 x0.write.length i2),(.slice j2 x0.read.length k2),(.int .i64 x0.phase),(.slice l2 x0.vars.length m2)]:=q0
 refine AT 3 w4 fun t2 m6 b5 s0 g0=>?_
 refine o_z ?_
 refine Ab (Aa (Ak rfl (Ak rfl (Ak rfl (AB rfl ?_)))))
 replace q0:=q0.st s0
 refine Az (hc:=Blk.cell (i:=3) (q0.1) rfl) rfl ?_
 refine Eh rfl rfl ?_
 refine AN 4 (by decide) b5 (xs:=([(⟨x0.phase,0⟩:Fct)]:List Fct)) rfl rfl rfl ⟨(Vb.ofAgg (cs:=[(.int .i64 x0.phase),(.int .i64 0)]) (x:=(⟨x0.phase,0⟩:Fct)) rfl ⟨rfl,v4,(show inI64 0 from by decide)⟩),trivial⟩ (by decide) (by decide) rfl fun n6 o6 p6 k0 l3=>?_
 obtain ⟨c5,l0,l3⟩:=l3.freeze
 replace j0:=(((j0.st t0).st s0).st k0).st l0
 replace g2:=(((g2.st t0).st s0).st k0).st l0
 refine AN 5 (by decide) c5 (xs:=([x2,x4,[(⟨x0.phase,0⟩:Fct)]]:List (List Fct))) rfl rfl rfl ⟨j0,g2,l3,trivial⟩ (by decide) (by decide) rfl fun q6 r6 s6 m0 m3=>?_
 obtain ⟨d5,n0,m3⟩:=m3.freeze
 obtain ⟨u1,e5,hm⟩:=bs hm
 refine Dh 6 (O:=d5) (GJ Fr.lt m3 e5) rfl fun n2 o2 t6 f5 o0 u0=>?_
 refine Eh rfl rfl ?_
 refine AT 7 f5 fun v1 u6 y4 h0 a0=>?_
 refine AD a0 rfl rfl rfl (AL) (allOne) fun g5 i0 a0=>?_
 replace a0:Lc 7 g5 y4 v1 82 [(.string x1),(.int .i64 0),(.slice n2 u1.length o2),(.slice none 0 0)]:=a0
 refine o_z ?_
 refine Ab (Ab (Aa (Ak rfl (AR rfl ?_))))
 replace r0:=((((((((r0.st t0).st s0).st k0).st l0).st m0).st n0).st o0).st h0).st i0
 have n3:x3.length≤9223372036854775807:=Nat.le_trans r0.len.2.1 r0.len.2.2
 have v6:inI64 (x3.length:Int):=rngNat n3
 refine Ak rfl (o_z ?_)
 obtain ⟨u2,o3,hm⟩:=bs hm
 refine Au (aft u2 (fun (l1:(List Eff)) (e1:(Option Addr×Nat))=>[(2,(.slice g3 x2.length h3)),(3,(.slice q2 x3.length r2)),(5,(.slice i3 x5.length j3)),(6,(.pointer (some ⟨s2,0,none⟩))),(12,(.pointer (some ⟨t2,0,none⟩))),(13,(.pointer (some ⟨v1,0,none⟩)))]) (fun l1 e1 w'=>∃ O':Lab,Bs w A w' O'∧Vb w' (Fr 0 w' O') (.slice g3 x2.length h3) x2∧Vb w' (Fr 0 w' O') (.slice q2 x3.length r2) x3∧Vb w' (Fr 0 w' O') (.slice i3 x5.length j3) x5∧Lc 2 w' O' s2 74 [(.int .i64 x0.jobs),(.slice h2 x0.write.length i2),(.slice j2 x0.read.length k2),(.int .i64 x0.phase),(.slice l2 x0.vars.length m2)]∧Vb w' (Fr 0 w' O') (.slice h2 x0.write.length i2) x0.write∧Vb w' (Fr 0 w' O') (.slice j2 x0.read.length k2) x0.read∧Vb w' (Fr 0 w' O') (.slice l2 x0.vars.length m2) x0.vars∧Lc 3 w' O' t2 82 [(.string (⟨#[]⟩:ByteArray)),(.int .i64 0),(.slice none 0 0),(.slice none 0 0)]∧Lc 7 w' O' v1 82 [(.string x1),(.int .i64 0),(.slice n2 u1.length o2),(.slice e1.1 l1.length e1.2)]∧Rw 6 w' O' 78 (.slice n2 u1.length o2) u1∧Rw 9 w' O' 85 (.slice e1.1 l1.length e1.2) l1)) ?_ ?_
 ·
  refine AJ ?_
  replace hB:=((((((((hB.st t0).st s0).st k0).st l0).st m0).st n0).st o0).st h0).st i0
  replace j0:=((((j0.st m0).st n0).st o0).st h0).st i0
  replace p0:=((((((((p0.st t0).st s0).st k0).st l0).st m0).st n0).st o0).st h0).st i0
  replace b1:=((((((((b1.st t0).st s0).st k0).st l0).st m0).st n0).st o0).st h0).st i0
  replace c1:=((((((((c1.st t0).st s0).st k0).st l0).st m0).st n0).st o0).st h0).st i0
  replace d1:=((((((((d1.st t0).st s0).st k0).st l0).st m0).st n0).st o0).st h0).st i0
  replace q0:=((((((q0.st k0).st l0).st m0).st n0).st o0).st h0).st i0
  replace g0:=((((((g0.st k0).st l0).st m0).st n0).st o0).st h0).st i0
  replace u0:=(u0.st h0).st i0
  refine Bh (σ:=(List Eff)) (X:=(Option Addr×Nat)) (x3.length) o3 rfl n3 (fun (l1:(List Eff)) (e1:(Option Addr×Nat))=>[(2,(.slice g3 x2.length h3)),(3,(.slice q2 x3.length r2)),(5,(.slice i3 x5.length j3)),(6,(.pointer (some ⟨s2,0,none⟩))),(12,(.pointer (some ⟨t2,0,none⟩))),(13,(.pointer (some ⟨v1,0,none⟩))),(28,(.slice q2 x3.length r2))]) _ (fun l1 e1 w'=>∃ O':Lab,Bs w A w' O'∧Vb w' (Fr 0 w' O') (.slice g3 x2.length h3) x2∧Vb w' (Fr 0 w' O') (.slice q2 x3.length r2) x3∧Vb w' (Fr 0 w' O') (.slice i3 x5.length j3) x5∧Lc 2 w' O' s2 74 [(.int .i64 x0.jobs),(.slice h2 x0.write.length i2),(.slice j2 x0.read.length k2),(.int .i64 x0.phase),(.slice l2 x0.vars.length m2)]∧Vb w' (Fr 0 w' O') (.slice h2 x0.write.length i2) x0.write∧Vb w' (Fr 0 w' O') (.slice j2 x0.read.length k2) x0.read∧Vb w' (Fr 0 w' O') (.slice l2 x0.vars.length m2) x0.vars∧Lc 3 w' O' t2 82 [(.string (⟨#[]⟩:ByteArray)),(.int .i64 0),(.slice none 0 0),(.slice none 0 0)]∧Lc 7 w' O' v1 82 [(.string x1),(.int .i64 0),(.slice n2 u1.length o2),(.slice e1.1 l1.length e1.2)]∧Rw 6 w' O' 78 (.slice n2 u1.length o2) u1∧Rw 9 w' O' 85 (.slice e1.1 l1.length e1.2) l1) _ (none,0) ⟨y4,hB,j0,r0,p0,q0,b1,c1,d1,g0,a0,u0,(Rw.nil 9 (by decide))⟩ ⟨rfl,rfl,rfl,rfl,rfl,rfl,rfl,rfl,rfl,trivial⟩ (fun _ _=>⟨rfl,rfl⟩) (fun _ _=>⟨rfl,rfl,rfl,rfl,rfl,rfl,trivial⟩) (fun _ _ _ ⟨O',hB,j0,r0,p0,q0,b1,c1,d1,g0,a0,u0,f1⟩=>⟨O',hB,j0,r0,p0,q0,b1,c1,d1,g0,a0,u0,f1⟩) ⟨rfl,rfl,rfl⟩ ⟨rfl,rfl⟩ ?_
  rintro h5 w1 l1 e1 w6 i5 v2 ⟨j5,hB,j0,r0,p0,q0,b1,c1,d1,g0,a0,u0,f1⟩ y1 p3 q3
  have rk79:inI64 (h5:Int):=rngK v2 n3
  refine Ab (Aa ?_)
  obtain ⟨x6,y6,k5,r3,s3,t3,rfl,u3,v3⟩:=r0.elem' v2
  refine Bv (hA:=r3) (hj:=rfl) (hlt:=s3) rfl rfl ?_
  refine Bg (hl:=rfl) (hc:=t3) rfl ?_
  refine AT 8 j5 fun w3 l5 y3 c0 v0=>?_
  refine AD v0 rfl rfl rfl (AL) (allOne) fun z3 d0 v0=>?_
  replace v0:Lc 8 z3 y3 w3 78 [(.int .i64 w1.var),(.int .i64 w1.val)]:=v0
  refine o_z ?_
  refine Aa (AB rfl ?_)
  replace a0:=(a0.st c0).st d0
  refine Az (hc:=Blk.cell (i:=3) (a0.1) rfl) rfl ?_
  refine AB rfl (Az (hc:=Blk.cell (i:=0) (v0.1) rfl) rfl ?_)
  refine AB rfl (Az (hc:=Blk.cell (i:=1) (v0.1) rfl) rfl ?_)
  refine Eh rfl rfl ?_
  obtain ⟨a4,z1,y1⟩:=bs y1
  obtain ⟨z1,b4,c4⟩:=AO z1
  replace f1:=(f1.st c0).st d0
  refine Co rfl (a:=(⟨([]:List Fct),w1.var,w1.val⟩:Eff)) f1 (Vb.ofAgg (cs:=[(.slice none 0 0),(.int .i64 w1.var),(.int .i64 w1.val)]) (x:=(⟨([]:List Fct),w1.var,w1.val⟩:Eff)) rfl ⟨_,rfl,(Vb.nil _ _),u3,v3⟩) (fun _=>rfl) rfl b4 c4 ⟨rfl,rfl⟩ fun m5 w2 y2 n5 d4 e0 z2=>?_
  rw [← z1] at z2 ⊢
  refine AB rfl ?_
  replace a0:=a0.st e0
  refine AD a0 rfl rfl rfl (AL) (allOne) fun e4 f0 a0=>?_
  replace a0:Lc 7 e4 d4 v1 82 [(.string x1),(.int .i64 0),(.slice n2 u1.length o2),(.slice w2 a4.length y2)]:=a0
  refine o_z ?_
  obtain rfl:=sm y1
  exact show Exists _ from ⟨_,(w2,y2),rfl,⟨rfl,rfl,rfl,rfl,rfl,rfl,rfl,rfl,rfl,trivial⟩,_,(((hB.st c0).st d0).st e0).st f0,(((j0.st c0).st d0).st e0).st f0,(((r0.st c0).st d0).st e0).st f0,(((p0.st c0).st d0).st e0).st f0,(((q0.st c0).st d0).st e0).st f0,(((b1.st c0).st d0).st e0).st f0,(((c1.st c0).st d0).st e0).st f0,(((d1.st c0).st d0).st e0).st f0,(((g0.st c0).st d0).st e0).st f0,a0,(((u0.st c0).st d0).st e0).st f0,z2.st f0⟩
 replace hB:=((((((((hB.st t0).st s0).st k0).st l0).st m0).st n0).st o0).st h0).st i0
 replace j0:=((((j0.st m0).st n0).st o0).st h0).st i0
 replace p0:=((((((((p0.st t0).st s0).st k0).st l0).st m0).st n0).st o0).st h0).st i0
 replace b1:=((((((((b1.st t0).st s0).st k0).st l0).st m0).st n0).st o0).st h0).st i0
 replace c1:=((((((((c1.st t0).st s0).st k0).st l0).st m0).st n0).st o0).st h0).st i0
 replace d1:=((((((((d1.st t0).st s0).st k0).st l0).st m0).st n0).st o0).st h0).st i0
 replace q0:=((((((q0.st k0).st l0).st m0).st n0).st o0).st h0).st i0
 replace g0:=((((((g0.st k0).st l0).st m0).st n0).st o0).st h0).st i0
 replace u0:=(u0.st h0).st i0
 rintro o5 p5 ⟨a3,b3,rfl,c3,f4,hB,j0,r0,p0,q0,b1,c1,d1,g0,a0,u0,f1⟩
 replace hm:=AP hm
 refine AE _ c3 ?_
 refine Ab (Aa (Bg (hl:=rfl) (hc:=(q0.1).cellsAt) rfl ?_))
 refine Ak rfl (Ak rfl ?_)
 obtain ⟨d3,g4,hm⟩:=bs hm
 refine BU (O:=f4) (R:=fun w' F v=>T2 w' F v d3) (Jm Fr.lt (Vb.ofAgg (cs:=[(.int .i64 x0.jobs),(.slice h2 x0.write.length i2),(.slice j2 x0.read.length k2),(.int .i64 x0.phase),(.slice l2 x0.vars.length m2)]) (x:=x0) rfl ⟨_,_,_,rfl,b1,c1,d1,z4,v4⟩) j0 r0 g4) rfl fun q5 r5 s5 w0 h4=>?_
 obtain ⟨t5,u5,rfl,e3,m1⟩:=h4
 obtain ⟨v5,w5,rfl⟩:=e3.form
 obtain ⟨y5,z5,rfl⟩:=m1.form
 refine Ak rfl (CS rfl rfl (CS rfl rfl (Al rfl (Al rfl (o_z ?_)))))
 refine Ab (Aa (AB rfl ?_))
 replace a0:=a0.st w0
 refine Az (hc:=Blk.cell (i:=2) (a0.1) rfl) rfl ?_
 refine Ak rfl ?_
 obtain ⟨g1,a2,hm⟩:=bs hm
 obtain ⟨a2,i4,j4⟩:=AO a2
 replace u0:=u0.st w0
 refine BE rfl u0 (e3.rd) rfl rfl (by decide) i4 j4 rfl fun h1 i1 a6 k4 y0 b0=>?_
 rw [← a2] at b0 ⊢
 refine AB rfl ?_
 replace a0:=a0.st y0
 refine AD a0 rfl rfl rfl (AL) (allOne) fun l4 z0 a0=>?_
 replace a0:Lc 7 l4 k4 v1 82 [(.string x1),(.int .i64 0),(.slice h1 g1.length i1),(.slice b3.1 a3.length b3.2)]:=a0
 refine o_z ?_
 refine Ab (Aa (AB rfl (Az (hc:=Blk.cell (i:=3) (a0.1) rfl) rfl ?_)))
 refine Ak rfl (Ak rfl ?_)
 replace f1:=((f1.st w0).st y0).st z0
 obtain ⟨m4,a1,f1⟩:=f1.freeze
 replace p0:=(((p0.st w0).st y0).st z0).st a1
 replace m1:=((m1.st y0).st z0).st a1
 refine AN 10 (by decide) m4 (xs:=([a3,x5,d3.2]:List (List Eff))) rfl rfl rfl ⟨f1,p0,m1,trivial⟩ (by decide) (by decide) rfl fun b6 c6 d6 n1 b2=>?_
 obtain ⟨n4,o1,b2⟩:=b2.freeze
 obtain ⟨j1,o4,hm⟩:=bs hm
 refine Dh 11 (O:=n4) (Gb Fr.lt b2 o4) rfl fun p1 q1 e6 p4 r1 k1=>?_
 refine AB rfl ?_
 replace a0:=(((a0.st a1).st n1).st o1).st r1
 refine AD a0 rfl rfl rfl (AL) (allOne) fun q4 s1 a0=>?_
 replace a0:Lc 7 q4 p4 v1 82 [(.string x1),(.int .i64 0),(.slice h1 g1.length i1),(.slice p1 j1.length q1)]:=a0
 refine o_z ?_
 refine Ab (Aa (AB rfl (Az (hc:=Blk.cell (i:=2) (a0.1) rfl) rfl ?_)))
 obtain ⟨r4,c2,hm⟩:=bs hm
 obtain ⟨s4,c2⟩:=Di c2
 replace b0:=(((((b0.st z0).st a1).st n1).st o1).st r1).st s1
 refine QZ (HB b0 s4) rfl rfl fun f6 g6 t4 t1 b0=>?_
 rw [c2] at b0
 refine o_z ?_
 refine Ab (Aa ?_)
 replace a0:=a0.st t1
 refine Bg (hl:=rfl) (hc:=(a0.1).cellsAt) rfl ?_
 replace g0:=((((((((g0.st w0).st y0).st z0).st a1).st n1).st o1).st r1).st s1).st t1
 refine AD g0 rfl rfl rfl (AL) (allOne) fun f3 d2 g0=>?_
 replace g0:Lc 3 f3 t4 t2 82 [(.string x1),(.int .i64 0),(.slice h1 g1.length i1),(.slice p1 j1.length q1)]:=g0
 refine o_z ?_
 refine AC ?_
 replace b0:=b0.st d2
 obtain ⟨h6,e2,b0⟩:=b0.freeze
 replace k1:=(((k1.st s1).st t1).st d2).st e2
 obtain ⟨u4,f2,k1⟩:=k1.freeze
 obtain rfl:=sm hm
 replace hB:=(((((((((((hB.st w0).st y0).st z0).st a1).st n1).st o1).st r1).st s1).st t1).st d2).st e2).st f2
 replace g0:=(g0.st e2).st f2
 replace b0:=b0.st f2
 exact ret1v rfl (Gn (cs:=[(.string x1),(.int .i64 0),(.slice h1 g1.length i1),(.slice p1 j1.length q1)]) rfl rfl g0.1.cellsAt) ⟨hB.ext,(Vb.mono (F:=Fr 0 f3 u4) (Vb.ofAgg (cs:=[(.string x1),(.int .i64 0),(.slice h1 g1.length i1),(.slice p1 j1.length q1)]) (x:=(⟨x1,0,r4,j1⟩:Opr)) rfl ⟨_,_,rfl,b0,k1,(show inI64 0 from by decide),zx1⟩) hB.out)⟩
noncomputable def CD (x0:Lay) (x1:Job) (x2:Int) (x3:Int):Option Opr :=
  bnd (catI (⟨#[119,97,105,116,32]⟩:ByteArray) x1.name) fun n58=>bnd (catI n58 (⟨#[32]⟩:ByteArray)) fun n60=>bnd (Ek x3) fun q62=>bnd (catI n60 q62) fun n64=>bnd (some ():Option Unit) fun y66=>bnd (if 0 < x3 then (bnd (BJ x1.over) fun q108=>some q108) else (some ([]:List Fct)):Option (List Fct)) fun y101=>bnd (chkI (x2 + 1)) fun n124=>bnd (BF x0 x2) fun q127=>bnd (appI 16 y101 [(⟨q127,x3⟩:Fct),(⟨x0.phase,n124⟩:Fct)]) fun u141=>bnd (if 1 < x3 then (bnd (chkI (x3 - 1)) fun n161=>bnd (BF x0 x2) fun q164=>bnd (appI 40 ([]:List Eff) [(⟨([]:List Fct),q164,n161⟩:Eff)]) fun u180=>some u180) else (if x3=1 then (bnd (chkI (x1.dur + 1)) fun n194=>bnd (BF x0 x2) fun q197=>bnd (appI 40 ([]:List Eff) [(⟨([]:List Fct),q197,n194⟩:Eff)]) fun u213=>some u213) else (some ([]:List Eff))):Option (List Eff)) fun y154=>bnd (chkI (x2 + 2)) fun n230=>bnd (appI 40 y154 [(⟨([]:List Fct),x0.phase,n230⟩:Eff)]) fun u233=>some (⟨n64,0,u141,u233⟩:Opr)
theorem JH {w:World} {A:Nat→Prop} (hA:∀ k,A k→k < w.heap.size) {vx0:Value} {x0:Lay} (o4:Vb w A vx0 x0) {vx1:Value} {x1:Job} (p4:Vb w A vx1 x1) {x2:Int} (rx2:inI64 x2) {x3:Int} (rx3:inI64 x3) {r:Opr} (hm:CD x0 x1 x2 x3=some r) :
    Fn Tryz.prog 40 [vx0,vx1,(.int .i64 x2),(.int .i64 x3)] w fun v w'=>Ext w w'∧Vb w' (upA A w w') v r:=by
 obtain ⟨O,hB,o6⟩:=enter hA
 replace o4:=o4.mono o6
 obtain ⟨j8,rfl,v6,v7,v8,rfl,h9,p0,q0,q4,h3⟩:=o4
 obtain ⟨s1,t1,rfl⟩:=h9.form
 obtain ⟨u1,v1,rfl⟩:=p0.form
 obtain ⟨w1,y1,rfl⟩:=q0.form
 replace p4:=p4.mono o6
 obtain ⟨w6,rfl,k8,l8,m8,n8,o8,rfl,a2,z1,b2,c2,d2,p8,q8⟩:=p4
 obtain ⟨i3,j3,rfl⟩:=a2.form
 obtain ⟨k3,l3,rfl⟩:=z1.form
 obtain ⟨m3,n3,rfl⟩:=b2.form
 obtain ⟨o3,p3,rfl⟩:=c2.form
 obtain ⟨q3,r3,rfl⟩:=d2.form
 refine AH Tryz.func40 rfl Tryz.ntmps40 ?_
 unfold CD at hm
 refine Ab (Aa (BQ 2 O rfl fun l2 x6 p6 j0 n0=>?_))
 replace n0:Lc 2 x6 p6 l2 74 [(.int .i64 x0.jobs),(.slice s1 x0.write.length t1),(.slice u1 x0.read.length v1),(.int .i64 x0.phase),(.slice w1 x0.vars.length y1)]:=n0
 refine BQ 3 p6 rfl fun s3 y6 q6 h0 b1=>?_
 replace b1:Lc 3 y6 q6 s3 66 [(.string x1.name),(.int .i64 x1.dur),(.slice i3 x1.start.length j3),(.slice k3 x1.over.length l3),(.slice m3 x1.fin.length n3),(.slice o3 x1.atStart.length p3),(.slice q3 x1.atEnd.length r3)]:=b1
 refine AT 4 q6 fun m2 z6 r4 g0 r0=>?_
 refine o_z ?_
 refine Ab ?_
 obtain ⟨r8,a7,hm⟩:=bs hm
 obtain ⟨s8,b7,hm⟩:=bs hm
 obtain ⟨r6,s6,hm⟩:=bs hm
 obtain ⟨f1,s4,hm⟩:=bs hm
 obtain ⟨t8,t3,hm⟩:=bs hm
 refine Au (fun l' w'=>∃ (l1:Nat) (O':Lab),subs l' [(2,(.int .i64 x2)),(3,(.int .i64 x3)),(4,(.pointer (some ⟨l2,0,none⟩))),(5,(.pointer (some ⟨s3,0,none⟩))),(8,(.pointer (some ⟨m2,0,none⟩))),(9,(.pointer (some ⟨l1,0,none⟩)))]∧Bs w A w' O'∧Lc 2 w' O' l2 74 [(.int .i64 x0.jobs),(.slice s1 x0.write.length t1),(.slice u1 x0.read.length v1),(.int .i64 x0.phase),(.slice w1 x0.vars.length y1)]∧Vb w' (Fr 0 w' O') (.slice s1 x0.write.length t1) x0.write∧Vb w' (Fr 0 w' O') (.slice u1 x0.read.length v1) x0.read∧Vb w' (Fr 0 w' O') (.slice w1 x0.vars.length y1) x0.vars∧Lc 3 w' O' s3 66 [(.string x1.name),(.int .i64 x1.dur),(.slice i3 x1.start.length j3),(.slice k3 x1.over.length l3),(.slice m3 x1.fin.length n3),(.slice o3 x1.atStart.length p3),(.slice q3 x1.atEnd.length r3)]∧Vb w' (Fr 0 w' O') (.slice i3 x1.start.length j3) x1.start∧Vb w' (Fr 0 w' O') (.slice k3 x1.over.length l3) x1.over∧Vb w' (Fr 0 w' O') (.slice m3 x1.fin.length n3) x1.fin∧Vb w' (Fr 0 w' O') (.slice o3 x1.atStart.length p3) x1.atStart∧Vb w' (Fr 0 w' O') (.slice q3 x1.atEnd.length r3) x1.atEnd∧Lc 4 w' O' m2 82 [(.string (⟨#[]⟩:ByteArray)),(.int .i64 0),(.slice none 0 0),(.slice none 0 0)]∧Lc 5 w' O' l1 82 [(.string f1),(.int .i64 0),(.slice none 0 0),(.slice none 0 0)]) ?_ ?_
 ·
  refine BP [] r4 ?_
  refine AM (fuel:=5) [] [(0,true),(1,true),(2,true),(3,true),(4,true)] rfl ?_
  refine Bo rfl rfl ?_
  replace b1:=b1.st g0
  refine BK (hc:=fun w' ⟨O',hq⟩=>Blk.cell (i:=0) ((b1.st hq (by decide)).1) rfl) rfl rfl ?_
  refine Lw (he:=a7) rfl rfl rfl rfl ?_
  refine Lw (he:=b7) rfl rfl rfl rfl ?_
  refine Bp rfl rfl (Ay ?_)
  refine Ec (i:=5) (j:=8) rfl rfl ?_ ?_
  ·
   refine AG (O:=r4) (A:=All z6) (R:=fun w' F v=>Vb w' F v r6) (JD (fun _ h=>h) rx3 s6) rfl fun u8 w8 c7 h1 d7=>?_
   obtain ⟨rfl,x8⟩:=d7.str
   have hZ:=h1.lst [] (fun _ h=>h.elim)
   refine AF [] hZ ?_
   refine AM (fuel:=2) [] [(6,true),(7,true)] rfl ?_
   refine Lw (he:=s4) rfl rfl rfl rfl ?_
   refine CE rfl rfl rfl ?_
   refine Ay ?_
   refine Ax (i:=8) rfl ?_
   refine AT 5 c7 fun t6 y8 e7 i1 u3=>?_
   have hZ:=i1.lst [] (fun _ h=>h.elim)
   refine AF [] hZ ?_
   refine Ax (i:=9) rfl ?_
   refine AD u3 rfl rfl rfl (AL) (allOne) fun f7 m1 u3=>?_
   replace u3:Lc 5 f7 e7 t6 82 [(.string f1),(.int .i64 0),(.slice none 0 0),(.slice none 0 0)]:=u3
   refine BL ?_
   refine BG ?_
   obtain rfl:=sm t3
   exact ⟨t6,_,⟨rfl,rfl,rfl,rfl,rfl,rfl,trivial⟩,(((((hB.st j0).st h0).st g0).st h1).st i1).st m1,((((n0.st h0).st g0).st h1).st i1).st m1,(((((h9.st j0).st h0).st g0).st h1).st i1).st m1,(((((p0.st j0).st h0).st g0).st h1).st i1).st m1,(((((q0.st j0).st h0).st g0).st h1).st i1).st m1,((b1.st h1).st i1).st m1,(((((a2.st j0).st h0).st g0).st h1).st i1).st m1,(((((z1.st j0).st h0).st g0).st h1).st i1).st m1,(((((b2.st j0).st h0).st g0).st h1).st i1).st m1,(((((c2.st j0).st h0).st g0).st h1).st i1).st m1,(((((d2.st j0).st h0).st g0).st h1).st i1).st m1,((r0.st h1).st i1).st m1,u3⟩
  refine AT 5 r4 fun u6 g7 h7 j1 n2=>?_
  have hZ:=j1.lst [] (fun _ h=>h.elim)
  refine AF [] hZ ?_
  refine Ax (i:=5) rfl ?_
  refine AG (O:=h7) (A:=All g7) (R:=fun w' F v=>Vb w' F v r6) (JD (fun _ h=>h) rx3 s6) rfl fun z8 a9 i7 g1 j7=>?_
  obtain ⟨rfl,b9⟩:=j7.str
  have hZ:=g1.lst [] (fun _ h=>h.elim)
  refine AF [] hZ ?_
  refine AM (fuel:=1) [] [(6,true),(7,true)] rfl ?_
  refine Lw (he:=s4) rfl rfl rfl rfl ?_
  refine CE rfl rfl rfl ?_
  refine Ay ?_
  refine Ax (i:=9) rfl ?_
  replace n2:=n2.st g1
  refine AD n2 rfl rfl rfl (AL) (allOne) fun k7 n1 n2=>?_
  replace n2:Lc 5 k7 i7 u6 82 [(.string f1),(.int .i64 0),(.slice none 0 0),(.slice none 0 0)]:=n2
  refine BL ?_
  refine BG ?_
  obtain rfl:=sm t3
  exact ⟨u6,_,⟨rfl,rfl,rfl,rfl,rfl,rfl,trivial⟩,(((((hB.st j0).st h0).st g0).st j1).st g1).st n1,((((n0.st h0).st g0).st j1).st g1).st n1,(((((h9.st j0).st h0).st g0).st j1).st g1).st n1,(((((p0.st j0).st h0).st g0).st j1).st g1).st n1,(((((q0.st j0).st h0).st g0).st j1).st g1).st n1,((b1.st j1).st g1).st n1,(((((a2.st j0).st h0).st g0).st j1).st g1).st n1,(((((z1.st j0).st h0).st g0).st j1).st g1).st n1,(((((b2.st j0).st h0).st g0).st j1).st g1).st n1,(((((c2.st j0).st h0).st g0).st j1).st g1).st n1,(((((d2.st j0).st h0).st g0).st j1).st g1).st n1,((r0.st j1).st g1).st n1,n2⟩
 replace hB:=((hB.st j0).st h0).st g0
 replace h9:=((h9.st j0).st h0).st g0
 replace p0:=((p0.st j0).st h0).st g0
 replace q0:=((q0.st j0).st h0).st g0
 replace a2:=((a2.st j0).st h0).st g0
 replace z1:=((z1.st j0).st h0).st g0
 replace b2:=((b2.st j0).st h0).st g0
 replace c2:=((c2.st j0).st h0).st g0
 replace d2:=((d2.st j0).st h0).st g0
 replace n0:=(n0.st h0).st g0
 replace b1:=b1.st g0
 rintro c9 d9 ⟨l1,l7,v3,hB,n0,h9,p0,q0,b1,a2,z1,b2,c2,d2,r0,f0⟩
 refine AE _ v3 ?_
 refine Ab ?_
 obtain ⟨o2,m0,hm⟩:=bs hm
 refine Au (fun l' w'=>∃ (o1:(Option Addr×Nat)) (O':Lab),subs l' [(2,(.int .i64 x2)),(3,(.int .i64 x3)),(4,(.pointer (some ⟨l2,0,none⟩))),(5,(.pointer (some ⟨s3,0,none⟩))),(8,(.pointer (some ⟨m2,0,none⟩))),(9,(.pointer (some ⟨l1,0,none⟩)))]∧Bs w A w' O'∧Lc 2 w' O' l2 74 [(.int .i64 x0.jobs),(.slice s1 x0.write.length t1),(.slice u1 x0.read.length v1),(.int .i64 x0.phase),(.slice w1 x0.vars.length y1)]∧Vb w' (Fr 0 w' O') (.slice s1 x0.write.length t1) x0.write∧Vb w' (Fr 0 w' O') (.slice u1 x0.read.length v1) x0.read∧Vb w' (Fr 0 w' O') (.slice w1 x0.vars.length y1) x0.vars∧Lc 3 w' O' s3 66 [(.string x1.name),(.int .i64 x1.dur),(.slice i3 x1.start.length j3),(.slice k3 x1.over.length l3),(.slice m3 x1.fin.length n3),(.slice o3 x1.atStart.length p3),(.slice q3 x1.atEnd.length r3)]∧Vb w' (Fr 0 w' O') (.slice i3 x1.start.length j3) x1.start∧Vb w' (Fr 0 w' O') (.slice k3 x1.over.length l3) x1.over∧Vb w' (Fr 0 w' O') (.slice m3 x1.fin.length n3) x1.fin∧Vb w' (Fr 0 w' O') (.slice o3 x1.atStart.length p3) x1.atStart∧Vb w' (Fr 0 w' O') (.slice q3 x1.atEnd.length r3) x1.atEnd∧Lc 4 w' O' m2 82 [(.string (⟨#[]⟩:ByteArray)),(.int .i64 0),(.slice none 0 0),(.slice none 0 0)]∧Lc 5 w' O' l1 82 [(.string f1),(.int .i64 0),(.slice o1.1 o2.length o1.2),(.slice none 0 0)]∧Rw 6 w' O' 78 (.slice o1.1 o2.length o1.2) o2) ?_ ?_
 ·
  refine Ab (Aa (Ak rfl (Dg rfl rfl (fun p2=>?_) fun p2=>?_)))
  ·
   replace m0:=ip m0 p2
   refine o_z ?_
   refine Aj rfl (Aa (AB rfl (Az (hc:=Blk.cell (i:=3) (b1.1) rfl) rfl ?_)))
   obtain ⟨t4,u4,m0⟩:=bs m0
   refine Dh 6 (O:=l7) (Cd Fr.lt z1 u4) rfl fun w3 y3 m7 v4 k0 w4=>?_
   refine AB rfl ?_
   replace f0:=f0.st k0
   refine AD f0 rfl rfl rfl (AL) (allOne) fun x4 l0 f0=>?_
   replace f0:Lc 5 x4 v4 l1 82 [(.string f1),(.int .i64 0),(.slice w3 t4.length y3),(.slice none 0 0)]:=f0
   refine o_z ?_
   obtain rfl:=sm m0
   exact ⟨(w3,y3),_,⟨rfl,rfl,rfl,rfl,rfl,rfl,trivial⟩,(hB.st k0).st l0,(n0.st k0).st l0,(h9.st k0).st l0,(p0.st k0).st l0,(q0.st k0).st l0,(b1.st k0).st l0,(a2.st k0).st l0,(z1.st k0).st l0,(b2.st k0).st l0,(c2.st k0).st l0,(d2.st k0).st l0,(r0.st k0).st l0,f0,w4.st l0⟩
  replace m0:=im m0 p2
  refine o_z ?_
  refine Ah rfl (AK ?_)
  obtain rfl:=sm m0
  exact ⟨(none,0),_,⟨rfl,rfl,rfl,rfl,rfl,rfl,trivial⟩,hB,n0,h9,p0,q0,b1,a2,z1,b2,c2,d2,r0,f0,(Rw.nil 6 (by decide))⟩
 rintro n7 z3 ⟨o1,q2,a4,hB,n0,h9,p0,q0,b1,a2,z1,b2,c2,d2,r0,f0,r2⟩
 refine AE _ a4 ?_
 refine Ab (BP [(13,[6])] q2 ?_)
 refine AM (fuel:=6) [] [(0,true),(1,true),(2,true),(3,true),(5,true),(7,true),(8,true),(9,true),(10,true),(11,true)] rfl ?_
 refine Bo rfl rfl (BK (hc:=fun w' ⟨O',hq⟩=>Blk.cell (i:=2) ((f0.st hq (by decide)).1) rfl) rfl rfl ?_)
 refine CN (hl:=rfl) (hb:=fun w' ⟨O',hq⟩=>((n0.st hq (by decide)).1).cellsAt) rfl rfl ?_
 refine Bp rfl rfl (Bp rfl rfl (Bo rfl rfl (BK (hc:=fun w' ⟨O',hq⟩=>Blk.cell (i:=3) ((n0.st hq (by decide)).1) rfl) rfl rfl ?_)))
 refine Bp rfl rfl ?_
 obtain ⟨s2,b4,hm⟩:=bs hm
 have y4:=(AX b4)
 refine JY (he:=b4) rfl rfl rfl ?_
 refine CE rfl rfl rfl ?_
 refine Ay ?_
 refine Ax (i:=4) rfl ?_
 obtain ⟨e2,z4,hm⟩:=bs hm
 refine AG (O:=q2) (A:=All z3) (R:=fun w' F v=>Vb w' F v e2) (BC (fun _ h=>h) (Vb.mono (F:=Fr 0 z3 q2) (Vb.ofAgg (cs:=[(.int .i64 x0.jobs),(.slice s1 x0.write.length t1),(.slice u1 x0.read.length v1),(.int .i64 x0.phase),(.slice w1 x0.vars.length y1)]) (x:=x0) rfl ⟨_,_,_,rfl,h9,p0,q0,q4,h3⟩) Fr.lt) rx2 z4) rfl fun o7 p7 a5 c0 b5=>?_
 obtain ⟨rfl,c5⟩:=b5.int
 have hZ:=c0.lst [] (fun _ h=>h.elim)
 refine AF [(13,[6])] hZ ?_
 refine AM (fuel:=4) [] [(6,true)] rfl ?_
 refine CE rfl rfl rfl ?_
 refine Ay ?_
 refine Ax (i:=12) rfl ?_
 refine AN 7 (by decide) a5 (xs:=([(⟨e2,x3⟩:Fct),(⟨x0.phase,s2⟩:Fct)]:List Fct)) rfl rfl rfl ⟨(Vb.ofAgg (cs:=[(.int .i64 e2),(.int .i64 x3)]) (x:=(⟨e2,x3⟩:Fct)) rfl ⟨rfl,c5,rx3⟩),(Vb.ofAgg (cs:=[(.int .i64 x0.phase),(.int .i64 s2)]) (x:=(⟨x0.phase,s2⟩:Fct)) rfl ⟨rfl,h3,y4⟩),trivial⟩ (by decide) (by decide) rfl fun q7 r7 s7 d0 d5=>?_
 have hZ:=d0.lst [] (fun _ h=>h.elim)
 refine AF [(13,[6])] hZ ?_
 refine Ax (i:=13) rfl ?_
 obtain ⟨o0,t2,hm⟩:=bs hm
 obtain ⟨t2,e5,f5⟩:=AO t2
 replace r2:=(r2.st c0).st d0
 refine BE rfl r2 (d5.rd) rfl rfl (by decide) e5 f5 rfl fun s0 t0 t7 e1 e0 i0=>?_
 rw [← t2] at i0 ⊢
 have hZ:=e0.lst [6] (fun _ h=>by cases h;decide)
 refine AF [] hZ ?_
 refine AM (fuel:=1) [] [(14,true)] rfl ?_
 refine Bo rfl rfl (Ay ?_)
 refine Ax (i:=15) rfl ?_
 replace f0:=((f0.st c0).st d0).st e0
 refine AD f0 rfl rfl rfl (AL) (allOne) fun p1 b0 f0=>?_
 replace f0:Lc 5 p1 e1 l1 82 [(.string f1),(.int .i64 0),(.slice s0 o0.length t0),(.slice none 0 0)]:=f0
 refine BL ?_
 refine BG ?_
 refine Ab ?_
 obtain ⟨u2,a0,hm⟩:=bs hm
 refine Au (fun l' w'=>∃ (q1:(Option Addr×Nat)) (O':Lab),subs l' [(2,(.int .i64 x2)),(4,(.pointer (some ⟨l2,0,none⟩))),(8,(.pointer (some ⟨m2,0,none⟩))),(9,(.pointer (some ⟨l1,0,none⟩)))]∧Bs w A w' O'∧Lc 2 w' O' l2 74 [(.int .i64 x0.jobs),(.slice s1 x0.write.length t1),(.slice u1 x0.read.length v1),(.int .i64 x0.phase),(.slice w1 x0.vars.length y1)]∧Vb w' (Fr 0 w' O') (.slice s1 x0.write.length t1) x0.write∧Vb w' (Fr 0 w' O') (.slice u1 x0.read.length v1) x0.read∧Vb w' (Fr 0 w' O') (.slice w1 x0.vars.length y1) x0.vars∧Lc 4 w' O' m2 82 [(.string (⟨#[]⟩:ByteArray)),(.int .i64 0),(.slice none 0 0),(.slice none 0 0)]∧Lc 5 w' O' l1 82 [(.string f1),(.int .i64 0),(.slice s0 o0.length t0),(.slice q1.1 u2.length q1.2)]∧Rw 6 w' O' 78 (.slice s0 o0.length t0) o0∧Rw 9 w' O' 85 (.slice q1.1 u2.length q1.2) u2) ?_ ?_
 ·
  refine AJ (Ab (Aa (Ak rfl (Dg rfl rfl (fun v2=>?_) fun v2=>?_))))
  ·
   replace a0:=ip a0 v2
   refine Al rfl (o_z ?_)
   refine Aj rfl (BP [(9,[9])] e1 ?_)
   refine AM (fuel:=6) [] [(0,true),(1,true),(2,true),(3,true),(5,true),(6,true)] rfl ?_
   refine Bo rfl rfl (BK (hc:=fun w' ⟨O',hq⟩=>Blk.cell (i:=3) ((f0.st hq (by decide)).1) rfl) rfl rfl ?_)
   replace n0:=(((n0.st c0).st d0).st e0).st b0
   refine CN (hl:=rfl) (hb:=fun w' ⟨O',hq⟩=>((n0.st hq (by decide)).1).cellsAt) rfl rfl ?_
   refine Bp rfl rfl (Bp rfl rfl ?_)
   obtain ⟨w2,c4,a0⟩:=bs a0
   have g5:=(AX c4)
   refine MM (he:=c4) rfl rfl rfl rfl ?_
   refine Ay ?_
   refine Ax (i:=4) rfl ?_
   obtain ⟨f2,h5,a0⟩:=bs a0
   replace h9:=(((h9.st c0).st d0).st e0).st b0
   replace p0:=(((p0.st c0).st d0).st e0).st b0
   replace q0:=(((q0.st c0).st d0).st e0).st b0
   refine AG (O:=e1) (A:=All p1) (R:=fun w' F v=>Vb w' F v f2) (BC (fun _ h=>h) (Vb.mono (F:=Fr 0 p1 e1) (Vb.ofAgg (cs:=[(.int .i64 x0.jobs),(.slice s1 x0.write.length t1),(.slice u1 x0.read.length v1),(.int .i64 x0.phase),(.slice w1 x0.vars.length y1)]) (x:=x0) rfl ⟨_,_,_,rfl,h9,p0,q0,q4,h3⟩) Fr.lt) rx2 h5) rfl fun u7 w7 i5 u0 j5=>?_
   obtain ⟨rfl,k5⟩:=j5.int
   have hZ:=u0.lst [] (fun _ h=>h.elim)
   refine AF [(9,[9])] hZ ?_
   refine AM (fuel:=4) [] [(7,true)] rfl ?_
   refine CE rfl rfl rfl ?_
   refine Ay ?_
   refine Ax (i:=8) rfl ?_
   refine AN 8 (by decide) i5 (xs:=([(⟨([]:List Fct),f2,w2⟩:Eff)]:List Eff)) rfl rfl rfl ⟨(Vb.ofAgg (cs:=[(.slice none 0 0),(.int .i64 f2),(.int .i64 w2)]) (x:=(⟨([]:List Fct),f2,w2⟩:Eff)) rfl ⟨_,rfl,(Vb.nil _ _),k5,g5⟩),trivial⟩ (by decide) (by decide) rfl fun x7 l5 m5 v0 n5=>?_
   have hZ:=v0.lst [] (fun _ h=>h.elim)
   refine AF [(9,[9])] hZ ?_
   refine Ax (i:=9) rfl ?_
   have o5:Rw 9 l5 m5 85 (.slice none 0 0) ([]:List Eff):=Rw.nil 9 (by decide)
   obtain ⟨p5,y2,a0⟩:=bs a0
   obtain ⟨y2,q5,r5⟩:=AO y2
   refine BE rfl o5 (n5.rd) rfl rfl (by decide) q5 r5 rfl fun d4 e4 y7 s5 w0 f4=>?_
   rw [← y2] at f4 ⊢
   have hZ:=w0.lst [9] (fun _ h=>by cases h;decide)
   refine AF [] hZ ?_
   refine AM (fuel:=1) [] [(10,true)] rfl ?_
   refine Bo rfl rfl (Ay ?_)
   refine Ax (i:=11) rfl ?_
   replace f0:=((f0.st u0).st v0).st w0
   refine AD f0 rfl rfl rfl (AL) (allOne) fun t5 c1 f0=>?_
   replace f0:Lc 5 t5 s5 l1 82 [(.string f1),(.int .i64 0),(.slice s0 o0.length t0),(.slice d4 p5.length e4)]:=f0
   refine BL ?_
   refine BG ?_
   obtain rfl:=sm a0
   exact ⟨(d4,e4),_,⟨rfl,rfl,rfl,rfl,trivial⟩,(((((((hB.st c0).st d0).st e0).st b0).st u0).st v0).st w0).st c1,(((n0.st u0).st v0).st w0).st c1,(((h9.st u0).st v0).st w0).st c1,(((p0.st u0).st v0).st w0).st c1,(((q0.st u0).st v0).st w0).st c1,(((((((r0.st c0).st d0).st e0).st b0).st u0).st v0).st w0).st c1,f0,((((i0.st b0).st u0).st v0).st w0).st c1,f4.st c1⟩
  replace a0:=im a0 v2
  refine Al rfl (o_z ?_)
  refine Ah rfl (Ab (Aa (Ak rfl (EZ rfl rfl (fun z2=>?_) fun z2=>?_))))
  ·
   replace a0:=ip a0 z2
   refine Al rfl (o_z ?_)
   refine Aj rfl (BP [(10,[9])] e1 ?_)
   refine AM (fuel:=6) [] [(0,true),(1,true),(2,true),(3,true),(5,true),(6,true),(7,true)] rfl ?_
   refine Bo rfl rfl (BK (hc:=fun w' ⟨O',hq⟩=>Blk.cell (i:=3) ((f0.st hq (by decide)).1) rfl) rfl rfl ?_)
   replace n0:=(((n0.st c0).st d0).st e0).st b0
   refine CN (hl:=rfl) (hb:=fun w' ⟨O',hq⟩=>((n0.st hq (by decide)).1).cellsAt) rfl rfl ?_
   refine Bp rfl rfl (Bo rfl rfl ?_)
   replace b1:=(((b1.st c0).st d0).st e0).st b0
   refine BK (hc:=fun w' ⟨O',hq⟩=>Blk.cell (i:=1) ((b1.st hq (by decide)).1) rfl) rfl rfl ?_
   obtain ⟨a3,g4,a0⟩:=bs a0
   have u5:=(AX g4)
   refine JY (he:=g4) rfl rfl rfl ?_
   refine Ay ?_
   refine Ax (i:=4) rfl ?_
   obtain ⟨g2,v5,a0⟩:=bs a0
   replace h9:=(((h9.st c0).st d0).st e0).st b0
   replace p0:=(((p0.st c0).st d0).st e0).st b0
   replace q0:=(((q0.st c0).st d0).st e0).st b0
   refine AG (O:=e1) (A:=All p1) (R:=fun w' F v=>Vb w' F v g2) (BC (fun _ h=>h) (Vb.mono (F:=Fr 0 p1 e1) (Vb.ofAgg (cs:=[(.int .i64 x0.jobs),(.slice s1 x0.write.length t1),(.slice u1 x0.read.length v1),(.int .i64 x0.phase),(.slice w1 x0.vars.length y1)]) (x:=x0) rfl ⟨_,_,_,rfl,h9,p0,q0,q4,h3⟩) Fr.lt) rx2 v5) rfl fun z7 a8 w5 y0 x5=>?_
   obtain ⟨rfl,y5⟩:=x5.int
   have hZ:=y0.lst [] (fun _ h=>h.elim)
   refine AF [(10,[9])] hZ ?_
   refine AM (fuel:=4) [] [(8,true)] rfl ?_
   refine CE rfl rfl rfl ?_
   refine Ay ?_
   refine Ax (i:=9) rfl ?_
   refine AN 10 (by decide) w5 (xs:=([(⟨([]:List Fct),g2,a3⟩:Eff)]:List Eff)) rfl rfl rfl ⟨(Vb.ofAgg (cs:=[(.slice none 0 0),(.int .i64 g2),(.int .i64 a3)]) (x:=(⟨([]:List Fct),g2,a3⟩:Eff)) rfl ⟨_,rfl,(Vb.nil _ _),y5,u5⟩),trivial⟩ (by decide) (by decide) rfl fun b8 z5 a6 z0 b6=>?_
   have hZ:=z0.lst [] (fun _ h=>h.elim)
   refine AF [(10,[9])] hZ ?_
   refine Ax (i:=10) rfl ?_
   have c6:Rw 9 z5 a6 85 (.slice none 0 0) ([]:List Eff):=Rw.nil 9 (by decide)
   obtain ⟨d6,b3,a0⟩:=bs a0
   obtain ⟨b3,e6,f6⟩:=AO b3
   refine BE rfl c6 (b6.rd) rfl rfl (by decide) e6 f6 rfl fun h4 i4 c8 g6 a1 j4=>?_
   rw [← b3] at j4 ⊢
   have hZ:=a1.lst [9] (fun _ h=>by cases h;decide)
   refine AF [] hZ ?_
   refine AM (fuel:=1) [] [(11,true)] rfl ?_
   refine Bo rfl rfl (Ay ?_)
   refine Ax (i:=12) rfl ?_
   replace f0:=((f0.st y0).st z0).st a1
   refine AD f0 rfl rfl rfl (AL) (allOne) fun h6 d1 f0=>?_
   replace f0:Lc 5 h6 g6 l1 82 [(.string f1),(.int .i64 0),(.slice s0 o0.length t0),(.slice h4 d6.length i4)]:=f0
   refine BL ?_
   refine BG ?_
   obtain rfl:=sm a0
   exact ⟨(h4,i4),_,⟨rfl,rfl,rfl,rfl,trivial⟩,(((((((hB.st c0).st d0).st e0).st b0).st y0).st z0).st a1).st d1,(((n0.st y0).st z0).st a1).st d1,(((h9.st y0).st z0).st a1).st d1,(((p0.st y0).st z0).st a1).st d1,(((q0.st y0).st z0).st a1).st d1,(((((((r0.st c0).st d0).st e0).st b0).st y0).st z0).st a1).st d1,f0,((((i0.st b0).st y0).st z0).st a1).st d1,j4.st d1⟩
  replace a0:=im a0 z2
  refine Al rfl (o_z ?_)
  refine Ah rfl (AK ?_)
  obtain rfl:=sm a0
  exact ⟨(none,0),_,⟨rfl,rfl,rfl,rfl,trivial⟩,(((hB.st c0).st d0).st e0).st b0,(((n0.st c0).st d0).st e0).st b0,(((h9.st c0).st d0).st e0).st b0,(((p0.st c0).st d0).st e0).st b0,(((q0.st c0).st d0).st e0).st b0,(((r0.st c0).st d0).st e0).st b0,f0,i0.st b0,(Rw.nil 9 (by decide))⟩
 replace hB:=(((hB.st c0).st d0).st e0).st b0
 replace h9:=(((h9.st c0).st d0).st e0).st b0
 replace p0:=(((p0.st c0).st d0).st e0).st b0
 replace q0:=(((q0.st c0).st d0).st e0).st b0
 replace n0:=(((n0.st c0).st d0).st e0).st b0
 replace r0:=(((r0.st c0).st d0).st e0).st b0
 replace i0:=i0.st b0
 rintro d8 e8 ⟨q1,f8,k4,hB,n0,h9,p0,q0,r0,f0,i0,i6⟩
 refine AE _ k4 ?_
 refine Ab (Aa (AB rfl (Az (hc:=Blk.cell (i:=3) (f0.1) rfl) rfl ?_)))
 refine AB rfl (Az (hc:=Blk.cell (i:=3) (n0.1) rfl) rfl ?_)
 refine Ak rfl ?_
 obtain ⟨c3,l4,hm⟩:=bs hm
 have j6:=(AX l4)
 refine Dn (he:=l4) rfl rfl ?_
 refine Eh rfl rfl ?_
 obtain ⟨r1,d3,hm⟩:=bs hm
 obtain ⟨d3,k6,l6⟩:=AO d3
 refine Co rfl (a:=(⟨([]:List Fct),x0.phase,c3⟩:Eff)) i6 (Vb.ofAgg (cs:=[(.slice none 0 0),(.int .i64 x0.phase),(.int .i64 c3)]) (x:=(⟨([]:List Fct),x0.phase,c3⟩:Eff)) rfl ⟨_,rfl,(Vb.nil _ _),h3,j6⟩) (fun _=>rfl) rfl k6 l6 ⟨rfl,rfl⟩ fun g8 h2 i2 h8 m4 j2 k1=>?_
 rw [← d3] at k1 ⊢
 refine AB rfl ?_
 replace f0:=f0.st j2
 refine AD f0 rfl rfl rfl (AL) (allOne) fun m6 k2 f0=>?_
 replace f0:Lc 5 m6 m4 l1 82 [(.string f1),(.int .i64 0),(.slice s0 o0.length t0),(.slice h2 r1.length i2)]:=f0
 refine o_z ?_
 refine Ab (Aa (Bg (hl:=rfl) (hc:=(f0.1).cellsAt) rfl ?_))
 replace r0:=(r0.st j2).st k2
 refine AD r0 rfl rfl rfl (AL) (allOne) fun n4 e3 r0=>?_
 replace r0:Lc 4 n4 m4 m2 82 [(.string f1),(.int .i64 0),(.slice s0 o0.length t0),(.slice h2 r1.length i2)]:=r0
 refine o_z ?_
 refine AC ?_
 replace i0:=((i0.st j2).st k2).st e3
 obtain ⟨i8,f3,i0⟩:=i0.freeze
 replace k1:=((k1.st k2).st e3).st f3
 obtain ⟨n6,g3,k1⟩:=k1.freeze
 obtain rfl:=sm hm
 replace hB:=((((hB.st j2).st k2).st e3).st f3).st g3
 replace r0:=(r0.st f3).st g3
 replace i0:=i0.st g3
 exact ret1v rfl (Gn (cs:=[(.string f1),(.int .i64 0),(.slice s0 o0.length t0),(.slice h2 r1.length i2)]) rfl rfl r0.1.cellsAt) ⟨hB.ext,(Vb.mono (F:=Fr 0 n4 n6) (Vb.ofAgg (cs:=[(.string f1),(.int .i64 0),(.slice s0 o0.length t0),(.slice h2 r1.length i2)]) (x:=(⟨f1,0,o0,r1⟩:Opr)) rfl ⟨_,_,rfl,i0,k1,(show inI64 0 from by decide),(Hm s4)⟩) hB.out)⟩
noncomputable def Cr (x0:Lay) (x1:Int):Option Opr :=
  bnd (chkI (x1 + 1)) fun n28=>bnd (natI x1) fun N57=>bnd (rngN (ρ:=Opr) (fun (k48:Nat) (s46:(List Eff))=>bnd (Cv x0 (k48:Int)) fun q63=>bnd (appI 40 s46 [(⟨([]:List Fct),q63,0⟩:Eff)]) fun u77=>some (.next u77)) N57 ([]:List Eff)) fun res44=>fin res44 fun (s94:(List Eff))=>bnd (rng (ρ:=Opr) (fun (k102:Nat) (a103:Int) (s100:(List Eff))=>bnd (if 0≤a103 then (bnd (appI 40 s100 [(⟨([]:List Fct),a103,0⟩:Eff)]) fun u146=>some u146) else (some s100):Option (List Eff)) fun y117=>bnd (x0.read[k102]?) fun a163=>if 0≤a163 then (bnd (x0.read[k102]?) fun a174=>bnd (appI 40 y117 [(⟨([]:List Fct),a174,0⟩:Eff)]) fun u190=>some (.next u190)) else (some (.next y117))) x0.write 0 s94) fun res98=>fin res98 fun (s207:(List Eff))=>bnd (appI 40 s207 [(⟨([]:List Fct),x0.phase,0⟩:Eff)]) fun u209=>some (⟨(⟨#[97,100,118,97,110,99,101]⟩:ByteArray),1,[(⟨x0.phase,n28⟩:Fct)],u209⟩:Opr)
theorem IH {w:World} {A:Nat→Prop} (hA:∀ k,A k→k < w.heap.size) {vx0:Value} {x0:Lay} (q3:Vb w A vx0 x0) {x1:Int} (rx1:inI64 x1) {r:Opr} (hm:Cr x0 x1=some r) :
    Fn Tryz.prog 41 [vx0,(.int .i64 x1)] w fun v w'=>Ext w w'∧Vb w' (upA A w w') v r:=by
 obtain ⟨O,hB,j5⟩:=enter hA
 replace q3:=q3.mono j5
 obtain ⟨l7,rfl,v4,v5,v6,rfl,h7,i0,j0,k5,r3⟩:=q3
 obtain ⟨A8,c9,rfl⟩:=h7.form
 obtain ⟨z0,a1,rfl⟩:=i0.form
 obtain ⟨b1,c1,rfl⟩:=j0.form
 refine AH Tryz.func41 rfl Tryz.ntmps41 ?_
 unfold Cr at hm
 refine Ab (Aa (BQ 2 O rfl fun f1 l5 w4 v1 c0=>?_))
 replace c0:Lc 2 l5 w4 f1 74 [(.int .i64 x0.jobs),(.slice A8 x0.write.length c9),(.slice z0 x0.read.length a1),(.int .i64 x0.phase),(.slice b1 x0.vars.length c1)]:=c0
 refine AT 3 w4 fun g1 m7 m5 o1 d0=>?_
 refine o_z ?_
 refine Ab (Aa (AB rfl ?_))
 replace c0:=c0.st o1
 refine Az (hc:=Blk.cell (i:=3) (c0.1) rfl) rfl ?_
 refine Ak rfl ?_
 obtain ⟨f0,x4,hm⟩:=bs hm
 have n5:=(AX x4)
 refine Dn (he:=x4) rfl rfl ?_
 refine Eh rfl rfl ?_
 refine AN 4 (by decide) m5 (xs:=([(⟨x0.phase,f0⟩:Fct)]:List Fct)) rfl rfl rfl ⟨(Vb.ofAgg (cs:=[(.int .i64 x0.phase),(.int .i64 f0)]) (x:=(⟨x0.phase,f0⟩:Fct)) rfl ⟨rfl,r3,n5⟩),trivial⟩ (by decide) (by decide) rfl fun p0 n7 o5 d1 g0=>?_
 refine Eh rfl rfl ?_
 refine AT 5 o5 fun t0 o7 y4 v0 a0=>?_
 refine AD a0 rfl rfl rfl (AL) (allOne) fun p5 w0 a0=>?_
 replace a0:Lc 5 p5 y4 t0 82 [(.string (⟨#[97,100,118,97,110,99,101]⟩:ByteArray)),(.int .i64 1),(.slice (some ⟨p0,0,none⟩) [(⟨x0.phase,f0⟩:Fct)].length 1),(.slice none 0 0)]:=a0
 refine o_z ?_
 refine Ab (Ab (Aa (Ak rfl (Ak rfl (o_z ?_)))))
 obtain ⟨q5,h1,hm⟩:=bs hm
 replace h1:=IX h1
 obtain ⟨l2,s3,hm⟩:=bs hm
 refine Au (aft l2 (fun (l1:(List Eff)) (e1:(Option Addr×Nat))=>[(2,(.pointer (some ⟨f1,0,none⟩))),(4,(.pointer (some ⟨g1,0,none⟩))),(5,(.pointer (some ⟨t0,0,none⟩)))]) (fun l1 e1 w'=>∃ O':Lab,Bs w A w' O'∧Lc 2 w' O' f1 74 [(.int .i64 x0.jobs),(.slice A8 x0.write.length c9),(.slice z0 x0.read.length a1),(.int .i64 x0.phase),(.slice b1 x0.vars.length c1)]∧Vb w' (Fr 0 w' O') (.slice A8 x0.write.length c9) x0.write∧Vb w' (Fr 0 w' O') (.slice z0 x0.read.length a1) x0.read∧Vb w' (Fr 0 w' O') (.slice b1 x0.vars.length c1) x0.vars∧Lc 3 w' O' g1 82 [(.string (⟨#[]⟩:ByteArray)),(.int .i64 0),(.slice none 0 0),(.slice none 0 0)]∧Lc 5 w' O' t0 82 [(.string (⟨#[97,100,118,97,110,99,101]⟩:ByteArray)),(.int .i64 1),(.slice (some ⟨p0,0,none⟩) [(⟨x0.phase,f0⟩:Fct)].length 1),(.slice e1.1 l1.length e1.2)]∧Rw 4 w' O' 78 (.slice (some ⟨p0,0,none⟩) [(⟨x0.phase,f0⟩:Fct)].length 1) [(⟨x0.phase,f0⟩:Fct)]∧Rw 7 w' O' 85 (.slice e1.1 l1.length e1.2) l1)) ?_ ?_
 ·
  refine AJ ?_
  replace hB:=((((hB.st v1).st o1).st d1).st v0).st w0
  replace h7:=((((h7.st v1).st o1).st d1).st v0).st w0
  replace i0:=((((i0.st v1).st o1).st d1).st v0).st w0
  replace j0:=((((j0.st v1).st o1).st d1).st v0).st w0
  replace c0:=((c0.st d1).st v0).st w0
  replace d0:=((d0.st d1).st v0).st w0
  replace g0:=(g0.st v0).st w0
  refine GY (σ:=(List Eff)) (X:=(Option Addr×Nat)) q5 s3 (Hl h1 rx1) (fun (l1:(List Eff)) (e1:(Option Addr×Nat))=>[(2,(.pointer (some ⟨f1,0,none⟩))),(4,(.pointer (some ⟨g1,0,none⟩))),(5,(.pointer (some ⟨t0,0,none⟩)))]) _ (fun l1 e1 w'=>∃ O':Lab,Bs w A w' O'∧Lc 2 w' O' f1 74 [(.int .i64 x0.jobs),(.slice A8 x0.write.length c9),(.slice z0 x0.read.length a1),(.int .i64 x0.phase),(.slice b1 x0.vars.length c1)]∧Vb w' (Fr 0 w' O') (.slice A8 x0.write.length c9) x0.write∧Vb w' (Fr 0 w' O') (.slice z0 x0.read.length a1) x0.read∧Vb w' (Fr 0 w' O') (.slice b1 x0.vars.length c1) x0.vars∧Lc 3 w' O' g1 82 [(.string (⟨#[]⟩:ByteArray)),(.int .i64 0),(.slice none 0 0),(.slice none 0 0)]∧Lc 5 w' O' t0 82 [(.string (⟨#[97,100,118,97,110,99,101]⟩:ByteArray)),(.int .i64 1),(.slice (some ⟨p0,0,none⟩) [(⟨x0.phase,f0⟩:Fct)].length 1),(.slice e1.1 l1.length e1.2)]∧Rw 4 w' O' 78 (.slice (some ⟨p0,0,none⟩) [(⟨x0.phase,f0⟩:Fct)].length 1) [(⟨x0.phase,f0⟩:Fct)]∧Rw 7 w' O' 85 (.slice e1.1 l1.length e1.2) l1) _ (none,0) ⟨y4,hB,c0,h7,i0,j0,d0,a0,g0,(Rw.nil 7 (by decide))⟩ ⟨rfl,(congrArg (fun z=>some (Value.int .i64 z)) h1),rfl,rfl,rfl,trivial⟩ (fun _ _=>⟨rfl,rfl⟩) (fun _ _=>⟨rfl,rfl,rfl,trivial⟩) (fun _ _ _ ⟨O',hB,c0,h7,i0,j0,d0,a0,g0,y1⟩=>⟨O',hB,c0,h7,i0,j0,d0,a0,g0,y1⟩) ⟨rfl,rfl,rfl⟩ ⟨rfl,rfl⟩ ?_
  rintro r5 l1 e1 z4 s5 t3 ⟨u3,hB,c0,h7,i0,j0,d0,a0,g0,y1⟩ i1 v3 w3
  have rk48:inI64 (r5:Int):=rngKN t3 (Hl h1 rx1)
  refine Ab (Aa (Ak rfl (Al rfl (o_z ?_))))
  refine BP [(7,[7])] u3 ?_
  refine AM (fuel:=6) [] [(0,true),(1,true),(2,true),(3,true)] rfl ?_
  refine Bo rfl rfl (BK (hc:=fun w' ⟨O',hq⟩=>Blk.cell (i:=3) ((a0.st hq (by decide)).1) rfl) rfl rfl ?_)
  refine CN (hl:=rfl) (hb:=fun w' ⟨O',hq⟩=>((c0.st hq (by decide)).1).cellsAt) rfl rfl ?_
  refine Bp rfl rfl (Ay ?_)
  refine Ax (i:=4) rfl ?_
  obtain ⟨n3,t5,i1⟩:=bs i1
  refine AG (O:=u3) (A:=All z4) (R:=fun w' F v=>Vb w' F v n3) (Bz (fun _ h=>h) (Vb.mono (F:=Fr 0 z4 u3) (Vb.ofAgg (cs:=[(.int .i64 x0.jobs),(.slice A8 x0.write.length c9),(.slice z0 x0.read.length a1),(.int .i64 x0.phase),(.slice b1 x0.vars.length c1)]) (x:=x0) rfl ⟨_,_,_,rfl,h7,i0,j0,k5,r3⟩) Fr.lt) rk48 t5) rfl fun p7 q7 u5 m1 w5=>?_
  obtain ⟨rfl,x5⟩:=w5.int
  have hZ:=m1.lst [] (fun _ h=>h.elim)
  refine AF [(7,[7])] hZ ?_
  refine AM (fuel:=4) [] [(5,true)] rfl ?_
  refine CE rfl rfl rfl ?_
  refine Ay ?_
  refine Ax (i:=6) rfl ?_
  refine AN 6 (by decide) u5 (xs:=([(⟨([]:List Fct),n3,0⟩:Eff)]:List Eff)) rfl rfl rfl ⟨(Vb.ofAgg (cs:=[(.slice none 0 0),(.int .i64 n3),(.int .i64 0)]) (x:=(⟨([]:List Fct),n3,0⟩:Eff)) rfl ⟨_,rfl,(Vb.nil _ _),x5,(show inI64 0 from by decide)⟩),trivial⟩ (by decide) (by decide) rfl fun r7 s7 t7 n1 y5=>?_
  have hZ:=n1.lst [] (fun _ h=>h.elim)
  refine AF [(7,[7])] hZ ?_
  refine Ax (i:=7) rfl ?_
  obtain ⟨z5,x3,i1⟩:=bs i1
  obtain ⟨x3,a6,b6⟩:=AO x3
  replace y1:=(y1.st m1).st n1
  refine BE rfl y1 (y5.rd) rfl rfl (by decide) a6 b6 rfl fun a5 b5 u7 c6 p1 c5=>?_
  rw [← x3] at c5 ⊢
  have hZ:=p1.lst [7] (fun _ h=>by cases h;decide)
  refine AF [] hZ ?_
  refine AM (fuel:=1) [] [(8,true)] rfl ?_
  refine Bo rfl rfl (Ay ?_)
  refine Ax (i:=9) rfl ?_
  replace a0:=((a0.st m1).st n1).st p1
  refine AD a0 rfl rfl rfl (AL) (allOne) fun d6 w1 a0=>?_
  replace a0:Lc 5 d6 c6 t0 82 [(.string (⟨#[97,100,118,97,110,99,101]⟩:ByteArray)),(.int .i64 1),(.slice (some ⟨p0,0,none⟩) [(⟨x0.phase,f0⟩:Fct)].length 1),(.slice a5 z5.length b5)]:=a0
  refine BL ?_
  refine BG ?_
  obtain rfl:=sm i1
  exact show Exists _ from ⟨_,(a5,b5),rfl,⟨rfl,rfl,rfl,rfl,rfl,trivial⟩,_,(((hB.st m1).st n1).st p1).st w1,(((c0.st m1).st n1).st p1).st w1,(((h7.st m1).st n1).st p1).st w1,(((i0.st m1).st n1).st p1).st w1,(((j0.st m1).st n1).st p1).st w1,(((d0.st m1).st n1).st p1).st w1,a0,(((g0.st m1).st n1).st p1).st w1,c5.st w1⟩
 replace hB:=((((hB.st v1).st o1).st d1).st v0).st w0
 replace h7:=((((h7.st v1).st o1).st d1).st v0).st w0
 replace i0:=((((i0.st v1).st o1).st d1).st v0).st w0
 replace j0:=((((j0.st v1).st o1).st d1).st v0).st w0
 replace c0:=((c0.st d1).st v0).st w0
 replace d0:=((d0.st d1).st v0).st w0
 replace g0:=(g0.st v0).st w0
 rintro v7 w7 ⟨x7,d5,rfl,y3,e6,hB,c0,h7,i0,j0,d0,a0,g0,y1⟩
 replace hm:=AP hm
 refine AE _ y3 ?_
 refine Ab (Ab (Aa (AB rfl (Az (hc:=Blk.cell (i:=1) (c0.1) rfl) rfl ?_))))
 refine AR rfl ?_
 have z3:x0.write.length≤9223372036854775807:=Nat.le_trans h7.len.2.1 h7.len.2.2
 have y7:inI64 (x0.write.length:Int):=rngNat z3
 refine Ak rfl (o_z ?_)
 obtain ⟨m2,a4,hm⟩:=bs hm
 refine Au (aft m2 (fun (k0:(List Eff)) (e0:(Option Addr×Nat))=>[(2,(.pointer (some ⟨f1,0,none⟩))),(4,(.pointer (some ⟨g1,0,none⟩))),(5,(.pointer (some ⟨t0,0,none⟩)))]) (fun k0 e0 w'=>∃ O':Lab,Bs w A w' O'∧Lc 2 w' O' f1 74 [(.int .i64 x0.jobs),(.slice A8 x0.write.length c9),(.slice z0 x0.read.length a1),(.int .i64 x0.phase),(.slice b1 x0.vars.length c1)]∧Vb w' (Fr 0 w' O') (.slice A8 x0.write.length c9) x0.write∧Vb w' (Fr 0 w' O') (.slice z0 x0.read.length a1) x0.read∧Vb w' (Fr 0 w' O') (.slice b1 x0.vars.length c1) x0.vars∧Lc 3 w' O' g1 82 [(.string (⟨#[]⟩:ByteArray)),(.int .i64 0),(.slice none 0 0),(.slice none 0 0)]∧Lc 5 w' O' t0 82 [(.string (⟨#[97,100,118,97,110,99,101]⟩:ByteArray)),(.int .i64 1),(.slice (some ⟨p0,0,none⟩) [(⟨x0.phase,f0⟩:Fct)].length 1),(.slice e0.1 k0.length e0.2)]∧Rw 4 w' O' 78 (.slice (some ⟨p0,0,none⟩) [(⟨x0.phase,f0⟩:Fct)].length 1) [(⟨x0.phase,f0⟩:Fct)]∧Rw 7 w' O' 85 (.slice e0.1 k0.length e0.2) k0)) ?_ ?_
 ·
  refine AJ (Bh (σ:=(List Eff)) (X:=(Option Addr×Nat)) (x0.write.length) a4 rfl z3 (fun (k0:(List Eff)) (e0:(Option Addr×Nat))=>[(2,(.pointer (some ⟨f1,0,none⟩))),(4,(.pointer (some ⟨g1,0,none⟩))),(5,(.pointer (some ⟨t0,0,none⟩)))]) _ (fun k0 e0 w'=>∃ O':Lab,Bs w A w' O'∧Lc 2 w' O' f1 74 [(.int .i64 x0.jobs),(.slice A8 x0.write.length c9),(.slice z0 x0.read.length a1),(.int .i64 x0.phase),(.slice b1 x0.vars.length c1)]∧Vb w' (Fr 0 w' O') (.slice A8 x0.write.length c9) x0.write∧Vb w' (Fr 0 w' O') (.slice z0 x0.read.length a1) x0.read∧Vb w' (Fr 0 w' O') (.slice b1 x0.vars.length c1) x0.vars∧Lc 3 w' O' g1 82 [(.string (⟨#[]⟩:ByteArray)),(.int .i64 0),(.slice none 0 0),(.slice none 0 0)]∧Lc 5 w' O' t0 82 [(.string (⟨#[97,100,118,97,110,99,101]⟩:ByteArray)),(.int .i64 1),(.slice (some ⟨p0,0,none⟩) [(⟨x0.phase,f0⟩:Fct)].length 1),(.slice e0.1 k0.length e0.2)]∧Rw 4 w' O' 78 (.slice (some ⟨p0,0,none⟩) [(⟨x0.phase,f0⟩:Fct)].length 1) [(⟨x0.phase,f0⟩:Fct)]∧Rw 7 w' O' 85 (.slice e0.1 k0.length e0.2) k0) _ (d5.1,d5.2) ⟨e6,hB,c0,h7,i0,j0,d0,a0,g0,y1⟩ ⟨rfl,rfl,rfl,rfl,rfl,trivial⟩ (fun _ _=>⟨rfl,rfl⟩) (fun _ _=>⟨rfl,rfl,rfl,trivial⟩) (fun _ _ _ ⟨O',hB,c0,h7,i0,j0,d0,a0,g0,q0⟩=>⟨O',hB,c0,h7,i0,j0,d0,a0,g0,q0⟩) ⟨rfl,rfl,rfl⟩ ⟨rfl,rfl⟩ ?_)
  rintro z1 a2 k0 e0 f6 e5 j1 ⟨n2,hB,c0,h7,i0,j0,d0,a0,g0,q0⟩ b0 o3 p3
  have rk102:inI64 (z1:Int):=rngK j1 z3
  refine Ab (Aa (Ak rfl (Al rfl (o_z ?_))))
  refine Ab ?_
  obtain ⟨b2,h0,b0⟩:=bs b0
  refine Au (fun l' w'=>∃ (u0:(Option Addr×Nat)) (O':Lab),subs l' [(2,(.pointer (some ⟨f1,0,none⟩))),(4,(.pointer (some ⟨g1,0,none⟩))),(5,(.pointer (some ⟨t0,0,none⟩))),(7,(.int .i64 (z1:Int))),(31,(.int .i64 (x0.write.length:Int))),(32,(.int .i64 (z1:Int)))]∧Bs w A w' O'∧Lc 2 w' O' f1 74 [(.int .i64 x0.jobs),(.slice A8 x0.write.length c9),(.slice z0 x0.read.length a1),(.int .i64 x0.phase),(.slice b1 x0.vars.length c1)]∧Vb w' (Fr 0 w' O') (.slice A8 x0.write.length c9) x0.write∧Vb w' (Fr 0 w' O') (.slice z0 x0.read.length a1) x0.read∧Vb w' (Fr 0 w' O') (.slice b1 x0.vars.length c1) x0.vars∧Lc 3 w' O' g1 82 [(.string (⟨#[]⟩:ByteArray)),(.int .i64 0),(.slice none 0 0),(.slice none 0 0)]∧Lc 5 w' O' t0 82 [(.string (⟨#[97,100,118,97,110,99,101]⟩:ByteArray)),(.int .i64 1),(.slice (some ⟨p0,0,none⟩) [(⟨x0.phase,f0⟩:Fct)].length 1),(.slice u0.1 b2.length u0.2)]∧Rw 4 w' O' 78 (.slice (some ⟨p0,0,none⟩) [(⟨x0.phase,f0⟩:Fct)].length 1) [(⟨x0.phase,f0⟩:Fct)]∧Rw 7 w' O' 85 (.slice u0.1 b2.length u0.2) b2) ?_ ?_
  ·
   refine Ab (Aa (AB rfl (Az (hc:=Blk.cell (i:=1) (c0.1) rfl) rfl ?_)))
   refine Ak rfl ?_
   obtain ⟨g6,h6,f5,o2,p2,q2,rfl,i6⟩:=h7.elem' j1
   refine Bv (hA:=o2) (hj:=rfl) (hlt:=p2) rfl rfl ?_
   refine Az (hc:=cat0 q2) rfl ?_
   refine Fs rfl rfl (fun c2=>?_) fun c2=>?_
   ·
    replace h0:=ip h0 c2
    refine o_z ?_
    refine Aj rfl (BP [(9,[7])] n2 ?_)
    refine AM (fuel:=4) [] [(0,true),(1,true),(2,true),(3,true),(4,true),(5,true),(6,true),(7,true)] rfl ?_
    refine Bo rfl rfl (BK (hc:=fun w' ⟨O',hq⟩=>Blk.cell (i:=3) ((a0.st hq (by decide)).1) rfl) rfl rfl ?_)
    refine Bo rfl rfl (BK (hc:=fun w' ⟨O',hq⟩=>Blk.cell (i:=1) ((c0.st hq (by decide)).1) rfl) rfl rfl ?_)
    refine Bp rfl rfl ?_
    obtain ⟨j6,k6,g5,r2,s2,t2,u2,rfl,b4⟩:=h7.elem j1
    refine EF (hA:=r2) (hj:=rfl) (hlt:=t2) rfl rfl rfl ?_
    refine BK (hc:=fun w' ⟨O',hq⟩=>cat0 (CK (hq.agree (i:=0) (by decide)) s2 u2)) rfl rfl ?_
    refine CE rfl rfl rfl ?_
    refine Ay ?_
    refine Ax (i:=8) rfl ?_
    refine AN 8 (by decide) n2 (xs:=([(⟨([]:List Fct),a2,0⟩:Eff)]:List Eff)) rfl rfl rfl ⟨(Vb.ofAgg (cs:=[(.slice none 0 0),(.int .i64 a2),(.int .i64 0)]) (x:=(⟨([]:List Fct),a2,0⟩:Eff)) rfl ⟨_,rfl,(Vb.nil _ _),b4,(show inI64 0 from by decide)⟩),trivial⟩ (by decide) (by decide) rfl fun l6 m6 n6 l0 c4=>?_
    have hZ:=l0.lst [] (fun _ h=>h.elim)
    refine AF [(9,[7])] hZ ?_
    refine Ax (i:=9) rfl ?_
    obtain ⟨d4,d2,h0⟩:=bs h0
    obtain ⟨d2,e4,f4⟩:=AO d2
    replace q0:=q0.st l0
    refine BE rfl q0 (c4.rd) rfl rfl (by decide) e4 f4 rfl fun v2 w2 o6 g4 n0 x2=>?_
    rw [← d2] at x2 ⊢
    have hZ:=n0.lst [7] (fun _ h=>by cases h;decide)
    refine AF [] hZ ?_
    refine AM (fuel:=1) [] [(10,true)] rfl ?_
    refine Bo rfl rfl (Ay ?_)
    refine Ax (i:=11) rfl ?_
    replace a0:=(a0.st l0).st n0
    refine AD a0 rfl rfl rfl (AL) (allOne) fun h4 r0 a0=>?_
    replace a0:Lc 5 h4 g4 t0 82 [(.string (⟨#[97,100,118,97,110,99,101]⟩:ByteArray)),(.int .i64 1),(.slice (some ⟨p0,0,none⟩) [(⟨x0.phase,f0⟩:Fct)].length 1),(.slice v2 d4.length w2)]:=a0
    refine BL ?_
    refine BG ?_
    obtain rfl:=sm h0
    exact ⟨(v2,w2),_,⟨rfl,rfl,rfl,rfl,rfl,rfl,trivial⟩,((hB.st l0).st n0).st r0,((c0.st l0).st n0).st r0,((h7.st l0).st n0).st r0,((i0.st l0).st n0).st r0,((j0.st l0).st n0).st r0,((d0.st l0).st n0).st r0,a0,((g0.st l0).st n0).st r0,x2.st r0⟩
   replace h0:=im h0 c2
   refine o_z ?_
   refine Ah rfl (AK ?_)
   obtain rfl:=sm h0
   exact ⟨(e0.1,e0.2),_,⟨rfl,rfl,rfl,rfl,rfl,rfl,trivial⟩,hB,c0,h7,i0,j0,d0,a0,g0,q0⟩
  rintro p6 q6 ⟨u0,y2,z2,hB,c0,h7,i0,j0,d0,a0,g0,q1⟩
  refine AE _ z2 ?_
  refine Ab (Aa (AB rfl (Az (hc:=Blk.cell (i:=2) (c0.1) rfl) rfl ?_)))
  refine Ak rfl ?_
  obtain ⟨r6,i4,b0⟩:=bs b0
  obtain ⟨s6,t6,h5,a3,b3,c3,rfl,u6⟩:=i0.elem' i4
  refine Bv (hA:=a3) (hj:=rfl) (hlt:=b3) rfl rfl ?_
  refine Az (hc:=cat0 c3) rfl ?_
  refine Fs rfl rfl (fun e2=>?_) fun e2=>?_
  ·
   replace b0:=ip b0 e2
   refine o_z ?_
   refine Aj rfl (BP [(9,[7])] y2 ?_)
   refine AM (fuel:=4) [] [(0,true),(1,true),(2,true),(3,true),(4,true),(5,true),(6,true),(7,true)] rfl ?_
   refine Bo rfl rfl (BK (hc:=fun w' ⟨O',hq⟩=>Blk.cell (i:=3) ((a0.st hq (by decide)).1) rfl) rfl rfl ?_)
   refine Bo rfl rfl (BK (hc:=fun w' ⟨O',hq⟩=>Blk.cell (i:=2) ((c0.st hq (by decide)).1) rfl) rfl rfl ?_)
   refine Bp rfl rfl ?_
   obtain ⟨f2,j4,b0⟩:=bs b0
   obtain ⟨w6,x6,i5,d3,e3,f3,g3,rfl,k4⟩:=i0.elem j4
   refine EF (hA:=d3) (hj:=rfl) (hlt:=f3) rfl rfl rfl ?_
   refine BK (hc:=fun w' ⟨O',hq⟩=>cat0 (CK (hq.agree (i:=0) (by decide)) e3 g3)) rfl rfl ?_
   refine CE rfl rfl rfl ?_
   refine Ay ?_
   refine Ax (i:=8) rfl ?_
   refine AN 9 (by decide) y2 (xs:=([(⟨([]:List Fct),f2,0⟩:Eff)]:List Eff)) rfl rfl rfl ⟨(Vb.ofAgg (cs:=[(.slice none 0 0),(.int .i64 f2),(.int .i64 0)]) (x:=(⟨([]:List Fct),f2,0⟩:Eff)) rfl ⟨_,rfl,(Vb.nil _ _),k4,(show inI64 0 from by decide)⟩),trivial⟩ (by decide) (by decide) rfl fun y6 z6 a7 m0 l4=>?_
   have hZ:=m0.lst [] (fun _ h=>h.elim)
   refine AF [(9,[7])] hZ ?_
   refine Ax (i:=9) rfl ?_
   obtain ⟨m4,g2,b0⟩:=bs b0
   obtain ⟨g2,n4,o4⟩:=AO g2
   replace q1:=q1.st m0
   refine BE rfl q1 (l4.rd) rfl rfl (by decide) n4 o4 rfl fun h3 i3 b7 p4 o0 j3=>?_
   rw [← g2] at j3 ⊢
   have hZ:=o0.lst [7] (fun _ h=>by cases h;decide)
   refine AF [] hZ ?_
   refine AM (fuel:=1) [] [(10,true)] rfl ?_
   refine Bo rfl rfl (Ay ?_)
   refine Ax (i:=11) rfl ?_
   replace a0:=(a0.st m0).st o0
   refine AD a0 rfl rfl rfl (AL) (allOne) fun q4 s0 a0=>?_
   replace a0:Lc 5 q4 p4 t0 82 [(.string (⟨#[97,100,118,97,110,99,101]⟩:ByteArray)),(.int .i64 1),(.slice (some ⟨p0,0,none⟩) [(⟨x0.phase,f0⟩:Fct)].length 1),(.slice h3 m4.length i3)]:=a0
   refine BL ?_
   refine BG ?_
   obtain rfl:=sm b0
   exact show Exists _ from ⟨_,(h3,i3),rfl,⟨rfl,rfl,rfl,rfl,rfl,trivial⟩,_,((hB.st m0).st o0).st s0,((c0.st m0).st o0).st s0,((h7.st m0).st o0).st s0,((i0.st m0).st o0).st s0,((j0.st m0).st o0).st s0,((d0.st m0).st o0).st s0,a0,((g0.st m0).st o0).st s0,j3.st s0⟩
  replace b0:=im b0 e2
  refine o_z ?_
  refine Ah rfl (AK ?_)
  obtain rfl:=sm b0
  exact show Exists _ from ⟨_,(u0.1,u0.2),rfl,⟨rfl,rfl,rfl,rfl,rfl,trivial⟩,_,hB,c0,h7,i0,j0,d0,a0,g0,q1⟩
 rintro c7 d7 ⟨e7,f7,rfl,k3,g7,hB,c0,h7,i0,j0,d0,a0,g0,q0⟩
 replace hm:=AP hm
 refine AE _ k3 ?_
 refine Ab (Aa (AB rfl (Az (hc:=Blk.cell (i:=3) (a0.1) rfl) rfl ?_)))
 refine AB rfl (Az (hc:=Blk.cell (i:=3) (c0.1) rfl) rfl ?_)
 refine Eh rfl rfl ?_
 obtain ⟨k1,h2,hm⟩:=bs hm
 obtain ⟨h2,r4,s4⟩:=AO h2
 refine Co rfl (a:=(⟨([]:List Fct),x0.phase,0⟩:Eff)) q0 (Vb.ofAgg (cs:=[(.slice none 0 0),(.int .i64 x0.phase),(.int .i64 0)]) (x:=(⟨([]:List Fct),x0.phase,0⟩:Eff)) rfl ⟨_,rfl,(Vb.nil _ _),r3,(show inI64 0 from by decide)⟩) (fun _=>rfl) rfl r4 s4 ⟨rfl,rfl⟩ fun i7 r1 s1 j7 l3 t1 y0=>?_
 rw [← h2] at y0 ⊢
 refine AB rfl ?_
 replace a0:=a0.st t1
 refine AD a0 rfl rfl rfl (AL) (allOne) fun t4 u1 a0=>?_
 replace a0:Lc 5 t4 l3 t0 82 [(.string (⟨#[97,100,118,97,110,99,101]⟩:ByteArray)),(.int .i64 1),(.slice (some ⟨p0,0,none⟩) [(⟨x0.phase,f0⟩:Fct)].length 1),(.slice r1 k1.length s1)]:=a0
 refine o_z ?_
 refine Ab (Aa (Bg (hl:=rfl) (hc:=(a0.1).cellsAt) rfl ?_))
 replace d0:=(d0.st t1).st u1
 refine AD d0 rfl rfl rfl (AL) (allOne) fun m3 i2 d0=>?_
 replace d0:Lc 3 m3 l3 g1 82 [(.string (⟨#[97,100,118,97,110,99,101]⟩:ByteArray)),(.int .i64 1),(.slice (some ⟨p0,0,none⟩) [(⟨x0.phase,f0⟩:Fct)].length 1),(.slice r1 k1.length s1)]:=d0
 refine o_z ?_
 refine AC ?_
 replace g0:=((g0.st t1).st u1).st i2
 obtain ⟨k7,j2,g0⟩:=g0.freeze
 replace y0:=((y0.st u1).st i2).st j2
 obtain ⟨u4,k2,y0⟩:=y0.freeze
 obtain rfl:=sm hm
 replace hB:=((((hB.st t1).st u1).st i2).st j2).st k2
 replace d0:=(d0.st j2).st k2
 replace g0:=g0.st k2
 exact ret1v rfl (Gn (cs:=[(.string (⟨#[97,100,118,97,110,99,101]⟩:ByteArray)),(.int .i64 1),(.slice (some ⟨p0,0,none⟩) [(⟨x0.phase,f0⟩:Fct)].length 1),(.slice r1 k1.length s1)]) rfl rfl d0.1.cellsAt) ⟨hB.ext,(Vb.mono (F:=Fr 0 m3 u4) (Vb.ofAgg (cs:=[(.string (⟨#[97,100,118,97,110,99,101]⟩:ByteArray)),(.int .i64 1),(.slice (some ⟨p0,0,none⟩) [(⟨x0.phase,f0⟩:Fct)].length 1),(.slice r1 k1.length s1)]) (x:=(⟨(⟨#[97,100,118,97,110,99,101]⟩:ByteArray),1,[(⟨x0.phase,f0⟩:Fct)],k1⟩:Opr)) rfl ⟨_,_,rfl,g0,y0,(show inI64 (1) from by decide),(show (⟨#[97,100,118,97,110,99,101]⟩:ByteArray).size≤9223372036854775807 from by decide)⟩) hB.out)⟩
noncomputable def BN (x0:Tpl):Option (Tsk×Err) :=
  bnd (Dj x0) fun q29=>if q29.n≠0 then (some ((⟨([]:List Int),([]:List Int),([]:List Fct),([]:List Opr)⟩:Tsk),(⟨q29.n⟩:Err))) else (bnd (Dy x0) fun q40=>bnd (mkI 8 (0:Int) (q40.vars.length:Int)) fun u69=>bnd (BJ x0.goal) fun q71=>bnd (some (u69,q71):Option ((List Int)×(List Fct))) fun y73=>bnd (rng (ρ:=Tsk×Err) (fun (k228:Nat) (a229:Job) (s226:(List Fct)×(List Opr))=>bnd (BF q40 (k228:Int)) fun q283=>bnd (Cv q40 (k228:Int)) fun q285=>bnd (some ():Option Unit) fun y287=>bnd (catI (⟨#[115,116,97,114,116,32]⟩:ByteArray) a229.name) fun n533=>bnd (BF q40 (k228:Int)) fun q535=>bnd (Ca q40 n533 a229.start a229.atStart [(⟨q283,0⟩:Fct),(⟨q285,0⟩:Fct)] [(⟨([]:List Fct),q535,a229.dur⟩:Eff)]) fun q537=>bnd (appI 72 s226.2 [q537]) fun u539=>bnd (some u539:Option (List Opr)) fun y541=>bnd (chkI (a229.dur + 1)) fun n710=>bnd (BF q40 (k228:Int)) fun q712=>bnd (some ():Option Unit) fun y714=>bnd (catI (⟨#[101,110,100,32]⟩:ByteArray) a229.name) fun n752=>bnd (BF q40 (k228:Int)) fun q754=>bnd (Cv q40 (k228:Int)) fun q756=>bnd (Ca q40 n752 a229.fin a229.atEnd [(⟨q712,n710⟩:Fct)] [(⟨([]:List Fct),q754,0⟩:Eff),(⟨([]:List Fct),q756,1⟩:Eff)]) fun q758=>bnd (appI 72 y541 [q758]) fun u760=>bnd (some u760:Option (List Opr)) fun y762=>bnd (appI 16 s226.1 [(⟨q283,0⟩:Fct)]) fun u998=>some (.next (u998,y762))) x0.jobs 0 (y73.2,([]:List Opr))) fun res224=>fin res224 fun (s1016:(List Fct)×(List Opr))=>bnd (appI 16 s1016.1 [(⟨q40.phase,0⟩:Fct)]) fun u1018=>bnd (if 0 < (x0.jobs.length:Int) then (bnd (appI 72 s1016.2 [(⟨(⟨#[116,105,99,107]⟩:ByteArray),0,[(⟨q40.phase,0⟩:Fct)],[(⟨([]:List Fct),q40.phase,1⟩:Eff)]⟩:Opr)]) fun u1057=>bnd (rng (ρ:=(List Opr)) (fun (k1077:Nat) (a1078:Job) (s1075:(List Opr))=>bnd (chkI (a1078.dur + 1)) fun n1128=>bnd (natI n1128) fun N1144=>bnd (rngN (ρ:=Ctl (List Opr) (List Opr)) (fun (k1135:Nat) (s1133:(List Opr))=>bnd (CD q40 a1078 (k1077:Int) (k1135:Int)) fun q1150=>bnd (appI 72 s1133 [q1150]) fun u1174=>some (.next u1174)) N1144 s1075) fun res1131=>fin res1131 fun (s1191:(List Opr))=>some (.next s1191)) x0.jobs 0 u1057) fun res1073=>fin res1073 fun (s1197:(List Opr))=>bnd (Cr q40 (x0.jobs.length:Int)) fun q1201=>bnd (appI 72 s1197 [q1201]) fun u1225=>some u1225) else (some s1016.2):Option (List Opr)) fun y1032=>bnd (DM (⟨q40.vars,(cpyL y73.1 x0.init),u1018,y1032⟩:Tsk)) fun q1248=>if q1248.n≠0 then (some ((⟨([]:List Int),([]:List Int),([]:List Fct),([]:List Opr)⟩:Tsk),(⟨q1248.n⟩:Err))) else (some ((⟨q40.vars,(cpyL y73.1 x0.init),u1018,y1032⟩:Tsk),(⟨0⟩:Err))))
set_option maxHeartbeats 1000000 in
theorem Ft {w:World} {A:Nat→Prop} (hA:∀ k,A k→k < w.heap.size) {vx0:Value} {x0:Tpl} (lP:Vb w A vx0 x0) {r:Tsk×Err} (hm:BN x0=some r) :
    Fn Tryz.prog 12 [vx0] w fun v w'=>Ext w w'∧T2 w' (upA A w w') v r:=by
 obtain ⟨O,hB,hA0⟩:=enter hA
 replace lP:=lP.mono hA0
 obtain ⟨cs2,rfl,v3,v4,v5,v6,rfl,h7,t1,e1,l1⟩:=lP
 obtain ⟨A8,c9,rfl⟩:=h7.form
 obtain ⟨x9,y9,rfl⟩:=t1.form
 obtain ⟨z9,aA,rfl⟩:=e1.form
 obtain ⟨u7,v7,rfl⟩:=l1.form
 refine AH Tryz.func12 rfl Tryz.ntmps12 ?_
 unfold BN at hm
 refine Ab (Aa (BQ 2 O rfl fun cA w20 mY aD m1=>?_))
 replace m1:Lc 2 w20 mY cA 26 [(.slice A8 x0.vars.length c9),(.slice x9 x0.init.length y9),(.slice z9 x0.goal.length aA),(.slice u7 x0.jobs.length v7)]:=m1
 refine AT 3 mY fun z8 nY oY sC v0=>?_
 refine Al rfl (o_z ?_)
 refine Ab (Ab (Aa ?_))
 replace m1:=m1.st sC
 refine Bg (hl:=rfl) (hc:=(m1.1).cellsAt) rfl ?_
 obtain ⟨q29,e30,hm⟩:=bs hm
 replace h7:=(h7.st aD).st sC
 replace t1:=(t1.st aD).st sC
 replace e1:=(e1.st aD).st sC
 replace l1:=(l1.st aD).st sC
 refine AG (O:=oY) (A:=All nY) (R:=fun w' F v=>Vb w' F v q29) (ID (fun _ h=>h) (Vb.mono (F:=Fr 0 nY oY) (Vb.ofAgg (cs:=[(.slice A8 x0.vars.length c9),(.slice x9 x0.init.length y9),(.slice z9 x0.goal.length aA),(.slice u7 x0.jobs.length v7)]) (x:=x0) rfl ⟨_,_,_,_,rfl,h7,t1,e1,l1⟩) Fr.lt) e30) rfl fun v35 w31 mP qA h34=>?_
 obtain ⟨rfl,r36⟩:=h34.err
 refine Al rfl (o_z ?_)
 refine Ab (Aa (Ak rfl (Gi rfl (fun nP=>?_) fun nP=>?_)))
 ·
  replace hm:=ip hm nP
  refine o_z ?_
  refine Aj rfl (Ab (Aa (Eh rfl rfl ?_)))
  refine Ak rfl ?_
  replace v0:=v0.st qA
  refine AD v0 rfl rfl rfl (AL) (allOne) fun pY S39 v0=>?_
  replace v0:Lc 3 pY mP z8 31 [(.slice none 0 0),(.slice none 0 0),(.slice none 0 0),(.slice none 0 0)]:=v0
  refine Al rfl (o_z ?_)
  refine AC ?_
  obtain rfl:=sm hm
  replace hB:=(((hB.st aD).st sC).st qA).st S39
  exact ret2 rfl (Gn (cs:=[(.slice none 0 0),(.slice none 0 0),(.slice none 0 0),(.slice none 0 0)]) rfl rfl v0.1.cellsAt) (At rfl) ⟨hB.ext,_,_,rfl,(Vb.mono (F:=Fr 0 pY mP) (Vb.ofAgg (cs:=[(.slice none 0 0),(.slice none 0 0),(.slice none 0 0),(.slice none 0 0)]) (x:=(⟨([]:List Int),([]:List Int),([]:List Fct),([]:List Opr)⟩:Tsk)) rfl ⟨_,_,_,_,rfl,(Vb.nil _ _),(Vb.nil _ _),(Vb.nil _ _),(Vb.nil _ _)⟩) hB.out),(vErr r36)⟩
 replace hm:=im hm nP
 refine o_z ?_
 refine Ah rfl (AK (Ab (Aa ?_)))
 replace m1:=m1.st qA
 refine Bg (hl:=rfl) (hc:=(m1.1).cellsAt) rfl ?_
 obtain ⟨c0,e41,hm⟩:=bs hm
 replace h7:=h7.st qA
 replace t1:=t1.st qA
 replace e1:=e1.st qA
 replace l1:=l1.st qA
 refine BU (O:=mP) (R:=fun w' F v=>Vb w' F v c0) (Of Fr.lt (Vb.ofAgg (cs:=[(.slice A8 x0.vars.length c9),(.slice x9 x0.init.length y9),(.slice z9 x0.goal.length aA),(.slice u7 x0.jobs.length v7)]) (x:=x0) rfl ⟨_,_,_,_,rfl,h7,t1,e1,l1⟩) e41) rfl fun v46 w42 O43 d6 h45=>?_
 obtain ⟨cs47,rfl,v48,v49,v50,rfl,f0,g0,e0,t7,j7⟩:=h45
 obtain ⟨l2,m2,rfl⟩:=f0.form
 obtain ⟨n2,o2,rfl⟩:=g0.form
 obtain ⟨w0,y0,rfl⟩:=e0.form
 refine AT 4 O43 fun dA w63 aH j2 d1=>?_
 refine AD d1 rfl rfl rfl (AL) (allOne) fun w67 k2 d1=>?_
 replace d1:Lc 4 w67 aH dA 74 [(.int .i64 c0.jobs),(.slice l2 c0.write.length m2),(.slice n2 c0.read.length o2),(.int .i64 c0.phase),(.slice w0 c0.vars.length y0)]:=d1
 refine o_z ?_
 refine Ab ?_
 obtain ⟨yG,bH,hm⟩:=bs hm
 obtain ⟨zG,cH,hm⟩:=bs hm
 obtain ⟨p2,tC,hm⟩:=bs hm
 refine Au (fun l' w'=>∃ (j0:Nat×(Option Addr×Nat)×(Option Addr×Nat)) (O':Lab),subs l' [(1,(.pointer (some ⟨cA,0,none⟩))),(2,(.pointer (some ⟨z8,0,none⟩))),(5,(.pointer (some ⟨dA,0,none⟩))),(6,(.pointer (some ⟨j0.1,0,none⟩)))]∧Bs w A w' O'∧Lc 2 w' O' cA 26 [(.slice A8 x0.vars.length c9),(.slice x9 x0.init.length y9),(.slice z9 x0.goal.length aA),(.slice u7 x0.jobs.length v7)]∧Vb w' (Fr 0 w' O') (.slice A8 x0.vars.length c9) x0.vars∧Vb w' (Fr 0 w' O') (.slice x9 x0.init.length y9) x0.init∧Vb w' (Fr 0 w' O') (.slice z9 x0.goal.length aA) x0.goal∧Vb w' (Fr 0 w' O') (.slice u7 x0.jobs.length v7) x0.jobs∧Lc 3 w' O' z8 31 [(.slice none 0 0),(.slice none 0 0),(.slice none 0 0),(.slice none 0 0)]∧Lc 4 w' O' dA 74 [(.int .i64 c0.jobs),(.slice l2 c0.write.length m2),(.slice n2 c0.read.length o2),(.int .i64 c0.phase),(.slice w0 c0.vars.length y0)]∧Vb w' (Fr 0 w' O') (.slice l2 c0.write.length m2) c0.write∧Vb w' (Fr 0 w' O') (.slice n2 c0.read.length o2) c0.read∧Vb w' (Fr 0 w' O') (.slice w0 c0.vars.length y0) c0.vars∧Lc 7 w' O' j0.1 31 [(.slice w0 c0.vars.length y0),(.slice j0.2.1.1 p2.1.length j0.2.1.2),(.slice j0.2.2.1 p2.2.length j0.2.2.2),(.slice none 0 0)]∧Rw 5 w' O' 3 (.slice j0.2.1.1 p2.1.length j0.2.1.2) p2.1∧Rw 6 w' O' 78 (.slice j0.2.2.1 p2.2.length j0.2.2.2) p2.2) ?_ ?_
 ·
  refine BP [] aH ?_
  refine AM (fuel:=5) [] [(0,true),(1,true),(2,true),(3,true),(4,true),(6,true),(7,true)] rfl ?_
  refine Bo rfl rfl (BK (hc:=fun w' ⟨O',hq⟩=>Blk.cell (i:=4) ((d1.st hq (by decide)).1) rfl) rfl rfl ?_)
  refine Bo rfl rfl (BK (hc:=fun w' ⟨O',hq⟩=>Blk.cell (i:=4) ((d1.st hq (by decide)).1) rfl) rfl rfl ?_)
  refine Nk rfl rfl rfl ?_
  replace e0:=(e0.st j2).st k2
  have l83:c0.vars.length≤9223372036854775807:=Nat.le_trans e0.len.2.1 e0.len.2.2
  have r82:inI64 (c0.vars.length:Int):=rngNat l83
  refine Bo rfl rfl ?_
  replace m1:=((m1.st d6).st j2).st k2
  refine BK (hc:=fun w' ⟨O',hq⟩=>Blk.cell (i:=2) ((m1.st hq (by decide)).1) rfl) rfl rfl ?_
  refine Ay ?_
  refine No (i:=5) (j:=8) (k:=10) rfl rfl rfl ?_ ?_ ?_
  ·
   obtain ⟨hP,e85,e86,e87,e88⟩:=HH bH
   refine Jw 5 aH (z0:=(0:Int)) rfl rfl rfl rfl rfl e85 (vInt (show inI64 0 from by decide)) e86 e87 rfl fun iP w90 qY eA oP=>?_
   rw [← e88] at oP ⊢
   have hZ:=eA.lst [] (fun _ h=>h.elim)
   refine AF [] hZ ?_
   refine Ec (i:=8) (j:=10) rfl rfl ?_ ?_
   ·
    replace e1:=(((e1.st d6).st j2).st k2).st eA
    refine Dh 6 (O:=qY) (Cd Fr.lt e1 cH) rfl fun dH eH w95 O96 uC h98=>?_
    have hZ:=uC.lst [] (fun _ h=>h.elim)
    refine AF [] hZ ?_
    refine AM (fuel:=2) [] [(9,true)] rfl ?_
    refine CE rfl rfl rfl ?_
    refine Ay ?_
    refine Ax (i:=10) rfl ?_
    refine AT 7 O96 fun fH w104 pP l8 bD=>?_
    have hZ:=l8.lst [] (fun _ h=>h.elim)
    refine AF [] hZ ?_
    refine Ax (i:=11) rfl ?_
    refine AD bD rfl rfl rfl (AL) (allOne) fun qP a9 bD=>?_
    replace bD:Lc 7 qP pP fH 31 [(.slice w0 c0.vars.length y0),(.slice (some ⟨iP,0,none⟩) yG.length hP),(.slice dH zG.length eH),(.slice none 0 0)]:=bD
    refine BL ?_
    refine BG ?_
    obtain rfl:=sm tC
    exact ⟨(fH,((some ⟨iP,0,none⟩),hP),(dH,eH)),_,⟨rfl,rfl,rfl,rfl,trivial⟩,(((((((((hB.st aD).st sC).st qA).st d6).st j2).st k2).st eA).st uC).st l8).st a9,(((m1.st eA).st uC).st l8).st a9,((((((h7.st d6).st j2).st k2).st eA).st uC).st l8).st a9,((((((t1.st d6).st j2).st k2).st eA).st uC).st l8).st a9,((e1.st uC).st l8).st a9,((((((l1.st d6).st j2).st k2).st eA).st uC).st l8).st a9,(((((((v0.st qA).st d6).st j2).st k2).st eA).st uC).st l8).st a9,(((d1.st eA).st uC).st l8).st a9,(((((f0.st j2).st k2).st eA).st uC).st l8).st a9,(((((g0.st j2).st k2).st eA).st uC).st l8).st a9,(((e0.st eA).st uC).st l8).st a9,bD,((oP.st uC).st l8).st a9,(h98.st l8).st a9⟩
   refine AT 7 qY fun gH w111 rP b9 yA=>?_
   have hZ:=b9.lst [] (fun _ h=>h.elim)
   refine AF [] hZ ?_
   refine Ax (i:=8) rfl ?_
   replace e1:=((((e1.st d6).st j2).st k2).st eA).st b9
   refine Dh 6 (O:=rP) (Cd Fr.lt e1 cH) rfl fun hH iH w115 sP m8 tP=>?_
   have hZ:=m8.lst [] (fun _ h=>h.elim)
   refine AF [] hZ ?_
   refine AM (fuel:=1) [] [(9,true)] rfl ?_
   refine CE rfl rfl rfl ?_
   refine Ay ?_
   refine Ax (i:=11) rfl ?_
   replace yA:=yA.st m8
   refine AD yA rfl rfl rfl (AL) (allOne) fun uP d9 yA=>?_
   replace yA:Lc 7 uP sP gH 31 [(.slice w0 c0.vars.length y0),(.slice (some ⟨iP,0,none⟩) yG.length hP),(.slice hH zG.length iH),(.slice none 0 0)]:=yA
   refine BL ?_
   refine BG ?_
   obtain rfl:=sm tC
   exact ⟨(gH,((some ⟨iP,0,none⟩),hP),(hH,iH)),_,⟨rfl,rfl,rfl,rfl,trivial⟩,(((((((((hB.st aD).st sC).st qA).st d6).st j2).st k2).st eA).st b9).st m8).st d9,(((m1.st eA).st b9).st m8).st d9,((((((h7.st d6).st j2).st k2).st eA).st b9).st m8).st d9,((((((t1.st d6).st j2).st k2).st eA).st b9).st m8).st d9,(e1.st m8).st d9,((((((l1.st d6).st j2).st k2).st eA).st b9).st m8).st d9,(((((((v0.st qA).st d6).st j2).st k2).st eA).st b9).st m8).st d9,(((d1.st eA).st b9).st m8).st d9,(((((f0.st j2).st k2).st eA).st b9).st m8).st d9,(((((g0.st j2).st k2).st eA).st b9).st m8).st d9,(((e0.st eA).st b9).st m8).st d9,yA,((oP.st b9).st m8).st d9,tP.st d9⟩
  ·
   replace e1:=((e1.st d6).st j2).st k2
   refine Dh 6 (O:=aH) (Cd Fr.lt e1 cH) rfl fun cE dE w125 jH m3 kH=>?_
   have hZ:=m3.lst [] (fun _ h=>h.elim)
   refine AF [] hZ ?_
   refine Ec (i:=5) (j:=10) rfl rfl ?_ ?_
   ·
    obtain ⟨lH,vP,wP,xP,yP⟩:=HH bH
    refine Jw 5 jH (z0:=(0:Int)) rfl rfl rfl rfl rfl vP (vInt (show inI64 0 from by decide)) wP xP rfl fun mH w139 zP e9 nH=>?_
    rw [← yP] at nH ⊢
    have hZ:=e9.lst [] (fun _ h=>h.elim)
    refine AF [] hZ ?_
    refine AM (fuel:=2) [] [(9,true)] rfl ?_
    refine CE rfl rfl rfl ?_
    refine Ay ?_
    refine Ax (i:=10) rfl ?_
    refine AT 7 zP fun oH w145 aQ n8 cD=>?_
    have hZ:=n8.lst [] (fun _ h=>h.elim)
    refine AF [] hZ ?_
    refine Ax (i:=11) rfl ?_
    refine AD cD rfl rfl rfl (AL) (allOne) fun bQ f9 cD=>?_
    replace cD:Lc 7 bQ aQ oH 31 [(.slice w0 c0.vars.length y0),(.slice (some ⟨mH,0,none⟩) yG.length lH),(.slice cE zG.length dE),(.slice none 0 0)]:=cD
    refine BL ?_
    refine BG ?_
    obtain rfl:=sm tC
    exact ⟨(oH,((some ⟨mH,0,none⟩),lH),(cE,dE)),_,⟨rfl,rfl,rfl,rfl,trivial⟩,(((((((((hB.st aD).st sC).st qA).st d6).st j2).st k2).st m3).st e9).st n8).st f9,(((m1.st m3).st e9).st n8).st f9,((((((h7.st d6).st j2).st k2).st m3).st e9).st n8).st f9,((((((t1.st d6).st j2).st k2).st m3).st e9).st n8).st f9,(((e1.st m3).st e9).st n8).st f9,((((((l1.st d6).st j2).st k2).st m3).st e9).st n8).st f9,(((((((v0.st qA).st d6).st j2).st k2).st m3).st e9).st n8).st f9,(((d1.st m3).st e9).st n8).st f9,(((((f0.st j2).st k2).st m3).st e9).st n8).st f9,(((((g0.st j2).st k2).st m3).st e9).st n8).st f9,(((e0.st m3).st e9).st n8).st f9,cD,(nH.st n8).st f9,((kH.st e9).st n8).st f9⟩
   refine AT 7 jH fun pH w152 cQ g9 zA=>?_
   have hZ:=g9.lst [] (fun _ h=>h.elim)
   refine AF [] hZ ?_
   refine Ax (i:=5) rfl ?_
   obtain ⟨qH,dQ,eQ,fQ,gQ⟩:=HH bH
   refine Jw 5 cQ (z0:=(0:Int)) rfl rfl rfl rfl rfl dQ (vInt (show inI64 0 from by decide)) eQ fQ rfl fun rH w162 hQ o8 sH=>?_
   rw [← gQ] at sH ⊢
   have hZ:=o8.lst [] (fun _ h=>h.elim)
   refine AF [] hZ ?_
   refine AM (fuel:=1) [] [(9,true)] rfl ?_
   refine CE rfl rfl rfl ?_
   refine Ay ?_
   refine Ax (i:=11) rfl ?_
   replace zA:=zA.st o8
   refine AD zA rfl rfl rfl (AL) (allOne) fun iQ h9 zA=>?_
   replace zA:Lc 7 iQ hQ pH 31 [(.slice w0 c0.vars.length y0),(.slice (some ⟨rH,0,none⟩) yG.length qH),(.slice cE zG.length dE),(.slice none 0 0)]:=zA
   refine BL ?_
   refine BG ?_
   obtain rfl:=sm tC
   exact ⟨(pH,((some ⟨rH,0,none⟩),qH),(cE,dE)),_,⟨rfl,rfl,rfl,rfl,trivial⟩,(((((((((hB.st aD).st sC).st qA).st d6).st j2).st k2).st m3).st g9).st o8).st h9,(((m1.st m3).st g9).st o8).st h9,((((((h7.st d6).st j2).st k2).st m3).st g9).st o8).st h9,((((((t1.st d6).st j2).st k2).st m3).st g9).st o8).st h9,(((e1.st m3).st g9).st o8).st h9,((((((l1.st d6).st j2).st k2).st m3).st g9).st o8).st h9,(((((((v0.st qA).st d6).st j2).st k2).st m3).st g9).st o8).st h9,(((d1.st m3).st g9).st o8).st h9,(((((f0.st j2).st k2).st m3).st g9).st o8).st h9,(((((g0.st j2).st k2).st m3).st g9).st o8).st h9,(((e0.st m3).st g9).st o8).st h9,zA,sH.st h9,((kH.st g9).st o8).st h9⟩
  refine AT 7 aH fun eE w170 tH n3 p8=>?_
  have hZ:=n3.lst [] (fun _ h=>h.elim)
  refine AF [] hZ ?_
  refine Ec (i:=5) (j:=8) rfl rfl ?_ ?_
  ·
   obtain ⟨uH,jQ,kQ,lQ,mQ⟩:=HH bH
   refine Jw 5 tH (z0:=(0:Int)) rfl rfl rfl rfl rfl jQ (vInt (show inI64 0 from by decide)) kQ lQ rfl fun vH w180 nQ i9 wH=>?_
   rw [← mQ] at wH ⊢
   have hZ:=i9.lst [] (fun _ h=>h.elim)
   refine AF [] hZ ?_
   refine Ax (i:=8) rfl ?_
   replace e1:=((((e1.st d6).st j2).st k2).st n3).st i9
   refine Dh 6 (O:=nQ) (Cd Fr.lt e1 cH) rfl fun xH yH w185 oQ q8 pQ=>?_
   have hZ:=q8.lst [] (fun _ h=>h.elim)
   refine AF [] hZ ?_
   refine AM (fuel:=1) [] [(9,true)] rfl ?_
   refine CE rfl rfl rfl ?_
   refine Ay ?_
   refine Ax (i:=11) rfl ?_
   replace p8:=(p8.st i9).st q8
   refine AD p8 rfl rfl rfl (AL) (allOne) fun qQ j9 p8=>?_
   replace p8:Lc 7 qQ oQ eE 31 [(.slice w0 c0.vars.length y0),(.slice (some ⟨vH,0,none⟩) yG.length uH),(.slice xH zG.length yH),(.slice none 0 0)]:=p8
   refine BL ?_
   refine BG ?_
   obtain rfl:=sm tC
   exact ⟨(eE,((some ⟨vH,0,none⟩),uH),(xH,yH)),_,⟨rfl,rfl,rfl,rfl,trivial⟩,(((((((((hB.st aD).st sC).st qA).st d6).st j2).st k2).st n3).st i9).st q8).st j9,(((m1.st n3).st i9).st q8).st j9,((((((h7.st d6).st j2).st k2).st n3).st i9).st q8).st j9,((((((t1.st d6).st j2).st k2).st n3).st i9).st q8).st j9,(e1.st q8).st j9,((((((l1.st d6).st j2).st k2).st n3).st i9).st q8).st j9,(((((((v0.st qA).st d6).st j2).st k2).st n3).st i9).st q8).st j9,(((d1.st n3).st i9).st q8).st j9,(((((f0.st j2).st k2).st n3).st i9).st q8).st j9,(((((g0.st j2).st k2).st n3).st i9).st q8).st j9,(((e0.st n3).st i9).st q8).st j9,p8,(wH.st q8).st j9,pQ.st j9⟩
  replace e1:=(((e1.st d6).st j2).st k2).st n3
  refine Dh 6 (O:=tH) (Cd Fr.lt e1 cH) rfl fun zH aI w195 rQ k9 sQ=>?_
  have hZ:=k9.lst [] (fun _ h=>h.elim)
  refine AF [] hZ ?_
  refine Ax (i:=5) rfl ?_
  obtain ⟨bI,tQ,uQ,vQ,wQ⟩:=HH bH
  refine Jw 5 rQ (z0:=(0:Int)) rfl rfl rfl rfl rfl tQ (vInt (show inI64 0 from by decide)) uQ vQ rfl fun cI w209 xQ r8 dI=>?_
  rw [← wQ] at dI ⊢
  have hZ:=r8.lst [] (fun _ h=>h.elim)
  refine AF [] hZ ?_
  refine AM (fuel:=1) [] [(9,true)] rfl ?_
  refine CE rfl rfl rfl ?_
  refine Ay ?_
  refine Ax (i:=11) rfl ?_
  replace p8:=(p8.st k9).st r8
  refine AD p8 rfl rfl rfl (AL) (allOne) fun yQ l9 p8=>?_
  replace p8:Lc 7 yQ xQ eE 31 [(.slice w0 c0.vars.length y0),(.slice (some ⟨cI,0,none⟩) yG.length bI),(.slice zH zG.length aI),(.slice none 0 0)]:=p8
  refine BL ?_
  refine BG ?_
  obtain rfl:=sm tC
  exact ⟨(eE,((some ⟨cI,0,none⟩),bI),(zH,aI)),_,⟨rfl,rfl,rfl,rfl,trivial⟩,(((((((((hB.st aD).st sC).st qA).st d6).st j2).st k2).st n3).st k9).st r8).st l9,(((m1.st n3).st k9).st r8).st l9,((((((h7.st d6).st j2).st k2).st n3).st k9).st r8).st l9,((((((t1.st d6).st j2).st k2).st n3).st k9).st r8).st l9,((e1.st k9).st r8).st l9,((((((l1.st d6).st j2).st k2).st n3).st k9).st r8).st l9,(((((((v0.st qA).st d6).st j2).st k2).st n3).st k9).st r8).st l9,(((d1.st n3).st k9).st r8).st l9,(((((f0.st j2).st k2).st n3).st k9).st r8).st l9,(((((g0.st j2).st k2).st n3).st k9).st r8).st l9,(((e0.st n3).st k9).st r8).st l9,p8,dI.st l9,(sQ.st r8).st l9⟩
 replace hB:=(((((hB.st aD).st sC).st qA).st d6).st j2).st k2
 replace h7:=((h7.st d6).st j2).st k2
 replace t1:=((t1.st d6).st j2).st k2
 replace e1:=((e1.st d6).st j2).st k2
 replace l1:=((l1.st d6).st j2).st k2
 replace m1:=((m1.st d6).st j2).st k2
 replace v0:=(((v0.st qA).st d6).st j2).st k2
 replace f0:=(f0.st j2).st k2
 replace g0:=(g0.st j2).st k2
 replace e0:=(e0.st j2).st k2
 rintro l216 w217 ⟨j0,zQ,eI,hB,m1,h7,t1,e1,l1,v0,d1,f0,g0,e0,h0,y1,aR⟩
 refine AE _ eI ?_
 refine Ab (Aa (AB rfl (Az (hc:=Blk.cell (i:=1) (h0.1) rfl) rfl ?_)))
 refine AB rfl (Az (hc:=Blk.cell (i:=1) (m1.1) rfl) rfl ?_)
 refine UM y1 t1 rfl rfl rfl fun w220 o3 y1 _=>?_
 refine o_z ?_
 refine Ab (Ab (Aa (AB rfl ?_)))
 replace m1:=m1.st o3
 refine Az (hc:=Blk.cell (i:=3) (m1.1) rfl) rfl ?_
 refine AR rfl ?_
 replace l1:=l1.st o3
 have xF:x0.jobs.length≤9223372036854775807:=Nat.le_trans l1.len.2.1 l1.len.2.2
 have r222:inI64 (x0.jobs.length:Int):=rngNat xF
 refine Ak rfl (o_z ?_)
 obtain ⟨yF,fI,hm⟩:=bs hm
 refine Au (aft yF (fun (n1:(List Fct)×(List Opr)) (o0:(Option Addr×Nat)×(Option Addr×Nat))=>[(1,(.pointer (some ⟨cA,0,none⟩))),(2,(.pointer (some ⟨z8,0,none⟩))),(5,(.pointer (some ⟨dA,0,none⟩))),(6,(.pointer (some ⟨j0.1,0,none⟩)))]) (fun n1 o0 w'=>∃ O':Lab,Bs w A w' O'∧Lc 2 w' O' cA 26 [(.slice A8 x0.vars.length c9),(.slice x9 x0.init.length y9),(.slice z9 x0.goal.length aA),(.slice u7 x0.jobs.length v7)]∧Vb w' (Fr 0 w' O') (.slice A8 x0.vars.length c9) x0.vars∧Vb w' (Fr 0 w' O') (.slice x9 x0.init.length y9) x0.init∧Vb w' (Fr 0 w' O') (.slice z9 x0.goal.length aA) x0.goal∧Vb w' (Fr 0 w' O') (.slice u7 x0.jobs.length v7) x0.jobs∧Lc 3 w' O' z8 31 [(.slice none 0 0),(.slice none 0 0),(.slice none 0 0),(.slice none 0 0)]∧Lc 4 w' O' dA 74 [(.int .i64 c0.jobs),(.slice l2 c0.write.length m2),(.slice n2 c0.read.length o2),(.int .i64 c0.phase),(.slice w0 c0.vars.length y0)]∧Vb w' (Fr 0 w' O') (.slice l2 c0.write.length m2) c0.write∧Vb w' (Fr 0 w' O') (.slice n2 c0.read.length o2) c0.read∧Vb w' (Fr 0 w' O') (.slice w0 c0.vars.length y0) c0.vars∧Lc 7 w' O' j0.1 31 [(.slice w0 c0.vars.length y0),(.slice j0.2.1.1 p2.1.length j0.2.1.2),(.slice o0.1.1 n1.1.length o0.1.2),(.slice o0.2.1 n1.2.length o0.2.2)]∧Rw 5 w' O' 3 (.slice j0.2.1.1 p2.1.length j0.2.1.2) (cpyL p2.1 x0.init)∧Rw 6 w' O' 78 (.slice o0.1.1 n1.1.length o0.1.2) n1.1∧Rw 14 w' O' 82 (.slice o0.2.1 n1.2.length o0.2.2) n1.2)) ?_ ?_
 ·
  refine AJ ?_
  replace hB:=hB.st o3
  replace h7:=h7.st o3
  replace t1:=t1.st o3
  replace e1:=e1.st o3
  replace v0:=v0.st o3
  replace f0:=f0.st o3
  replace g0:=g0.st o3
  replace e0:=e0.st o3
  replace d1:=d1.st o3
  replace h0:=h0.st o3
  replace aR:=aR.st o3
  refine Bh (σ:=(List Fct)×(List Opr)) (X:=(Option Addr×Nat)×(Option Addr×Nat)) (x0.jobs.length) fI rfl xF (fun (n1:(List Fct)×(List Opr)) (o0:(Option Addr×Nat)×(Option Addr×Nat))=>[(1,(.pointer (some ⟨cA,0,none⟩))),(2,(.pointer (some ⟨z8,0,none⟩))),(5,(.pointer (some ⟨dA,0,none⟩))),(6,(.pointer (some ⟨j0.1,0,none⟩))),(40,(.slice u7 x0.jobs.length v7))]) _ (fun n1 o0 w'=>∃ O':Lab,Bs w A w' O'∧Lc 2 w' O' cA 26 [(.slice A8 x0.vars.length c9),(.slice x9 x0.init.length y9),(.slice z9 x0.goal.length aA),(.slice u7 x0.jobs.length v7)]∧Vb w' (Fr 0 w' O') (.slice A8 x0.vars.length c9) x0.vars∧Vb w' (Fr 0 w' O') (.slice x9 x0.init.length y9) x0.init∧Vb w' (Fr 0 w' O') (.slice z9 x0.goal.length aA) x0.goal∧Vb w' (Fr 0 w' O') (.slice u7 x0.jobs.length v7) x0.jobs∧Lc 3 w' O' z8 31 [(.slice none 0 0),(.slice none 0 0),(.slice none 0 0),(.slice none 0 0)]∧Lc 4 w' O' dA 74 [(.int .i64 c0.jobs),(.slice l2 c0.write.length m2),(.slice n2 c0.read.length o2),(.int .i64 c0.phase),(.slice w0 c0.vars.length y0)]∧Vb w' (Fr 0 w' O') (.slice l2 c0.write.length m2) c0.write∧Vb w' (Fr 0 w' O') (.slice n2 c0.read.length o2) c0.read∧Vb w' (Fr 0 w' O') (.slice w0 c0.vars.length y0) c0.vars∧Lc 7 w' O' j0.1 31 [(.slice w0 c0.vars.length y0),(.slice j0.2.1.1 p2.1.length j0.2.1.2),(.slice o0.1.1 n1.1.length o0.1.2),(.slice o0.2.1 n1.2.length o0.2.2)]∧Rw 5 w' O' 3 (.slice j0.2.1.1 p2.1.length j0.2.1.2) (cpyL p2.1 x0.init)∧Rw 6 w' O' 78 (.slice o0.1.1 n1.1.length o0.1.2) n1.1∧Rw 14 w' O' 82 (.slice o0.2.1 n1.2.length o0.2.2) n1.2) _ ((j0.2.2.1,j0.2.2.2),(none,0)) ⟨zQ,hB,m1,h7,t1,e1,l1,v0,d1,f0,g0,e0,h0,y1,aR,(Rw.nil 14 (by decide))⟩ ⟨rfl,rfl,rfl,rfl,rfl,rfl,rfl,trivial⟩ (fun _ _=>⟨rfl,rfl⟩) (fun _ _=>⟨rfl,rfl,rfl,rfl,trivial⟩) (fun _ _ _ ⟨O',hB,m1,h7,t1,e1,l1,v0,d1,f0,g0,e0,h0,y1,c2,h2⟩=>⟨O',hB,m1,h7,t1,e1,l1,v0,d1,f0,g0,e0,h0,y1,c2,h2⟩) ⟨rfl,rfl,rfl⟩ ⟨rfl,rfl⟩ ?_
  rintro vA i0 n1 o0 w230 rY uE ⟨bR,hB,m1,h7,t1,e1,l1,v0,d1,f0,g0,e0,h0,y1,c2,h2⟩ m0 jP kP
  have rk228:inI64 (vA:Int):=rngK uE xF
  refine Ab (Aa (Ak rfl ?_))
  obtain ⟨b247,o248,sY,gI,hI,iI,v254,v255,v256,v257,v258,rfl,d2,p3,u1,e2,v1,z274,zF⟩:=l1.elem' uE
  obtain ⟨aB,bB,rfl⟩:=d2.form
  obtain ⟨cB,dB,rfl⟩:=p3.form
  obtain ⟨eB,fB,rfl⟩:=u1.form
  obtain ⟨gB,iB,rfl⟩:=e2.form
  obtain ⟨jB,kB,rfl⟩:=v1.form
  refine Bv (hA:=gI) (hj:=rfl) (hlt:=hI) rfl rfl ?_
  refine Bg (hl:=rfl) (hc:=iI) rfl ?_
  refine AT 8 bR fun lB w277 vC a0 f2=>?_
  refine Al rfl (AD f2 rfl rfl rfl (AL) (allOne) fun aG b0 f2=>?_)
  replace f2:Lc 8 aG vC lB 66 [(.string i0.name),(.int .i64 i0.dur),(.slice aB i0.start.length bB),(.slice cB i0.over.length dB),(.slice eB i0.fin.length fB),(.slice gB i0.atStart.length iB),(.slice jB i0.atEnd.length kB)]:=f2
  refine o_z ?_
  refine Ab ?_
  obtain ⟨w1,dD,m0⟩:=bs m0
  obtain ⟨x1,fA,m0⟩:=bs m0
  obtain ⟨y287,g7,m0⟩:=bs m0
  refine Au (fun l' w'=>∃ (gA:Nat×Nat) (O':Lab),subs l' [(1,(.pointer (some ⟨cA,0,none⟩))),(2,(.pointer (some ⟨z8,0,none⟩))),(5,(.pointer (some ⟨dA,0,none⟩))),(6,(.pointer (some ⟨j0.1,0,none⟩))),(7,(.int .i64 (vA:Int))),(8,(.pointer (some ⟨lB,0,none⟩))),(9,(.pointer (some ⟨gA.1,0,none⟩))),(10,(.pointer (some ⟨gA.2,0,none⟩))),(40,(.slice u7 x0.jobs.length v7)),(41,(.int .i64 (x0.jobs.length:Int))),(42,(.int .i64 (vA:Int)))]∧Bs w A w' O'∧Lc 2 w' O' cA 26 [(.slice A8 x0.vars.length c9),(.slice x9 x0.init.length y9),(.slice z9 x0.goal.length aA),(.slice u7 x0.jobs.length v7)]∧Vb w' (Fr 0 w' O') (.slice A8 x0.vars.length c9) x0.vars∧Vb w' (Fr 0 w' O') (.slice x9 x0.init.length y9) x0.init∧Vb w' (Fr 0 w' O') (.slice z9 x0.goal.length aA) x0.goal∧Vb w' (Fr 0 w' O') (.slice u7 x0.jobs.length v7) x0.jobs∧Lc 3 w' O' z8 31 [(.slice none 0 0),(.slice none 0 0),(.slice none 0 0),(.slice none 0 0)]∧Lc 4 w' O' dA 74 [(.int .i64 c0.jobs),(.slice l2 c0.write.length m2),(.slice n2 c0.read.length o2),(.int .i64 c0.phase),(.slice w0 c0.vars.length y0)]∧Vb w' (Fr 0 w' O') (.slice l2 c0.write.length m2) c0.write∧Vb w' (Fr 0 w' O') (.slice n2 c0.read.length o2) c0.read∧Vb w' (Fr 0 w' O') (.slice w0 c0.vars.length y0) c0.vars∧Lc 7 w' O' j0.1 31 [(.slice w0 c0.vars.length y0),(.slice j0.2.1.1 p2.1.length j0.2.1.2),(.slice o0.1.1 n1.1.length o0.1.2),(.slice o0.2.1 n1.2.length o0.2.2)]∧Rw 5 w' O' 3 (.slice j0.2.1.1 p2.1.length j0.2.1.2) (cpyL p2.1 x0.init)∧Rw 6 w' O' 78 (.slice o0.1.1 n1.1.length o0.1.2) n1.1∧Rw 14 w' O' 82 (.slice o0.2.1 n1.2.length o0.2.2) n1.2∧Lc 8 w' O' lB 66 [(.string i0.name),(.int .i64 i0.dur),(.slice aB i0.start.length bB),(.slice cB i0.over.length dB),(.slice eB i0.fin.length fB),(.slice gB i0.atStart.length iB),(.slice jB i0.atEnd.length kB)]∧Vb w' (Fr 0 w' O') (.slice aB i0.start.length bB) i0.start∧Vb w' (Fr 0 w' O') (.slice cB i0.over.length dB) i0.over∧Vb w' (Fr 0 w' O') (.slice eB i0.fin.length fB) i0.fin∧Vb w' (Fr 0 w' O') (.slice gB i0.atStart.length iB) i0.atStart∧Vb w' (Fr 0 w' O') (.slice jB i0.atEnd.length kB) i0.atEnd∧Lc 9 w' O' gA.1 78 [(.int .i64 w1),(.int .i64 0)]∧Lc 10 w' O' gA.2 78 [(.int .i64 x1),(.int .i64 0)]∧inI64 w1∧inI64 x1) ?_ ?_
  ·
   refine BP [(10,[9])] vC ?_
   refine AM (fuel:=8) [] [(0,true),(1,true),(4,true),(5,true)] rfl ?_
   replace d1:=(d1.st a0).st b0
   refine CN (hl:=rfl) (hb:=fun w' ⟨O',hq⟩=>((d1.st hq (by decide)).1).cellsAt) rfl rfl ?_
   refine Bp rfl rfl (CN (hl:=rfl) (hb:=fun w' ⟨O',hq⟩=>((d1.st hq (by decide)).1).cellsAt) rfl rfl ?_)
   refine Bp rfl rfl (Ay ?_)
   refine No (i:=2) (j:=8) (k:=9) rfl rfl rfl ?_ ?_ ?_
   ·
    replace f0:=(f0.st a0).st b0
    replace g0:=(g0.st a0).st b0
    replace e0:=(e0.st a0).st b0
    refine AG (O:=vC) (A:=All aG) (R:=fun w' F v=>Vb w' F v w1) (BC (fun _ h=>h) (Vb.mono (F:=Fr 0 aG vC) (Vb.ofAgg (cs:=[(.int .i64 c0.jobs),(.slice l2 c0.write.length m2),(.slice n2 c0.read.length o2),(.int .i64 c0.phase),(.slice w0 c0.vars.length y0)]) (x:=c0) rfl ⟨_,_,_,rfl,f0,g0,e0,t7,j7⟩) Fr.lt) rk228 dD) rfl fun v299 jI fE d0 cR=>?_
    obtain ⟨rfl,wC⟩:=cR.int
    have hZ:=d0.lst [] (fun _ h=>h.elim)
    refine AF [(10,[9])] hZ ?_
    refine AM (fuel:=6) [] [(3,true)] rfl ?_
    refine CE rfl rfl rfl ?_
    refine Ay ?_
    refine No (i:=6) (j:=8) (k:=9) rfl rfl rfl ?_ ?_ ?_
    ·
     replace f0:=f0.st d0
     replace g0:=g0.st d0
     replace e0:=e0.st d0
     refine AG (O:=fE) (A:=All jI) (R:=fun w' F v=>Vb w' F v x1) (Bz (fun _ h=>h) (Vb.mono (F:=Fr 0 jI fE) (Vb.ofAgg (cs:=[(.int .i64 c0.jobs),(.slice l2 c0.write.length m2),(.slice n2 c0.read.length o2),(.int .i64 c0.phase),(.slice w0 c0.vars.length y0)]) (x:=c0) rfl ⟨_,_,_,rfl,f0,g0,e0,t7,j7⟩) Fr.lt) rk228 fA) rfl fun v305 w301 kI f1 dR=>?_
     obtain ⟨rfl,lI⟩:=dR.int
     have hZ:=f1.lst [] (fun _ h=>h.elim)
     refine AF [(10,[9])] hZ ?_
     refine AM (fuel:=4) [9] [(7,true)] rfl ?_
     refine CE rfl rfl rfl ?_
     refine Ay ?_
     refine Ec (i:=8) (j:=9) rfl rfl ?_ ?_
     ·
      refine AT 9 kI fun mI w308 eR g5 mB=>?_
      have hZ:=g5.lst [] (fun _ h=>h.elim)
      refine AF [(10,[9])] hZ ?_
      refine Ax (i:=9) rfl ?_
      refine AT 10 eR fun nI w313 oI q3 nB=>?_
      have hZ:=q3.lst [] (fun _ h=>h.elim)
      refine AF [(10,[9])] hZ ?_
      refine Ax (i:=10) rfl ?_
      replace mB:=mB.st q3
      refine AD mB rfl rfl rfl (AL) (allOne) fun fR r3 mB=>?_
      replace mB:Lc 9 fR oI mI 78 [(.int .i64 w1),(.int .i64 0)]:=mB
      have hZ:=r3.lst [9] (fun _ h=>by cases h;decide)
      refine AF [] hZ ?_
      refine Ax (i:=11) rfl ?_
      replace nB:=nB.st r3
      refine AD nB rfl rfl rfl (AL) (allOne) fun gR h5 nB=>?_
      replace nB:Lc 10 gR oI nI 78 [(.int .i64 x1),(.int .i64 0)]:=nB
      refine BL ?_
      refine BG ?_
      obtain rfl:=sm g7
      exact ⟨(mI,nI),_,⟨rfl,rfl,rfl,rfl,rfl,rfl,rfl,rfl,rfl,rfl,rfl,trivial⟩,(((((((hB.st a0).st b0).st d0).st f1).st g5).st q3).st r3).st h5,(((((((m1.st a0).st b0).st d0).st f1).st g5).st q3).st r3).st h5,(((((((h7.st a0).st b0).st d0).st f1).st g5).st q3).st r3).st h5,(((((((t1.st a0).st b0).st d0).st f1).st g5).st q3).st r3).st h5,(((((((e1.st a0).st b0).st d0).st f1).st g5).st q3).st r3).st h5,(((((((l1.st a0).st b0).st d0).st f1).st g5).st q3).st r3).st h5,(((((((v0.st a0).st b0).st d0).st f1).st g5).st q3).st r3).st h5,(((((d1.st d0).st f1).st g5).st q3).st r3).st h5,((((f0.st f1).st g5).st q3).st r3).st h5,((((g0.st f1).st g5).st q3).st r3).st h5,((((e0.st f1).st g5).st q3).st r3).st h5,(((((((h0.st a0).st b0).st d0).st f1).st g5).st q3).st r3).st h5,(((((((y1.st a0).st b0).st d0).st f1).st g5).st q3).st r3).st h5,(((((((c2.st a0).st b0).st d0).st f1).st g5).st q3).st r3).st h5,(((((((h2.st a0).st b0).st d0).st f1).st g5).st q3).st r3).st h5,(((((f2.st d0).st f1).st g5).st q3).st r3).st h5,(((((((d2.st a0).st b0).st d0).st f1).st g5).st q3).st r3).st h5,(((((((p3.st a0).st b0).st d0).st f1).st g5).st q3).st r3).st h5,(((((((u1.st a0).st b0).st d0).st f1).st g5).st q3).st r3).st h5,(((((((e2.st a0).st b0).st d0).st f1).st g5).st q3).st r3).st h5,(((((((v1.st a0).st b0).st d0).st f1).st g5).st q3).st r3).st h5,mB.st h5,nB,wC,lI⟩
     refine AT 10 kI fun pI w322 hR i5 oB=>?_
     have hZ:=i5.lst [] (fun _ h=>h.elim)
     refine AF [(10,[9])] hZ ?_
     refine Ax (i:=8) rfl ?_
     refine AT 9 hR fun qI w327 rI s3 eD=>?_
     have hZ:=s3.lst [] (fun _ h=>h.elim)
     refine AF [(10,[9])] hZ ?_
     refine Ax (i:=10) rfl ?_
     refine AD eD rfl rfl rfl (AL) (allOne) fun iR t3 eD=>?_
     replace eD:Lc 9 iR rI qI 78 [(.int .i64 w1),(.int .i64 0)]:=eD
     have hZ:=t3.lst [9] (fun _ h=>by cases h;decide)
     refine AF [] hZ ?_
     refine Ax (i:=11) rfl ?_
     replace oB:=(oB.st s3).st t3
     refine AD oB rfl rfl rfl (AL) (allOne) fun jR j5 oB=>?_
     replace oB:Lc 10 jR rI pI 78 [(.int .i64 x1),(.int .i64 0)]:=oB
     refine BL ?_
     refine BG ?_
     obtain rfl:=sm g7
     exact ⟨(qI,pI),_,⟨rfl,rfl,rfl,rfl,rfl,rfl,rfl,rfl,rfl,rfl,rfl,trivial⟩,(((((((hB.st a0).st b0).st d0).st f1).st i5).st s3).st t3).st j5,(((((((m1.st a0).st b0).st d0).st f1).st i5).st s3).st t3).st j5,(((((((h7.st a0).st b0).st d0).st f1).st i5).st s3).st t3).st j5,(((((((t1.st a0).st b0).st d0).st f1).st i5).st s3).st t3).st j5,(((((((e1.st a0).st b0).st d0).st f1).st i5).st s3).st t3).st j5,(((((((l1.st a0).st b0).st d0).st f1).st i5).st s3).st t3).st j5,(((((((v0.st a0).st b0).st d0).st f1).st i5).st s3).st t3).st j5,(((((d1.st d0).st f1).st i5).st s3).st t3).st j5,((((f0.st f1).st i5).st s3).st t3).st j5,((((g0.st f1).st i5).st s3).st t3).st j5,((((e0.st f1).st i5).st s3).st t3).st j5,(((((((h0.st a0).st b0).st d0).st f1).st i5).st s3).st t3).st j5,(((((((y1.st a0).st b0).st d0).st f1).st i5).st s3).st t3).st j5,(((((((c2.st a0).st b0).st d0).st f1).st i5).st s3).st t3).st j5,(((((((h2.st a0).st b0).st d0).st f1).st i5).st s3).st t3).st j5,(((((f2.st d0).st f1).st i5).st s3).st t3).st j5,(((((((d2.st a0).st b0).st d0).st f1).st i5).st s3).st t3).st j5,(((((((p3.st a0).st b0).st d0).st f1).st i5).st s3).st t3).st j5,(((((((u1.st a0).st b0).st d0).st f1).st i5).st s3).st t3).st j5,(((((((e2.st a0).st b0).st d0).st f1).st i5).st s3).st t3).st j5,(((((((v1.st a0).st b0).st d0).st f1).st i5).st s3).st t3).st j5,eD.st j5,oB,wC,lI⟩
    ·
     refine AT 9 fE fun gE sI bG g1 s8=>?_
     have hZ:=g1.lst [] (fun _ h=>h.elim)
     refine AF [(10,[9])] hZ ?_
     refine Ec (i:=6) (j:=9) rfl rfl ?_ ?_
     ·
      replace f0:=(f0.st d0).st g1
      replace g0:=(g0.st d0).st g1
      replace e0:=(e0.st d0).st g1
      refine AG (O:=bG) (A:=All sI) (R:=fun w' F v=>Vb w' F v x1) (Bz (fun _ h=>h) (Vb.mono (F:=Fr 0 sI bG) (Vb.ofAgg (cs:=[(.int .i64 c0.jobs),(.slice l2 c0.write.length m2),(.slice n2 c0.read.length o2),(.int .i64 c0.phase),(.slice w0 c0.vars.length y0)]) (x:=c0) rfl ⟨_,_,_,rfl,f0,g0,e0,t7,j7⟩) Fr.lt) rk228 fA) rfl fun v344 w340 kR u3 lR=>?_
      obtain ⟨rfl,mR⟩:=lR.int
      have hZ:=u3.lst [] (fun _ h=>h.elim)
      refine AF [(10,[9])] hZ ?_
      refine AM (fuel:=3) [9] [(7,true)] rfl ?_
      refine CE rfl rfl rfl ?_
      refine Ay ?_
      refine Ax (i:=9) rfl ?_
      refine AT 10 kR fun tI w347 uI w3 pB=>?_
      have hZ:=w3.lst [] (fun _ h=>h.elim)
      refine AF [(10,[9])] hZ ?_
      refine Ax (i:=10) rfl ?_
      replace s8:=(s8.st u3).st w3
      refine AD s8 rfl rfl rfl (AL) (allOne) fun nR x3 s8=>?_
      replace s8:Lc 9 nR uI gE 78 [(.int .i64 w1),(.int .i64 0)]:=s8
      have hZ:=x3.lst [9] (fun _ h=>by cases h;decide)
      refine AF [] hZ ?_
      refine Ax (i:=11) rfl ?_
      replace pB:=pB.st x3
      refine AD pB rfl rfl rfl (AL) (allOne) fun oR k5 pB=>?_
      replace pB:Lc 10 oR uI tI 78 [(.int .i64 x1),(.int .i64 0)]:=pB
      refine BL ?_
      refine BG ?_
      obtain rfl:=sm g7
      exact ⟨(gE,tI),_,⟨rfl,rfl,rfl,rfl,rfl,rfl,rfl,rfl,rfl,rfl,rfl,trivial⟩,(((((((hB.st a0).st b0).st d0).st g1).st u3).st w3).st x3).st k5,(((((((m1.st a0).st b0).st d0).st g1).st u3).st w3).st x3).st k5,(((((((h7.st a0).st b0).st d0).st g1).st u3).st w3).st x3).st k5,(((((((t1.st a0).st b0).st d0).st g1).st u3).st w3).st x3).st k5,(((((((e1.st a0).st b0).st d0).st g1).st u3).st w3).st x3).st k5,(((((((l1.st a0).st b0).st d0).st g1).st u3).st w3).st x3).st k5,(((((((v0.st a0).st b0).st d0).st g1).st u3).st w3).st x3).st k5,(((((d1.st d0).st g1).st u3).st w3).st x3).st k5,(((f0.st u3).st w3).st x3).st k5,(((g0.st u3).st w3).st x3).st k5,(((e0.st u3).st w3).st x3).st k5,(((((((h0.st a0).st b0).st d0).st g1).st u3).st w3).st x3).st k5,(((((((y1.st a0).st b0).st d0).st g1).st u3).st w3).st x3).st k5,(((((((c2.st a0).st b0).st d0).st g1).st u3).st w3).st x3).st k5,(((((((h2.st a0).st b0).st d0).st g1).st u3).st w3).st x3).st k5,(((((f2.st d0).st g1).st u3).st w3).st x3).st k5,(((((((d2.st a0).st b0).st d0).st g1).st u3).st w3).st x3).st k5,(((((((p3.st a0).st b0).st d0).st g1).st u3).st w3).st x3).st k5,(((((((u1.st a0).st b0).st d0).st g1).st u3).st w3).st x3).st k5,(((((((e2.st a0).st b0).st d0).st g1).st u3).st w3).st x3).st k5,(((((((v1.st a0).st b0).st d0).st g1).st u3).st w3).st x3).st k5,s8.st k5,pB,wC,mR⟩
     refine AT 10 bG fun vI wI xI y3 qB=>?_
     have hZ:=y3.lst [] (fun _ h=>h.elim)
     refine AF [(10,[9])] hZ ?_
     refine Ax (i:=6) rfl ?_
     replace f0:=((f0.st d0).st g1).st y3
     replace g0:=((g0.st d0).st g1).st y3
     replace e0:=((e0.st d0).st g1).st y3
     refine AG (O:=xI) (A:=All wI) (R:=fun w' F v=>Vb w' F v x1) (Bz (fun _ h=>h) (Vb.mono (F:=Fr 0 wI xI) (Vb.ofAgg (cs:=[(.int .i64 c0.jobs),(.slice l2 c0.write.length m2),(.slice n2 c0.read.length o2),(.int .i64 c0.phase),(.slice w0 c0.vars.length y0)]) (x:=c0) rfl ⟨_,_,_,rfl,f0,g0,e0,t7,j7⟩) Fr.lt) rk228 fA) rfl fun v364 w360 yI t2 pR=>?_
     obtain ⟨rfl,qR⟩:=pR.int
     have hZ:=t2.lst [] (fun _ h=>h.elim)
     refine AF [(10,[9])] hZ ?_
     refine AM (fuel:=2) [9] [(7,true)] rfl ?_
     refine CE rfl rfl rfl ?_
     refine Ay ?_
     refine Ax (i:=10) rfl ?_
     replace s8:=(s8.st y3).st t2
     refine AD s8 rfl rfl rfl (AL) (allOne) fun rR z3 s8=>?_
     replace s8:Lc 9 rR yI gE 78 [(.int .i64 w1),(.int .i64 0)]:=s8
     have hZ:=z3.lst [9] (fun _ h=>by cases h;decide)
     refine AF [] hZ ?_
     refine Ax (i:=11) rfl ?_
     replace qB:=(qB.st t2).st z3
     refine AD qB rfl rfl rfl (AL) (allOne) fun sR l5 qB=>?_
     replace qB:Lc 10 sR yI vI 78 [(.int .i64 x1),(.int .i64 0)]:=qB
     refine BL ?_
     refine BG ?_
     obtain rfl:=sm g7
     exact ⟨(gE,vI),_,⟨rfl,rfl,rfl,rfl,rfl,rfl,rfl,rfl,rfl,rfl,rfl,trivial⟩,(((((((hB.st a0).st b0).st d0).st g1).st y3).st t2).st z3).st l5,(((((((m1.st a0).st b0).st d0).st g1).st y3).st t2).st z3).st l5,(((((((h7.st a0).st b0).st d0).st g1).st y3).st t2).st z3).st l5,(((((((t1.st a0).st b0).st d0).st g1).st y3).st t2).st z3).st l5,(((((((e1.st a0).st b0).st d0).st g1).st y3).st t2).st z3).st l5,(((((((l1.st a0).st b0).st d0).st g1).st y3).st t2).st z3).st l5,(((((((v0.st a0).st b0).st d0).st g1).st y3).st t2).st z3).st l5,(((((d1.st d0).st g1).st y3).st t2).st z3).st l5,((f0.st t2).st z3).st l5,((g0.st t2).st z3).st l5,((e0.st t2).st z3).st l5,(((((((h0.st a0).st b0).st d0).st g1).st y3).st t2).st z3).st l5,(((((((y1.st a0).st b0).st d0).st g1).st y3).st t2).st z3).st l5,(((((((c2.st a0).st b0).st d0).st g1).st y3).st t2).st z3).st l5,(((((((h2.st a0).st b0).st d0).st g1).st y3).st t2).st z3).st l5,(((((f2.st d0).st g1).st y3).st t2).st z3).st l5,(((((((d2.st a0).st b0).st d0).st g1).st y3).st t2).st z3).st l5,(((((((p3.st a0).st b0).st d0).st g1).st y3).st t2).st z3).st l5,(((((((u1.st a0).st b0).st d0).st g1).st y3).st t2).st z3).st l5,(((((((e2.st a0).st b0).st d0).st g1).st y3).st t2).st z3).st l5,(((((((v1.st a0).st b0).st d0).st g1).st y3).st t2).st z3).st l5,s8.st l5,qB,wC,qR⟩
    refine AT 10 fE fun hE zI cG h1 t8=>?_
    have hZ:=h1.lst [] (fun _ h=>h.elim)
    refine AF [(10,[9])] hZ ?_
    refine Ec (i:=6) (j:=8) rfl rfl ?_ ?_
    ·
     replace f0:=(f0.st d0).st h1
     replace g0:=(g0.st d0).st h1
     replace e0:=(e0.st d0).st h1
     refine AG (O:=cG) (A:=All zI) (R:=fun w' F v=>Vb w' F v x1) (Bz (fun _ h=>h) (Vb.mono (F:=Fr 0 zI cG) (Vb.ofAgg (cs:=[(.int .i64 c0.jobs),(.slice l2 c0.write.length m2),(.slice n2 c0.read.length o2),(.int .i64 c0.phase),(.slice w0 c0.vars.length y0)]) (x:=c0) rfl ⟨_,_,_,rfl,f0,g0,e0,t7,j7⟩) Fr.lt) rk228 fA) rfl fun v379 w375 tR a4 uR=>?_
     obtain ⟨rfl,vR⟩:=uR.int
     have hZ:=a4.lst [] (fun _ h=>h.elim)
     refine AF [(10,[9])] hZ ?_
     refine AM (fuel:=3) [9] [(7,true)] rfl ?_
     refine CE rfl rfl rfl ?_
     refine Ay ?_
     refine Ax (i:=8) rfl ?_
     refine AT 9 tR fun aJ w382 bJ b4 fD=>?_
     have hZ:=b4.lst [] (fun _ h=>h.elim)
     refine AF [(10,[9])] hZ ?_
     refine Ax (i:=10) rfl ?_
     refine AD fD rfl rfl rfl (AL) (allOne) fun wR c4 fD=>?_
     replace fD:Lc 9 wR bJ aJ 78 [(.int .i64 w1),(.int .i64 0)]:=fD
     have hZ:=c4.lst [9] (fun _ h=>by cases h;decide)
     refine AF [] hZ ?_
     refine Ax (i:=11) rfl ?_
     replace t8:=((t8.st a4).st b4).st c4
     refine AD t8 rfl rfl rfl (AL) (allOne) fun xR m5 t8=>?_
     replace t8:Lc 10 xR bJ hE 78 [(.int .i64 x1),(.int .i64 0)]:=t8
     refine BL ?_
     refine BG ?_
     obtain rfl:=sm g7
     exact ⟨(aJ,hE),_,⟨rfl,rfl,rfl,rfl,rfl,rfl,rfl,rfl,rfl,rfl,rfl,trivial⟩,(((((((hB.st a0).st b0).st d0).st h1).st a4).st b4).st c4).st m5,(((((((m1.st a0).st b0).st d0).st h1).st a4).st b4).st c4).st m5,(((((((h7.st a0).st b0).st d0).st h1).st a4).st b4).st c4).st m5,(((((((t1.st a0).st b0).st d0).st h1).st a4).st b4).st c4).st m5,(((((((e1.st a0).st b0).st d0).st h1).st a4).st b4).st c4).st m5,(((((((l1.st a0).st b0).st d0).st h1).st a4).st b4).st c4).st m5,(((((((v0.st a0).st b0).st d0).st h1).st a4).st b4).st c4).st m5,(((((d1.st d0).st h1).st a4).st b4).st c4).st m5,(((f0.st a4).st b4).st c4).st m5,(((g0.st a4).st b4).st c4).st m5,(((e0.st a4).st b4).st c4).st m5,(((((((h0.st a0).st b0).st d0).st h1).st a4).st b4).st c4).st m5,(((((((y1.st a0).st b0).st d0).st h1).st a4).st b4).st c4).st m5,(((((((c2.st a0).st b0).st d0).st h1).st a4).st b4).st c4).st m5,(((((((h2.st a0).st b0).st d0).st h1).st a4).st b4).st c4).st m5,(((((f2.st d0).st h1).st a4).st b4).st c4).st m5,(((((((d2.st a0).st b0).st d0).st h1).st a4).st b4).st c4).st m5,(((((((p3.st a0).st b0).st d0).st h1).st a4).st b4).st c4).st m5,(((((((u1.st a0).st b0).st d0).st h1).st a4).st b4).st c4).st m5,(((((((e2.st a0).st b0).st d0).st h1).st a4).st b4).st c4).st m5,(((((((v1.st a0).st b0).st d0).st h1).st a4).st b4).st c4).st m5,fD.st m5,t8,wC,vR⟩
    refine AT 9 cG fun cJ dJ eJ d4 rB=>?_
    have hZ:=d4.lst [] (fun _ h=>h.elim)
    refine AF [(10,[9])] hZ ?_
    refine Ax (i:=6) rfl ?_
    replace f0:=((f0.st d0).st h1).st d4
    replace g0:=((g0.st d0).st h1).st d4
    replace e0:=((e0.st d0).st h1).st d4
    refine AG (O:=eJ) (A:=All dJ) (R:=fun w' F v=>Vb w' F v x1) (Bz (fun _ h=>h) (Vb.mono (F:=Fr 0 dJ eJ) (Vb.ofAgg (cs:=[(.int .i64 c0.jobs),(.slice l2 c0.write.length m2),(.slice n2 c0.read.length o2),(.int .i64 c0.phase),(.slice w0 c0.vars.length y0)]) (x:=c0) rfl ⟨_,_,_,rfl,f0,g0,e0,t7,j7⟩) Fr.lt) rk228 fA) rfl fun v399 w395 fJ u2 yR=>?_
    obtain ⟨rfl,zR⟩:=yR.int
    have hZ:=u2.lst [] (fun _ h=>h.elim)
    refine AF [(10,[9])] hZ ?_
    refine AM (fuel:=2) [9] [(7,true)] rfl ?_
    refine CE rfl rfl rfl ?_
    refine Ay ?_
    refine Ax (i:=10) rfl ?_
    replace rB:=rB.st u2
    refine AD rB rfl rfl rfl (AL) (allOne) fun aS e4 rB=>?_
    replace rB:Lc 9 aS fJ cJ 78 [(.int .i64 w1),(.int .i64 0)]:=rB
    have hZ:=e4.lst [9] (fun _ h=>by cases h;decide)
    refine AF [] hZ ?_
    refine Ax (i:=11) rfl ?_
    replace t8:=((t8.st d4).st u2).st e4
    refine AD t8 rfl rfl rfl (AL) (allOne) fun bS n5 t8=>?_
    replace t8:Lc 10 bS fJ hE 78 [(.int .i64 x1),(.int .i64 0)]:=t8
    refine BL ?_
    refine BG ?_
    obtain rfl:=sm g7
    exact ⟨(cJ,hE),_,⟨rfl,rfl,rfl,rfl,rfl,rfl,rfl,rfl,rfl,rfl,rfl,trivial⟩,(((((((hB.st a0).st b0).st d0).st h1).st d4).st u2).st e4).st n5,(((((((m1.st a0).st b0).st d0).st h1).st d4).st u2).st e4).st n5,(((((((h7.st a0).st b0).st d0).st h1).st d4).st u2).st e4).st n5,(((((((t1.st a0).st b0).st d0).st h1).st d4).st u2).st e4).st n5,(((((((e1.st a0).st b0).st d0).st h1).st d4).st u2).st e4).st n5,(((((((l1.st a0).st b0).st d0).st h1).st d4).st u2).st e4).st n5,(((((((v0.st a0).st b0).st d0).st h1).st d4).st u2).st e4).st n5,(((((d1.st d0).st h1).st d4).st u2).st e4).st n5,((f0.st u2).st e4).st n5,((g0.st u2).st e4).st n5,((e0.st u2).st e4).st n5,(((((((h0.st a0).st b0).st d0).st h1).st d4).st u2).st e4).st n5,(((((((y1.st a0).st b0).st d0).st h1).st d4).st u2).st e4).st n5,(((((((c2.st a0).st b0).st d0).st h1).st d4).st u2).st e4).st n5,(((((((h2.st a0).st b0).st d0).st h1).st d4).st u2).st e4).st n5,(((((f2.st d0).st h1).st d4).st u2).st e4).st n5,(((((((d2.st a0).st b0).st d0).st h1).st d4).st u2).st e4).st n5,(((((((p3.st a0).st b0).st d0).st h1).st d4).st u2).st e4).st n5,(((((((u1.st a0).st b0).st d0).st h1).st d4).st u2).st e4).st n5,(((((((e2.st a0).st b0).st d0).st h1).st d4).st u2).st e4).st n5,(((((((v1.st a0).st b0).st d0).st h1).st d4).st u2).st e4).st n5,rB.st n5,t8,wC,zR⟩
   ·
    refine AT 9 vC fun xC gJ dG k0 e6=>?_
    have hZ:=k0.lst [] (fun _ h=>h.elim)
    refine AF [(10,[9])] hZ ?_
    refine Ec (i:=2) (j:=9) rfl rfl ?_ ?_
    ·
     replace f0:=((f0.st a0).st b0).st k0
     replace g0:=((g0.st a0).st b0).st k0
     replace e0:=((e0.st a0).st b0).st k0
     refine AG (O:=dG) (A:=All gJ) (R:=fun w' F v=>Vb w' F v w1) (BC (fun _ h=>h) (Vb.mono (F:=Fr 0 gJ dG) (Vb.ofAgg (cs:=[(.int .i64 c0.jobs),(.slice l2 c0.write.length m2),(.slice n2 c0.read.length o2),(.int .i64 c0.phase),(.slice w0 c0.vars.length y0)]) (x:=c0) rfl ⟨_,_,_,rfl,f0,g0,e0,t7,j7⟩) Fr.lt) rk228 dD) rfl fun v414 hJ eG a1 cS=>?_
     obtain ⟨rfl,iJ⟩:=cS.int
     have hZ:=a1.lst [] (fun _ h=>h.elim)
     refine AF [(10,[9])] hZ ?_
     refine AM (fuel:=5) [] [(3,true)] rfl ?_
     refine CE rfl rfl rfl ?_
     refine Ay ?_
     refine Ec (i:=6) (j:=9) rfl rfl ?_ ?_
     ·
      replace f0:=f0.st a1
      replace g0:=g0.st a1
      replace e0:=e0.st a1
      refine AG (O:=eG) (A:=All hJ) (R:=fun w' F v=>Vb w' F v x1) (Bz (fun _ h=>h) (Vb.mono (F:=Fr 0 hJ eG) (Vb.ofAgg (cs:=[(.int .i64 c0.jobs),(.slice l2 c0.write.length m2),(.slice n2 c0.read.length o2),(.int .i64 c0.phase),(.slice w0 c0.vars.length y0)]) (x:=c0) rfl ⟨_,_,_,rfl,f0,g0,e0,t7,j7⟩) Fr.lt) rk228 fA) rfl fun v420 w416 dS f4 eS=>?_
      obtain ⟨rfl,fS⟩:=eS.int
      have hZ:=f4.lst [] (fun _ h=>h.elim)
      refine AF [(10,[9])] hZ ?_
      refine AM (fuel:=3) [9] [(7,true)] rfl ?_
      refine CE rfl rfl rfl ?_
      refine Ay ?_
      refine Ax (i:=9) rfl ?_
      refine AT 10 dS fun jJ w423 kJ g4 sB=>?_
      have hZ:=g4.lst [] (fun _ h=>h.elim)
      refine AF [(10,[9])] hZ ?_
      refine Ax (i:=10) rfl ?_
      replace e6:=((e6.st a1).st f4).st g4
      refine AD e6 rfl rfl rfl (AL) (allOne) fun gS h4 e6=>?_
      replace e6:Lc 9 gS kJ xC 78 [(.int .i64 w1),(.int .i64 0)]:=e6
      have hZ:=h4.lst [9] (fun _ h=>by cases h;decide)
      refine AF [] hZ ?_
      refine Ax (i:=11) rfl ?_
      replace sB:=sB.st h4
      refine AD sB rfl rfl rfl (AL) (allOne) fun hS o5 sB=>?_
      replace sB:Lc 10 hS kJ jJ 78 [(.int .i64 x1),(.int .i64 0)]:=sB
      refine BL ?_
      refine BG ?_
      obtain rfl:=sm g7
      exact ⟨(xC,jJ),_,⟨rfl,rfl,rfl,rfl,rfl,rfl,rfl,rfl,rfl,rfl,rfl,trivial⟩,(((((((hB.st a0).st b0).st k0).st a1).st f4).st g4).st h4).st o5,(((((((m1.st a0).st b0).st k0).st a1).st f4).st g4).st h4).st o5,(((((((h7.st a0).st b0).st k0).st a1).st f4).st g4).st h4).st o5,(((((((t1.st a0).st b0).st k0).st a1).st f4).st g4).st h4).st o5,(((((((e1.st a0).st b0).st k0).st a1).st f4).st g4).st h4).st o5,(((((((l1.st a0).st b0).st k0).st a1).st f4).st g4).st h4).st o5,(((((((v0.st a0).st b0).st k0).st a1).st f4).st g4).st h4).st o5,(((((d1.st k0).st a1).st f4).st g4).st h4).st o5,(((f0.st f4).st g4).st h4).st o5,(((g0.st f4).st g4).st h4).st o5,(((e0.st f4).st g4).st h4).st o5,(((((((h0.st a0).st b0).st k0).st a1).st f4).st g4).st h4).st o5,(((((((y1.st a0).st b0).st k0).st a1).st f4).st g4).st h4).st o5,(((((((c2.st a0).st b0).st k0).st a1).st f4).st g4).st h4).st o5,(((((((h2.st a0).st b0).st k0).st a1).st f4).st g4).st h4).st o5,(((((f2.st k0).st a1).st f4).st g4).st h4).st o5,(((((((d2.st a0).st b0).st k0).st a1).st f4).st g4).st h4).st o5,(((((((p3.st a0).st b0).st k0).st a1).st f4).st g4).st h4).st o5,(((((((u1.st a0).st b0).st k0).st a1).st f4).st g4).st h4).st o5,(((((((e2.st a0).st b0).st k0).st a1).st f4).st g4).st h4).st o5,(((((((v1.st a0).st b0).st k0).st a1).st f4).st g4).st h4).st o5,e6.st o5,sB,iJ,fS⟩
     refine AT 10 eG fun lJ mJ nJ i4 tB=>?_
     have hZ:=i4.lst [] (fun _ h=>h.elim)
     refine AF [(10,[9])] hZ ?_
     refine Ax (i:=6) rfl ?_
     replace f0:=(f0.st a1).st i4
     replace g0:=(g0.st a1).st i4
     replace e0:=(e0.st a1).st i4
     refine AG (O:=nJ) (A:=All mJ) (R:=fun w' F v=>Vb w' F v x1) (Bz (fun _ h=>h) (Vb.mono (F:=Fr 0 mJ nJ) (Vb.ofAgg (cs:=[(.int .i64 c0.jobs),(.slice l2 c0.write.length m2),(.slice n2 c0.read.length o2),(.int .i64 c0.phase),(.slice w0 c0.vars.length y0)]) (x:=c0) rfl ⟨_,_,_,rfl,f0,g0,e0,t7,j7⟩) Fr.lt) rk228 fA) rfl fun v440 w436 oJ v2 iS=>?_
     obtain ⟨rfl,jS⟩:=iS.int
     have hZ:=v2.lst [] (fun _ h=>h.elim)
     refine AF [(10,[9])] hZ ?_
     refine AM (fuel:=2) [9] [(7,true)] rfl ?_
     refine CE rfl rfl rfl ?_
     refine Ay ?_
     refine Ax (i:=10) rfl ?_
     replace e6:=((e6.st a1).st i4).st v2
     refine AD e6 rfl rfl rfl (AL) (allOne) fun kS j4 e6=>?_
     replace e6:Lc 9 kS oJ xC 78 [(.int .i64 w1),(.int .i64 0)]:=e6
     have hZ:=j4.lst [9] (fun _ h=>by cases h;decide)
     refine AF [] hZ ?_
     refine Ax (i:=11) rfl ?_
     replace tB:=(tB.st v2).st j4
     refine AD tB rfl rfl rfl (AL) (allOne) fun lS p5 tB=>?_
     replace tB:Lc 10 lS oJ lJ 78 [(.int .i64 x1),(.int .i64 0)]:=tB
     refine BL ?_
     refine BG ?_
     obtain rfl:=sm g7
     exact ⟨(xC,lJ),_,⟨rfl,rfl,rfl,rfl,rfl,rfl,rfl,rfl,rfl,rfl,rfl,trivial⟩,(((((((hB.st a0).st b0).st k0).st a1).st i4).st v2).st j4).st p5,(((((((m1.st a0).st b0).st k0).st a1).st i4).st v2).st j4).st p5,(((((((h7.st a0).st b0).st k0).st a1).st i4).st v2).st j4).st p5,(((((((t1.st a0).st b0).st k0).st a1).st i4).st v2).st j4).st p5,(((((((e1.st a0).st b0).st k0).st a1).st i4).st v2).st j4).st p5,(((((((l1.st a0).st b0).st k0).st a1).st i4).st v2).st j4).st p5,(((((((v0.st a0).st b0).st k0).st a1).st i4).st v2).st j4).st p5,(((((d1.st k0).st a1).st i4).st v2).st j4).st p5,((f0.st v2).st j4).st p5,((g0.st v2).st j4).st p5,((e0.st v2).st j4).st p5,(((((((h0.st a0).st b0).st k0).st a1).st i4).st v2).st j4).st p5,(((((((y1.st a0).st b0).st k0).st a1).st i4).st v2).st j4).st p5,(((((((c2.st a0).st b0).st k0).st a1).st i4).st v2).st j4).st p5,(((((((h2.st a0).st b0).st k0).st a1).st i4).st v2).st j4).st p5,(((((f2.st k0).st a1).st i4).st v2).st j4).st p5,(((((((d2.st a0).st b0).st k0).st a1).st i4).st v2).st j4).st p5,(((((((p3.st a0).st b0).st k0).st a1).st i4).st v2).st j4).st p5,(((((((u1.st a0).st b0).st k0).st a1).st i4).st v2).st j4).st p5,(((((((e2.st a0).st b0).st k0).st a1).st i4).st v2).st j4).st p5,(((((((v1.st a0).st b0).st k0).st a1).st i4).st v2).st j4).st p5,e6.st p5,tB,iJ,jS⟩
    refine AT 10 dG fun pJ qJ rJ k4 uB=>?_
    have hZ:=k4.lst [] (fun _ h=>h.elim)
    refine AF [(10,[9])] hZ ?_
    refine Ax (i:=2) rfl ?_
    replace f0:=(((f0.st a0).st b0).st k0).st k4
    replace g0:=(((g0.st a0).st b0).st k0).st k4
    replace e0:=(((e0.st a0).st b0).st k0).st k4
    refine AG (O:=rJ) (A:=All qJ) (R:=fun w' F v=>Vb w' F v w1) (BC (fun _ h=>h) (Vb.mono (F:=Fr 0 qJ rJ) (Vb.ofAgg (cs:=[(.int .i64 c0.jobs),(.slice l2 c0.write.length m2),(.slice n2 c0.read.length o2),(.int .i64 c0.phase),(.slice w0 c0.vars.length y0)]) (x:=c0) rfl ⟨_,_,_,rfl,f0,g0,e0,t7,j7⟩) Fr.lt) rk228 dD) rfl fun v455 sJ tJ w2 mS=>?_
    obtain ⟨rfl,nS⟩:=mS.int
    have hZ:=w2.lst [] (fun _ h=>h.elim)
    refine AF [(10,[9])] hZ ?_
    refine AM (fuel:=4) [] [(3,true)] rfl ?_
    refine CE rfl rfl rfl ?_
    refine Ay ?_
    refine Ax (i:=6) rfl ?_
    replace f0:=f0.st w2
    replace g0:=g0.st w2
    replace e0:=e0.st w2
    refine AG (O:=tJ) (A:=All sJ) (R:=fun w' F v=>Vb w' F v x1) (Bz (fun _ h=>h) (Vb.mono (F:=Fr 0 sJ tJ) (Vb.ofAgg (cs:=[(.int .i64 c0.jobs),(.slice l2 c0.write.length m2),(.slice n2 c0.read.length o2),(.int .i64 c0.phase),(.slice w0 c0.vars.length y0)]) (x:=c0) rfl ⟨_,_,_,rfl,f0,g0,e0,t7,j7⟩) Fr.lt) rk228 fA) rfl fun v461 w457 uJ x2 oS=>?_
    obtain ⟨rfl,pS⟩:=oS.int
    have hZ:=x2.lst [] (fun _ h=>h.elim)
    refine AF [(10,[9])] hZ ?_
    refine AM (fuel:=2) [9] [(7,true)] rfl ?_
    refine CE rfl rfl rfl ?_
    refine Ay ?_
    refine Ax (i:=10) rfl ?_
    replace e6:=((e6.st k4).st w2).st x2
    refine AD e6 rfl rfl rfl (AL) (allOne) fun qS l4 e6=>?_
    replace e6:Lc 9 qS uJ xC 78 [(.int .i64 w1),(.int .i64 0)]:=e6
    have hZ:=l4.lst [9] (fun _ h=>by cases h;decide)
    refine AF [] hZ ?_
    refine Ax (i:=11) rfl ?_
    replace uB:=((uB.st w2).st x2).st l4
    refine AD uB rfl rfl rfl (AL) (allOne) fun rS q5 uB=>?_
    replace uB:Lc 10 rS uJ pJ 78 [(.int .i64 x1),(.int .i64 0)]:=uB
    refine BL ?_
    refine BG ?_
    obtain rfl:=sm g7
    exact ⟨(xC,pJ),_,⟨rfl,rfl,rfl,rfl,rfl,rfl,rfl,rfl,rfl,rfl,rfl,trivial⟩,(((((((hB.st a0).st b0).st k0).st k4).st w2).st x2).st l4).st q5,(((((((m1.st a0).st b0).st k0).st k4).st w2).st x2).st l4).st q5,(((((((h7.st a0).st b0).st k0).st k4).st w2).st x2).st l4).st q5,(((((((t1.st a0).st b0).st k0).st k4).st w2).st x2).st l4).st q5,(((((((e1.st a0).st b0).st k0).st k4).st w2).st x2).st l4).st q5,(((((((l1.st a0).st b0).st k0).st k4).st w2).st x2).st l4).st q5,(((((((v0.st a0).st b0).st k0).st k4).st w2).st x2).st l4).st q5,(((((d1.st k0).st k4).st w2).st x2).st l4).st q5,((f0.st x2).st l4).st q5,((g0.st x2).st l4).st q5,((e0.st x2).st l4).st q5,(((((((h0.st a0).st b0).st k0).st k4).st w2).st x2).st l4).st q5,(((((((y1.st a0).st b0).st k0).st k4).st w2).st x2).st l4).st q5,(((((((c2.st a0).st b0).st k0).st k4).st w2).st x2).st l4).st q5,(((((((h2.st a0).st b0).st k0).st k4).st w2).st x2).st l4).st q5,(((((f2.st k0).st k4).st w2).st x2).st l4).st q5,(((((((d2.st a0).st b0).st k0).st k4).st w2).st x2).st l4).st q5,(((((((p3.st a0).st b0).st k0).st k4).st w2).st x2).st l4).st q5,(((((((u1.st a0).st b0).st k0).st k4).st w2).st x2).st l4).st q5,(((((((e2.st a0).st b0).st k0).st k4).st w2).st x2).st l4).st q5,(((((((v1.st a0).st b0).st k0).st k4).st w2).st x2).st l4).st q5,e6.st q5,uB,nS,pS⟩
   refine AT 10 vC fun yC vJ fG l0 f6=>?_
   have hZ:=l0.lst [] (fun _ h=>h.elim)
   refine AF [(10,[9])] hZ ?_
   refine Ec (i:=2) (j:=8) rfl rfl ?_ ?_
   ·
    replace f0:=((f0.st a0).st b0).st l0
    replace g0:=((g0.st a0).st b0).st l0
    replace e0:=((e0.st a0).st b0).st l0
    refine AG (O:=fG) (A:=All vJ) (R:=fun w' F v=>Vb w' F v w1) (BC (fun _ h=>h) (Vb.mono (F:=Fr 0 vJ fG) (Vb.ofAgg (cs:=[(.int .i64 c0.jobs),(.slice l2 c0.write.length m2),(.slice n2 c0.read.length o2),(.int .i64 c0.phase),(.slice w0 c0.vars.length y0)]) (x:=c0) rfl ⟨_,_,_,rfl,f0,g0,e0,t7,j7⟩) Fr.lt) rk228 dD) rfl fun v476 wJ gG b1 sS=>?_
    obtain ⟨rfl,xJ⟩:=sS.int
    have hZ:=b1.lst [] (fun _ h=>h.elim)
    refine AF [(10,[9])] hZ ?_
    refine AM (fuel:=5) [] [(3,true)] rfl ?_
    refine CE rfl rfl rfl ?_
    refine Ay ?_
    refine Ec (i:=6) (j:=8) rfl rfl ?_ ?_
    ·
     replace f0:=f0.st b1
     replace g0:=g0.st b1
     replace e0:=e0.st b1
     refine AG (O:=gG) (A:=All wJ) (R:=fun w' F v=>Vb w' F v x1) (Bz (fun _ h=>h) (Vb.mono (F:=Fr 0 wJ gG) (Vb.ofAgg (cs:=[(.int .i64 c0.jobs),(.slice l2 c0.write.length m2),(.slice n2 c0.read.length o2),(.int .i64 c0.phase),(.slice w0 c0.vars.length y0)]) (x:=c0) rfl ⟨_,_,_,rfl,f0,g0,e0,t7,j7⟩) Fr.lt) rk228 fA) rfl fun v482 w478 tS m4 uS=>?_
     obtain ⟨rfl,vS⟩:=uS.int
     have hZ:=m4.lst [] (fun _ h=>h.elim)
     refine AF [(10,[9])] hZ ?_
     refine AM (fuel:=3) [9] [(7,true)] rfl ?_
     refine CE rfl rfl rfl ?_
     refine Ay ?_
     refine Ax (i:=8) rfl ?_
     refine AT 9 tS fun yJ w485 zJ n4 gD=>?_
     have hZ:=n4.lst [] (fun _ h=>h.elim)
     refine AF [(10,[9])] hZ ?_
     refine Ax (i:=10) rfl ?_
     refine AD gD rfl rfl rfl (AL) (allOne) fun wS o4 gD=>?_
     replace gD:Lc 9 wS zJ yJ 78 [(.int .i64 w1),(.int .i64 0)]:=gD
     have hZ:=o4.lst [9] (fun _ h=>by cases h;decide)
     refine AF [] hZ ?_
     refine Ax (i:=11) rfl ?_
     replace f6:=(((f6.st b1).st m4).st n4).st o4
     refine AD f6 rfl rfl rfl (AL) (allOne) fun xS r5 f6=>?_
     replace f6:Lc 10 xS zJ yC 78 [(.int .i64 x1),(.int .i64 0)]:=f6
     refine BL ?_
     refine BG ?_
     obtain rfl:=sm g7
     exact ⟨(yJ,yC),_,⟨rfl,rfl,rfl,rfl,rfl,rfl,rfl,rfl,rfl,rfl,rfl,trivial⟩,(((((((hB.st a0).st b0).st l0).st b1).st m4).st n4).st o4).st r5,(((((((m1.st a0).st b0).st l0).st b1).st m4).st n4).st o4).st r5,(((((((h7.st a0).st b0).st l0).st b1).st m4).st n4).st o4).st r5,(((((((t1.st a0).st b0).st l0).st b1).st m4).st n4).st o4).st r5,(((((((e1.st a0).st b0).st l0).st b1).st m4).st n4).st o4).st r5,(((((((l1.st a0).st b0).st l0).st b1).st m4).st n4).st o4).st r5,(((((((v0.st a0).st b0).st l0).st b1).st m4).st n4).st o4).st r5,(((((d1.st l0).st b1).st m4).st n4).st o4).st r5,(((f0.st m4).st n4).st o4).st r5,(((g0.st m4).st n4).st o4).st r5,(((e0.st m4).st n4).st o4).st r5,(((((((h0.st a0).st b0).st l0).st b1).st m4).st n4).st o4).st r5,(((((((y1.st a0).st b0).st l0).st b1).st m4).st n4).st o4).st r5,(((((((c2.st a0).st b0).st l0).st b1).st m4).st n4).st o4).st r5,(((((((h2.st a0).st b0).st l0).st b1).st m4).st n4).st o4).st r5,(((((f2.st l0).st b1).st m4).st n4).st o4).st r5,(((((((d2.st a0).st b0).st l0).st b1).st m4).st n4).st o4).st r5,(((((((p3.st a0).st b0).st l0).st b1).st m4).st n4).st o4).st r5,(((((((u1.st a0).st b0).st l0).st b1).st m4).st n4).st o4).st r5,(((((((e2.st a0).st b0).st l0).st b1).st m4).st n4).st o4).st r5,(((((((v1.st a0).st b0).st l0).st b1).st m4).st n4).st o4).st r5,gD.st r5,f6,xJ,vS⟩
    refine AT 9 gG fun aK bK cK p4 vB=>?_
    have hZ:=p4.lst [] (fun _ h=>h.elim)
    refine AF [(10,[9])] hZ ?_
    refine Ax (i:=6) rfl ?_
    replace f0:=(f0.st b1).st p4
    replace g0:=(g0.st b1).st p4
    replace e0:=(e0.st b1).st p4
    refine AG (O:=cK) (A:=All bK) (R:=fun w' F v=>Vb w' F v x1) (Bz (fun _ h=>h) (Vb.mono (F:=Fr 0 bK cK) (Vb.ofAgg (cs:=[(.int .i64 c0.jobs),(.slice l2 c0.write.length m2),(.slice n2 c0.read.length o2),(.int .i64 c0.phase),(.slice w0 c0.vars.length y0)]) (x:=c0) rfl ⟨_,_,_,rfl,f0,g0,e0,t7,j7⟩) Fr.lt) rk228 fA) rfl fun v502 w498 dK y2 yS=>?_
    obtain ⟨rfl,zS⟩:=yS.int
    have hZ:=y2.lst [] (fun _ h=>h.elim)
    refine AF [(10,[9])] hZ ?_
    refine AM (fuel:=2) [9] [(7,true)] rfl ?_
    refine CE rfl rfl rfl ?_
    refine Ay ?_
    refine Ax (i:=10) rfl ?_
    replace vB:=vB.st y2
    refine AD vB rfl rfl rfl (AL) (allOne) fun aT q4 vB=>?_
    replace vB:Lc 9 aT dK aK 78 [(.int .i64 w1),(.int .i64 0)]:=vB
    have hZ:=q4.lst [9] (fun _ h=>by cases h;decide)
    refine AF [] hZ ?_
    refine Ax (i:=11) rfl ?_
    replace f6:=(((f6.st b1).st p4).st y2).st q4
    refine AD f6 rfl rfl rfl (AL) (allOne) fun bT s5 f6=>?_
    replace f6:Lc 10 bT dK yC 78 [(.int .i64 x1),(.int .i64 0)]:=f6
    refine BL ?_
    refine BG ?_
    obtain rfl:=sm g7
    exact ⟨(aK,yC),_,⟨rfl,rfl,rfl,rfl,rfl,rfl,rfl,rfl,rfl,rfl,rfl,trivial⟩,(((((((hB.st a0).st b0).st l0).st b1).st p4).st y2).st q4).st s5,(((((((m1.st a0).st b0).st l0).st b1).st p4).st y2).st q4).st s5,(((((((h7.st a0).st b0).st l0).st b1).st p4).st y2).st q4).st s5,(((((((t1.st a0).st b0).st l0).st b1).st p4).st y2).st q4).st s5,(((((((e1.st a0).st b0).st l0).st b1).st p4).st y2).st q4).st s5,(((((((l1.st a0).st b0).st l0).st b1).st p4).st y2).st q4).st s5,(((((((v0.st a0).st b0).st l0).st b1).st p4).st y2).st q4).st s5,(((((d1.st l0).st b1).st p4).st y2).st q4).st s5,((f0.st y2).st q4).st s5,((g0.st y2).st q4).st s5,((e0.st y2).st q4).st s5,(((((((h0.st a0).st b0).st l0).st b1).st p4).st y2).st q4).st s5,(((((((y1.st a0).st b0).st l0).st b1).st p4).st y2).st q4).st s5,(((((((c2.st a0).st b0).st l0).st b1).st p4).st y2).st q4).st s5,(((((((h2.st a0).st b0).st l0).st b1).st p4).st y2).st q4).st s5,(((((f2.st l0).st b1).st p4).st y2).st q4).st s5,(((((((d2.st a0).st b0).st l0).st b1).st p4).st y2).st q4).st s5,(((((((p3.st a0).st b0).st l0).st b1).st p4).st y2).st q4).st s5,(((((((u1.st a0).st b0).st l0).st b1).st p4).st y2).st q4).st s5,(((((((e2.st a0).st b0).st l0).st b1).st p4).st y2).st q4).st s5,(((((((v1.st a0).st b0).st l0).st b1).st p4).st y2).st q4).st s5,vB.st s5,f6,xJ,zS⟩
   refine AT 9 fG fun eK fK gK r4 wB=>?_
   have hZ:=r4.lst [] (fun _ h=>h.elim)
   refine AF [(10,[9])] hZ ?_
   refine Ax (i:=2) rfl ?_
   replace f0:=(((f0.st a0).st b0).st l0).st r4
   replace g0:=(((g0.st a0).st b0).st l0).st r4
   replace e0:=(((e0.st a0).st b0).st l0).st r4
   refine AG (O:=gK) (A:=All fK) (R:=fun w' F v=>Vb w' F v w1) (BC (fun _ h=>h) (Vb.mono (F:=Fr 0 fK gK) (Vb.ofAgg (cs:=[(.int .i64 c0.jobs),(.slice l2 c0.write.length m2),(.slice n2 c0.read.length o2),(.int .i64 c0.phase),(.slice w0 c0.vars.length y0)]) (x:=c0) rfl ⟨_,_,_,rfl,f0,g0,e0,t7,j7⟩) Fr.lt) rk228 dD) rfl fun v517 hK iK z2 cT=>?_
   obtain ⟨rfl,dT⟩:=cT.int
   have hZ:=z2.lst [] (fun _ h=>h.elim)
   refine AF [(10,[9])] hZ ?_
   refine AM (fuel:=4) [] [(3,true)] rfl ?_
   refine CE rfl rfl rfl ?_
   refine Ay ?_
   refine Ax (i:=6) rfl ?_
   replace f0:=f0.st z2
   replace g0:=g0.st z2
   replace e0:=e0.st z2
   refine AG (O:=iK) (A:=All hK) (R:=fun w' F v=>Vb w' F v x1) (Bz (fun _ h=>h) (Vb.mono (F:=Fr 0 hK iK) (Vb.ofAgg (cs:=[(.int .i64 c0.jobs),(.slice l2 c0.write.length m2),(.slice n2 c0.read.length o2),(.int .i64 c0.phase),(.slice w0 c0.vars.length y0)]) (x:=c0) rfl ⟨_,_,_,rfl,f0,g0,e0,t7,j7⟩) Fr.lt) rk228 fA) rfl fun v523 w519 jK a3 eT=>?_
   obtain ⟨rfl,fT⟩:=eT.int
   have hZ:=a3.lst [] (fun _ h=>h.elim)
   refine AF [(10,[9])] hZ ?_
   refine AM (fuel:=2) [9] [(7,true)] rfl ?_
   refine CE rfl rfl rfl ?_
   refine Ay ?_
   refine Ax (i:=10) rfl ?_
   replace wB:=(wB.st z2).st a3
   refine AD wB rfl rfl rfl (AL) (allOne) fun gT s4 wB=>?_
   replace wB:Lc 9 gT jK eK 78 [(.int .i64 w1),(.int .i64 0)]:=wB
   have hZ:=s4.lst [9] (fun _ h=>by cases h;decide)
   refine AF [] hZ ?_
   refine Ax (i:=11) rfl ?_
   replace f6:=(((f6.st r4).st z2).st a3).st s4
   refine AD f6 rfl rfl rfl (AL) (allOne) fun hT t5 f6=>?_
   replace f6:Lc 10 hT jK yC 78 [(.int .i64 x1),(.int .i64 0)]:=f6
   refine BL ?_
   refine BG ?_
   obtain rfl:=sm g7
   exact ⟨(eK,yC),_,⟨rfl,rfl,rfl,rfl,rfl,rfl,rfl,rfl,rfl,rfl,rfl,trivial⟩,(((((((hB.st a0).st b0).st l0).st r4).st z2).st a3).st s4).st t5,(((((((m1.st a0).st b0).st l0).st r4).st z2).st a3).st s4).st t5,(((((((h7.st a0).st b0).st l0).st r4).st z2).st a3).st s4).st t5,(((((((t1.st a0).st b0).st l0).st r4).st z2).st a3).st s4).st t5,(((((((e1.st a0).st b0).st l0).st r4).st z2).st a3).st s4).st t5,(((((((l1.st a0).st b0).st l0).st r4).st z2).st a3).st s4).st t5,(((((((v0.st a0).st b0).st l0).st r4).st z2).st a3).st s4).st t5,(((((d1.st l0).st r4).st z2).st a3).st s4).st t5,((f0.st a3).st s4).st t5,((g0.st a3).st s4).st t5,((e0.st a3).st s4).st t5,(((((((h0.st a0).st b0).st l0).st r4).st z2).st a3).st s4).st t5,(((((((y1.st a0).st b0).st l0).st r4).st z2).st a3).st s4).st t5,(((((((c2.st a0).st b0).st l0).st r4).st z2).st a3).st s4).st t5,(((((((h2.st a0).st b0).st l0).st r4).st z2).st a3).st s4).st t5,(((((f2.st l0).st r4).st z2).st a3).st s4).st t5,(((((((d2.st a0).st b0).st l0).st r4).st z2).st a3).st s4).st t5,(((((((p3.st a0).st b0).st l0).st r4).st z2).st a3).st s4).st t5,(((((((u1.st a0).st b0).st l0).st r4).st z2).st a3).st s4).st t5,(((((((e2.st a0).st b0).st l0).st r4).st z2).st a3).st s4).st t5,(((((((v1.st a0).st b0).st l0).st r4).st z2).st a3).st s4).st t5,wB.st t5,f6,dT,fT⟩
  replace hB:=(hB.st a0).st b0
  replace h7:=(h7.st a0).st b0
  replace t1:=(t1.st a0).st b0
  replace e1:=(e1.st a0).st b0
  replace l1:=(l1.st a0).st b0
  replace m1:=(m1.st a0).st b0
  replace v0:=(v0.st a0).st b0
  replace f0:=(f0.st a0).st b0
  replace g0:=(g0.st a0).st b0
  replace e0:=(e0.st a0).st b0
  replace d1:=(d1.st a0).st b0
  replace h0:=(h0.st a0).st b0
  replace y1:=(y1.st a0).st b0
  replace c2:=(c2.st a0).st b0
  replace h2:=(h2.st a0).st b0
  replace d2:=(d2.st a0).st b0
  replace p3:=(p3.st a0).st b0
  replace u1:=(u1.st a0).st b0
  replace e2:=(e2.st a0).st b0
  replace v1:=(v1.st a0).st b0
  rintro l529 kK ⟨gA,iE,lK,hB,m1,h7,t1,e1,l1,v0,d1,f0,g0,e0,h0,y1,c2,h2,f2,d2,p3,u1,e2,v1,u8,iT,jE,hG⟩
  refine AE _ lK ?_
  refine Ab ?_
  obtain ⟨n533,kE,m0⟩:=bs m0
  obtain ⟨iA,mK,m0⟩:=bs m0
  obtain ⟨g6,iG,m0⟩:=bs m0
  obtain ⟨jG,sA,m0⟩:=bs m0
  obtain ⟨zC,hD,m0⟩:=bs m0
  refine Au (fun l' w'=>∃ (tA:(Option Addr×Nat)) (O':Lab),subs l' [(1,(.pointer (some ⟨cA,0,none⟩))),(2,(.pointer (some ⟨z8,0,none⟩))),(5,(.pointer (some ⟨dA,0,none⟩))),(6,(.pointer (some ⟨j0.1,0,none⟩))),(7,(.int .i64 (vA:Int))),(8,(.pointer (some ⟨lB,0,none⟩))),(9,(.pointer (some ⟨gA.1,0,none⟩))),(40,(.slice u7 x0.jobs.length v7)),(41,(.int .i64 (x0.jobs.length:Int))),(42,(.int .i64 (vA:Int)))]∧Bs w A w' O'∧Lc 2 w' O' cA 26 [(.slice A8 x0.vars.length c9),(.slice x9 x0.init.length y9),(.slice z9 x0.goal.length aA),(.slice u7 x0.jobs.length v7)]∧Vb w' (Fr 0 w' O') (.slice A8 x0.vars.length c9) x0.vars∧Vb w' (Fr 0 w' O') (.slice x9 x0.init.length y9) x0.init∧Vb w' (Fr 0 w' O') (.slice z9 x0.goal.length aA) x0.goal∧Vb w' (Fr 0 w' O') (.slice u7 x0.jobs.length v7) x0.jobs∧Lc 3 w' O' z8 31 [(.slice none 0 0),(.slice none 0 0),(.slice none 0 0),(.slice none 0 0)]∧Lc 4 w' O' dA 74 [(.int .i64 c0.jobs),(.slice l2 c0.write.length m2),(.slice n2 c0.read.length o2),(.int .i64 c0.phase),(.slice w0 c0.vars.length y0)]∧Vb w' (Fr 0 w' O') (.slice l2 c0.write.length m2) c0.write∧Vb w' (Fr 0 w' O') (.slice n2 c0.read.length o2) c0.read∧Vb w' (Fr 0 w' O') (.slice w0 c0.vars.length y0) c0.vars∧Lc 7 w' O' j0.1 31 [(.slice w0 c0.vars.length y0),(.slice j0.2.1.1 p2.1.length j0.2.1.2),(.slice o0.1.1 n1.1.length o0.1.2),(.slice tA.1 zC.length tA.2)]∧Rw 5 w' O' 3 (.slice j0.2.1.1 p2.1.length j0.2.1.2) (cpyL p2.1 x0.init)∧Rw 6 w' O' 78 (.slice o0.1.1 n1.1.length o0.1.2) n1.1∧Rw 14 w' O' 82 (.slice tA.1 zC.length tA.2) zC∧Lc 8 w' O' lB 66 [(.string i0.name),(.int .i64 i0.dur),(.slice aB i0.start.length bB),(.slice cB i0.over.length dB),(.slice eB i0.fin.length fB),(.slice gB i0.atStart.length iB),(.slice jB i0.atEnd.length kB)]∧Vb w' (Fr 0 w' O') (.slice aB i0.start.length bB) i0.start∧Vb w' (Fr 0 w' O') (.slice cB i0.over.length dB) i0.over∧Vb w' (Fr 0 w' O') (.slice eB i0.fin.length fB) i0.fin∧Vb w' (Fr 0 w' O') (.slice gB i0.atStart.length iB) i0.atStart∧Vb w' (Fr 0 w' O') (.slice jB i0.atEnd.length kB) i0.atEnd∧Lc 9 w' O' gA.1 78 [(.int .i64 w1),(.int .i64 0)]) ?_ ?_
  ·
   refine BP [(20,[11,12]),(22,[14])] iE ?_
   refine AM (fuel:=11) [] [(2,true),(3,true),(4,true),(5,true),(6,true),(7,true),(8,true),(9,true),(10,true),(11,true),(13,true),(14,true),(16,true),(17,true)] rfl ?_
   refine CN (hl:=rfl) (hb:=fun w' ⟨O',hq⟩=>((d1.st hq (by decide)).1).cellsAt) rfl rfl ?_
   refine Bo rfl rfl (BK (hc:=fun w' ⟨O',hq⟩=>Blk.cell (i:=0) ((f2.st hq (by decide)).1) rfl) rfl rfl ?_)
   refine Lw (he:=kE) rfl rfl rfl rfl ?_
   refine Bo rfl rfl (BK (hc:=fun w' ⟨O',hq⟩=>Blk.cell (i:=2) ((f2.st hq (by decide)).1) rfl) rfl rfl ?_)
   refine Bo rfl rfl (BK (hc:=fun w' ⟨O',hq⟩=>Blk.cell (i:=5) ((f2.st hq (by decide)).1) rfl) rfl rfl ?_)
   refine CN (hl:=rfl) (hb:=fun w' ⟨O',hq⟩=>((u8.st hq (by decide)).1).cellsAt) rfl rfl ?_
   refine CN (hl:=rfl) (hb:=fun w' ⟨O',hq⟩=>((iT.st hq (by decide)).1).cellsAt) rfl rfl ?_
   refine CN (hl:=rfl) (hb:=fun w' ⟨O',hq⟩=>((d1.st hq (by decide)).1).cellsAt) rfl rfl ?_
   refine Bp rfl rfl (Bo rfl rfl (BK (hc:=fun w' ⟨O',hq⟩=>Blk.cell (i:=1) ((f2.st hq (by decide)).1) rfl) rfl rfl ?_))
   refine Ay ?_
   refine AM (fuel:=9) [11,12] [(0,true),(1,true)] rfl ?_
   refine Bo rfl rfl (BK (hc:=fun w' ⟨O',hq⟩=>Blk.cell (i:=3) ((h0.st hq (by decide)).1) rfl) rfl rfl ?_)
   refine Ay ?_
   refine Ec (i:=12) (j:=15) rfl rfl ?_ ?_
   ·
    refine AN 11 (by decide) iE (xs:=([(⟨w1,0⟩:Fct),(⟨x1,0⟩:Fct)]:List Fct)) rfl rfl rfl ⟨(Vb.ofAgg (cs:=[(.int .i64 w1),(.int .i64 0)]) (x:=(⟨w1,0⟩:Fct)) rfl ⟨rfl,jE,(show inI64 0 from by decide)⟩),(Vb.ofAgg (cs:=[(.int .i64 x1),(.int .i64 0)]) (x:=(⟨x1,0⟩:Fct)) rfl ⟨rfl,hG,(show inI64 0 from by decide)⟩),trivial⟩ (by decide) (by decide) rfl fun g547 nK oK t4 xB=>?_
    have hZ:=t4.lst [] (fun _ h=>h.elim)
    refine AF [(20,[11,12]),(22,[14])] hZ ?_
    refine Ax (i:=15) rfl ?_
    replace f0:=f0.st t4
    replace g0:=g0.st t4
    replace e0:=e0.st t4
    refine AG (O:=oK) (A:=All nK) (R:=fun w' F v=>Vb w' F v iA) (BC (fun _ h=>h) (Vb.mono (F:=Fr 0 nK oK) (Vb.ofAgg (cs:=[(.int .i64 c0.jobs),(.slice l2 c0.write.length m2),(.slice n2 c0.read.length o2),(.int .i64 c0.phase),(.slice w0 c0.vars.length y0)]) (x:=c0) rfl ⟨_,_,_,rfl,f0,g0,e0,t7,j7⟩) Fr.lt) rk228 mK) rfl fun v557 w553 jT b3 kT=>?_
    obtain ⟨rfl,lT⟩:=kT.int
    have hZ:=b3.lst [] (fun _ h=>h.elim)
    refine AF [(20,[11,12]),(22,[14])] hZ ?_
    refine AM (fuel:=6) [] [(18,true)] rfl ?_
    refine CE rfl rfl rfl ?_
    refine Ay ?_
    refine Ax (i:=19) rfl ?_
    refine AN 12 (by decide) jT (xs:=([(⟨([]:List Fct),iA,i0.dur⟩:Eff)]:List Eff)) rfl rfl rfl ⟨(Vb.ofAgg (cs:=[(.slice none 0 0),(.int .i64 iA),(.int .i64 i0.dur)]) (x:=(⟨([]:List Fct),iA,i0.dur⟩:Eff)) rfl ⟨_,rfl,(Vb.nil _ _),lT,zF⟩),trivial⟩ (by decide) (by decide) rfl fun g559 w560 O561 c3 iD=>?_
    have hZ:=c3.lst [] (fun _ h=>h.elim)
    refine AF [(20,[11,12]),(22,[14])] hZ ?_
    refine Ax (i:=20) rfl ?_
    replace xB:=(xB.st b3).st c3
    obtain ⟨O565,d3,xB⟩:=xB.freeze
    have hZ:=d3.lst [11] (fun _ h=>by cases h;decide)
    replace iD:=iD.st d3
    obtain ⟨mT,e3,iD⟩:=iD.freeze
    replace hZ:=hZ.cmp e3 [11,12] (fun _ h=>by cases h;decide) rfl
    replace f0:=(((f0.st b3).st c3).st d3).st e3
    replace g0:=(((g0.st b3).st c3).st d3).st e3
    replace e0:=(((e0.st b3).st c3).st d3).st e3
    replace d2:=((((d2.st t4).st b3).st c3).st d3).st e3
    replace e2:=((((e2.st t4).st b3).st c3).st d3).st e3
    replace xB:=xB.st e3
    refine BU (O:=mT) (R:=fun w' F v=>Vb w' F v g6) (Cx Fr.lt (Vb.ofAgg (cs:=[(.int .i64 c0.jobs),(.slice l2 c0.write.length m2),(.slice n2 c0.read.length o2),(.int .i64 c0.phase),(.slice w0 c0.vars.length y0)]) (x:=c0) rfl ⟨_,_,_,rfl,f0,g0,e0,t7,j7⟩) (Hm kE) d2 e2 xB iD iG) rfl fun v573 w569 nT u4 oT=>?_
    obtain ⟨tY,rfl,v575,v576,rfl,pK,qK,pT,qT⟩:=oT
    obtain ⟨rT,sT,rfl⟩:=pK.form
    obtain ⟨tT,uT,rfl⟩:=qK.form
    replace hZ:=hZ.cmp u4 [11,12] (fun _ h=>h.elim) rfl
    refine AF [(22,[14])] hZ ?_
    refine Ax (i:=21) rfl ?_
    refine AN 13 (by decide) nT (xs:=([g6]:List Opr)) rfl rfl rfl ⟨(Vb.ofAgg (cs:=[(.string g6.name),(.int .i64 g6.cost),(.slice rT g6.pre.length sT),(.slice tT g6.effs.length uT)]) (x:=g6) rfl ⟨_,_,rfl,pK,qK,pT,qT⟩),trivial⟩ (by decide) (by decide) rfl fun g585 w586 O587 w4 vT=>?_
    have hZ:=w4.lst [] (fun _ h=>h.elim)
    refine AF [(22,[14])] hZ ?_
    refine Ax (i:=22) rfl ?_
    obtain ⟨sA,wT,xT⟩:=AO sA
    replace h2:=((((((h2.st t4).st b3).st c3).st d3).st e3).st u4).st w4
    refine BE rfl h2 (vT.rd) rfl rfl (by decide) wT xT rfl fun rK sK w595 yT u5 tK=>?_
    rw [← sA] at tK ⊢
    have hZ:=u5.lst [14] (fun _ h=>by cases h;decide)
    refine AF [] hZ ?_
    refine AM (fuel:=1) [] [(23,true)] rfl ?_
    refine Bo rfl rfl (Ay ?_)
    refine Ax (i:=24) rfl ?_
    replace h0:=(((((((h0.st t4).st b3).st c3).st d3).st e3).st u4).st w4).st u5
    refine AD h0 rfl rfl rfl (AL) (allOne) fun zT h6 h0=>?_
    replace h0:Lc 7 zT yT j0.1 31 [(.slice w0 c0.vars.length y0),(.slice j0.2.1.1 p2.1.length j0.2.1.2),(.slice o0.1.1 n1.1.length o0.1.2),(.slice rK jG.length sK)]:=h0
    refine BL ?_
    refine BG ?_
    obtain rfl:=sm hD
    exact ⟨(rK,sK),_,⟨rfl,rfl,rfl,rfl,rfl,rfl,rfl,rfl,rfl,rfl,trivial⟩,((((((((hB.st t4).st b3).st c3).st d3).st e3).st u4).st w4).st u5).st h6,((((((((m1.st t4).st b3).st c3).st d3).st e3).st u4).st w4).st u5).st h6,((((((((h7.st t4).st b3).st c3).st d3).st e3).st u4).st w4).st u5).st h6,((((((((t1.st t4).st b3).st c3).st d3).st e3).st u4).st w4).st u5).st h6,((((((((e1.st t4).st b3).st c3).st d3).st e3).st u4).st w4).st u5).st h6,((((((((l1.st t4).st b3).st c3).st d3).st e3).st u4).st w4).st u5).st h6,((((((((v0.st t4).st b3).st c3).st d3).st e3).st u4).st w4).st u5).st h6,((((((((d1.st t4).st b3).st c3).st d3).st e3).st u4).st w4).st u5).st h6,(((f0.st u4).st w4).st u5).st h6,(((g0.st u4).st w4).st u5).st h6,(((e0.st u4).st w4).st u5).st h6,h0,((((((((y1.st t4).st b3).st c3).st d3).st e3).st u4).st w4).st u5).st h6,((((((((c2.st t4).st b3).st c3).st d3).st e3).st u4).st w4).st u5).st h6,tK.st h6,((((((((f2.st t4).st b3).st c3).st d3).st e3).st u4).st w4).st u5).st h6,(((d2.st u4).st w4).st u5).st h6,((((((((p3.st t4).st b3).st c3).st d3).st e3).st u4).st w4).st u5).st h6,((((((((u1.st t4).st b3).st c3).st d3).st e3).st u4).st w4).st u5).st h6,(((e2.st u4).st w4).st u5).st h6,((((((((v1.st t4).st b3).st c3).st d3).st e3).st u4).st w4).st u5).st h6,((((((((u8.st t4).st b3).st c3).st d3).st e3).st u4).st w4).st u5).st h6⟩
   refine AG (O:=iE) (A:=All kK) (R:=fun w' F v=>Vb w' F v iA) (BC (fun _ h=>h) (Vb.mono (F:=Fr 0 kK iE) (Vb.ofAgg (cs:=[(.int .i64 c0.jobs),(.slice l2 c0.write.length m2),(.slice n2 c0.read.length o2),(.int .i64 c0.phase),(.slice w0 c0.vars.length y0)]) (x:=c0) rfl ⟨_,_,_,rfl,f0,g0,e0,t7,j7⟩) Fr.lt) rk228 mK) rfl fun v606 w602 uK c1 aU=>?_
   obtain ⟨rfl,vK⟩:=aU.int
   have hZ:=c1.lst [] (fun _ h=>h.elim)
   refine AF [(20,[11,12]),(22,[14])] hZ ?_
   refine AM (fuel:=7) [] [(18,true)] rfl ?_
   refine CE rfl rfl rfl ?_
   refine Ay ?_
   refine Ec (i:=12) (j:=19) rfl rfl ?_ ?_
   ·
    refine AN 11 (by decide) uK (xs:=([(⟨w1,0⟩:Fct),(⟨x1,0⟩:Fct)]:List Fct)) rfl rfl rfl ⟨(Vb.ofAgg (cs:=[(.int .i64 w1),(.int .i64 0)]) (x:=(⟨w1,0⟩:Fct)) rfl ⟨rfl,jE,(show inI64 0 from by decide)⟩),(Vb.ofAgg (cs:=[(.int .i64 x1),(.int .i64 0)]) (x:=(⟨x1,0⟩:Fct)) rfl ⟨rfl,hG,(show inI64 0 from by decide)⟩),trivial⟩ (by decide) (by decide) rfl fun g608 w609 bU x4 yB=>?_
    have hZ:=x4.lst [] (fun _ h=>h.elim)
    refine AF [(20,[11,12]),(22,[14])] hZ ?_
    refine Ax (i:=19) rfl ?_
    refine AN 12 (by decide) bU (xs:=([(⟨([]:List Fct),iA,i0.dur⟩:Eff)]:List Eff)) rfl rfl rfl ⟨(Vb.ofAgg (cs:=[(.slice none 0 0),(.int .i64 iA),(.int .i64 i0.dur)]) (x:=(⟨([]:List Fct),iA,i0.dur⟩:Eff)) rfl ⟨_,rfl,(Vb.nil _ _),vK,zF⟩),trivial⟩ (by decide) (by decide) rfl fun g614 w615 O616 f3 jD=>?_
    have hZ:=f3.lst [] (fun _ h=>h.elim)
    refine AF [(20,[11,12]),(22,[14])] hZ ?_
    refine Ax (i:=20) rfl ?_
    replace yB:=yB.st f3
    obtain ⟨O620,g3,yB⟩:=yB.freeze
    have hZ:=g3.lst [11] (fun _ h=>by cases h;decide)
    replace jD:=jD.st g3
    obtain ⟨cU,h3,jD⟩:=jD.freeze
    replace hZ:=hZ.cmp h3 [11,12] (fun _ h=>by cases h;decide) rfl
    replace f0:=((((f0.st c1).st x4).st f3).st g3).st h3
    replace g0:=((((g0.st c1).st x4).st f3).st g3).st h3
    replace e0:=((((e0.st c1).st x4).st f3).st g3).st h3
    replace d2:=((((d2.st c1).st x4).st f3).st g3).st h3
    replace e2:=((((e2.st c1).st x4).st f3).st g3).st h3
    replace yB:=yB.st h3
    refine BU (O:=cU) (R:=fun w' F v=>Vb w' F v g6) (Cx Fr.lt (Vb.ofAgg (cs:=[(.int .i64 c0.jobs),(.slice l2 c0.write.length m2),(.slice n2 c0.read.length o2),(.int .i64 c0.phase),(.slice w0 c0.vars.length y0)]) (x:=c0) rfl ⟨_,_,_,rfl,f0,g0,e0,t7,j7⟩) (Hm kE) d2 e2 yB jD iG) rfl fun v628 w624 dU y4 eU=>?_
    obtain ⟨uY,rfl,v630,v631,rfl,wK,xK,fU,gU⟩:=eU
    obtain ⟨hU,iU,rfl⟩:=wK.form
    obtain ⟨jU,kU,rfl⟩:=xK.form
    replace hZ:=hZ.cmp y4 [11,12] (fun _ h=>h.elim) rfl
    refine AF [(22,[14])] hZ ?_
    refine Ax (i:=21) rfl ?_
    refine AN 13 (by decide) dU (xs:=([g6]:List Opr)) rfl rfl rfl ⟨(Vb.ofAgg (cs:=[(.string g6.name),(.int .i64 g6.cost),(.slice hU g6.pre.length iU),(.slice jU g6.effs.length kU)]) (x:=g6) rfl ⟨_,_,rfl,wK,xK,fU,gU⟩),trivial⟩ (by decide) (by decide) rfl fun g640 w641 O642 z4 lU=>?_
    have hZ:=z4.lst [] (fun _ h=>h.elim)
    refine AF [(22,[14])] hZ ?_
    refine Ax (i:=22) rfl ?_
    obtain ⟨sA,mU,nU⟩:=AO sA
    replace h2:=((((((h2.st c1).st x4).st f3).st g3).st h3).st y4).st z4
    refine BE rfl h2 (lU.rd) rfl rfl (by decide) mU nU rfl fun yK zK w650 oU w5 aL=>?_
    rw [← sA] at aL ⊢
    have hZ:=w5.lst [14] (fun _ h=>by cases h;decide)
    refine AF [] hZ ?_
    refine AM (fuel:=1) [] [(23,true)] rfl ?_
    refine Bo rfl rfl (Ay ?_)
    refine Ax (i:=24) rfl ?_
    replace h0:=(((((((h0.st c1).st x4).st f3).st g3).st h3).st y4).st z4).st w5
    refine AD h0 rfl rfl rfl (AL) (allOne) fun pU i6 h0=>?_
    replace h0:Lc 7 pU oU j0.1 31 [(.slice w0 c0.vars.length y0),(.slice j0.2.1.1 p2.1.length j0.2.1.2),(.slice o0.1.1 n1.1.length o0.1.2),(.slice yK jG.length zK)]:=h0
    refine BL ?_
    refine BG ?_
    obtain rfl:=sm hD
    exact ⟨(yK,zK),_,⟨rfl,rfl,rfl,rfl,rfl,rfl,rfl,rfl,rfl,rfl,trivial⟩,((((((((hB.st c1).st x4).st f3).st g3).st h3).st y4).st z4).st w5).st i6,((((((((m1.st c1).st x4).st f3).st g3).st h3).st y4).st z4).st w5).st i6,((((((((h7.st c1).st x4).st f3).st g3).st h3).st y4).st z4).st w5).st i6,((((((((t1.st c1).st x4).st f3).st g3).st h3).st y4).st z4).st w5).st i6,((((((((e1.st c1).st x4).st f3).st g3).st h3).st y4).st z4).st w5).st i6,((((((((l1.st c1).st x4).st f3).st g3).st h3).st y4).st z4).st w5).st i6,((((((((v0.st c1).st x4).st f3).st g3).st h3).st y4).st z4).st w5).st i6,((((((((d1.st c1).st x4).st f3).st g3).st h3).st y4).st z4).st w5).st i6,(((f0.st y4).st z4).st w5).st i6,(((g0.st y4).st z4).st w5).st i6,(((e0.st y4).st z4).st w5).st i6,h0,((((((((y1.st c1).st x4).st f3).st g3).st h3).st y4).st z4).st w5).st i6,((((((((c2.st c1).st x4).st f3).st g3).st h3).st y4).st z4).st w5).st i6,aL.st i6,((((((((f2.st c1).st x4).st f3).st g3).st h3).st y4).st z4).st w5).st i6,(((d2.st y4).st z4).st w5).st i6,((((((((p3.st c1).st x4).st f3).st g3).st h3).st y4).st z4).st w5).st i6,((((((((u1.st c1).st x4).st f3).st g3).st h3).st y4).st z4).st w5).st i6,(((e2.st y4).st z4).st w5).st i6,((((((((v1.st c1).st x4).st f3).st g3).st h3).st y4).st z4).st w5).st i6,((((((((u8.st c1).st x4).st f3).st g3).st h3).st y4).st z4).st w5).st i6⟩
   refine AN 12 (by decide) uK (xs:=([(⟨([]:List Fct),iA,i0.dur⟩:Eff)]:List Eff)) rfl rfl rfl ⟨(Vb.ofAgg (cs:=[(.slice none 0 0),(.int .i64 iA),(.int .i64 i0.dur)]) (x:=(⟨([]:List Fct),iA,i0.dur⟩:Eff)) rfl ⟨_,rfl,(Vb.nil _ _),vK,zF⟩),trivial⟩ (by decide) (by decide) rfl fun g657 w658 qU a5 kD=>?_
   have hZ:=a5.lst [] (fun _ h=>h.elim)
   refine AF [(20,[11,12]),(22,[14])] hZ ?_
   refine Ax (i:=12) rfl ?_
   refine AN 11 (by decide) qU (xs:=([(⟨w1,0⟩:Fct),(⟨x1,0⟩:Fct)]:List Fct)) rfl rfl rfl ⟨(Vb.ofAgg (cs:=[(.int .i64 w1),(.int .i64 0)]) (x:=(⟨w1,0⟩:Fct)) rfl ⟨rfl,jE,(show inI64 0 from by decide)⟩),(Vb.ofAgg (cs:=[(.int .i64 x1),(.int .i64 0)]) (x:=(⟨x1,0⟩:Fct)) rfl ⟨rfl,hG,(show inI64 0 from by decide)⟩),trivial⟩ (by decide) (by decide) rfl fun g663 w664 O665 i3 lD=>?_
   have hZ:=i3.lst [] (fun _ h=>h.elim)
   refine AF [(20,[11,12]),(22,[14])] hZ ?_
   refine Ax (i:=20) rfl ?_
   obtain ⟨O669,j3,lD⟩:=lD.freeze
   have hZ:=j3.lst [11] (fun _ h=>by cases h;decide)
   replace kD:=(kD.st i3).st j3
   obtain ⟨rU,k3,kD⟩:=kD.freeze
   replace hZ:=hZ.cmp k3 [11,12] (fun _ h=>by cases h;decide) rfl
   replace f0:=((((f0.st c1).st a5).st i3).st j3).st k3
   replace g0:=((((g0.st c1).st a5).st i3).st j3).st k3
   replace e0:=((((e0.st c1).st a5).st i3).st j3).st k3
   replace d2:=((((d2.st c1).st a5).st i3).st j3).st k3
   replace e2:=((((e2.st c1).st a5).st i3).st j3).st k3
   replace lD:=lD.st k3
   refine BU (O:=rU) (R:=fun w' F v=>Vb w' F v g6) (Cx Fr.lt (Vb.ofAgg (cs:=[(.int .i64 c0.jobs),(.slice l2 c0.write.length m2),(.slice n2 c0.read.length o2),(.int .i64 c0.phase),(.slice w0 c0.vars.length y0)]) (x:=c0) rfl ⟨_,_,_,rfl,f0,g0,e0,t7,j7⟩) (Hm kE) d2 e2 lD kD iG) rfl fun v677 w673 sU b5 tU=>?_
   obtain ⟨vY,rfl,v679,v680,rfl,bL,cL,uU,vU⟩:=tU
   obtain ⟨wU,xU,rfl⟩:=bL.form
   obtain ⟨yU,zU,rfl⟩:=cL.form
   replace hZ:=hZ.cmp b5 [11,12] (fun _ h=>h.elim) rfl
   refine AF [(22,[14])] hZ ?_
   refine Ax (i:=21) rfl ?_
   refine AN 13 (by decide) sU (xs:=([g6]:List Opr)) rfl rfl rfl ⟨(Vb.ofAgg (cs:=[(.string g6.name),(.int .i64 g6.cost),(.slice wU g6.pre.length xU),(.slice yU g6.effs.length zU)]) (x:=g6) rfl ⟨_,_,rfl,bL,cL,uU,vU⟩),trivial⟩ (by decide) (by decide) rfl fun g689 w690 O691 c5 aV=>?_
   have hZ:=c5.lst [] (fun _ h=>h.elim)
   refine AF [(22,[14])] hZ ?_
   refine Ax (i:=22) rfl ?_
   obtain ⟨sA,bV,cV⟩:=AO sA
   replace h2:=((((((h2.st c1).st a5).st i3).st j3).st k3).st b5).st c5
   refine BE rfl h2 (aV.rd) rfl rfl (by decide) bV cV rfl fun dL eL w699 dV x5 fL=>?_
   rw [← sA] at fL ⊢
   have hZ:=x5.lst [14] (fun _ h=>by cases h;decide)
   refine AF [] hZ ?_
   refine AM (fuel:=1) [] [(23,true)] rfl ?_
   refine Bo rfl rfl (Ay ?_)
   refine Ax (i:=24) rfl ?_
   replace h0:=(((((((h0.st c1).st a5).st i3).st j3).st k3).st b5).st c5).st x5
   refine AD h0 rfl rfl rfl (AL) (allOne) fun eV j6 h0=>?_
   replace h0:Lc 7 eV dV j0.1 31 [(.slice w0 c0.vars.length y0),(.slice j0.2.1.1 p2.1.length j0.2.1.2),(.slice o0.1.1 n1.1.length o0.1.2),(.slice dL jG.length eL)]:=h0
   refine BL ?_
   refine BG ?_
   obtain rfl:=sm hD
   exact ⟨(dL,eL),_,⟨rfl,rfl,rfl,rfl,rfl,rfl,rfl,rfl,rfl,rfl,trivial⟩,((((((((hB.st c1).st a5).st i3).st j3).st k3).st b5).st c5).st x5).st j6,((((((((m1.st c1).st a5).st i3).st j3).st k3).st b5).st c5).st x5).st j6,((((((((h7.st c1).st a5).st i3).st j3).st k3).st b5).st c5).st x5).st j6,((((((((t1.st c1).st a5).st i3).st j3).st k3).st b5).st c5).st x5).st j6,((((((((e1.st c1).st a5).st i3).st j3).st k3).st b5).st c5).st x5).st j6,((((((((l1.st c1).st a5).st i3).st j3).st k3).st b5).st c5).st x5).st j6,((((((((v0.st c1).st a5).st i3).st j3).st k3).st b5).st c5).st x5).st j6,((((((((d1.st c1).st a5).st i3).st j3).st k3).st b5).st c5).st x5).st j6,(((f0.st b5).st c5).st x5).st j6,(((g0.st b5).st c5).st x5).st j6,(((e0.st b5).st c5).st x5).st j6,h0,((((((((y1.st c1).st a5).st i3).st j3).st k3).st b5).st c5).st x5).st j6,((((((((c2.st c1).st a5).st i3).st j3).st k3).st b5).st c5).st x5).st j6,fL.st j6,((((((((f2.st c1).st a5).st i3).st j3).st k3).st b5).st c5).st x5).st j6,(((d2.st b5).st c5).st x5).st j6,((((((((p3.st c1).st a5).st i3).st j3).st k3).st b5).st c5).st x5).st j6,((((((((u1.st c1).st a5).st i3).st j3).st k3).st b5).st c5).st x5).st j6,(((e2.st b5).st c5).st x5).st j6,((((((((v1.st c1).st a5).st i3).st j3).st k3).st b5).st c5).st x5).st j6,((((((((u8.st c1).st a5).st i3).st j3).st k3).st b5).st c5).st x5).st j6⟩
  rintro l706 gL ⟨tA,lE,hL,hB,m1,h7,t1,e1,l1,v0,d1,f0,g0,e0,h0,y1,c2,e8,f2,d2,p3,u1,e2,v1,u8⟩
  refine AE _ hL ?_
  refine Ab ?_
  obtain ⟨w7,iL,m0⟩:=bs m0
  obtain ⟨k7,jL,m0⟩:=bs m0
  obtain ⟨y714,vE,m0⟩:=bs m0
  refine Au (fun l' w'=>∃ (kG:Nat) (O':Lab),subs l' [(1,(.pointer (some ⟨cA,0,none⟩))),(2,(.pointer (some ⟨z8,0,none⟩))),(5,(.pointer (some ⟨dA,0,none⟩))),(6,(.pointer (some ⟨j0.1,0,none⟩))),(7,(.int .i64 (vA:Int))),(8,(.pointer (some ⟨lB,0,none⟩))),(9,(.pointer (some ⟨gA.1,0,none⟩))),(11,(.pointer (some ⟨kG,0,none⟩))),(40,(.slice u7 x0.jobs.length v7)),(41,(.int .i64 (x0.jobs.length:Int))),(42,(.int .i64 (vA:Int)))]∧Bs w A w' O'∧Lc 2 w' O' cA 26 [(.slice A8 x0.vars.length c9),(.slice x9 x0.init.length y9),(.slice z9 x0.goal.length aA),(.slice u7 x0.jobs.length v7)]∧Vb w' (Fr 0 w' O') (.slice A8 x0.vars.length c9) x0.vars∧Vb w' (Fr 0 w' O') (.slice x9 x0.init.length y9) x0.init∧Vb w' (Fr 0 w' O') (.slice z9 x0.goal.length aA) x0.goal∧Vb w' (Fr 0 w' O') (.slice u7 x0.jobs.length v7) x0.jobs∧Lc 3 w' O' z8 31 [(.slice none 0 0),(.slice none 0 0),(.slice none 0 0),(.slice none 0 0)]∧Lc 4 w' O' dA 74 [(.int .i64 c0.jobs),(.slice l2 c0.write.length m2),(.slice n2 c0.read.length o2),(.int .i64 c0.phase),(.slice w0 c0.vars.length y0)]∧Vb w' (Fr 0 w' O') (.slice l2 c0.write.length m2) c0.write∧Vb w' (Fr 0 w' O') (.slice n2 c0.read.length o2) c0.read∧Vb w' (Fr 0 w' O') (.slice w0 c0.vars.length y0) c0.vars∧Lc 7 w' O' j0.1 31 [(.slice w0 c0.vars.length y0),(.slice j0.2.1.1 p2.1.length j0.2.1.2),(.slice o0.1.1 n1.1.length o0.1.2),(.slice tA.1 zC.length tA.2)]∧Rw 5 w' O' 3 (.slice j0.2.1.1 p2.1.length j0.2.1.2) (cpyL p2.1 x0.init)∧Rw 6 w' O' 78 (.slice o0.1.1 n1.1.length o0.1.2) n1.1∧Rw 14 w' O' 82 (.slice tA.1 zC.length tA.2) zC∧Lc 8 w' O' lB 66 [(.string i0.name),(.int .i64 i0.dur),(.slice aB i0.start.length bB),(.slice cB i0.over.length dB),(.slice eB i0.fin.length fB),(.slice gB i0.atStart.length iB),(.slice jB i0.atEnd.length kB)]∧Vb w' (Fr 0 w' O') (.slice aB i0.start.length bB) i0.start∧Vb w' (Fr 0 w' O') (.slice cB i0.over.length dB) i0.over∧Vb w' (Fr 0 w' O') (.slice eB i0.fin.length fB) i0.fin∧Vb w' (Fr 0 w' O') (.slice gB i0.atStart.length iB) i0.atStart∧Vb w' (Fr 0 w' O') (.slice jB i0.atEnd.length kB) i0.atEnd∧Lc 9 w' O' gA.1 78 [(.int .i64 w1),(.int .i64 0)]∧Lc 15 w' O' kG 78 [(.int .i64 k7),(.int .i64 w7)]∧inI64 k7∧inI64 w7) ?_ ?_
  ·
   refine BP [] lE ?_
   refine AM (fuel:=4) [] [(0,true),(1,true),(3,true),(4,true),(5,true)] rfl ?_
   refine CN (hl:=rfl) (hb:=fun w' ⟨O',hq⟩=>((d1.st hq (by decide)).1).cellsAt) rfl rfl ?_
   refine Bp rfl rfl (Bo rfl rfl (BK (hc:=fun w' ⟨O',hq⟩=>Blk.cell (i:=1) ((f2.st hq (by decide)).1) rfl) rfl rfl ?_))
   have kL:=(AX iL)
   refine JY (he:=iL) rfl rfl rfl ?_
   refine Ay ?_
   refine Ec (i:=2) (j:=7) rfl rfl ?_ ?_
   ·
    refine AG (O:=lE) (A:=All gL) (R:=fun w' F v=>Vb w' F v k7) (BC (fun _ h=>h) (Vb.mono (F:=Fr 0 gL lE) (Vb.ofAgg (cs:=[(.int .i64 c0.jobs),(.slice l2 c0.write.length m2),(.slice n2 c0.read.length o2),(.int .i64 c0.phase),(.slice w0 c0.vars.length y0)]) (x:=c0) rfl ⟨_,_,_,rfl,f0,g0,e0,t7,j7⟩) Fr.lt) rk228 jL) rfl fun v726 w722 fV d5 gV=>?_
    obtain ⟨rfl,hV⟩:=gV.int
    have hZ:=d5.lst [] (fun _ h=>h.elim)
    refine AF [] hZ ?_
    refine AM (fuel:=2) [] [(6,true)] rfl ?_
    refine CE rfl rfl rfl ?_
    refine Ay ?_
    refine Ax (i:=7) rfl ?_
    refine AT 15 fV fun lL w729 iV e5 mD=>?_
    have hZ:=e5.lst [] (fun _ h=>h.elim)
    refine AF [] hZ ?_
    refine Ax (i:=8) rfl ?_
    refine AD mD rfl rfl rfl (AL) (allOne) fun jV y5 mD=>?_
    replace mD:Lc 15 jV iV lL 78 [(.int .i64 k7),(.int .i64 w7)]:=mD
    refine BL ?_
    refine BG ?_
    obtain rfl:=sm vE
    exact ⟨lL,_,⟨rfl,rfl,rfl,rfl,rfl,rfl,rfl,rfl,rfl,rfl,rfl,trivial⟩,((hB.st d5).st e5).st y5,((m1.st d5).st e5).st y5,((h7.st d5).st e5).st y5,((t1.st d5).st e5).st y5,((e1.st d5).st e5).st y5,((l1.st d5).st e5).st y5,((v0.st d5).st e5).st y5,((d1.st d5).st e5).st y5,((f0.st d5).st e5).st y5,((g0.st d5).st e5).st y5,((e0.st d5).st e5).st y5,((h0.st d5).st e5).st y5,((y1.st d5).st e5).st y5,((c2.st d5).st e5).st y5,((e8.st d5).st e5).st y5,((f2.st d5).st e5).st y5,((d2.st d5).st e5).st y5,((p3.st d5).st e5).st y5,((u1.st d5).st e5).st y5,((e2.st d5).st e5).st y5,((v1.st d5).st e5).st y5,((u8.st d5).st e5).st y5,mD,hV,kL⟩
   refine AT 15 lE fun mL nL oL f5 zB=>?_
   have hZ:=f5.lst [] (fun _ h=>h.elim)
   refine AF [] hZ ?_
   refine Ax (i:=2) rfl ?_
   replace f0:=f0.st f5
   replace g0:=g0.st f5
   replace e0:=e0.st f5
   refine AG (O:=oL) (A:=All nL) (R:=fun w' F v=>Vb w' F v k7) (BC (fun _ h=>h) (Vb.mono (F:=Fr 0 nL oL) (Vb.ofAgg (cs:=[(.int .i64 c0.jobs),(.slice l2 c0.write.length m2),(.slice n2 c0.read.length o2),(.int .i64 c0.phase),(.slice w0 c0.vars.length y0)]) (x:=c0) rfl ⟨_,_,_,rfl,f0,g0,e0,t7,j7⟩) Fr.lt) rk228 jL) rfl fun v744 w740 kV l3 lV=>?_
   obtain ⟨rfl,mV⟩:=lV.int
   have hZ:=l3.lst [] (fun _ h=>h.elim)
   refine AF [] hZ ?_
   refine AM (fuel:=1) [] [(6,true)] rfl ?_
   refine CE rfl rfl rfl ?_
   refine Ay ?_
   refine Ax (i:=8) rfl ?_
   replace zB:=zB.st l3
   refine AD zB rfl rfl rfl (AL) (allOne) fun nV z5 zB=>?_
   replace zB:Lc 15 nV kV mL 78 [(.int .i64 k7),(.int .i64 w7)]:=zB
   refine BL ?_
   refine BG ?_
   obtain rfl:=sm vE
   exact ⟨mL,_,⟨rfl,rfl,rfl,rfl,rfl,rfl,rfl,rfl,rfl,rfl,rfl,trivial⟩,((hB.st f5).st l3).st z5,((m1.st f5).st l3).st z5,((h7.st f5).st l3).st z5,((t1.st f5).st l3).st z5,((e1.st f5).st l3).st z5,((l1.st f5).st l3).st z5,((v0.st f5).st l3).st z5,((d1.st f5).st l3).st z5,(f0.st l3).st z5,(g0.st l3).st z5,(e0.st l3).st z5,((h0.st f5).st l3).st z5,((y1.st f5).st l3).st z5,((c2.st f5).st l3).st z5,((e8.st f5).st l3).st z5,((f2.st f5).st l3).st z5,((d2.st f5).st l3).st z5,((p3.st f5).st l3).st z5,((u1.st f5).st l3).st z5,((e2.st f5).st l3).st z5,((v1.st f5).st l3).st z5,((u8.st f5).st l3).st z5,zB,mV,kL⟩
  rintro l748 pL ⟨kG,mE,qL,hB,m1,h7,t1,e1,l1,v0,d1,f0,g0,e0,h0,y1,c2,e8,f2,d2,p3,u1,e2,v1,u8,oV,nE,oE⟩
  refine AE _ qL ?_
  refine Ab ?_
  obtain ⟨n752,nD,m0⟩:=bs m0
  obtain ⟨v8,rL,m0⟩:=bs m0
  obtain ⟨f8,lG,m0⟩:=bs m0
  obtain ⟨q2,pE,m0⟩:=bs m0
  obtain ⟨qE,bA,m0⟩:=bs m0
  obtain ⟨rE,dC,m0⟩:=bs m0
  refine Au (fun l' w'=>∃ (uA:(Option Addr×Nat)) (O':Lab),subs l' [(1,(.pointer (some ⟨cA,0,none⟩))),(2,(.pointer (some ⟨z8,0,none⟩))),(5,(.pointer (some ⟨dA,0,none⟩))),(6,(.pointer (some ⟨j0.1,0,none⟩))),(9,(.pointer (some ⟨gA.1,0,none⟩))),(40,(.slice u7 x0.jobs.length v7)),(41,(.int .i64 (x0.jobs.length:Int))),(42,(.int .i64 (vA:Int)))]∧Bs w A w' O'∧Lc 2 w' O' cA 26 [(.slice A8 x0.vars.length c9),(.slice x9 x0.init.length y9),(.slice z9 x0.goal.length aA),(.slice u7 x0.jobs.length v7)]∧Vb w' (Fr 0 w' O') (.slice A8 x0.vars.length c9) x0.vars∧Vb w' (Fr 0 w' O') (.slice x9 x0.init.length y9) x0.init∧Vb w' (Fr 0 w' O') (.slice z9 x0.goal.length aA) x0.goal∧Vb w' (Fr 0 w' O') (.slice u7 x0.jobs.length v7) x0.jobs∧Lc 3 w' O' z8 31 [(.slice none 0 0),(.slice none 0 0),(.slice none 0 0),(.slice none 0 0)]∧Lc 4 w' O' dA 74 [(.int .i64 c0.jobs),(.slice l2 c0.write.length m2),(.slice n2 c0.read.length o2),(.int .i64 c0.phase),(.slice w0 c0.vars.length y0)]∧Vb w' (Fr 0 w' O') (.slice l2 c0.write.length m2) c0.write∧Vb w' (Fr 0 w' O') (.slice n2 c0.read.length o2) c0.read∧Vb w' (Fr 0 w' O') (.slice w0 c0.vars.length y0) c0.vars∧Lc 7 w' O' j0.1 31 [(.slice w0 c0.vars.length y0),(.slice j0.2.1.1 p2.1.length j0.2.1.2),(.slice o0.1.1 n1.1.length o0.1.2),(.slice uA.1 rE.length uA.2)]∧Rw 5 w' O' 3 (.slice j0.2.1.1 p2.1.length j0.2.1.2) (cpyL p2.1 x0.init)∧Rw 6 w' O' 78 (.slice o0.1.1 n1.1.length o0.1.2) n1.1∧Rw 14 w' O' 82 (.slice uA.1 rE.length uA.2) rE∧Lc 9 w' O' gA.1 78 [(.int .i64 w1),(.int .i64 0)]) ?_ ?_
  ·
   refine BP [(21,[16,17]),(23,[14])] mE ?_
   refine AM (fuel:=13) [] [(2,true),(3,true),(4,true),(5,true),(6,true),(7,true),(8,true),(9,true),(10,true),(12,true),(13,true),(16,true),(17,true)] rfl ?_
   refine CN (hl:=rfl) (hb:=fun w' ⟨O',hq⟩=>((d1.st hq (by decide)).1).cellsAt) rfl rfl ?_
   refine Bo rfl rfl (BK (hc:=fun w' ⟨O',hq⟩=>Blk.cell (i:=0) ((f2.st hq (by decide)).1) rfl) rfl rfl ?_)
   refine Lw (he:=nD) rfl rfl rfl rfl ?_
   refine Bo rfl rfl (BK (hc:=fun w' ⟨O',hq⟩=>Blk.cell (i:=4) ((f2.st hq (by decide)).1) rfl) rfl rfl ?_)
   refine Bo rfl rfl (BK (hc:=fun w' ⟨O',hq⟩=>Blk.cell (i:=6) ((f2.st hq (by decide)).1) rfl) rfl rfl ?_)
   refine CN (hl:=rfl) (hb:=fun w' ⟨O',hq⟩=>((oV.st hq (by decide)).1).cellsAt) rfl rfl ?_
   refine CN (hl:=rfl) (hb:=fun w' ⟨O',hq⟩=>((d1.st hq (by decide)).1).cellsAt) rfl rfl ?_
   refine Bp rfl rfl (CN (hl:=rfl) (hb:=fun w' ⟨O',hq⟩=>((d1.st hq (by decide)).1).cellsAt) rfl rfl ?_)
   refine Bp rfl rfl (Ay ?_)
   refine AM (fuel:=11) [16,17] [(0,true),(1,true)] rfl ?_
   refine Bo rfl rfl (BK (hc:=fun w' ⟨O',hq⟩=>Blk.cell (i:=3) ((h0.st hq (by decide)).1) rfl) rfl rfl ?_)
   refine Ay ?_
   refine Ec (i:=11) (j:=14) rfl rfl ?_ ?_
   ·
    refine AN 16 (by decide) mE (xs:=([(⟨k7,w7⟩:Fct)]:List Fct)) rfl rfl rfl ⟨(Vb.ofAgg (cs:=[(.int .i64 k7),(.int .i64 w7)]) (x:=(⟨k7,w7⟩:Fct)) rfl ⟨rfl,nE,oE⟩),trivial⟩ (by decide) (by decide) rfl fun g768 sL tL b7 aC=>?_
    have hZ:=b7.lst [] (fun _ h=>h.elim)
    refine AF [(21,[16,17]),(23,[14])] hZ ?_
    refine Ax (i:=14) rfl ?_
    replace f0:=f0.st b7
    replace g0:=g0.st b7
    replace e0:=e0.st b7
    refine AG (O:=tL) (A:=All sL) (R:=fun w' F v=>Vb w' F v v8) (BC (fun _ h=>h) (Vb.mono (F:=Fr 0 sL tL) (Vb.ofAgg (cs:=[(.int .i64 c0.jobs),(.slice l2 c0.write.length m2),(.slice n2 c0.read.length o2),(.int .i64 c0.phase),(.slice w0 c0.vars.length y0)]) (x:=c0) rfl ⟨_,_,_,rfl,f0,g0,e0,t7,j7⟩) Fr.lt) rk228 rL) rfl fun v778 uL vL k6 pV=>?_
    obtain ⟨rfl,qV⟩:=pV.int
    have hZ:=k6.lst [] (fun _ h=>h.elim)
    refine AF [(21,[16,17]),(23,[14])] hZ ?_
    refine AM (fuel:=8) [] [(15,true)] rfl ?_
    refine CE rfl rfl rfl ?_
    refine Ay ?_
    refine Ax (i:=18) rfl ?_
    replace f0:=f0.st k6
    replace g0:=g0.st k6
    replace e0:=e0.st k6
    refine AG (O:=vL) (A:=All uL) (R:=fun w' F v=>Vb w' F v f8) (Bz (fun _ h=>h) (Vb.mono (F:=Fr 0 uL vL) (Vb.ofAgg (cs:=[(.int .i64 c0.jobs),(.slice l2 c0.write.length m2),(.slice n2 c0.read.length o2),(.int .i64 c0.phase),(.slice w0 c0.vars.length y0)]) (x:=c0) rfl ⟨_,_,_,rfl,f0,g0,e0,t7,j7⟩) Fr.lt) rk228 lG) rfl fun v784 w780 rV l6 sV=>?_
    obtain ⟨rfl,tV⟩:=sV.int
    have hZ:=l6.lst [] (fun _ h=>h.elim)
    refine AF [(21,[16,17]),(23,[14])] hZ ?_
    refine AM (fuel:=6) [] [(19,true)] rfl ?_
    refine CE rfl rfl rfl ?_
    refine Ay ?_
    refine Ax (i:=20) rfl ?_
    refine AN 17 (by decide) rV (xs:=([(⟨([]:List Fct),v8,0⟩:Eff),(⟨([]:List Fct),f8,1⟩:Eff)]:List Eff)) rfl rfl rfl ⟨(Vb.ofAgg (cs:=[(.slice none 0 0),(.int .i64 v8),(.int .i64 0)]) (x:=(⟨([]:List Fct),v8,0⟩:Eff)) rfl ⟨_,rfl,(Vb.nil _ _),qV,(show inI64 0 from by decide)⟩),(Vb.ofAgg (cs:=[(.slice none 0 0),(.int .i64 f8),(.int .i64 1)]) (x:=(⟨([]:List Fct),f8,1⟩:Eff)) rfl ⟨_,rfl,(Vb.nil _ _),tV,(show inI64 (1) from by decide)⟩),trivial⟩ (by decide) (by decide) rfl fun g786 w787 O788 m6 oD=>?_
    have hZ:=m6.lst [] (fun _ h=>h.elim)
    refine AF [(21,[16,17]),(23,[14])] hZ ?_
    refine Ax (i:=21) rfl ?_
    replace aC:=((aC.st k6).st l6).st m6
    obtain ⟨O792,n6,aC⟩:=aC.freeze
    have hZ:=n6.lst [16] (fun _ h=>by cases h;decide)
    replace oD:=oD.st n6
    obtain ⟨uV,o6,oD⟩:=oD.freeze
    replace hZ:=hZ.cmp o6 [16,17] (fun _ h=>by cases h;decide) rfl
    replace f0:=(((f0.st l6).st m6).st n6).st o6
    replace g0:=(((g0.st l6).st m6).st n6).st o6
    replace e0:=(((e0.st l6).st m6).st n6).st o6
    replace u1:=(((((u1.st b7).st k6).st l6).st m6).st n6).st o6
    replace v1:=(((((v1.st b7).st k6).st l6).st m6).st n6).st o6
    replace aC:=aC.st o6
    refine BU (O:=uV) (R:=fun w' F v=>Vb w' F v q2) (Cx Fr.lt (Vb.ofAgg (cs:=[(.int .i64 c0.jobs),(.slice l2 c0.write.length m2),(.slice n2 c0.read.length o2),(.int .i64 c0.phase),(.slice w0 c0.vars.length y0)]) (x:=c0) rfl ⟨_,_,_,rfl,f0,g0,e0,t7,j7⟩) (Hm nD) u1 v1 aC oD pE) rfl fun v800 w796 vV l7 wV=>?_
    obtain ⟨wY,rfl,v802,v803,rfl,wL,xL,xV,yV⟩:=wV
    obtain ⟨zV,aW,rfl⟩:=wL.form
    obtain ⟨bW,cW,rfl⟩:=xL.form
    replace hZ:=hZ.cmp l7 [16,17] (fun _ h=>h.elim) rfl
    refine AF [(23,[14])] hZ ?_
    refine Ax (i:=22) rfl ?_
    refine AN 18 (by decide) vV (xs:=([q2]:List Opr)) rfl rfl rfl ⟨(Vb.ofAgg (cs:=[(.string q2.name),(.int .i64 q2.cost),(.slice zV q2.pre.length aW),(.slice bW q2.effs.length cW)]) (x:=q2) rfl ⟨_,_,rfl,wL,xL,xV,yV⟩),trivial⟩ (by decide) (by decide) rfl fun g812 w813 O814 m7 dW=>?_
    have hZ:=m7.lst [] (fun _ h=>h.elim)
    refine AF [(23,[14])] hZ ?_
    refine Ax (i:=23) rfl ?_
    obtain ⟨bA,eW,fW⟩:=AO bA
    replace e8:=(((((((e8.st b7).st k6).st l6).st m6).st n6).st o6).st l7).st m7
    refine BE rfl e8 (dW.rd) rfl rfl (by decide) eW fW rfl fun yL zL w822 gW x7 aM=>?_
    rw [← bA] at aM ⊢
    have hZ:=x7.lst [14] (fun _ h=>by cases h;decide)
    refine AF [] hZ ?_
    refine AM (fuel:=1) [] [(24,true)] rfl ?_
    refine Bo rfl rfl (Ay ?_)
    refine Ax (i:=25) rfl ?_
    replace h0:=((((((((h0.st b7).st k6).st l6).st m6).st n6).st o6).st l7).st m7).st x7
    refine AD h0 rfl rfl rfl (AL) (allOne) fun hW g8 h0=>?_
    replace h0:Lc 7 hW gW j0.1 31 [(.slice w0 c0.vars.length y0),(.slice j0.2.1.1 p2.1.length j0.2.1.2),(.slice o0.1.1 n1.1.length o0.1.2),(.slice yL qE.length zL)]:=h0
    refine BL ?_
    refine BG ?_
    obtain rfl:=sm dC
    exact ⟨(yL,zL),_,⟨rfl,rfl,rfl,rfl,rfl,rfl,rfl,rfl,trivial⟩,(((((((((hB.st b7).st k6).st l6).st m6).st n6).st o6).st l7).st m7).st x7).st g8,(((((((((m1.st b7).st k6).st l6).st m6).st n6).st o6).st l7).st m7).st x7).st g8,(((((((((h7.st b7).st k6).st l6).st m6).st n6).st o6).st l7).st m7).st x7).st g8,(((((((((t1.st b7).st k6).st l6).st m6).st n6).st o6).st l7).st m7).st x7).st g8,(((((((((e1.st b7).st k6).st l6).st m6).st n6).st o6).st l7).st m7).st x7).st g8,(((((((((l1.st b7).st k6).st l6).st m6).st n6).st o6).st l7).st m7).st x7).st g8,(((((((((v0.st b7).st k6).st l6).st m6).st n6).st o6).st l7).st m7).st x7).st g8,(((((((((d1.st b7).st k6).st l6).st m6).st n6).st o6).st l7).st m7).st x7).st g8,(((f0.st l7).st m7).st x7).st g8,(((g0.st l7).st m7).st x7).st g8,(((e0.st l7).st m7).st x7).st g8,h0,(((((((((y1.st b7).st k6).st l6).st m6).st n6).st o6).st l7).st m7).st x7).st g8,(((((((((c2.st b7).st k6).st l6).st m6).st n6).st o6).st l7).st m7).st x7).st g8,aM.st g8,(((((((((u8.st b7).st k6).st l6).st m6).st n6).st o6).st l7).st m7).st x7).st g8⟩
   refine AG (O:=mE) (A:=All pL) (R:=fun w' F v=>Vb w' F v v8) (BC (fun _ h=>h) (Vb.mono (F:=Fr 0 pL mE) (Vb.ofAgg (cs:=[(.int .i64 c0.jobs),(.slice l2 c0.write.length m2),(.slice n2 c0.read.length o2),(.int .i64 c0.phase),(.slice w0 c0.vars.length y0)]) (x:=c0) rfl ⟨_,_,_,rfl,f0,g0,e0,t7,j7⟩) Fr.lt) rk228 rL) rfl fun v833 bM mG q0 iW=>?_
   obtain ⟨rfl,nG⟩:=iW.int
   have hZ:=q0.lst [] (fun _ h=>h.elim)
   refine AF [(21,[16,17]),(23,[14])] hZ ?_
   refine AM (fuel:=9) [] [(15,true)] rfl ?_
   refine CE rfl rfl rfl ?_
   refine Ay ?_
   refine Ec (i:=11) (j:=18) rfl rfl ?_ ?_
   ·
    refine AN 16 (by decide) mG (xs:=([(⟨k7,w7⟩:Fct)]:List Fct)) rfl rfl rfl ⟨(Vb.ofAgg (cs:=[(.int .i64 k7),(.int .i64 w7)]) (x:=(⟨k7,w7⟩:Fct)) rfl ⟨rfl,nE,oE⟩),trivial⟩ (by decide) (by decide) rfl fun g835 cM dM c7 bC=>?_
    have hZ:=c7.lst [] (fun _ h=>h.elim)
    refine AF [(21,[16,17]),(23,[14])] hZ ?_
    refine Ax (i:=18) rfl ?_
    replace f0:=(f0.st q0).st c7
    replace g0:=(g0.st q0).st c7
    replace e0:=(e0.st q0).st c7
    refine AG (O:=dM) (A:=All cM) (R:=fun w' F v=>Vb w' F v f8) (Bz (fun _ h=>h) (Vb.mono (F:=Fr 0 cM dM) (Vb.ofAgg (cs:=[(.int .i64 c0.jobs),(.slice l2 c0.write.length m2),(.slice n2 c0.read.length o2),(.int .i64 c0.phase),(.slice w0 c0.vars.length y0)]) (x:=c0) rfl ⟨_,_,_,rfl,f0,g0,e0,t7,j7⟩) Fr.lt) rk228 lG) rfl fun v845 w841 jW p6 kW=>?_
    obtain ⟨rfl,lW⟩:=kW.int
    have hZ:=p6.lst [] (fun _ h=>h.elim)
    refine AF [(21,[16,17]),(23,[14])] hZ ?_
    refine AM (fuel:=6) [] [(19,true)] rfl ?_
    refine CE rfl rfl rfl ?_
    refine Ay ?_
    refine Ax (i:=20) rfl ?_
    refine AN 17 (by decide) jW (xs:=([(⟨([]:List Fct),v8,0⟩:Eff),(⟨([]:List Fct),f8,1⟩:Eff)]:List Eff)) rfl rfl rfl ⟨(Vb.ofAgg (cs:=[(.slice none 0 0),(.int .i64 v8),(.int .i64 0)]) (x:=(⟨([]:List Fct),v8,0⟩:Eff)) rfl ⟨_,rfl,(Vb.nil _ _),nG,(show inI64 0 from by decide)⟩),(Vb.ofAgg (cs:=[(.slice none 0 0),(.int .i64 f8),(.int .i64 1)]) (x:=(⟨([]:List Fct),f8,1⟩:Eff)) rfl ⟨_,rfl,(Vb.nil _ _),lW,(show inI64 (1) from by decide)⟩),trivial⟩ (by decide) (by decide) rfl fun g847 w848 O849 q6 pD=>?_
    have hZ:=q6.lst [] (fun _ h=>h.elim)
    refine AF [(21,[16,17]),(23,[14])] hZ ?_
    refine Ax (i:=21) rfl ?_
    replace bC:=(bC.st p6).st q6
    obtain ⟨O853,r6,bC⟩:=bC.freeze
    have hZ:=r6.lst [16] (fun _ h=>by cases h;decide)
    replace pD:=pD.st r6
    obtain ⟨mW,s6,pD⟩:=pD.freeze
    replace hZ:=hZ.cmp s6 [16,17] (fun _ h=>by cases h;decide) rfl
    replace f0:=(((f0.st p6).st q6).st r6).st s6
    replace g0:=(((g0.st p6).st q6).st r6).st s6
    replace e0:=(((e0.st p6).st q6).st r6).st s6
    replace u1:=(((((u1.st q0).st c7).st p6).st q6).st r6).st s6
    replace v1:=(((((v1.st q0).st c7).st p6).st q6).st r6).st s6
    replace bC:=bC.st s6
    refine BU (O:=mW) (R:=fun w' F v=>Vb w' F v q2) (Cx Fr.lt (Vb.ofAgg (cs:=[(.int .i64 c0.jobs),(.slice l2 c0.write.length m2),(.slice n2 c0.read.length o2),(.int .i64 c0.phase),(.slice w0 c0.vars.length y0)]) (x:=c0) rfl ⟨_,_,_,rfl,f0,g0,e0,t7,j7⟩) (Hm nD) u1 v1 bC pD pE) rfl fun v861 w857 nW n7 oW=>?_
    obtain ⟨xY,rfl,v863,v864,rfl,eM,fM,pW,qW⟩:=oW
    obtain ⟨rW,sW,rfl⟩:=eM.form
    obtain ⟨tW,uW,rfl⟩:=fM.form
    replace hZ:=hZ.cmp n7 [16,17] (fun _ h=>h.elim) rfl
    refine AF [(23,[14])] hZ ?_
    refine Ax (i:=22) rfl ?_
    refine AN 18 (by decide) nW (xs:=([q2]:List Opr)) rfl rfl rfl ⟨(Vb.ofAgg (cs:=[(.string q2.name),(.int .i64 q2.cost),(.slice rW q2.pre.length sW),(.slice tW q2.effs.length uW)]) (x:=q2) rfl ⟨_,_,rfl,eM,fM,pW,qW⟩),trivial⟩ (by decide) (by decide) rfl fun g873 w874 O875 o7 vW=>?_
    have hZ:=o7.lst [] (fun _ h=>h.elim)
    refine AF [(23,[14])] hZ ?_
    refine Ax (i:=23) rfl ?_
    obtain ⟨bA,wW,xW⟩:=AO bA
    replace e8:=(((((((e8.st q0).st c7).st p6).st q6).st r6).st s6).st n7).st o7
    refine BE rfl e8 (vW.rd) rfl rfl (by decide) wW xW rfl fun gM hM w883 yW y7 iM=>?_
    rw [← bA] at iM ⊢
    have hZ:=y7.lst [14] (fun _ h=>by cases h;decide)
    refine AF [] hZ ?_
    refine AM (fuel:=1) [] [(24,true)] rfl ?_
    refine Bo rfl rfl (Ay ?_)
    refine Ax (i:=25) rfl ?_
    replace h0:=((((((((h0.st q0).st c7).st p6).st q6).st r6).st s6).st n7).st o7).st y7
    refine AD h0 rfl rfl rfl (AL) (allOne) fun zW h8 h0=>?_
    replace h0:Lc 7 zW yW j0.1 31 [(.slice w0 c0.vars.length y0),(.slice j0.2.1.1 p2.1.length j0.2.1.2),(.slice o0.1.1 n1.1.length o0.1.2),(.slice gM qE.length hM)]:=h0
    refine BL ?_
    refine BG ?_
    obtain rfl:=sm dC
    exact ⟨(gM,hM),_,⟨rfl,rfl,rfl,rfl,rfl,rfl,rfl,rfl,trivial⟩,(((((((((hB.st q0).st c7).st p6).st q6).st r6).st s6).st n7).st o7).st y7).st h8,(((((((((m1.st q0).st c7).st p6).st q6).st r6).st s6).st n7).st o7).st y7).st h8,(((((((((h7.st q0).st c7).st p6).st q6).st r6).st s6).st n7).st o7).st y7).st h8,(((((((((t1.st q0).st c7).st p6).st q6).st r6).st s6).st n7).st o7).st y7).st h8,(((((((((e1.st q0).st c7).st p6).st q6).st r6).st s6).st n7).st o7).st y7).st h8,(((((((((l1.st q0).st c7).st p6).st q6).st r6).st s6).st n7).st o7).st y7).st h8,(((((((((v0.st q0).st c7).st p6).st q6).st r6).st s6).st n7).st o7).st y7).st h8,(((((((((d1.st q0).st c7).st p6).st q6).st r6).st s6).st n7).st o7).st y7).st h8,(((f0.st n7).st o7).st y7).st h8,(((g0.st n7).st o7).st y7).st h8,(((e0.st n7).st o7).st y7).st h8,h0,(((((((((y1.st q0).st c7).st p6).st q6).st r6).st s6).st n7).st o7).st y7).st h8,(((((((((c2.st q0).st c7).st p6).st q6).st r6).st s6).st n7).st o7).st y7).st h8,iM.st h8,(((((((((u8.st q0).st c7).st p6).st q6).st r6).st s6).st n7).st o7).st y7).st h8⟩
   replace f0:=f0.st q0
   replace g0:=g0.st q0
   replace e0:=e0.st q0
   refine AG (O:=mG) (A:=All bM) (R:=fun w' F v=>Vb w' F v f8) (Bz (fun _ h=>h) (Vb.mono (F:=Fr 0 bM mG) (Vb.ofAgg (cs:=[(.int .i64 c0.jobs),(.slice l2 c0.write.length m2),(.slice n2 c0.read.length o2),(.int .i64 c0.phase),(.slice w0 c0.vars.length y0)]) (x:=c0) rfl ⟨_,_,_,rfl,f0,g0,e0,t7,j7⟩) Fr.lt) rk228 lG) rfl fun v894 w890 jM s1 aX=>?_
   obtain ⟨rfl,kM⟩:=aX.int
   have hZ:=s1.lst [] (fun _ h=>h.elim)
   refine AF [(21,[16,17]),(23,[14])] hZ ?_
   refine AM (fuel:=7) [] [(19,true)] rfl ?_
   refine CE rfl rfl rfl ?_
   refine Ay ?_
   refine Ec (i:=11) (j:=20) rfl rfl ?_ ?_
   ·
    refine AN 16 (by decide) jM (xs:=([(⟨k7,w7⟩:Fct)]:List Fct)) rfl rfl rfl ⟨(Vb.ofAgg (cs:=[(.int .i64 k7),(.int .i64 w7)]) (x:=(⟨k7,w7⟩:Fct)) rfl ⟨rfl,nE,oE⟩),trivial⟩ (by decide) (by decide) rfl fun g896 w897 bX d7 cC=>?_
    have hZ:=d7.lst [] (fun _ h=>h.elim)
    refine AF [(21,[16,17]),(23,[14])] hZ ?_
    refine Ax (i:=20) rfl ?_
    refine AN 17 (by decide) bX (xs:=([(⟨([]:List Fct),v8,0⟩:Eff),(⟨([]:List Fct),f8,1⟩:Eff)]:List Eff)) rfl rfl rfl ⟨(Vb.ofAgg (cs:=[(.slice none 0 0),(.int .i64 v8),(.int .i64 0)]) (x:=(⟨([]:List Fct),v8,0⟩:Eff)) rfl ⟨_,rfl,(Vb.nil _ _),nG,(show inI64 0 from by decide)⟩),(Vb.ofAgg (cs:=[(.slice none 0 0),(.int .i64 f8),(.int .i64 1)]) (x:=(⟨([]:List Fct),f8,1⟩:Eff)) rfl ⟨_,rfl,(Vb.nil _ _),kM,(show inI64 (1) from by decide)⟩),trivial⟩ (by decide) (by decide) rfl fun g902 w903 O904 t6 qD=>?_
    have hZ:=t6.lst [] (fun _ h=>h.elim)
    refine AF [(21,[16,17]),(23,[14])] hZ ?_
    refine Ax (i:=21) rfl ?_
    replace cC:=cC.st t6
    obtain ⟨O908,u6,cC⟩:=cC.freeze
    have hZ:=u6.lst [16] (fun _ h=>by cases h;decide)
    replace qD:=qD.st u6
    obtain ⟨cX,w6,qD⟩:=qD.freeze
    replace hZ:=hZ.cmp w6 [16,17] (fun _ h=>by cases h;decide) rfl
    replace f0:=((((f0.st s1).st d7).st t6).st u6).st w6
    replace g0:=((((g0.st s1).st d7).st t6).st u6).st w6
    replace e0:=((((e0.st s1).st d7).st t6).st u6).st w6
    replace u1:=(((((u1.st q0).st s1).st d7).st t6).st u6).st w6
    replace v1:=(((((v1.st q0).st s1).st d7).st t6).st u6).st w6
    replace cC:=cC.st w6
    refine BU (O:=cX) (R:=fun w' F v=>Vb w' F v q2) (Cx Fr.lt (Vb.ofAgg (cs:=[(.int .i64 c0.jobs),(.slice l2 c0.write.length m2),(.slice n2 c0.read.length o2),(.int .i64 c0.phase),(.slice w0 c0.vars.length y0)]) (x:=c0) rfl ⟨_,_,_,rfl,f0,g0,e0,t7,j7⟩) (Hm nD) u1 v1 cC qD pE) rfl fun v916 w912 dX p7 eX=>?_
    obtain ⟨yY,rfl,v918,v919,rfl,lM,mM,fX,gX⟩:=eX
    obtain ⟨hX,iX,rfl⟩:=lM.form
    obtain ⟨jX,kX,rfl⟩:=mM.form
    replace hZ:=hZ.cmp p7 [16,17] (fun _ h=>h.elim) rfl
    refine AF [(23,[14])] hZ ?_
    refine Ax (i:=22) rfl ?_
    refine AN 18 (by decide) dX (xs:=([q2]:List Opr)) rfl rfl rfl ⟨(Vb.ofAgg (cs:=[(.string q2.name),(.int .i64 q2.cost),(.slice hX q2.pre.length iX),(.slice jX q2.effs.length kX)]) (x:=q2) rfl ⟨_,_,rfl,lM,mM,fX,gX⟩),trivial⟩ (by decide) (by decide) rfl fun g928 w929 O930 q7 lX=>?_
    have hZ:=q7.lst [] (fun _ h=>h.elim)
    refine AF [(23,[14])] hZ ?_
    refine Ax (i:=23) rfl ?_
    obtain ⟨bA,mX,nX⟩:=AO bA
    replace e8:=(((((((e8.st q0).st s1).st d7).st t6).st u6).st w6).st p7).st q7
    refine BE rfl e8 (lX.rd) rfl rfl (by decide) mX nX rfl fun nM oM w938 oX z7 pM=>?_
    rw [← bA] at pM ⊢
    have hZ:=z7.lst [14] (fun _ h=>by cases h;decide)
    refine AF [] hZ ?_
    refine AM (fuel:=1) [] [(24,true)] rfl ?_
    refine Bo rfl rfl (Ay ?_)
    refine Ax (i:=25) rfl ?_
    replace h0:=((((((((h0.st q0).st s1).st d7).st t6).st u6).st w6).st p7).st q7).st z7
    refine AD h0 rfl rfl rfl (AL) (allOne) fun pX i8 h0=>?_
    replace h0:Lc 7 pX oX j0.1 31 [(.slice w0 c0.vars.length y0),(.slice j0.2.1.1 p2.1.length j0.2.1.2),(.slice o0.1.1 n1.1.length o0.1.2),(.slice nM qE.length oM)]:=h0
    refine BL ?_
    refine BG ?_
    obtain rfl:=sm dC
    exact ⟨(nM,oM),_,⟨rfl,rfl,rfl,rfl,rfl,rfl,rfl,rfl,trivial⟩,(((((((((hB.st q0).st s1).st d7).st t6).st u6).st w6).st p7).st q7).st z7).st i8,(((((((((m1.st q0).st s1).st d7).st t6).st u6).st w6).st p7).st q7).st z7).st i8,(((((((((h7.st q0).st s1).st d7).st t6).st u6).st w6).st p7).st q7).st z7).st i8,(((((((((t1.st q0).st s1).st d7).st t6).st u6).st w6).st p7).st q7).st z7).st i8,(((((((((e1.st q0).st s1).st d7).st t6).st u6).st w6).st p7).st q7).st z7).st i8,(((((((((l1.st q0).st s1).st d7).st t6).st u6).st w6).st p7).st q7).st z7).st i8,(((((((((v0.st q0).st s1).st d7).st t6).st u6).st w6).st p7).st q7).st z7).st i8,(((((((((d1.st q0).st s1).st d7).st t6).st u6).st w6).st p7).st q7).st z7).st i8,(((f0.st p7).st q7).st z7).st i8,(((g0.st p7).st q7).st z7).st i8,(((e0.st p7).st q7).st z7).st i8,h0,(((((((((y1.st q0).st s1).st d7).st t6).st u6).st w6).st p7).st q7).st z7).st i8,(((((((((c2.st q0).st s1).st d7).st t6).st u6).st w6).st p7).st q7).st z7).st i8,pM.st i8,(((((((((u8.st q0).st s1).st d7).st t6).st u6).st w6).st p7).st q7).st z7).st i8⟩
   refine AN 17 (by decide) jM (xs:=([(⟨([]:List Fct),v8,0⟩:Eff),(⟨([]:List Fct),f8,1⟩:Eff)]:List Eff)) rfl rfl rfl ⟨(Vb.ofAgg (cs:=[(.slice none 0 0),(.int .i64 v8),(.int .i64 0)]) (x:=(⟨([]:List Fct),v8,0⟩:Eff)) rfl ⟨_,rfl,(Vb.nil _ _),nG,(show inI64 0 from by decide)⟩),(Vb.ofAgg (cs:=[(.slice none 0 0),(.int .i64 f8),(.int .i64 1)]) (x:=(⟨([]:List Fct),f8,1⟩:Eff)) rfl ⟨_,rfl,(Vb.nil _ _),kM,(show inI64 (1) from by decide)⟩),trivial⟩ (by decide) (by decide) rfl fun g945 w946 qX e7 rD=>?_
   have hZ:=e7.lst [] (fun _ h=>h.elim)
   refine AF [(21,[16,17]),(23,[14])] hZ ?_
   refine Ax (i:=11) rfl ?_
   refine AN 16 (by decide) qX (xs:=([(⟨k7,w7⟩:Fct)]:List Fct)) rfl rfl rfl ⟨(Vb.ofAgg (cs:=[(.int .i64 k7),(.int .i64 w7)]) (x:=(⟨k7,w7⟩:Fct)) rfl ⟨rfl,nE,oE⟩),trivial⟩ (by decide) (by decide) rfl fun g951 w952 O953 x6 sD=>?_
   have hZ:=x6.lst [] (fun _ h=>h.elim)
   refine AF [(21,[16,17]),(23,[14])] hZ ?_
   refine Ax (i:=21) rfl ?_
   obtain ⟨O957,y6,sD⟩:=sD.freeze
   have hZ:=y6.lst [16] (fun _ h=>by cases h;decide)
   replace rD:=(rD.st x6).st y6
   obtain ⟨rX,z6,rD⟩:=rD.freeze
   replace hZ:=hZ.cmp z6 [16,17] (fun _ h=>by cases h;decide) rfl
   replace f0:=((((f0.st s1).st e7).st x6).st y6).st z6
   replace g0:=((((g0.st s1).st e7).st x6).st y6).st z6
   replace e0:=((((e0.st s1).st e7).st x6).st y6).st z6
   replace u1:=(((((u1.st q0).st s1).st e7).st x6).st y6).st z6
   replace v1:=(((((v1.st q0).st s1).st e7).st x6).st y6).st z6
   replace sD:=sD.st z6
   refine BU (O:=rX) (R:=fun w' F v=>Vb w' F v q2) (Cx Fr.lt (Vb.ofAgg (cs:=[(.int .i64 c0.jobs),(.slice l2 c0.write.length m2),(.slice n2 c0.read.length o2),(.int .i64 c0.phase),(.slice w0 c0.vars.length y0)]) (x:=c0) rfl ⟨_,_,_,rfl,f0,g0,e0,t7,j7⟩) (Hm nD) u1 v1 sD rD pE) rfl fun v965 w961 sX r7 tX=>?_
   obtain ⟨zY,rfl,v967,v968,rfl,qM,rM,uX,vX⟩:=tX
   obtain ⟨wX,xX,rfl⟩:=qM.form
   obtain ⟨yX,zX,rfl⟩:=rM.form
   replace hZ:=hZ.cmp r7 [16,17] (fun _ h=>h.elim) rfl
   refine AF [(23,[14])] hZ ?_
   refine Ax (i:=22) rfl ?_
   refine AN 18 (by decide) sX (xs:=([q2]:List Opr)) rfl rfl rfl ⟨(Vb.ofAgg (cs:=[(.string q2.name),(.int .i64 q2.cost),(.slice wX q2.pre.length xX),(.slice yX q2.effs.length zX)]) (x:=q2) rfl ⟨_,_,rfl,qM,rM,uX,vX⟩),trivial⟩ (by decide) (by decide) rfl fun g977 w978 O979 s7 aY=>?_
   have hZ:=s7.lst [] (fun _ h=>h.elim)
   refine AF [(23,[14])] hZ ?_
   refine Ax (i:=23) rfl ?_
   obtain ⟨bA,bY,cY⟩:=AO bA
   replace e8:=(((((((e8.st q0).st s1).st e7).st x6).st y6).st z6).st r7).st s7
   refine BE rfl e8 (aY.rd) rfl rfl (by decide) bY cY rfl fun sM tM w987 dY a8 uM=>?_
   rw [← bA] at uM ⊢
   have hZ:=a8.lst [14] (fun _ h=>by cases h;decide)
   refine AF [] hZ ?_
   refine AM (fuel:=1) [] [(24,true)] rfl ?_
   refine Bo rfl rfl (Ay ?_)
   refine Ax (i:=25) rfl ?_
   replace h0:=((((((((h0.st q0).st s1).st e7).st x6).st y6).st z6).st r7).st s7).st a8
   refine AD h0 rfl rfl rfl (AL) (allOne) fun eY j8 h0=>?_
   replace h0:Lc 7 eY dY j0.1 31 [(.slice w0 c0.vars.length y0),(.slice j0.2.1.1 p2.1.length j0.2.1.2),(.slice o0.1.1 n1.1.length o0.1.2),(.slice sM qE.length tM)]:=h0
   refine BL ?_
   refine BG ?_
   obtain rfl:=sm dC
   exact ⟨(sM,tM),_,⟨rfl,rfl,rfl,rfl,rfl,rfl,rfl,rfl,trivial⟩,(((((((((hB.st q0).st s1).st e7).st x6).st y6).st z6).st r7).st s7).st a8).st j8,(((((((((m1.st q0).st s1).st e7).st x6).st y6).st z6).st r7).st s7).st a8).st j8,(((((((((h7.st q0).st s1).st e7).st x6).st y6).st z6).st r7).st s7).st a8).st j8,(((((((((t1.st q0).st s1).st e7).st x6).st y6).st z6).st r7).st s7).st a8).st j8,(((((((((e1.st q0).st s1).st e7).st x6).st y6).st z6).st r7).st s7).st a8).st j8,(((((((((l1.st q0).st s1).st e7).st x6).st y6).st z6).st r7).st s7).st a8).st j8,(((((((((v0.st q0).st s1).st e7).st x6).st y6).st z6).st r7).st s7).st a8).st j8,(((((((((d1.st q0).st s1).st e7).st x6).st y6).st z6).st r7).st s7).st a8).st j8,(((f0.st r7).st s7).st a8).st j8,(((g0.st r7).st s7).st a8).st j8,(((e0.st r7).st s7).st a8).st j8,h0,(((((((((y1.st q0).st s1).st e7).st x6).st y6).st z6).st r7).st s7).st a8).st j8,(((((((((c2.st q0).st s1).st e7).st x6).st y6).st z6).st r7).st s7).st a8).st j8,uM.st j8,(((((((((u8.st q0).st s1).st e7).st x6).st y6).st z6).st r7).st s7).st a8).st j8⟩
  rintro l994 w995 ⟨uA,O996,vM,hB,m1,h7,t1,e1,l1,v0,d1,f0,g0,e0,h0,y1,c2,fY,u8⟩
  refine AE _ vM ?_
  refine Aa (AB rfl (Az (hc:=Blk.cell (i:=2) (h0.1) rfl) rfl ?_))
  refine Bg (hl:=rfl) (hc:=(u8.1).cellsAt) rfl ?_
  obtain ⟨gY,oG,m0⟩:=bs m0
  obtain ⟨oG,wM,xM⟩:=AO oG
  refine Co rfl (a:=(⟨w1,0⟩:Fct)) c2 (Vb.ofAgg (cs:=[(.int .i64 w1),(.int .i64 0)]) (x:=(⟨w1,0⟩:Fct)) rfl ⟨rfl,jE,(show inI64 0 from by decide)⟩) (fun _=>rfl) rfl wM xM ⟨rfl,rfl⟩ fun aZ wE xE bZ yM a6 yE=>?_
  rw [← oG] at yE ⊢
  refine AB rfl ?_
  replace h0:=h0.st a6
  refine AD h0 rfl rfl rfl (AL) (allOne) fun zM b6 h0=>?_
  replace h0:Lc 7 zM yM j0.1 31 [(.slice w0 c0.vars.length y0),(.slice j0.2.1.1 p2.1.length j0.2.1.2),(.slice wE gY.length xE),(.slice uA.1 rE.length uA.2)]:=h0
  refine o_z ?_
  obtain rfl:=sm m0
  exact show Exists _ from ⟨_,((wE,xE),(uA.1,uA.2)),rfl,⟨rfl,rfl,rfl,rfl,rfl,rfl,rfl,trivial⟩,_,(hB.st a6).st b6,(m1.st a6).st b6,(h7.st a6).st b6,(t1.st a6).st b6,(e1.st a6).st b6,(l1.st a6).st b6,(v0.st a6).st b6,(d1.st a6).st b6,(f0.st a6).st b6,(g0.st a6).st b6,(e0.st a6).st b6,h0,(y1.st a6).st b6,yE.st b6,(fY.st a6).st b6⟩
 replace hB:=hB.st o3
 replace h7:=h7.st o3
 replace t1:=t1.st o3
 replace e1:=e1.st o3
 replace v0:=v0.st o3
 replace f0:=f0.st o3
 replace g0:=g0.st o3
 replace e0:=e0.st o3
 replace d1:=d1.st o3
 replace h0:=h0.st o3
 rintro cZ dZ ⟨aN,eC,rfl,pG,eZ,hB,m1,h7,t1,e1,l1,v0,d1,f0,g0,e0,h0,y1,c2,h2⟩
 replace hm:=AP hm
 refine AE _ pG ?_
 refine Ab (Aa (AB rfl (Az (hc:=Blk.cell (i:=2) (h0.1) rfl) rfl ?_)))
 refine AB rfl (Az (hc:=Blk.cell (i:=3) (d1.1) rfl) rfl ?_)
 refine Eh rfl rfl ?_
 obtain ⟨o1,tD,hm⟩:=bs hm
 obtain ⟨tD,bN,cN⟩:=AO tD
 refine Co rfl (a:=(⟨c0.phase,0⟩:Fct)) c2 (Vb.ofAgg (cs:=[(.int .i64 c0.phase),(.int .i64 0)]) (x:=(⟨c0.phase,0⟩:Fct)) rfl ⟨rfl,j7,(show inI64 0 from by decide)⟩) (fun _=>rfl) rfl bN cN ⟨rfl,rfl⟩ fun fZ r2 s2 gZ zE t0 n0=>?_
 rw [← tD] at n0 ⊢
 refine AB rfl ?_
 replace h0:=h0.st t0
 refine AD h0 rfl rfl rfl (AL) (allOne) fun dN p0 h0=>?_
 replace h0:Lc 7 dN zE j0.1 31 [(.slice w0 c0.vars.length y0),(.slice j0.2.1.1 p2.1.length j0.2.1.2),(.slice r2 o1.length s2),(.slice eC.2.1 aN.2.length eC.2.2)]:=h0
 refine o_z ?_
 refine Ab ?_
 obtain ⟨w8,b2,hm⟩:=bs hm
 refine Au (fun l' w'=>∃ (a7:(Option Addr×Nat)) (O':Lab),subs l' [(2,(.pointer (some ⟨z8,0,none⟩))),(6,(.pointer (some ⟨j0.1,0,none⟩)))]∧Bs w A w' O'∧Lc 3 w' O' z8 31 [(.slice none 0 0),(.slice none 0 0),(.slice none 0 0),(.slice none 0 0)]∧Lc 7 w' O' j0.1 31 [(.slice w0 c0.vars.length y0),(.slice j0.2.1.1 p2.1.length j0.2.1.2),(.slice r2 o1.length s2),(.slice a7.1 w8.length a7.2)]∧Vb w' (Fr 0 w' O') (.slice w0 c0.vars.length y0) c0.vars∧Rw 5 w' O' 3 (.slice j0.2.1.1 p2.1.length j0.2.1.2) (cpyL p2.1 x0.init)∧Rw 6 w' O' 78 (.slice r2 o1.length s2) o1∧Rw 14 w' O' 82 (.slice a7.1 w8.length a7.2) w8) ?_ ?_
 ·
  refine Ab (Aa (AB rfl ?_))
  replace m1:=(m1.st t0).st p0
  refine Az (hc:=Blk.cell (i:=3) (m1.1) rfl) rfl ?_
  refine AR rfl ?_
  replace l1:=(l1.st t0).st p0
  have eN:x0.jobs.length≤9223372036854775807:=Nat.le_trans l1.len.2.1 l1.len.2.2
  have iZ:inI64 (x0.jobs.length:Int):=rngNat eN
  refine Dg rfl rfl (fun uD=>?_) fun uD=>?_
  ·
   replace b2:=ip b2 uD
   refine o_z ?_
   refine Aj rfl (Ab (Aa (AB rfl (Az (hc:=Blk.cell (i:=3) (h0.1) rfl) rfl ?_))))
   refine AB rfl ?_
   replace d1:=(d1.st t0).st p0
   refine Az (hc:=Blk.cell (i:=3) (d1.1) rfl) rfl ?_
   refine Eh rfl rfl ?_
   refine AN 19 (by decide) zE (xs:=([(⟨c0.phase,0⟩:Fct)]:List Fct)) rfl rfl rfl ⟨(Vb.ofAgg (cs:=[(.int .i64 c0.phase),(.int .i64 0)]) (x:=(⟨c0.phase,0⟩:Fct)) rfl ⟨rfl,j7,(show inI64 0 from by decide)⟩),trivial⟩ (by decide) (by decide) rfl fun fN jZ gN p1 jA=>?_
   refine AB rfl ?_
   replace d1:=d1.st p1
   refine Az (hc:=Blk.cell (i:=3) (d1.1) rfl) rfl ?_
   refine Eh rfl rfl ?_
   refine AN 20 (by decide) gN (xs:=([(⟨([]:List Fct),c0.phase,1⟩:Eff)]:List Eff)) rfl rfl rfl ⟨(Vb.ofAgg (cs:=[(.slice none 0 0),(.int .i64 c0.phase),(.int .i64 1)]) (x:=(⟨([]:List Fct),c0.phase,1⟩:Eff)) rfl ⟨_,rfl,(Vb.nil _ _),j7,(show inI64 (1) from by decide)⟩),trivial⟩ (by decide) (by decide) rfl fun hN kZ lZ i1 wA=>?_
   refine Eh rfl rfl ?_
   replace jA:=jA.st i1
   obtain ⟨mZ,j1,jA⟩:=jA.freeze
   replace wA:=wA.st j1
   obtain ⟨nZ,k1,wA⟩:=wA.freeze
   obtain ⟨iN,vD,b2⟩:=bs b2
   obtain ⟨vD,jN,kN⟩:=AO vD
   replace h2:=(((((h2.st t0).st p0).st p1).st i1).st j1).st k1
   replace jA:=jA.st k1
   refine Co rfl (a:=(⟨(⟨#[116,105,99,107]⟩:ByteArray),0,[(⟨c0.phase,0⟩:Fct)],[(⟨([]:List Fct),c0.phase,1⟩:Eff)]⟩:Opr)) h2 (Vb.ofAgg (cs:=[(.string (⟨#[116,105,99,107]⟩:ByteArray)),(.int .i64 0),(.slice (some ⟨fN,0,none⟩) [(⟨c0.phase,0⟩:Fct)].length 1),(.slice (some ⟨hN,0,none⟩) [(⟨([]:List Fct),c0.phase,1⟩:Eff)].length 1)]) (x:=(⟨(⟨#[116,105,99,107]⟩:ByteArray),0,[(⟨c0.phase,0⟩:Fct)],[(⟨([]:List Fct),c0.phase,1⟩:Eff)]⟩:Opr)) rfl ⟨_,_,rfl,jA,wA,(show inI64 0 from by decide),(show (⟨#[116,105,99,107]⟩:ByteArray).size≤9223372036854775807 from by decide)⟩) (fun _=>rfl) rfl jN kN ⟨rfl,rfl⟩ fun oZ aF bF pZ cF q1 fC=>?_
   rw [← vD] at fC ⊢
   refine AB rfl ?_
   replace h0:=((((h0.st p1).st i1).st j1).st k1).st q1
   refine AD h0 rfl rfl rfl (AL) (allOne) fun lN r1 h0=>?_
   replace h0:Lc 7 lN cF j0.1 31 [(.slice w0 c0.vars.length y0),(.slice j0.2.1.1 p2.1.length j0.2.1.2),(.slice r2 o1.length s2),(.slice aF iN.length bF)]:=h0
   refine o_z ?_
   refine Ab (Ab (Aa (AB rfl ?_)))
   replace m1:=(((((m1.st p1).st i1).st j1).st k1).st q1).st r1
   refine Az (hc:=Blk.cell (i:=3) (m1.1) rfl) rfl ?_
   refine AR rfl ?_
   replace l1:=(((((l1.st p1).st i1).st j1).st k1).st q1).st r1
   have wD:x0.jobs.length≤9223372036854775807:=Nat.le_trans l1.len.2.1 l1.len.2.2
   have qZ:inI64 (x0.jobs.length:Int):=rngNat wD
   refine Ak rfl (o_z ?_)
   obtain ⟨sE,qG,b2⟩:=bs b2
   refine Au (aft sE (fun (b8:(List Opr)) (c6:(Option Addr×Nat))=>[(1,(.pointer (some ⟨cA,0,none⟩))),(2,(.pointer (some ⟨z8,0,none⟩))),(5,(.pointer (some ⟨dA,0,none⟩))),(6,(.pointer (some ⟨j0.1,0,none⟩)))]) (fun b8 c6 w'=>∃ O':Lab,Bs w A w' O'∧Lc 2 w' O' cA 26 [(.slice A8 x0.vars.length c9),(.slice x9 x0.init.length y9),(.slice z9 x0.goal.length aA),(.slice u7 x0.jobs.length v7)]∧Vb w' (Fr 0 w' O') (.slice A8 x0.vars.length c9) x0.vars∧Vb w' (Fr 0 w' O') (.slice x9 x0.init.length y9) x0.init∧Vb w' (Fr 0 w' O') (.slice z9 x0.goal.length aA) x0.goal∧Vb w' (Fr 0 w' O') (.slice u7 x0.jobs.length v7) x0.jobs∧Lc 3 w' O' z8 31 [(.slice none 0 0),(.slice none 0 0),(.slice none 0 0),(.slice none 0 0)]∧Lc 4 w' O' dA 74 [(.int .i64 c0.jobs),(.slice l2 c0.write.length m2),(.slice n2 c0.read.length o2),(.int .i64 c0.phase),(.slice w0 c0.vars.length y0)]∧Vb w' (Fr 0 w' O') (.slice l2 c0.write.length m2) c0.write∧Vb w' (Fr 0 w' O') (.slice n2 c0.read.length o2) c0.read∧Vb w' (Fr 0 w' O') (.slice w0 c0.vars.length y0) c0.vars∧Lc 7 w' O' j0.1 31 [(.slice w0 c0.vars.length y0),(.slice j0.2.1.1 p2.1.length j0.2.1.2),(.slice r2 o1.length s2),(.slice c6.1 b8.length c6.2)]∧Rw 5 w' O' 3 (.slice j0.2.1.1 p2.1.length j0.2.1.2) (cpyL p2.1 x0.init)∧Rw 6 w' O' 78 (.slice r2 o1.length s2) o1∧Rw 14 w' O' 82 (.slice c6.1 b8.length c6.2) b8)) ?_ ?_
   ·
    refine AJ ?_
    replace hB:=(((((((hB.st t0).st p0).st p1).st i1).st j1).st k1).st q1).st r1
    replace h7:=(((((((h7.st t0).st p0).st p1).st i1).st j1).st k1).st q1).st r1
    replace t1:=(((((((t1.st t0).st p0).st p1).st i1).st j1).st k1).st q1).st r1
    replace e1:=(((((((e1.st t0).st p0).st p1).st i1).st j1).st k1).st q1).st r1
    replace v0:=(((((((v0.st t0).st p0).st p1).st i1).st j1).st k1).st q1).st r1
    replace f0:=(((((((f0.st t0).st p0).st p1).st i1).st j1).st k1).st q1).st r1
    replace g0:=(((((((g0.st t0).st p0).st p1).st i1).st j1).st k1).st q1).st r1
    replace e0:=(((((((e0.st t0).st p0).st p1).st i1).st j1).st k1).st q1).st r1
    replace d1:=((((d1.st i1).st j1).st k1).st q1).st r1
    replace y1:=(((((((y1.st t0).st p0).st p1).st i1).st j1).st k1).st q1).st r1
    replace n0:=((((((n0.st p0).st p1).st i1).st j1).st k1).st q1).st r1
    replace fC:=fC.st r1
    refine Bh (σ:=(List Opr)) (X:=(Option Addr×Nat)) (x0.jobs.length) qG rfl wD (fun (b8:(List Opr)) (c6:(Option Addr×Nat))=>[(1,(.pointer (some ⟨cA,0,none⟩))),(2,(.pointer (some ⟨z8,0,none⟩))),(5,(.pointer (some ⟨dA,0,none⟩))),(6,(.pointer (some ⟨j0.1,0,none⟩))),(145,(.slice u7 x0.jobs.length v7))]) _ (fun b8 c6 w'=>∃ O':Lab,Bs w A w' O'∧Lc 2 w' O' cA 26 [(.slice A8 x0.vars.length c9),(.slice x9 x0.init.length y9),(.slice z9 x0.goal.length aA),(.slice u7 x0.jobs.length v7)]∧Vb w' (Fr 0 w' O') (.slice A8 x0.vars.length c9) x0.vars∧Vb w' (Fr 0 w' O') (.slice x9 x0.init.length y9) x0.init∧Vb w' (Fr 0 w' O') (.slice z9 x0.goal.length aA) x0.goal∧Vb w' (Fr 0 w' O') (.slice u7 x0.jobs.length v7) x0.jobs∧Lc 3 w' O' z8 31 [(.slice none 0 0),(.slice none 0 0),(.slice none 0 0),(.slice none 0 0)]∧Lc 4 w' O' dA 74 [(.int .i64 c0.jobs),(.slice l2 c0.write.length m2),(.slice n2 c0.read.length o2),(.int .i64 c0.phase),(.slice w0 c0.vars.length y0)]∧Vb w' (Fr 0 w' O') (.slice l2 c0.write.length m2) c0.write∧Vb w' (Fr 0 w' O') (.slice n2 c0.read.length o2) c0.read∧Vb w' (Fr 0 w' O') (.slice w0 c0.vars.length y0) c0.vars∧Lc 7 w' O' j0.1 31 [(.slice w0 c0.vars.length y0),(.slice j0.2.1.1 p2.1.length j0.2.1.2),(.slice r2 o1.length s2),(.slice c6.1 b8.length c6.2)]∧Rw 5 w' O' 3 (.slice j0.2.1.1 p2.1.length j0.2.1.2) (cpyL p2.1 x0.init)∧Rw 6 w' O' 78 (.slice r2 o1.length s2) o1∧Rw 14 w' O' 82 (.slice c6.1 b8.length c6.2) b8) _ (aF,bF) ⟨cF,hB,m1,h7,t1,e1,l1,v0,d1,f0,g0,e0,h0,y1,n0,fC⟩ ⟨rfl,rfl,rfl,rfl,rfl,rfl,rfl,trivial⟩ (fun _ _=>⟨rfl,rfl⟩) (fun _ _=>⟨rfl,rfl,rfl,rfl,trivial⟩) (fun _ _ _ ⟨O',hB,m1,h7,t1,e1,l1,v0,d1,f0,g0,e0,h0,y1,n0,x8⟩=>⟨O',hB,m1,h7,t1,e1,l1,v0,d1,f0,g0,e0,h0,y1,n0,x8⟩) ⟨rfl,rfl,rfl⟩ ⟨rfl,rfl⟩ ?_
    rintro gC u0 b8 c6 rZ hY xD ⟨mN,hB,m1,h7,t1,e1,l1,v0,d1,f0,g0,e0,h0,y1,n0,x8⟩ f7 nN oN
    have rk1077:inI64 (gC:Int):=rngK xD wD
    refine Ab (Aa (Ak rfl ?_))
    obtain ⟨sZ,tZ,iY,rG,sG,tG,uZ,vZ,wZ,xZ,yZ,rfl,m9,n9,o9,p9,q9,pN,qN⟩:=l1.elem' xD
    obtain ⟨hC,iC,rfl⟩:=m9.form
    obtain ⟨jC,kC,rfl⟩:=n9.form
    obtain ⟨lC,mC,rfl⟩:=o9.form
    obtain ⟨nC,oC,rfl⟩:=p9.form
    obtain ⟨pC,qC,rfl⟩:=q9.form
    refine Bv (hA:=rG) (hj:=rfl) (hlt:=sG) rfl rfl ?_
    refine Bg (hl:=rfl) (hc:=tG) rfl ?_
    refine AT 21 mN fun yD zZ dF r0 c8=>?_
    refine Al rfl (AD c8 rfl rfl rfl (AL) (allOne) fun rN s0 c8=>?_)
    replace c8:Lc 21 rN dF yD 66 [(.string u0.name),(.int .i64 u0.dur),(.slice hC u0.start.length iC),(.slice jC u0.over.length kC),(.slice lC u0.fin.length mC),(.slice nC u0.atStart.length oC),(.slice pC u0.atEnd.length qC)]:=c8
    refine o_z ?_
    refine Ab (Aa (AB rfl (Az (hc:=Blk.cell (i:=1) (c8.1) rfl) rfl ?_)))
    obtain ⟨n1128,eF,f7⟩:=bs f7
    have fF:=(AX eF)
    refine Dn (he:=eF) rfl rfl ?_
    refine Ak rfl (o_z ?_)
    obtain ⟨sN,kA,f7⟩:=bs f7
    replace kA:=IX kA
    obtain ⟨tE,uG,f7⟩:=bs f7
    refine Au (aft tE (fun (d8:(List Opr)) (i7:(Option Addr×Nat))=>[(1,(.pointer (some ⟨cA,0,none⟩))),(2,(.pointer (some ⟨z8,0,none⟩))),(5,(.pointer (some ⟨dA,0,none⟩))),(6,(.pointer (some ⟨j0.1,0,none⟩))),(145,(.slice u7 x0.jobs.length v7)),(146,(.int .i64 (x0.jobs.length:Int))),(147,(.int .i64 (gC:Int)))]) (fun d8 i7 w'=>∃ O':Lab,Bs w A w' O'∧Lc 2 w' O' cA 26 [(.slice A8 x0.vars.length c9),(.slice x9 x0.init.length y9),(.slice z9 x0.goal.length aA),(.slice u7 x0.jobs.length v7)]∧Vb w' (Fr 0 w' O') (.slice A8 x0.vars.length c9) x0.vars∧Vb w' (Fr 0 w' O') (.slice x9 x0.init.length y9) x0.init∧Vb w' (Fr 0 w' O') (.slice z9 x0.goal.length aA) x0.goal∧Vb w' (Fr 0 w' O') (.slice u7 x0.jobs.length v7) x0.jobs∧Lc 3 w' O' z8 31 [(.slice none 0 0),(.slice none 0 0),(.slice none 0 0),(.slice none 0 0)]∧Lc 4 w' O' dA 74 [(.int .i64 c0.jobs),(.slice l2 c0.write.length m2),(.slice n2 c0.read.length o2),(.int .i64 c0.phase),(.slice w0 c0.vars.length y0)]∧Vb w' (Fr 0 w' O') (.slice l2 c0.write.length m2) c0.write∧Vb w' (Fr 0 w' O') (.slice n2 c0.read.length o2) c0.read∧Vb w' (Fr 0 w' O') (.slice w0 c0.vars.length y0) c0.vars∧Lc 7 w' O' j0.1 31 [(.slice w0 c0.vars.length y0),(.slice j0.2.1.1 p2.1.length j0.2.1.2),(.slice r2 o1.length s2),(.slice i7.1 d8.length i7.2)]∧Rw 5 w' O' 3 (.slice j0.2.1.1 p2.1.length j0.2.1.2) (cpyL p2.1 x0.init)∧Rw 6 w' O' 78 (.slice r2 o1.length s2) o1∧Rw 14 w' O' 82 (.slice i7.1 d8.length i7.2) d8)) ?_ ?_
    ·
     refine AJ ?_
     replace hB:=(hB.st r0).st s0
     replace h7:=(h7.st r0).st s0
     replace t1:=(t1.st r0).st s0
     replace e1:=(e1.st r0).st s0
     replace l1:=(l1.st r0).st s0
     replace m1:=(m1.st r0).st s0
     replace v0:=(v0.st r0).st s0
     replace f0:=(f0.st r0).st s0
     replace g0:=(g0.st r0).st s0
     replace e0:=(e0.st r0).st s0
     replace d1:=(d1.st r0).st s0
     replace h0:=(h0.st r0).st s0
     replace y1:=(y1.st r0).st s0
     replace n0:=(n0.st r0).st s0
     replace x8:=(x8.st r0).st s0
     replace m9:=(m9.st r0).st s0
     replace n9:=(n9.st r0).st s0
     replace o9:=(o9.st r0).st s0
     replace p9:=(p9.st r0).st s0
     replace q9:=(q9.st r0).st s0
     refine GY (σ:=(List Opr)) (X:=(Option Addr×Nat)) sN uG (Hl kA fF) (fun (d8:(List Opr)) (i7:(Option Addr×Nat))=>[(1,(.pointer (some ⟨cA,0,none⟩))),(2,(.pointer (some ⟨z8,0,none⟩))),(5,(.pointer (some ⟨dA,0,none⟩))),(6,(.pointer (some ⟨j0.1,0,none⟩))),(12,(.int .i64 (gC:Int))),(13,(.pointer (some ⟨yD,0,none⟩))),(145,(.slice u7 x0.jobs.length v7)),(146,(.int .i64 (x0.jobs.length:Int))),(147,(.int .i64 (gC:Int)))]) _ (fun d8 i7 w'=>∃ O':Lab,Bs w A w' O'∧Lc 2 w' O' cA 26 [(.slice A8 x0.vars.length c9),(.slice x9 x0.init.length y9),(.slice z9 x0.goal.length aA),(.slice u7 x0.jobs.length v7)]∧Vb w' (Fr 0 w' O') (.slice A8 x0.vars.length c9) x0.vars∧Vb w' (Fr 0 w' O') (.slice x9 x0.init.length y9) x0.init∧Vb w' (Fr 0 w' O') (.slice z9 x0.goal.length aA) x0.goal∧Vb w' (Fr 0 w' O') (.slice u7 x0.jobs.length v7) x0.jobs∧Lc 3 w' O' z8 31 [(.slice none 0 0),(.slice none 0 0),(.slice none 0 0),(.slice none 0 0)]∧Lc 4 w' O' dA 74 [(.int .i64 c0.jobs),(.slice l2 c0.write.length m2),(.slice n2 c0.read.length o2),(.int .i64 c0.phase),(.slice w0 c0.vars.length y0)]∧Vb w' (Fr 0 w' O') (.slice l2 c0.write.length m2) c0.write∧Vb w' (Fr 0 w' O') (.slice n2 c0.read.length o2) c0.read∧Vb w' (Fr 0 w' O') (.slice w0 c0.vars.length y0) c0.vars∧Lc 7 w' O' j0.1 31 [(.slice w0 c0.vars.length y0),(.slice j0.2.1.1 p2.1.length j0.2.1.2),(.slice r2 o1.length s2),(.slice i7.1 d8.length i7.2)]∧Rw 5 w' O' 3 (.slice j0.2.1.1 p2.1.length j0.2.1.2) (cpyL p2.1 x0.init)∧Rw 6 w' O' 78 (.slice r2 o1.length s2) o1∧Rw 14 w' O' 82 (.slice i7.1 d8.length i7.2) d8∧Lc 21 w' O' yD 66 [(.string u0.name),(.int .i64 u0.dur),(.slice hC u0.start.length iC),(.slice jC u0.over.length kC),(.slice lC u0.fin.length mC),(.slice nC u0.atStart.length oC),(.slice pC u0.atEnd.length qC)]∧Vb w' (Fr 0 w' O') (.slice hC u0.start.length iC) u0.start∧Vb w' (Fr 0 w' O') (.slice jC u0.over.length kC) u0.over∧Vb w' (Fr 0 w' O') (.slice lC u0.fin.length mC) u0.fin∧Vb w' (Fr 0 w' O') (.slice nC u0.atStart.length oC) u0.atStart∧Vb w' (Fr 0 w' O') (.slice pC u0.atEnd.length qC) u0.atEnd) _ (c6.1,c6.2) ⟨dF,hB,m1,h7,t1,e1,l1,v0,d1,f0,g0,e0,h0,y1,n0,x8,c8,m9,n9,o9,p9,q9⟩ ⟨rfl,(congrArg (fun z=>some (Value.int .i64 z)) kA),rfl,rfl,rfl,rfl,rfl,rfl,rfl,rfl,rfl,trivial⟩ (fun _ _=>⟨rfl,rfl⟩) (fun _ _=>⟨rfl,rfl,rfl,rfl,rfl,rfl,rfl,trivial⟩) (fun _ _ _ ⟨O',hB,m1,h7,t1,e1,l1,v0,d1,f0,g0,e0,h0,y1,n0,lA,c8,m9,n9,o9,p9,q9⟩=>⟨O',hB,m1,h7,t1,e1,l1,v0,d1,f0,g0,e0,h0,y1,n0,lA⟩) ⟨rfl,rfl,rfl⟩ ⟨rfl,rfl⟩ ?_
     rintro tN d8 i7 w1137 jY vG ⟨gF,hB,m1,h7,t1,e1,l1,v0,d1,f0,g0,e0,h0,y1,n0,lA,c8,m9,n9,o9,p9,q9⟩ mA uN vN
     have rk1135:inI64 (tN:Int):=rngKN vG (Hl kA fF)
     refine Ab (Aa (Ak rfl (Al rfl (o_z ?_))))
     refine BP [(8,[14])] gF ?_
     refine AM (fuel:=5) [] [(0,true),(1,true),(2,true),(3,true),(4,true),(5,true)] rfl ?_
     refine Bo rfl rfl (BK (hc:=fun w' ⟨O',hq⟩=>Blk.cell (i:=3) ((h0.st hq (by decide)).1) rfl) rfl rfl ?_)
     refine CN (hl:=rfl) (hb:=fun w' ⟨O',hq⟩=>((d1.st hq (by decide)).1).cellsAt) rfl rfl ?_
     refine CN (hl:=rfl) (hb:=fun w' ⟨O',hq⟩=>((c8.st hq (by decide)).1).cellsAt) rfl rfl ?_
     refine Bp rfl rfl (Bp rfl rfl (Ay ?_))
     refine Ax (i:=6) rfl ?_
     obtain ⟨nA,wN,mA⟩:=bs mA
     refine BU (O:=gF) (R:=fun w' F v=>Vb w' F v nA) (JH Fr.lt (Vb.ofAgg (cs:=[(.int .i64 c0.jobs),(.slice l2 c0.write.length m2),(.slice n2 c0.read.length o2),(.int .i64 c0.phase),(.slice w0 c0.vars.length y0)]) (x:=c0) rfl ⟨_,_,_,rfl,f0,g0,e0,t7,j7⟩) (Vb.ofAgg (cs:=[(.string u0.name),(.int .i64 u0.dur),(.slice hC u0.start.length iC),(.slice jC u0.over.length kC),(.slice lC u0.fin.length mC),(.slice nC u0.atStart.length oC),(.slice pC u0.atEnd.length qC)]) (x:=u0) rfl ⟨_,_,_,_,_,rfl,m9,n9,o9,p9,q9,pN,qN⟩) rk1077 rk1135 wN) rfl fun v1156 w1152 xN z1 yN=>?_
     obtain ⟨kY,rfl,v1158,v1159,rfl,hF,iF,zN,aO⟩:=yN
     obtain ⟨bO,cO,rfl⟩:=hF.form
     obtain ⟨dO,eO,rfl⟩:=iF.form
     have hZ:=z1.lst [] (fun _ h=>h.elim)
     refine AF [(8,[14])] hZ ?_
     refine Ax (i:=7) rfl ?_
     refine AN 22 (by decide) xN (xs:=([nA]:List Opr)) rfl rfl rfl ⟨(Vb.ofAgg (cs:=[(.string nA.name),(.int .i64 nA.cost),(.slice bO nA.pre.length cO),(.slice dO nA.effs.length eO)]) (x:=nA) rfl ⟨_,_,rfl,hF,iF,zN,aO⟩),trivial⟩ (by decide) (by decide) rfl fun g1168 w1169 O1170 a2 fO=>?_
     have hZ:=a2.lst [] (fun _ h=>h.elim)
     refine AF [(8,[14])] hZ ?_
     refine Ax (i:=8) rfl ?_
     obtain ⟨gO,zD,mA⟩:=bs mA
     obtain ⟨zD,hO,iO⟩:=AO zD
     replace lA:=(lA.st z1).st a2
     refine BE rfl lA (fO.rd) rfl rfl (by decide) hO iO rfl fun jF kF w1180 jO g2 lF=>?_
     rw [← zD] at lF ⊢
     have hZ:=g2.lst [14] (fun _ h=>by cases h;decide)
     refine AF [] hZ ?_
     refine AM (fuel:=1) [] [(9,true)] rfl ?_
     refine Bo rfl rfl (Ay ?_)
     refine Ax (i:=10) rfl ?_
     replace h0:=((h0.st z1).st a2).st g2
     refine AD h0 rfl rfl rfl (AL) (allOne) fun kO i2 h0=>?_
     replace h0:Lc 7 kO jO j0.1 31 [(.slice w0 c0.vars.length y0),(.slice j0.2.1.1 p2.1.length j0.2.1.2),(.slice r2 o1.length s2),(.slice jF gO.length kF)]:=h0
     refine BL ?_
     refine BG ?_
     obtain rfl:=sm mA
     exact show Exists _ from ⟨_,(jF,kF),rfl,⟨rfl,rfl,rfl,rfl,rfl,rfl,rfl,rfl,rfl,rfl,rfl,trivial⟩,_,(((hB.st z1).st a2).st g2).st i2,(((m1.st z1).st a2).st g2).st i2,(((h7.st z1).st a2).st g2).st i2,(((t1.st z1).st a2).st g2).st i2,(((e1.st z1).st a2).st g2).st i2,(((l1.st z1).st a2).st g2).st i2,(((v0.st z1).st a2).st g2).st i2,(((d1.st z1).st a2).st g2).st i2,(((f0.st z1).st a2).st g2).st i2,(((g0.st z1).st a2).st g2).st i2,(((e0.st z1).st a2).st g2).st i2,h0,(((y1.st z1).st a2).st g2).st i2,(((n0.st z1).st a2).st g2).st i2,lF.st i2,(((c8.st z1).st a2).st g2).st i2,(((m9.st z1).st a2).st g2).st i2,(((n9.st z1).st a2).st g2).st i2,(((o9.st z1).st a2).st g2).st i2,(((p9.st z1).st a2).st g2).st i2,(((q9.st z1).st a2).st g2).st i2⟩
    replace hB:=(hB.st r0).st s0
    replace h7:=(h7.st r0).st s0
    replace t1:=(t1.st r0).st s0
    replace e1:=(e1.st r0).st s0
    replace l1:=(l1.st r0).st s0
    replace m1:=(m1.st r0).st s0
    replace v0:=(v0.st r0).st s0
    replace f0:=(f0.st r0).st s0
    replace g0:=(g0.st r0).st s0
    replace e0:=(e0.st r0).st s0
    replace d1:=(d1.st r0).st s0
    replace h0:=(h0.st r0).st s0
    replace y1:=(y1.st r0).st s0
    replace n0:=(n0.st r0).st s0
    rintro l1187 w1188 ⟨s1191,mF,rfl,k8,O1189,hB,m1,h7,t1,e1,l1,v0,d1,f0,g0,e0,h0,y1,n0,lA⟩
    replace f7:=AP f7
    obtain rfl:=sm f7
    exact show Exists _ from ⟨_,(mF.1,mF.2),rfl,⟨(AS k8 _ _ rfl),(AS k8 _ _ rfl),(AS k8 _ _ rfl),(AS k8 _ _ rfl),(AS k8 _ _ rfl),(AS k8 _ _ rfl),(AS k8 _ _ rfl),trivial⟩,_,hB,m1,h7,t1,e1,l1,v0,d1,f0,g0,e0,h0,y1,n0,lA⟩
   replace hB:=(((((((hB.st t0).st p0).st p1).st i1).st j1).st k1).st q1).st r1
   replace h7:=(((((((h7.st t0).st p0).st p1).st i1).st j1).st k1).st q1).st r1
   replace t1:=(((((((t1.st t0).st p0).st p1).st i1).st j1).st k1).st q1).st r1
   replace e1:=(((((((e1.st t0).st p0).st p1).st i1).st j1).st k1).st q1).st r1
   replace v0:=(((((((v0.st t0).st p0).st p1).st i1).st j1).st k1).st q1).st r1
   replace f0:=(((((((f0.st t0).st p0).st p1).st i1).st j1).st k1).st q1).st r1
   replace g0:=(((((((g0.st t0).st p0).st p1).st i1).st j1).st k1).st q1).st r1
   replace e0:=(((((((e0.st t0).st p0).st p1).st i1).st j1).st k1).st q1).st r1
   replace d1:=((((d1.st i1).st j1).st k1).st q1).st r1
   replace y1:=(((((((y1.st t0).st p0).st p1).st i1).st j1).st k1).st q1).st r1
   replace n0:=((((((n0.st p0).st p1).st i1).st j1).st k1).st q1).st r1
   rintro l1193 w1194 ⟨s1197,x1198,rfl,wG,nF,hB,m1,h7,t1,e1,l1,v0,d1,f0,g0,e0,h0,y1,n0,x8⟩
   replace b2:=AP b2
   refine AE _ wG ?_
   refine BP [(8,[14])] nF ?_
   refine AM (fuel:=5) [] [(0,true),(1,true),(2,true),(3,true),(4,true),(5,true)] rfl ?_
   refine Bo rfl rfl (BK (hc:=fun w' ⟨O',hq⟩=>Blk.cell (i:=3) ((h0.st hq (by decide)).1) rfl) rfl rfl ?_)
   refine CN (hl:=rfl) (hb:=fun w' ⟨O',hq⟩=>((d1.st hq (by decide)).1).cellsAt) rfl rfl ?_
   refine Bo rfl rfl (BK (hc:=fun w' ⟨O',hq⟩=>Blk.cell (i:=3) ((m1.st hq (by decide)).1) rfl) rfl rfl ?_)
   refine Nk rfl rfl rfl ?_
   have lO:x0.jobs.length≤9223372036854775807:=Nat.le_trans l1.len.2.1 l1.len.2.2
   have mO:inI64 (x0.jobs.length:Int):=rngNat lO
   refine Ay ?_
   refine Ax (i:=6) rfl ?_
   obtain ⟨oA,nO,b2⟩:=bs b2
   refine BU (O:=nF) (R:=fun w' F v=>Vb w' F v oA) (IH Fr.lt (Vb.ofAgg (cs:=[(.int .i64 c0.jobs),(.slice l2 c0.write.length m2),(.slice n2 c0.read.length o2),(.int .i64 c0.phase),(.slice w0 c0.vars.length y0)]) (x:=c0) rfl ⟨_,_,_,rfl,f0,g0,e0,t7,j7⟩) mO nO) rfl fun v1207 w1203 oO r9 pO=>?_
   obtain ⟨lY,rfl,v1209,v1210,rfl,oF,pF,qO,rO⟩:=pO
   obtain ⟨sO,tO,rfl⟩:=oF.form
   obtain ⟨uO,vO,rfl⟩:=pF.form
   have hZ:=r9.lst [] (fun _ h=>h.elim)
   refine AF [(8,[14])] hZ ?_
   refine Ax (i:=7) rfl ?_
   refine AN 23 (by decide) oO (xs:=([oA]:List Opr)) rfl rfl rfl ⟨(Vb.ofAgg (cs:=[(.string oA.name),(.int .i64 oA.cost),(.slice sO oA.pre.length tO),(.slice uO oA.effs.length vO)]) (x:=oA) rfl ⟨_,_,rfl,oF,pF,qO,rO⟩),trivial⟩ (by decide) (by decide) rfl fun g1219 w1220 O1221 s9 wO=>?_
   have hZ:=s9.lst [] (fun _ h=>h.elim)
   refine AF [(8,[14])] hZ ?_
   refine Ax (i:=8) rfl ?_
   obtain ⟨xO,aE,b2⟩:=bs b2
   obtain ⟨aE,yO,zO⟩:=AO aE
   replace x8:=(x8.st r9).st s9
   refine BE rfl x8 (wO.rd) rfl rfl (by decide) yO zO rfl fun qF rF w1231 aP pA sF=>?_
   rw [← aE] at sF ⊢
   have hZ:=pA.lst [14] (fun _ h=>by cases h;decide)
   refine AF [] hZ ?_
   refine AM (fuel:=1) [] [(9,true)] rfl ?_
   refine Bo rfl rfl (Ay ?_)
   refine Ax (i:=10) rfl ?_
   replace h0:=((h0.st r9).st s9).st pA
   refine AD h0 rfl rfl rfl (AL) (allOne) fun bP rA h0=>?_
   replace h0:Lc 7 bP aP j0.1 31 [(.slice w0 c0.vars.length y0),(.slice j0.2.1.1 p2.1.length j0.2.1.2),(.slice r2 o1.length s2),(.slice qF xO.length rF)]:=h0
   refine BL ?_
   refine BG ?_
   obtain rfl:=sm b2
   exact ⟨(qF,rF),_,⟨rfl,rfl,trivial⟩,(((hB.st r9).st s9).st pA).st rA,(((v0.st r9).st s9).st pA).st rA,h0,(((e0.st r9).st s9).st pA).st rA,(((y1.st r9).st s9).st pA).st rA,(((n0.st r9).st s9).st pA).st rA,sF.st rA⟩
  replace b2:=im b2 uD
  refine o_z ?_
  refine Ah rfl (AK ?_)
  obtain rfl:=sm b2
  exact ⟨(eC.2.1,eC.2.2),_,⟨rfl,rfl,trivial⟩,(hB.st t0).st p0,(v0.st t0).st p0,h0,(e0.st t0).st p0,(y1.st t0).st p0,n0.st p0,(h2.st t0).st p0⟩
 replace hB:=(hB.st t0).st p0
 replace v0:=(v0.st t0).st p0
 replace e0:=(e0.st t0).st p0
 replace y1:=(y1.st t0).st p0
 replace n0:=n0.st p0
 rintro l1238 tF ⟨a7,O1240,xG,hB,v0,h0,e0,y1,n0,t9⟩
 refine AE _ xG ?_
 refine Ab (Ab (Aa (Bg (hl:=rfl) (hc:=(h0.1).cellsAt) rfl ?_)))
 obtain ⟨O1242,u9,y1⟩:=y1.freeze
 replace n0:=n0.st u9
 obtain ⟨O1244,v9,n0⟩:=n0.freeze
 replace t9:=(t9.st u9).st v9
 obtain ⟨uF,w9,t9⟩:=t9.freeze
 obtain ⟨cP,dP,hm⟩:=bs hm
 replace e0:=((e0.st u9).st v9).st w9
 replace y1:=(y1.st v9).st w9
 replace n0:=n0.st w9
 refine AG (O:=uF) (A:=All tF) (R:=fun w' F v=>Vb w' F v cP) (KT (fun _ h=>h) (Vb.mono (F:=Fr 0 tF uF) (Vb.ofAgg (cs:=[(.slice w0 c0.vars.length y0),(.slice j0.2.1.1 p2.1.length j0.2.1.2),(.slice r2 o1.length s2),(.slice a7.1 w8.length a7.2)]) (x:=(⟨c0.vars,(cpyL p2.1 x0.init),o1,w8⟩:Tsk)) rfl ⟨_,_,_,_,rfl,e0,y1,n0,t9⟩) Fr.lt) dP) rfl fun v1254 w1250 rC y8 eP=>?_
 obtain ⟨rfl,fP⟩:=eP.err
 refine Al rfl (o_z ?_)
 refine Ab (Aa (Ak rfl (Gi rfl (fun bE=>?_) fun bE=>?_)))
 ·
  replace hm:=ip hm bE
  refine o_z ?_
  refine Aj rfl (Ab (Aa (Eh rfl rfl ?_)))
  refine Ak rfl ?_
  replace v0:=(((v0.st u9).st v9).st w9).st y8
  refine AD v0 rfl rfl rfl (AL) (allOne) fun vF gP v0=>?_
  replace v0:Lc 3 vF rC z8 31 [(.slice none 0 0),(.slice none 0 0),(.slice none 0 0),(.slice none 0 0)]:=v0
  refine Al rfl (o_z ?_)
  refine AC ?_
  obtain rfl:=sm hm
  replace hB:=((((hB.st u9).st v9).st w9).st y8).st gP
  exact ret2 rfl (Gn (cs:=[(.slice none 0 0),(.slice none 0 0),(.slice none 0 0),(.slice none 0 0)]) rfl rfl v0.1.cellsAt) (At rfl) ⟨hB.ext,_,_,rfl,(Vb.mono (F:=Fr 0 vF rC) (Vb.ofAgg (cs:=[(.slice none 0 0),(.slice none 0 0),(.slice none 0 0),(.slice none 0 0)]) (x:=(⟨([]:List Int),([]:List Int),([]:List Fct),([]:List Opr)⟩:Tsk)) rfl ⟨_,_,_,_,rfl,(Vb.nil _ _),(Vb.nil _ _),(Vb.nil _ _),(Vb.nil _ _)⟩) hB.out),(vErr fP)⟩
 replace hm:=im hm bE
 refine o_z ?_
 refine Ah rfl (AK (Ab (Aa ?_)))
 replace h0:=(((h0.st u9).st v9).st w9).st y8
 refine Bg (hl:=rfl) (hc:=(h0.1).cellsAt) rfl ?_
 replace v0:=(((v0.st u9).st v9).st w9).st y8
 refine AD v0 rfl rfl rfl (AL) (allOne) fun wF xA v0=>?_
 replace v0:Lc 3 wF rC z8 31 [(.slice w0 c0.vars.length y0),(.slice j0.2.1.1 p2.1.length j0.2.1.2),(.slice r2 o1.length s2),(.slice a7.1 w8.length a7.2)]:=v0
 refine Al rfl (o_z ?_)
 refine AC ?_
 obtain rfl:=sm hm
 replace hB:=((((hB.st u9).st v9).st w9).st y8).st xA
 replace e0:=(e0.st y8).st xA
 replace y1:=(y1.st y8).st xA
 replace n0:=(n0.st y8).st xA
 replace t9:=(t9.st y8).st xA
 exact ret2 rfl (Gn (cs:=[(.slice w0 c0.vars.length y0),(.slice j0.2.1.1 p2.1.length j0.2.1.2),(.slice r2 o1.length s2),(.slice a7.1 w8.length a7.2)]) rfl rfl v0.1.cellsAt) (At rfl) ⟨hB.ext,_,_,rfl,(Vb.mono (F:=Fr 0 wF rC) (Vb.ofAgg (cs:=[(.slice w0 c0.vars.length y0),(.slice j0.2.1.1 p2.1.length j0.2.1.2),(.slice r2 o1.length s2),(.slice a7.1 w8.length a7.2)]) (x:=(⟨c0.vars,(cpyL p2.1 x0.init),o1,w8⟩:Tsk)) rfl ⟨_,_,_,_,rfl,e0,y1,n0,t9⟩) hB.out),(vErr (show inI64 0 from by decide))⟩
end
section
open Go Go.RowKit
theorem Lg {R:Fct→Fct→Prop}:∀ {a b:List Fct},a.Perm b→a.Pairwise R→b.Pairwise R→(∀ x y,R x y→¬ R y x)→a=b
  | [],b,h,_,_,_=>(List.nil_perm.1 h).symm
  | x :: a,[],h,_,_,_=>by simp at h
  | x :: a,y :: b,h,ha,hb,hR=>by
    obtain ⟨ha1,ha2⟩:=List.pairwise_cons.1 ha
    obtain ⟨hb1,hb2⟩:=List.pairwise_cons.1 hb
    have hx:x∈y :: b:=h.mem_iff.1 List.mem_cons_self
    have hy:y∈x :: a:=h.mem_iff.2 List.mem_cons_self
    have e:x=y:=by
      rcases List.mem_cons.1 hx with rfl|hx
      · rfl
      · rcases List.mem_cons.1 hy with rfl|hy
        · rfl
        · exact absurd (hb1 x hx) (hR x y (ha1 y hy))
    subst e
    rw [Lg ((List.perm_cons x).1 h) ha2 hb2 hR]
theorem Nu {u v:List Fct} (h:u.Perm v) (hv:v.Pairwise fun x y=>x.var < y.var):AI u=v:=by
  have hp:=(Jg u).trans h
  have hn:(v.map (·.var)).Nodup:=by
    rw [List.nodup_iff_pairwise_ne,List.pairwise_map]
    exact hv.imp fun h=>by omega
  have hn2:((AI u).map (·.var)).Nodup:=((hp.map (·.var)).nodup_iff).2 hn
  rw [List.nodup_iff_pairwise_ne,List.pairwise_map] at hn2
  have hs:=PB u
  exact Lg hp (hs.imp₂ (fun a b h1 h2=>by omega) hn2) hv fun x y h1 h2=>by omega
def insF1 (a:Fct):List Fct→List Fct
  | []=>[a]
  | b :: r=>if a.var < b.var then a :: b :: r else b :: insF1 a r
def insF:List Fct→List Fct
  | []=>[]
  | a :: r=>insF1 a (insF r)
theorem MZ (a:Fct):∀ r,(insF1 a r).Perm (a :: r)
  | []=>.refl _
  | b :: r=>by
    simp only [insF1]
    split
    · exact .refl _
    · exact ((MZ a r).cons b).trans (.swap a b r)
theorem NV:∀ l,(insF l).Perm l
  | []=>.refl _
  | a :: r=>(MZ a _).trans ((NV r).cons a)
def ltF1:List Fct→Bool
  | a :: b :: r=>decide (a.var < b.var) && ltF1 (b :: r)
  | _=>true
theorem PV:∀ {l:List Fct},ltF1 l=true→l.Pairwise fun x y=>x.var < y.var
  | [],_=>.nil
  | [a],_=>List.pairwise_singleton _ _
  | a :: b :: r,h=>by
    simp only [ltF1,Bool.and_eq_true,decide_eq_true_eq] at h
    have ih:=PV h.2
    refine List.pairwise_cons.2 ⟨fun c hc=>?_,ih⟩
    rcases List.mem_cons.1 hc with rfl|hc
    · exact h.1
    · have:=(List.pairwise_cons.1 ih).1 c hc;omega
def srtE (u:List Fct):Option (List Fct):=if u.length < 4611686018427387904∧ltF1 (insF u)=true then some (insF u) else none
theorem Ub {u r:List Fct} (h:srtE u=some r):(if u.length < 4611686018427387904 then some (AI u) else none)=some r:=by
  obtain ⟨⟨h1,h2⟩,rfl⟩:=Di h
  rw [if_pos h1,Nu (NV u).symm (PV h2)]
theorem PW (x:Int):Ek x=if 0≤x∧x < 100 then some (itoaB x.toNat) else none:=by
  unfold Ek Ed Ej
  by_cases h:0≤x∧x < 100
  · rw [if_pos h,if_pos ⟨rfl,h⟩];rfl
  · rw [if_neg h,if_neg (fun q=>h q.2)];rfl
end
end Go.Proofs.YtjohlgjklmagnaaGreatDoor

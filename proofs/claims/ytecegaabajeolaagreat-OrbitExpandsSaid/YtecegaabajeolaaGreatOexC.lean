/- Own text: what the proof of orbitExpands_holds uses, part 3: rules, models and their proofs, plain laws. -/
import Derived.Test.YtecegaabajeolaaGreatOexB
set_option linter.unusedVariables false
set_option linter.unusedSimpArgs false
namespace Go.Proofs.YtecegaabajeolaaGreat
open Go Go.RowKit
section
open Go Go.RowKit
attribute [local irreducible] ewp owp hwp hwq hws Ev Evg Fn retPost loud loudS Res1
structure Swp where
  vars:List Int
  vals:List (List Int)
  ops:List Int
instance:Rp Swp where
  isAgg:=true
  size:=3
  R w F cs x:=∃ v0 v1 v2,cs=[v0,v1,v2]∧Vb w F v0 x.vars∧Vb w F v1 x.vals∧Vb w F v2 x.ops
  len:=by rintro w F cs x ⟨v0,v1,v2,rfl,h0,h1,h2⟩;rfl
  one:=by rintro w F cs x ⟨v0,v1,v2,rfl,h0,h1,h2⟩ u hu;simp at hu;rcases hu with rfl|rfl|rfl<;>first|rfl|exact Vb.one rfl (by assumption)
  agree:=by rintro w w' F cs x ⟨v0,v1,v2,rfl,h0,h1,h2⟩ ha;exact ⟨v0,v1,v2,rfl,h0.agree ha,h1.agree ha,h2.agree ha⟩
  mono:=by rintro w F G cs x ⟨v0,v1,v2,rfl,h0,h1,h2⟩ ha;exact ⟨v0,v1,v2,rfl,h0.mono ha,h1.mono ha,h2.mono ha⟩
noncomputable def BF (x0:List Fct) (x1:List Fct):Option Bool :=
  if (x0.length:Int)≠(x1.length:Int) then (some false) else (bnd (rng (ρ:=Bool) (fun (k18:Nat) (a19:Fct) (s16:Unit)=>bnd (x1[k18]?) fun a38=>if ¬ (a19.var=a38.var∧a19.val=a38.val) then (some (.ret false)) else (some (.next ()))) x0 0 ()) fun res14=>fin res14 fun (s54:Unit)=>some true)
theorem CO {w:World} {A:Nat→Prop} (hA:∀ k,A k→k < w.heap.size) {vx0:Value} {x0:List Fct} (b0:Vb w A vx0 x0) {vx1:Value} {x1:List Fct} (c0:Vb w A vx1 x1) {r:Bool} (hm:BF x0 x1=some r) :
    Fn Tryz.prog 77 [vx0,vx1] w fun v w'=>Ext w w'∧Vb w' (upA A w w') v r:=by
 obtain ⟨O,hB,u0⟩:=enter hA
 replace b0:=b0.mono u0
 obtain ⟨A3,c4,rfl⟩:=b0.form
 replace c0:=c0.mono u0
 obtain ⟨A5,c6,rfl⟩:=c0.form
 refine AK Tryz.func77 rfl Tryz.ntmps77 rfl ?_
 unfold BF at hm
 refine Al (Aj (Au rfl rfl (o_z ?_)))
 refine Al (Al (Aj (Ar rfl rfl (AY rfl rfl ?_))))
 have l8:x0.length≤9223372036854775807:=Nat.le_trans b0.len.2.1 b0.len.2.2
 have r7:inI64 (x0.length:Int):=rngNat l8
 refine Ar rfl rfl (AY rfl rfl ?_)
 have v0:x1.length≤9223372036854775807:=Nat.le_trans c0.len.2.1 c0.len.2.2
 have r9:inI64 (x1.length:Int):=rngNat v0
 refine Fp rfl rfl rfl (fun i0=>?_) fun i0=>?_
 ·
  replace hm:=ip hm i0
  refine o_z ?_
  refine Ah rfl (Al (Aj (Au rfl rfl (o_z ?_))))
  refine AJ ?_
  obtain rfl:=sm hm
  exact ret1v rfl (AD rfl) ⟨hB.ext,vBool⟩
 replace hm:=im hm i0
 refine o_z ?_
 refine Ae rfl (AM (Al (Al (Aj (Ar rfl rfl (AY rfl rfl ?_))))))
 have j0:x0.length≤9223372036854775807:=Nat.le_trans b0.len.2.1 b0.len.2.2
 have d1:inI64 (x0.length:Int):=rngNat j0
 refine Ar rfl rfl (o_z ?_)
 obtain ⟨e0,k0,hm⟩:=bs hm
 refine AH (aft e0 (fun (g0:Unit) (h0:Unit)=>[]) (fun g0 h0 w'=>∃ O':Lab,Bs w A w' O')) ?_ ?_
 ·
  refine AU (Bu (σ:=Unit) (X:=Unit) (x0.length) k0 rfl j0 (fun (g0:Unit) (h0:Unit)=>[(0,(.slice A3 x0.length c4)),(1,(.slice A5 x1.length c6))]) _ (fun g0 h0 w'=>∃ O':Lab,Bs w A w' O'∧Vb w' (Fr 0 w' O') (.slice A3 x0.length c4) x0∧Vb w' (Fr 0 w' O') (.slice A5 x1.length c6) x1) _ () ⟨O,hB,b0,c0⟩ ⟨rfl,rfl,rfl,rfl,trivial⟩ (fun _ _=>⟨rfl,rfl⟩) (fun _ _=>trivial) (fun _ _ _ ⟨O',hB,b0,c0⟩=>⟨O',hB⟩) ⟨rfl,rfl,rfl⟩ ⟨rfl,rfl⟩ ?_)
  rintro w0 e1 g0 h0 y0 z0 f0 ⟨f1,hB,b0,c0⟩ a0 d0 l0
  have rk18:inI64 (w0:Int):=rngK f0 j0
  refine Al (Aj (Ar rfl rfl (Au rfl rfl (o_z ?_))))
  refine Al (Ce (·=y0) [(0,true),(1,true),(2,true),(3,true),(4,true),(5,true),(6,true),(7,true),(8,true)] (by kernel_rfl) rfl (by kernel_rfl) rfl ?_)
  refine AL rfl rfl rfl (AL rfl rfl rfl ?_)
  obtain ⟨g1,h1,a1,m0,n0,o0,rfl,i1,j1⟩:=b0.elem' f0
  refine Br (hA:=m0) (hj:=rfl) (hlt:=n0) rfl rfl rfl rfl ?_
  refine KX (hl:=rfl) (hc:=o0) rfl rfl rfl ?_
  refine AL rfl rfl rfl (AL rfl rfl rfl ?_)
  obtain ⟨k1,b1,a0⟩:=bs a0
  obtain ⟨l1,m1,c1,p0,q0,r0,rfl,n1,o1⟩:=c0.elem' b1
  refine Br (hA:=p0) (hj:=rfl) (hlt:=q0) rfl rfl rfl rfl ?_
  refine KX (hl:=rfl) (hc:=r0) rfl rfl rfl ?_
  refine Po rfl rfl rfl rfl (fun s0=>?_) fun s0=>?_
  ·
   replace a0:=ip a0 s0
   refine h_z ?_
   refine Ah rfl (Al (Aj (Au rfl rfl (o_z ?_))))
   refine AJ ?_
   obtain rfl:=sm a0
   obtain rfl:=d0 _ rfl
   obtain rfl:=sm (BM hm)
   exact ret1v rfl (AD rfl) ⟨hB.ext,vBool⟩
  replace a0:=im a0 s0
  refine h_z ?_
  refine Ae rfl (AM ?_)
  obtain rfl:=sm a0
  exact show Exists _ from ⟨_,(),rfl,⟨rfl,rfl,rfl,rfl,trivial⟩,_,hB,b0,c0⟩
 rintro p1 q1 ⟨r1,s1,rfl,t0,t1,hB⟩
 replace hm:=Be hm
 refine AO _ t0 ?_
 refine Al (Aj (Au rfl rfl (o_z ?_)))
 refine AJ ?_
 obtain rfl:=sm hm
 exact ret1v rfl (AD rfl) ⟨hB.ext,vBool⟩
noncomputable def BV (x0:List Int) (x1:Int):Option Bool :=
  if (x0.length:Int)≠x1 then (some false) else (bnd (mkI 1 (false:Bool) x1) fun u8=>bnd (rng (ρ:=Bool) (fun (k27:Nat) (a28:Int) (s25:(List Bool))=>bnd (if a28 < 0 then (some true) else (if x1≤a28 then (some true) else (bnd (atI s25 a28) fun a56=>some a56)):Option Bool) fun y50=>if y50=true then (some (.ret false)) else (bnd (atI s25 a28) fun a72=>some (.next (s25.set (a28:Int).toNat true)))) x0 0 u8) fun res23=>fin res23 fun (s89:(List Bool))=>some true)
theorem DX {w:World} {A:Nat→Prop} (hA:∀ k,A k→k < w.heap.size) {vx0:Value} {x0:List Int} (c0:Vb w A vx0 x0) {x1:Int} (rx1:inI64 x1) {r:Bool} (hm:BV x0 x1=some r) :
    Fn Tryz.prog 76 [vx0,(.int .i64 x1)] w fun v w'=>Ext w w'∧Vb w' (upA A w w') v r:=by
 obtain ⟨O,hB,i1⟩:=enter hA
 replace c0:=c0.mono i1
 obtain ⟨A3,c4,rfl⟩:=c0.form
 refine AK Tryz.func76 rfl Tryz.ntmps76 rfl ?_
 unfold BV at hm
 refine Al (Aj (Au rfl rfl (o_z ?_)))
 refine Al (Al (Aj (Ar rfl rfl (AY rfl rfl ?_))))
 have l6:x0.length≤9223372036854775807:=Nat.le_trans c0.len.2.1 c0.len.2.2
 have r5:inI64 (x0.length:Int):=rngNat l6
 refine Ar rfl rfl (Fp rfl rfl rfl (fun c7=>?_) fun c7=>?_)
 ·
  replace hm:=ip hm c7
  refine o_z ?_
  refine Ah rfl (Al (Aj (Au rfl rfl (o_z ?_))))
  refine AJ ?_
  obtain rfl:=sm hm
  exact ret1v rfl (AD rfl) ⟨hB.ext,vBool⟩
 replace hm:=im hm c7
 refine o_z ?_
 refine Ae rfl (AM (Al (Aj (Ar rfl rfl ?_))))
 obtain ⟨u8,e9,hm⟩:=bs hm
 obtain ⟨j0,j1,k1,l1,m1⟩:=CE e9
 refine Di 2 (by decide) O (z0:=(false:Bool)) rfl rfl rfl rfl rfl j1 vBool k1 l1 rfl fun k0 c2 n1 m0 e1=>?_
 rw [← m1] at e1 ⊢
 refine Au rfl rfl (o_z ?_)
 refine Al (Al (Aj (Ar rfl rfl (AY rfl rfl ?_))))
 replace c0:=c0.st m0
 have n0:x0.length≤9223372036854775807:=Nat.le_trans c0.len.2.1 c0.len.2.2
 have d2:inI64 (x0.length:Int):=rngNat n0
 refine Ar rfl rfl (o_z ?_)
 obtain ⟨g0,o0,hm⟩:=bs hm
 refine AH (aft g0 (fun (f0:(List Bool)) (l0:Unit)=>[]) (fun f0 l0 w'=>∃ O':Lab,Bs w A w' O')) ?_ ?_
 ·
  refine AU ?_
  replace hB:=hB.st m0
  refine Bu (σ:=(List Bool)) (X:=Unit) (x0.length) o0 rfl n0 (fun (f0:(List Bool)) (l0:Unit)=>[(1,(.int .i64 x1)),(5,(.slice (some ⟨k0,0,none⟩) u8.length j0)),(14,(.slice A3 x0.length c4))]) _ (fun f0 l0 w'=>∃ O':Lab,Bs w A w' O'∧Rw 2 w' O' 4 (.slice (some ⟨k0,0,none⟩) u8.length j0) f0∧Vb w' (Fr 0 w' O') (.slice A3 x0.length c4) x0) _ () ⟨n1,hB,e1,c0⟩ ⟨rfl,rfl,rfl,rfl,rfl,trivial⟩ (fun _ _=>⟨rfl,rfl⟩) (fun _ _=>trivial) (fun _ _ _ ⟨O',hB,d0,c0⟩=>⟨O',hB⟩) ⟨rfl,rfl,rfl⟩ ⟨rfl,rfl⟩ ?_
  rintro f1 o1 f0 l0 e2 p1 h0 ⟨f2,hB,d0,c0⟩ b0 e0 p0
  have rk27:inI64 (f1:Int):=rngK h0 n0
  refine Al (Aj ?_)
  obtain ⟨g2,h2,q1,q0,r0,s0,rfl,i2⟩:=c0.elem' h0
  refine Bv (hA:=q0) (hj:=rfl) (hlt:=r0) rfl rfl rfl ?_
  refine AG (hc:=cat0 s0) rfl rfl ?_
  refine Au rfl rfl (o_z ?_)
  refine Al (Al ?_)
  obtain ⟨r1,a0,b0⟩:=bs b0
  refine AH (fun l' w'=>∃ (s1:Unit) (O':Lab),subs l' [(1,(.int .i64 x1)),(5,(.slice (some ⟨k0,0,none⟩) u8.length j0)),(7,(.int .i64 o1)),(14,(.slice A3 x0.length c4)),(15,(.int .i64 (x0.length:Int))),(16,(.int .i64 (f1:Int))),(32,(.bool r1))]∧Bs w A w' O'∧Rw 2 w' O' 4 (.slice (some ⟨k0,0,none⟩) u8.length j0) f0∧Vb w' (Fr 0 w' O') (.slice A3 x0.length c4) x0) ?_ ?_
  ·
   refine Aj (Ar rfl rfl (Da rfl rfl rfl (fun t0=>?_) fun t0=>?_))
   ·
    replace a0:=ip a0 t0
    refine Ar rfl rfl (Ay rfl rfl rfl rfl (Ay rfl rfl rfl rfl (Ay rfl rfl rfl rfl (BA rfl rfl rfl (Ar rfl rfl (Ay rfl rfl rfl rfl (Ay rfl rfl rfl rfl (Ay rfl rfl rfl rfl (Ay rfl rfl rfl rfl (BA rfl rfl rfl (o_z ?_)))))))))))
    obtain rfl:=sm a0
    exact ⟨(),_,⟨rfl,rfl,rfl,rfl,rfl,rfl,rfl,trivial⟩,hB,d0,c0⟩
   replace a0:=im a0 t0
   refine Ar rfl rfl (Az rfl rfl (Ar rfl rfl (Az rfl rfl (Ar rfl rfl (Az rfl rfl (FK rfl rfl rfl (fun u0=>?_) fun u0=>?_))))))
   ·
    replace a0:=ip a0 u0
    refine BD rfl rfl rfl (Ar rfl rfl (Ay rfl rfl rfl rfl (Ay rfl rfl rfl rfl (Ay rfl rfl rfl rfl (Ay rfl rfl rfl rfl (BA rfl rfl rfl (o_z ?_)))))))
    obtain rfl:=sm a0
    exact ⟨(),_,⟨rfl,rfl,rfl,rfl,rfl,rfl,rfl,trivial⟩,hB,d0,c0⟩
   replace a0:=im a0 u0
   refine BD rfl rfl rfl (Ar rfl rfl (Az rfl rfl (Ar rfl rfl (Az rfl rfl (Ar rfl rfl (Az rfl rfl ?_))))))
   obtain ⟨j2,t1,a0⟩:=bs a0
   obtain ⟨u1,v1⟩:=AW t1
   obtain ⟨k2,l2,w1,v0,w0,y0,rfl⟩:=d0.elem v1
   refine Bv (hA:=v0) (hj:=(Int.toNat_of_nonneg u1).symm) (hlt:=w0) rfl rfl rfl ?_
   refine Az rfl rfl (AG (hc:=cat0 y0) rfl rfl ?_)
   refine BD rfl rfl rfl (o_z ?_)
   obtain rfl:=sm a0
   exact ⟨(),_,⟨rfl,rfl,rfl,rfl,rfl,rfl,rfl,trivial⟩,hB,d0,c0⟩
  rintro m2 n2 ⟨s1,o2,a1,hB,d0,c0⟩
  refine AO _ a1 ?_
  refine BK rfl (fun b1=>?_) (fun b1=>?_)
  ·
   replace b0:=ip b0 b1
   refine Al (Aj (Au rfl rfl (o_z ?_)))
   refine AJ ?_
   obtain rfl:=sm b0
   obtain rfl:=e0 _ rfl
   obtain rfl:=sm (BM hm)
   exact ret1v rfl (AD rfl) ⟨hB.ext,vBool⟩
  replace b0:=im' b0 b1
  refine AM (Aj (Ar rfl rfl (Ar rfl rfl ?_)))
  obtain ⟨p2,y1,b0⟩:=bs b0
  obtain ⟨z1,g1⟩:=AW y1
  obtain ⟨q2,r2,a2,i0,c1,b2,rfl⟩:=d0.elem g1
  refine Bv (hA:=i0) (hj:=(Int.toNat_of_nonneg z1).symm) (hlt:=c1) rfl rfl rfl ?_
  refine Dj rfl d0 (a:=true) vBool i0 rfl rfl (AE g1) fun s2 h1 d0=>?_
  refine o_z ?_
  obtain rfl:=sm b0
  exact show Exists _ from ⟨_,(),rfl,⟨rfl,rfl,rfl,rfl,rfl,trivial⟩,_,hB.st h1,d0,c0.st h1⟩
 replace hB:=hB.st m0
 rintro t2 u2 ⟨v2,w2,rfl,d1,x2,hB⟩
 replace hm:=Be hm
 refine AO _ d1 ?_
 refine Al (Aj (Au rfl rfl (o_z ?_)))
 refine AJ ?_
 obtain rfl:=sm hm
 exact ret1v rfl (AD rfl) ⟨hB.ext,vBool⟩
noncomputable def DH (x0:Tsk) (x1:Swp):Option Bool :=
  bnd (bnd (BV x1.vars (x0.vars.length:Int)) fun q49=>if q49=true then if (x1.vals.length:Int)≠(x0.vars.length:Int) then (some true) else (some false) else some true:Option Bool) fun y43=>if y43=true then (some false) else (bnd (rng (ρ:=Bool) (fun (k72:Nat) (a73:Int) (s70:Unit)=>bnd (bnd (x1.vars[k72]?) fun a95=>bnd (atI x0.vars a95) fun a105=>if a105≠a73 then (some true) else (bnd (x1.vals[k72]?) fun a118=>bnd (BV a118 a73) fun q131=>if q131=true then some false else some true):Option Bool) fun y91=>if y91=true then (some (.ret false)) else (some (.next ()))) x0.vars 0 ()) fun res68=>fin res68 fun (s147:Unit)=>some true)
theorem Jc {w:World} {A:Nat→Prop} (hA:∀ k,A k→k < w.heap.size) {vx0:Value} {x0:Tsk} (d2:Vb w A vx0 x0) {vx1:Value} {x1:Swp} (e2:Vb w A vx1 x1) {r:Bool} (hm:DH x0 x1=some r) :
    Fn Tryz.prog 75 [vx0,vx1] w fun v w'=>Ext w w'∧Vb w' (upA A w w') v r:=by
 obtain ⟨O,hB,x2⟩:=enter hA
 replace d2:=d2.mono x2
 obtain ⟨s4,rfl,v4,v5,v6,v7,rfl,h8,l0,m0,n0⟩:=d2
 obtain ⟨A9,p0,rfl⟩:=h8.form
 obtain ⟨r0,s0,rfl⟩:=l0.form
 obtain ⟨t0,u0,rfl⟩:=m0.form
 obtain ⟨v0,w0,rfl⟩:=n0.form
 replace e2:=e2.mono x2
 obtain ⟨e3,rfl,t4,u4,w4,rfl,j0,h0,o0⟩:=e2
 obtain ⟨y0,z0,rfl⟩:=j0.form
 obtain ⟨a1,b1,rfl⟩:=h0.form
 obtain ⟨c1,d1,rfl⟩:=o0.form
 refine AK Tryz.func75 rfl Tryz.ntmps75 rfl ?_
 unfold DH at hm
 refine Al (Aj (BS 2 O rfl rfl fun e1 f3 y2 d0 g0=>?_))
 replace g0:Lc 2 f3 y2 e1 26 [(.slice A9 x0.vars.length p0),(.slice r0 x0.init.length s0),(.slice t0 x0.goal.length u0),(.slice v0 x0.ops.length w0)]:=g0
 refine BS 3 y2 rfl rfl fun f1 f2 g2 c0 i0=>?_
 replace i0:Lc 3 f2 g2 f1 53 [(.slice y0 x1.vars.length z0),(.slice a1 x1.vals.length b1),(.slice c1 x1.ops.length d1)]:=i0
 refine Au rfl rfl (o_z ?_)
 refine Al (Al ?_)
 obtain ⟨g3,e0,hm⟩:=bs hm
 refine AH (fun l' w'=>∃ (h3:Unit) (O':Lab),subs l' [(2,(.pointer (some ⟨e1,0,none⟩))),(3,(.pointer (some ⟨f1,0,none⟩))),(22,(.bool g3))]∧Bs w A w' O'∧Lc 2 w' O' e1 26 [(.slice A9 x0.vars.length p0),(.slice r0 x0.init.length s0),(.slice t0 x0.goal.length u0),(.slice v0 x0.ops.length w0)]∧Vb w' (Fr 0 w' O') (.slice A9 x0.vars.length p0) x0.vars∧Vb w' (Fr 0 w' O') (.slice r0 x0.init.length s0) x0.init∧Vb w' (Fr 0 w' O') (.slice t0 x0.goal.length u0) x0.goal∧Vb w' (Fr 0 w' O') (.slice v0 x0.ops.length w0) x0.ops∧Lc 3 w' O' f1 53 [(.slice y0 x1.vars.length z0),(.slice a1 x1.vals.length b1),(.slice c1 x1.ops.length d1)]∧Vb w' (Fr 0 w' O') (.slice y0 x1.vars.length z0) x1.vars∧Vb w' (Fr 0 w' O') (.slice a1 x1.vals.length b1) x1.vals∧Vb w' (Fr 0 w' O') (.slice c1 x1.ops.length d1) x1.ops) ?_ ?_
 ·
  refine Aj (AN rfl rfl (AG (hc:=Blk.cell (i:=0) (i0.1) rfl) rfl rfl ?_))
  refine AN rfl rfl ?_
  replace g0:=g0.st c0
  refine AG (hc:=Blk.cell (i:=0) (g0.1) rfl) rfl rfl ?_
  refine AY rfl rfl ?_
  replace h8:=(h8.st d0).st c0
  have i3:x0.vars.length≤9223372036854775807:=Nat.le_trans h8.len.2.1 h8.len.2.2
  have j3:inI64 (x0.vars.length:Int):=rngNat i3
  obtain ⟨z2,k3,e0⟩:=bs e0
  replace j0:=(j0.st d0).st c0
  refine Bi (O:=g2) (A:=All f2) (R:=fun w' F v=>Vb w' F v z2) (DX (fun _ h=>h) (Vb.mono (F:=Fr 0 f2 g2) j0 Fr.lt) j3 k3) rfl rfl fun x4 y4 z4 f0 l3=>?_
  obtain rfl:=l3.bool
  cases z2
  case false =>
   replace e0:=iF e0
   refine Ct rfl rfl (Ar rfl rfl (Ay rfl rfl rfl rfl (Ay rfl rfl rfl rfl (Ay rfl rfl rfl rfl (Ay rfl rfl rfl rfl (Ay rfl rfl rfl rfl (Ay rfl rfl rfl rfl (Ay rfl rfl rfl rfl (BA rfl rfl rfl (o_z ?_))))))))))
   obtain rfl:=sm e0
   exact ⟨(),_,⟨rfl,rfl,rfl,trivial⟩,((hB.st d0).st c0).st f0,g0.st f0,h8.st f0,((l0.st d0).st c0).st f0,((m0.st d0).st c0).st f0,((n0.st d0).st c0).st f0,i0.st f0,j0.st f0,((h0.st d0).st c0).st f0,((o0.st d0).st c0).st f0⟩
  replace e0:=iT e0
  refine Cs rfl rfl (Ar rfl rfl (Az rfl rfl (AN rfl rfl (Az rfl rfl ?_))))
  replace i0:=i0.st f0
  refine AG (hc:=Blk.cell (i:=1) (i0.1) rfl) rfl rfl ?_
  refine Az rfl rfl (AY rfl rfl ?_)
  replace h0:=((h0.st d0).st c0).st f0
  have m3:x1.vals.length≤9223372036854775807:=Nat.le_trans h0.len.2.1 h0.len.2.2
  have a5:inI64 (x1.vals.length:Int):=rngNat m3
  refine Az rfl rfl (AN rfl rfl (Az rfl rfl ?_))
  replace g0:=g0.st f0
  refine AG (hc:=Blk.cell (i:=0) (g0.1) rfl) rfl rfl ?_
  refine Az rfl rfl (AY rfl rfl ?_)
  replace h8:=h8.st f0
  have n3:x0.vars.length≤9223372036854775807:=Nat.le_trans h8.len.2.1 h8.len.2.2
  have b5:inI64 (x0.vars.length:Int):=rngNat n3
  refine Az rfl rfl (Fp rfl rfl rfl (fun h2=>?_) fun h2=>?_)
  ·
   replace e0:=ip e0 h2
   refine BD rfl rfl rfl (o_z ?_)
   obtain rfl:=sm e0
   exact ⟨(),_,⟨rfl,rfl,rfl,trivial⟩,((hB.st d0).st c0).st f0,g0,h8,((l0.st d0).st c0).st f0,((m0.st d0).st c0).st f0,((n0.st d0).st c0).st f0,i0,j0.st f0,h0,((o0.st d0).st c0).st f0⟩
  replace e0:=im e0 h2
  refine BD rfl rfl rfl (o_z ?_)
  obtain rfl:=sm e0
  exact ⟨(),_,⟨rfl,rfl,rfl,trivial⟩,((hB.st d0).st c0).st f0,g0,h8,((l0.st d0).st c0).st f0,((m0.st d0).st c0).st f0,((n0.st d0).st c0).st f0,i0,j0.st f0,h0,((o0.st d0).st c0).st f0⟩
 replace hB:=(hB.st d0).st c0
 replace h8:=(h8.st d0).st c0
 replace l0:=(l0.st d0).st c0
 replace m0:=(m0.st d0).st c0
 replace n0:=(n0.st d0).st c0
 replace j0:=(j0.st d0).st c0
 replace h0:=(h0.st d0).st c0
 replace o0:=(o0.st d0).st c0
 replace g0:=g0.st c0
 rintro c5 d5 ⟨h3,o3,i2,hB,g0,h8,l0,m0,n0,i0,j0,h0,o0⟩
 refine AO _ i2 ?_
 refine BK rfl (fun j2=>?_) (fun j2=>?_)
 ·
  replace hm:=ip hm j2
  refine Al (Aj (Au rfl rfl (o_z ?_)))
  refine AJ ?_
  obtain rfl:=sm hm
  exact ret1v rfl (AD rfl) ⟨hB.ext,vBool⟩
 replace hm:=im' hm j2
 refine AM (Al (Al (Aj (AN rfl rfl (AG (hc:=Blk.cell (i:=0) (g0.1) rfl) rfl rfl ?_)))))
 refine AY rfl rfl ?_
 have k2:x0.vars.length≤9223372036854775807:=Nat.le_trans h8.len.2.1 h8.len.2.2
 have e5:inI64 (x0.vars.length:Int):=rngNat k2
 refine Ar rfl rfl (o_z ?_)
 obtain ⟨j1,l2,hm⟩:=bs hm
 refine AH (aft j1 (fun (b2:Unit) (c2:Unit)=>[]) (fun b2 c2 w'=>∃ O':Lab,Bs w A w' O')) ?_ ?_
 ·
  refine AU (Bu (σ:=Unit) (X:=Unit) (x0.vars.length) l2 rfl k2 (fun (b2:Unit) (c2:Unit)=>[(2,(.pointer (some ⟨e1,0,none⟩))),(3,(.pointer (some ⟨f1,0,none⟩))),(24,(.slice A9 x0.vars.length p0))]) _ (fun b2 c2 w'=>∃ O':Lab,Bs w A w' O'∧Lc 2 w' O' e1 26 [(.slice A9 x0.vars.length p0),(.slice r0 x0.init.length s0),(.slice t0 x0.goal.length u0),(.slice v0 x0.ops.length w0)]∧Vb w' (Fr 0 w' O') (.slice A9 x0.vars.length p0) x0.vars∧Vb w' (Fr 0 w' O') (.slice r0 x0.init.length s0) x0.init∧Vb w' (Fr 0 w' O') (.slice t0 x0.goal.length u0) x0.goal∧Vb w' (Fr 0 w' O') (.slice v0 x0.ops.length w0) x0.ops∧Lc 3 w' O' f1 53 [(.slice y0 x1.vars.length z0),(.slice a1 x1.vals.length b1),(.slice c1 x1.ops.length d1)]∧Vb w' (Fr 0 w' O') (.slice y0 x1.vars.length z0) x1.vars∧Vb w' (Fr 0 w' O') (.slice a1 x1.vals.length b1) x1.vals∧Vb w' (Fr 0 w' O') (.slice c1 x1.ops.length d1) x1.ops) _ () ⟨o3,hB,g0,h8,l0,m0,n0,i0,j0,h0,o0⟩ ⟨rfl,rfl,rfl,rfl,rfl,trivial⟩ (fun _ _=>⟨rfl,rfl⟩) (fun _ _=>trivial) (fun _ _ _ ⟨O',hB,g0,h8,l0,m0,n0,i0,j0,h0,o0⟩=>⟨O',hB⟩) ⟨rfl,rfl,rfl⟩ ⟨rfl,rfl⟩ ?_)
  rintro a3 f5 b2 c2 b3 p3 k1 ⟨m2,hB,g0,h8,l0,m0,n0,i0,j0,h0,o0⟩ k0 g1 n2
  have rk72:inI64 (a3:Int):=rngK k1 k2
  refine Al (Aj (Ar rfl rfl ?_))
  obtain ⟨g5,h5,q3,o2,p2,q2,rfl,r3⟩:=h8.elem' k1
  refine Bv (hA:=o2) (hj:=rfl) (hlt:=p2) rfl rfl rfl ?_
  refine AG (hc:=cat0 q2) rfl rfl ?_
  refine Au rfl rfl (Au rfl rfl (o_z ?_))
  refine Al ?_
  obtain ⟨s3,b0,k0⟩:=bs k0
  refine AH (fun l' w'=>∃ (t3:Unit) (O':Lab),subs l' [(2,(.pointer (some ⟨e1,0,none⟩))),(3,(.pointer (some ⟨f1,0,none⟩))),(24,(.slice A9 x0.vars.length p0)),(25,(.int .i64 (x0.vars.length:Int))),(26,(.int .i64 (a3:Int))),(51,(.bool s3))]∧Bs w A w' O'∧Lc 2 w' O' e1 26 [(.slice A9 x0.vars.length p0),(.slice r0 x0.init.length s0),(.slice t0 x0.goal.length u0),(.slice v0 x0.ops.length w0)]∧Vb w' (Fr 0 w' O') (.slice A9 x0.vars.length p0) x0.vars∧Vb w' (Fr 0 w' O') (.slice r0 x0.init.length s0) x0.init∧Vb w' (Fr 0 w' O') (.slice t0 x0.goal.length u0) x0.goal∧Vb w' (Fr 0 w' O') (.slice v0 x0.ops.length w0) x0.ops∧Lc 3 w' O' f1 53 [(.slice y0 x1.vars.length z0),(.slice a1 x1.vals.length b1),(.slice c1 x1.ops.length d1)]∧Vb w' (Fr 0 w' O') (.slice y0 x1.vars.length z0) x1.vars∧Vb w' (Fr 0 w' O') (.slice a1 x1.vals.length b1) x1.vals∧Vb w' (Fr 0 w' O') (.slice c1 x1.ops.length d1) x1.ops) ?_ ?_
  ·
   refine Bt [] m2 ?_
   refine AT (fuel:=3) [] [(0,true),(1,true),(2,true),(3,true),(4,true),(5,true),(6,true),(7,true),(8,true),(9,true),(10,true),(11,true),(12,true),(13,true),(14,true),(15,true),(16,true),(17,true)] (by kernel_rfl) rfl ?_
   refine Bc rfl rfl rfl (AV (hc:=fun w' ⟨O',hq⟩=>Blk.cell (i:=0) ((g0.st hq (by decide)).1) rfl) rfl rfl rfl ?_)
   refine Bc rfl rfl rfl (AV (hc:=fun w' ⟨O',hq⟩=>Blk.cell (i:=0) ((i0.st hq (by decide)).1) rfl) rfl rfl rfl ?_)
   refine AL rfl rfl rfl ?_
   obtain ⟨i5,u3,b0⟩:=bs b0
   obtain ⟨j5,k5,v3,l1,m1,n1,o1,rfl,w3⟩:=j0.elem u3
   refine Br (hA:=l1) (hj:=rfl) (hlt:=n1) rfl rfl rfl rfl ?_
   refine AV (hc:=fun w' ⟨O',hq⟩=>cat0 (AR (hq.agree (i:=0) (by decide)) m1 o1)) rfl rfl rfl ?_
   obtain ⟨x3,r2,b0⟩:=bs b0
   obtain ⟨s2,t2⟩:=AW r2
   obtain ⟨y3,z3,c3,p1,q1,r1,s1,rfl,a4⟩:=h8.elem t2
   refine Br (hA:=p1) (hj:=(Int.toNat_of_nonneg s2).symm) (hlt:=r1) rfl rfl rfl rfl ?_
   refine AV (hc:=fun w' ⟨O',hq⟩=>cat0 (AR (hq.agree (i:=0) (by decide)) q1 s1)) rfl rfl rfl ?_
   refine AL rfl rfl rfl (Hm rfl rfl rfl rfl (fun h1=>?_) fun h1=>?_)
   ·
    replace b0:=ip b0 h1
    refine AL rfl rfl rfl (Bd rfl rfl rfl rfl rfl (Bd rfl rfl rfl rfl rfl (Bd rfl rfl rfl rfl rfl (Bd rfl rfl rfl rfl rfl (Bd rfl rfl rfl rfl rfl (Bd rfl rfl rfl rfl rfl (AC ?_)))))))
    refine AP (i:=18) (by kernel_rfl) rfl ?_
    refine Ay rfl rfl rfl rfl (AX [] ((St.refl nT _ _).lst [] (fun _ h=>h.elim)) (by kernel_rfl) ?_)
    refine AT (fuel:=0) [] [(19,true),(20,true)] (by kernel_rfl) rfl ?_
    refine Bd rfl rfl rfl rfl rfl (Cf rfl rfl rfl rfl (AC ?_))
    refine Bn (by kernel_rfl) ?_
    obtain rfl:=sm b0
    exact ⟨(),_,⟨rfl,rfl,rfl,rfl,rfl,rfl,trivial⟩,hB,g0,h8,l0,m0,n0,i0,j0,h0,o0⟩
   replace b0:=im b0 h1
   refine AL rfl rfl rfl (AA rfl (Aw rfl rfl (BH rfl rfl (AA rfl (Aw rfl rfl (Dp (hc:=fun w' ⟨O',hq⟩=>Blk.cell (i:=1) ((i0.st hq (by decide)).1) rfl) rfl rfl ?_))))))
   refine AA rfl (Aw rfl rfl (Cg rfl rfl (AA rfl (Aw rfl rfl ?_))))
   obtain ⟨b4,u2,b0⟩:=bs b0
   obtain ⟨c4,d4,d3,t1,u1,v1,w1,e4,rfl,q0⟩:=h0.elem u2
   replace q0:=Vb.of_slice q0
   obtain ⟨f4,g4,rfl⟩:=q0.form
   refine IC (hA:=t1) (hj:=rfl) (hlt:=v1) rfl rfl rfl ?_
   refine AA rfl (Aw rfl rfl (Dp (hc:=fun w' ⟨O',hq⟩=>cat0 (AR (hq.agree (i:=0) (by decide)) u1 w1)) rfl rfl ?_))
   refine AA rfl (Aw rfl rfl (Cg rfl rfl (AC ?_)))
   refine AP (i:=18) (by kernel_rfl) rfl ?_
   refine Az rfl rfl ?_
   obtain ⟨y1,v2,b0⟩:=bs b0
   refine Bi (O:=m2) (A:=All b3) (R:=fun w' F v=>Vb w' F v y1) (DX (fun _ h=>h) (Vb.mono (F:=Fr 0 b3 m2) q0 Fr.lt) r3 v2) rfl rfl fun h4 i4 j4 a0 w2=>?_
   obtain rfl:=w2.bool
   have hZ:=a0.lst [] (fun _ h=>h.elim)
   cases y1
   case false =>
    replace b0:=iF b0
    refine AX [] hZ (by kernel_rfl) ?_
    refine AT (fuel:=0) [] [(19,true),(20,true)] (by kernel_rfl) rfl ?_
    refine AA rfl (Aw rfl rfl (GB rfl rfl (BN rfl rfl rfl rfl (AC ?_))))
    refine Bn (by kernel_rfl) ?_
    obtain rfl:=sm b0
    exact ⟨(),_,⟨rfl,rfl,rfl,rfl,rfl,rfl,trivial⟩,hB.st a0,g0.st a0,h8.st a0,l0.st a0,m0.st a0,n0.st a0,i0.st a0,j0.st a0,h0.st a0,o0.st a0⟩
   replace b0:=iT b0
   refine AX [] hZ (by kernel_rfl) ?_
   refine AT (fuel:=0) [] [(19,true),(20,true)] (by kernel_rfl) rfl ?_
   refine AA rfl (Aw rfl rfl (GA rfl rfl (BN rfl rfl rfl rfl (AC ?_))))
   refine Bn (by kernel_rfl) ?_
   obtain rfl:=sm b0
   exact ⟨(),_,⟨rfl,rfl,rfl,rfl,rfl,rfl,trivial⟩,hB.st a0,g0.st a0,h8.st a0,l0.st a0,m0.st a0,n0.st a0,i0.st a0,j0.st a0,h0.st a0,o0.st a0⟩
  rintro k4 l4 ⟨t3,m4,z1,hB,g0,h8,l0,m0,n0,i0,j0,h0,o0⟩
  refine AO _ z1 ?_
  refine BK rfl (fun i1=>?_) (fun i1=>?_)
  ·
   replace k0:=ip k0 i1
   refine Al (Aj (Au rfl rfl (o_z ?_)))
   refine AJ ?_
   obtain rfl:=sm k0
   obtain rfl:=g1 _ rfl
   obtain rfl:=sm (BM hm)
   exact ret1v rfl (AD rfl) ⟨hB.ext,vBool⟩
  replace k0:=im' k0 i1
  refine AM ?_
  obtain rfl:=sm k0
  exact show Exists _ from ⟨_,(),rfl,⟨rfl,rfl,rfl,rfl,rfl,trivial⟩,_,hB,g0,h8,l0,m0,n0,i0,j0,h0,o0⟩
 rintro n4 o4 ⟨p4,q4,rfl,a2,r4,hB⟩
 replace hm:=Be hm
 refine AO _ a2 ?_
 refine Al (Aj (Au rfl rfl (o_z ?_)))
 refine AJ ?_
 obtain rfl:=sm hm
 exact ret1v rfl (AD rfl) ⟨hB.ext,vBool⟩
noncomputable def Cv (x0:Swp) (x1:List Int):Option (List Int) :=
  bnd (mkI 8 (0:Int) (x1.length:Int)) fun u25=>bnd (rng (ρ:=(List Int)) (fun (k44:Nat) (a45:Int) (s42:(List Int))=>bnd (x0.vars[k44]?) fun a67=>bnd (x0.vals[k44]?) fun a77=>bnd (atI a77 a45) fun a90=>bnd (atI s42 a67) fun a102=>some (.next (s42.set (a67:Int).toNat a90))) x1 0 u25) fun res40=>fin res40 fun (s120:(List Int))=>some s120
theorem Jd {w:World} {A:Nat→Prop} (hA:∀ k,A k→k < w.heap.size) {vx0:Value} {x0:Swp} (w0:Vb w A vx0 x0) {vx1:Value} {x1:List Int} (b0:Vb w A vx1 x1) {r:(List Int)} (hm:Cv x0 x1=some r) :
    Fn Tryz.prog 86 [vx0,vx1] w fun v w'=>Ext w w'∧Vb w' (upA A w w') v r:=by
 obtain ⟨O,hB,d2⟩:=enter hA
 replace w0:=w0.mono d2
 obtain ⟨p3,rfl,v4,v5,v6,rfl,h7,f0,h0⟩:=w0
 obtain ⟨A8,c9,rfl⟩:=h7.form
 obtain ⟨y0,a1,rfl⟩:=f0.form
 obtain ⟨b1,c1,rfl⟩:=h0.form
 replace b0:=b0.mono d2
 obtain ⟨e2,f2,rfl⟩:=b0.form
 refine AK Tryz.func86 rfl Tryz.ntmps86 rfl ?_
 unfold Cv at hm
 refine Al (Aj (BS 2 O rfl rfl fun d1 l2 g2 j0 d0=>?_))
 replace d0:Lc 2 l2 g2 d1 53 [(.slice A8 x0.vars.length c9),(.slice y0 x0.vals.length a1),(.slice b1 x0.ops.length c1)]:=d0
 refine Au rfl rfl (o_z ?_)
 refine Al (Aj (Ar rfl rfl (AY rfl rfl ?_)))
 replace b0:=b0.st j0
 have m2:x1.length≤9223372036854775807:=Nat.le_trans b0.len.2.1 b0.len.2.2
 have q3:inI64 (x1.length:Int):=rngNat m2
 obtain ⟨r0,n2,hm⟩:=bs hm
 obtain ⟨s0,o2,p2,q2,r2⟩:=CE n2
 refine Di 3 (by decide) g2 (z0:=(0:Int)) rfl rfl rfl rfl rfl o2 (vInt (show inI64 0 from by decide)) p2 q2 rfl fun t0 r3 s2 i0 h2=>?_
 rw [← r2] at h2 ⊢
 refine Au rfl rfl (o_z ?_)
 refine Al (Al (Aj (Ar rfl rfl (AY rfl rfl ?_))))
 replace b0:=b0.st i0
 have e1:x1.length≤9223372036854775807:=Nat.le_trans b0.len.2.1 b0.len.2.2
 have s3:inI64 (x1.length:Int):=rngNat e1
 refine Ar rfl rfl (o_z ?_)
 obtain ⟨l0,f1,hm⟩:=bs hm
 refine AH (aft l0 (fun (k0:(List Int)) (u0:Unit)=>[(5,(.slice (some ⟨t0,0,none⟩) r0.length s0))]) (fun k0 u0 w'=>∃ O':Lab,Bs w A w' O'∧Rw 3 w' O' 3 (.slice (some ⟨t0,0,none⟩) r0.length s0) k0)) ?_ ?_
 ·
  refine AU ?_
  replace hB:=(hB.st j0).st i0
  replace h7:=(h7.st j0).st i0
  replace f0:=(f0.st j0).st i0
  replace h0:=(h0.st j0).st i0
  replace d0:=d0.st i0
  refine Bu (σ:=(List Int)) (X:=Unit) (x1.length) f1 rfl e1 (fun (k0:(List Int)) (u0:Unit)=>[(2,(.pointer (some ⟨d1,0,none⟩))),(5,(.slice (some ⟨t0,0,none⟩) r0.length s0)),(11,(.slice e2 x1.length f2))]) _ (fun k0 u0 w'=>∃ O':Lab,Bs w A w' O'∧Lc 2 w' O' d1 53 [(.slice A8 x0.vars.length c9),(.slice y0 x0.vals.length a1),(.slice b1 x0.ops.length c1)]∧Vb w' (Fr 0 w' O') (.slice A8 x0.vars.length c9) x0.vars∧Vb w' (Fr 0 w' O') (.slice y0 x0.vals.length a1) x0.vals∧Vb w' (Fr 0 w' O') (.slice b1 x0.ops.length c1) x0.ops∧Rw 3 w' O' 3 (.slice (some ⟨t0,0,none⟩) r0.length s0) k0∧Vb w' (Fr 0 w' O') (.slice e2 x1.length f2) x1) _ () ⟨s2,hB,d0,h7,f0,h0,h2,b0⟩ ⟨rfl,rfl,rfl,rfl,rfl,trivial⟩ (fun _ _=>⟨rfl,rfl⟩) (fun _ _=>⟨rfl,trivial⟩) (fun _ _ _ ⟨O',hB,d0,h7,f0,h0,e0,b0⟩=>⟨O',hB,e0⟩) ⟨rfl,rfl,rfl⟩ ⟨rfl,rfl⟩ ?_
  rintro t2 t3 k0 u0 u3 u2 m0 ⟨v2,hB,d0,h7,f0,h0,e0,b0⟩ a0 g1 h1
  have rk44:inI64 (t2:Int):=rngK m0 e1
  refine Al (Aj (Ar rfl rfl ?_))
  obtain ⟨v3,w3,w2,i1,j1,k1,rfl,x3⟩:=b0.elem' m0
  refine Bv (hA:=i1) (hj:=rfl) (hlt:=j1) rfl rfl rfl ?_
  refine AG (hc:=cat0 k1) rfl rfl ?_
  refine Au rfl rfl (Au rfl rfl (o_z ?_))
  refine Bt [] v2 ?_
  refine AT (fuel:=1) [] [(0,true),(1,true),(2,true),(3,true),(4,true),(5,true),(6,true),(7,true),(8,true),(9,true),(10,true),(11,true),(12,true),(13,true),(14,true)] (by kernel_rfl) rfl ?_
  refine AL rfl rfl rfl (Bc rfl rfl rfl (AV (hc:=fun w' ⟨O',hq⟩=>Blk.cell (i:=0) ((d0.st hq (by decide)).1) rfl) rfl rfl rfl ?_))
  refine AL rfl rfl rfl ?_
  obtain ⟨y3,x2,a0⟩:=bs a0
  obtain ⟨z3,a4,y2,l1,m1,n1,o1,rfl,b4⟩:=h7.elem x2
  refine Br (hA:=l1) (hj:=rfl) (hlt:=n1) rfl rfl rfl rfl ?_
  refine AV (hc:=fun w' ⟨O',hq⟩=>cat0 (AR (hq.agree (i:=0) (by decide)) m1 o1)) rfl rfl rfl ?_
  refine Bc rfl rfl rfl (AV (hc:=fun w' ⟨O',hq⟩=>Blk.cell (i:=1) ((d0.st hq (by decide)).1) rfl) rfl rfl rfl ?_)
  refine AL rfl rfl rfl ?_
  obtain ⟨c4,z2,a0⟩:=bs a0
  obtain ⟨d4,e4,a3,p1,q1,r1,s1,f4,rfl,v0⟩:=f0.elem z2
  replace v0:=Vb.of_slice v0
  obtain ⟨g4,h4,rfl⟩:=v0.form
  refine Br (hA:=p1) (hj:=rfl) (hlt:=r1) rfl rfl rfl rfl ?_
  refine AV (hc:=fun w' ⟨O',hq⟩=>cat0 (AR (hq.agree (i:=0) (by decide)) q1 s1)) rfl rfl rfl ?_
  refine AL rfl rfl rfl ?_
  obtain ⟨b3,c3,a0⟩:=bs a0
  obtain ⟨d3,e3⟩:=AW c3
  obtain ⟨i4,j4,f3,t1,n0,u1,v1,rfl,w1⟩:=v0.elem e3
  refine Br (hA:=t1) (hj:=(Int.toNat_of_nonneg d3).symm) (hlt:=u1) rfl rfl rfl rfl ?_
  refine AV (hc:=fun w' ⟨O',hq⟩=>cat0 (AR (hq.agree (i:=0) (by decide)) n0 v1)) rfl rfl rfl ?_
  obtain ⟨g3,y1,a0⟩:=bs a0
  obtain ⟨z1,o0⟩:=AW y1
  obtain ⟨h3,i3,i2,g0,j2,p0,k2,rfl,j3⟩:=e0.elemF o0
  refine Br (hA:=g0) (hj:=(Int.toNat_of_nonneg z1).symm) (hlt:=p0) rfl rfl rfl rfl ?_
  refine AC ?_
  refine AP (i:=15) (by kernel_rfl) rfl ?_
  refine Dj rfl e0 (a:=b3) (vInt w1) g0 rfl rfl (AE o0) fun k3 c0 e0=>?_
  refine BZ (by kernel_rfl) ?_
  refine Bn (by kernel_rfl) ?_
  obtain rfl:=sm a0
  exact show Exists _ from ⟨_,(),rfl,⟨rfl,rfl,rfl,rfl,rfl,trivial⟩,_,hB.st c0,d0.st c0,h7.st c0,f0.st c0,h0.st c0,e0,b0.st c0⟩
 replace hB:=(hB.st j0).st i0
 rintro l3 a2 ⟨m3,n3,rfl,q0,o3,hB,e0⟩
 replace hm:=Be hm
 refine AO _ q0 ?_
 refine Al (Aj (Ar rfl rfl (Au rfl rfl (o_z ?_))))
 refine AJ ?_
 obtain ⟨b2,c2,e0⟩:=e0.freeze
 obtain rfl:=sm hm
 replace hB:=hB.st c2
 exact ret1v rfl (AD rfl) ⟨hB.ext,(Vb.mono (F:=Fr 0 a2 b2) e0 hB.out)⟩
noncomputable def Dc (x0:Eff) (x1:Eff):Option Bool :=
  bnd (if x0.var=x1.var then (if x0.val=x1.val then (bnd (BF x0.cond x1.cond) fun q33=>if q33=true then some true else some false) else (some false)) else (some false):Option Bool) fun y27=>some y27
theorem HN {w:World} {A:Nat→Prop} (hA:∀ k,A k→k < w.heap.size) {vx0:Value} {x0:Eff} (i0:Vb w A vx0 x0) {vx1:Value} {x1:Eff} (j0:Vb w A vx1 x1) {r:Bool} (hm:Dc x0 x1=some r) :
    Fn Tryz.prog 100 [vx0,vx1] w fun v w'=>Ext w w'∧Vb w' (upA A w w') v r:=by
 obtain ⟨O,hB,n0⟩:=enter hA
 replace i0:=i0.mono n0
 obtain ⟨c1,rfl,v4,rfl,h5,r8,r9⟩:=i0
 obtain ⟨A6,c7,rfl⟩:=h5.form
 replace j0:=j0.mono n0
 obtain ⟨r0,rfl,d1,rfl,f0,e1,f1⟩:=j0
 obtain ⟨s0,t0,rfl⟩:=f0.form
 refine AK Tryz.func100 rfl Tryz.ntmps100 rfl ?_
 unfold Dc at hm
 refine Al (Aj (BS 2 O rfl rfl fun u0 v0 o0 c0 d0=>?_))
 replace d0:Lc 2 v0 o0 u0 47 [(.slice A6 x0.cond.length c7),(.int .i64 x0.var),(.int .i64 x0.val)]:=d0
 refine BS 3 o0 rfl rfl fun w0 g0 h0 b0 e0=>?_
 replace e0:Lc 3 g0 h0 w0 47 [(.slice s0 x1.cond.length t0),(.int .i64 x1.var),(.int .i64 x1.val)]:=e0
 refine Au rfl rfl (o_z ?_)
 refine Al ?_
 obtain ⟨y0,a0,hm⟩:=bs hm
 refine AH (fun l' w'=>∃ (z0:Unit) (O':Lab),subs l' [(4,(.bool y0))]∧Bs w A w' O') ?_ ?_
 ·
  refine Aj (AN rfl rfl ?_)
  replace d0:=d0.st b0
  refine AG (hc:=Blk.cell (i:=1) (d0.1) rfl) rfl rfl ?_
  refine AN rfl rfl (AG (hc:=Blk.cell (i:=1) (e0.1) rfl) rfl rfl ?_)
  refine EP rfl rfl rfl (fun k0=>?_) fun k0=>?_
  ·
   replace a0:=ip a0 k0
   refine Ar rfl rfl (Az rfl rfl (AN rfl rfl (Az rfl rfl (AG (hc:=Blk.cell (i:=2) (d0.1) rfl) rfl rfl ?_))))
   refine Az rfl rfl (AN rfl rfl (Az rfl rfl (AG (hc:=Blk.cell (i:=2) (e0.1) rfl) rfl rfl ?_)))
   refine Az rfl rfl (EP rfl rfl rfl (fun l0=>?_) fun l0=>?_)
   ·
    replace a0:=ip a0 l0
    refine BA rfl rfl rfl (Ar rfl rfl (Az rfl rfl (AN rfl rfl (Az rfl rfl (AG (hc:=Blk.cell (i:=0) (d0.1) rfl) rfl rfl ?_)))))
    refine Az rfl rfl (AN rfl rfl (Az rfl rfl (AG (hc:=Blk.cell (i:=0) (e0.1) rfl) rfl rfl ?_)))
    refine Az rfl rfl ?_
    obtain ⟨p0,a1,a0⟩:=bs a0
    replace h5:=(h5.st c0).st b0
    replace f0:=(f0.st c0).st b0
    refine Bi (O:=h0) (A:=All g0) (R:=fun w' F v=>Vb w' F v p0) (CO (fun _ h=>h) (Vb.mono (F:=Fr 0 g0 h0) h5 Fr.lt) (Vb.mono (F:=Fr 0 g0 h0) f0 Fr.lt) a1) rfl rfl fun g1 h1 i1 q0 b1=>?_
    obtain rfl:=b1.bool
    cases p0
    case false =>
     replace a0:=iF a0
     refine BA rfl rfl rfl (Au rfl rfl (o_z ?_))
     obtain rfl:=sm a0
     exact ⟨(),_,⟨rfl,trivial⟩,((hB.st c0).st b0).st q0⟩
    replace a0:=iT a0
    refine BA rfl rfl rfl (Au rfl rfl (o_z ?_))
    obtain rfl:=sm a0
    exact ⟨(),_,⟨rfl,trivial⟩,((hB.st c0).st b0).st q0⟩
   replace a0:=im a0 l0
   refine BA rfl rfl rfl (Ar rfl rfl (Ay rfl rfl rfl rfl (Ay rfl rfl rfl rfl (Ay rfl rfl rfl rfl (Ay rfl rfl rfl rfl (Ay rfl rfl rfl rfl (BD rfl rfl rfl (Au rfl rfl (o_z ?_)))))))))
   obtain rfl:=sm a0
   exact ⟨(),_,⟨rfl,trivial⟩,(hB.st c0).st b0⟩
  replace a0:=im a0 k0
  refine Ar rfl rfl (Ay rfl rfl rfl rfl (Ay rfl rfl rfl rfl (Ay rfl rfl rfl rfl (Ay rfl rfl rfl rfl (Ay rfl rfl rfl rfl (BD rfl rfl rfl (Ar rfl rfl (Ay rfl rfl rfl rfl (Ay rfl rfl rfl rfl (Ay rfl rfl rfl rfl (Ay rfl rfl rfl rfl (Ay rfl rfl rfl rfl (BD rfl rfl rfl (Au rfl rfl ?_))))))))))))))
  refine o_z ?_
  obtain rfl:=sm a0
  exact ⟨(),_,⟨rfl,trivial⟩,(hB.st c0).st b0⟩
 replace hB:=(hB.st c0).st b0
 rintro j1 k1 ⟨z0,l1,m0,hB⟩
 refine AO _ m0 ?_
 refine AJ ?_
 obtain rfl:=sm hm
 exact ret1v rfl (AD rfl) ⟨hB.ext,vBool⟩
noncomputable def Ba (x0:List Eff) (x1:List Eff):Option Bool :=
  if (x0.length:Int)≠(x1.length:Int) then (some false) else (bnd (rng (ρ:=Bool) (fun (k19:Nat) (a20:Eff) (s17:Unit)=>bnd (x1[k19]?) fun a50=>bnd (Dc a20 a50) fun q72=>if q72=true then some (.next ()) else some (.ret false)) x0 0 ()) fun res15=>fin res15 fun (s83:Unit)=>some true)
theorem Cq {w:World} {A:Nat→Prop} (hA:∀ k,A k→k < w.heap.size) {vx0:Value} {x0:List Eff} (b0:Vb w A vx0 x0) {vx1:Value} {x1:List Eff} (c0:Vb w A vx1 x1) {r:Bool} (hm:Ba x0 x1=some r) :
    Fn Tryz.prog 99 [vx0,vx1,(.func (.func 100) #[] #[])] w fun v w'=>Ext w w'∧Vb w' (upA A w w') v r:=by
 obtain ⟨O,hB,h1⟩:=enter hA
 replace b0:=b0.mono h1
 obtain ⟨A4,c5,rfl⟩:=b0.form
 replace c0:=c0.mono h1
 obtain ⟨A6,c7,rfl⟩:=c0.form
 refine AK Tryz.func99 rfl Tryz.ntmps99 rfl ?_
 unfold Ba at hm
 refine Al (Aj (Au rfl rfl (o_z ?_)))
 refine Al (Al (Aj (Ar rfl rfl (AY rfl rfl ?_))))
 have l9:x0.length≤9223372036854775807:=Nat.le_trans b0.len.2.1 b0.len.2.2
 have r8:inI64 (x0.length:Int):=rngNat l9
 refine Ar rfl rfl (AY rfl rfl ?_)
 have o1:x1.length≤9223372036854775807:=Nat.le_trans c0.len.2.1 c0.len.2.2
 have f2:inI64 (x1.length:Int):=rngNat o1
 refine Fp rfl rfl rfl (fun v0=>?_) fun v0=>?_
 ·
  replace hm:=ip hm v0
  refine o_z ?_
  refine Ah rfl (Al (Aj (Au rfl rfl (o_z ?_))))
  refine AJ ?_
  obtain rfl:=sm hm
  exact ret1v rfl (AD rfl) ⟨hB.ext,vBool⟩
 replace hm:=im hm v0
 refine o_z ?_
 refine Ae rfl (AM (Al (Al (Aj (Ar rfl rfl (AY rfl rfl ?_))))))
 have w0:x0.length≤9223372036854775807:=Nat.le_trans b0.len.2.1 b0.len.2.2
 have g2:inI64 (x0.length:Int):=rngNat w0
 refine Ar rfl rfl (o_z ?_)
 obtain ⟨j0,y0,hm⟩:=bs hm
 refine AH (aft j0 (fun (o0:Unit) (p0:Unit)=>[]) (fun o0 p0 w'=>∃ O':Lab,Bs w A w' O')) ?_ ?_
 ·
  refine AU (Bu (σ:=Unit) (X:=Unit) (x0.length) y0 rfl w0 (fun (o0:Unit) (p0:Unit)=>[(1,(.slice A6 x1.length c7)),(2,(.func (.func 100) #[] #[])),(15,(.slice A4 x0.length c5))]) _ (fun o0 p0 w'=>∃ O':Lab,Bs w A w' O'∧Vb w' (Fr 0 w' O') (.slice A6 x1.length c7) x1∧Vb w' (Fr 0 w' O') (.slice A4 x0.length c5) x0) _ () ⟨O,hB,c0,b0⟩ ⟨rfl,rfl,rfl,rfl,rfl,trivial⟩ (fun _ _=>⟨rfl,rfl⟩) (fun _ _=>trivial) (fun _ _ _ ⟨O',hB,c0,b0⟩=>⟨O',hB⟩) ⟨rfl,rfl,rfl⟩ ⟨rfl,rfl⟩ ?_)
  rintro p1 d0 o0 p0 h2 q1 k0 ⟨r1,hB,c0,b0⟩ a0 e0 z0
  have rk19:inI64 (p1:Int):=rngK k0 w0
  refine Al (Aj (Ar rfl rfl ?_))
  obtain ⟨i2,j2,s1,a1,b1,c1,k2,rfl,q0,t1,u1⟩:=b0.elem' k0
  obtain ⟨i1,j1,rfl⟩:=q0.form
  refine Bv (hA:=a1) (hj:=rfl) (hlt:=b1) rfl rfl rfl ?_
  refine Bk (hl:=rfl) (hc:=c1) rfl rfl ?_
  refine Bh 2 r1 rfl fun v1 l2 k1 l0 f0=>?_
  refine Au rfl rfl (AZ f0 rfl rfl rfl (Bj rfl) (allOne rfl) fun w1 m0 f0=>?_)
  replace f0:Lc 2 w1 k1 v1 47 [(.slice i1 d0.cond.length j1),(.int .i64 d0.var),(.int .i64 d0.val)]:=f0
  refine o_z ?_
  refine Al (Aj (Ar rfl rfl (Ar rfl rfl ?_)))
  obtain ⟨g0,y1,a0⟩:=bs a0
  replace c0:=(c0.st l0).st m0
  obtain ⟨m2,n2,z1,d1,e1,f1,o2,rfl,r0,a2,b2⟩:=c0.elem' y1
  obtain ⟨l1,m1,rfl⟩:=r0.form
  refine Bv (hA:=d1) (hj:=rfl) (hlt:=e1) rfl rfl rfl ?_
  refine Bk (hl:=rfl) (hc:=f1) rfl rfl ?_
  refine Bh 3 k1 rfl fun c2 p2 s0 h0 n0=>?_
  refine AZ n0 rfl rfl rfl (Bj rfl) (allOne rfl) fun t0 i0 n0=>?_
  replace n0:Lc 3 t0 s0 c2 47 [(.slice l1 g0.cond.length m1),(.int .i64 g0.var),(.int .i64 g0.val)]:=n0
  refine o_z ?_
  refine Al (Aj (Ar rfl rfl ?_))
  replace f0:=(f0.st h0).st i0
  refine Bk (hl:=rfl) (hc:=(f0.1).cellsAt) rfl rfl ?_
  refine Bk (hl:=rfl) (hc:=(n0.1).cellsAt) rfl rfl ?_
  obtain ⟨n1,d2,a0⟩:=bs a0
  replace q0:=(((q0.st l0).st m0).st h0).st i0
  replace r0:=(r0.st h0).st i0
  refine Ou (O:=s0) (A:=All t0) (R:=fun w' F v=>Vb w' F v n1) (HN (fun _ h=>h) (Vb.mono (F:=Fr 0 t0 s0) (Vb.ofAgg (cs:=[(.slice i1 d0.cond.length j1),(.int .i64 d0.var),(.int .i64 d0.val)]) (x:=d0) rfl ⟨_,rfl,q0,t1,u1⟩) Fr.lt) (Vb.mono (F:=Fr 0 t0 s0) (Vb.ofAgg (cs:=[(.slice l1 g0.cond.length m1),(.int .i64 g0.var),(.int .i64 g0.val)]) (x:=g0) rfl ⟨_,rfl,r0,a2,b2⟩) Fr.lt) d2) rfl rfl rfl fun q2 r2 s2 u0 e2=>?_
  obtain rfl:=e2.bool
  cases n1
  case false =>
   replace a0:=iF a0
   refine Ct rfl rfl (o_z ?_)
   refine Ah rfl (Al (Aj (Au rfl rfl (o_z ?_))))
   refine AJ ?_
   obtain rfl:=sm a0
   obtain rfl:=e0 _ rfl
   obtain rfl:=sm (BM hm)
   replace hB:=((((hB.st l0).st m0).st h0).st i0).st u0
   exact ret1v rfl (AD rfl) ⟨hB.ext,vBool⟩
  replace a0:=iT a0
  refine Cs rfl rfl (o_z ?_)
  refine Ae rfl (AM ?_)
  obtain rfl:=sm a0
  exact show Exists _ from ⟨_,(),rfl,⟨rfl,rfl,rfl,rfl,rfl,trivial⟩,_,((((hB.st l0).st m0).st h0).st i0).st u0,((c0.st h0).st i0).st u0,((((b0.st l0).st m0).st h0).st i0).st u0⟩
 rintro t2 u2 ⟨v2,w2,rfl,g1,x2,hB⟩
 replace hm:=Be hm
 refine AO _ g1 ?_
 refine Al (Aj (Au rfl rfl (o_z ?_)))
 refine AJ ?_
 obtain rfl:=sm hm
 exact ret1v rfl (AD rfl) ⟨hB.ext,vBool⟩
noncomputable def DI (x0:Opr) (x1:Opr):Option Bool :=
  bnd (if x0.cost=x1.cost then (bnd (BF x0.pre x1.pre) fun q40=>if q40=true then bnd (Ba x0.effs x1.effs) fun q47=>if q47=true then some true else some false else some false) else (some false):Option Bool) fun y35=>some y35
theorem Je {w:World} {A:Nat→Prop} (hA:∀ k,A k→k < w.heap.size) {vx0:Value} {x0:Opr} (k0:Vb w A vx0 x0) {vx1:Value} {x1:Opr} (l0:Vb w A vx1 x1) {r:Bool} (hm:DI x0 x1=some r) :
    Fn Tryz.prog 79 [vx0,vx1] w fun v w'=>Ext w w'∧Vb w' (upA A w w') v r:=by
 obtain ⟨O,hB,q0⟩:=enter hA
 replace k0:=k0.mono q0
 obtain ⟨m1,rfl,v4,v5,rfl,h6,h9,n1,o1⟩:=k0
 obtain ⟨A7,c8,rfl⟩:=h6.form
 obtain ⟨v0,w0,rfl⟩:=h9.form
 replace l0:=l0.mono q0
 obtain ⟨y0,rfl,p1,q1,rfl,g0,h0,r1,s1⟩:=l0
 obtain ⟨z0,a1,rfl⟩:=g0.form
 obtain ⟨b1,c1,rfl⟩:=h0.form
 refine AK Tryz.func79 rfl Tryz.ntmps79 rfl ?_
 unfold DI at hm
 refine Al (Aj (BS 2 O rfl rfl fun d1 e1 r0 c0 d0=>?_))
 replace d0:Lc 2 e1 r0 d1 50 [(.string x0.name),(.int .i64 x0.cost),(.slice A7 x0.pre.length c8),(.slice v0 x0.effs.length w0)]:=d0
 refine BS 3 r0 rfl rfl fun f1 i0 j0 b0 e0=>?_
 replace e0:Lc 3 i0 j0 f1 50 [(.string x1.name),(.int .i64 x1.cost),(.slice z0 x1.pre.length a1),(.slice b1 x1.effs.length c1)]:=e0
 refine Au rfl rfl (o_z ?_)
 refine Al ?_
 obtain ⟨g1,a0,hm⟩:=bs hm
 refine AH (fun l' w'=>∃ (h1:Unit) (O':Lab),subs l' [(4,(.bool g1))]∧Bs w A w' O') ?_ ?_
 ·
  refine Aj (AN rfl rfl ?_)
  replace d0:=d0.st b0
  refine AG (hc:=Blk.cell (i:=1) (d0.1) rfl) rfl rfl ?_
  refine AN rfl rfl (AG (hc:=Blk.cell (i:=1) (e0.1) rfl) rfl rfl ?_)
  refine EP rfl rfl rfl (fun m0=>?_) fun m0=>?_
  ·
   replace a0:=ip a0 m0
   refine Ar rfl rfl (Az rfl rfl (AN rfl rfl (Az rfl rfl (AG (hc:=Blk.cell (i:=2) (d0.1) rfl) rfl rfl ?_))))
   refine Az rfl rfl (AN rfl rfl (Az rfl rfl (AG (hc:=Blk.cell (i:=2) (e0.1) rfl) rfl rfl ?_)))
   refine Az rfl rfl ?_
   obtain ⟨s0,i1,a0⟩:=bs a0
   replace h6:=(h6.st c0).st b0
   replace g0:=(g0.st c0).st b0
   refine Bi (O:=j0) (A:=All i0) (R:=fun w' F v=>Vb w' F v s0) (CO (fun _ h=>h) (Vb.mono (F:=Fr 0 i0 j0) h6 Fr.lt) (Vb.mono (F:=Fr 0 i0 j0) g0 Fr.lt) i1) rfl rfl fun t1 n0 o0 f0 j1=>?_
   obtain rfl:=j1.bool
   cases s0
   case false =>
    replace a0:=iF a0
    refine BA rfl rfl rfl (Ar rfl rfl (Ay rfl rfl rfl rfl (Ay rfl rfl rfl rfl (Ay rfl rfl rfl rfl (Ay rfl rfl rfl rfl (Ay rfl rfl rfl rfl (BD rfl rfl rfl (Au rfl rfl (o_z ?_)))))))))
    obtain rfl:=sm a0
    exact ⟨(),_,⟨rfl,trivial⟩,((hB.st c0).st b0).st f0⟩
   replace a0:=iT a0
   refine BA rfl rfl rfl (Ar rfl rfl (Az rfl rfl (AN rfl rfl (Az rfl rfl ?_))))
   replace d0:=d0.st f0
   refine AG (hc:=Blk.cell (i:=3) (d0.1) rfl) rfl rfl ?_
   refine Az rfl rfl (AN rfl rfl (Az rfl rfl ?_))
   replace e0:=e0.st f0
   refine AG (hc:=Blk.cell (i:=3) (e0.1) rfl) rfl rfl ?_
   refine Az rfl rfl ?_
   obtain ⟨t0,k1,a0⟩:=bs a0
   replace h9:=((h9.st c0).st b0).st f0
   replace h0:=((h0.st c0).st b0).st f0
   refine Bi (O:=o0) (A:=All n0) (R:=fun w' F v=>Vb w' F v t0) (Cq (fun _ h=>h) (Vb.mono (F:=Fr 0 n0 o0) h9 Fr.lt) (Vb.mono (F:=Fr 0 n0 o0) h0 Fr.lt) k1) rfl rfl fun u1 v1 w1 u0 l1=>?_
   obtain rfl:=l1.bool
   cases t0
   case false =>
    replace a0:=iF a0
    refine BA rfl rfl rfl (Au rfl rfl (o_z ?_))
    obtain rfl:=sm a0
    exact ⟨(),_,⟨rfl,trivial⟩,(((hB.st c0).st b0).st f0).st u0⟩
   replace a0:=iT a0
   refine BA rfl rfl rfl (Au rfl rfl (o_z ?_))
   obtain rfl:=sm a0
   exact ⟨(),_,⟨rfl,trivial⟩,(((hB.st c0).st b0).st f0).st u0⟩
  replace a0:=im a0 m0
  refine Ar rfl rfl (Ay rfl rfl rfl rfl (Ay rfl rfl rfl rfl (Ay rfl rfl rfl rfl (Ay rfl rfl rfl rfl (Ay rfl rfl rfl rfl (BD rfl rfl rfl (Ar rfl rfl (Ay rfl rfl rfl rfl (Ay rfl rfl rfl rfl (Ay rfl rfl rfl rfl (Ay rfl rfl rfl rfl (Ay rfl rfl rfl rfl (BD rfl rfl rfl (Au rfl rfl ?_))))))))))))))
  refine o_z ?_
  obtain rfl:=sm a0
  exact ⟨(),_,⟨rfl,trivial⟩,(hB.st c0).st b0⟩
 replace hB:=(hB.st c0).st b0
 rintro y1 z1 ⟨h1,a2,p0,hB⟩
 refine AO _ p0 ?_
 refine AJ ?_
 obtain rfl:=sm hm
 exact ret1v rfl (AD rfl) ⟨hB.ext,vBool⟩
noncomputable def CW (x0:Int):Option (List Int) :=
  bnd (mkI 8 (0:Int) x0) fun u2=>bnd (rngN (ρ:=(List Int)) (fun (k21:Nat) (s19:(List Int))=>bnd (s19[k21]?) fun a40=>some (.next (s19.set k21 (k21:Int)))) u2.length u2) fun res17=>fin res17 fun (s56:(List Int))=>some s56
theorem Dq {w:World} {A:Nat→Prop} (hA:∀ k,A k→k < w.heap.size) {x0:Int} (rx0:inI64 x0) {r:(List Int)} (hm:CW x0=some r) :
    Fn Tryz.prog 89 [(.int .i64 x0)] w fun v w'=>Ext w w'∧Vb w' (upA A w w') v r:=by
 obtain ⟨O,hB,b1⟩:=enter hA
 refine AK Tryz.func89 rfl Tryz.ntmps89 rfl ?_
 unfold CW at hm
 refine Al (Aj (Au rfl rfl (o_z ?_)))
 refine Al (Aj (Ar rfl rfl ?_))
 obtain ⟨u2,e3,hm⟩:=bs hm
 obtain ⟨m4,e5,e6,e7,e8⟩:=CE e3
 refine Di 2 (by decide) O (z0:=(0:Int)) rfl rfl rfl rfl rfl e5 (vInt (show inI64 0 from by decide)) e6 e7 rfl fun g9 c1 r0 o0 f0=>?_
 rw [← e8] at f0 ⊢
 refine Au rfl rfl (o_z ?_)
 refine Al (Al (Aj (Ar rfl rfl (AY rfl rfl ?_))))
 have h0:u2.length≤9223372036854775807:=Nat.le_trans f0.len.2.1 f0.len.2.2
 have d1:inI64 (u2.length:Int):=rngNat h0
 refine Ar rfl rfl (o_z ?_)
 obtain ⟨d0,i0,hm⟩:=bs hm
 refine AH (aft d0 (fun (c0:(List Int)) (g0:Unit)=>[(3,(.slice (some ⟨g9,0,none⟩) u2.length m4))]) (fun c0 g0 w'=>∃ O':Lab,Bs w A w' O'∧Rw 2 w' O' 3 (.slice (some ⟨g9,0,none⟩) u2.length m4) c0)) ?_ ?_
 ·
  refine AU ?_
  replace hB:=hB.st o0
  refine Jb (σ:=(List Int)) (X:=Unit) (u2.length) i0 h0 (fun (c0:(List Int)) (g0:Unit)=>[(3,(.slice (some ⟨g9,0,none⟩) u2.length m4))]) _ (fun c0 g0 w'=>∃ O':Lab,Bs w A w' O'∧Rw 2 w' O' 3 (.slice (some ⟨g9,0,none⟩) u2.length m4) c0) _ () ⟨r0,hB,f0⟩ ⟨rfl,rfl,rfl,trivial⟩ (fun _ _=>⟨rfl,rfl⟩) (fun _ _=>⟨rfl,trivial⟩) (fun _ _ _ ⟨O',hB,a0⟩=>⟨O',hB,a0⟩) ⟨rfl,rfl,rfl⟩ ⟨rfl,rfl⟩ ?_
  rintro p0 c0 g0 e1 s0 j0 ⟨f1,hB,a0⟩ b0 k0 l0
  have rk21:inI64 (p0:Int):=rngKN j0 h0
  refine Al (Aj (Ar rfl rfl (Au rfl rfl (o_z ?_))))
  refine Aj (Ar rfl rfl (Ar rfl rfl (Ar rfl rfl ?_)))
  obtain ⟨g1,q0,b0⟩:=bs b0
  obtain ⟨h1,i1,t0,e0,m0,u0,rfl,j1⟩:=a0.elem q0
  refine Bv (hA:=e0) (hj:=rfl) (hlt:=m0) rfl rfl rfl ?_
  refine Dj rfl a0 (a:=(p0:Int)) (vInt rk21) e0 rfl rfl (AE q0) fun k1 v0 a0=>?_
  refine o_z ?_
  obtain rfl:=sm b0
  exact show Exists _ from ⟨_,(),rfl,⟨rfl,rfl,rfl,trivial⟩,_,hB.st v0,a0⟩
 replace hB:=hB.st o0
 rintro l1 w0 ⟨m1,n1,rfl,n0,o1,hB,a0⟩
 replace hm:=Be hm
 refine AO _ n0 ?_
 refine Al (Aj (Ar rfl rfl (Au rfl rfl (o_z ?_))))
 refine AJ ?_
 obtain ⟨y0,a1,a0⟩:=a0.freeze
 obtain rfl:=sm hm
 replace hB:=hB.st a1
 exact ret1v rfl (AD rfl) ⟨hB.ext,(Vb.mono (F:=Fr 0 w0 y0) a0 hB.out)⟩
noncomputable def CQ (x0:List Int) (x1:List Int):Option (List Int) :=
  bnd (mkI 8 (0:Int) (x0.length:Int)) fun u9=>bnd (rng (ρ:=(List Int)) (fun (k28:Nat) (a29:Int) (s26:(List Int))=>bnd (atI x1 a29) fun a51=>bnd (s26[k28]?) fun a63=>some (.next (s26.set k28 a51))) x0 0 u9) fun res24=>fin res24 fun (s79:(List Int))=>some s79
theorem Df {w:World} {A:Nat→Prop} (hA:∀ k,A k→k < w.heap.size) {vx0:Value} {x0:List Int} (a0:Vb w A vx0 x0) {vx1:Value} {x1:List Int} (c0:Vb w A vx1 x1) {r:(List Int)} (hm:CQ x0 x1=some r) :
    Fn Tryz.prog 91 [vx0,vx1] w fun v w'=>Ext w w'∧Vb w' (upA A w w') v r:=by
 obtain ⟨O,hB,b1⟩:=enter hA
 replace a0:=a0.mono b1
 obtain ⟨A3,c4,rfl⟩:=a0.form
 replace c0:=c0.mono b1
 obtain ⟨A5,c6,rfl⟩:=c0.form
 refine AK Tryz.func91 rfl Tryz.ntmps91 rfl ?_
 unfold CQ at hm
 refine Al (Aj (Au rfl rfl (o_z ?_)))
 refine Al (Aj (Ar rfl rfl (AY rfl rfl ?_)))
 have l8:x0.length≤9223372036854775807:=Nat.le_trans a0.len.2.1 a0.len.2.2
 have r7:inI64 (x0.length:Int):=rngNat l8
 obtain ⟨u9,e1,hm⟩:=bs hm
 obtain ⟨i0,f1,g1,h1,i1⟩:=CE e1
 refine Di 2 (by decide) O (z0:=(0:Int)) rfl rfl rfl rfl rfl f1 (vInt (show inI64 0 from by decide)) g1 h1 rfl fun j0 z1 j1 k0 c1=>?_
 rw [← i1] at c1 ⊢
 refine Au rfl rfl (o_z ?_)
 refine Al (Al (Aj (Ar rfl rfl (AY rfl rfl ?_))))
 replace a0:=a0.st k0
 have m0:x0.length≤9223372036854775807:=Nat.le_trans a0.len.2.1 a0.len.2.2
 have a2:inI64 (x0.length:Int):=rngNat m0
 refine Ar rfl rfl (o_z ?_)
 obtain ⟨f0,n0,hm⟩:=bs hm
 refine AH (aft f0 (fun (e0:(List Int)) (l0:Unit)=>[(5,(.slice (some ⟨j0,0,none⟩) u9.length i0))]) (fun e0 l0 w'=>∃ O':Lab,Bs w A w' O'∧Rw 2 w' O' 3 (.slice (some ⟨j0,0,none⟩) u9.length i0) e0)) ?_ ?_
 ·
  refine AU ?_
  replace hB:=hB.st k0
  replace c0:=c0.st k0
  refine Bu (σ:=(List Int)) (X:=Unit) (x0.length) n0 rfl m0 (fun (e0:(List Int)) (l0:Unit)=>[(1,(.slice A5 x1.length c6)),(5,(.slice (some ⟨j0,0,none⟩) u9.length i0)),(11,(.slice A3 x0.length c4))]) _ (fun e0 l0 w'=>∃ O':Lab,Bs w A w' O'∧Vb w' (Fr 0 w' O') (.slice A5 x1.length c6) x1∧Rw 2 w' O' 3 (.slice (some ⟨j0,0,none⟩) u9.length i0) e0∧Vb w' (Fr 0 w' O') (.slice A3 x0.length c4) x0) _ () ⟨j1,hB,c0,c1,a0⟩ ⟨rfl,rfl,rfl,rfl,rfl,trivial⟩ (fun _ _=>⟨rfl,rfl⟩) (fun _ _=>⟨rfl,trivial⟩) (fun _ _ _ ⟨O',hB,c0,d0,a0⟩=>⟨O',hB,d0⟩) ⟨rfl,rfl,rfl⟩ ⟨rfl,rfl⟩ ?_
  rintro k1 b2 e0 l0 c2 l1 g0 ⟨d2,hB,c0,d0,a0⟩ b0 o0 p0
  have rk28:inI64 (k1:Int):=rngK g0 m0
  refine Al (Aj (Ar rfl rfl ?_))
  obtain ⟨e2,f2,m1,q0,r0,s0,rfl,g2⟩:=a0.elem' g0
  refine Bv (hA:=q0) (hj:=rfl) (hlt:=r0) rfl rfl rfl ?_
  refine AG (hc:=cat0 s0) rfl rfl ?_
  refine Au rfl rfl (Au rfl rfl (o_z ?_))
  refine Aj (Ar rfl rfl (Ar rfl rfl (Ar rfl rfl (Ar rfl rfl ?_))))
  obtain ⟨n1,o1,b0⟩:=bs b0
  obtain ⟨p1,q1⟩:=AW o1
  obtain ⟨h2,i2,r1,t0,u0,v0,rfl,s1⟩:=c0.elem' q1
  refine Bv (hA:=t0) (hj:=(Int.toNat_of_nonneg p1).symm) (hlt:=u0) rfl rfl rfl ?_
  refine AG (hc:=cat0 v0) rfl rfl ?_
  obtain ⟨j2,d1,b0⟩:=bs b0
  obtain ⟨k2,l2,t1,h0,w0,u1,rfl,m2⟩:=d0.elem d1
  refine Bv (hA:=h0) (hj:=rfl) (hlt:=w0) rfl rfl rfl ?_
  refine Dj rfl d0 (a:=n1) (vInt s1) h0 rfl rfl (AE d1) fun n2 y0 d0=>?_
  refine o_z ?_
  obtain rfl:=sm b0
  exact show Exists _ from ⟨_,(),rfl,⟨rfl,rfl,rfl,rfl,rfl,trivial⟩,_,hB.st y0,c0.st y0,d0,a0.st y0⟩
 replace hB:=hB.st k0
 rintro o2 v1 ⟨p2,q2,rfl,a1,r2,hB,d0⟩
 replace hm:=Be hm
 refine AO _ a1 ?_
 refine Al (Aj (Ar rfl rfl (Au rfl rfl (o_z ?_))))
 refine AJ ?_
 obtain ⟨w1,y1,d0⟩:=d0.freeze
 obtain rfl:=sm hm
 replace hB:=hB.st y1
 exact ret1v rfl (AD rfl) ⟨hB.ext,(Vb.mono (F:=Fr 0 v1 w1) d0 hB.out)⟩
noncomputable def Cr (x0:List Int):Option (List Int) :=
  bnd (mkI 8 (0:Int) (x0.length:Int)) fun u6=>bnd (rng (ρ:=(List Int)) (fun (k25:Nat) (a26:Int) (s23:(List Int))=>bnd (atI s23 a26) fun a48=>some (.next (s23.set (a26:Int).toNat (k25:Int)))) x0 0 u6) fun res21=>fin res21 fun (s66:(List Int))=>some s66
theorem BE {w:World} {A:Nat→Prop} (hA:∀ k,A k→k < w.heap.size) {vx0:Value} {x0:List Int} (a0:Vb w A vx0 x0) {r:(List Int)} (hm:Cr x0=some r) :
    Fn Tryz.prog 90 [vx0] w fun v w'=>Ext w w'∧Vb w' (upA A w w') v r:=by
 obtain ⟨O,hB,y0⟩:=enter hA
 replace a0:=a0.mono y0
 obtain ⟨A2,c3,rfl⟩:=a0.form
 refine AK Tryz.func90 rfl Tryz.ntmps90 rfl ?_
 unfold Cr at hm
 refine Al (Aj (Au rfl rfl (o_z ?_)))
 refine Al (Aj (Ar rfl rfl (AY rfl rfl ?_)))
 have l5:x0.length≤9223372036854775807:=Nat.le_trans a0.len.2.1 a0.len.2.2
 have r4:inI64 (x0.length:Int):=rngNat l5
 obtain ⟨u6,e7,hm⟩:=bs hm
 obtain ⟨m8,e9,a1,b1,c1⟩:=CE e7
 refine Di 2 (by decide) O (z0:=(0:Int)) rfl rfl rfl rfl rfl e9 (vInt (show inI64 0 from by decide)) a1 b1 rfl fun h0 n1 d1 j0 t0=>?_
 rw [← c1] at t0 ⊢
 refine Au rfl rfl (o_z ?_)
 refine Al (Al (Aj (Ar rfl rfl (AY rfl rfl ?_))))
 replace a0:=a0.st j0
 have k0:x0.length≤9223372036854775807:=Nat.le_trans a0.len.2.1 a0.len.2.2
 have o1:inI64 (x0.length:Int):=rngNat k0
 refine Ar rfl rfl (o_z ?_)
 obtain ⟨e0,l0,hm⟩:=bs hm
 refine AH (aft e0 (fun (d0:(List Int)) (i0:Unit)=>[(3,(.slice (some ⟨h0,0,none⟩) u6.length m8))]) (fun d0 i0 w'=>∃ O':Lab,Bs w A w' O'∧Rw 2 w' O' 3 (.slice (some ⟨h0,0,none⟩) u6.length m8) d0)) ?_ ?_
 ·
  refine AU ?_
  replace hB:=hB.st j0
  refine Bu (σ:=(List Int)) (X:=Unit) (x0.length) l0 rfl k0 (fun (d0:(List Int)) (i0:Unit)=>[(3,(.slice (some ⟨h0,0,none⟩) u6.length m8)),(9,(.slice A2 x0.length c3))]) _ (fun d0 i0 w'=>∃ O':Lab,Bs w A w' O'∧Rw 2 w' O' 3 (.slice (some ⟨h0,0,none⟩) u6.length m8) d0∧Vb w' (Fr 0 w' O') (.slice A2 x0.length c3) x0) _ () ⟨d1,hB,t0,a0⟩ ⟨rfl,rfl,rfl,rfl,trivial⟩ (fun _ _=>⟨rfl,rfl⟩) (fun _ _=>⟨rfl,trivial⟩) (fun _ _ _ ⟨O',hB,b0,a0⟩=>⟨O',hB,b0⟩) ⟨rfl,rfl,rfl⟩ ⟨rfl,rfl⟩ ?_
  rintro u0 p1 d0 i0 q1 e1 f0 ⟨r1,hB,b0,a0⟩ c0 m0 n0
  have rk25:inI64 (u0:Int):=rngK f0 k0
  refine Al (Aj (Ar rfl rfl ?_))
  obtain ⟨s1,t1,f1,o0,p0,q0,rfl,u1⟩:=a0.elem' f0
  refine Bv (hA:=o0) (hj:=rfl) (hlt:=p0) rfl rfl rfl ?_
  refine AG (hc:=cat0 q0) rfl rfl ?_
  refine Au rfl rfl (Au rfl rfl (o_z ?_))
  refine Aj (Ar rfl rfl (Ar rfl rfl (Ar rfl rfl ?_)))
  obtain ⟨v1,g1,c0⟩:=bs c0
  obtain ⟨h1,v0⟩:=AW g1
  obtain ⟨w1,x1,i1,g0,r0,j1,rfl,y1⟩:=b0.elem v0
  refine Bv (hA:=g0) (hj:=(Int.toNat_of_nonneg h1).symm) (hlt:=r0) rfl rfl rfl ?_
  refine Dj rfl b0 (a:=(u0:Int)) (vInt rk25) g0 rfl rfl (AE v0) fun z1 w0 b0=>?_
  refine o_z ?_
  obtain rfl:=sm c0
  exact show Exists _ from ⟨_,(),rfl,⟨rfl,rfl,rfl,rfl,trivial⟩,_,hB.st w0,b0,a0.st w0⟩
 replace hB:=hB.st j0
 rintro a2 k1 ⟨b2,c2,rfl,s0,d2,hB,b0⟩
 replace hm:=Be hm
 refine AO _ s0 ?_
 refine Al (Aj (Ar rfl rfl (Au rfl rfl (o_z ?_))))
 refine AJ ?_
 obtain ⟨l1,m1,b0⟩:=b0.freeze
 obtain rfl:=sm hm
 replace hB:=hB.st m1
 exact ret1v rfl (AD rfl) ⟨hB.ext,(Vb.mono (F:=Fr 0 k1 l1) b0 hB.out)⟩
noncomputable def Ei (x0:List Fct) (x1:List Fct):Option Bool :=
  if (x0.length:Int)≠(x1.length:Int) then (some false) else (bnd (rng (ρ:=Bool) (fun (k18:Nat) (a19:Fct) (s16:Unit)=>bnd (x1[k18]?) fun a38=>if ¬ (a19.var=a38.var∧a19.val=a38.val) then (some (.ret false)) else (some (.next ()))) x0 0 ()) fun res14=>fin res14 fun (s54:Unit)=>some true)
theorem GF {w:World} {A:Nat→Prop} (hA:∀ k,A k→k < w.heap.size) {vx0:Value} {x0:List Fct} (b0:Vb w A vx0 x0) {vx1:Value} {x1:List Fct} (c0:Vb w A vx1 x1) {r:Bool} (hm:Ei x0 x1=some r) :
    Fn Tryz.prog 46 [vx0,vx1] w fun v w'=>Ext w w'∧Vb w' (upA A w w') v r:=by
 obtain ⟨O,hB,u0⟩:=enter hA
 replace b0:=b0.mono u0
 obtain ⟨A3,c4,rfl⟩:=b0.form
 replace c0:=c0.mono u0
 obtain ⟨A5,c6,rfl⟩:=c0.form
 refine AK Tryz.func46 rfl Tryz.ntmps46 rfl ?_
 unfold Ei at hm
 refine Al (Aj (Au rfl rfl (o_z ?_)))
 refine Al (Al (Aj (Ar rfl rfl (AY rfl rfl ?_))))
 have l8:x0.length≤9223372036854775807:=Nat.le_trans b0.len.2.1 b0.len.2.2
 have r7:inI64 (x0.length:Int):=rngNat l8
 refine Ar rfl rfl (AY rfl rfl ?_)
 have v0:x1.length≤9223372036854775807:=Nat.le_trans c0.len.2.1 c0.len.2.2
 have r9:inI64 (x1.length:Int):=rngNat v0
 refine Fp rfl rfl rfl (fun i0=>?_) fun i0=>?_
 ·
  replace hm:=ip hm i0
  refine o_z ?_
  refine Ah rfl (Al (Aj (Au rfl rfl (o_z ?_))))
  refine AJ ?_
  obtain rfl:=sm hm
  exact ret1v rfl (AD rfl) ⟨hB.ext,vBool⟩
 replace hm:=im hm i0
 refine o_z ?_
 refine Ae rfl (AM (Al (Al (Aj (Ar rfl rfl (AY rfl rfl ?_))))))
 have j0:x0.length≤9223372036854775807:=Nat.le_trans b0.len.2.1 b0.len.2.2
 have d1:inI64 (x0.length:Int):=rngNat j0
 refine Ar rfl rfl (o_z ?_)
 obtain ⟨e0,k0,hm⟩:=bs hm
 refine AH (aft e0 (fun (g0:Unit) (h0:Unit)=>[]) (fun g0 h0 w'=>∃ O':Lab,Bs w A w' O')) ?_ ?_
 ·
  refine AU (Bu (σ:=Unit) (X:=Unit) (x0.length) k0 rfl j0 (fun (g0:Unit) (h0:Unit)=>[(0,(.slice A3 x0.length c4)),(1,(.slice A5 x1.length c6))]) _ (fun g0 h0 w'=>∃ O':Lab,Bs w A w' O'∧Vb w' (Fr 0 w' O') (.slice A3 x0.length c4) x0∧Vb w' (Fr 0 w' O') (.slice A5 x1.length c6) x1) _ () ⟨O,hB,b0,c0⟩ ⟨rfl,rfl,rfl,rfl,trivial⟩ (fun _ _=>⟨rfl,rfl⟩) (fun _ _=>trivial) (fun _ _ _ ⟨O',hB,b0,c0⟩=>⟨O',hB⟩) ⟨rfl,rfl,rfl⟩ ⟨rfl,rfl⟩ ?_)
  rintro w0 e1 g0 h0 y0 z0 f0 ⟨f1,hB,b0,c0⟩ a0 d0 l0
  have rk18:inI64 (w0:Int):=rngK f0 j0
  refine Al (Aj (Ar rfl rfl (Au rfl rfl (o_z ?_))))
  refine Al (Ce (·=y0) [(0,true),(1,true),(2,true),(3,true),(4,true),(5,true),(6,true),(7,true),(8,true)] (by kernel_rfl) rfl (by kernel_rfl) rfl ?_)
  refine AL rfl rfl rfl (AL rfl rfl rfl ?_)
  obtain ⟨g1,h1,a1,m0,n0,o0,rfl,i1,j1⟩:=b0.elem' f0
  refine Br (hA:=m0) (hj:=rfl) (hlt:=n0) rfl rfl rfl rfl ?_
  refine KX (hl:=rfl) (hc:=o0) rfl rfl rfl ?_
  refine AL rfl rfl rfl (AL rfl rfl rfl ?_)
  obtain ⟨k1,b1,a0⟩:=bs a0
  obtain ⟨l1,m1,c1,p0,q0,r0,rfl,n1,o1⟩:=c0.elem' b1
  refine Br (hA:=p0) (hj:=rfl) (hlt:=q0) rfl rfl rfl rfl ?_
  refine KX (hl:=rfl) (hc:=r0) rfl rfl rfl ?_
  refine Po rfl rfl rfl rfl (fun s0=>?_) fun s0=>?_
  ·
   replace a0:=ip a0 s0
   refine h_z ?_
   refine Ah rfl (Al (Aj (Au rfl rfl (o_z ?_))))
   refine AJ ?_
   obtain rfl:=sm a0
   obtain rfl:=d0 _ rfl
   obtain rfl:=sm (BM hm)
   exact ret1v rfl (AD rfl) ⟨hB.ext,vBool⟩
  replace a0:=im a0 s0
  refine h_z ?_
  refine Ae rfl (AM ?_)
  obtain rfl:=sm a0
  exact show Exists _ from ⟨_,(),rfl,⟨rfl,rfl,rfl,rfl,trivial⟩,_,hB,b0,c0⟩
 rintro p1 q1 ⟨r1,s1,rfl,t0,t1,hB⟩
 replace hm:=Be hm
 refine AO _ t0 ?_
 refine Al (Aj (Au rfl rfl (o_z ?_)))
 refine AJ ?_
 obtain rfl:=sm hm
 exact ret1v rfl (AD rfl) ⟨hB.ext,vBool⟩
noncomputable def DM (x0:List Fct) (x1:Int):Option Int :=
  bnd (rng (ρ:=Int) (fun (k11:Nat) (a12:Fct) (s9:Unit)=>if a12.var=x1 then (some (.ret a12.val)) else (some (.next ()))) x0 0 ()) fun res7=>fin res7 fun (s43:Unit)=>some (-1)
theorem KO {w:World} {A:Nat→Prop} (hA:∀ k,A k→k < w.heap.size) {vx0:Value} {x0:List Fct} (b0:Vb w A vx0 x0) {x1:Int} (rx1:inI64 x1) {r:Int} (hm:DM x0 x1=some r) :
    Fn Tryz.prog 93 [vx0,(.int .i64 x1)] w fun v w'=>Ext w w'∧Vb w' (upA A w w') v r:=by
 obtain ⟨O,hB,q0⟩:=enter hA
 replace b0:=b0.mono q0
 obtain ⟨A3,c4,rfl⟩:=b0.form
 refine AK Tryz.func93 rfl Tryz.ntmps93 rfl ?_
 unfold DM at hm
 refine Al (Aj (Au rfl rfl (o_z ?_)))
 refine Al (Al (Aj (Ar rfl rfl (AY rfl rfl ?_))))
 have l6:x0.length≤9223372036854775807:=Nat.le_trans b0.len.2.1 b0.len.2.2
 have r5:inI64 (x0.length:Int):=rngNat l6
 refine Ar rfl rfl (o_z ?_)
 obtain ⟨g0,r0,hm⟩:=bs hm
 refine AH (aft g0 (fun (s9:Unit) (f0:Unit)=>[]) (fun s9 f0 w'=>∃ O':Lab,Bs w A w' O')) ?_ ?_
 ·
  refine AU (Bu (σ:=Unit) (X:=Unit) (x0.length) r0 rfl l6 (fun (s9:Unit) (f0:Unit)=>[(1,(.int .i64 x1)),(7,(.slice A3 x0.length c4))]) _ (fun s9 f0 w'=>∃ O':Lab,Bs w A w' O'∧Vb w' (Fr 0 w' O') (.slice A3 x0.length c4) x0) _ () ⟨O,hB,b0⟩ ⟨rfl,rfl,rfl,rfl,trivial⟩ (fun _ _=>⟨rfl,rfl⟩) (fun _ _=>trivial) (fun _ _ _ ⟨O',hB,b0⟩=>⟨O',hB⟩) ⟨rfl,rfl,rfl⟩ ⟨rfl,rfl⟩ ?_)
  rintro s0 p0 s9 f0 b1 t0 e0 ⟨u0,hB,b0⟩ a0 c0 h0
  have rk11:inI64 (s0:Int):=rngK e0 l6
  refine Al (Aj ?_)
  obtain ⟨c1,d1,v0,i0,j0,k0,rfl,e1,w0⟩:=b0.elem' e0
  refine Bv (hA:=i0) (hj:=rfl) (hlt:=j0) rfl rfl rfl ?_
  refine Bk (hl:=rfl) (hc:=k0) rfl rfl ?_
  refine Bh 2 u0 rfl fun y0 f1 z0 l0 d0=>?_
  refine AZ d0 rfl rfl rfl (Bj rfl) (allOne rfl) fun a1 m0 d0=>?_
  replace d0:Lc 2 a1 z0 y0 45 [(.int .i64 p0.var),(.int .i64 p0.val)]:=d0
  refine o_z ?_
  refine Al (Aj (AN rfl rfl (AG (hc:=Blk.cell (i:=0) (d0.1) rfl) rfl rfl ?_)))
  refine Ar rfl rfl (EP rfl rfl rfl (fun n0=>?_) fun n0=>?_)
  ·
   replace a0:=ip a0 n0
   refine o_z ?_
   refine Ah rfl (Al (Aj (AN rfl rfl (AG (hc:=Blk.cell (i:=1) (d0.1) rfl) rfl rfl ?_))))
   refine Au rfl rfl (o_z ?_)
   refine AJ ?_
   obtain rfl:=sm a0
   obtain rfl:=c0 _ rfl
   obtain rfl:=sm (BM hm)
   replace hB:=(hB.st l0).st m0
   exact ret1v rfl (AD rfl) ⟨hB.ext,(vInt w0)⟩
  replace a0:=im a0 n0
  refine o_z ?_
  refine Ae rfl (AM ?_)
  obtain rfl:=sm a0
  exact show Exists _ from ⟨_,(),rfl,⟨rfl,rfl,rfl,rfl,trivial⟩,_,(hB.st l0).st m0,(b0.st l0).st m0⟩
 rintro g1 h1 ⟨i1,j1,rfl,o0,k1,hB⟩
 replace hm:=Be hm
 refine AO _ o0 ?_
 refine Al (Aj (Au rfl rfl (o_z ?_)))
 refine AJ ?_
 obtain rfl:=sm hm
 exact ret1v rfl (AD rfl) ⟨hB.ext,(vInt (show inI64 (-1) from by decide))⟩
noncomputable def Ej (x0:List Fct) (x1:Fct):Option (List Fct) :=
  bnd (rng (ρ:=(List Fct)) (fun (k19:Nat) (a20:Fct) (s17:(List Fct)×Bool)=>bnd (bnd (if (!s17.2)=true then (if x1.var < a20.var then (some true) else (some false)) else (some false):Option Bool) fun y56=>if y56=true then (bnd (appI 16 s17.1 [x1]) fun u67=>some (u67,true)) else (some (s17.1,s17.2)):Option ((List Fct)×Bool)) fun y50=>bnd (appI 16 y50.1 [a20]) fun u83=>some (.next (u83,y50.2))) x0 0 (([]:List Fct),false)) fun res15=>fin res15 fun (s99:(List Fct)×Bool)=>bnd (if (!s99.2)=true then (bnd (appI 16 s99.1 [x1]) fun u108=>some u108) else (some s99.1):Option (List Fct)) fun y101=>some y101
theorem Lv {w:World} {A:Nat→Prop} (hA:∀ k,A k→k < w.heap.size) {vx0:Value} {x0:List Fct} (c0:Vb w A vx0 x0) {vx1:Value} {x1:Fct} (d1:Vb w A vx1 x1) {r:(List Fct)} (hm:Ej x0 x1=some r) :
    Fn Tryz.prog 94 [vx0,vx1] w fun v w'=>Ext w w'∧Vb w' (upA A w w') v r:=by
 obtain ⟨O,hB,e2⟩:=enter hA
 replace c0:=c0.mono e2
 obtain ⟨A3,c4,rfl⟩:=c0.form
 replace d1:=d1.mono e2
 obtain ⟨g3,rfl,rfl,r6,r7⟩:=d1
 refine AK Tryz.func94 rfl Tryz.ntmps94 rfl ?_
 unfold Ej at hm
 refine Al (Aj (BS 2 O rfl rfl fun g8 w9 f2 e1 b0=>?_))
 replace b0:Lc 2 w9 f2 g8 45 [(.int .i64 x1.var),(.int .i64 x1.val)]:=b0
 refine Au rfl rfl (o_z ?_)
 refine Al (Aj (Au rfl rfl (o_z ?_)))
 refine Al (Aj (Au rfl rfl (o_z ?_)))
 refine Al (Al (Aj (Ar rfl rfl (AY rfl rfl ?_))))
 replace c0:=c0.st e1
 have f1:x0.length≤9223372036854775807:=Nat.le_trans c0.len.2.1 c0.len.2.2
 have h3:inI64 (x0.length:Int):=rngNat f1
 refine Ar rfl rfl (o_z ?_)
 obtain ⟨s0,g1,hm⟩:=bs hm
 refine AH (aft s0 (fun (i0:(List Fct)×Bool) (f0:(Option Addr×Nat))=>[(3,(.pointer (some ⟨g8,0,none⟩))),(5,(.slice f0.1 i0.1.length f0.2)),(6,(.bool i0.2))]) (fun i0 f0 w'=>∃ O':Lab,Bs w A w' O'∧Lc 2 w' O' g8 45 [(.int .i64 x1.var),(.int .i64 x1.val)]∧Rw 4 w' O' 45 (.slice f0.1 i0.1.length f0.2) i0.1)) ?_ ?_
 ·
  refine AU ?_
  replace hB:=hB.st e1
  refine Bu (σ:=(List Fct)×Bool) (X:=(Option Addr×Nat)) (x0.length) g1 rfl f1 (fun (i0:(List Fct)×Bool) (f0:(Option Addr×Nat))=>[(3,(.pointer (some ⟨g8,0,none⟩))),(5,(.slice f0.1 i0.1.length f0.2)),(6,(.bool i0.2)),(9,(.slice A3 x0.length c4))]) _ (fun i0 f0 w'=>∃ O':Lab,Bs w A w' O'∧Lc 2 w' O' g8 45 [(.int .i64 x1.var),(.int .i64 x1.val)]∧Rw 4 w' O' 45 (.slice f0.1 i0.1.length f0.2) i0.1∧Vb w' (Fr 0 w' O') (.slice A3 x0.length c4) x0) _ (none,0) ⟨f2,hB,b0,(Rw.nil 4 (by decide)),c0⟩ ⟨rfl,rfl,rfl,rfl,rfl,rfl,trivial⟩ (fun _ _=>⟨rfl,rfl⟩) (fun _ _=>⟨rfl,rfl,rfl,trivial⟩) (fun _ _ _ ⟨O',hB,b0,j0,c0⟩=>⟨O',hB,b0,j0⟩) ⟨rfl,rfl,rfl⟩ ⟨rfl,rfl⟩ ?_
  rintro h1 n0 i0 f0 i3 i2 t0 ⟨j2,hB,b0,j0,c0⟩ l0 i1 j1
  have rk19:inI64 (h1:Int):=rngK t0 f1
  refine Al (Aj ?_)
  obtain ⟨j3,k3,k2,k1,l1,m1,rfl,l2,m2⟩:=c0.elem' t0
  refine Bv (hA:=k1) (hj:=rfl) (hlt:=l1) rfl rfl rfl ?_
  refine Bk (hl:=rfl) (hc:=m1) rfl rfl ?_
  refine Bh 3 j2 rfl fun u0 l3 n2 g0 k0=>?_
  refine AZ k0 rfl rfl rfl (Bj rfl) (allOne rfl) fun o2 h0 k0=>?_
  replace k0:Lc 3 o2 n2 u0 45 [(.int .i64 n0.var),(.int .i64 n0.val)]:=k0
  refine o_z ?_
  refine Al ?_
  obtain ⟨b1,e0,l0⟩:=bs l0
  refine AH (fun l' w'=>∃ (v0:(Option Addr×Nat)) (O':Lab),subs l' [(3,(.pointer (some ⟨g8,0,none⟩))),(5,(.slice v0.1 b1.1.length v0.2)),(6,(.bool b1.2)),(8,(.pointer (some ⟨u0,0,none⟩))),(9,(.slice A3 x0.length c4)),(10,(.int .i64 (x0.length:Int))),(11,(.int .i64 (h1:Int)))]∧Bs w A w' O'∧Lc 2 w' O' g8 45 [(.int .i64 x1.var),(.int .i64 x1.val)]∧Rw 4 w' O' 45 (.slice v0.1 b1.1.length v0.2) b1.1∧Lc 3 w' O' u0 45 [(.int .i64 n0.var),(.int .i64 n0.val)]∧Vb w' (Fr 0 w' O') (.slice A3 x0.length c4) x0) ?_ ?_
  ·
   refine Al ?_
   obtain ⟨p2,d0,e0⟩:=bs e0
   refine AH (fun l' w'=>∃ (q2:Unit) (O':Lab),subs l' [(3,(.pointer (some ⟨g8,0,none⟩))),(5,(.slice f0.1 i0.1.length f0.2)),(6,(.bool i0.2)),(8,(.pointer (some ⟨u0,0,none⟩))),(9,(.slice A3 x0.length c4)),(10,(.int .i64 (x0.length:Int))),(11,(.int .i64 (h1:Int))),(23,(.bool p2))]∧Bs w A w' O'∧Lc 2 w' O' g8 45 [(.int .i64 x1.var),(.int .i64 x1.val)]∧Rw 4 w' O' 45 (.slice f0.1 i0.1.length f0.2) i0.1∧Lc 3 w' O' u0 45 [(.int .i64 n0.var),(.int .i64 n0.val)]∧Vb w' (Fr 0 w' O') (.slice A3 x0.length c4) x0) ?_ ?_
   ·
    refine Aj (Ar rfl rfl (CV rfl rfl (Ar rfl rfl ?_)))
    rcases Bool.eq_false_or_eq_true (!i0.2) with w0|w0
    ·
     try simp only [w0]
     replace d0:=ip d0 w0
     refine Az rfl rfl (AN rfl rfl (Az rfl rfl (AG (hc:=Blk.cell (i:=0) (k0.1) rfl) rfl rfl ?_)))
     refine Az rfl rfl (AN rfl rfl (Az rfl rfl ?_))
     replace b0:=(b0.st g0).st h0
     refine AG (hc:=Blk.cell (i:=0) (b0.1) rfl) rfl rfl ?_
     refine Az rfl rfl (Dg rfl rfl rfl (fun n1=>?_) fun n1=>?_)
     ·
      replace d0:=ip d0 n1
      refine BA rfl rfl rfl (o_z ?_)
      obtain rfl:=sm d0
      exact ⟨(),_,⟨rfl,rfl,rfl,rfl,rfl,rfl,rfl,rfl,trivial⟩,(hB.st g0).st h0,b0,(j0.st g0).st h0,k0,(c0.st g0).st h0⟩
     replace d0:=im d0 n1
     refine BA rfl rfl rfl (o_z ?_)
     obtain rfl:=sm d0
     exact ⟨(),_,⟨rfl,rfl,rfl,rfl,rfl,rfl,rfl,rfl,trivial⟩,(hB.st g0).st h0,b0,(j0.st g0).st h0,k0,(c0.st g0).st h0⟩
    try simp only [w0]
    replace d0:=im' d0 w0
    refine Ay rfl rfl rfl rfl (Ay rfl rfl rfl rfl (Ay rfl rfl rfl rfl (Ay rfl rfl rfl rfl (Ay rfl rfl rfl rfl (BD rfl rfl rfl (o_z ?_))))))
    obtain rfl:=sm d0
    exact ⟨(),_,⟨rfl,rfl,rfl,rfl,rfl,rfl,rfl,rfl,trivial⟩,(hB.st g0).st h0,(b0.st g0).st h0,(j0.st g0).st h0,k0,(c0.st g0).st h0⟩
   replace hB:=(hB.st g0).st h0
   replace c0:=(c0.st g0).st h0
   replace b0:=(b0.st g0).st h0
   replace j0:=(j0.st g0).st h0
   rintro m3 n3 ⟨q2,o3,o1,hB,b0,j0,k0,c0⟩
   refine AO _ o1 ?_
   refine BK rfl (fun p1=>?_) (fun p1=>?_)
   ·
    replace e0:=ip e0 p1
    refine Al (Aj (Ar rfl rfl (Bk (hl:=rfl) (hc:=(b0.1).cellsAt) rfl rfl ?_)))
    obtain ⟨p3,q1,e0⟩:=bs e0
    obtain ⟨q1,r2,s2⟩:=Cc q1
    refine CY rfl (a:=x1) j0 (Vb.ofAgg (cs:=[(.int .i64 x1.var),(.int .i64 x1.val)]) (x:=x1) rfl ⟨rfl,r6,r7⟩) (fun _=>rfl) rfl (by decide) (by decide) r2 s2 ⟨rfl,rfl⟩ fun q3 t2 u2 r3 s3 c1 g2=>?_
    rw [← q1] at g2 ⊢
    refine Au rfl rfl (o_z ?_)
    refine Aj (Au rfl rfl (o_z ?_))
    obtain rfl:=sm e0
    exact ⟨(t2,u2),_,⟨rfl,rfl,rfl,rfl,rfl,rfl,rfl,trivial⟩,hB.st c1,b0.st c1,g2,k0.st c1,c0.st c1⟩
   replace e0:=im' e0 p1
   refine AM ?_
   obtain rfl:=sm e0
   exact ⟨(f0.1,f0.2),_,⟨rfl,rfl,rfl,rfl,rfl,rfl,rfl,trivial⟩,hB,b0,j0,k0,c0⟩
  replace hB:=(hB.st g0).st h0
  replace c0:=(c0.st g0).st h0
  replace b0:=(b0.st g0).st h0
  rintro t3 u3 ⟨v0,v3,r1,hB,b0,v2,k0,c0⟩
  refine AO _ r1 ?_
  refine Aj (Ar rfl rfl (Bk (hl:=rfl) (hc:=(k0.1).cellsAt) rfl rfl ?_))
  obtain ⟨w3,s1,l0⟩:=bs l0
  obtain ⟨s1,w2,x2⟩:=Cc s1
  refine CY rfl (a:=n0) v2 (Vb.ofAgg (cs:=[(.int .i64 n0.var),(.int .i64 n0.val)]) (x:=n0) rfl ⟨rfl,l2,m2⟩) (fun _=>rfl) rfl (by decide) (by decide) w2 x2 ⟨rfl,rfl⟩ fun x3 y2 z2 y3 z3 t1 h2=>?_
  rw [← s1] at h2 ⊢
  refine Au rfl rfl (o_z ?_)
  obtain rfl:=sm l0
  exact show Exists _ from ⟨_,(y2,z2),rfl,⟨rfl,rfl,rfl,rfl,rfl,rfl,trivial⟩,_,hB.st t1,b0.st t1,h2,c0.st t1⟩
 replace hB:=hB.st e1
 rintro a4 b4 ⟨d4,y0,rfl,u1,e4,hB,b0,j0⟩
 replace hm:=Be hm
 refine AO _ u1 ?_
 refine Al ?_
 obtain ⟨o0,a0,hm⟩:=bs hm
 refine AH (fun l' w'=>∃ (m0:(Option Addr×Nat)) (O':Lab),subs l' [(5,(.slice m0.1 o0.length m0.2))]∧Bs w A w' O'∧Rw 4 w' O' 45 (.slice m0.1 o0.length m0.2) o0) ?_ ?_
 ·
  refine Al (Aj (Ar rfl rfl (CV rfl rfl (o_z ?_))))
  refine BK rfl (fun p0=>?_) (fun p0=>?_)
  ·
   replace a0:=ip a0 p0
   refine Aj (Ar rfl rfl (Bk (hl:=rfl) (hc:=(b0.1).cellsAt) rfl rfl ?_))
   obtain ⟨a3,q0,a0⟩:=bs a0
   obtain ⟨q0,v1,w1⟩:=Cc q0
   refine CY rfl (a:=x1) j0 (Vb.ofAgg (cs:=[(.int .i64 x1.var),(.int .i64 x1.val)]) (x:=x1) rfl ⟨rfl,r6,r7⟩) (fun _=>rfl) rfl (by decide) (by decide) v1 w1 ⟨rfl,rfl⟩ fun b3 y1 z1 c3 d3 a2 z0=>?_
   rw [← q0] at z0 ⊢
   refine Au rfl rfl (o_z ?_)
   obtain rfl:=sm a0
   exact ⟨(y1,z1),_,⟨rfl,trivial⟩,hB.st a2,z0⟩
  replace a0:=im' a0 p0
  refine AM ?_
  obtain rfl:=sm a0
  exact ⟨(y0.1,y0.2),_,⟨rfl,trivial⟩,hB,j0⟩
 rintro e3 b2 ⟨m0,f3,a1,hB,r0⟩
 refine AO _ a1 ?_
 refine Al (Aj (Ar rfl rfl (Au rfl rfl (o_z ?_))))
 refine AJ ?_
 obtain ⟨c2,d2,r0⟩:=r0.freeze
 obtain rfl:=sm hm
 replace hB:=hB.st d2
 exact ret1v rfl (AD rfl) ⟨hB.ext,(Vb.mono (F:=Fr 0 b2 c2) r0 hB.out)⟩
noncomputable def EJ (x0:List Fct):Option ((List Fct)×Int) :=
  bnd (rng (ρ:=(List Fct)×Int) (fun (k10:Nat) (a11:Fct) (s8:Unit)=>bnd (if a11.var < 0 then (some true) else (if a11.val < 0 then (some true) else (some false)):Option Bool) fun y37=>if y37=true then (some (.ret (([]:List Fct),1))) else (some (.next ()))) x0 0 ()) fun res6=>fin res6 fun (s52:Unit)=>bnd (rng (ρ:=(List Fct)×Int) (fun (k60:Nat) (a61:Fct) (s58:(List Fct))=>bnd (DM s58 a61.var) fun q89=>bnd (if 0≤q89 then (if q89≠a61.val then (some true) else (some false)) else (some false):Option Bool) fun y97=>if y97=true then (some (.ret (([]:List Fct),2))) else (if q89 < 0 then (bnd (Ej s58 a61) fun q109=>some (.next q109)) else (some (.next s58)))) x0 0 ([]:List Fct)) fun res56=>fin res56 fun (s122:(List Fct))=>some (s122,0)
theorem Lw {w:World} {A:Nat→Prop} (hA:∀ k,A k→k < w.heap.size) {vx0:Value} {x0:List Fct} (b0:Vb w A vx0 x0) {r:(List Fct)×Int} (hm:EJ x0=some r) :
    Fn Tryz.prog 72 [vx0] w fun v w'=>Ext w w'∧T2 w' (upA A w w') v r:=by
 obtain ⟨O,hB,l2⟩:=enter hA
 replace b0:=b0.mono l2
 obtain ⟨A2,c3,rfl⟩:=b0.form
 refine AK Tryz.func72 rfl Tryz.ntmps72 rfl ?_
 unfold EJ at hm
 refine Al (Aj (Au rfl rfl (Au rfl rfl (o_z ?_))))
 refine Al (Al (Aj (Ar rfl rfl (AY rfl rfl ?_))))
 have l5:x0.length≤9223372036854775807:=Nat.le_trans b0.len.2.1 b0.len.2.2
 have r4:inI64 (x0.length:Int):=rngNat l5
 refine Ar rfl rfl (o_z ?_)
 obtain ⟨f1,m2,hm⟩:=bs hm
 refine AH (aft f1 (fun (s8:Unit) (x9:Unit)=>[(0,(.slice A2 x0.length c3))]) (fun s8 x9 w'=>∃ O':Lab,Bs w A w' O'∧Vb w' (Fr 0 w' O') (.slice A2 x0.length c3) x0)) ?_ ?_
 ·
  refine AU (Bu (σ:=Unit) (X:=Unit) (x0.length) m2 rfl l5 (fun (s8:Unit) (x9:Unit)=>[(0,(.slice A2 x0.length c3)),(10,(.slice A2 x0.length c3))]) _ (fun s8 x9 w'=>∃ O':Lab,Bs w A w' O'∧Vb w' (Fr 0 w' O') (.slice A2 x0.length c3) x0) _ () ⟨O,hB,b0⟩ ⟨rfl,rfl,rfl,rfl,trivial⟩ (fun _ _=>⟨rfl,rfl⟩) (fun _ _=>⟨rfl,trivial⟩) (fun _ _ _ ⟨O',hB,b0⟩=>⟨O',hB,b0⟩) ⟨rfl,rfl,rfl⟩ ⟨rfl,rfl⟩ ?_)
  rintro g2 h2 s8 x9 n3 n2 w0 ⟨o2,hB,b0⟩ f0 o0 g1
  have rk10:inI64 (g2:Int):=rngK w0 l5
  refine Al (Aj ?_)
  obtain ⟨o3,p3,p2,h1,i1,j1,rfl,q3,r3⟩:=b0.elem' w0
  refine Bv (hA:=h1) (hj:=rfl) (hlt:=i1) rfl rfl rfl ?_
  refine Bk (hl:=rfl) (hc:=j1) rfl rfl ?_
  refine Bh 2 o2 rfl fun q2 s3 r2 m0 v0=>?_
  refine AZ v0 rfl rfl rfl (Bj rfl) (allOne rfl) fun s2 n0 v0=>?_
  replace v0:Lc 2 s2 r2 q2 45 [(.int .i64 h2.var),(.int .i64 h2.val)]:=v0
  refine o_z ?_
  refine Al ?_
  obtain ⟨t2,c0,f0⟩:=bs f0
  refine AH (fun l' w'=>∃ (u2:Unit) (O':Lab),subs l' [(0,(.slice A2 x0.length c3)),(10,(.slice A2 x0.length c3)),(11,(.int .i64 (x0.length:Int))),(12,(.int .i64 (g2:Int))),(23,(.bool t2))]∧Bs w A w' O'∧Vb w' (Fr 0 w' O') (.slice A2 x0.length c3) x0) ?_ ?_
  ·
   refine Aj (AN rfl rfl (AG (hc:=Blk.cell (i:=0) (v0.1) rfl) rfl rfl ?_))
   refine Da rfl rfl rfl (fun k1=>?_) fun k1=>?_
   ·
    replace c0:=ip c0 k1
    refine Ar rfl rfl (Ay rfl rfl rfl rfl (Ay rfl rfl rfl rfl (Ay rfl rfl rfl rfl (BA rfl rfl rfl (o_z ?_)))))
    obtain rfl:=sm c0
    exact ⟨(),_,⟨rfl,rfl,rfl,rfl,rfl,trivial⟩,(hB.st m0).st n0,(b0.st m0).st n0⟩
   replace c0:=im c0 k1
   refine Ar rfl rfl (Az rfl rfl (AN rfl rfl (Az rfl rfl (AG (hc:=Blk.cell (i:=1) (v0.1) rfl) rfl rfl ?_))))
   refine Az rfl rfl (Da rfl rfl rfl (fun l1=>?_) fun l1=>?_)
   ·
    replace c0:=ip c0 l1
    refine BD rfl rfl rfl (o_z ?_)
    obtain rfl:=sm c0
    exact ⟨(),_,⟨rfl,rfl,rfl,rfl,rfl,trivial⟩,(hB.st m0).st n0,(b0.st m0).st n0⟩
   replace c0:=im c0 l1
   refine BD rfl rfl rfl (o_z ?_)
   obtain rfl:=sm c0
   exact ⟨(),_,⟨rfl,rfl,rfl,rfl,rfl,trivial⟩,(hB.st m0).st n0,(b0.st m0).st n0⟩
  replace hB:=(hB.st m0).st n0
  replace b0:=(b0.st m0).st n0
  rintro t3 v2 ⟨u2,w2,m1,hB,b0⟩
  refine AO _ m1 ?_
  refine BK rfl (fun n1=>?_) (fun n1=>?_)
  ·
   replace f0:=ip f0 n1
   refine Al (Aj (Au rfl rfl (Au rfl rfl (o_z ?_))))
   refine AJ ?_
   obtain rfl:=sm f0
   obtain rfl:=o0 _ rfl
   obtain rfl:=sm (BM hm)
   exact ret2 rfl (AD rfl) (AD rfl) ⟨hB.ext,_,_,rfl,(Vb.mono (F:=Fr 0 v2 w2) (Vb.nil _ _) hB.out),(vInt (show inI64 (1) from by decide))⟩
  replace f0:=im' f0 n1
  refine AM ?_
  obtain rfl:=sm f0
  exact show Exists _ from ⟨_,(),rfl,⟨rfl,rfl,rfl,rfl,trivial⟩,_,hB,b0⟩
 rintro u3 v3 ⟨w3,x3,rfl,o1,x2,hB,b0⟩
 replace hm:=Be hm
 refine AO _ o1 ?_
 refine Al (Aj (Au rfl rfl (o_z ?_)))
 refine Al (Al (Aj (Ar rfl rfl (AY rfl rfl ?_))))
 have p1:x0.length≤9223372036854775807:=Nat.le_trans b0.len.2.1 b0.len.2.2
 have y3:inI64 (x0.length:Int):=rngNat p1
 refine Ar rfl rfl (o_z ?_)
 obtain ⟨y0,q1,hm⟩:=bs hm
 refine AH (aft y0 (fun (j0:(List Fct)) (e0:(Option Addr×Nat))=>[(6,(.slice e0.1 j0.length e0.2))]) (fun j0 e0 w'=>∃ O':Lab,Bs w A w' O'∧Vb w' (Fr 0 w' O') (.slice e0.1 j0.length e0.2) j0)) ?_ ?_
 ·
  refine AU (Bu (σ:=(List Fct)) (X:=(Option Addr×Nat)) (x0.length) q1 rfl p1 (fun (j0:(List Fct)) (e0:(Option Addr×Nat))=>[(6,(.slice e0.1 j0.length e0.2)),(25,(.slice A2 x0.length c3))]) _ (fun j0 e0 w'=>∃ O':Lab,Bs w A w' O'∧Vb w' (Fr 0 w' O') (.slice e0.1 j0.length e0.2) j0∧Vb w' (Fr 0 w' O') (.slice A2 x0.length c3) x0) _ (none,0) ⟨x2,hB,(Vb.nil _ _),b0⟩ ⟨rfl,rfl,rfl,rfl,trivial⟩ (fun _ _=>⟨rfl,rfl⟩) (fun _ _=>⟨rfl,trivial⟩) (fun _ _ _ ⟨O',hB,g0,b0⟩=>⟨O',hB,g0⟩) ⟨rfl,rfl,rfl⟩ ⟨rfl,rfl⟩ ?_)
  rintro i2 p0 j0 e0 z3 y2 z0 ⟨z2,hB,g0,b0⟩ a0 q0 r1
  have rk60:inI64 (i2:Int):=rngK z0 p1
  refine Al (Aj ?_)
  obtain ⟨a4,b4,a3,s1,t1,u1,rfl,j2,b3⟩:=b0.elem' z0
  refine Bv (hA:=s1) (hj:=rfl) (hlt:=t1) rfl rfl rfl ?_
  refine Bk (hl:=rfl) (hc:=u1) rfl rfl ?_
  refine Bh 3 z2 rfl fun v1 c4 w1 k0 h0=>?_
  refine AZ h0 rfl rfl rfl (Bj rfl) (allOne rfl) fun x1 l0 h0=>?_
  replace h0:Lc 3 x1 w1 v1 45 [(.int .i64 p0.var),(.int .i64 p0.val)]:=h0
  refine o_z ?_
  refine Al (Aj (Ar rfl rfl (AN rfl rfl (AG (hc:=Blk.cell (i:=0) (h0.1) rfl) rfl rfl ?_))))
  obtain ⟨k2,d3,a0⟩:=bs a0
  replace g0:=(g0.st k0).st l0
  refine Bi (O:=w1) (A:=All x1) (R:=fun w' F v=>Vb w' F v k2) (KO (fun _ h=>h) (Vb.mono (F:=Fr 0 x1 w1) g0 Fr.lt) j2 d3) rfl rfl fun d4 e4 f4 i0 e3=>?_
  obtain ⟨rfl,g4⟩:=e3.int
  refine Au rfl rfl (o_z ?_)
  refine Al (Al ?_)
  obtain ⟨f3,d0,a0⟩:=bs a0
  refine AH (fun l' w'=>∃ (y1:Unit) (O':Lab),subs l' [(6,(.slice e0.1 j0.length e0.2)),(8,(.pointer (some ⟨v1,0,none⟩))),(9,(.int .i64 k2)),(25,(.slice A2 x0.length c3)),(26,(.int .i64 (x0.length:Int))),(27,(.int .i64 (i2:Int))),(42,(.bool f3))]∧Bs w A w' O'∧Vb w' (Fr 0 w' O') (.slice e0.1 j0.length e0.2) j0∧Lc 3 w' O' v1 45 [(.int .i64 p0.var),(.int .i64 p0.val)]∧Vb w' (Fr 0 w' O') (.slice A2 x0.length c3) x0) ?_ ?_
  ·
   refine Aj (Ar rfl rfl (FK rfl rfl rfl (fun r0=>?_) fun r0=>?_))
   ·
    replace d0:=ip d0 r0
    refine Ar rfl rfl (Az rfl rfl (Ar rfl rfl (Az rfl rfl (AN rfl rfl (Az rfl rfl ?_)))))
    replace h0:=h0.st i0
    refine AG (hc:=Blk.cell (i:=1) (h0.1) rfl) rfl rfl ?_
    refine Az rfl rfl (Fp rfl rfl rfl (fun s0=>?_) fun s0=>?_)
    ·
     replace d0:=ip d0 s0
     refine BA rfl rfl rfl (o_z ?_)
     obtain rfl:=sm d0
     exact ⟨(),_,⟨rfl,rfl,rfl,rfl,rfl,rfl,rfl,trivial⟩,((hB.st k0).st l0).st i0,g0.st i0,h0,((b0.st k0).st l0).st i0⟩
    replace d0:=im d0 s0
    refine BA rfl rfl rfl (o_z ?_)
    obtain rfl:=sm d0
    exact ⟨(),_,⟨rfl,rfl,rfl,rfl,rfl,rfl,rfl,trivial⟩,((hB.st k0).st l0).st i0,g0.st i0,h0,((b0.st k0).st l0).st i0⟩
   replace d0:=im d0 r0
   refine Ar rfl rfl (Ay rfl rfl rfl rfl (Ay rfl rfl rfl rfl (Ay rfl rfl rfl rfl (Ay rfl rfl rfl rfl (BD rfl rfl rfl (o_z ?_))))))
   obtain rfl:=sm d0
   exact ⟨(),_,⟨rfl,rfl,rfl,rfl,rfl,rfl,rfl,trivial⟩,((hB.st k0).st l0).st i0,g0.st i0,h0.st i0,((b0.st k0).st l0).st i0⟩
  replace b0:=((b0.st k0).st l0).st i0
  replace hB:=((hB.st k0).st l0).st i0
  replace g0:=g0.st i0
  replace h0:=h0.st i0
  rintro g3 z1 ⟨y1,a1,b1,hB,g0,h0,b0⟩
  refine AO _ b1 ?_
  refine BK rfl (fun t0=>?_) (fun t0=>?_)
  ·
   replace a0:=ip a0 t0
   refine Al (Aj (Au rfl rfl (Au rfl rfl (o_z ?_))))
   refine AJ ?_
   obtain rfl:=sm a0
   obtain rfl:=q0 _ rfl
   obtain rfl:=sm (BM hm)
   exact ret2 rfl (AD rfl) (AD rfl) ⟨hB.ext,_,_,rfl,(Vb.mono (F:=Fr 0 z1 a1) (Vb.nil _ _) hB.out),(vInt (show inI64 (2) from by decide))⟩
  replace a0:=im' a0 t0
  refine AM (Al (Aj (Ar rfl rfl (Da rfl rfl rfl (fun u0=>?_) fun u0=>?_))))
  ·
   replace a0:=ip a0 u0
   refine o_z ?_
   refine Ah rfl (Aj (Ar rfl rfl (Bk (hl:=rfl) (hc:=(h0.1).cellsAt) rfl rfl ?_)))
   obtain ⟨a2,b2,a0⟩:=bs a0
   refine Bq (O:=a1) (R:=fun w' F v=>Vb w' F v a2) (Lv Fr.lt g0 (Vb.ofAgg (cs:=[(.int .i64 p0.var),(.int .i64 p0.val)]) (x:=p0) rfl ⟨rfl,j2,b3⟩) b2) rfl rfl fun h3 i3 j3 c1 d1=>?_
   obtain ⟨c2,d2,rfl⟩:=d1.form
   refine Au rfl rfl (o_z ?_)
   obtain rfl:=sm a0
   exact show Exists _ from ⟨_,(c2,d2),rfl,⟨rfl,rfl,rfl,rfl,trivial⟩,_,hB.st c1,d1,b0.st c1⟩
  replace a0:=im a0 u0
  refine o_z ?_
  refine Ae rfl (AM ?_)
  obtain rfl:=sm a0
  exact show Exists _ from ⟨_,(e0.1,e0.2),rfl,⟨rfl,rfl,rfl,rfl,trivial⟩,_,hB,g0,b0⟩
 rintro k3 e2 ⟨l3,m3,rfl,e1,f2,hB,g0⟩
 replace hm:=Be hm
 refine AO _ e1 ?_
 refine Al (Aj (Ar rfl rfl (Au rfl rfl (Au rfl rfl (o_z ?_)))))
 refine AJ ?_
 obtain rfl:=sm hm
 exact ret2 rfl (AD rfl) (AD rfl) ⟨hB.ext,_,_,rfl,(Vb.mono (F:=Fr 0 e2 f2) g0 hB.out),(vInt (show inI64 (0) from by decide))⟩
noncomputable def Cl (x0:List Int) (x1:Int):Option Bool :=
  if (x0.length:Int)≠x1 then (some false) else (bnd (natI x1) fun N21=>bnd (rngN (ρ:=Bool) (fun (k12:Nat) (s10:Unit)=>bnd (rng (ρ:=Ctl Unit Bool) (fun (k29:Nat) (a30:Int) (s27:Int)=>if a30=(k12:Int) then (bnd (chkI (s27 + 1)) fun n51=>some (.next n51)) else (some (.next s27))) x0 0 0) fun res25=>fin res25 fun (s58:Int)=>if s58≠1 then (some (.ret false)) else (some (.next ()))) N21 ()) fun res8=>fin res8 fun (s65:Unit)=>some true)
theorem EI {w:World} {A:Nat→Prop} (hA:∀ k,A k→k < w.heap.size) {vx0:Value} {x0:List Int} (b0:Vb w A vx0 x0) {x1:Int} (rx1:inI64 x1) {r:Bool} (hm:Cl x0 x1=some r) :
    Fn Tryz.prog 70 [vx0,(.int .i64 x1)] w fun v w'=>Ext w w'∧Vb w' (upA A w w') v r:=by
 obtain ⟨O,hB,e1⟩:=enter hA
 replace b0:=b0.mono e1
 obtain ⟨A3,c4,rfl⟩:=b0.form
 refine AK Tryz.func70 rfl Tryz.ntmps70 rfl ?_
 unfold Cl at hm
 refine Al (Aj (Au rfl rfl (o_z ?_)))
 refine Al (Al (Aj (Ar rfl rfl (AY rfl rfl ?_))))
 have l6:x0.length≤9223372036854775807:=Nat.le_trans b0.len.2.1 b0.len.2.2
 have r5:inI64 (x0.length:Int):=rngNat l6
 refine Ar rfl rfl (Fp rfl rfl rfl (fun c7=>?_) fun c7=>?_)
 ·
  replace hm:=ip hm c7
  refine o_z ?_
  refine Ah rfl (Al (Aj (Au rfl rfl (o_z ?_))))
  refine AJ ?_
  obtain rfl:=sm hm
  exact ret1v rfl (AD rfl) ⟨hB.ext,vBool⟩
 replace hm:=im hm c7
 refine o_z ?_
 refine Ae rfl (AM (Al (Al (Aj (Ar rfl rfl (Ar rfl rfl (o_z ?_)))))))
 obtain ⟨n0,d0,hm⟩:=bs hm
 replace d0:=Kq d0
 obtain ⟨o0,f1,hm⟩:=bs hm
 refine AH (aft o0 (fun (i0:Unit) (j0:Unit)=>[]) (fun i0 j0 w'=>∃ O':Lab,Bs w A w' O')) ?_ ?_
 ·
  refine AU (Jb (σ:=Unit) (X:=Unit) n0 f1 (IA d0 rx1) (fun (i0:Unit) (j0:Unit)=>[(0,(.slice A3 x0.length c4))]) _ (fun i0 j0 w'=>∃ O':Lab,Bs w A w' O'∧Vb w' (Fr 0 w' O') (.slice A3 x0.length c4) x0) _ () ⟨O,hB,b0⟩ ⟨rfl,(congrArg (fun z=>some (Value.int .i64 z)) d0),rfl,trivial⟩ (fun _ _=>⟨rfl,rfl⟩) (fun _ _=>trivial) (fun _ _ _ ⟨O',hB,b0⟩=>⟨O',hB⟩) ⟨rfl,rfl,rfl⟩ ⟨rfl,rfl⟩ ?_)
  rintro k0 i0 j0 m1 g1 p0 ⟨h1,hB,b0⟩ a0 f0 q0
  have rk12:inI64 (k0:Int):=rngKN p0 (IA d0 rx1)
  refine Al (Aj (Ar rfl rfl (Au rfl rfl (o_z ?_))))
  refine Al (Aj (Au rfl rfl (o_z ?_)))
  refine Al (Al (Aj (Ar rfl rfl (AY rfl rfl ?_))))
  have r0:x0.length≤9223372036854775807:=Nat.le_trans b0.len.2.1 b0.len.2.2
  have n1:inI64 (x0.length:Int):=rngNat r0
  refine Ar rfl rfl (o_z ?_)
  obtain ⟨g0,s0,a0⟩:=bs a0
  refine AH (aft g0 (fun (e0:Int) (l0:Unit)=>[(0,(.slice A3 x0.length c4)),(6,(.int .i64 e0)),(13,(.int .i64 (n0:Int))),(14,(.int .i64 (k0:Int)))]) (fun e0 l0 w'=>∃ O':Lab,Bs w A w' O'∧Vb w' (Fr 0 w' O') (.slice A3 x0.length c4) x0∧inI64 e0)) ?_ ?_
  ·
   refine AU (Bu (σ:=Int) (X:=Unit) (x0.length) s0 rfl r0 (fun (e0:Int) (l0:Unit)=>[(0,(.slice A3 x0.length c4)),(5,(.int .i64 (k0:Int))),(6,(.int .i64 e0)),(13,(.int .i64 (n0:Int))),(14,(.int .i64 (k0:Int))),(17,(.slice A3 x0.length c4))]) _ (fun e0 l0 w'=>∃ O':Lab,Bs w A w' O'∧Vb w' (Fr 0 w' O') (.slice A3 x0.length c4) x0∧inI64 e0) _ () ⟨h1,hB,b0,(show inI64 (0) from by decide)⟩ ⟨rfl,rfl,rfl,rfl,rfl,rfl,rfl,rfl,trivial⟩ (fun _ _=>⟨rfl,rfl⟩) (fun _ _=>⟨rfl,rfl,rfl,rfl,trivial⟩) (fun _ _ _ ⟨O',hB,b0,m0⟩=>⟨O',hB,b0,m0⟩) ⟨rfl,rfl,rfl⟩ ⟨rfl,rfl⟩ ?_)
   rintro i1 o1 e0 l0 p1 j1 h0 ⟨q1,hB,b0,m0⟩ c0 t0 u0
   have rk29:inI64 (i1:Int):=rngK h0 r0
   refine Al (Aj ?_)
   obtain ⟨r1,s1,k1,v0,w0,y0,rfl,t1⟩:=b0.elem' h0
   refine Bv (hA:=v0) (hj:=rfl) (hlt:=w0) rfl rfl rfl ?_
   refine AG (hc:=cat0 y0) rfl rfl ?_
   refine Au rfl rfl (o_z ?_)
   refine Al (Aj (Ar rfl rfl (Ar rfl rfl (EP rfl rfl rfl (fun z0=>?_) fun z0=>?_))))
   ·
    replace c0:=ip c0 z0
    refine o_z ?_
    refine Ah rfl (Aj (Ar rfl rfl ?_))
    obtain ⟨u1,d1,c0⟩:=bs c0
    have l1:=(Co d1)
    refine Gk (he:=d1) rfl rfl rfl ?_
    refine Au rfl rfl (o_z ?_)
    obtain rfl:=sm c0
    exact show Exists _ from ⟨_,(),rfl,⟨rfl,rfl,rfl,rfl,rfl,rfl,rfl,rfl,trivial⟩,_,hB,b0,l1⟩
   replace c0:=im c0 z0
   refine o_z ?_
   refine Ae rfl (AM ?_)
   obtain rfl:=sm c0
   exact show Exists _ from ⟨_,(),rfl,⟨rfl,rfl,rfl,rfl,rfl,rfl,rfl,rfl,trivial⟩,_,hB,b0,m0⟩
  rintro v1 w1 ⟨y1,z1,rfl,a1,a2,hB,b0,m0⟩
  replace a0:=Be a0
  refine AO _ a1 ?_
  refine Al (Aj (Ar rfl rfl (Fp rfl rfl rfl (fun b1=>?_) fun b1=>?_)))
  ·
   replace a0:=ip a0 b1
   refine o_z ?_
   refine Ah rfl (Al (Aj (Au rfl rfl (o_z ?_))))
   refine AJ ?_
   obtain rfl:=sm a0
   obtain rfl:=f0 _ rfl
   obtain rfl:=sm (BM hm)
   exact ret1v rfl (AD rfl) ⟨hB.ext,vBool⟩
  replace a0:=im a0 b1
  refine o_z ?_
  refine Ae rfl (AM ?_)
  obtain rfl:=sm a0
  exact show Exists _ from ⟨_,(),rfl,⟨rfl,rfl,rfl,trivial⟩,_,hB,b0⟩
 rintro b2 c2 ⟨d2,e2,rfl,c1,f2,hB⟩
 replace hm:=Be hm
 refine AO _ c1 ?_
 refine Al (Aj (Au rfl rfl (o_z ?_)))
 refine AJ ?_
 obtain rfl:=sm hm
 exact ret1v rfl (AD rfl) ⟨hB.ext,vBool⟩
noncomputable def Ey (x0:Tsk) (x1:Swp):Option Bool :=
  bnd (bnd (Cl x1.vars (x0.vars.length:Int)) fun q49=>if q49=true then if (x1.vals.length:Int)≠(x0.vars.length:Int) then (some true) else (bnd (Cl x1.ops (x0.ops.length:Int)) fun q63=>if q63=true then some false else some true) else some true:Option Bool) fun y43=>if y43=true then (some false) else (bnd (rng (ρ:=Bool) (fun (k81:Nat) (a82:Int) (s79:Unit)=>bnd (bnd (x1.vars[k81]?) fun a104=>bnd (atI x0.vars a104) fun a114=>if a114≠a82 then (some true) else (bnd (x1.vals[k81]?) fun a127=>bnd (Cl a127 a82) fun q140=>if q140=true then some false else some true):Option Bool) fun y100=>if y100=true then (some (.ret false)) else (some (.next ()))) x0.vars 0 ()) fun res77=>fin res77 fun (s156:Unit)=>some true)
theorem KP {w:World} {A:Nat→Prop} (hA:∀ k,A k→k < w.heap.size) {vx0:Value} {x0:Tsk} (e2:Vb w A vx0 x0) {vx1:Value} {x1:Swp} (f2:Vb w A vx1 x1) {r:Bool} (hm:Ey x0 x1=some r) :
    Fn Tryz.prog 45 [vx0,vx1] w fun v w'=>Ext w w'∧Vb w' (upA A w w') v r:=by
 obtain ⟨O,hB,b3⟩:=enter hA
 replace e2:=e2.mono b3
 obtain ⟨e5,rfl,v4,v5,v6,v7,rfl,h8,o0,p0,j0⟩:=e2
 obtain ⟨A9,q0,rfl⟩:=h8.form
 obtain ⟨s0,t0,rfl⟩:=o0.form
 obtain ⟨u0,v0,rfl⟩:=p0.form
 obtain ⟨w0,y0,rfl⟩:=j0.form
 replace f2:=f2.mono b3
 obtain ⟨m3,rfl,f5,g5,h5,rfl,k0,i0,m0⟩:=f2
 obtain ⟨z0,a1,rfl⟩:=k0.form
 obtain ⟨b1,c1,rfl⟩:=i0.form
 obtain ⟨d1,e1,rfl⟩:=m0.form
 refine AK Tryz.func45 rfl Tryz.ntmps45 rfl ?_
 unfold Ey at hm
 refine Al (Aj (BS 2 O rfl rfl fun f1 n3 c3 e0 g0=>?_))
 replace g0:Lc 2 n3 c3 f1 26 [(.slice A9 x0.vars.length q0),(.slice s0 x0.init.length t0),(.slice u0 x0.goal.length v0),(.slice w0 x0.ops.length y0)]:=g0
 refine BS 3 c3 rfl rfl fun g1 g2 h2 d0 h0=>?_
 replace h0:Lc 3 g2 h2 g1 53 [(.slice z0 x1.vars.length a1),(.slice b1 x1.vals.length c1),(.slice d1 x1.ops.length e1)]:=h0
 refine Au rfl rfl (o_z ?_)
 refine Al (Al ?_)
 obtain ⟨o3,c0,hm⟩:=bs hm
 refine AH (fun l' w'=>∃ (p3:Unit) (O':Lab),subs l' [(2,(.pointer (some ⟨f1,0,none⟩))),(3,(.pointer (some ⟨g1,0,none⟩))),(31,(.bool o3))]∧Bs w A w' O'∧Lc 2 w' O' f1 26 [(.slice A9 x0.vars.length q0),(.slice s0 x0.init.length t0),(.slice u0 x0.goal.length v0),(.slice w0 x0.ops.length y0)]∧Vb w' (Fr 0 w' O') (.slice A9 x0.vars.length q0) x0.vars∧Vb w' (Fr 0 w' O') (.slice s0 x0.init.length t0) x0.init∧Vb w' (Fr 0 w' O') (.slice u0 x0.goal.length v0) x0.goal∧Vb w' (Fr 0 w' O') (.slice w0 x0.ops.length y0) x0.ops∧Lc 3 w' O' g1 53 [(.slice z0 x1.vars.length a1),(.slice b1 x1.vals.length c1),(.slice d1 x1.ops.length e1)]∧Vb w' (Fr 0 w' O') (.slice z0 x1.vars.length a1) x1.vars∧Vb w' (Fr 0 w' O') (.slice b1 x1.vals.length c1) x1.vals∧Vb w' (Fr 0 w' O') (.slice d1 x1.ops.length e1) x1.ops) ?_ ?_
 ·
  refine Aj (AN rfl rfl (AG (hc:=Blk.cell (i:=0) (h0.1) rfl) rfl rfl ?_))
  refine AN rfl rfl ?_
  replace g0:=g0.st d0
  refine AG (hc:=Blk.cell (i:=0) (g0.1) rfl) rfl rfl ?_
  refine AY rfl rfl ?_
  replace h8:=(h8.st e0).st d0
  have q3:x0.vars.length≤9223372036854775807:=Nat.le_trans h8.len.2.1 h8.len.2.2
  have r3:inI64 (x0.vars.length:Int):=rngNat q3
  obtain ⟨d3,s3,c0⟩:=bs c0
  replace k0:=(k0.st e0).st d0
  refine Bi (O:=h2) (A:=All g2) (R:=fun w' F v=>Vb w' F v d3) (EI (fun _ h=>h) (Vb.mono (F:=Fr 0 g2 h2) k0 Fr.lt) r3 s3) rfl rfl fun i5 e3 f3 f0 t3=>?_
  obtain rfl:=t3.bool
  cases d3
  case false =>
   replace c0:=iF c0
   refine Ct rfl rfl (Ar rfl rfl (Ay rfl rfl rfl rfl (Ay rfl rfl rfl rfl (Ay rfl rfl rfl rfl (Ay rfl rfl rfl rfl (Ay rfl rfl rfl rfl (Ay rfl rfl rfl rfl (Ay rfl rfl rfl rfl (BA rfl rfl rfl (Ar rfl rfl (Ay rfl rfl rfl rfl (Ay rfl rfl rfl rfl (Ay rfl rfl rfl rfl (Ay rfl rfl rfl rfl ?_))))))))))))))
   refine Ay rfl rfl rfl rfl (Ay rfl rfl rfl rfl (Ay rfl rfl rfl rfl (BA rfl rfl rfl (o_z ?_))))
   obtain rfl:=sm c0
   exact ⟨(),_,⟨rfl,rfl,rfl,trivial⟩,((hB.st e0).st d0).st f0,g0.st f0,h8.st f0,((o0.st e0).st d0).st f0,((p0.st e0).st d0).st f0,((j0.st e0).st d0).st f0,h0.st f0,k0.st f0,((i0.st e0).st d0).st f0,((m0.st e0).st d0).st f0⟩
  replace c0:=iT c0
  refine Cs rfl rfl (Ar rfl rfl (Az rfl rfl (AN rfl rfl (Az rfl rfl ?_))))
  replace h0:=h0.st f0
  refine AG (hc:=Blk.cell (i:=1) (h0.1) rfl) rfl rfl ?_
  refine Az rfl rfl (AY rfl rfl ?_)
  replace i0:=((i0.st e0).st d0).st f0
  have u3:x1.vals.length≤9223372036854775807:=Nat.le_trans i0.len.2.1 i0.len.2.2
  have j5:inI64 (x1.vals.length:Int):=rngNat u3
  refine Az rfl rfl (AN rfl rfl (Az rfl rfl ?_))
  replace g0:=g0.st f0
  refine AG (hc:=Blk.cell (i:=0) (g0.1) rfl) rfl rfl ?_
  refine Az rfl rfl (AY rfl rfl ?_)
  replace h8:=h8.st f0
  have v3:x0.vars.length≤9223372036854775807:=Nat.le_trans h8.len.2.1 h8.len.2.2
  have k5:inI64 (x0.vars.length:Int):=rngNat v3
  refine Az rfl rfl (Fp rfl rfl rfl (fun i2=>?_) fun i2=>?_)
  ·
   replace c0:=ip c0 i2
   refine BD rfl rfl rfl (Ar rfl rfl (Ay rfl rfl rfl rfl (Ay rfl rfl rfl rfl (Ay rfl rfl rfl rfl (Ay rfl rfl rfl rfl (Ay rfl rfl rfl rfl (Ay rfl rfl rfl rfl (Ay rfl rfl rfl rfl (BA rfl rfl rfl (o_z ?_))))))))))
   obtain rfl:=sm c0
   exact ⟨(),_,⟨rfl,rfl,rfl,trivial⟩,((hB.st e0).st d0).st f0,g0,h8,((o0.st e0).st d0).st f0,((p0.st e0).st d0).st f0,((j0.st e0).st d0).st f0,h0,k0.st f0,i0,((m0.st e0).st d0).st f0⟩
  replace c0:=im c0 i2
  refine BD rfl rfl rfl (Ar rfl rfl (Az rfl rfl (AN rfl rfl (Az rfl rfl (AG (hc:=Blk.cell (i:=2) (h0.1) rfl) rfl rfl ?_)))))
  refine Az rfl rfl (AN rfl rfl (Az rfl rfl (AG (hc:=Blk.cell (i:=3) (g0.1) rfl) rfl rfl ?_)))
  refine Az rfl rfl (AY rfl rfl ?_)
  replace j0:=((j0.st e0).st d0).st f0
  have w3:x0.ops.length≤9223372036854775807:=Nat.le_trans j0.len.2.1 j0.len.2.2
  have x3:inI64 (x0.ops.length:Int):=rngNat w3
  refine Az rfl rfl ?_
  obtain ⟨g3,y3,c0⟩:=bs c0
  replace m0:=((m0.st e0).st d0).st f0
  refine Bi (O:=f3) (A:=All e3) (R:=fun w' F v=>Vb w' F v g3) (EI (fun _ h=>h) (Vb.mono (F:=Fr 0 e3 f3) m0 Fr.lt) x3 y3) rfl rfl fun l5 m5 n5 l0 z3=>?_
  obtain rfl:=z3.bool
  cases g3
  case false =>
   replace c0:=iF c0
   refine Az rfl rfl (Ct rfl rfl (BD rfl rfl rfl (o_z ?_)))
   obtain rfl:=sm c0
   exact ⟨(),_,⟨rfl,rfl,rfl,trivial⟩,(((hB.st e0).st d0).st f0).st l0,g0.st l0,h8.st l0,(((o0.st e0).st d0).st f0).st l0,(((p0.st e0).st d0).st f0).st l0,j0.st l0,h0.st l0,(k0.st f0).st l0,i0.st l0,m0.st l0⟩
  replace c0:=iT c0
  refine Az rfl rfl (Cs rfl rfl (BD rfl rfl rfl (o_z ?_)))
  obtain rfl:=sm c0
  exact ⟨(),_,⟨rfl,rfl,rfl,trivial⟩,(((hB.st e0).st d0).st f0).st l0,g0.st l0,h8.st l0,(((o0.st e0).st d0).st f0).st l0,(((p0.st e0).st d0).st f0).st l0,j0.st l0,h0.st l0,(k0.st f0).st l0,i0.st l0,m0.st l0⟩
 replace hB:=(hB.st e0).st d0
 replace h8:=(h8.st e0).st d0
 replace o0:=(o0.st e0).st d0
 replace p0:=(p0.st e0).st d0
 replace j0:=(j0.st e0).st d0
 replace k0:=(k0.st e0).st d0
 replace i0:=(i0.st e0).st d0
 replace m0:=(m0.st e0).st d0
 replace g0:=g0.st d0
 rintro o5 p5 ⟨p3,a4,j2,hB,g0,h8,o0,p0,j0,h0,k0,i0,m0⟩
 refine AO _ j2 ?_
 refine BK rfl (fun k2=>?_) (fun k2=>?_)
 ·
  replace hm:=ip hm k2
  refine Al (Aj (Au rfl rfl (o_z ?_)))
  refine AJ ?_
  obtain rfl:=sm hm
  exact ret1v rfl (AD rfl) ⟨hB.ext,vBool⟩
 replace hm:=im' hm k2
 refine AM (Al (Al (Aj (AN rfl rfl (AG (hc:=Blk.cell (i:=0) (g0.1) rfl) rfl rfl ?_)))))
 refine AY rfl rfl ?_
 have l2:x0.vars.length≤9223372036854775807:=Nat.le_trans h8.len.2.1 h8.len.2.2
 have q5:inI64 (x0.vars.length:Int):=rngNat l2
 refine Ar rfl rfl (o_z ?_)
 obtain ⟨k1,m2,hm⟩:=bs hm
 refine AH (aft k1 (fun (c2:Unit) (d2:Unit)=>[]) (fun c2 d2 w'=>∃ O':Lab,Bs w A w' O')) ?_ ?_
 ·
  refine AU (Bu (σ:=Unit) (X:=Unit) (x0.vars.length) m2 rfl l2 (fun (c2:Unit) (d2:Unit)=>[(2,(.pointer (some ⟨f1,0,none⟩))),(3,(.pointer (some ⟨g1,0,none⟩))),(33,(.slice A9 x0.vars.length q0))]) _ (fun c2 d2 w'=>∃ O':Lab,Bs w A w' O'∧Lc 2 w' O' f1 26 [(.slice A9 x0.vars.length q0),(.slice s0 x0.init.length t0),(.slice u0 x0.goal.length v0),(.slice w0 x0.ops.length y0)]∧Vb w' (Fr 0 w' O') (.slice A9 x0.vars.length q0) x0.vars∧Vb w' (Fr 0 w' O') (.slice s0 x0.init.length t0) x0.init∧Vb w' (Fr 0 w' O') (.slice u0 x0.goal.length v0) x0.goal∧Vb w' (Fr 0 w' O') (.slice w0 x0.ops.length y0) x0.ops∧Lc 3 w' O' g1 53 [(.slice z0 x1.vars.length a1),(.slice b1 x1.vals.length c1),(.slice d1 x1.ops.length e1)]∧Vb w' (Fr 0 w' O') (.slice z0 x1.vars.length a1) x1.vars∧Vb w' (Fr 0 w' O') (.slice b1 x1.vals.length c1) x1.vals∧Vb w' (Fr 0 w' O') (.slice d1 x1.ops.length e1) x1.ops) _ () ⟨a4,hB,g0,h8,o0,p0,j0,h0,k0,i0,m0⟩ ⟨rfl,rfl,rfl,rfl,rfl,trivial⟩ (fun _ _=>⟨rfl,rfl⟩) (fun _ _=>trivial) (fun _ _ _ ⟨O',hB,g0,h8,o0,p0,j0,h0,k0,i0,m0⟩=>⟨O',hB⟩) ⟨rfl,rfl,rfl⟩ ⟨rfl,rfl⟩ ?_)
  rintro h3 r5 c2 d2 i3 b4 l1 ⟨n2,hB,g0,h8,o0,p0,j0,h0,k0,i0,m0⟩ n0 h1 o2
  have rk81:inI64 (h3:Int):=rngK l1 l2
  refine Al (Aj (Ar rfl rfl ?_))
  obtain ⟨s5,t5,c4,p2,q2,r2,rfl,d4⟩:=h8.elem' l1
  refine Bv (hA:=p2) (hj:=rfl) (hlt:=q2) rfl rfl rfl ?_
  refine AG (hc:=cat0 r2) rfl rfl ?_
  refine Au rfl rfl (Au rfl rfl (o_z ?_))
  refine Al ?_
  obtain ⟨s2,a0,n0⟩:=bs n0
  refine AH (fun l' w'=>∃ (t2:Unit) (O':Lab),subs l' [(2,(.pointer (some ⟨f1,0,none⟩))),(3,(.pointer (some ⟨g1,0,none⟩))),(33,(.slice A9 x0.vars.length q0)),(34,(.int .i64 (x0.vars.length:Int))),(35,(.int .i64 (h3:Int))),(60,(.bool s2))]∧Bs w A w' O'∧Lc 2 w' O' f1 26 [(.slice A9 x0.vars.length q0),(.slice s0 x0.init.length t0),(.slice u0 x0.goal.length v0),(.slice w0 x0.ops.length y0)]∧Vb w' (Fr 0 w' O') (.slice A9 x0.vars.length q0) x0.vars∧Vb w' (Fr 0 w' O') (.slice s0 x0.init.length t0) x0.init∧Vb w' (Fr 0 w' O') (.slice u0 x0.goal.length v0) x0.goal∧Vb w' (Fr 0 w' O') (.slice w0 x0.ops.length y0) x0.ops∧Lc 3 w' O' g1 53 [(.slice z0 x1.vars.length a1),(.slice b1 x1.vals.length c1),(.slice d1 x1.ops.length e1)]∧Vb w' (Fr 0 w' O') (.slice z0 x1.vars.length a1) x1.vars∧Vb w' (Fr 0 w' O') (.slice b1 x1.vals.length c1) x1.vals∧Vb w' (Fr 0 w' O') (.slice d1 x1.ops.length e1) x1.ops) ?_ ?_
  ·
   refine Bt [] n2 ?_
   refine AT (fuel:=3) [] [(0,true),(1,true),(2,true),(3,true),(4,true),(5,true),(6,true),(7,true),(8,true),(9,true),(10,true),(11,true),(12,true),(13,true),(14,true),(15,true),(16,true),(17,true)] (by kernel_rfl) rfl ?_
   refine Bc rfl rfl rfl (AV (hc:=fun w' ⟨O',hq⟩=>Blk.cell (i:=0) ((g0.st hq (by decide)).1) rfl) rfl rfl rfl ?_)
   refine Bc rfl rfl rfl (AV (hc:=fun w' ⟨O',hq⟩=>Blk.cell (i:=0) ((h0.st hq (by decide)).1) rfl) rfl rfl rfl ?_)
   refine AL rfl rfl rfl ?_
   obtain ⟨e4,u2,a0⟩:=bs a0
   obtain ⟨f4,g4,j3,m1,n1,o1,p1,rfl,h4⟩:=k0.elem u2
   refine Br (hA:=m1) (hj:=rfl) (hlt:=o1) rfl rfl rfl rfl ?_
   refine AV (hc:=fun w' ⟨O',hq⟩=>cat0 (AR (hq.agree (i:=0) (by decide)) n1 p1)) rfl rfl rfl ?_
   obtain ⟨i4,v2,a0⟩:=bs a0
   obtain ⟨w2,x2⟩:=AW v2
   obtain ⟨j4,k4,k3,q1,r1,s1,t1,rfl,l4⟩:=h8.elem x2
   refine Br (hA:=q1) (hj:=(Int.toNat_of_nonneg w2).symm) (hlt:=s1) rfl rfl rfl rfl ?_
   refine AV (hc:=fun w' ⟨O',hq⟩=>cat0 (AR (hq.agree (i:=0) (by decide)) r1 t1)) rfl rfl rfl ?_
   refine AL rfl rfl rfl (Hm rfl rfl rfl rfl (fun i1=>?_) fun i1=>?_)
   ·
    replace a0:=ip a0 i1
    refine AL rfl rfl rfl (Bd rfl rfl rfl rfl rfl (Bd rfl rfl rfl rfl rfl (Bd rfl rfl rfl rfl rfl (Bd rfl rfl rfl rfl rfl (Bd rfl rfl rfl rfl rfl (Bd rfl rfl rfl rfl rfl (AC ?_)))))))
    refine AP (i:=18) (by kernel_rfl) rfl ?_
    refine Ay rfl rfl rfl rfl (AX [] ((St.refl nT _ _).lst [] (fun _ h=>h.elim)) (by kernel_rfl) ?_)
    refine AT (fuel:=0) [] [(19,true),(20,true)] (by kernel_rfl) rfl ?_
    refine Bd rfl rfl rfl rfl rfl (Cf rfl rfl rfl rfl (AC ?_))
    refine Bn (by kernel_rfl) ?_
    obtain rfl:=sm a0
    exact ⟨(),_,⟨rfl,rfl,rfl,rfl,rfl,rfl,trivial⟩,hB,g0,h8,o0,p0,j0,h0,k0,i0,m0⟩
   replace a0:=im a0 i1
   refine AL rfl rfl rfl (AA rfl (Aw rfl rfl (BH rfl rfl (AA rfl (Aw rfl rfl (Dp (hc:=fun w' ⟨O',hq⟩=>Blk.cell (i:=1) ((h0.st hq (by decide)).1) rfl) rfl rfl ?_))))))
   refine AA rfl (Aw rfl rfl (Cg rfl rfl (AA rfl (Aw rfl rfl ?_))))
   obtain ⟨m4,y2,a0⟩:=bs a0
   obtain ⟨n4,o4,l3,u1,v1,w1,y1,p4,rfl,r0⟩:=i0.elem y2
   replace r0:=Vb.of_slice r0
   obtain ⟨q4,r4,rfl⟩:=r0.form
   refine IC (hA:=u1) (hj:=rfl) (hlt:=w1) rfl rfl rfl ?_
   refine AA rfl (Aw rfl rfl (Dp (hc:=fun w' ⟨O',hq⟩=>cat0 (AR (hq.agree (i:=0) (by decide)) v1 y1)) rfl rfl ?_))
   refine AA rfl (Aw rfl rfl (Cg rfl rfl (AC ?_)))
   refine AP (i:=18) (by kernel_rfl) rfl ?_
   refine Az rfl rfl ?_
   obtain ⟨z1,z2,a0⟩:=bs a0
   refine Bi (O:=n2) (A:=All i3) (R:=fun w' F v=>Vb w' F v z1) (EI (fun _ h=>h) (Vb.mono (F:=Fr 0 i3 n2) r0 Fr.lt) d4 z2) rfl rfl fun s4 t4 u4 b0 a3=>?_
   obtain rfl:=a3.bool
   have hZ:=b0.lst [] (fun _ h=>h.elim)
   cases z1
   case false =>
    replace a0:=iF a0
    refine AX [] hZ (by kernel_rfl) ?_
    refine AT (fuel:=0) [] [(19,true),(20,true)] (by kernel_rfl) rfl ?_
    refine AA rfl (Aw rfl rfl (GB rfl rfl (BN rfl rfl rfl rfl (AC ?_))))
    refine Bn (by kernel_rfl) ?_
    obtain rfl:=sm a0
    exact ⟨(),_,⟨rfl,rfl,rfl,rfl,rfl,rfl,trivial⟩,hB.st b0,g0.st b0,h8.st b0,o0.st b0,p0.st b0,j0.st b0,h0.st b0,k0.st b0,i0.st b0,m0.st b0⟩
   replace a0:=iT a0
   refine AX [] hZ (by kernel_rfl) ?_
   refine AT (fuel:=0) [] [(19,true),(20,true)] (by kernel_rfl) rfl ?_
   refine AA rfl (Aw rfl rfl (GA rfl rfl (BN rfl rfl rfl rfl (AC ?_))))
   refine Bn (by kernel_rfl) ?_
   obtain rfl:=sm a0
   exact ⟨(),_,⟨rfl,rfl,rfl,rfl,rfl,rfl,trivial⟩,hB.st b0,g0.st b0,h8.st b0,o0.st b0,p0.st b0,j0.st b0,h0.st b0,k0.st b0,i0.st b0,m0.st b0⟩
  rintro w4 x4 ⟨t2,y4,a2,hB,g0,h8,o0,p0,j0,h0,k0,i0,m0⟩
  refine AO _ a2 ?_
  refine BK rfl (fun j1=>?_) (fun j1=>?_)
  ·
   replace n0:=ip n0 j1
   refine Al (Aj (Au rfl rfl (o_z ?_)))
   refine AJ ?_
   obtain rfl:=sm n0
   obtain rfl:=h1 _ rfl
   obtain rfl:=sm (BM hm)
   exact ret1v rfl (AD rfl) ⟨hB.ext,vBool⟩
  replace n0:=im' n0 j1
  refine AM ?_
  obtain rfl:=sm n0
  exact show Exists _ from ⟨_,(),rfl,⟨rfl,rfl,rfl,rfl,rfl,trivial⟩,_,hB,g0,h8,o0,p0,j0,h0,k0,i0,m0⟩
 rintro z4 a5 ⟨b5,c5,rfl,b2,d5,hB⟩
 replace hm:=Be hm
 refine AO _ b2 ?_
 refine Al (Aj (Au rfl rfl (o_z ?_)))
 refine AJ ?_
 obtain rfl:=sm hm
 exact ret1v rfl (AD rfl) ⟨hB.ext,vBool⟩
noncomputable def Ek (x0:Swp) (x1:Fct):Option Fct :=
  bnd (atI x0.vars x1.var) fun a34=>bnd (atI x0.vals x1.var) fun a46=>bnd (atI a46 x1.val) fun a61=>some (⟨a34,a61⟩:Fct)
theorem Ia {w:World} {A:Nat→Prop} (hA:∀ k,A k→k < w.heap.size) {vx0:Value} {x0:Swp} (j0:Vb w A vx0 x0) {vx1:Value} {x1:Fct} (k0:Vb w A vx1 x1) {r:Fct} (hm:Ek x0 x1=some r) :
    Fn Tryz.prog 71 [vx0,vx1] w fun v w'=>Ext w w'∧Vb w' (upA A w w') v r:=by
 obtain ⟨O,hB,z0⟩:=enter hA
 replace j0:=j0.mono z0
 obtain ⟨f2,rfl,v4,v5,v6,rfl,h7,e0,d1⟩:=j0
 obtain ⟨A8,c9,rfl⟩:=h7.form
 obtain ⟨e1,f1,rfl⟩:=e0.form
 obtain ⟨g1,h1,rfl⟩:=d1.form
 replace k0:=k0.mono z0
 obtain ⟨i1,rfl,rfl,g2,h2⟩:=k0
 refine AK Tryz.func71 rfl Tryz.ntmps71 rfl ?_
 unfold Ek at hm
 refine Al (Aj (BS 2 O rfl rfl fun j1 k1 a1 l0 b0=>?_))
 replace b0:Lc 2 k1 a1 j1 53 [(.slice A8 x0.vars.length c9),(.slice e1 x0.vals.length f1),(.slice g1 x0.ops.length h1)]:=b0
 refine BS 3 a1 rfl rfl fun l1 m1 b1 f0 a0=>?_
 replace a0:Lc 3 m1 b1 l1 45 [(.int .i64 x1.var),(.int .i64 x1.val)]:=a0
 refine Bh 4 b1 rfl fun n1 i2 c1 c0 d0=>?_
 refine o_z ?_
 refine Al (Bt [] c1 ?_)
 refine AT (fuel:=1) [] [(0,true),(1,true),(2,true),(3,true),(4,true),(5,true),(6,true),(7,true),(8,true),(9,true),(10,true),(11,true),(12,true),(13,true),(14,true),(15,true),(16,true)] (by kernel_rfl) rfl ?_
 refine Bc rfl rfl rfl ?_
 replace b0:=(b0.st f0).st c0
 refine AV (hc:=fun w' ⟨O',hq⟩=>Blk.cell (i:=0) ((b0.st hq (by decide)).1) rfl) rfl rfl rfl ?_
 refine Bc rfl rfl rfl ?_
 replace a0:=a0.st c0
 refine AV (hc:=fun w' ⟨O',hq⟩=>Blk.cell (i:=0) ((a0.st hq (by decide)).1) rfl) rfl rfl rfl ?_
 obtain ⟨g0,o1,hm⟩:=bs hm
 obtain ⟨p1,q1⟩:=AW o1
 replace h7:=((h7.st l0).st f0).st c0
 obtain ⟨j2,k2,r1,m0,n0,o0,p0,rfl,s1⟩:=h7.elem q1
 refine Br (hA:=m0) (hj:=(Int.toNat_of_nonneg p1).symm) (hlt:=o0) rfl rfl rfl rfl ?_
 refine AV (hc:=fun w' ⟨O',hq⟩=>cat0 (AR (hq.agree (i:=0) (by decide)) n0 p0)) rfl rfl rfl ?_
 refine Bc rfl rfl rfl (AV (hc:=fun w' ⟨O',hq⟩=>Blk.cell (i:=1) ((b0.st hq (by decide)).1) rfl) rfl rfl rfl ?_)
 refine Bc rfl rfl rfl (AV (hc:=fun w' ⟨O',hq⟩=>Blk.cell (i:=0) ((a0.st hq (by decide)).1) rfl) rfl rfl rfl ?_)
 obtain ⟨l2,t1,hm⟩:=bs hm
 obtain ⟨u1,v1⟩:=AW t1
 replace e0:=((e0.st l0).st f0).st c0
 obtain ⟨m2,n2,w1,q0,r0,s0,t0,o2,rfl,h0⟩:=e0.elem v1
 replace h0:=Vb.of_slice h0
 obtain ⟨p2,q2,rfl⟩:=h0.form
 refine Br (hA:=q0) (hj:=(Int.toNat_of_nonneg u1).symm) (hlt:=s0) rfl rfl rfl rfl ?_
 refine AV (hc:=fun w' ⟨O',hq⟩=>cat0 (AR (hq.agree (i:=0) (by decide)) r0 t0)) rfl rfl rfl ?_
 refine Bc rfl rfl rfl (AV (hc:=fun w' ⟨O',hq⟩=>Blk.cell (i:=1) ((a0.st hq (by decide)).1) rfl) rfl rfl rfl ?_)
 obtain ⟨i0,y1,hm⟩:=bs hm
 obtain ⟨z1,a2⟩:=AW y1
 obtain ⟨r2,s2,b2,u0,v0,w0,y0,rfl,c2⟩:=h0.elem a2
 refine Br (hA:=u0) (hj:=(Int.toNat_of_nonneg z1).symm) (hlt:=w0) rfl rfl rfl rfl ?_
 refine AV (hc:=fun w' ⟨O',hq⟩=>cat0 (AR (hq.agree (i:=0) (by decide)) v0 y0)) rfl rfl rfl ?_
 refine Dr rfl rfl rfl rfl ?_
 refine AC ?_
 refine AP (i:=17) (by kernel_rfl) rfl ?_
 refine AZ d0 rfl rfl rfl (Bj rfl) (allOne rfl) fun d2 e2 d0=>?_
 replace d0:Lc 4 d2 c1 n1 45 [(.int .i64 g0),(.int .i64 i0)]:=d0
 refine BZ (by kernel_rfl) ?_
 refine Bn (by kernel_rfl) ?_
 refine AJ ?_
 obtain rfl:=sm hm
 replace hB:=(((hB.st l0).st f0).st c0).st e2
 exact ret1v rfl (Cm (cs:=[(.int .i64 g0),(.int .i64 i0)]) rfl rfl d0.1.cellsAt) ⟨hB.ext,(Vb.ofAgg (cs:=[(.int .i64 g0),(.int .i64 i0)]) (x:=(⟨g0,i0⟩:Fct)) rfl ⟨rfl,s1,c2⟩)⟩
noncomputable def Ds (x0:Swp) (x1:List Fct):Option (List Fct) :=
  bnd (rng (ρ:=(List Fct)) (fun (k29:Nat) (a30:Fct) (s27:(List Fct))=>bnd (Ek x0 a30) fun q60=>bnd (appI 16 s27 [q60]) fun u70=>some (.next u70)) x1 0 ([]:List Fct)) fun res25=>fin res25 fun (s86:(List Fct))=>bnd (EJ s86) fun q90=>some q90.1
theorem Gc {w:World} {A:Nat→Prop} (hA:∀ k,A k→k < w.heap.size) {vx0:Value} {x0:Swp} (z0:Vb w A vx0 x0) {vx1:Value} {x1:List Fct} (a0:Vb w A vx1 x1) {r:(List Fct)} (hm:Ds x0 x1=some r) :
    Fn Tryz.prog 47 [vx0,vx1] w fun v w'=>Ext w w'∧Vb w' (upA A w w') v r:=by
 obtain ⟨O,hB,l1⟩:=enter hA
 replace z0:=z0.mono l1
 obtain ⟨u2,rfl,v4,v5,v6,rfl,h7,d0,e0⟩:=z0
 obtain ⟨A8,c9,rfl⟩:=h7.form
 obtain ⟨s0,t0,rfl⟩:=d0.form
 obtain ⟨u0,v0,rfl⟩:=e0.form
 replace a0:=a0.mono l1
 obtain ⟨m1,n1,rfl⟩:=a0.form
 refine AK Tryz.func47 rfl Tryz.ntmps47 rfl ?_
 unfold Ds at hm
 refine Al (Aj (BS 2 O rfl rfl fun a1 r1 o1 l0 g0=>?_))
 replace g0:Lc 2 r1 o1 a1 53 [(.slice A8 x0.vars.length c9),(.slice s0 x0.vals.length t0),(.slice u0 x0.ops.length v0)]:=g0
 refine Au rfl rfl (o_z ?_)
 refine Al (Aj (Au rfl rfl (o_z ?_)))
 refine Al (Al (Aj (Ar rfl rfl (AY rfl rfl ?_))))
 replace a0:=a0.st l0
 have b1:x1.length≤9223372036854775807:=Nat.le_trans a0.len.2.1 a0.len.2.2
 have v2:inI64 (x1.length:Int):=rngNat b1
 refine Ar rfl rfl (o_z ?_)
 obtain ⟨n0,c1,hm⟩:=bs hm
 refine AH (aft n0 (fun (f0:(List Fct)) (b0:(Option Addr×Nat))=>[(5,(.slice b0.1 f0.length b0.2))]) (fun f0 b0 w'=>∃ O':Lab,Bs w A w' O'∧Rw 4 w' O' 45 (.slice b0.1 f0.length b0.2) f0)) ?_ ?_
 ·
  refine AU ?_
  replace hB:=hB.st l0
  replace h7:=h7.st l0
  replace d0:=d0.st l0
  replace e0:=e0.st l0
  refine Bu (σ:=(List Fct)) (X:=(Option Addr×Nat)) (x1.length) c1 rfl b1 (fun (f0:(List Fct)) (b0:(Option Addr×Nat))=>[(2,(.pointer (some ⟨a1,0,none⟩))),(5,(.slice b0.1 f0.length b0.2)),(10,(.slice m1 x1.length n1))]) _ (fun f0 b0 w'=>∃ O':Lab,Bs w A w' O'∧Lc 2 w' O' a1 53 [(.slice A8 x0.vars.length c9),(.slice s0 x0.vals.length t0),(.slice u0 x0.ops.length v0)]∧Vb w' (Fr 0 w' O') (.slice A8 x0.vars.length c9) x0.vars∧Vb w' (Fr 0 w' O') (.slice s0 x0.vals.length t0) x0.vals∧Vb w' (Fr 0 w' O') (.slice u0 x0.ops.length v0) x0.ops∧Rw 4 w' O' 45 (.slice b0.1 f0.length b0.2) f0∧Vb w' (Fr 0 w' O') (.slice m1 x1.length n1) x1) _ (none,0) ⟨o1,hB,g0,h7,d0,e0,(Rw.nil 4 (by decide)),a0⟩ ⟨rfl,rfl,rfl,rfl,rfl,trivial⟩ (fun _ _=>⟨rfl,rfl⟩) (fun _ _=>⟨rfl,trivial⟩) (fun _ _ _ ⟨O',hB,g0,h7,d0,e0,h0,a0⟩=>⟨O',hB,h0⟩) ⟨rfl,rfl,rfl⟩ ⟨rfl,rfl⟩ ?_
  rintro s1 o0 f0 b0 w2 t1 p0 ⟨u1,hB,g0,h7,d0,e0,h0,a0⟩ c0 d1 e1
  have rk29:inI64 (s1:Int):=rngK p0 b1
  refine Al (Aj ?_)
  obtain ⟨x2,y2,v1,f1,g1,h1,rfl,w1,y1⟩:=a0.elem' p0
  refine Bv (hA:=f1) (hj:=rfl) (hlt:=g1) rfl rfl rfl ?_
  refine Bk (hl:=rfl) (hc:=h1) rfl rfl ?_
  refine Bh 3 u1 rfl fun z1 z2 w0 i0 q0=>?_
  refine AZ q0 rfl rfl rfl (Bj rfl) (allOne rfl) fun y0 j0 q0=>?_
  replace q0:Lc 3 y0 w0 z1 45 [(.int .i64 o0.var),(.int .i64 o0.val)]:=q0
  refine o_z ?_
  refine Aj (Ar rfl rfl ?_)
  replace g0:=(g0.st i0).st j0
  refine Bk (hl:=rfl) (hc:=(g0.1).cellsAt) rfl rfl ?_
  refine Bk (hl:=rfl) (hc:=(q0.1).cellsAt) rfl rfl ?_
  obtain ⟨r0,a2,c0⟩:=bs c0
  replace h7:=(h7.st i0).st j0
  replace d0:=(d0.st i0).st j0
  replace e0:=(e0.st i0).st j0
  refine Bi (O:=w0) (A:=All y0) (R:=fun w' F v=>Vb w' F v r0) (Ia (fun _ h=>h) (Vb.mono (F:=Fr 0 y0 w0) (Vb.ofAgg (cs:=[(.slice A8 x0.vars.length c9),(.slice s0 x0.vals.length t0),(.slice u0 x0.ops.length v0)]) (x:=x0) rfl ⟨_,_,_,rfl,h7,d0,e0⟩) Fr.lt) (Vb.mono (F:=Fr 0 y0 w0) (Vb.ofAgg (cs:=[(.int .i64 o0.var),(.int .i64 o0.val)]) (x:=o0) rfl ⟨rfl,w1,y1⟩) Fr.lt) a2) rfl rfl fun a3 b3 c3 k0 b2=>?_
  obtain ⟨c2,rfl,rfl,d2,e2⟩:=b2
  obtain ⟨d3,i1,c0⟩:=bs c0
  obtain ⟨i1,f2,g2⟩:=Cc i1
  replace h0:=((h0.st i0).st j0).st k0
  refine CY rfl (a:=r0) h0 (Vb.ofAgg (cs:=[(.int .i64 r0.var),(.int .i64 r0.val)]) (x:=r0) rfl ⟨rfl,d2,e2⟩) (fun _=>rfl) rfl (by decide) (by decide) f2 g2 ⟨rfl,rfl⟩ fun e3 h2 i2 f3 g3 m0 p1=>?_
  rw [← i1] at p1 ⊢
  refine Au rfl rfl (o_z ?_)
  obtain rfl:=sm c0
  exact show Exists _ from ⟨_,(h2,i2),rfl,⟨rfl,rfl,rfl,rfl,rfl,trivial⟩,_,(((hB.st i0).st j0).st k0).st m0,(g0.st k0).st m0,(h7.st k0).st m0,(d0.st k0).st m0,(e0.st k0).st m0,p1,(((a0.st i0).st j0).st k0).st m0⟩
 replace hB:=hB.st l0
 rintro h3 i3 ⟨j3,k3,rfl,j1,l3,hB,h0⟩
 replace hm:=Be hm
 refine AO _ j1 ?_
 refine Al (Aj (Ar rfl rfl ?_))
 obtain ⟨j2,k2,h0⟩:=h0.freeze
 obtain ⟨l2,m2,hm⟩:=bs hm
 refine Bq (O:=j2) (R:=fun w' F v=>T2 w' F v l2) (Lw Fr.lt h0 m2) rfl rfl fun m3 n2 o2 p2 q2=>?_
 obtain ⟨n3,o3,rfl,q1,k1⟩:=q2
 obtain ⟨r2,s2,rfl⟩:=q1.form
 obtain ⟨rfl,t2⟩:=k1.int
 refine Ar rfl rfl (CI rfl rfl rfl (CI rfl rfl rfl (Au rfl rfl (Au rfl rfl (o_z ?_)))))
 refine Al (Aj (Ar rfl rfl (Au rfl rfl (o_z ?_))))
 refine AJ ?_
 obtain rfl:=sm hm
 replace hB:=(hB.st k2).st p2
 exact ret1v rfl (AD rfl) ⟨hB.ext,(Vb.mono (F:=Fr 0 n2 o2) q1 hB.out)⟩
noncomputable def EK (x0:Swp) (x1:Opr) (x2:Opr):Option Bool :=
  bnd (if x1.cost≠x2.cost then (some true) else (if (x1.effs.length:Int)≠(x2.effs.length:Int) then (some true) else (bnd (Ds x0 x1.pre) fun q64=>bnd (Ei q64 x2.pre) fun q73=>if q73=true then some false else some true)):Option Bool) fun y54=>if y54=true then (some false) else (bnd (rng (ρ:=Bool) (fun (k91:Nat) (a92:Eff) (s89:Unit)=>bnd (Ek x0 (⟨a92.var,a92.val⟩:Fct)) fun q122=>bnd (bnd (x2.effs[k91]?) fun a143=>if q122.var≠a143.var then (some true) else (bnd (x2.effs[k91]?) fun a159=>if q122.val≠a159.val then (some true) else (bnd (x2.effs[k91]?) fun a175=>bnd (Ds x0 a92.cond) fun q190=>bnd (Ei q190 a175.cond) fun q199=>if q199=true then some false else some true)):Option Bool) fun y139=>if y139=true then (some (.ret false)) else (some (.next ()))) x1.effs 0 ()) fun res87=>fin res87 fun (s215:Unit)=>some true)
theorem Lx {w:World} {A:Nat→Prop} (hA:∀ k,A k→k < w.heap.size) {vx0:Value} {x0:Swp} (a3:Vb w A vx0 x0) {vx1:Value} {x1:Opr} (b3:Vb w A vx1 x1) {vx2:Value} {x2:Opr} (c3:Vb w A vx2 x2) {r:Bool} (hm:EK x0 x1 x2=some r) :
    Fn Tryz.prog 48 [vx0,vx1,vx2] w fun v w'=>Ext w w'∧Vb w' (upA A w w') v r:=by
 obtain ⟨O,hB,d3⟩:=enter hA
 replace a3:=a3.mono d3
 obtain ⟨j7,rfl,v5,v6,v7,rfl,h8,n0,o0⟩:=a3
 obtain ⟨A9,b1,rfl⟩:=h8.form
 obtain ⟨c1,d1,rfl⟩:=n0.form
 obtain ⟨e1,f1,rfl⟩:=o0.form
 replace b3:=b3.mono d3
 obtain ⟨w4,rfl,k7,l7,rfl,a1,q0,m7,n7⟩:=b3
 obtain ⟨e3,f3,rfl⟩:=a1.form
 obtain ⟨k1,l1,rfl⟩:=q0.form
 replace c3:=c3.mono d3
 obtain ⟨x4,rfl,o7,p7,rfl,t0,p0,q7,r7⟩:=c3
 obtain ⟨m1,n1,rfl⟩:=t0.form
 obtain ⟨o1,p1,rfl⟩:=p0.form
 refine AK Tryz.func48 rfl Tryz.ntmps48 rfl ?_
 unfold EK at hm
 refine Al (Aj (BS 2 O rfl rfl fun q1 y4 m4 l0 m0=>?_))
 replace m0:Lc 2 y4 m4 q1 53 [(.slice A9 x0.vars.length b1),(.slice c1 x0.vals.length d1),(.slice e1 x0.ops.length f1)]:=m0
 refine BS 3 m4 rfl rfl fun g3 z4 n4 k0 y0=>?_
 replace y0:Lc 3 z4 n4 g3 50 [(.string x1.name),(.int .i64 x1.cost),(.slice e3 x1.pre.length f3),(.slice k1 x1.effs.length l1)]:=y0
 refine BS 4 n4 rfl rfl fun r1 a5 h3 j0 r0=>?_
 replace r0:Lc 4 a5 h3 r1 50 [(.string x2.name),(.int .i64 x2.cost),(.slice m1 x2.pre.length n1),(.slice o1 x2.effs.length p1)]:=r0
 refine Au rfl rfl (o_z ?_)
 refine Al (Al ?_)
 obtain ⟨b5,g0,hm⟩:=bs hm
 refine AH (fun l' w'=>∃ (c5:Unit) (O':Lab),subs l' [(3,(.pointer (some ⟨q1,0,none⟩))),(4,(.pointer (some ⟨g3,0,none⟩))),(5,(.pointer (some ⟨r1,0,none⟩))),(33,(.bool b5))]∧Bs w A w' O'∧Lc 2 w' O' q1 53 [(.slice A9 x0.vars.length b1),(.slice c1 x0.vals.length d1),(.slice e1 x0.ops.length f1)]∧Vb w' (Fr 0 w' O') (.slice A9 x0.vars.length b1) x0.vars∧Vb w' (Fr 0 w' O') (.slice c1 x0.vals.length d1) x0.vals∧Vb w' (Fr 0 w' O') (.slice e1 x0.ops.length f1) x0.ops∧Lc 3 w' O' g3 50 [(.string x1.name),(.int .i64 x1.cost),(.slice e3 x1.pre.length f3),(.slice k1 x1.effs.length l1)]∧Vb w' (Fr 0 w' O') (.slice e3 x1.pre.length f3) x1.pre∧Vb w' (Fr 0 w' O') (.slice k1 x1.effs.length l1) x1.effs∧Lc 4 w' O' r1 50 [(.string x2.name),(.int .i64 x2.cost),(.slice m1 x2.pre.length n1),(.slice o1 x2.effs.length p1)]∧Vb w' (Fr 0 w' O') (.slice m1 x2.pre.length n1) x2.pre∧Vb w' (Fr 0 w' O') (.slice o1 x2.effs.length p1) x2.effs) ?_ ?_
 ·
  refine Bt [] h3 ?_
  refine AT (fuel:=4) [] [(0,true),(1,true),(2,true),(3,true),(4,true),(5,true),(6,true),(7,true),(8,true),(9,true),(10,true),(11,true),(12,true),(13,true),(14,true),(15,true),(16,true),(17,true),(19,true),(20,true)] (by kernel_rfl) rfl ?_
  refine Bc rfl rfl rfl ?_
  replace y0:=y0.st j0
  refine AV (hc:=fun w' ⟨O',hq⟩=>Blk.cell (i:=1) ((y0.st hq (by decide)).1) rfl) rfl rfl rfl ?_
  refine Bc rfl rfl rfl (AV (hc:=fun w' ⟨O',hq⟩=>Blk.cell (i:=1) ((r0.st hq (by decide)).1) rfl) rfl rfl rfl ?_)
  refine Hm rfl rfl rfl rfl (fun i3=>?_) fun i3=>?_
  ·
   replace g0:=ip g0 i3
   refine AL rfl rfl rfl (Bd rfl rfl rfl rfl rfl (Bd rfl rfl rfl rfl rfl (Bd rfl rfl rfl rfl rfl (Bd rfl rfl rfl rfl rfl (Bd rfl rfl rfl rfl rfl (Bd rfl rfl rfl rfl rfl (Bd rfl rfl rfl rfl rfl (Cf rfl rfl rfl rfl (AL rfl rfl rfl (Bd rfl rfl rfl rfl rfl (Bd rfl rfl rfl rfl rfl (Bd rfl rfl rfl rfl rfl (Bd rfl rfl rfl rfl rfl (Bd rfl rfl rfl rfl rfl ?_))))))))))))))
   refine AC ?_
   refine AP (i:=18) (by kernel_rfl) rfl ?_
   refine Ay rfl rfl rfl rfl (AX [] ((St.refl nT _ _).lst [] (fun _ h=>h.elim)) (by kernel_rfl) ?_)
   refine AP (i:=21) (by kernel_rfl) rfl ?_
   refine Ay rfl rfl rfl rfl (AX [] ((St.refl nT _ _).lst [] (fun _ h=>h.elim)) (by kernel_rfl) ?_)
   refine AT (fuel:=0) [] [(22,true),(23,true)] (by kernel_rfl) rfl ?_
   refine Bd rfl rfl rfl rfl rfl (Cf rfl rfl rfl rfl (AC ?_))
   refine Bn (by kernel_rfl) ?_
   obtain rfl:=sm g0
   exact ⟨(),_,⟨rfl,rfl,rfl,rfl,trivial⟩,((hB.st l0).st k0).st j0,(m0.st k0).st j0,((h8.st l0).st k0).st j0,((n0.st l0).st k0).st j0,((o0.st l0).st k0).st j0,y0,((a1.st l0).st k0).st j0,((q0.st l0).st k0).st j0,r0,((t0.st l0).st k0).st j0,((p0.st l0).st k0).st j0⟩
  replace g0:=im g0 i3
  refine AL rfl rfl rfl (AA rfl (Aw rfl rfl (BH rfl rfl (AA rfl (Aw rfl rfl (Dp (hc:=fun w' ⟨O',hq⟩=>Blk.cell (i:=3) ((y0.st hq (by decide)).1) rfl) rfl rfl ?_))))))
  refine AA rfl (Aw rfl rfl (Gb rfl rfl ?_))
  replace q0:=((q0.st l0).st k0).st j0
  have d5:x1.effs.length≤9223372036854775807:=Nat.le_trans q0.len.2.1 q0.len.2.2
  have s7:inI64 (x1.effs.length:Int):=rngNat d5
  refine AA rfl (Aw rfl rfl (BH rfl rfl (AA rfl (Aw rfl rfl (Dp (hc:=fun w' ⟨O',hq⟩=>Blk.cell (i:=3) ((r0.st hq (by decide)).1) rfl) rfl rfl ?_)))))
  refine AA rfl (Aw rfl rfl (Gb rfl rfl ?_))
  replace p0:=((p0.st l0).st k0).st j0
  have e5:x2.effs.length≤9223372036854775807:=Nat.le_trans p0.len.2.1 p0.len.2.2
  have t7:inI64 (x2.effs.length:Int):=rngNat e5
  refine AA rfl (Aw rfl rfl (Bo (fun _ _=>Do rfl rfl) rfl (fun j3=>?_) (fun j3=>?_)))
  ·
   replace g0:=ip g0 j3
   refine BN rfl rfl rfl rfl (AL rfl rfl rfl (Bd rfl rfl rfl rfl rfl (Bd rfl rfl rfl rfl rfl (Bd rfl rfl rfl rfl rfl (Bd rfl rfl rfl rfl rfl (Bd rfl rfl rfl rfl rfl (AC ?_)))))))
   refine AP (i:=18) (by kernel_rfl) rfl ?_
   refine Ay rfl rfl rfl rfl (AX [] ((St.refl nT _ _).lst [] (fun _ h=>h.elim)) (by kernel_rfl) ?_)
   refine AP (i:=21) (by kernel_rfl) rfl ?_
   refine Ay rfl rfl rfl rfl (AX [] ((St.refl nT _ _).lst [] (fun _ h=>h.elim)) (by kernel_rfl) ?_)
   refine AT (fuel:=0) [] [(22,true),(23,true)] (by kernel_rfl) rfl ?_
   refine Bd rfl rfl rfl rfl rfl (Cf rfl rfl rfl rfl (AC ?_))
   refine Bn (by kernel_rfl) ?_
   obtain rfl:=sm g0
   exact ⟨(),_,⟨rfl,rfl,rfl,rfl,trivial⟩,((hB.st l0).st k0).st j0,(m0.st k0).st j0,((h8.st l0).st k0).st j0,((n0.st l0).st k0).st j0,((o0.st l0).st k0).st j0,y0,((a1.st l0).st k0).st j0,q0,r0,((t0.st l0).st k0).st j0,p0⟩
  replace g0:=im g0 j3
  refine BN rfl rfl rfl rfl (AL rfl rfl rfl (AA rfl (Aw rfl rfl ?_)))
  replace m0:=(m0.st k0).st j0
  refine Iy (hl:=rfl) (hb:=fun w' ⟨O',hq⟩=>((m0.st hq (by decide)).1).cellsAt) rfl rfl ?_
  refine AA rfl (Aw rfl rfl (BH rfl rfl (AA rfl (Aw rfl rfl (Dp (hc:=fun w' ⟨O',hq⟩=>Blk.cell (i:=2) ((y0.st hq (by decide)).1) rfl) rfl rfl ?_)))))
  refine AA rfl (Aw rfl rfl (BH rfl rfl (AA rfl (Aw rfl rfl (Dp (hc:=fun w' ⟨O',hq⟩=>Blk.cell (i:=2) ((r0.st hq (by decide)).1) rfl) rfl rfl ?_)))))
  refine AC ?_
  refine AP (i:=18) (by kernel_rfl) rfl ?_
  refine Az rfl rfl ?_
  obtain ⟨f5,g5,g0⟩:=bs g0
  replace h8:=((h8.st l0).st k0).st j0
  replace n0:=((n0.st l0).st k0).st j0
  replace o0:=((o0.st l0).st k0).st j0
  replace a1:=((a1.st l0).st k0).st j0
  refine Bq (O:=h3) (R:=fun w' F v=>Vb w' F v f5) (Gc Fr.lt (Vb.ofAgg (cs:=[(.slice A9 x0.vars.length b1),(.slice c1 x0.vals.length d1),(.slice e1 x0.ops.length f1)]) (x:=x0) rfl ⟨_,_,_,rfl,h8,n0,o0⟩) a1 g5) rfl rfl fun u7 k3 l3 u0 o4=>?_
  obtain ⟨w7,x7,rfl⟩:=o4.form
  have hZ:=u0.lst [] (fun _ h=>h.elim)
  refine AX [] hZ (by kernel_rfl) ?_
  refine AP (i:=21) (by kernel_rfl) rfl ?_
  refine Az rfl rfl ?_
  obtain ⟨p4,h5,g0⟩:=bs g0
  replace t0:=(((t0.st l0).st k0).st j0).st u0
  refine Bi (O:=l3) (A:=All k3) (R:=fun w' F v=>Vb w' F v p4) (GF (fun _ h=>h) (Vb.mono (F:=Fr 0 k3 l3) o4 Fr.lt) (Vb.mono (F:=Fr 0 k3 l3) t0 Fr.lt) h5) rfl rfl fun y7 z7 a8 s0 i5=>?_
  obtain rfl:=i5.bool
  have hZ:=s0.lst [] (fun _ h=>h.elim)
  cases p4
  case false =>
   replace g0:=iF g0
   refine AX [] hZ (by kernel_rfl) ?_
   refine AT (fuel:=0) [] [(22,true),(23,true)] (by kernel_rfl) rfl ?_
   refine AA rfl (Aw rfl rfl (GB rfl rfl (BN rfl rfl rfl rfl (AC ?_))))
   refine Bn (by kernel_rfl) ?_
   obtain rfl:=sm g0
   exact ⟨(),_,⟨rfl,rfl,rfl,rfl,trivial⟩,((((hB.st l0).st k0).st j0).st u0).st s0,(m0.st u0).st s0,(h8.st u0).st s0,(n0.st u0).st s0,(o0.st u0).st s0,(y0.st u0).st s0,(a1.st u0).st s0,(q0.st u0).st s0,(r0.st u0).st s0,t0.st s0,(p0.st u0).st s0⟩
  replace g0:=iT g0
  refine AX [] hZ (by kernel_rfl) ?_
  refine AT (fuel:=0) [] [(22,true),(23,true)] (by kernel_rfl) rfl ?_
  refine AA rfl (Aw rfl rfl (GA rfl rfl (BN rfl rfl rfl rfl (AC ?_))))
  refine Bn (by kernel_rfl) ?_
  obtain rfl:=sm g0
  exact ⟨(),_,⟨rfl,rfl,rfl,rfl,trivial⟩,((((hB.st l0).st k0).st j0).st u0).st s0,(m0.st u0).st s0,(h8.st u0).st s0,(n0.st u0).st s0,(o0.st u0).st s0,(y0.st u0).st s0,(a1.st u0).st s0,(q0.st u0).st s0,(r0.st u0).st s0,t0.st s0,(p0.st u0).st s0⟩
 replace hB:=((hB.st l0).st k0).st j0
 replace h8:=((h8.st l0).st k0).st j0
 replace n0:=((n0.st l0).st k0).st j0
 replace o0:=((o0.st l0).st k0).st j0
 replace a1:=((a1.st l0).st k0).st j0
 replace q0:=((q0.st l0).st k0).st j0
 replace t0:=((t0.st l0).st k0).st j0
 replace p0:=((p0.st l0).st k0).st j0
 replace m0:=(m0.st k0).st j0
 replace y0:=y0.st j0
 rintro b8 c8 ⟨c5,j5,m3,hB,m0,h8,n0,o0,y0,a1,q0,r0,t0,p0⟩
 refine AO _ m3 ?_
 refine BK rfl (fun n3=>?_) (fun n3=>?_)
 ·
  replace hm:=ip hm n3
  refine Al (Aj (Au rfl rfl (o_z ?_)))
  refine AJ ?_
  obtain rfl:=sm hm
  exact ret1v rfl (AD rfl) ⟨hB.ext,vBool⟩
 replace hm:=im' hm n3
 refine AM (Al (Al (Aj (AN rfl rfl (AG (hc:=Blk.cell (i:=3) (y0.1) rfl) rfl rfl ?_)))))
 refine AY rfl rfl ?_
 have o3:x1.effs.length≤9223372036854775807:=Nat.le_trans q0.len.2.1 q0.len.2.2
 have d8:inI64 (x1.effs.length:Int):=rngNat o3
 refine Ar rfl rfl (o_z ?_)
 obtain ⟨c2,p3,hm⟩:=bs hm
 refine AH (aft c2 (fun (y2:Unit) (z2:Unit)=>[]) (fun y2 z2 w'=>∃ O':Lab,Bs w A w' O')) ?_ ?_
 ·
  refine AU (Bu (σ:=Unit) (X:=Unit) (x1.effs.length) p3 rfl o3 (fun (y2:Unit) (z2:Unit)=>[(3,(.pointer (some ⟨q1,0,none⟩))),(5,(.pointer (some ⟨r1,0,none⟩))),(35,(.slice k1 x1.effs.length l1))]) _ (fun y2 z2 w'=>∃ O':Lab,Bs w A w' O'∧Lc 2 w' O' q1 53 [(.slice A9 x0.vars.length b1),(.slice c1 x0.vals.length d1),(.slice e1 x0.ops.length f1)]∧Vb w' (Fr 0 w' O') (.slice A9 x0.vars.length b1) x0.vars∧Vb w' (Fr 0 w' O') (.slice c1 x0.vals.length d1) x0.vals∧Vb w' (Fr 0 w' O') (.slice e1 x0.ops.length f1) x0.ops∧Lc 4 w' O' r1 50 [(.string x2.name),(.int .i64 x2.cost),(.slice m1 x2.pre.length n1),(.slice o1 x2.effs.length p1)]∧Vb w' (Fr 0 w' O') (.slice m1 x2.pre.length n1) x2.pre∧Vb w' (Fr 0 w' O') (.slice o1 x2.effs.length p1) x2.effs∧Vb w' (Fr 0 w' O') (.slice k1 x1.effs.length l1) x1.effs) _ () ⟨j5,hB,m0,h8,n0,o0,r0,t0,p0,q0⟩ ⟨rfl,rfl,rfl,rfl,rfl,trivial⟩ (fun _ _=>⟨rfl,rfl⟩) (fun _ _=>trivial) (fun _ _ _ ⟨O',hB,m0,h8,n0,o0,r0,t0,p0,q0⟩=>⟨O',hB⟩) ⟨rfl,rfl,rfl⟩ ⟨rfl,rfl⟩ ?_)
  rintro q4 s1 y2 z2 e8 k5 d2 ⟨l5,hB,m0,h8,n0,o0,r0,t0,p0,q0⟩ v0 t1 q3
  have rk91:inI64 (q4:Int):=rngK d2 o3
  refine Al (Aj (Ar rfl rfl ?_))
  obtain ⟨m5,n5,r4,e2,f2,g2,o5,rfl,g1,r3,s3⟩:=q0.elem' d2
  obtain ⟨t3,u3,rfl⟩:=g1.form
  refine Bv (hA:=e2) (hj:=rfl) (hlt:=f2) rfl rfl rfl ?_
  refine Bk (hl:=rfl) (hc:=g2) rfl rfl ?_
  refine Bh 5 l5 rfl fun v3 p5 h1 e0 w0=>?_
  refine Au rfl rfl (AZ w0 rfl rfl rfl (Bj rfl) (allOne rfl) fun i1 f0 w0=>?_)
  replace w0:Lc 5 i1 h1 v3 47 [(.slice t3 s1.cond.length u3),(.int .i64 s1.var),(.int .i64 s1.val)]:=w0
  refine o_z ?_
  refine Al (Aj ?_)
  replace m0:=(m0.st e0).st f0
  refine Bk (hl:=rfl) (hc:=(m0.1).cellsAt) rfl rfl ?_
  refine AN rfl rfl (AG (hc:=Blk.cell (i:=1) (w0.1) rfl) rfl rfl ?_)
  refine AN rfl rfl (AG (hc:=Blk.cell (i:=2) (w0.1) rfl) rfl rfl ?_)
  refine Dh rfl rfl rfl ?_
  obtain ⟨u1,w3,v0⟩:=bs v0
  replace h8:=(h8.st e0).st f0
  replace n0:=(n0.st e0).st f0
  replace o0:=(o0.st e0).st f0
  refine Bi (O:=h1) (A:=All i1) (R:=fun w' F v=>Vb w' F v u1) (Ia (fun _ h=>h) (Vb.mono (F:=Fr 0 i1 h1) (Vb.ofAgg (cs:=[(.slice A9 x0.vars.length b1),(.slice c1 x0.vals.length d1),(.slice e1 x0.ops.length f1)]) (x:=x0) rfl ⟨_,_,_,rfl,h8,n0,o0⟩) Fr.lt) (Vb.mono (F:=Fr 0 i1 h1) (Vb.ofAgg (cs:=[(.int .i64 s1.var),(.int .i64 s1.val)]) (x:=(⟨s1.var,s1.val⟩:Fct)) rfl ⟨rfl,r3,s3⟩) Fr.lt) w3) rfl rfl fun q5 r5 x3 b0 y3=>?_
  obtain ⟨s4,rfl,rfl,s5,t5⟩:=y3
  refine Bh 6 x3 rfl fun z3 u5 v1 c0 z0=>?_
  refine AZ z0 rfl rfl rfl (Bj rfl) (allOne rfl) fun a4 d0 z0=>?_
  replace z0:Lc 6 a4 v1 z3 45 [(.int .i64 u1.var),(.int .i64 u1.val)]:=z0
  refine o_z ?_
  refine Al ?_
  obtain ⟨b4,a0,v0⟩:=bs v0
  refine AH (fun l' w'=>∃ (c4:Unit) (O':Lab),subs l' [(3,(.pointer (some ⟨q1,0,none⟩))),(5,(.pointer (some ⟨r1,0,none⟩))),(35,(.slice k1 x1.effs.length l1)),(36,(.int .i64 (x1.effs.length:Int))),(37,(.int .i64 (q4:Int))),(82,(.bool b4))]∧Bs w A w' O'∧Lc 2 w' O' q1 53 [(.slice A9 x0.vars.length b1),(.slice c1 x0.vals.length d1),(.slice e1 x0.ops.length f1)]∧Vb w' (Fr 0 w' O') (.slice A9 x0.vars.length b1) x0.vars∧Vb w' (Fr 0 w' O') (.slice c1 x0.vals.length d1) x0.vals∧Vb w' (Fr 0 w' O') (.slice e1 x0.ops.length f1) x0.ops∧Lc 4 w' O' r1 50 [(.string x2.name),(.int .i64 x2.cost),(.slice m1 x2.pre.length n1),(.slice o1 x2.effs.length p1)]∧Vb w' (Fr 0 w' O') (.slice m1 x2.pre.length n1) x2.pre∧Vb w' (Fr 0 w' O') (.slice o1 x2.effs.length p1) x2.effs∧Vb w' (Fr 0 w' O') (.slice k1 x1.effs.length l1) x1.effs) ?_ ?_
  ·
   refine Bt [] v1 ?_
   refine AT (fuel:=4) [] [(0,true),(1,true),(2,true),(3,true),(4,true),(5,true),(6,true),(7,true),(8,true),(9,true),(10,true),(11,true),(12,true),(13,true),(14,true),(15,true),(16,true),(17,true),(18,true),(19,true),(20,true),(21,true),(22,true),(23,true),(25,true),(26,true),(27,true),(28,true),(29,true),(30,true)] (by kernel_rfl) rfl ?_
   refine Bc rfl rfl rfl (AV (hc:=fun w' ⟨O',hq⟩=>Blk.cell (i:=0) ((z0.st hq (by decide)).1) rfl) rfl rfl rfl ?_)
   refine Bc rfl rfl rfl ?_
   replace r0:=((((r0.st e0).st f0).st b0).st c0).st d0
   refine AV (hc:=fun w' ⟨O',hq⟩=>Blk.cell (i:=3) ((r0.st hq (by decide)).1) rfl) rfl rfl rfl ?_
   refine AL rfl rfl rfl ?_
   obtain ⟨w5,d4,a0⟩:=bs a0
   replace p0:=((((p0.st e0).st f0).st b0).st c0).st d0
   obtain ⟨x5,y5,t4,h2,i2,j2,k2,z5,rfl,e4,a6,b6⟩:=p0.elem d4
   obtain ⟨c6,d6,rfl⟩:=e4.form
   refine Br (hA:=h2) (hj:=rfl) (hlt:=j2) rfl rfl rfl rfl ?_
   refine Bc rfl rfl rfl (AV (hc:=fun w' ⟨O',hq⟩=>cat1 (AR (hq.agree (i:=0) (by decide)) i2 k2)) rfl rfl rfl ?_)
   refine Hm rfl rfl rfl rfl (fun w1=>?_) fun w1=>?_
   ·
    replace a0:=ip a0 w1
    refine AL rfl rfl rfl (Bd rfl rfl rfl rfl rfl (Bd rfl rfl rfl rfl rfl (Bd rfl rfl rfl rfl rfl (Bd rfl rfl rfl rfl rfl (Bd rfl rfl rfl rfl rfl (Bd rfl rfl rfl rfl rfl (Bd rfl rfl rfl rfl rfl (Bd rfl rfl rfl rfl rfl (Bd rfl rfl rfl rfl rfl (Cf rfl rfl rfl rfl (AL rfl rfl rfl (Bd rfl rfl rfl rfl rfl (Bd rfl rfl rfl rfl rfl (Bd rfl rfl rfl rfl rfl ?_))))))))))))))
    refine Bd rfl rfl rfl rfl rfl (Bd rfl rfl rfl rfl rfl (Bd rfl rfl rfl rfl rfl (Bd rfl rfl rfl rfl rfl (Bd rfl rfl rfl rfl rfl (Bd rfl rfl rfl rfl rfl (AC ?_))))))
    refine AP (i:=24) (by kernel_rfl) rfl ?_
    refine Ay rfl rfl rfl rfl (AX [] ((St.refl nT _ _).lst [] (fun _ h=>h.elim)) (by kernel_rfl) ?_)
    refine AP (i:=31) (by kernel_rfl) rfl ?_
    refine Ay rfl rfl rfl rfl (AX [] ((St.refl nT _ _).lst [] (fun _ h=>h.elim)) (by kernel_rfl) ?_)
    refine AT (fuel:=0) [] [(32,true),(33,true)] (by kernel_rfl) rfl ?_
    refine Bd rfl rfl rfl rfl rfl (Cf rfl rfl rfl rfl (AC ?_))
    refine Bn (by kernel_rfl) ?_
    obtain rfl:=sm a0
    exact ⟨(),_,⟨rfl,rfl,rfl,rfl,rfl,rfl,trivial⟩,((((hB.st e0).st f0).st b0).st c0).st d0,((m0.st b0).st c0).st d0,((h8.st b0).st c0).st d0,((n0.st b0).st c0).st d0,((o0.st b0).st c0).st d0,r0,((((t0.st e0).st f0).st b0).st c0).st d0,p0,((((q0.st e0).st f0).st b0).st c0).st d0⟩
   replace a0:=im a0 w1
   refine AL rfl rfl rfl (AA rfl (Aw rfl rfl (BH rfl rfl (AA rfl (Aw rfl rfl (Dp (hc:=fun w' ⟨O',hq⟩=>Blk.cell (i:=1) ((z0.st hq (by decide)).1) rfl) rfl rfl ?_))))))
   refine AA rfl (Aw rfl rfl (BH rfl rfl (AA rfl (Aw rfl rfl (Dp (hc:=fun w' ⟨O',hq⟩=>Blk.cell (i:=3) ((r0.st hq (by decide)).1) rfl) rfl rfl ?_)))))
   refine AA rfl (Aw rfl rfl (Cg rfl rfl (AA rfl (Aw rfl rfl ?_))))
   obtain ⟨e6,f4,a0⟩:=bs a0
   obtain ⟨f6,g6,u4,l2,m2,n2,o2,h6,rfl,g4,i6,j6⟩:=p0.elem f4
   obtain ⟨k6,l6,rfl⟩:=g4.form
   refine IC (hA:=l2) (hj:=rfl) (hlt:=n2) rfl rfl rfl ?_
   refine AA rfl (Aw rfl rfl (BH rfl rfl (AA rfl (Aw rfl rfl (Dp (hc:=fun w' ⟨O',hq⟩=>cat2 (AR (hq.agree (i:=0) (by decide)) m2 o2)) rfl rfl ?_)))))
   refine AA rfl (Aw rfl rfl (Bo (fun _ _=>Do rfl rfl) rfl (fun y1=>?_) (fun y1=>?_)))
   ·
    replace a0:=ip a0 y1
    refine BN rfl rfl rfl rfl (AL rfl rfl rfl (Bd rfl rfl rfl rfl rfl (Bd rfl rfl rfl rfl rfl (Bd rfl rfl rfl rfl rfl (Bd rfl rfl rfl rfl rfl (Bd rfl rfl rfl rfl rfl (Bd rfl rfl rfl rfl rfl (Bd rfl rfl rfl rfl rfl (Bd rfl rfl rfl rfl rfl (Bd rfl rfl rfl rfl rfl (AC ?_)))))))))))
    refine AP (i:=24) (by kernel_rfl) rfl ?_
    refine Ay rfl rfl rfl rfl (AX [] ((St.refl nT _ _).lst [] (fun _ h=>h.elim)) (by kernel_rfl) ?_)
    refine AP (i:=31) (by kernel_rfl) rfl ?_
    refine Ay rfl rfl rfl rfl (AX [] ((St.refl nT _ _).lst [] (fun _ h=>h.elim)) (by kernel_rfl) ?_)
    refine AT (fuel:=0) [] [(32,true),(33,true)] (by kernel_rfl) rfl ?_
    refine Bd rfl rfl rfl rfl rfl (Cf rfl rfl rfl rfl (AC ?_))
    refine Bn (by kernel_rfl) ?_
    obtain rfl:=sm a0
    exact ⟨(),_,⟨rfl,rfl,rfl,rfl,rfl,rfl,trivial⟩,((((hB.st e0).st f0).st b0).st c0).st d0,((m0.st b0).st c0).st d0,((h8.st b0).st c0).st d0,((n0.st b0).st c0).st d0,((o0.st b0).st c0).st d0,r0,((((t0.st e0).st f0).st b0).st c0).st d0,p0,((((q0.st e0).st f0).st b0).st c0).st d0⟩
   replace a0:=im a0 y1
   refine BN rfl rfl rfl rfl (AL rfl rfl rfl (AA rfl (Aw rfl rfl ?_)))
   replace m0:=((m0.st b0).st c0).st d0
   refine Iy (hl:=rfl) (hb:=fun w' ⟨O',hq⟩=>((m0.st hq (by decide)).1).cellsAt) rfl rfl ?_
   refine AA rfl (Aw rfl rfl (BH rfl rfl (AA rfl (Aw rfl rfl ?_))))
   replace w0:=((w0.st b0).st c0).st d0
   refine Dp (hc:=fun w' ⟨O',hq⟩=>Blk.cell (i:=0) ((w0.st hq (by decide)).1) rfl) rfl rfl ?_
   refine AA rfl (Aw rfl rfl (BH rfl rfl (AA rfl (Aw rfl rfl (Dp (hc:=fun w' ⟨O',hq⟩=>Blk.cell (i:=3) ((r0.st hq (by decide)).1) rfl) rfl rfl ?_)))))
   refine AA rfl (Aw rfl rfl (Cg rfl rfl (AA rfl (Aw rfl rfl ?_))))
   obtain ⟨m6,h4,a0⟩:=bs a0
   obtain ⟨n6,o6,v4,p2,q2,r2,s2,p6,rfl,j1,q6,r6⟩:=p0.elem h4
   obtain ⟨s6,t6,rfl⟩:=j1.form
   refine IC (hA:=p2) (hj:=rfl) (hlt:=r2) rfl rfl rfl ?_
   refine AA rfl (Aw rfl rfl (BH rfl rfl (AA rfl (Aw rfl rfl (Dp (hc:=fun w' ⟨O',hq⟩=>cat0 (AR (hq.agree (i:=0) (by decide)) q2 s2)) rfl rfl ?_)))))
   refine AC ?_
   refine AP (i:=24) (by kernel_rfl) rfl ?_
   refine Az rfl rfl ?_
   obtain ⟨i4,j4,a0⟩:=bs a0
   replace h8:=((h8.st b0).st c0).st d0
   replace n0:=((n0.st b0).st c0).st d0
   replace o0:=((o0.st b0).st c0).st d0
   replace g1:=((((g1.st e0).st f0).st b0).st c0).st d0
   refine Bq (O:=v1) (R:=fun w' F v=>Vb w' F v i4) (Gc Fr.lt (Vb.ofAgg (cs:=[(.slice A9 x0.vars.length b1),(.slice c1 x0.vals.length d1),(.slice e1 x0.ops.length f1)]) (x:=x0) rfl ⟨_,_,_,rfl,h8,n0,o0⟩) g1 j4) rfl rfl fun u6 z1 a2 h0 t2=>?_
   obtain ⟨w6,x6,rfl⟩:=t2.form
   have hZ:=h0.lst [] (fun _ h=>h.elim)
   refine AX [] hZ (by kernel_rfl) ?_
   refine AP (i:=31) (by kernel_rfl) rfl ?_
   refine Az rfl rfl ?_
   obtain ⟨u2,k4,a0⟩:=bs a0
   replace j1:=j1.st h0
   refine Bi (O:=a2) (A:=All z1) (R:=fun w' F v=>Vb w' F v u2) (GF (fun _ h=>h) (Vb.mono (F:=Fr 0 z1 a2) t2 Fr.lt) (Vb.mono (F:=Fr 0 z1 a2) j1 Fr.lt) k4) rfl rfl fun y6 z6 a7 i0 l4=>?_
   obtain rfl:=l4.bool
   have hZ:=i0.lst [] (fun _ h=>h.elim)
   cases u2
   case false =>
    replace a0:=iF a0
    refine AX [] hZ (by kernel_rfl) ?_
    refine AT (fuel:=0) [] [(32,true),(33,true)] (by kernel_rfl) rfl ?_
    refine AA rfl (Aw rfl rfl (GB rfl rfl (BN rfl rfl rfl rfl (AC ?_))))
    refine Bn (by kernel_rfl) ?_
    obtain rfl:=sm a0
    exact ⟨(),_,⟨rfl,rfl,rfl,rfl,rfl,rfl,trivial⟩,((((((hB.st e0).st f0).st b0).st c0).st d0).st h0).st i0,(m0.st h0).st i0,(h8.st h0).st i0,(n0.st h0).st i0,(o0.st h0).st i0,(r0.st h0).st i0,((((((t0.st e0).st f0).st b0).st c0).st d0).st h0).st i0,(p0.st h0).st i0,((((((q0.st e0).st f0).st b0).st c0).st d0).st h0).st i0⟩
   replace a0:=iT a0
   refine AX [] hZ (by kernel_rfl) ?_
   refine AT (fuel:=0) [] [(32,true),(33,true)] (by kernel_rfl) rfl ?_
   refine AA rfl (Aw rfl rfl (GA rfl rfl (BN rfl rfl rfl rfl (AC ?_))))
   refine Bn (by kernel_rfl) ?_
   obtain rfl:=sm a0
   exact ⟨(),_,⟨rfl,rfl,rfl,rfl,rfl,rfl,trivial⟩,((((((hB.st e0).st f0).st b0).st c0).st d0).st h0).st i0,(m0.st h0).st i0,(h8.st h0).st i0,(n0.st h0).st i0,(o0.st h0).st i0,(r0.st h0).st i0,((((((t0.st e0).st f0).st b0).st c0).st d0).st h0).st i0,(p0.st h0).st i0,((((((q0.st e0).st f0).st b0).st c0).st d0).st h0).st i0⟩
  replace hB:=((((hB.st e0).st f0).st b0).st c0).st d0
  replace h8:=((h8.st b0).st c0).st d0
  replace n0:=((n0.st b0).st c0).st d0
  replace o0:=((o0.st b0).st c0).st d0
  replace q0:=((((q0.st e0).st f0).st b0).st c0).st d0
  replace t0:=((((t0.st e0).st f0).st b0).st c0).st d0
  replace p0:=((((p0.st e0).st f0).st b0).st c0).st d0
  replace m0:=((m0.st b0).st c0).st d0
  replace r0:=((((r0.st e0).st f0).st b0).st c0).st d0
  rintro b7 c7 ⟨c4,d7,v2,hB,m0,h8,n0,o0,r0,t0,p0,q0⟩
  refine AO _ v2 ?_
  refine BK rfl (fun b2=>?_) (fun b2=>?_)
  ·
   replace v0:=ip v0 b2
   refine Al (Aj (Au rfl rfl (o_z ?_)))
   refine AJ ?_
   obtain rfl:=sm v0
   obtain rfl:=t1 _ rfl
   obtain rfl:=sm (BM hm)
   exact ret1v rfl (AD rfl) ⟨hB.ext,vBool⟩
  replace v0:=im' v0 b2
  refine AM ?_
  obtain rfl:=sm v0
  exact show Exists _ from ⟨_,(),rfl,⟨rfl,rfl,rfl,rfl,rfl,trivial⟩,_,hB,m0,h8,n0,o0,r0,t0,p0,q0⟩
 rintro e7 f7 ⟨g7,h7,rfl,w2,i7,hB⟩
 replace hm:=Be hm
 refine AO _ w2 ?_
 refine Al (Aj (Au rfl rfl (o_z ?_)))
 refine AJ ?_
 obtain rfl:=sm hm
 exact ret1v rfl (AD rfl) ⟨hB.ext,vBool⟩
noncomputable def DN (x0:Tsk) (x1:Swp):Option Bool :=
  bnd (bnd (GS x0) fun q47=>if q47=true then bnd (Ey x0 x1) fun q54=>if q54=true then bnd (Ds x1 x0.goal) fun q61=>bnd (Ei q61 x0.goal) fun q70=>if q70=true then some false else some true else some true else some true:Option Bool) fun y43=>if y43=true then (some false) else (bnd (rng (ρ:=Bool) (fun (k88:Nat) (a89:Opr) (s86:Unit)=>bnd (x1.ops[k88]?) fun a116=>bnd (atI x0.ops a116) fun a126=>bnd (EK x1 a89 a126) fun q147=>if q147=true then some (.next ()) else some (.ret false)) x0.ops 0 ()) fun res84=>fin res84 fun (s158:Unit)=>some true)
theorem KQ {w:World} {A:Nat→Prop} (hA:∀ k,A k→k < w.heap.size) {vx0:Value} {x0:Tsk} (k2:Vb w A vx0 x0) {vx1:Value} {x1:Swp} (l2:Vb w A vx1 x1) {r:Bool} (hm:DN x0 x1=some r) :
    Fn Tryz.prog 21 [vx0,vx1] w fun v w'=>Ext w w'∧Vb w' (upA A w w') v r:=by
 obtain ⟨O,hB,o3⟩:=enter hA
 replace k2:=k2.mono o3
 obtain ⟨h5,rfl,v4,v5,v6,v7,rfl,h8,q0,f0,i0⟩:=k2
 obtain ⟨A9,z0,rfl⟩:=h8.form
 obtain ⟨a1,b1,rfl⟩:=q0.form
 obtain ⟨c1,d1,rfl⟩:=f0.form
 obtain ⟨e1,f1,rfl⟩:=i0.form
 replace l2:=l2.mono o3
 obtain ⟨x3,rfl,i5,j5,k5,rfl,n0,o0,l0⟩:=l2
 obtain ⟨s0,t0,rfl⟩:=n0.form
 obtain ⟨u0,v0,rfl⟩:=o0.form
 obtain ⟨w0,y0,rfl⟩:=l0.form
 refine AK Tryz.func21 rfl Tryz.ntmps21 rfl ?_
 unfold DN at hm
 refine Al (Aj (BS 2 O rfl rfl fun h1 y3 p3 j0 b0=>?_))
 replace b0:Lc 2 y3 p3 h1 26 [(.slice A9 x0.vars.length z0),(.slice a1 x0.init.length b1),(.slice c1 x0.goal.length d1),(.slice e1 x0.ops.length f1)]:=b0
 refine BS 3 p3 rfl rfl fun i1 m2 g2 g0 p0=>?_
 replace p0:Lc 3 m2 g2 i1 53 [(.slice s0 x1.vars.length t0),(.slice u0 x1.vals.length v0),(.slice w0 x1.ops.length y0)]:=p0
 refine Au rfl rfl (o_z ?_)
 refine Al (Al ?_)
 obtain ⟨z3,a0,hm⟩:=bs hm
 refine AH (fun l' w'=>∃ (a4:Unit) (O':Lab),subs l' [(2,(.pointer (some ⟨h1,0,none⟩))),(3,(.pointer (some ⟨i1,0,none⟩))),(24,(.bool z3))]∧Bs w A w' O'∧Lc 2 w' O' h1 26 [(.slice A9 x0.vars.length z0),(.slice a1 x0.init.length b1),(.slice c1 x0.goal.length d1),(.slice e1 x0.ops.length f1)]∧Vb w' (Fr 0 w' O') (.slice A9 x0.vars.length z0) x0.vars∧Vb w' (Fr 0 w' O') (.slice a1 x0.init.length b1) x0.init∧Vb w' (Fr 0 w' O') (.slice c1 x0.goal.length d1) x0.goal∧Vb w' (Fr 0 w' O') (.slice e1 x0.ops.length f1) x0.ops∧Lc 3 w' O' i1 53 [(.slice s0 x1.vars.length t0),(.slice u0 x1.vals.length v0),(.slice w0 x1.ops.length y0)]∧Vb w' (Fr 0 w' O') (.slice s0 x1.vars.length t0) x1.vars∧Vb w' (Fr 0 w' O') (.slice u0 x1.vals.length v0) x1.vals∧Vb w' (Fr 0 w' O') (.slice w0 x1.ops.length y0) x1.ops) ?_ ?_
 ·
  refine Bt [] g2 ?_
  refine AT (fuel:=18) [] [(0,true)] (by kernel_rfl) rfl ?_
  replace b0:=b0.st g0
  refine CU (hl:=rfl) (hb:=fun w' ⟨O',hq⟩=>((b0.st hq (by decide)).1).cellsAt) rfl rfl rfl ?_
  refine AC ?_
  refine AP (i:=1) (by kernel_rfl) rfl ?_
  obtain ⟨q3,b4,a0⟩:=bs a0
  replace h8:=(h8.st j0).st g0
  replace q0:=(q0.st j0).st g0
  replace f0:=(f0.st j0).st g0
  replace i0:=(i0.st j0).st g0
  refine Bi (O:=g2) (A:=All m2) (R:=fun w' F v=>Vb w' F v q3) (Md (fun _ h=>h) (Vb.mono (F:=Fr 0 m2 g2) (Vb.ofAgg (cs:=[(.slice A9 x0.vars.length z0),(.slice a1 x0.init.length b1),(.slice c1 x0.goal.length d1),(.slice e1 x0.ops.length f1)]) (x:=x0) rfl ⟨_,_,_,_,rfl,h8,q0,f0,i0⟩) Fr.lt) b4) rfl rfl fun l5 n2 o2 h0 c4=>?_
  obtain rfl:=c4.bool
  have hZ:=h0.lst [] (fun _ h=>h.elim)
  cases q3
  case false =>
   replace a0:=iF a0
   refine AX [] hZ (by kernel_rfl) ?_
   refine AT (fuel:=13) [] [(2,true),(3,true),(4,true),(5,true)] (by kernel_rfl) rfl ?_
   refine MT rfl rfl rfl (AL rfl rfl rfl (Bd rfl rfl rfl rfl rfl (Bd rfl rfl rfl rfl rfl (AC ?_))))
   refine AP (i:=6) (by kernel_rfl) rfl ?_
   refine Ay rfl rfl rfl rfl (AX [] ((St.refl nT _ _).lst [] (fun _ h=>h.elim)) (by kernel_rfl) ?_)
   refine AT (fuel:=4) [] [(7,true),(8,true),(9,true),(10,true),(11,true),(12,true),(14,true),(15,true)] (by kernel_rfl) rfl ?_
   refine Bd rfl rfl rfl rfl rfl (Cf rfl rfl rfl rfl (AL rfl rfl rfl (Bd rfl rfl rfl rfl rfl (Bd rfl rfl rfl rfl rfl (Bd rfl rfl rfl rfl rfl (Bd rfl rfl rfl rfl rfl (Bd rfl rfl rfl rfl rfl (AC ?_))))))))
   refine AP (i:=13) (by kernel_rfl) rfl ?_
   refine Ay rfl rfl rfl rfl (AX [] ((St.refl nT _ _).lst [] (fun _ h=>h.elim)) (by kernel_rfl) ?_)
   refine AP (i:=16) (by kernel_rfl) rfl ?_
   refine Ay rfl rfl rfl rfl (AX [] ((St.refl nT _ _).lst [] (fun _ h=>h.elim)) (by kernel_rfl) ?_)
   refine AT (fuel:=0) [] [(17,true),(18,true)] (by kernel_rfl) rfl ?_
   refine Bd rfl rfl rfl rfl rfl (Cf rfl rfl rfl rfl (AC ?_))
   refine Bn (by kernel_rfl) ?_
   obtain rfl:=sm a0
   exact ⟨(),_,⟨rfl,rfl,rfl,trivial⟩,((hB.st j0).st g0).st h0,b0.st h0,h8.st h0,q0.st h0,f0.st h0,i0.st h0,p0.st h0,((n0.st j0).st g0).st h0,((o0.st j0).st g0).st h0,((l0.st j0).st g0).st h0⟩
  replace a0:=iT a0
  refine AX [] hZ (by kernel_rfl) ?_
  refine AT (fuel:=13) [] [(2,true),(3,true),(4,true),(5,true)] (by kernel_rfl) rfl ?_
  refine Lm rfl rfl rfl (AL rfl rfl rfl (AA rfl (Aw rfl rfl ?_)))
  replace b0:=b0.st h0
  refine Iy (hl:=rfl) (hb:=fun w' ⟨O',hq⟩=>((b0.st hq (by decide)).1).cellsAt) rfl rfl ?_
  refine AA rfl (Aw rfl rfl ?_)
  replace p0:=p0.st h0
  refine Iy (hl:=rfl) (hb:=fun w' ⟨O',hq⟩=>((p0.st hq (by decide)).1).cellsAt) rfl rfl ?_
  refine AC ?_
  refine AP (i:=6) (by kernel_rfl) rfl ?_
  refine Az rfl rfl ?_
  obtain ⟨r3,d4,a0⟩:=bs a0
  replace h8:=h8.st h0
  replace q0:=q0.st h0
  replace f0:=f0.st h0
  replace i0:=i0.st h0
  replace n0:=((n0.st j0).st g0).st h0
  replace o0:=((o0.st j0).st g0).st h0
  replace l0:=((l0.st j0).st g0).st h0
  refine Bi (O:=o2) (A:=All n2) (R:=fun w' F v=>Vb w' F v r3) (KP (fun _ h=>h) (Vb.mono (F:=Fr 0 n2 o2) (Vb.ofAgg (cs:=[(.slice A9 x0.vars.length z0),(.slice a1 x0.init.length b1),(.slice c1 x0.goal.length d1),(.slice e1 x0.ops.length f1)]) (x:=x0) rfl ⟨_,_,_,_,rfl,h8,q0,f0,i0⟩) Fr.lt) (Vb.mono (F:=Fr 0 n2 o2) (Vb.ofAgg (cs:=[(.slice s0 x1.vars.length t0),(.slice u0 x1.vals.length v0),(.slice w0 x1.ops.length y0)]) (x:=x1) rfl ⟨_,_,_,rfl,n0,o0,l0⟩) Fr.lt) d4) rfl rfl fun m5 n5 e4 c0 f4=>?_
  obtain rfl:=f4.bool
  have hZ:=c0.lst [] (fun _ h=>h.elim)
  cases r3
  case false =>
   replace a0:=iF a0
   refine AX [] hZ (by kernel_rfl) ?_
   refine AT (fuel:=4) [] [(7,true),(8,true),(9,true),(10,true),(11,true),(12,true),(14,true),(15,true)] (by kernel_rfl) rfl ?_
   refine AA rfl (Aw rfl rfl (GB rfl rfl (BN rfl rfl rfl rfl (AL rfl rfl rfl (Bd rfl rfl rfl rfl rfl (Bd rfl rfl rfl rfl rfl (Bd rfl rfl rfl rfl rfl (Bd rfl rfl rfl rfl rfl (Bd rfl rfl rfl rfl rfl (AC ?_))))))))))
   refine AP (i:=13) (by kernel_rfl) rfl ?_
   refine Ay rfl rfl rfl rfl (AX [] ((St.refl nT _ _).lst [] (fun _ h=>h.elim)) (by kernel_rfl) ?_)
   refine AP (i:=16) (by kernel_rfl) rfl ?_
   refine Ay rfl rfl rfl rfl (AX [] ((St.refl nT _ _).lst [] (fun _ h=>h.elim)) (by kernel_rfl) ?_)
   refine AT (fuel:=0) [] [(17,true),(18,true)] (by kernel_rfl) rfl ?_
   refine Bd rfl rfl rfl rfl rfl (Cf rfl rfl rfl rfl (AC ?_))
   refine Bn (by kernel_rfl) ?_
   obtain rfl:=sm a0
   exact ⟨(),_,⟨rfl,rfl,rfl,trivial⟩,(((hB.st j0).st g0).st h0).st c0,b0.st c0,h8.st c0,q0.st c0,f0.st c0,i0.st c0,p0.st c0,n0.st c0,o0.st c0,l0.st c0⟩
  replace a0:=iT a0
  refine AX [] hZ (by kernel_rfl) ?_
  refine AT (fuel:=4) [] [(7,true),(8,true),(9,true),(10,true),(11,true),(12,true),(14,true),(15,true)] (by kernel_rfl) rfl ?_
  refine AA rfl (Aw rfl rfl (GA rfl rfl (BN rfl rfl rfl rfl (AL rfl rfl rfl (AA rfl (Aw rfl rfl ?_))))))
  replace p0:=p0.st c0
  refine Iy (hl:=rfl) (hb:=fun w' ⟨O',hq⟩=>((p0.st hq (by decide)).1).cellsAt) rfl rfl ?_
  refine AA rfl (Aw rfl rfl (BH rfl rfl (AA rfl (Aw rfl rfl ?_))))
  replace b0:=b0.st c0
  refine Dp (hc:=fun w' ⟨O',hq⟩=>Blk.cell (i:=2) ((b0.st hq (by decide)).1) rfl) rfl rfl ?_
  refine AA rfl (Aw rfl rfl (BH rfl rfl (AA rfl (Aw rfl rfl (Dp (hc:=fun w' ⟨O',hq⟩=>Blk.cell (i:=2) ((b0.st hq (by decide)).1) rfl) rfl rfl ?_)))))
  refine AC ?_
  refine AP (i:=13) (by kernel_rfl) rfl ?_
  refine Az rfl rfl ?_
  obtain ⟨g4,h4,a0⟩:=bs a0
  replace f0:=f0.st c0
  replace n0:=n0.st c0
  replace o0:=o0.st c0
  replace l0:=l0.st c0
  refine Bq (O:=e4) (R:=fun w' F v=>Vb w' F v g4) (Gc Fr.lt (Vb.ofAgg (cs:=[(.slice s0 x1.vars.length t0),(.slice u0 x1.vals.length v0),(.slice w0 x1.ops.length y0)]) (x:=x1) rfl ⟨_,_,_,rfl,n0,o0,l0⟩) f0 h4) rfl rfl fun o5 p2 q2 m0 s3=>?_
  obtain ⟨p5,q5,rfl⟩:=s3.form
  have hZ:=m0.lst [] (fun _ h=>h.elim)
  refine AX [] hZ (by kernel_rfl) ?_
  refine AP (i:=16) (by kernel_rfl) rfl ?_
  refine Az rfl rfl ?_
  obtain ⟨t3,i4,a0⟩:=bs a0
  replace f0:=f0.st m0
  refine Bi (O:=q2) (A:=All p2) (R:=fun w' F v=>Vb w' F v t3) (GF (fun _ h=>h) (Vb.mono (F:=Fr 0 p2 q2) s3 Fr.lt) (Vb.mono (F:=Fr 0 p2 q2) f0 Fr.lt) i4) rfl rfl fun r5 s5 t5 k0 j4=>?_
  obtain rfl:=j4.bool
  have hZ:=k0.lst [] (fun _ h=>h.elim)
  cases t3
  case false =>
   replace a0:=iF a0
   refine AX [] hZ (by kernel_rfl) ?_
   refine AT (fuel:=0) [] [(17,true),(18,true)] (by kernel_rfl) rfl ?_
   refine AA rfl (Aw rfl rfl (GB rfl rfl (BN rfl rfl rfl rfl (AC ?_))))
   refine Bn (by kernel_rfl) ?_
   obtain rfl:=sm a0
   exact ⟨(),_,⟨rfl,rfl,rfl,trivial⟩,(((((hB.st j0).st g0).st h0).st c0).st m0).st k0,(b0.st m0).st k0,((h8.st c0).st m0).st k0,((q0.st c0).st m0).st k0,f0.st k0,((i0.st c0).st m0).st k0,(p0.st m0).st k0,(n0.st m0).st k0,(o0.st m0).st k0,(l0.st m0).st k0⟩
  replace a0:=iT a0
  refine AX [] hZ (by kernel_rfl) ?_
  refine AT (fuel:=0) [] [(17,true),(18,true)] (by kernel_rfl) rfl ?_
  refine AA rfl (Aw rfl rfl (GA rfl rfl (BN rfl rfl rfl rfl (AC ?_))))
  refine Bn (by kernel_rfl) ?_
  obtain rfl:=sm a0
  exact ⟨(),_,⟨rfl,rfl,rfl,trivial⟩,(((((hB.st j0).st g0).st h0).st c0).st m0).st k0,(b0.st m0).st k0,((h8.st c0).st m0).st k0,((q0.st c0).st m0).st k0,f0.st k0,((i0.st c0).st m0).st k0,(p0.st m0).st k0,(n0.st m0).st k0,(o0.st m0).st k0,(l0.st m0).st k0⟩
 replace hB:=(hB.st j0).st g0
 replace h8:=(h8.st j0).st g0
 replace q0:=(q0.st j0).st g0
 replace f0:=(f0.st j0).st g0
 replace i0:=(i0.st j0).st g0
 replace n0:=(n0.st j0).st g0
 replace o0:=(o0.st j0).st g0
 replace l0:=(l0.st j0).st g0
 replace b0:=b0.st g0
 rintro u5 w5 ⟨a4,k4,r2,hB,b0,h8,q0,f0,i0,p0,n0,o0,l0⟩
 refine AO _ r2 ?_
 refine BK rfl (fun s2=>?_) (fun s2=>?_)
 ·
  replace hm:=ip hm s2
  refine Al (Aj (Au rfl rfl (o_z ?_)))
  refine AJ ?_
  obtain rfl:=sm hm
  exact ret1v rfl (AD rfl) ⟨hB.ext,vBool⟩
 replace hm:=im' hm s2
 refine AM (Al (Al (Aj (AN rfl rfl (AG (hc:=Blk.cell (i:=3) (b0.1) rfl) rfl rfl ?_)))))
 refine AY rfl rfl ?_
 have t2:x0.ops.length≤9223372036854775807:=Nat.le_trans i0.len.2.1 i0.len.2.2
 have x5:inI64 (x0.ops.length:Int):=rngNat t2
 refine Ar rfl rfl (o_z ?_)
 obtain ⟨j1,u2,hm⟩:=bs hm
 refine AH (aft j1 (fun (h2:Unit) (i2:Unit)=>[]) (fun h2 i2 w'=>∃ O':Lab,Bs w A w' O')) ?_ ?_
 ·
  refine AU (Bu (σ:=Unit) (X:=Unit) (x0.ops.length) u2 rfl t2 (fun (h2:Unit) (i2:Unit)=>[(2,(.pointer (some ⟨h1,0,none⟩))),(3,(.pointer (some ⟨i1,0,none⟩)))]) _ (fun h2 i2 w'=>∃ O':Lab,Bs w A w' O'∧Lc 2 w' O' h1 26 [(.slice A9 x0.vars.length z0),(.slice a1 x0.init.length b1),(.slice c1 x0.goal.length d1),(.slice e1 x0.ops.length f1)]∧Vb w' (Fr 0 w' O') (.slice A9 x0.vars.length z0) x0.vars∧Vb w' (Fr 0 w' O') (.slice a1 x0.init.length b1) x0.init∧Vb w' (Fr 0 w' O') (.slice c1 x0.goal.length d1) x0.goal∧Vb w' (Fr 0 w' O') (.slice e1 x0.ops.length f1) x0.ops∧Lc 3 w' O' i1 53 [(.slice s0 x1.vars.length t0),(.slice u0 x1.vals.length v0),(.slice w0 x1.ops.length y0)]∧Vb w' (Fr 0 w' O') (.slice s0 x1.vars.length t0) x1.vars∧Vb w' (Fr 0 w' O') (.slice u0 x1.vals.length v0) x1.vals∧Vb w' (Fr 0 w' O') (.slice w0 x1.ops.length y0) x1.ops) _ () ⟨k4,hB,b0,h8,q0,f0,i0,p0,n0,o0,l0⟩ ⟨rfl,rfl,rfl,rfl,trivial⟩ (fun _ _=>⟨rfl,rfl⟩) (fun _ _=>trivial) (fun _ _ _ ⟨O',hB,b0,h8,q0,f0,i0,p0,n0,o0,l0⟩=>⟨O',hB⟩) ⟨rfl,rfl,rfl⟩ ⟨rfl,rfl⟩ ?_)
  rintro l4 k1 h2 i2 j2 m4 l1 ⟨m1,hB,b0,h8,q0,f0,i0,p0,n0,o0,l0⟩ d0 g1 v2
  have rk88:inI64 (l4:Int):=rngK l1 t2
  refine Al (Aj (Ar rfl rfl (Au rfl rfl (o_z ?_))))
  refine Al (Bt [] m1 ?_)
  refine AT (fuel:=2) [] [(0,true),(1,true),(2,true),(3,true),(4,true),(5,true),(6,true),(7,true),(8,true),(9,true),(10,true),(11,true),(12,true),(13,true),(14,true)] (by kernel_rfl) rfl ?_
  refine CU (hl:=rfl) (hb:=fun w' ⟨O',hq⟩=>((p0.st hq (by decide)).1).cellsAt) rfl rfl rfl ?_
  refine Bc rfl rfl rfl (AV (hc:=fun w' ⟨O',hq⟩=>Blk.cell (i:=3) ((b0.st hq (by decide)).1) rfl) rfl rfl rfl ?_)
  refine AL rfl rfl rfl ?_
  obtain ⟨y5,n4,u3,n1,o1,p1,q1,o4,p4,rfl,r1,s1,w2,x2⟩:=i0.elem l1
  obtain ⟨y2,z2,rfl⟩:=r1.form
  obtain ⟨a3,b3,rfl⟩:=s1.form
  refine Br (hA:=n1) (hj:=rfl) (hlt:=p1) rfl rfl rfl rfl ?_
  refine CU (hl:=rfl) (hb:=fun w' ⟨O',hq⟩=>(AR (hq.agree (i:=0) (by decide)) o1 q1)) rfl rfl rfl ?_
  refine Bc rfl rfl rfl (AV (hc:=fun w' ⟨O',hq⟩=>Blk.cell (i:=3) ((b0.st hq (by decide)).1) rfl) rfl rfl rfl ?_)
  refine Bc rfl rfl rfl (AV (hc:=fun w' ⟨O',hq⟩=>Blk.cell (i:=2) ((p0.st hq (by decide)).1) rfl) rfl rfl rfl ?_)
  refine AL rfl rfl rfl ?_
  obtain ⟨q4,c3,d0⟩:=bs d0
  obtain ⟨r4,s4,v3,t1,u1,v1,w1,rfl,t4⟩:=l0.elem c3
  refine Br (hA:=t1) (hj:=rfl) (hlt:=v1) rfl rfl rfl rfl ?_
  refine AV (hc:=fun w' ⟨O',hq⟩=>cat0 (AR (hq.agree (i:=0) (by decide)) u1 w1)) rfl rfl rfl ?_
  obtain ⟨r0,d3,d0⟩:=bs d0
  obtain ⟨e3,f3⟩:=AW d3
  obtain ⟨u4,w4,w3,y1,z1,a2,b2,x4,y4,rfl,c2,d2,g3,h3⟩:=i0.elem f3
  obtain ⟨i3,j3,rfl⟩:=c2.form
  obtain ⟨k3,l3,rfl⟩:=d2.form
  refine Br (hA:=y1) (hj:=(Int.toNat_of_nonneg e3).symm) (hlt:=a2) rfl rfl rfl rfl ?_
  refine CU (hl:=rfl) (hb:=fun w' ⟨O',hq⟩=>(AR (hq.agree (i:=0) (by decide)) z1 b2)) rfl rfl rfl ?_
  refine AC ?_
  refine AP (i:=15) (by kernel_rfl) rfl ?_
  obtain ⟨e2,m3,d0⟩:=bs d0
  refine Bi (O:=m1) (A:=All j2) (R:=fun w' F v=>Vb w' F v e2) (Lx (fun _ h=>h) (Vb.mono (F:=Fr 0 j2 m1) (Vb.ofAgg (cs:=[(.slice s0 x1.vars.length t0),(.slice u0 x1.vals.length v0),(.slice w0 x1.ops.length y0)]) (x:=x1) rfl ⟨_,_,_,rfl,n0,o0,l0⟩) Fr.lt) (Vb.mono (F:=Fr 0 j2 m1) (Vb.ofAgg (cs:=[(.string k1.name),(.int .i64 k1.cost),(.slice y2 k1.pre.length z2),(.slice a3 k1.effs.length b3)]) (x:=k1) rfl ⟨_,_,rfl,r1,s1,w2,x2⟩) Fr.lt) (Vb.mono (F:=Fr 0 j2 m1) (Vb.ofAgg (cs:=[(.string r0.name),(.int .i64 r0.cost),(.slice i3 r0.pre.length j3),(.slice k3 r0.effs.length l3)]) (x:=r0) rfl ⟨_,_,rfl,c2,d2,g3,h3⟩) Fr.lt) m3) rfl rfl fun z4 a5 b5 e0 n3=>?_
  obtain rfl:=n3.bool
  have hZ:=e0.lst [] (fun _ h=>h.elim)
  cases e2
  case false =>
   replace d0:=iF d0
   refine AX [] hZ (by kernel_rfl) ?_
   refine AT (fuel:=0) [] [(16,true)] (by kernel_rfl) rfl ?_
   refine MT rfl rfl rfl (AC ?_)
   refine Bn (by kernel_rfl) ?_
   refine Ah rfl (Al (Aj (Au rfl rfl (o_z ?_))))
   refine AJ ?_
   obtain rfl:=sm d0
   obtain rfl:=g1 _ rfl
   obtain rfl:=sm (BM hm)
   replace hB:=hB.st e0
   exact ret1v rfl (AD rfl) ⟨hB.ext,vBool⟩
  replace d0:=iT d0
  refine AX [] hZ (by kernel_rfl) ?_
  refine AT (fuel:=0) [] [(16,true)] (by kernel_rfl) rfl ?_
  refine Lm rfl rfl rfl (AC ?_)
  refine Bn (by kernel_rfl) ?_
  refine Ae rfl (AM ?_)
  obtain rfl:=sm d0
  exact show Exists _ from ⟨_,(),rfl,⟨rfl,rfl,rfl,rfl,trivial⟩,_,hB.st e0,b0.st e0,h8.st e0,q0.st e0,f0.st e0,i0.st e0,p0.st e0,n0.st e0,o0.st e0,l0.st e0⟩
 rintro c5 d5 ⟨e5,f5,rfl,f2,g5,hB⟩
 replace hm:=Be hm
 refine AO _ f2 ?_
 refine Al (Aj (Au rfl rfl (o_z ?_)))
 refine AJ ?_
 obtain rfl:=sm hm
 exact ret1v rfl (AD rfl) ⟨hB.ext,vBool⟩
noncomputable def CZ (x0:Swp) (x1:List Int):Option (List Int) :=
  bnd (mkI 8 (0:Int) (x1.length:Int)) fun u25=>bnd (rng (ρ:=(List Int)) (fun (k44:Nat) (a45:Int) (s42:(List Int))=>bnd (x0.vars[k44]?) fun a59=>bnd (x0.vals[k44]?) fun a69=>bnd (atI a69 a45) fun a90=>bnd (atI s42 a59) fun a102=>some (.next (s42.set (a59:Int).toNat a90))) x1 0 u25) fun res40=>fin res40 fun (s120:(List Int))=>some s120
theorem HG {w:World} {A:Nat→Prop} (hA:∀ k,A k→k < w.heap.size) {vx0:Value} {x0:Swp} (w0:Vb w A vx0 x0) {vx1:Value} {x1:List Int} (b0:Vb w A vx1 x1) {r:(List Int)} (hm:CZ x0 x1=some r) :
    Fn Tryz.prog 69 [vx0,vx1] w fun v w'=>Ext w w'∧Vb w' (upA A w w') v r:=by
 obtain ⟨O,hB,e2⟩:=enter hA
 replace w0:=w0.mono e2
 obtain ⟨q3,rfl,v4,v5,v6,rfl,h7,f0,h0⟩:=w0
 obtain ⟨A8,c9,rfl⟩:=h7.form
 obtain ⟨y0,a1,rfl⟩:=f0.form
 obtain ⟨b1,c1,rfl⟩:=h0.form
 replace b0:=b0.mono e2
 obtain ⟨f2,g2,rfl⟩:=b0.form
 refine AK Tryz.func69 rfl Tryz.ntmps69 rfl ?_
 unfold CZ at hm
 refine Al (Aj (BS 2 O rfl rfl fun d1 m2 h2 j0 d0=>?_))
 replace d0:Lc 2 m2 h2 d1 53 [(.slice A8 x0.vars.length c9),(.slice y0 x0.vals.length a1),(.slice b1 x0.ops.length c1)]:=d0
 refine Au rfl rfl (o_z ?_)
 refine Al (Aj (Ar rfl rfl (AY rfl rfl ?_)))
 replace b0:=b0.st j0
 have n2:x1.length≤9223372036854775807:=Nat.le_trans b0.len.2.1 b0.len.2.2
 have r3:inI64 (x1.length:Int):=rngNat n2
 obtain ⟨r0,o2,hm⟩:=bs hm
 obtain ⟨s0,p2,q2,r2,s2⟩:=CE o2
 refine Di 3 (by decide) h2 (z0:=(0:Int)) rfl rfl rfl rfl rfl p2 (vInt (show inI64 0 from by decide)) q2 r2 rfl fun t0 s3 t2 i0 i2=>?_
 rw [← s2] at i2 ⊢
 refine Au rfl rfl (o_z ?_)
 refine Al (Al (Aj (Ar rfl rfl (AY rfl rfl ?_))))
 replace b0:=b0.st i0
 have e1:x1.length≤9223372036854775807:=Nat.le_trans b0.len.2.1 b0.len.2.2
 have t3:inI64 (x1.length:Int):=rngNat e1
 refine Ar rfl rfl (o_z ?_)
 obtain ⟨l0,f1,hm⟩:=bs hm
 refine AH (aft l0 (fun (k0:(List Int)) (u0:Unit)=>[(5,(.slice (some ⟨t0,0,none⟩) r0.length s0))]) (fun k0 u0 w'=>∃ O':Lab,Bs w A w' O'∧Rw 3 w' O' 3 (.slice (some ⟨t0,0,none⟩) r0.length s0) k0)) ?_ ?_
 ·
  refine AU ?_
  replace hB:=(hB.st j0).st i0
  replace h7:=(h7.st j0).st i0
  replace f0:=(f0.st j0).st i0
  replace h0:=(h0.st j0).st i0
  replace d0:=d0.st i0
  refine Bu (σ:=(List Int)) (X:=Unit) (x1.length) f1 rfl e1 (fun (k0:(List Int)) (u0:Unit)=>[(1,(.slice f2 x1.length g2)),(2,(.pointer (some ⟨d1,0,none⟩))),(5,(.slice (some ⟨t0,0,none⟩) r0.length s0))]) _ (fun k0 u0 w'=>∃ O':Lab,Bs w A w' O'∧Vb w' (Fr 0 w' O') (.slice f2 x1.length g2) x1∧Lc 2 w' O' d1 53 [(.slice A8 x0.vars.length c9),(.slice y0 x0.vals.length a1),(.slice b1 x0.ops.length c1)]∧Vb w' (Fr 0 w' O') (.slice A8 x0.vars.length c9) x0.vars∧Vb w' (Fr 0 w' O') (.slice y0 x0.vals.length a1) x0.vals∧Vb w' (Fr 0 w' O') (.slice b1 x0.ops.length c1) x0.ops∧Rw 3 w' O' 3 (.slice (some ⟨t0,0,none⟩) r0.length s0) k0) _ () ⟨t2,hB,b0,d0,h7,f0,h0,i2⟩ ⟨rfl,rfl,rfl,rfl,rfl,trivial⟩ (fun _ _=>⟨rfl,rfl⟩) (fun _ _=>⟨rfl,trivial⟩) (fun _ _ _ ⟨O',hB,b0,d0,h7,f0,h0,e0⟩=>⟨O',hB,e0⟩) ⟨rfl,rfl,rfl⟩ ⟨rfl,rfl⟩ ?_
  rintro u2 u3 k0 u0 v3 v2 m0 ⟨w2,hB,b0,d0,h7,f0,h0,e0⟩ a0 g1 h1
  have rk44:inI64 (u2:Int):=rngK m0 e1
  refine Al (Aj (Ar rfl rfl (Au rfl rfl (o_z ?_))))
  refine Bt [] w2 ?_
  refine AT (fuel:=1) [] [(0,true),(1,true),(2,true),(3,true),(4,true),(5,true),(6,true),(7,true),(8,true),(9,true),(10,true),(11,true),(12,true),(13,true),(14,true),(15,true),(16,true),(17,true)] (by kernel_rfl) rfl ?_
  refine AL rfl rfl rfl (Bc rfl rfl rfl (AV (hc:=fun w' ⟨O',hq⟩=>Blk.cell (i:=0) ((d0.st hq (by decide)).1) rfl) rfl rfl rfl ?_))
  refine AL rfl rfl rfl ?_
  obtain ⟨w3,x2,a0⟩:=bs a0
  obtain ⟨x3,y3,y2,i1,j1,k1,l1,rfl,z3⟩:=h7.elem x2
  refine Br (hA:=i1) (hj:=rfl) (hlt:=k1) rfl rfl rfl rfl ?_
  refine AV (hc:=fun w' ⟨O',hq⟩=>cat0 (AR (hq.agree (i:=0) (by decide)) j1 l1)) rfl rfl rfl ?_
  refine Bc rfl rfl rfl (AV (hc:=fun w' ⟨O',hq⟩=>Blk.cell (i:=1) ((d0.st hq (by decide)).1) rfl) rfl rfl rfl ?_)
  refine AL rfl rfl rfl ?_
  obtain ⟨a4,z2,a0⟩:=bs a0
  obtain ⟨b4,c4,a3,m1,n1,o1,p1,d4,rfl,v0⟩:=f0.elem z2
  replace v0:=Vb.of_slice v0
  obtain ⟨e4,f4,rfl⟩:=v0.form
  refine Br (hA:=m1) (hj:=rfl) (hlt:=o1) rfl rfl rfl rfl ?_
  refine AV (hc:=fun w' ⟨O',hq⟩=>cat0 (AR (hq.agree (i:=0) (by decide)) n1 p1)) rfl rfl rfl ?_
  refine AL rfl rfl rfl (AL rfl rfl rfl ?_)
  obtain ⟨g4,h4,b3,q1,r1,s1,t1,rfl,i4⟩:=b0.elem m0
  refine Br (hA:=q1) (hj:=rfl) (hlt:=s1) rfl rfl rfl rfl ?_
  refine AV (hc:=fun w' ⟨O',hq⟩=>cat0 (AR (hq.agree (i:=0) (by decide)) r1 t1)) rfl rfl rfl ?_
  obtain ⟨c3,d3,a0⟩:=bs a0
  obtain ⟨e3,f3⟩:=AW d3
  obtain ⟨j4,k4,g3,u1,n0,v1,w1,rfl,y1⟩:=v0.elem f3
  refine Br (hA:=u1) (hj:=(Int.toNat_of_nonneg e3).symm) (hlt:=v1) rfl rfl rfl rfl ?_
  refine AV (hc:=fun w' ⟨O',hq⟩=>cat0 (AR (hq.agree (i:=0) (by decide)) n0 w1)) rfl rfl rfl ?_
  obtain ⟨h3,z1,a0⟩:=bs a0
  obtain ⟨a2,o0⟩:=AW z1
  obtain ⟨i3,j3,j2,g0,k2,p0,l2,rfl,k3⟩:=e0.elemF o0
  refine Br (hA:=g0) (hj:=(Int.toNat_of_nonneg a2).symm) (hlt:=p0) rfl rfl rfl rfl ?_
  refine AC ?_
  refine AP (i:=18) (by kernel_rfl) rfl ?_
  refine Dj rfl e0 (a:=c3) (vInt y1) g0 rfl rfl (AE o0) fun l3 c0 e0=>?_
  refine BZ (by kernel_rfl) ?_
  refine Bn (by kernel_rfl) ?_
  obtain rfl:=sm a0
  exact show Exists _ from ⟨_,(),rfl,⟨rfl,rfl,rfl,rfl,rfl,trivial⟩,_,hB.st c0,b0.st c0,d0.st c0,h7.st c0,f0.st c0,h0.st c0,e0⟩
 replace hB:=(hB.st j0).st i0
 rintro m3 b2 ⟨n3,o3,rfl,q0,p3,hB,e0⟩
 replace hm:=Be hm
 refine AO _ q0 ?_
 refine Al (Aj (Ar rfl rfl (Au rfl rfl (o_z ?_))))
 refine AJ ?_
 obtain ⟨c2,d2,e0⟩:=e0.freeze
 obtain rfl:=sm hm
 replace hB:=hB.st d2
 exact ret1v rfl (AD rfl) ⟨hB.ext,(Vb.mono (F:=Fr 0 b2 c2) e0 hB.out)⟩
end
section
open Go Go.RowKit Go.ChangeShapes Go.WideShapes Go.Deep
instance:Reads Tryz.prog 51 (List (List Int)):=readsSlice Tryz.underlying51 Ln (by decide)
instance:Reads Tryz.prog 53 Swp:=⟨fun {H enc w n cs x} h=>by
  obtain ⟨hl,m,hf⟩:=readsField Tryz.underlying53 h
  obtain ⟨v0,v1,v2,rfl⟩:=len3 (hl.trans (by kernel_rfl:Tryz.prog.cellsOf 53=3))
  obtain ⟨x0,g0⟩:=hf 0 22 0 1 rfl (by kernel_rfl)
  replace g0:DataW.trod enc Tryz.prog w 0 (fun _=>true) true m 22 [v0]=some x0:=g0
  obtain ⟨x1,g1⟩:=hf 1 51 1 1 rfl (by kernel_rfl)
  replace g1:DataW.trod enc Tryz.prog w 0 (fun _=>true) true m 51 [v1]=some x1:=g1
  obtain ⟨x2,g2⟩:=hf 2 22 2 1 rfl (by kernel_rfl)
  replace g2:DataW.trod enc Tryz.prog w 0 (fun _=>true) true m 22 [v2]=some x2:=g2
  obtain ⟨z0,q0⟩:=(inferInstance:Reads Tryz.prog 22 (List Int)).of g0
  obtain ⟨z1,q1⟩:=(inferInstance:Reads Tryz.prog 51 (List (List Int))).of g1
  obtain ⟨z2,q2⟩:=(inferInstance:Reads Tryz.prog 22 (List Int)).of g2
  exact ⟨⟨z0,z1,z2⟩,v0,v1,v2,rfl,q0,q1,q2⟩⟩
end
section
open Go Go.RowKit Go.ChangeShapes Go.WideShapes Go.Deep
theorem QE:Tryz.prog.cellsOf 53=3:=by kernel_rfl
instance:Reads Tryz.prog 27 (List Swp):=readsSlice Tryz.underlying27 QE (by decide)
end
section
open Go Go.RowKit
class TCon (P:Program) (t:TypeId):Prop where eq:∃ d,P.underlying t=some d∧(match d with|.interface _=>false|_=>true)=true
instance {P:Program} {t e:TypeId} [h:TPtr P t e]:TCon P t:=⟨⟨_,h.eq,rfl⟩⟩
instance {P:Program} {t:TypeId} [h:TAgg P t]:TCon P t:=⟨by obtain ⟨d,h1,h2⟩:=h.eq;exact ⟨d,h1,by cases d<;>first|rfl|cases h2⟩⟩
class TMth (P:Program) (t:TypeId) (name:String) (f:outParam FuncId) (b:outParam Bool):Prop where
  eq:((P.info? t).bind fun i=>i.methods.find? (·.name == name)).map (fun m=>(m.path.toList,m.func))=some ([],some (f,b))
def Mth (P:Program) (t:TypeId) (v:Value) (name:String) (w:World) (f:FuncId) (r:Value):Prop:=∀ d,(method (P.types.size + Made.depth) t v name).run P (dr w d)=.ok (f,r) (dr w d)
section
variable {P : Program} {t e : TypeId} {name : String} {f : FuncId} {w : World}
theorem TMth.row {b:Bool} (h:TMth P t name f b):∃ i m,P.info? t=some i∧i.methods.find? (·.name == name)=some m∧m.path.toList=[]∧m.func=some (f,b):=by
  obtain ⟨m,h1,h2⟩:=Option.map_eq_some_iff.1 h.eq
  obtain ⟨i,h3,h4⟩:=Option.bind_eq_some_iff.1 h1
  injection h2 with h5 h6
  exact ⟨i,m,h3,h4,h5,h6⟩
theorem My {v:Value} [hm:TMth P t name f true] [hp:TPtr P t e]:Mth P t v name w f v:=fun d=>by
  obtain ⟨i,m,h1,h2,h3,h4⟩:=hm.row
  show (method ((P.types.size + 99) + 1) t v name).run P (dr w d)=_
  rw [method]
  simp [typeInfo,h1,h2,h3,h4,follow,receiverAt,run_underlying hp.eq,Place.get]
theorem Me (ts:Array TypeId) (a:Addr) (x y:String):(Builtin.ssaWrapNilChk_ ts t #[.pointer (some a),strVal x,strVal y]).run P w=.ok (.pointer (some a)) w:=rfl
theorem Fk {ad:Addr} {u:Value} [hm:TMth P t name f false] [hp:TPtr P t e] [TOne P e] (hc:w.cell? ad=some u):Mth P t (.pointer (some ad)) name w f u:=fun d=>by
  obtain ⟨i,m,h1,h2,h3,h4⟩:=hm.row
  have h5:m.path=#[]:=by cases hm':m.path;rw [hm'] at h3;simp at h3;rw [h3]
  have hl:(load ad).run P (dr w d)=.ok u (dr w d):=by simp [load,Sem.run,JZ,hc]
  show (method ((P.types.size + 99) + 1) t _ name).run P (dr w d)=_
  rw [method]
  simp [typeInfo,h1,h2,h4,h5,follow,receiverAt,run_underlying hp.eq,Place.get,Me,asAddr,loadVar,Gu,JZ,hc]
end
section
variable {P : Program} {n : Nat} {ops : Array Oper} {Q : Post} {rest : List Oper} {l : Env} {w : World} {d : Tmp} {ty : TypeId} {pos : String} {aft : Array Edge}
theorem Mz {f:FuncId} [hf:Callable P f] {y:Operand} {name:String} {t:TypeId} {v r:Value} {xs:List Operand} {vs:List Value} {ts:Array TypeId} {R:Value→World→Prop} (hm:Mth P t v name w f r) (hy:opv l y=some (.iface t v)) (hx:opvs l xs=some vs) (hd:Nat.blt d n=true) (hc:Fn P f (r :: vs) w R)
    (h:∀ v w',R v w'→owp P n ops Q rest ((d,v) :: l) w'):owp P n ops Q (⟨some d,.call { callee:=.invoke y name,args:=xs.toArray,argTypes:=ts },ty,pos,aft,none⟩ :: rest) l w :=
  GZ fun a e ha K hK=>by
    obtain ⟨fn,h1,h2,h3⟩:=hf.eq
    have h2':¬ fn.body=none:=fun e=>by rw [e] at h2;simp at h2
    have h3' : ¬ fn.name = "runtime.NumGoroutine" := fun e => by rw [e] at h3; simp at h3
    unfold Oper.wp
    have:(execOp a.eval ⟨some d,.call { callee:=.invoke y name,args:=xs.toArray,argTypes:=ts },ty,pos,aft,none⟩).run P (dr w e)=.ok (.enter f (r :: vs).toArray) (dr w e):=by
      simp [execOp,resolve,ha.eval hy,invoke,callMethod,hm e,callFunc,h1,h2',h3',ha.evals hx]
    rw [this]
    exact (hc e).mono fun _ _ ⟨v,w₀,d',he,hw,hR⟩=>by subst he;subst hw;exact hK _ _ (h v w₀ hR _ _ (ha.put hd v))
theorem Ib {T:Nat→Prop} {f:FuncId} [Callable P f] {y:Operand} {name:String} {t:TypeId} {v r:Value} {xs:List Operand} {vs:List Value} {ts:Array TypeId} {O:Lab} {R:Value→World→Lab→Prop}
    (hc:Fn P f (r :: vs) w fun v w'=>∃ O',St T w O w' O'∧R v w' O') (hm:Mth P t v name w f r) (hy:opv l y=some (.iface t v)) (hx:opvs l xs=some vs) (hd:Nat.blt d n=true)
    (h:∀ v w' O',St T w O w' O'→R v w' O'→owp P n ops Q rest ((d,v) :: l) w'):owp P n ops Q (⟨some d,.call { callee:=.invoke y name,args:=xs.toArray,argTypes:=ts },ty,pos,aft,none⟩ :: rest) l w :=
  Mz hm hy hx hd hc fun v w' ⟨O',hS,hR⟩=>h v w' O' hS hR
theorem Ic {f:FuncId} [Callable P f] {y:Operand} {name:String} {t:TypeId} {v r:Value} {xs:List Operand} {vs:List Value} {ts:Array TypeId} {O:Lab} {A:Nat→Prop} {R:World→(Nat→Prop)→Value→Prop} (hc:Fn P f (r :: vs) w fun v w'=>Ext w w'∧R w' (upA A w w') v) (hm:Mth P t v name w f r) (hy:opv l y=some (.iface t v)) (hx:opvs l xs=some vs) (hd:Nat.blt d n=true)
    (h:∀ v w' O',St nT w O w' O'→R w' (upA A w w') v→owp P n ops Q rest ((d,v) :: l) w'):owp P n ops Q (⟨some d,.call { callee:=.invoke y name,args:=xs.toArray,argTypes:=ts },ty,pos,aft,none⟩ :: rest) l w :=
  Mz hm hy hx hd hc fun v w' ⟨hE,hR⟩=>h v w' (upO O w.heap.size fun _=>0) (hE.st O _) hR
end
def quoT (a b:Int):Option Int:=if 0 < b then some (if 0≤a then a / b else -((-a) / b)) else none
theorem MA {a b r:Int} (h:quoT a b=some r) (ha:inI64 a):inI64 r:=by
  unfold quoT at h
  split at h
  · rename_i hb
    rw [← sm h]
    unfold inI64 at *
    split
    · rename_i h0
      have:=Int.ediv_le_self b h0
      have:=Int.ediv_nonneg h0 (show 0≤b by omega)
      omega
    · have h0:0≤-a:=by omega
      have:=Int.ediv_le_self b h0
      have:=Int.ediv_nonneg h0 (show 0≤b by omega)
      omega
  · cases h
theorem QF {P:Program} {l:Env} {w:World} {dst:Option Tmp} {ty:TypeId} {pos:String} {aft:Array Edge} {t u:TypeId} {x y:Operand} {a b c:Int} (hx:opv l x=some (.int .i64 a)) (hy:opv l y=some (.int .i64 b)) (he:quoT a b=some c) (hr:inI64 a):Ev P ⟨dst,.binOp .quo t x y u,ty,pos,aft,none⟩ l w (.int .i64 c):=fun _ _ d ha=>by
  have hc:=MA he hr
  unfold quoT at he
  split at he
  · rename_i hb
    have hn:b≠0:=by omega
    have h1:a.tdiv b=c:=by
      rw [← sm he]
      split
      · rename_i h0;exact Int.tdiv_eq_ediv_of_nonneg h0
      · rw [← Int.tdiv_eq_ediv_of_nonneg (show 0≤-a by omega),Int.neg_tdiv,Int.neg_neg]
    simp [execOp,ha.eval hx,ha.eval hy,eqGuard,binOp,Op.intDiv,hn,h1,wrap_i64 hc.1 hc.2]
  · cases he
structure An (t:TypeId) (α:Type) where
  x:α
instance {t:TypeId} {α:Type} [Rp α]:Rp (An t α) where
  isAgg:=false
  size:=1
  R w F cs a:=∃ v,cs=[.iface t v]∧Vb w F v a.x
  len:=by rintro w F cs x ⟨v,rfl,_⟩;rfl
  one:=by
    rintro w F cs x ⟨v,rfl,_⟩ u hu
    have:u=.iface t v:=by simpa using hu
    subst this;rfl
  agree:=by rintro w w' F cs x ⟨v,rfl,h⟩ ha;exact ⟨v,rfl,h.agree ha⟩
  mono:=by rintro w F G cs x ⟨v,rfl,h⟩ ha;exact ⟨v,rfl,h.mono ha⟩
theorem Vb.any {w:World} {F:Nat→Prop} {v:Value} {t:TypeId} {α:Type} [Rp α] {x:An t α} (h:Vb w F v x):∃ u,v=.iface t u∧Vb w F u x.x:=by
  obtain ⟨u,hu,h'⟩:=h
  exact ⟨u,by simpa using hu,h'⟩
theorem vAny {w:World} {F:Nat→Prop} {v:Value} {t:TypeId} {α:Type} [Rp α] {x:α} (h:Vb w F v x):Vb w F (.iface t v) (⟨x⟩:An t α):=⟨v,rfl,h⟩
section
variable {P : Program} {l : Env} {w : World} {dst : Option Tmp} {ty : TypeId} {pos : String} {aft : Array Edge}
theorem Ny {t:TypeId} [hk:TCon P t] {x:Operand} {v:Value} (hx:opv l x=some v):Ev P ⟨dst,.makeInterface t x,ty,pos,aft,none⟩ l w (.iface t v):=fun _ a d ha=>by
  obtain ⟨q,h1,h2⟩:=hk.eq
  cases q<;>first|(cases h2;done)|simp [execOp,ha.eval hx,Instr.makeInterface,run_underlying h1]
theorem QG {s t:TypeId} [hk:TCon P t] {x:Operand} {v:Value} (hx:opv l x=some (.iface t v)):Ev P ⟨dst,.typeAssert x s t true,ty,pos,aft,none⟩ l w (.tuple #[v,.bool true]):=fun _ a d ha=>by
  obtain ⟨q,h1,h2⟩:=hk.eq
  cases q<;>first|(cases h2;done)|simp [execOp,ha.eval hx,Instr.typeAssert,run_underlying h1]
end
section
variable {P : Program} {n : Nat} {ops : Array Oper} {Q : Post} {S : World → Prop} {rest : List Oper} {r : List (Nat × Bool)} {l : Env} {w : World} {d i : Nat} {ty : TypeId} {pos : String} {aft : Array Edge}
theorem Rk {t u:TypeId} {x y:Operand} {a b c:Int} (hx:opv l x=some (.int .i64 a)) (hy:opv l y=some (.int .i64 b)) (hd:Nat.blt d n=true) (h:owp P n ops Q rest ((d,.int .i64 c) :: l) w) (he:quoT a b=some c:=by assumption) (hr:inI64 a:=by assumption):owp P n ops Q (⟨some d,.binOp .quo t x y u,ty,pos,aft,none⟩ :: rest) l w:=By (QF hx hy he hr) hd h
theorem Pq {t:TypeId} [TCon P t] {x:Operand} {v:Value} (hx:opv l x=some v) (hd:Nat.blt d n=true) (h:owp P n ops Q rest ((d,.iface t v) :: l) w):owp P n ops Q (⟨some d,.makeInterface t x,ty,pos,aft,none⟩ :: rest) l w:=By (Ny hx) hd h
theorem Pr {t:TypeId} [TCon P t] {x:Operand} {v:Value} (hi:ops[i]?=some ⟨some d,.makeInterface t x,ty,pos,aft,none⟩) (hx:opv l x=some v) (hd:Nat.blt d n=true) (h:hwp P n ops Q S r ((d,.iface t v) :: l) w):hwp P n ops Q S ((i,true) :: r) l w:=AA hi (BC (fun _ _=>Ny hx) hd h)
theorem Ps {s t:TypeId} [TCon P t] {x:Operand} {v:Value} (hx:opv l x=some (.iface t v)) (hd:Nat.blt d n=true) (h:owp P n ops Q rest ((d,.tuple #[v,.bool true]) :: l) w):owp P n ops Q (⟨some d,.typeAssert x s t true,ty,pos,aft,none⟩ :: rest) l w:=By (QG hx) hd h
end
end
section
open Go Go.RowKit
structure Cx where
  ty:TypeId
  pre:List Value
  post:List Value
structure BxC (cx:Cx) (e:TypeId) (α:Type) where
  l:List α
def BxR.c (cx:Cx) {t e:TypeId} {α:Type} (x:BxR t e α):BxC cx e α:=⟨x.l⟩
instance {cx:Cx} {e:TypeId} {α:Type} [Rp α]:Ow (BxC cx e α) where
  R w F M v x:=∃ (g:Nat) (L:Lab) (c0:Value),v=.pointer (some ⟨g,cx.pre.length,none⟩)∧Blk w g cx.ty (cx.pre ++ c0 :: cx.post)∧M g∧L g=0∧RwM w F (fun k=>M k∧L k=1) e c0 x.l
  agree:=by rintro w w' F M v x ⟨g,L,c0,rfl,hb,hM,hL,h0⟩ a1 a2;exact ⟨g,L,c0,rfl,hb.keep (a2 g hM),hM,hL,h0.agree a1 fun k hk=>a2 k hk.1⟩
  mono:=by rintro w F M F' M' v x ⟨g,L,c0,rfl,hb,hM,hL,h0⟩ a1 a2 a3;exact ⟨g,L,c0,rfl,hb,a2 g hM,hL,h0.mono a1 (fun k hk=>⟨a2 k hk.1,hk.2⟩) fun k hf hm=>a3 k hf hm.1⟩
theorem BxC.opn {cx:Cx} {t e:TypeId} {α:Type} [Rp α] {i:Nat} {w:World} {O:Lab} {p:Nat} {x:BxR t e α} (h:Ob i w O (.pointer (some ⟨p,cx.pre.length,none⟩)) (BxR.c cx x)) (l0 l1:Nat) (hl:l0≠0∧l1≠0):∃ (O':Lab) (c0:Value),St (eT i) w O w O'∧(∀ k,Fr i w O k→∃ q,q∈[l0,l1]∧Fr q w O' k)∧Lc l0 w O' p cx.ty (cx.pre ++ c0 :: cx.post)∧Rw l1 w O' e c0 x.l:=by
  obtain ⟨⟨g,L,c0,hv,hb,hM,hL,h0⟩,hi⟩:=h
  obtain rfl:p=g:=by injection hv with hv;injection hv with hv;injection hv
  exact ⟨part O i L [l0,l1],c0,Mv hi,Lq (by simp),⟨hb,(Gs (j:=0) rfl p ⟨hM,hL⟩).2⟩,h0.rw (Er hi) (Gs (j:=1) rfl) hl.2⟩
theorem BxC.shut {cx:Cx} {t e:TypeId} {α:Type} [Rp α] {w:World} {O:Lab} {p:Nat} {x:BxR t e α} {l0 l1:Nat} {c0:Value} (hd:¬ 0∈[l0,l1]∧[l0,l1].idxOf l0=0∧[l0,l1].idxOf l1=1) (hb:Lc l0 w O p cx.ty (cx.pre ++ c0 :: cx.post)) (h0:Rw l1 w O e c0 x.l):∃ O',St (·∈[l0,l1]) w O w O'∧(∀ k,Fr 0 w O k→Fr 0 w O' k)∧(∀ q,q∈[l0,l1]→∀ k,Fr q w O k→Fr l0 w O' k)∧Ob l0 w O' (.pointer (some ⟨p,cx.pre.length,none⟩)) (BxR.c cx x):=by
  have hb1:l0≠0:=fun e=>hd.1 (by simp [e])
  have hg:=FC (i:=l0) hd.2.1 (by simp) p ⟨hb.1.lt,hb.2⟩
  exact ⟨whole O l0 [l0,l1],Lr,Dk hd.1,Kr,⟨p,fun k=>[l0,l1].idxOf (O k),c0,rfl,hb.1,hg.1,hg.2,h0.m (Dk hd.1) (FC hd.2.2 (by simp)) (fun k a b=>frNe0 hb1 k a b.1)⟩,hb1⟩
theorem cxcell {cx:Cx} {w:World} {g:Nat} {c:Value} (h:Blk w g cx.ty (cx.pre ++ c :: cx.post)):w.cell? ⟨g,cx.pre.length,none⟩=some c:=h.cell (by simp)
theorem MB {α:Type} (v c:α) (post:List α):∀ (pre:List α),(pre ++ c :: post).set pre.length v=pre ++ v :: post
  | []=>rfl
  | x :: pre=>by simp [MB v c post pre]
section
variable {P : Program} {n : Nat} {ops : Array Oper} {Q : Post} {rest : List Oper} {l : Env} {w : World} {ty : TypeId} {pos : String} {aft : Array Edge}
theorem Ly {i:Nat} {O:Lab} {cx:Cx} {t:TypeId} {z:Value} {bytes:Nat} [TInfo P t z 1 bytes] {x y:Operand} {g:Nat} {c v:Value} (hL:Lc i w O g cx.ty (cx.pre ++ c :: cx.post)) (hx:opv l x=some (.pointer (some ⟨g,cx.pre.length,none⟩))) (hy:opv l y=some v)
    (hsz:v.cells.toList=[v]) (h1:∀ u∈v.cells.toList,u.oneCell'=true)
    (h:∀ w',St (eT i) w O w' O→Lc i w' O g cx.ty (cx.pre ++ v :: cx.post)→owp P n ops Q rest l w'):owp P n ops Q (⟨none,.store t x y,ty,pos,aft,none⟩ :: rest) l w:=by
  refine AZ hL hx hy (by rw [hsz];rfl) (by simp) h1 fun w' hS hL'=>h w' hS ?_
  rw [hsz] at hL'
  have e:setFrom (cx.pre ++ c :: cx.post) cx.pre.length [v]=cx.pre ++ v :: cx.post:=by
    show (cx.pre ++ c :: cx.post).set cx.pre.length v=_
    rw [MB]
  rwa [e] at hL'
end
end
section
open Go Go.RowKit
class TMap (P:Program) (t:TypeId) (k e:outParam TypeId):Prop where eq:P.underlying t=some (.map k e)
class MKey (K:Type) where
  dec:DecidableEq K
  enc:K→Value
  desc:TypeDesc
  key:∀ a,MapKept.IsKey desc (enc a)
  inj:∀ a b,enc a=enc b→a=b
class TKey (P:Program) (t:TypeId) (K:Type) [MKey K]:Prop where eq:P.underlying t=some (MKey.desc K)
instance:MKey ByteArray where
  dec:=inferInstance
  enc a:=.string a
  desc:=.string
  key _:=trivial
  inj _ _ h:=by injection h
section
variable {K V : Type} [MKey K]
instance keyDec:DecidableEq K:=MKey.dec
def mhas:List (K×V)→K→Bool
  | [],_=>false
  | p :: r,k=>if p.1=k then true else mhas r k
def mget (z:V):List (K×V)→K→V
  | [],_=>z
  | p :: r,k=>if p.1=k then p.2 else mget z r k
def mput:List (K×V)→K→V→List (K×V)
  | [],k,v=>[(k,v)]
  | p :: r,k,v=>if p.1=k then (k,v) :: r else p :: mput r k v
def midx:List (K×V)→K→Option Nat
  | [],_=>none
  | p :: r,k=>if p.1=k then some 0 else (midx r k).map (· + 1)
theorem FT (a:K):∀ (es:List MapEntry) (x:List (K×V)) (i:Nat),es.map (·.key)=x.map (fun p=>MKey.enc p.1) →
    (midx x a=none∧Instr.findNow (MKey.desc K) (MKey.enc a) es i=some none∧mhas x a=false∧(∀ z,mget z x a=z)∧∀ v,mput x a v=x ++ [(a,v)]) ∨
    ∃ j e p,midx x a=some j∧es[j]?=some e∧x[j]?=some p∧Instr.findNow (MKey.desc K) (MKey.enc a) es i=some (some (i + j,e.val))∧e.key=MKey.enc a∧mhas x a=true∧(∀ z,mget z x a=p.2)∧∀ v,mput x a v=x.set j (a,v)
  | [],[],_,_=>.inl ⟨rfl,rfl,rfl,fun _=>rfl,fun _=>rfl⟩
  | [],_ :: _,_,h=>by simp at h
  | _ :: _,[],_,h=>by simp at h
  | e :: es,p :: x,i,h=>by
    rw [List.map_cons,List.map_cons] at h
    injection h with h1 h2
    obtain ⟨r,hr,hiff⟩:=MapKept.sameNow_of_keys (MKey.key a) (MKey.key p.1)
    by_cases hp:p.1=a
    · have:r=true:=hiff.2 (by rw [hp])
      subst this
      refine .inr ⟨0,e,p,by simp [midx,hp],rfl,rfl,?_,by rw [h1,hp],by simp [mhas,hp],fun z=>by simp [mget,hp],fun v=>by simp [mput,hp]⟩
      simp [Instr.findNow,h1,hr]
    · have:r=false:=by
        cases r with
        | false=>rfl
        | true=>exact absurd (MKey.inj _ _ (hiff.1 rfl)).symm hp
      subst this
      rcases FT a es x (i + 1) h2 with ⟨g0,g1,g2,g3,g4⟩|⟨j,e',p',g0,g1,g2,g3,g4,g5,g6,g7⟩
      · exact .inl ⟨by simp [midx,hp,g0],by simp [Instr.findNow,h1,hr,g1],by simp [mhas,hp,g2],fun z=>by simp [mget,hp,g3],fun v=>by simp [mput,hp,g4]⟩
      · refine .inr ⟨j + 1,e',p',by simp [midx,hp,g0],by simpa using g1,by simpa using g2,?_,g4,by simp [mhas,hp,g5],fun z=>by simp [mget,hp,g6],fun v=>by simp [mput,hp,g7]⟩
        simp [Instr.findNow,h1,hr,g3];omega
end
def LkV (d:TypeDesc) (z:Value) (w:World) (r:Nat) (key v:Value) (b:Bool):Prop:=∃ es ck a,w.heap[r]?=some (.map es ck)∧Instr.findNow d key es.toList 0=some a∧v=(match a with|some p=>p.2|none=>z)∧b=a.isSome
section
variable {P : Program} {l : Env} {w : World} {dst : Option Tmp} {ty : TypeId} {pos : String} {aft : Array Edge}
theorem QH {K:Type} [MKey K] {t k e:TypeId} [ht:TMap P t k e] [hk:TKey P k K] {z:Value} {size bytes:Nat} [TInfo P e z size bytes] {x y:Operand} {r:Nat} {a:K} {v:Value} {b:Bool} (hx:opv l x=some (.map (some r))) (hy:opv l y=some (MKey.enc a)) (hv:LkV (MKey.desc K) z w r (MKey.enc a) v b) :
    Ev P ⟨dst,.lookup t x y true,ty,pos,aft,none⟩ l w (.tuple #[v,.bool b]):=fun _ _ d ha=>by
  obtain ⟨es,ck,q,h1,h2,h3,h4⟩:=hv
  have hb:(dr w d).heap[r]?=some (.map es ck):=h1
  subst h3;subst h4
  cases q with
  | none=>simp [execOp,ha.eval hx,ha.eval hy,Instr.lookup,run_underlying ht.eq,MapKept.run_getObj_map hb,MapKept.run_checkKey hk.eq (MKey.key a),MapKept.run_findKey hk.eq h2,Result.andThen,Hj (P:=P) (t:=e)]
  | some p=>simp [execOp,ha.eval hx,ha.eval hy,Instr.lookup,run_underlying ht.eq,MapKept.run_getObj_map hb,MapKept.run_checkKey hk.eq (MKey.key a),MapKept.run_findKey hk.eq h2,Result.andThen]
end
def putEs (es:List MapEntry) (ck:Nat) (key v:Value):Option Nat→List MapEntry
  | none=>es ++ [{ key:=key,val:=v,born:=ck }]
  | some j=>es.modify j fun e=>{ e with key:=key,val:=v }
section
variable {P : Program} {n : Nat} {ops : Array Oper} {Q : Post} {rest : List Oper} {l : Env} {w : World} {d : Tmp} {ty : TypeId} {pos : String} {aft : Array Edge}
theorem Ov {K V:Type} [MKey K] {t k e:TypeId} [ht:TMap P t k e] [hk:TKey P k K] {x y u:Operand} {r ck:Nat} {a:K} {v:Value} {es:List MapEntry} {xs:List (K×V)} (hb:w.heap[r]?=some (.map es.toArray ck)) (hks:es.map (·.key)=xs.map (fun p=>MKey.enc p.1)) (hx:opv l x=some (.map (some r))) (hy:opv l y=some (MKey.enc a)) (hu:opv l u=some v)
    (h:∀ w' ck',w'.os=w.os→w'.tape=w.tape→w'.output=w.output→w'.heap.size=w.heap.size→w'.heap[r]?=some (.map (putEs es ck (MKey.enc a) v (midx xs a)).toArray ck')→(∀ q,q≠r→w'.heap[q]?=w.heap[q]?)→owp P n ops Q rest l w'):owp P n ops Q (⟨none,.mapUpdate t x y u,ty,pos,aft,none⟩ :: rest) l w:=fun ac d ha=>by
  refine wpList_plain rfl fun K' hK=>?_
  have hbd:(dr w d).heap[r]?=some (.map es.toArray ck):=hb
  unfold Oper.wp
  rcases FT a es xs 0 hks with ⟨g0,g1,_⟩|⟨j,e',p,g0,g1,g2,g3,g4,_⟩
  · have hr:(execOp ac.eval ⟨none,.mapUpdate t x y u,ty,pos,aft,none⟩).run P (dr w d)=.ok .skip { (dr w d) with heap:=(dr w d).heap.setIfInBounds r (.map (es.toArray.push { key:=MKey.enc a,val:=v,born:=ck }) (ck + 1)) }:=by
      simp [execOp,ha.eval hx,ha.eval hy,ha.eval hu,Instr.mapUpdate,run_underlying ht.eq,MapKept.run_getObj_map hbd,MapKept.run_checkKey hk.eq (MKey.key a),MapKept.run_findKey hk.eq g1,MapKept.run_setObj_map _ hbd,Result.andThen]
    rw [hr]
    refine hK _ _ (h { w with heap:=w.heap.setIfInBounds r (.map (es.toArray.push { key:=MKey.enc a,val:=v,born:=ck }) (ck + 1)) } (ck + 1) rfl rfl rfl (by simp) ?_ (fun q hq=>(MapKept.heap_set hb).2 q hq) _ d ha)
    rw [g0]
    simpa [putEs] using (MapKept.heap_set hb).1
  · have hj:es.toArray[j]?=some e':=by simpa using g1
    have hj':es[j]?=some e':=g1
    rw [Nat.zero_add] at g3
    have hr:(execOp ac.eval ⟨none,.mapUpdate t x y u,ty,pos,aft,none⟩).run P (dr w d)=.ok .skip { (dr w d) with heap:=(dr w d).heap.setIfInBounds r (.map (es.toArray.modify j fun e=>{ e with key:=MKey.enc a,val:=v }) ck) }:=by
      simp [execOp,ha.eval hx,ha.eval hy,ha.eval hu,Instr.mapUpdate,run_underlying ht.eq,MapKept.run_getObj_map hbd,MapKept.run_checkKey hk.eq (MKey.key a),MapKept.run_findKey hk.eq g3,hj',g4,MapKept.run_keyThatStays (MKey.key a),MapKept.run_setObj_map _ hbd,Result.andThen]
    rw [hr]
    refine hK _ _ (h { w with heap:=w.heap.setIfInBounds r (.map (es.toArray.modify j fun e=>{ e with key:=MKey.enc a,val:=v }) ck) } ck rfl rfl rfl (by simp) ?_ (fun q hq=>(MapKept.heap_set hb).2 q hq) _ d ha)
    rw [g0]
    have:=(MapKept.heap_set (o':=.map (es.toArray.modify j fun e=>{ e with key:=MKey.enc a,val:=v }) ck) hb).1
    simpa [putEs] using this
theorem Nz {t:TypeId} (hd:Nat.blt d n=true) (h:∀ w',Ext w w'→w'.heap.size=w.heap.size + 1→w'.heap[w.heap.size]?=some (.map #[] 0)→owp P n ops Q rest ((d,.map (some w.heap.size)) :: l) w'):owp P n ops Q (⟨some d,.makeMap t none,ty,pos,aft,none⟩ :: rest) l w :=
  Ha (w':=w.alloc (.map #[] 0)) (fun a e ha=>.inl ⟨.map (some w.heap.size),e,by simp [execOp,Instr.makeMap];exact ⟨rfl,rfl⟩,ha.put hd _⟩)
    (h _ ((Below.refl _ _).alloc (Nat.le_refl _) _) (by simp) (by show (w.heap.push _)[_]?=_;simp))
end
theorem MW {K V:Type} [MKey K] {es:List MapEntry} {xs:List (K×V)} (ck:Nat) (a:K) (v:Value) (y:V) (h:es.map (·.key)=xs.map (fun p=>MKey.enc p.1)):(putEs es ck (MKey.enc a) v (midx xs a)).map (·.key)=(mput xs a y).map (fun p=>MKey.enc p.1):=by
  rcases FT a es xs 0 h with ⟨g0,_,_,_,g4⟩|⟨j,e',p,g0,g1,g2,g3,g4,_,_,g7⟩
  · rw [g0,g4];simp [putEs,h]
  · rw [g0,g7]
    simp only [putEs,List.map_set,← h]
    apply List.ext_getElem?
    intro q
    rw [List.getElem?_map,List.getElem?_modify,List.getElem?_set]
    by_cases hq:j=q
    · subst hq
      have hlt:j < es.length:=AE g1
      simp [g1,hlt]
    · simp [hq]
structure MapP (K V:Type) where
  l:List (K×V)
def VA {V:Type} [Rp V] (w:World) (F:Nat→Prop) (es:List MapEntry) {K:Type} (xs:List (K×V)):Prop:=∀ (j:Nat) (e:MapEntry) (p:K×V),es[j]?=some e→xs[j]?=some p→Vb w F e.val p.2
instance {K V:Type} [MKey K] [Rp V]:Ow (MapP K V) where
  R w F M v x:=∃ (r:Nat) (es:List MapEntry) (ck:Nat),v=.map (some r)∧w.heap[r]?=some (.map es.toArray ck)∧M r∧es.map (·.key)=x.l.map (fun p=>MKey.enc p.1)∧VA w F es x.l
  agree:=by rintro w w' F M v x ⟨r,es,ck,rfl,hb,hM,hk,hv⟩ a1 a2;exact ⟨r,es,ck,rfl,(a2 r hM).trans hb,hM,hk,fun j e p h1 h2=>(hv j e p h1 h2).agree a1⟩
  mono:=by rintro w F M F' M' v x ⟨r,es,ck,rfl,hb,hM,hk,hv⟩ a1 a2 a3;exact ⟨r,es,ck,rfl,hb,a2 r hM,hk,fun j e p h1 h2=>(hv j e p h1 h2).mono a1⟩
class OwM (α:Type) [Ow α]:Prop where
  mptr:∀ {w:World} {F M:Nat→Prop} {v:Value} {x:α},Ow.R w F M v x→∃ r,v=.map (some r)
theorem Ob.mptr {α:Type} [Ow α] [OwM α] {i:Nat} {w:World} {O:Lab} {v:Value} {x:α} (h:Ob i w O v x):∃ r,v=.map (some r):=OwM.mptr h.1
instance {K V:Type} [MKey K] [Rp V]:OwM (MapP K V):=⟨by rintro w F M v x ⟨r,es,ck,rfl,_⟩;exact ⟨r,rfl⟩⟩
theorem VA.put {K V:Type} [MKey K] [Rp V] {w:World} {F:Nat→Prop} {es:List MapEntry} {xs:List (K×V)} {ck:Nat} {a:K} {v:Value} {y:V} (hk:es.map (·.key)=xs.map (fun p=>MKey.enc p.1)) (h:VA w F es xs) (hv:Vb w F v y):VA w F (putEs es ck (MKey.enc a) v (midx xs a)) (mput xs a y):=by
  have hlen:es.length=xs.length:=by have:=congrArg List.length hk;simpa using this
  intro q e p h1 h2
  rcases FT a es xs 0 hk with ⟨g0,_,_,_,g4⟩|⟨j,e',p',g0,g1,g2,g3,g4,_,_,g7⟩
  · rw [g0] at h1
    rw [g4] at h2
    simp only [putEs] at h1
    by_cases hq:q < es.length
    · rw [List.getElem?_append_left hq] at h1
      rw [List.getElem?_append_left (by omega)] at h2
      exact h q e p h1 h2
    · rw [List.getElem?_append_right (by omega)] at h1
      rw [List.getElem?_append_right (by omega)] at h2
      cases hz:q - es.length with
      | zero =>
        rw [hz] at h1
        rw [show q - xs.length=0 from by omega] at h2
        simp at h1 h2
        subst h1;subst h2
        exact hv
      | succ m=>rw [hz] at h1;simp at h1
  · rw [g0] at h1
    rw [g7] at h2
    simp only [putEs] at h1
    rw [List.getElem?_modify] at h1
    rw [List.getElem?_set] at h2
    by_cases hq:j=q
    · subst hq
      have hlt:=AE g2
      rw [g1] at h1
      simp [hlt] at h1 h2
      subst h1;subst h2
      exact hv
    · simp [hq] at h1 h2
      exact h q e p h1 h2
section
variable {K V : Type} [MKey K] [Rp V] {i : Nat} {w : World} {O : Lab} {r : Nat} {x : MapP K V}
theorem MapP.get (h:Ob i w O (.map (some r)) x) (a:K) {z:Value} {z0:V} (hz:Vb w (Fr 0 w O) z z0):∃ v,LkV (MKey.desc K) z w r (MKey.enc a) v (mhas x.l a)∧Vb w (Fr 0 w O) v (mget z0 x.l a):=by
  obtain ⟨⟨r',es,ck,hv,hb,hM,hk,hva⟩,_⟩:=h
  injection hv with hv
  injection hv with hv
  subst hv
  rcases FT a es x.l 0 hk with ⟨g0,g1,g2,g3,g4⟩|⟨j,e',p,g0,g1,g2,g3,g4,g5,g6,g7⟩
  · exact ⟨z,⟨_,ck,none,hb,by simpa using g1,rfl,g2⟩,by rw [g3];exact hz⟩
  · exact ⟨e'.val,⟨_,ck,some (0 + j,e'.val),hb,by simpa using g3,rfl,g5⟩,by rw [g6];exact hva j e' p g1 g2⟩
end
section
variable {P : Program} {n : Nat} {ops : Array Oper} {Q : Post} {rest : List Oper} {l : Env} {w : World} {d : Tmp} {ty : TypeId} {pos : String} {aft : Array Edge} {K V : Type} [MKey K] {i : Nat} {O : Lab} {r : Nat}
theorem QI [Rp V] {x:MapP K V} {t k e:TypeId} [TMap P t k e] [TKey P k K] {m y u:Operand} {a:K} {v:Value} {b:V} (hM:Ob i w O (.map (some r)) x) (hv:Vb w (Fr 0 w O) v b) (hx:opv l m=some (.map (some r))) (hy:opv l y=some (MKey.enc a)) (hu:opv l u=some v)
    (h:∀ w',St (eT i) w O w' O→Ob i w' O (.map (some r)) (⟨mput x.l a b⟩:MapP K V)→owp P n ops Q rest l w'):owp P n ops Q (⟨none,.mapUpdate t m y u,ty,pos,aft,none⟩ :: rest) l w:=by
  obtain ⟨⟨r',es,ck,hv',hb,hM',hk,hva⟩,hi⟩:=hM
  injection hv' with hv'
  injection hv' with hv'
  subst hv'
  refine Ov hb hk hx hy hu fun w' ck' e1 e2 e3 e4 e5 e6=>?_
  have hS:St (eT i) w O w' O:=⟨e1,e2,e3,by omega,fun q hq hT=>⟨e6 q fun e=>hT (by rw [e];exact hM'.2),rfl⟩⟩
  have h0:¬ (eT i) 0:=fun e=>hi e.symm
  refine h w' hS ⟨⟨r,_,ck',rfl,e5,⟨by rw [e4];exact hM'.1,hM'.2⟩,MW ck a v b hk,?_⟩,hi⟩
  have:=hva.put (ck:=ck) hk hv (a:=a)
  exact fun j e p h1 h2=>((this j e p h1 h2).agree (hS.agree h0)).mono (hS.fr h0)
theorem PD [Rp V] {t:TypeId} (i:Nat) (hi:i≠0) (O:Lab) (hd:Nat.blt d n=true) (h:∀ g w' O',St nT w O w' O'→Ob i w' O' (.map (some g)) (⟨[]⟩:MapP K V)→owp P n ops Q rest ((d,.map (some g)) :: l) w'):owp P n ops Q (⟨some d,.makeMap t none,ty,pos,aft,none⟩ :: rest) l w :=
  Nz hd fun w' hE hs hb=>h _ w' _ (hE.st O fun _=>i) ⟨⟨w.heap.size,[],0,rfl,hb,⟨by omega,ER (Nat.le_refl _)⟩,rfl,fun j e p h1 _=>by simp at h1⟩,hi⟩
end
section
variable {P : Program} {n : Nat} {ops : Array Oper} {Q : Post} {rest : List Oper} {l : Env} {w : World} {d : Tmp} {ty : TypeId} {pos : String} {aft : Array Edge} {S : World → Prop} {rr : List (Nat × Bool)} {i' : Nat}
theorem Rl {K:Type} [MKey K] {t k e:TypeId} [TMap P t k e] [TKey P k K] {z:Value} {size bytes:Nat} [TInfo P e z size bytes] {x y:Operand} {r:Nat} {v:Value} {b:Bool} (a:K) (hv:LkV (MKey.desc K) z w r (MKey.enc a) v b) (hx:opv l x=some (.map (some r))) (hy:opv l y=some (MKey.enc a)) (hd:Nat.blt d n=true) (h:owp P n ops Q rest ((d,.tuple #[v,.bool b]) :: l) w):owp P n ops Q (⟨some d,.lookup t x y true,ty,pos,aft,none⟩ :: rest) l w:=By (QH hx hy hv) hd h
end
end
section
open Go Go.RowKit
attribute [local irreducible] ewp owp hwp hwq hws Ev Evg Fn retPost loud loudS Res1
attribute [local irreducible] hwx loudX
structure OEn where
  cost:Int
  number:Int
  node:Int
instance:Rp OEn where
  isAgg:=true
  size:=3
  R w F cs x:=cs=[.int .i64 x.cost,.int .i64 x.number,.int .i64 x.node]∧inI64 x.cost∧inI64 x.number∧inI64 x.node
  len:=by rintro w F cs x ⟨rfl,h0,h1,h2⟩;rfl
  one:=by rintro w F cs x ⟨rfl,h0,h1,h2⟩ u hu;simp at hu;rcases hu with rfl|rfl|rfl<;>first|rfl|exact Vb.one rfl (by assumption)
  agree:=by rintro w w' F cs x ⟨rfl,h0,h1,h2⟩ ha;exact ⟨rfl,h0,h1,h2⟩
  mono:=by rintro w F G cs x ⟨rfl,h0,h1,h2⟩ ha;exact ⟨rfl,h0,h1,h2⟩
instance : TMth Tryz.prog 76 "Len" 26 false := ⟨by kernel_rfl⟩
instance : TMth Tryz.prog 76 "Less" 155 false := ⟨by kernel_rfl⟩
instance : TMth Tryz.prog 76 "Pop" 157 true := ⟨by kernel_rfl⟩
instance : TMth Tryz.prog 76 "Push" 158 true := ⟨by kernel_rfl⟩
instance : TMth Tryz.prog 76 "Swap" 156 false := ⟨by kernel_rfl⟩
noncomputable def BY (x0:List OEn):Option Int :=
  some (x0.length:Int)
theorem Ff {w:World} {A:Nat→Prop} (hA:∀ k,A k→k < w.heap.size) {vx0:Value} {x0:List OEn} (a0:Vb w A vx0 x0) {r:Int} (hm:BY x0=some r) :
    Fn Tryz.prog 26 [vx0] w fun v w'=>Ext w w'∧Vb w' (upA A w w') v r:=by
 obtain ⟨O,hB,b0⟩:=enter hA
 replace a0:=a0.mono b0
 obtain ⟨A2,c3,rfl⟩:=a0.form
 refine AK Tryz.func26 rfl Tryz.ntmps26 rfl ?_
 unfold BY at hm
 refine Al (Aj (Au rfl rfl (o_z ?_)))
 refine Al (Aj (Ar rfl rfl (AY rfl rfl ?_)))
 have l5:x0.length≤9223372036854775807:=Nat.le_trans a0.len.2.1 a0.len.2.2
 have r4:inI64 (x0.length:Int):=rngNat l5
 refine Au rfl rfl (o_z ?_)
 refine AJ ?_
 obtain rfl:=sm hm
 exact ret1v rfl (AD rfl) ⟨hB.ext,(vInt r4)⟩
noncomputable def Cd (x0:List OEn) (x1:Int) (x2:Int):Option Bool :=
  bnd (atI x0 x1) fun a6=>bnd (atI x0 x2) fun a20=>if a6.cost≠a20.cost then (bnd (bnd (atI x0 x1) fun a39=>bnd (atI x0 x2) fun a53=>if a39.cost < a53.cost then (some true) else (some false):Option Bool) fun y35=>some y35) else (bnd (bnd (atI x0 x1) fun a76=>bnd (atI x0 x2) fun a90=>if a76.number < a90.number then (some true) else (some false):Option Bool) fun y72=>some y72)
theorem EU {w:World} {A:Nat→Prop} (hA:∀ k,A k→k < w.heap.size) {vx0:Value} {x0:List OEn} (c0:Vb w A vx0 x0) {x1:Int} (rx1:inI64 x1) {x2:Int} (rx2:inI64 x2) {r:Bool} (hm:Cd x0 x1 x2=some r) :
    Fn Tryz.prog 155 [vx0,(.int .i64 x1),(.int .i64 x2)] w fun v w'=>Ext w w'∧Vb w' (upA A w w') v r:=by
 obtain ⟨O,hB,b1⟩:=enter hA
 replace c0:=c0.mono b1
 obtain ⟨A4,c5,rfl⟩:=c0.form
 refine AK Tryz.func155 rfl Tryz.ntmps155 rfl ?_
 unfold Cd at hm
 refine Al (Aj (Au rfl rfl (o_z ?_)))
 refine Al (Al (Ce (·=w) [(0,true),(1,true),(2,true),(3,true),(4,true),(5,true),(6,true),(7,true),(8,true),(9,true),(10,true)] (by kernel_rfl) rfl (by kernel_rfl) rfl ?_))
 refine AL rfl rfl rfl (AL rfl rfl rfl ?_)
 obtain ⟨a6,e7,hm⟩:=bs hm
 obtain ⟨p9,x8⟩:=AW e7
 obtain ⟨i2,j2,c1,f0,g0,h0,rfl,k2,l2,m2⟩:=c0.elem' x8
 refine Br (hA:=f0) (hj:=(Int.toNat_of_nonneg p9).symm) (hlt:=g0) rfl rfl rfl rfl ?_
 refine Bc rfl rfl rfl (Cw (hc:=cat0 h0) rfl rfl rfl ?_)
 refine AL rfl rfl rfl (AL rfl rfl rfl ?_)
 obtain ⟨n2,d1,hm⟩:=bs hm
 obtain ⟨e1,f1⟩:=AW d1
 obtain ⟨o2,p2,g1,i0,j0,k0,rfl,q2,r2,s2⟩:=c0.elem' f1
 refine Br (hA:=i0) (hj:=(Int.toNat_of_nonneg e1).symm) (hlt:=j0) rfl rfl rfl rfl ?_
 refine Bc rfl rfl rfl (Cw (hc:=cat0 k0) rfl rfl rfl ?_)
 refine Hm rfl rfl rfl rfl (fun l0=>?_) fun l0=>?_
 ·
  replace hm:=ip hm l0
  refine h_z ?_
  refine Ah rfl (Al ?_)
  obtain ⟨h1,a0,hm⟩:=bs hm
  refine AH (fun l' w'=>∃ (i1:Unit) (O':Lab),subs l' [(6,(.bool h1))]∧Bs w A w' O') ?_ ?_
  ·
   refine Ce (·=w) [(0,true),(1,true),(2,true),(3,true),(4,true),(5,true),(6,true),(7,true),(8,true),(9,true),(10,true),(11,true)] (by kernel_rfl) rfl (by kernel_rfl) rfl ?_
   refine AL rfl rfl rfl (AL rfl rfl rfl ?_)
   obtain ⟨t2,j1,a0⟩:=bs a0
   obtain ⟨k1,l1⟩:=AW j1
   obtain ⟨u2,v2,m1,m0,n0,o0,rfl,w2,y2,z2⟩:=c0.elem' l1
   refine Br (hA:=m0) (hj:=(Int.toNat_of_nonneg k1).symm) (hlt:=n0) rfl rfl rfl rfl ?_
   refine Bc rfl rfl rfl (Cw (hc:=cat0 o0) rfl rfl rfl ?_)
   refine AL rfl rfl rfl (AL rfl rfl rfl ?_)
   obtain ⟨a3,n1,a0⟩:=bs a0
   obtain ⟨o1,p1⟩:=AW n1
   obtain ⟨b3,c3,q1,p0,q0,r0,rfl,d3,e3,f3⟩:=c0.elem' p1
   refine Br (hA:=p0) (hj:=(Int.toNat_of_nonneg o1).symm) (hlt:=q0) rfl rfl rfl rfl ?_
   refine Bc rfl rfl rfl (Cw (hc:=cat0 r0) rfl rfl rfl ?_)
   refine EQ rfl rfl rfl rfl (fun s0=>?_) fun s0=>?_
   ·
    replace a0:=ip a0 s0
    refine Ef rfl rfl rfl (h_z ?_)
    obtain rfl:=sm a0
    exact ⟨(),_,⟨rfl,trivial⟩,hB⟩
   replace a0:=im a0 s0
   refine Ef rfl rfl rfl (h_z ?_)
   obtain rfl:=sm a0
   exact ⟨(),_,⟨rfl,trivial⟩,hB⟩
  rintro g3 h3 ⟨i1,i3,t0,hB⟩
  refine AO _ t0 ?_
  refine AJ ?_
  obtain rfl:=sm hm
  exact ret1v rfl (AD rfl) ⟨hB.ext,vBool⟩
 replace hm:=im hm l0
 refine h_z ?_
 refine Ae rfl (AM (Al ?_))
 obtain ⟨r1,b0,hm⟩:=bs hm
 refine AH (fun l' w'=>∃ (s1:Unit) (O':Lab),subs l' [(6,(.bool r1))]∧Bs w A w' O') ?_ ?_
 ·
  refine Ce (·=w) [(0,true),(1,true),(2,true),(3,true),(4,true),(5,true),(6,true),(7,true),(8,true),(9,true),(10,true),(11,true)] (by kernel_rfl) rfl (by kernel_rfl) rfl ?_
  refine AL rfl rfl rfl (AL rfl rfl rfl ?_)
  obtain ⟨j3,t1,b0⟩:=bs b0
  obtain ⟨u1,v1⟩:=AW t1
  obtain ⟨k3,l3,w1,u0,v0,w0,rfl,m3,n3,o3⟩:=c0.elem' v1
  refine Br (hA:=u0) (hj:=(Int.toNat_of_nonneg u1).symm) (hlt:=v0) rfl rfl rfl rfl ?_
  refine Bc rfl rfl rfl (Cw (hc:=cat1 w0) rfl rfl rfl ?_)
  refine AL rfl rfl rfl (AL rfl rfl rfl ?_)
  obtain ⟨p3,y1,b0⟩:=bs b0
  obtain ⟨z1,a2⟩:=AW y1
  obtain ⟨q3,r3,b2,y0,z0,a1,rfl,c2,d2,e2⟩:=c0.elem' a2
  refine Br (hA:=y0) (hj:=(Int.toNat_of_nonneg z1).symm) (hlt:=z0) rfl rfl rfl rfl ?_
  refine Bc rfl rfl rfl (Cw (hc:=cat1 a1) rfl rfl rfl ?_)
  refine EQ rfl rfl rfl rfl (fun d0=>?_) fun d0=>?_
  ·
   replace b0:=ip b0 d0
   refine Ef rfl rfl rfl (h_z ?_)
   obtain rfl:=sm b0
   exact ⟨(),_,⟨rfl,trivial⟩,hB⟩
  replace b0:=im b0 d0
  refine Ef rfl rfl rfl (h_z ?_)
  obtain rfl:=sm b0
  exact ⟨(),_,⟨rfl,trivial⟩,hB⟩
 rintro f2 g2 ⟨s1,h2,e0,hB⟩
 refine AO _ e0 ?_
 refine AJ ?_
 obtain rfl:=sm hm
 exact ret1v rfl (AD rfl) ⟨hB.ext,vBool⟩
noncomputable def BT (x0:List OEn) (x1:Int) (x2:Int):Option (List OEn) :=
  bnd (atI x0 x2) fun a4=>bnd (atI x0 x1) fun a18=>bnd (atI x0 x1) fun a32=>bnd (atI (x0.set (x1:Int).toNat a4) x2) fun a48=>some ((x0.set (x1:Int).toNat a4).set (x2:Int).toNat a18)
theorem EV {w:World} {O:Lab} {A0:Option Addr} {m0 c0 i0:Nat} {x0:List OEn} (a0:Rw i0 w O 73 (.slice A0 m0 c0) x0) {x1:Int} (rx1:inI64 x1) {x2:Int} (rx2:inI64 x2) {r:(List OEn)} (hm:BT x0 x1 x2=some r) :
    Fn Tryz.prog 156 [(.slice A0 m0 c0),(.int .i64 x1),(.int .i64 x2)] w fun v w'=>∃ O',St (eT i0) w O w' O'∧Rw i0 w' O' 73 (.slice A0 m0 c0) r:=by
 obtain ⟨O0,hE,u0,v0⟩:=ent1 (w:=w) (O:=O) a0.2.2
 obtain rfl:m0=x0.length:=a0.len.1
 have a0':=Rw.leave a0 u0 v0 (j:=2) (by decide)
 have hB:Bm w O0 w O0:=Bm.refl
 refine AK Tryz.func156 rfl Tryz.ntmps156 rfl ?_
 unfold BT at hm
 refine Bt [(13,[2])] O0 ?_
 refine AT (fuel:=5) [] [(0,true),(1,true),(4,true),(5,true),(6,true),(7,true),(8,true),(9,true),(10,true),(11,true),(12,true)] (by kernel_rfl) rfl ?_
 refine AL rfl rfl rfl (AL rfl rfl rfl (AL rfl rfl rfl (AL rfl rfl rfl ?_)))
 obtain ⟨a4,e5,hm⟩:=bs hm
 obtain ⟨p7,x6⟩:=AW e5
 obtain ⟨b8,o9,w0,f0,g0,h0,j0,rfl,y0,z0,a1⟩:=a0'.elemF x6
 refine Br (hA:=f0) (hj:=(Int.toNat_of_nonneg p7).symm) (hlt:=h0) rfl rfl rfl rfl ?_
 refine CU (hl:=rfl) (hb:=fun w' ⟨O',hq⟩=>(AR (hq.agree (i:=2) (by decide)) g0 j0)) rfl rfl rfl ?_
 refine AL rfl rfl rfl (AL rfl rfl rfl ?_)
 obtain ⟨b0,b1,hm⟩:=bs hm
 obtain ⟨c1,d1⟩:=AW b1
 obtain ⟨t1,u1,e1,k0,l0,n0,o0,rfl,f1,g1,h1⟩:=a0'.elemF d1
 refine Br (hA:=k0) (hj:=(Int.toNat_of_nonneg c1).symm) (hlt:=n0) rfl rfl rfl rfl ?_
 refine CU (hl:=rfl) (hb:=fun w' ⟨O',hq⟩=>(AR (hq.agree (i:=2) (by decide)) l0 o0)) rfl rfl rfl ?_
 obtain ⟨v1,i1,hm⟩:=bs hm
 obtain ⟨j1,r0⟩:=AW i1
 obtain ⟨w1,y1,k1,d0,l1,p0,m1,rfl,z1,a2,b2⟩:=a0'.elemF r0
 refine Br (hA:=d0) (hj:=(Int.toNat_of_nonneg j1).symm) (hlt:=p0) rfl rfl rfl rfl ?_
 refine AC ?_
 refine AT (fuel:=3) [2] [(2,true),(3,true)] (by kernel_rfl) rfl ?_
 refine AL rfl rfl rfl (AL rfl rfl rfl (AC ?_))
 refine AP (i:=13) (by kernel_rfl) rfl ?_
 refine Dj rfl a0' (a:=a4) (Vb.ofAgg (cs:=[(.int .i64 a4.cost),(.int .i64 a4.number),(.int .i64 a4.node)]) (x:=a4) rfl ⟨rfl,y0,z0,a1⟩) d0 rfl rfl (AE r0) fun c2 s0 a0'=>?_
 have hZ:=s0.lst [2] (fun _ h=>by cases h;decide)
 refine AX [] hZ (by kernel_rfl) ?_
 refine AT (fuel:=1) [] [(14,true)] (by kernel_rfl) rfl ?_
 obtain ⟨d2,n1,hm⟩:=bs hm
 obtain ⟨o1,t0⟩:=AW n1
 obtain ⟨e2,f2,p1,e0,q1,q0,r1,rfl,g2,h2,i2⟩:=a0'.elemF t0
 refine Br (hA:=e0) (hj:=(Int.toNat_of_nonneg o1).symm) (hlt:=q0) rfl rfl rfl rfl ?_
 refine AC ?_
 refine AP (i:=15) (by kernel_rfl) rfl ?_
 refine Dj rfl a0' (a:=b0) (Vb.ofAgg (cs:=[(.int .i64 b0.cost),(.int .i64 b0.number),(.int .i64 b0.node)]) (x:=b0) rfl ⟨rfl,f1,g1,h1⟩) e0 rfl rfl (AE t0) fun j2 s1 a0'=>?_
 refine BZ (by kernel_rfl) ?_
 refine Bn (by kernel_rfl) ?_
 obtain rfl:=sm hm
 replace hB:=(hB.st s0).st s1
 obtain ⟨O',hS',hz,hl⟩:=hE.leave (fun q=>if q=2 then i0 else 0) rfl hB
 exact ret0n rfl  ⟨O',hS',(Rw.leave a0' hz (hl 2 (by decide) (by decide)) a0.2.2)⟩
noncomputable def Ea (x0:BxR 67 73 OEn) (x1:An 73 OEn):Option (BxR 67 73 OEn) :=
  bnd (appI 24 x0.l [x1.x]) fun u31=>some (⟨u31⟩:BxR 67 73 OEn)
theorem IH {w:World} {O:Lab} {cx:Cx} {p0 i0:Nat} {x0:BxR 67 73 OEn} (a0:Ob i0 w O (.pointer (some ⟨p0,cx.pre.length,none⟩)) (BxR.c cx x0)) {vx1:Value} {x1:An 73 OEn} (g0:Vb w (Fr 0 w O) vx1 x1) {r:(BxR 67 73 OEn)} (hm:Ea x0 x1=some r) :
    Fn Tryz.prog 158 [(.pointer (some ⟨p0,cx.pre.length,none⟩)),vx1] w fun v w'=>∃ O',St (eT i0) w O w' O'∧Ob i0 w' O' (.pointer (some ⟨p0,cx.pre.length,none⟩)) (BxR.c cx r):=by
 obtain ⟨O0,hE,k0,s0⟩:=ent1 (w:=w) (O:=O) a0.2
 have a0':=Ob.leave a0 k0 s0 (j:=2) (by decide)
 have hB:Bm w O0 w O0:=Bm.refl
 replace g0:=g0.mono k0
 obtain ⟨v3,rfl,h4⟩:=g0.any
 obtain ⟨f1,rfl,rfl,r6,r7,r8⟩:=h4
 refine AK Tryz.func158 rfl Tryz.ntmps158 rfl ?_
 unfold Ea at hm
 refine Al (Aj (Ar rfl rfl (Ps rfl rfl ?_)))
 refine Ar rfl rfl (CI rfl rfl rfl (CI rfl rfl rfl (Bh 3 O0 rfl fun g9 g1 t0 m0 b0=>?_)))
 refine AZ b0 rfl rfl rfl (Bj rfl) (allOne rfl) fun u0 n0 b0=>?_
 replace b0:Lc 3 u0 t0 g9 73 [(.int .i64 x1.x.cost),(.int .i64 x1.x.number),(.int .i64 x1.x.node)]:=b0
 refine Au rfl rfl (o_z ?_)
 refine Al (Aj (Ar rfl rfl (o_z ?_)))
 refine Ah rfl ?_
 replace a0':=(a0'.st m0).st n0
 obtain ⟨o0,h1,q0,v0,c0,d0⟩:=BxC.opn a0' 2 4 (by decide)
 obtain ⟨i1,j1,rfl⟩:=d0.form
 refine Bt [(6,[4])] o0 ?_
 refine AT (fuel:=5) [] [(1,true),(2,true),(3,true),(4,true)] (by kernel_rfl) rfl ?_
 refine AL rfl rfl rfl (DA rfl rfl rfl (AV (hc:=fun w' ⟨O',hq⟩=>cxcell ((c0.st hq (by decide)).1)) rfl rfl rfl ?_))
 replace b0:=b0.st q0
 refine CU (hl:=rfl) (hb:=fun w' ⟨O',hq⟩=>((b0.st hq (by decide)).1).cellsAt) rfl rfl rfl ?_
 refine AC ?_
 refine AT (fuel:=4) [4] [(0,true)] (by kernel_rfl) rfl ?_
 refine AL rfl rfl rfl (AC ?_)
 refine AP (i:=5) (by kernel_rfl) rfl ?_
 refine Cj 5 (by decide) o0 (xs:=([x1.x]:List OEn)) rfl rfl rfl rfl ⟨(Vb.ofAgg (cs:=[(.int .i64 x1.x.cost),(.int .i64 x1.x.number),(.int .i64 x1.x.node)]) (x:=x1.x) rfl ⟨rfl,r6,r7,r8⟩),trivial⟩ (by decide) (by decide) rfl fun k1 m1 n1 e0 w0=>?_
 have hZ:=e0.lst [] (fun _ h=>h.elim)
 refine AX [(6,[4])] hZ (by kernel_rfl) ?_
 refine AP (i:=6) (by kernel_rfl) rfl ?_
 obtain ⟨y0,h0,hm⟩:=bs hm
 obtain ⟨h0,z0,a1⟩:=Cc h0
 replace d0:=d0.st e0
 refine DW rfl d0 (w0.rd) rfl rfl (by decide) z0 a1 rfl fun o1 p1 q1 r1 j0 f0=>?_
 rw [← h0] at f0 ⊢
 have hZ:=j0.lst [4] (fun _ h=>by cases h;decide)
 refine AX [] hZ (by kernel_rfl) ?_
 refine AT (fuel:=1) [] [(7,true)] (by kernel_rfl) rfl ?_
 refine DA rfl rfl rfl (AC ?_)
 refine AP (i:=8) (by kernel_rfl) rfl ?_
 replace c0:=(c0.st e0).st j0
 refine Ly c0 rfl rfl rfl (allOne rfl) fun s1 r0 c0=>?_
 refine BZ (by kernel_rfl) ?_
 refine Bn (by kernel_rfl) ?_
 replace f0:=f0.st r0
 obtain ⟨t1,b1,c1,d1,e1⟩:=BxC.shut (x:=(⟨y0⟩:BxR 67 73 OEn)) (l0:=2) (l1:=4) (by decide) c0 f0
 obtain rfl:=sm hm
 replace hB:=((((((hB.st m0).st n0).st q0).st e0).st j0).st r0).st b1
 obtain ⟨O',hS',hz,hl⟩:=hE.leave (fun q=>if q=2 then i0 else 0) rfl hB
 exact ret0n rfl  ⟨O',hS',(Ob.leave e1 hz (hl 2 (by decide) (by decide)) a0.2)⟩
noncomputable def Es (x0:BxR 67 73 OEn):Option ((An 73 OEn)×(BxR 67 73 OEn)) :=
  bnd (chkI ((x0.l.length:Int) - 1)) fun n13=>bnd (atI x0.l n13) fun a16=>bnd (chkI ((x0.l.length:Int) - 1)) fun n39=>bnd (cutI x0.l 0 n39) fun u42=>some ((⟨a16⟩:An 73 OEn),(⟨u42⟩:BxR 67 73 OEn))
theorem Jf {w:World} {O:Lab} {cx:Cx} {p0 i0:Nat} {x0:BxR 67 73 OEn} (c0:Ob i0 w O (.pointer (some ⟨p0,cx.pre.length,none⟩)) (BxR.c cx x0)) {r:(An 73 OEn)×(BxR 67 73 OEn)} (hm:Es x0=some r) :
    Fn Tryz.prog 157 [(.pointer (some ⟨p0,cx.pre.length,none⟩))] w fun v w'=>∃ O',St (eT i0) w O w' O'∧Ob i0 w' O' (.pointer (some ⟨p0,cx.pre.length,none⟩)) (BxR.c cx r.2)∧Vb w' (Fr 0 w' O') v r.1:=by
 obtain ⟨O0,hE,o0,q0⟩:=ent1 (w:=w) (O:=O) c0.2
 have c0':=Ob.leave c0 o0 q0 (j:=2) (by decide)
 have hB:Bm w O0 w O0:=Bm.refl
 refine AK Tryz.func157 rfl Tryz.ntmps157 rfl ?_
 unfold Es at hm
 refine Al (Aj (Au rfl rfl (o_z ?_)))
 refine Al (Aj (Ar rfl rfl (Dx rfl rfl ?_)))
 obtain ⟨O2,v6,S3,m1,h4,h7⟩:=BxC.opn c0' 2 3 (by decide)
 obtain ⟨A8,c9,rfl⟩:=h7.form
 refine AG (hc:=cxcell (h4.1)) rfl rfl ?_
 refine Au rfl rfl (o_z ?_)
 refine Al (Aj (Ar rfl rfl (Ar rfl rfl (AY rfl rfl ?_))))
 have r0:x0.l.length≤9223372036854775807:=Nat.le_trans h7.len.2.1 h7.len.2.2
 have n1:inI64 (x0.l.length:Int):=rngNat r0
 obtain ⟨o1,m0,hm⟩:=bs hm
 have p1:=(Co m0)
 refine Ho (he:=m0) rfl rfl rfl ?_
 obtain ⟨a0,s0,hm⟩:=bs hm
 obtain ⟨t0,u0⟩:=AW s0
 obtain ⟨q1,r1,v0,d0,e0,f0,rfl,w0,y0,z0⟩:=h7.elem u0
 refine Bv (hA:=d0) (hj:=(Int.toNat_of_nonneg t0).symm) (hlt:=e0) rfl rfl rfl ?_
 refine Bk (hl:=rfl) (hc:=f0) rfl rfl ?_
 refine Bh 4 O2 rfl fun a1 s1 b1 g0 b0=>?_
 refine AZ b0 rfl rfl rfl (Bj rfl) (allOne rfl) fun c1 h0 b0=>?_
 replace b0:Lc 4 c1 b1 a1 73 [(.int .i64 a0.cost),(.int .i64 a0.number),(.int .i64 a0.node)]:=b0
 refine o_z ?_
 refine Al (Aj (Ar rfl rfl (Ar rfl rfl (Ar rfl rfl (AY rfl rfl ?_)))))
 replace h7:=(h7.st g0).st h0
 have d1:x0.l.length≤9223372036854775807:=Nat.le_trans h7.len.2.1 h7.len.2.2
 have t1:inI64 (x0.l.length:Int):=rngNat d1
 obtain ⟨u1,n0,hm⟩:=bs hm
 have v1:=(Co n0)
 refine Ho (he:=n0) rfl rfl rfl ?_
 obtain ⟨e1,f1,hm⟩:=bs hm
 obtain ⟨j0,g1⟩:=cutRw h7 f1
 refine QB (hc:=g1) rfl rfl rfl ?_
 refine Dx rfl rfl ?_
 replace h4:=(h4.st g0).st h0
 refine Ly h4 rfl rfl rfl (allOne rfl) fun w1 k0 h4=>?_
 refine o_z ?_
 refine Al (Aj ?_)
 replace b0:=b0.st k0
 refine Bk (hl:=rfl) (hc:=(b0.1).cellsAt) rfl rfl ?_
 refine Pq rfl rfl ?_
 refine Au rfl rfl (o_z ?_)
 refine AJ ?_
 replace j0:=j0.st k0
 obtain ⟨x1,h1,i1,j1,k1⟩:=BxC.shut (x:=(⟨e1⟩:BxR 67 73 OEn)) (l0:=2) (l1:=3) (by decide) h4 j0
 obtain rfl:=sm hm
 replace hB:=((((hB.st S3).st g0).st h0).st k0).st h1
 obtain ⟨O',hS',hz,hl⟩:=hE.leave (fun q=>if q=2 then i0 else 0) rfl hB
 exact ret1v rfl (AD rfl) ⟨O',hS',(Ob.leave k1 hz (hl 2 (by decide) (by decide)) c0.2),(vAny (Vb.ofAgg (cs:=[(.int .i64 a0.cost),(.int .i64 a0.number),(.int .i64 a0.node)]) (x:=a0) rfl ⟨rfl,w0,y0,z0⟩))⟩
noncomputable def Dd (x0:BxR 67 73 OEn) (x1:Int):Option (BxR 67 73 OEn) :=
  bnd (lop (ρ:=(BxR 67 73 OEn)) (fun (s5:Int×(BxR 67 73 OEn))=>bnd (chkI (s5.1 - 1)) fun n22=>bnd (quoT n22 2) fun n25=>bnd (if n25=s5.1 then (some true) else (bnd (Cd s5.2.l s5.1 n25) fun q42=>if q42=true then some false else some true):Option Bool) fun y28=>if y28=true then (some (.brk (s5.1,s5.2))) else (bnd (BT s5.2.l n25 s5.1) fun q73=>some (.next (n25,(⟨q73⟩:BxR 67 73 OEn))))) (x1,x0)) fun res3=>fin res3 fun (s90:Int×(BxR 67 73 OEn))=>some s90.2
theorem HO {w:World} {O:Lab} {cx:Cx} {p0 i0:Nat} {x0:BxR 67 73 OEn} (h0:Ob i0 w O (.pointer (some ⟨p0,cx.pre.length,none⟩)) (BxR.c cx x0)) {x1:Int} (rx1:inI64 x1) {r:(BxR 67 73 OEn)} (hm:Dd x0 x1=some r) :
    Fn Tryz.prog 88 [(.iface 76 (.pointer (some ⟨p0,cx.pre.length,none⟩))),(.int .i64 x1)] w fun v w'=>∃ O',St (eT i0) w O w' O'∧Ob i0 w' O' (.pointer (some ⟨p0,cx.pre.length,none⟩)) (BxR.c cx r):=by
 obtain ⟨O0,hE,c1,d1⟩:=ent1 (w:=w) (O:=O) h0.2
 have h0':=Ob.leave h0 c1 d1 (j:=2) (by decide)
 have hB:Bm w O0 w O0:=Bm.refl
 refine AK Tryz.func88 rfl Tryz.ntmps88 rfl ?_
 unfold Dd at hm
 obtain ⟨m0,e1,hm⟩:=bs hm
 refine AH (aft m0 (fun (s5:Int×(BxR 67 73 OEn)) (x6:Unit)=>[]) (fun s5 x6 w'=>∃ O':Lab,Bm w O0 w' O'∧Ob 2 w' O' (.pointer (some ⟨p0,cx.pre.length,none⟩)) (BxR.c cx s5.2)∧inI64 s5.1)) ?_ ?_
 ·
  refine AU (Fi (σ:=Int×(BxR 67 73 OEn)) (X:=Unit) e1 (fun (s5:Int×(BxR 67 73 OEn)) (x6:Unit)=>[(0,(.iface 76 (.pointer (some ⟨p0,cx.pre.length,none⟩)))),(1,(.int .i64 s5.1))]) _ (fun s5 x6 w'=>∃ O':Lab,Bm w O0 w' O'∧Ob 2 w' O' (.pointer (some ⟨p0,cx.pre.length,none⟩)) (BxR.c cx s5.2)∧inI64 s5.1) _ () ⟨O0,hB,h0',rx1⟩ ⟨rfl,rfl,trivial⟩ ?_)
  rintro s5 x6 w9 f1 ⟨h2,hB,d0,j0⟩ a0 n0 e0
  refine AU (Al (Aj (Ar rfl rfl ?_)))
  obtain ⟨i2,t0,a0⟩:=bs a0
  have u0:=(Co t0)
  refine Ho (he:=t0) rfl rfl rfl ?_
  obtain ⟨g1,v0,a0⟩:=bs a0
  have o0:=MA v0 u0
  refine Rk (he:=v0) (hr:=u0) rfl rfl rfl ?_
  refine Au rfl rfl (o_z ?_)
  refine Al (Al ?_)
  obtain ⟨h1,b0,a0⟩:=bs a0
  refine AH (fun l' w'=>∃ (i1:Unit) (O':Lab),subs l' [(0,(.iface 76 (.pointer (some ⟨p0,cx.pre.length,none⟩)))),(1,(.int .i64 s5.1)),(4,(.int .i64 g1)),(17,(.bool h1))]∧Bm w O0 w' O'∧Ob 2 w' O' (.pointer (some ⟨p0,cx.pre.length,none⟩)) (BxR.c cx s5.2)) ?_ ?_
  ·
   refine Aj (Ar rfl rfl (Ar rfl rfl (EP rfl rfl rfl (fun q0=>?_) fun q0=>?_)))
   ·
    replace b0:=ip b0 q0
    refine Ar rfl rfl (Ay rfl rfl rfl rfl (Ay rfl rfl rfl rfl (Ay rfl rfl rfl rfl (Ay rfl rfl rfl rfl (Ay rfl rfl rfl rfl (BA rfl rfl rfl (o_z ?_)))))))
    obtain rfl:=sm b0
    exact ⟨(),_,⟨rfl,rfl,rfl,rfl,trivial⟩,hB,d0⟩
   replace b0:=im b0 q0
   refine Ar rfl rfl (Az rfl rfl (Ar rfl rfl (Az rfl rfl (Ar rfl rfl (Az rfl rfl (Ar rfl rfl (Az rfl rfl ?_)))))))
   obtain ⟨j1,j2,w0,k1,f0,c0⟩:=BxC.opn d0 2 3 (by decide)
   obtain ⟨k2,l2,rfl⟩:=c0.form
   obtain ⟨y0,m1,b0⟩:=bs b0
   refine Ic (O:=j1) (A:=All w9) (R:=fun w' F v=>Vb w' F v y0) (EU (fun _ h=>h) (c0).all j0 o0 m1) (Fk (cxcell f0.1)) rfl rfl rfl fun m2 n2 o2 g0 n1=>?_
   obtain rfl:=n1.bool
   cases y0
   case false =>
    replace b0:=iF b0
    refine Az rfl rfl (Ct rfl rfl (BD rfl rfl rfl (o_z ?_)))
    replace f0:=f0.st g0
    replace c0:=c0.st g0
    obtain ⟨p2,o1,p1,q1,r1⟩:=BxC.shut (x:=s5.2) (l0:=2) (l1:=3) (by decide) f0 c0
    obtain rfl:=sm b0
    exact ⟨(),_,⟨rfl,rfl,rfl,rfl,trivial⟩,((hB.st w0).st g0).st o1,r1⟩
   replace b0:=iT b0
   refine Az rfl rfl (Cs rfl rfl (BD rfl rfl rfl (o_z ?_)))
   replace f0:=f0.st g0
   replace c0:=c0.st g0
   obtain ⟨q2,s1,t1,u1,v1⟩:=BxC.shut (x:=s5.2) (l0:=2) (l1:=3) (by decide) f0 c0
   obtain rfl:=sm b0
   exact ⟨(),_,⟨rfl,rfl,rfl,rfl,trivial⟩,((hB.st w0).st g0).st s1,v1⟩
  rintro r2 s2 ⟨i1,t2,r0,hB,d0⟩
  refine AO _ r0 ?_
  refine BK rfl (fun s0=>?_) (fun s0=>?_)
  ·
   replace a0:=ip a0 s0
   refine De ?_
   obtain rfl:=sm a0
   exact show Exists _ from ⟨_,(),e0 _ rfl,trivial,_,hB,d0,j0⟩
  replace a0:=im' a0 s0
  refine AM (Al (Aj (Ar rfl rfl (Ar rfl rfl (Ar rfl rfl ?_)))))
  obtain ⟨w1,u2,y1,z1,k0,z0⟩:=BxC.opn d0 2 3 (by decide)
  obtain ⟨v2,w2,rfl⟩:=z0.form
  obtain ⟨a2,b2,a0⟩:=bs a0
  refine Ib (O:=w1) (EV z0 o0 j0 b2) (Fk (cxcell k0.1)) rfl rfl rfl fun x2 y2 z2 a1 b1=>?_
  refine o_z ?_
  refine Aj (Ar rfl rfl (Au rfl rfl (o_z ?_)))
  replace k0:=k0.st a1
  obtain ⟨a3,c2,d2,e2,f2⟩:=BxC.shut (x:=(⟨a2⟩:BxR 67 73 OEn)) (l0:=2) (l1:=3) (by decide) (by have q:=k0;rw [← b1.len.1.symm] at q;exact q) b1.relen
  obtain rfl:=sm a0
  exact show Exists _ from ⟨_,(),rfl,⟨rfl,rfl,trivial⟩,_,((hB.st y1).st a1).st c2,f2,o0⟩
 rintro b3 c3 ⟨d3,e3,rfl,g2,f3,hB,d0,j0⟩
 replace hm:=Be hm
 obtain rfl:=sm hm
 obtain ⟨O',hS',hz,hl⟩:=hE.leave (fun q=>if q=2 then i0 else 0) rfl hB
 exact ret0n rfl  ⟨O',hS',(Ob.leave d0 hz (hl 2 (by decide) (by decide)) h0.2)⟩
noncomputable def CR (x0:BxR 67 73 OEn) (x1:Int) (x2:Int):Option (Bool×(BxR 67 73 OEn)) :=
  bnd (lop (ρ:=Bool×(BxR 67 73 OEn)) (fun (s6:Int×(BxR 67 73 OEn))=>bnd (chkI (2 * s6.1)) fun n23=>bnd (chkI (n23 + 1)) fun n26=>bnd (if x2≤n26 then (some true) else (if n26 < 0 then (some true) else (some false)):Option Bool) fun y29=>if y29=true then (some (.brk (s6.1,s6.2))) else (bnd (bnd (chkI (n26 + 1)) fun n45=>bnd (if n45 < x2 then (bnd (Cd s6.2.l n45 n26) fun q62=>if q62=true then some true else some false) else (some false):Option Bool) fun y48=>if y48=true then (some n45) else (some n26):Option Int) fun y40=>bnd (Cd s6.2.l y40 s6.1) fun q97=>if q97=true then bnd (BT s6.2.l s6.1 y40) fun q109=>some (.next (y40,(⟨q109⟩:BxR 67 73 OEn))) else some (.brk (s6.1,s6.2)))) (x1,x0)) fun res4=>fin res4 fun (s126:Int×(BxR 67 73 OEn))=>bnd (if x1 < s126.1 then (some true) else (some false):Option Bool) fun y128=>some (y128,s126.2)
theorem He {w:World} {O:Lab} {cx:Cx} {p0 i0:Nat} {x0:BxR 67 73 OEn} (r0:Ob i0 w O (.pointer (some ⟨p0,cx.pre.length,none⟩)) (BxR.c cx x0)) {x1:Int} (rx1:inI64 x1) {x2:Int} (rx2:inI64 x2) {r:Bool×(BxR 67 73 OEn)} (hm:CR x0 x1 x2=some r) :
    Fn Tryz.prog 60 [(.iface 76 (.pointer (some ⟨p0,cx.pre.length,none⟩))),(.int .i64 x1),(.int .i64 x2)] w fun v w'=>∃ O',St (eT i0) w O w' O'∧Ob i0 w' O' (.pointer (some ⟨p0,cx.pre.length,none⟩)) (BxR.c cx r.2)∧Vb w' (Fr 0 w' O') v r.1:=by
 obtain ⟨O0,hE,m2,n2⟩:=ent1 (w:=w) (O:=O) r0.2
 have r0':=Ob.leave r0 m2 n2 (j:=2) (by decide)
 have hB:Bm w O0 w O0:=Bm.refl
 refine AK Tryz.func60 rfl Tryz.ntmps60 rfl ?_
 unfold CR at hm
 refine Al (Aj (Au rfl rfl (o_z ?_)))
 refine Al (Aj (Ar rfl rfl (Au rfl rfl (o_z ?_))))
 refine Al ?_
 obtain ⟨z0,o2,hm⟩:=bs hm
 refine AH (aft z0 (fun (s6:Int×(BxR 67 73 OEn)) (x7:Unit)=>[(1,(.int .i64 x1)),(7,(.int .i64 s6.1))]) (fun s6 x7 w'=>∃ O':Lab,Bm w O0 w' O'∧Ob 2 w' O' (.pointer (some ⟨p0,cx.pre.length,none⟩)) (BxR.c cx s6.2)∧inI64 s6.1)) ?_ ?_
 ·
  refine AU (Fi (σ:=Int×(BxR 67 73 OEn)) (X:=Unit) o2 (fun (s6:Int×(BxR 67 73 OEn)) (x7:Unit)=>[(0,(.iface 76 (.pointer (some ⟨p0,cx.pre.length,none⟩)))),(1,(.int .i64 x1)),(2,(.int .i64 x2)),(7,(.int .i64 s6.1))]) _ (fun s6 x7 w'=>∃ O':Lab,Bm w O0 w' O'∧Ob 2 w' O' (.pointer (some ⟨p0,cx.pre.length,none⟩)) (BxR.c cx s6.2)∧inI64 s6.1) _ () ⟨O0,hB,r0',rx1⟩ ⟨rfl,rfl,rfl,rfl,trivial⟩ ?_)
  rintro s6 x7 b4 p2 ⟨c4,hB,g0,s0⟩ a0 a1 h0
  refine AU (Al (Aj (Ar rfl rfl ?_)))
  obtain ⟨d4,w1,a0⟩:=bs a0
  have e4:=(Co w1)
  refine Rg (he:=w1) rfl rfl rfl ?_
  obtain ⟨y1,z1,a0⟩:=bs a0
  have a2:=(Co z1)
  refine Gk (he:=z1) rfl rfl rfl ?_
  refine Au rfl rfl (o_z ?_)
  refine Al (Al ?_)
  obtain ⟨q2,c0,a0⟩:=bs a0
  refine AH (fun l' w'=>∃ (r2:Unit) (O':Lab),subs l' [(0,(.iface 76 (.pointer (some ⟨p0,cx.pre.length,none⟩)))),(1,(.int .i64 x1)),(2,(.int .i64 x2)),(7,(.int .i64 s6.1)),(8,(.int .i64 y1)),(21,(.bool q2))]∧Bm w O0 w' O'∧Ob 2 w' O' (.pointer (some ⟨p0,cx.pre.length,none⟩)) (BxR.c cx s6.2)) ?_ ?_
  ·
   refine Aj (Ar rfl rfl (Ar rfl rfl (FK rfl rfl rfl (fun b1=>?_) fun b1=>?_)))
   ·
    replace c0:=ip c0 b1
    refine Ar rfl rfl (Ay rfl rfl rfl rfl (Ay rfl rfl rfl rfl (BA rfl rfl rfl (o_z ?_))))
    obtain rfl:=sm c0
    exact ⟨(),_,⟨rfl,rfl,rfl,rfl,rfl,rfl,trivial⟩,hB,g0⟩
   replace c0:=im c0 b1
   refine Ar rfl rfl (Az rfl rfl (Ar rfl rfl (Az rfl rfl (Da rfl rfl rfl (fun c1=>?_) fun c1=>?_))))
   ·
    replace c0:=ip c0 c1
    refine BD rfl rfl rfl (o_z ?_)
    obtain rfl:=sm c0
    exact ⟨(),_,⟨rfl,rfl,rfl,rfl,rfl,rfl,trivial⟩,hB,g0⟩
   replace c0:=im c0 c1
   refine BD rfl rfl rfl (o_z ?_)
   obtain rfl:=sm c0
   exact ⟨(),_,⟨rfl,rfl,rfl,rfl,rfl,rfl,trivial⟩,hB,g0⟩
  rintro f4 s2 ⟨r2,g4,d1,hB,g0⟩
  refine AO _ d1 ?_
  refine BK rfl (fun e1=>?_) (fun e1=>?_)
  ·
   replace a0:=ip a0 e1
   refine De ?_
   obtain rfl:=sm a0
   exact show Exists _ from ⟨_,(),h0 _ rfl,⟨rfl,rfl,trivial⟩,_,hB,g0,s0⟩
  replace a0:=im' a0 e1
  refine AM (Al (Aj (Ar rfl rfl (Au rfl rfl (o_z ?_)))))
  refine Al ?_
  obtain ⟨b2,d0,a0⟩:=bs a0
  refine AH (fun l' w'=>∃ (t2:Unit) (O':Lab),subs l' [(0,(.iface 76 (.pointer (some ⟨p0,cx.pre.length,none⟩)))),(1,(.int .i64 x1)),(2,(.int .i64 x2)),(7,(.int .i64 s6.1)),(9,(.int .i64 b2))]∧Bm w O0 w' O'∧Ob 2 w' O' (.pointer (some ⟨p0,cx.pre.length,none⟩)) (BxR.c cx s6.2)∧inI64 b2) ?_ ?_
  ·
   refine Al (Aj (Ar rfl rfl ?_))
   obtain ⟨u2,c2,d0⟩:=bs d0
   have d2:=(Co c2)
   refine Gk (he:=c2) rfl rfl rfl ?_
   refine Au rfl rfl (o_z ?_)
   refine Al ?_
   obtain ⟨v2,b0,d0⟩:=bs d0
   refine AH (fun l' w'=>∃ (w2:Unit) (O':Lab),subs l' [(0,(.iface 76 (.pointer (some ⟨p0,cx.pre.length,none⟩)))),(1,(.int .i64 x1)),(2,(.int .i64 x2)),(7,(.int .i64 s6.1)),(9,(.int .i64 y1)),(10,(.int .i64 u2)),(33,(.bool v2))]∧Bm w O0 w' O'∧Ob 2 w' O' (.pointer (some ⟨p0,cx.pre.length,none⟩)) (BxR.c cx s6.2)) ?_ ?_
   ·
    refine Aj (Ar rfl rfl (Ar rfl rfl (Da rfl rfl rfl (fun f1=>?_) fun f1=>?_)))
    ·
     replace b0:=ip b0 f1
     refine Ar rfl rfl (Az rfl rfl (Ar rfl rfl (Az rfl rfl (Ar rfl rfl (Az rfl rfl (Ar rfl rfl (Az rfl rfl ?_)))))))
     obtain ⟨y2,h4,e2,z2,n0,k0⟩:=BxC.opn g0 2 3 (by decide)
     obtain ⟨i4,j4,rfl⟩:=k0.form
     obtain ⟨f2,a3,b0⟩:=bs b0
     refine Ic (O:=y2) (A:=All s2) (R:=fun w' F v=>Vb w' F v f2) (EU (fun _ h=>h) (k0).all d2 a2 a3) (Fk (cxcell n0.1)) rfl rfl rfl fun k4 l4 m4 q0 y0=>?_
     obtain rfl:=y0.bool
     cases f2
     case false =>
      replace b0:=iF b0
      refine BA rfl rfl rfl (o_z ?_)
      replace n0:=n0.st q0
      replace k0:=k0.st q0
      obtain ⟨n4,b3,c3,d3,e3⟩:=BxC.shut (x:=s6.2) (l0:=2) (l1:=3) (by decide) n0 k0
      obtain rfl:=sm b0
      exact ⟨(),_,⟨rfl,rfl,rfl,rfl,rfl,rfl,rfl,trivial⟩,((hB.st e2).st q0).st b3,e3⟩
     replace b0:=iT b0
     refine BA rfl rfl rfl (o_z ?_)
     replace n0:=n0.st q0
     replace k0:=k0.st q0
     obtain ⟨o4,f3,g3,h3,i3⟩:=BxC.shut (x:=s6.2) (l0:=2) (l1:=3) (by decide) n0 k0
     obtain rfl:=sm b0
     exact ⟨(),_,⟨rfl,rfl,rfl,rfl,rfl,rfl,rfl,trivial⟩,((hB.st e2).st q0).st f3,i3⟩
    replace b0:=im b0 f1
    refine Ar rfl rfl (Ay rfl rfl rfl rfl (Ay rfl rfl rfl rfl (Ay rfl rfl rfl rfl (Ay rfl rfl rfl rfl (BD rfl rfl rfl (o_z ?_))))))
    obtain rfl:=sm b0
    exact ⟨(),_,⟨rfl,rfl,rfl,rfl,rfl,rfl,rfl,trivial⟩,hB,g0⟩
   rintro p4 q4 ⟨w2,r4,g1,hB,y0⟩
   refine AO _ g1 ?_
   refine BK rfl (fun h1=>?_) (fun h1=>?_)
   ·
    replace d0:=ip d0 h1
    refine Aj (Ar rfl rfl (Au rfl rfl (o_z ?_)))
    obtain rfl:=sm d0
    exact ⟨(),_,⟨rfl,rfl,rfl,rfl,rfl,trivial⟩,hB,y0,d2⟩
   replace d0:=im' d0 h1
   refine AM ?_
   obtain rfl:=sm d0
   exact ⟨(),_,⟨rfl,rfl,rfl,rfl,rfl,trivial⟩,hB,y0,a2⟩
  rintro s4 j3 ⟨t2,t4,i1,hB,k3,j1⟩
  refine AO _ i1 ?_
  refine Al (Al (Aj (Ar rfl rfl (Ar rfl rfl (Ar rfl rfl ?_)))))
  obtain ⟨l3,u4,g2,m3,j0,m0⟩:=BxC.opn k3 2 3 (by decide)
  obtain ⟨v4,w4,rfl⟩:=m0.form
  obtain ⟨h2,n3,a0⟩:=bs a0
  refine Ic (O:=l3) (A:=All j3) (R:=fun w' F v=>Vb w' F v h2) (EU (fun _ h=>h) (m0).all j1 s0 n3) (Fk (cxcell j0.1)) rfl rfl rfl fun o3 x4 k1 f0 m1=>?_
  obtain rfl:=m1.bool
  cases h2
  case false =>
   replace a0:=iF a0
   refine Ct rfl rfl (o_z ?_)
   refine Ah rfl (De ?_)
   replace j0:=j0.st f0
   replace m0:=m0.st f0
   obtain ⟨p3,n1,i2,j2,o1⟩:=BxC.shut (x:=s6.2) (l0:=2) (l1:=3) (by decide) j0 m0
   obtain rfl:=sm a0
   exact show Exists _ from ⟨_,(),h0 _ rfl,⟨rfl,rfl,trivial⟩,_,((hB.st g2).st f0).st n1,o1,s0⟩
  replace a0:=iT a0
  refine Cs rfl rfl (o_z ?_)
  refine Ae rfl (AM (Al (Aj (Ar rfl rfl (Ar rfl rfl (Ar rfl rfl ?_))))))
  obtain ⟨p1,q1,a0⟩:=bs a0
  replace j0:=j0.st f0
  replace m0:=m0.st f0
  refine Ib (O:=k1) (EV m0 s0 j1 q1) (Fk (cxcell j0.1)) rfl rfl rfl fun q3 r3 s3 t0 u0=>?_
  refine o_z ?_
  refine Aj (Ar rfl rfl (Au rfl rfl (o_z ?_)))
  replace j0:=j0.st t0
  obtain ⟨t3,r1,k2,l2,s1⟩:=BxC.shut (x:=(⟨p1⟩:BxR 67 73 OEn)) (l0:=2) (l1:=3) (by decide) (by have q:=j0;rw [← u0.len.1.symm] at q;exact q) u0.relen
  obtain rfl:=sm a0
  exact show Exists _ from ⟨_,(),rfl,⟨rfl,rfl,rfl,rfl,trivial⟩,_,(((hB.st g2).st f0).st t0).st r1,s1,j1⟩
 rintro u3 v3 ⟨t1,w3,rfl,v0,x3,hB,g0,s0⟩
 replace hm:=Be hm
 refine AO _ v0 ?_
 refine Al ?_
 obtain ⟨u1,e0,hm⟩:=bs hm
 refine AH (fun l' w'=>∃ (v1:Unit) (O':Lab),subs l' [(6,(.bool u1))]∧Bm w O0 w' O'∧Ob 2 w' O' (.pointer (some ⟨p0,cx.pre.length,none⟩)) (BxR.c cx t1.2)) ?_ ?_
 ·
  refine Aj (Ar rfl rfl (Ar rfl rfl (Dg rfl rfl rfl (fun o0=>?_) fun o0=>?_)))
  ·
   replace e0:=ip e0 o0
   refine Au rfl rfl (o_z ?_)
   obtain rfl:=sm e0
   exact ⟨(),_,⟨rfl,trivial⟩,hB,g0⟩
  replace e0:=im e0 o0
  refine Au rfl rfl (o_z ?_)
  obtain rfl:=sm e0
  exact ⟨(),_,⟨rfl,trivial⟩,hB,g0⟩
 rintro y3 z3 ⟨v1,a4,w0,hB,g0⟩
 refine AO _ w0 ?_
 refine AJ ?_
 obtain rfl:=sm hm
 obtain ⟨O',hS',hz,hl⟩:=hE.leave (fun q=>if q=2 then i0 else 0) rfl hB
 exact ret1v rfl (AD rfl) ⟨O',hS',(Ob.leave g0 hz (hl 2 (by decide) (by decide)) r0.2),vBool⟩
noncomputable def CD (x0:BxR 67 73 OEn) (x1:An 73 OEn):Option (BxR 67 73 OEn) :=
  bnd (Ea x0 (⟨x1.x⟩:An 73 OEn)) fun q9=>bnd (BY q9.l) fun q26=>bnd (chkI (q26 - 1)) fun n34=>bnd (Dd q9 n34) fun q42=>some q42
theorem Hf {w:World} {O:Lab} {cx:Cx} {p0 i0:Nat} {x0:BxR 67 73 OEn} (a0:Ob i0 w O (.pointer (some ⟨p0,cx.pre.length,none⟩)) (BxR.c cx x0)) {vx1:Value} {x1:An 73 OEn} (d0:Vb w (Fr 0 w O) vx1 x1) {r:(BxR 67 73 OEn)} (hm:CD x0 x1=some r) :
    Fn Tryz.prog 59 [(.iface 76 (.pointer (some ⟨p0,cx.pre.length,none⟩))),vx1] w fun v w'=>∃ O',St (eT i0) w O w' O'∧Ob i0 w' O' (.pointer (some ⟨p0,cx.pre.length,none⟩)) (BxR.c cx r):=by
 obtain ⟨O0,hE,f0,h0⟩:=ent1 (w:=w) (O:=O) a0.2
 have a0':=Ob.leave a0 f0 h0 (j:=2) (by decide)
 have hB:Bm w O0 w O0:=Bm.refl
 replace d0:=d0.mono f0
 obtain ⟨v3,rfl,h4⟩:=d0.any
 obtain ⟨f1,rfl,rfl,r6,r7,r8⟩:=h4
 refine AK Tryz.func59 rfl Tryz.ntmps59 rfl ?_
 unfold CD at hm
 refine Al (Aj (Ar rfl rfl (Ar rfl rfl ?_)))
 obtain ⟨q9,j0,hm⟩:=bs hm
 refine Ib (O:=O0) (IH a0' (vAny (Vb.ofAgg (cs:=[(.int .i64 x1.x.cost),(.int .i64 x1.x.number),(.int .i64 x1.x.node)]) (x:=x1.x) rfl ⟨rfl,r6,r7,r8⟩)) j0) My rfl rfl rfl fun g1 k0 h1 m0 n0=>?_
 refine o_z ?_
 refine Aj (Ar rfl rfl (Ar rfl rfl ?_))
 obtain ⟨o0,i1,q0,r0,c0,b0⟩:=BxC.opn n0 2 3 (by decide)
 obtain ⟨j1,k1,rfl⟩:=b0.form
 obtain ⟨s0,t0,hm⟩:=bs hm
 refine Ic (O:=o0) (A:=All k0) (R:=fun w' F v=>Vb w' F v s0) (Ff (fun _ h=>h) (b0).all t0) (Fk (cxcell c0.1)) rfl rfl rfl fun m1 n1 o1 e0 u0=>?_
 obtain ⟨rfl,p1⟩:=u0.int
 obtain ⟨q1,g0,hm⟩:=bs hm
 have v0:=(Co g0)
 refine Ho (he:=g0) rfl rfl rfl ?_
 replace c0:=c0.st e0
 replace b0:=b0.st e0
 obtain ⟨w0,y0,z0,a1,b1⟩:=BxC.shut (x:=q9) (l0:=2) (l1:=3) (by decide) c0 b0
 obtain ⟨r1,c1,hm⟩:=bs hm
 refine Fj (O:=w0) (HO b1 v0 c1) rfl rfl fun s1 t1 u1 d1 e1=>?_
 refine o_z ?_
 obtain rfl:=sm hm
 replace hB:=((((hB.st m0).st q0).st e0).st y0).st d1
 obtain ⟨O',hS',hz,hl⟩:=hE.leave (fun q=>if q=2 then i0 else 0) rfl hB
 exact ret0n rfl  ⟨O',hS',(Ob.leave e1 hz (hl 2 (by decide) (by decide)) a0.2)⟩
noncomputable def CJ (x0:BxR 67 73 OEn):Option ((An 73 OEn)×(BxR 67 73 OEn)) :=
  bnd (BY x0.l) fun q11=>bnd (chkI (q11 - 1)) fun n19=>bnd (BT x0.l 0 n19) fun q22=>bnd (CR (⟨q22⟩:BxR 67 73 OEn) 0 n19) fun q35=>bnd (Es q35.2) fun q44=>some ((⟨q44.1.x⟩:An 73 OEn),q44.2)
theorem Hp {w:World} {O:Lab} {cx:Cx} {p0 i0:Nat} {x0:BxR 67 73 OEn} (a0:Ob i0 w O (.pointer (some ⟨p0,cx.pre.length,none⟩)) (BxR.c cx x0)) {r:(An 73 OEn)×(BxR 67 73 OEn)} (hm:CJ x0=some r) :
    Fn Tryz.prog 27 [(.iface 76 (.pointer (some ⟨p0,cx.pre.length,none⟩)))] w fun v w'=>∃ O',St (eT i0) w O w' O'∧Ob i0 w' O' (.pointer (some ⟨p0,cx.pre.length,none⟩)) (BxR.c cx r.2)∧Vb w' (Fr 0 w' O') v r.1:=by
 obtain ⟨O0,hE,h0,j0⟩:=ent1 (w:=w) (O:=O) a0.2
 have a0':=Ob.leave a0 h0 j0 (j:=2) (by decide)
 have hB:Bm w O0 w O0:=Bm.refl
 refine AK Tryz.func27 rfl Tryz.ntmps27 rfl ?_
 unfold CJ at hm
 refine Al (Aj (Au rfl rfl (o_z ?_)))
 refine Al (Aj (Ar rfl rfl ?_))
 obtain ⟨O2,v6,S3,p1,h4,h7⟩:=BxC.opn a0' 2 3 (by decide)
 obtain ⟨A8,c9,rfl⟩:=h7.form
 obtain ⟨k0,m0,hm⟩:=bs hm
 refine Ic (O:=O2) (A:=All w) (R:=fun w' F v=>Vb w' F v k0) (Ff (fun _ h=>h) (h7).all m0) (Fk (cxcell h4.1)) rfl rfl rfl fun q1 r1 n0 c0 o0=>?_
 obtain ⟨rfl,s1⟩:=o0.int
 obtain ⟨t1,d0,hm⟩:=bs hm
 have e0:=(Co d0)
 refine Ho (he:=d0) rfl rfl rfl ?_
 refine Au rfl rfl (o_z ?_)
 refine Al (Aj (Ar rfl rfl (Ar rfl rfl ?_)))
 obtain ⟨q0,r0,hm⟩:=bs hm
 replace h4:=h4.st c0
 replace h7:=h7.st c0
 refine Ib (O:=n0) (EV h7 (show inI64 (0) from by decide) e0 r0) (Fk (cxcell h4.1)) rfl rfl rfl fun u1 v1 w1 f0 g0=>?_
 refine o_z ?_
 refine Al (Aj (Ar rfl rfl (Ar rfl rfl ?_)))
 replace h4:=h4.st f0
 obtain ⟨s0,t0,u0,v0,w0⟩:=BxC.shut (x:=(⟨q0⟩:BxR 67 73 OEn)) (l0:=2) (l1:=3) (by decide) (by have q:=h4;rw [← g0.len.1.symm] at q;exact q) g0.relen
 obtain ⟨x1,y0,hm⟩:=bs hm
 refine Fj (O:=s0) (He w0 (show inI64 (0) from by decide) e0 y0) rfl rfl fun y1 z1 z0 a1 b1=>?_
 obtain ⟨c1,d1⟩:=b1
 obtain rfl:=d1.bool
 refine o_z ?_
 refine Al (Aj (Ar rfl rfl ?_))
 obtain ⟨b0,e1,hm⟩:=bs hm
 refine Ib (O:=z0) (Jf c1 e1) My rfl rfl rfl fun a2 b2 c2 f1 g1=>?_
 obtain ⟨h1,i1⟩:=g1
 obtain ⟨d2,rfl,j1⟩:=i1.any
 obtain ⟨k1,rfl,rfl,m1,n1,o1⟩:=j1
 refine Au rfl rfl (o_z ?_)
 refine AJ ?_
 obtain rfl:=sm hm
 replace hB:=(((((hB.st S3).st c0).st f0).st t0).st a1).st f1
 obtain ⟨O',hS',hz,hl⟩:=hE.leave (fun q=>if q=2 then i0 else 0) rfl hB
 exact ret1v rfl (AD rfl) ⟨O',hS',(Ob.leave h1 hz (hl 2 (by decide) (by decide)) a0.2),(vAny (Vb.ofAgg (cs:=[(.int .i64 b0.1.x.cost),(.int .i64 b0.1.x.number),(.int .i64 b0.1.x.node)]) (x:=b0.1.x) rfl ⟨rfl,m1,n1,o1⟩))⟩
end
section
open Go.Shelf
def Tryz.laysS_f96_ren:Go.Shelf.Ren:=⟨fun|6=>96|15=>105|14=>104|28=>116|29=>117|20=>108|21=>109|22=>110|23=>111|24=>112|25=>113|26=>114|27=>115|46=>127|47=>128|48=>129|49=>130|50=>131|57=>135|n=>n,fun|22=>23|24=>45|25=>159|3=>3|39=>166|0=>0|53=>176|55=>178|4=>4|46=>170|45=>169|50=>86|5=>5|9=>9|66=>184|70=>188|76=>192|77=>193|n=>n,fun|n=>n⟩
theorem Tryz.laysS_f96:Go.Proofs.SlLaysF0.n6 Tryz.prog Tryz.laysS_f96_ren:={
  mixed:=by kernel_rfl
  f6:=⟨Tryz.f96.name,by decide,Tryz.func96.trans (congrArg some (by kernel_rfl))⟩
  f14:=⟨Tryz.f104.name,by decide,Tryz.func104.trans (congrArg some (by kernel_rfl))⟩
  f15:=Tryz.func105.trans (congrArg some (by kernel_rfl))
  f20:=⟨Tryz.f108.name,by decide,Tryz.func108.trans (congrArg some (by kernel_rfl))⟩
  f21:=⟨Tryz.f109.name,by decide,Tryz.func109.trans (congrArg some (by kernel_rfl))⟩
  f22:=⟨Tryz.f110.name,by decide,Tryz.func110.trans (congrArg some (by kernel_rfl))⟩
  f23:=⟨Tryz.f111.name,by decide,Tryz.func111.trans (congrArg some (by kernel_rfl))⟩
  f24:=⟨Tryz.f112.name,by decide,Tryz.func112.trans (congrArg some (by kernel_rfl))⟩
  f25:=⟨Tryz.f113.name,by decide,Tryz.func113.trans (congrArg some (by kernel_rfl))⟩
  f26:=⟨Tryz.f114.name,by decide,Tryz.func114.trans (congrArg some (by kernel_rfl))⟩
  f27:=⟨Tryz.f115.name,by decide,Tryz.func115.trans (congrArg some (by kernel_rfl))⟩
  f28:=Tryz.func116.trans (congrArg some (by kernel_rfl))
  f29:=Tryz.func117.trans (congrArg some (by kernel_rfl))
  f46:=⟨Tryz.f127.name,by decide,Tryz.func127.trans (congrArg some (by kernel_rfl))⟩
  f47:=Tryz.func128.trans (congrArg some (by kernel_rfl))
  f48:=Tryz.func129.trans (congrArg some (by kernel_rfl))
  f49:=⟨Tryz.f130.name,by decide,Tryz.func130.trans (congrArg some (by kernel_rfl))⟩
  f50:=⟨Tryz.f131.name,by decide,Tryz.func131.trans (congrArg some (by kernel_rfl))⟩
  f57:=⟨Tryz.f135.name,by decide,Tryz.func135.trans (congrArg some (by kernel_rfl))⟩
  t0:=Tryz.underlying0
  a0:=Tryz.isAgg0
  z0:=Tryz.sizeOf0
  v0:=Tryz.zeroValue0
  t3:=Tryz.underlying3
  a3:=Tryz.isAgg3
  z3:=Tryz.sizeOf3
  v3:=Tryz.zeroValue3
  t4:=Tryz.underlying4
  a4:=Tryz.isAgg4
  z4:=Tryz.sizeOf4
  v4:=Tryz.zeroValue4
  t5:=Tryz.underlying5
  a5:=Tryz.isAgg5
  z5:=Tryz.sizeOf5
  v5:=Tryz.zeroValue5
  t9:=Tryz.underlying9
  a9:=Tryz.isAgg9
  z9:=Tryz.sizeOf9
  v9:=Tryz.zeroValue9
  t22:=Tryz.underlying23
  a22:=Tryz.isAgg23
  z22:=Tryz.sizeOf23
  v22:=Tryz.zeroValue23
  t25:=Tryz.underlying159
  a25:=Tryz.isAgg159
  z25:=Tryz.sizeOf159
  v25:=Tryz.zeroValue159
  t39:=Tryz.underlying166
  a39:=Tryz.isAgg166
  z39:=Tryz.sizeOf166
  v39:=Tryz.zeroValue166
  t45:=Tryz.underlying169
  a45:=Tryz.isAgg169
  z45:=Tryz.sizeOf169
  v45:=Tryz.zeroValue169
  t46:=Tryz.underlying170
  a46:=Tryz.isAgg170
  z46:=Tryz.sizeOf170
  v46:=Tryz.zeroValue170
  t50:=Tryz.underlying86
  a50:=Tryz.isAgg86
  z50:=Tryz.sizeOf86
  v50:=Tryz.zeroValue86
  t53:=Tryz.underlying176
  a53:=Tryz.isAgg176
  z53:=Tryz.sizeOf176
  v53:=Tryz.zeroValue176
  t55:=Tryz.underlying178
  a55:=Tryz.isAgg178
  z55:=Tryz.sizeOf178
  v55:=Tryz.zeroValue178
  t66:=Tryz.underlying184
  a66:=Tryz.isAgg184
  z66:=Tryz.sizeOf184
  v66:=Tryz.zeroValue184
  t70:=Tryz.underlying188
  a70:=Tryz.isAgg188
  z70:=Tryz.sizeOf188
  v70:=Tryz.zeroValue188
  t76:=Tryz.underlying192
  a76:=Tryz.isAgg192
  z76:=Tryz.sizeOf192
  v76:=Tryz.zeroValue192
  t77:=Tryz.underlying193
  a77:=Tryz.isAgg193
  z77:=Tryz.sizeOf193
  v77:=Tryz.zeroValue193 }
open Go.RowKit Go.Lib Go.Sort in
theorem Tryz.sortF_eq {α:Type} [Inhabited α] (k:Nat) (aE:∀ w,(isAgg 45).run Tryz.prog w=.ok true w) (zE:∀ w,(Go.sizeOf 45).run Tryz.prog w=.ok k w) (enc:α→List Value) (hk:∀ x,(enc x).length=k) (h1:∀ x,∀ v∈enc x,v.oneCell'=true) (cf:α→α→Int) (hO:SWO (ltOf cf)) (g:Nat) (cb:Array Value) (blk off cap:Nat) (d:Array α) (w:World) (eg:∀ args w,(callFunc g args).run Tryz.prog w=.ok (.enter g args) w) (hcmp:CmpLays Tryz.prog g cb enc k cf blk off d.size w) (hH:HoldsK enc k w blk off d) (hblk:blk < w.heap.size) (hsz:d.size < 4611686018427387904) :
    Calls Tryz.prog 96 #[.slice (some ⟨blk,off,none⟩) d.size cap,.func (.func g) #[] cb] w fun e w' =>
      e=.returned (.tuple #[])∧∃ n os,w'=sortWorldK enc k w blk off n (pdq (ltOf cf) d 0 d.size (Lib.bitLen d.size) true true) os:=AnyQ.slices_SortFunc_eq Tryz.laysS_f96 k aE zE enc hk h1 cf hO g cb blk off cap d w eg hcmp hH hblk hsz
open Go.RowKit Go.Lib Go.Sort in
theorem Tryz.sortF_none {α:Type} [Inhabited α] (p:Option Addr) (cap:Nat) (fv:Value) (w:World) :
    Calls Tryz.prog 96 #[.slice p 0 cap,fv] w fun e w'=>e=.returned (.tuple #[])∧w'=w:=AnyF.slices_SortFunc_none Tryz.laysS_f96 p cap fv w
end
section
open Go Go.RowKit Go.Lib Go.Sort
instance:Inhabited Fct:=⟨⟨0,0⟩⟩
def encF (x:Fct):List Value:=[.int .i64 x.var,.int .i64 x.val]
def cfF (x y:Fct):Int:=Lib.compareInt x.var y.var
theorem ltF (x y:Fct):ltOf cfF x y=decide (x.var < y.var):=by
  unfold ltOf cfF Lib.compareInt
  by_cases h:x.var < y.var
  · simp [h]
  · by_cases h2:y.var < x.var<;>simp [h,h2]
theorem swoF:SWO (ltOf cfF) where
  irrefl x:=by rw [ltF];simp
  trans x y z h1 h2:=by rw [ltF] at *;simp at *;omega
  ntrans x y z h1 h2:=by rw [ltF] at *;simp at *;omega
theorem compareI (a b:Int) (W:World):Calls Tryz.prog 98 #[.int .i64 a,.int .i64 b] W fun e w'=>e=.returned (.int .i64 (Lib.compareInt a b))∧w'=W:=by
  go_enter Tryz.func98,Tryz.ntmps98
  go_wp2
  · go_ret
    have h:a < b:=by assumption
    exact ⟨by simp [Lib.compareInt,h],rfl⟩
  · go_ret
    have h:b < a:=by assumption
    have h2:¬ a < b:=by omega
    exact ⟨by simp [Lib.compareInt,h,h2],rfl⟩
  · go_ret
    have h1:b≤a:=by assumption
    have h2:a≤b:=by assumption
    have h3:¬ a < b:=by omega
    have h4:¬ b < a:=by omega
    exact ⟨by simp [Lib.compareInt,h3,h4],rfl⟩
theorem closureF (x y:Fct) (W:World):Calls Tryz.prog 97 #[.agg #[.int .i64 x.var,.int .i64 x.val],.agg #[.int .i64 y.var,.int .i64 y.val]] W fun e w'=>e=.returned (.int .i64 (cfF x y))∧∃ q os',w'=grow (W.drewN q) os':=by
  have hcon:=fun W'=>compareI x.var y.var W'
  unfold cfF
  generalize Lib.compareInt x.var y.var=r at hcon ⊢
  go_enter Tryz.func97,Tryz.ntmps97
  go_wp2_with (go_at_call 98;refine (hcon _).mono ?_;rintro e w' ⟨rfl,rfl⟩)
  go_ret
  exact ⟨rfl,0,_,by rw [alloc_eq_grow,alloc_eq_grow,grow_grow];rfl⟩
theorem cmpLaysF (blk off size:Nat) (w:World):CmpLays Tryz.prog 97 #[] encF 2 cfF blk off size w:=fun _ _ _ _ x y=>closureF x y _
def Bb (xs:List Fct):List Fct:=(pdq (ltOf cfF) xs.toArray 0 xs.length (Lib.bitLen xs.length) true true).toList
theorem MC (xs:List Fct):PermIn 0 xs.toArray.size xs.toArray (Bb xs).toArray∧SortedIn (ltOf cfF) 0 xs.toArray.size (Bb xs).toArray:=by
  have:=pdq_sorts (ltOf cfF) swoF xs.toArray 0 xs.toArray.size (Lib.bitLen xs.length) true true (Nat.zero_le _) (Nat.le_refl _) (Or.inl rfl)
  simpa [Bb] using this
theorem DD (xs:List Fct):(Bb xs).Perm xs:=by
  obtain ⟨⟨hsz,_,hperm⟩,_⟩:=MC xs
  have e1:(Bb xs).toArray.extract 0 xs.toArray.size=(Bb xs).toArray:=by rw [← hsz];exact Array.extract_size
  rw [e1,Array.extract_size] at hperm
  simpa using hperm
theorem Dt (xs:List Fct):(Bb xs).length=xs.length:=(DD xs).length_eq
theorem Mf (xs:List Fct):(Bb xs).Pairwise fun x y=>x.var≤y.var:=by
  obtain ⟨_,hs⟩:=MC xs
  have hl:=Dt xs
  rw [List.pairwise_iff_getElem]
  intro i j hi hj hij
  have:=hs i j (Nat.zero_le _) hij (by simp;omega)
  rw [getElem!_pos _ j (by simpa using hj),getElem!_pos _ i (by simpa using hi),ltF] at this
  simpa using this
theorem flatF:∀ (xs:List Fct),(flatK encF 2 xs.toArray).toList=xs.flatMap encF:=fun xs=>by
  apply List.ext_getElem?
  intro t
  have key:∀ (l:List Fct) (t:Nat),(l.flatMap encF)[t]?=(l[t / 2]?).bind fun x=>(encF x)[t % 2]?:=by
    intro l
    induction l with
    | nil=>intro t;simp
    | cons x l ih =>
      intro t
      rw [List.flatMap_cons]
      match t with
      | 0=>rfl
      | 1=>rfl
      | t + 2 =>
        rw [List.getElem?_append_right (by simp [encF]),show t + 2 - (encF x).length=t from by simp [encF],ih]
        rw [show (t + 2) / 2=t / 2 + 1 from by omega,show (t + 2) % 2=t % 2 from by omega]
        simp
  rw [key]
  by_cases ht:t < xs.length * 2
  · have h1:t / 2 < xs.length:=by omega
    have hsz:t < (flatK encF 2 xs.toArray).size:=by simpa using ht
    rw [Array.getElem?_toList,Array.getElem?_eq_getElem hsz,List.getElem?_eq_getElem h1,Option.bind_some]
    have:=get_flatK encF 2 xs.toArray t (by simpa using ht)
    rw [getElem!_pos (flatK encF 2 xs.toArray) t hsz,getElem!_pos xs.toArray (t / 2) (by simpa using h1)] at this
    rw [this]
    have h2:t % 2 < (encF xs[t / 2]).length:=by simp [encF];omega
    rw [List.getElem?_eq_getElem h2,List.getElem_toArray,getElem!_pos (encF xs[t / 2]) (t % 2) h2]
  · have h1:(flatK encF 2 xs.toArray).size≤t:=by rw [size_flatK];simpa using (by omega:xs.length * 2≤t)
    have h2:xs[t / 2]?=none:=List.getElem?_eq_none (by omega)
    rw [Array.getElem?_toList,Array.getElem?_eq_none h1,h2]
    rfl
theorem JL {w:World} {F:Nat→Prop}:∀ {xs:List Fct} {cells:List Value},Chunks w F cells xs→cells=xs.flatMap encF∧∀ x∈xs,inI64 x.var∧inI64 x.val
  | [],_,h=>⟨h,fun _ hx=>by simp at hx⟩
  | x :: xs,cells,⟨cs,rest,he,hr,hc⟩=>by
    obtain ⟨h1,h2⟩:=JL hc
    obtain ⟨h3,h4⟩:=hr
    refine ⟨by rw [he,h3,h1];rfl,fun y hy=>?_⟩
    rcases List.mem_cons.1 hy with rfl|hy
    · exact h4
    · exact h2 y hy
theorem JM {w:World} {F:Nat→Prop}:∀ {xs:List Fct},(∀ x∈xs,inI64 x.var∧inI64 x.val)→Chunks w F (xs.flatMap encF) xs
  | [],_=>rfl
  | x :: xs,h=>⟨encF x,xs.flatMap encF,rfl,⟨rfl,h x (by simp)⟩,JM fun y hy=>h y (by simp [hy])⟩
theorem En (xs:List Fct):(xs.flatMap encF).length=xs.length * 2:=by rw [← flatF,Array.length_toList,size_flatK];simp
theorem Hq {i:Nat} {w:World} {O:Lab} {v:Value} {xs:List Fct} (hR:Rw i w O 45 v xs) (hl:xs.length < 4611686018427387904) :
    Fn Tryz.prog 96 [v,.func (.func 97) #[] #[]] w fun _ w'=>∃ O',St (eT i) w O w' O'∧Rw i w' O' 45 v (Bb xs):=by
  intro d
  rcases Nat.eq_zero_or_pos xs.length with h0|h0
  · have hx:xs=[]:=List.eq_nil_of_length_eq_zero h0
    subst hx
    obtain ⟨p,c,rfl⟩:=hR.form
    have hs:Bb []=[]:=List.eq_nil_of_length_eq_zero (Dt [])
    exact (Tryz.sortF_none (α:=Fct) p c _ (dr w d)).mono fun e w' ⟨he,hw⟩=>⟨_,w,d,he,hw,O,St.refl _ _ _,by rw [hs];exact hR⟩
  · obtain ⟨g,cap,cells,sp,rfl,hg,hFg,hb,hc,hlen,hnc,hcm,htot⟩:=hR.1.open h0
    obtain ⟨rfl,hin⟩:=JL hc
    have hfl:=flatF xs
    have hH:HoldsK encF 2 (dr w d) g 0 xs.toArray:=fun j hj=>by
      have hj':j < xs.length * 2:=by simpa using hj
      refine ⟨?_,by rw [Nat.zero_add];exact hb.frozen j⟩
      rw [Nat.zero_add]
      refine hb.cell ?_
      rw [List.getElem?_append_left (by rw [En];exact hj'),← hfl,Array.getElem?_toList,Array.getElem?_eq_getElem hj,getElem!_pos _ j hj]
      rfl
    have aE:∀ w,(isAgg 45).run Tryz.prog w=.ok true w:=fun w=>FZ w
    have zE:∀ w,(Go.sizeOf 45).run Tryz.prog w=.ok 2 w:=fun w=>DR w
    have eg:∀ args w,(callFunc 97 args).run Tryz.prog w=.ok (.enter 97 args) w:=enters_of Tryz.func97 (by kernel_rfl) rfl
    have hcall:=Tryz.sortF_eq 2 aE zE encF (fun _=>rfl) (fun x v hv=>by simp [encF] at hv;rcases hv with rfl|rfl<;>rfl) cfF swoF 97 #[] g 0 cap xs.toArray (dr w d) eg (cmpLaysF g 0 _ _) hH hb.lt (by simpa using hl)
    have e1:xs.toArray.size=xs.length:=by simp
    rw [e1] at hcall
    refine hcall.mono fun e w' ⟨he,n,os,hw⟩=>⟨_,w',w'.drawn,he,rfl,upO O w.heap.size (fun _=>0),?_,?_⟩
    · subst hw
      refine ⟨rfl,rfl,rfl,?_,fun k hk hne=>⟨?_,ED hk⟩⟩
      · show w.heap.size≤((w.heap.modify g _) ++ os).size
        simp
      · have hkg:g≠k:=fun e=>hne (by rw [← e];exact hR.2.1 g rfl)
        show ((w.heap.modify g _) ++ os)[k]?=_
        rw [Array.getElem?_append_left (by simpa using hk),Array.getElem?_modify,if_neg hkg]
    · have hpd:pdq (ltOf cfF) xs.toArray 0 xs.length (Lib.bitLen xs.length) true true=(Bb xs).toArray:=by simp [Bb]
      rw [hpd] at hw
      have hsl:=Dt xs
      have hf2:=flatF (Bb xs)
      have hblk:Blk w' g 45 ((Bb xs).flatMap encF ++ sp):=by
        subst hw
        unfold Blk at hb ⊢
        have hsz:g < w.heap.size:=Blk.lt hb
        show ((w.heap.modify g _) ++ os)[g]?=_
        rw [Array.getElem?_append_left (by simpa using hsz),Array.getElem?_modify,if_pos rfl,hb]
        simp only [Option.map_some,Go.Sort.onCells]
        congr 2
        apply Array.ext
        · simp only [Go.Sort.putCells,Array.size_mapIdx,List.size_toArray,List.length_append,En,hsl]
        · intro i h1 h2
          simp only [Go.Sort.putCells,Array.getElem_mapIdx,Nat.zero_add,Nat.sub_zero,Nat.zero_le,true_and]
          have e2:(flatK encF 2 (Bb xs).toArray).size=xs.length * 2:=by rw [size_flatK];simp [hsl]
          by_cases hi:i < xs.length * 2
          · rw [if_pos (by rw [e2];exact hi)]
            simp only [List.getElem_toArray]
            rw [List.getElem_append_left (by rw [En,hsl];exact hi)]
            rw [getElem!_pos _ _ (by rw [e2];exact hi)]
            have:=congrArg (·[i]?) hf2
            simp only [Array.getElem?_toList] at this
            rw [Array.getElem?_eq_getElem (by rw [e2];exact hi),List.getElem?_eq_getElem (by rw [En,hsl];exact hi)] at this
            exact Option.some.inj this
          · rw [if_neg (by rw [e2];exact hi)]
            simp only [List.getElem_toArray]
            rw [List.getElem_append_right (by rw [En];omega),List.getElem_append_right (by rw [En,hsl];omega)]
            simp only [En,hsl]
      have hS:∀ k,Fr 0 w O k→Fr 0 w' (upO O w.heap.size fun _=>0) k:=fun k hk=>⟨by subst hw;show k < ((w.heap.modify g _) ++ os).size;have:=hk.1;simp;omega,(ED hk.1).trans hk.2⟩
      have:=Own.close (w:=w') (base:=0) (F:=Fr 0 w O) (cap:=cap) (Nat.zero_le _) hFg hblk (JM (F:=Fr 0 w O) (w:=w') fun x hx=>hin x ((DD xs).mem_iff.1 hx)) (by rw [hsl];exact hnc) hcm (by rw [List.length_append,En] at htot ⊢;rw [hsl];exact htot)
      rw [hsl] at this
      exact this.rw hS (fun g' hg'=>by
        have:g=g':=by simpa [Value.ownBlock] using hg'
        subst this
        exact (ED hb.lt).trans (hR.2.1 g rfl)) hR.2.2
end
section
open Go Go.RowKit
attribute [local irreducible] ewp owp hwp hwq hws Ev Evg Fn retPost loud loudS Res1
noncomputable def CL (x0:Swp) (x1:List Fct):Option (List Fct) :=
  bnd (rng (ρ:=(List Fct)) (fun (k29:Nat) (a30:Fct) (s27:(List Fct))=>bnd (atI x0.vars a30.var) fun a60=>bnd (atI x0.vals a30.var) fun a72=>bnd (atI a72 a30.val) fun a87=>bnd (appI 16 s27 [(⟨a60,a87⟩:Fct)]) fun u105=>some (.next u105)) x1 0 ([]:List Fct)) fun res25=>fin res25 fun (s120:(List Fct))=>bnd (if s120.length < 4611686018427387904 then some (Bb s120) else none) fun u127=>some u127
theorem Eb {w:World} {A:Nat→Prop} (hA:∀ k,A k→k < w.heap.size) {vx0:Value} {x0:Swp} (v0:Vb w A vx0 x0) {vx1:Value} {x1:List Fct} (d0:Vb w A vx1 x1) {r:(List Fct)} (hm:CL x0 x1=some r) :
    Fn Tryz.prog 78 [vx0,vx1] w fun v w'=>Ext w w'∧Vb w' (upA A w w') v r:=by
 obtain ⟨O,hB,j2⟩:=enter hA
 replace v0:=v0.mono j2
 obtain ⟨w3,rfl,v4,v5,v6,rfl,h7,g0,j0⟩:=v0
 obtain ⟨A8,c9,rfl⟩:=h7.form
 obtain ⟨w0,y0,rfl⟩:=g0.form
 obtain ⟨z0,a1,rfl⟩:=j0.form
 replace d0:=d0.mono j2
 obtain ⟨k2,l2,rfl⟩:=d0.form
 refine AK Tryz.func78 rfl Tryz.ntmps78 rfl ?_
 unfold CL at hm
 refine Al (Aj (BS 2 O rfl rfl fun b1 o2 m2 p0 h0=>?_))
 replace h0:Lc 2 o2 m2 b1 53 [(.slice A8 x0.vars.length c9),(.slice w0 x0.vals.length y0),(.slice z0 x0.ops.length a1)]:=h0
 refine Au rfl rfl (o_z ?_)
 refine Al (Aj (Au rfl rfl (o_z ?_)))
 refine Al (Al (Aj (Ar rfl rfl (AY rfl rfl ?_))))
 replace d0:=d0.st p0
 have c1:x1.length≤9223372036854775807:=Nat.le_trans d0.len.2.1 d0.len.2.2
 have x3:inI64 (x1.length:Int):=rngNat c1
 refine Ar rfl rfl (o_z ?_)
 obtain ⟨q0,d1,hm⟩:=bs hm
 refine AH (aft q0 (fun (i0:(List Fct)) (e0:(Option Addr×Nat))=>[(5,(.slice e0.1 i0.length e0.2))]) (fun i0 e0 w'=>∃ O':Lab,Bs w A w' O'∧Rw 5 w' O' 45 (.slice e0.1 i0.length e0.2) i0)) ?_ ?_
 ·
  refine AU ?_
  replace hB:=hB.st p0
  replace h7:=h7.st p0
  replace g0:=g0.st p0
  replace j0:=j0.st p0
  refine Bu (σ:=(List Fct)) (X:=(Option Addr×Nat)) (x1.length) d1 rfl c1 (fun (i0:(List Fct)) (e0:(Option Addr×Nat))=>[(2,(.pointer (some ⟨b1,0,none⟩))),(5,(.slice e0.1 i0.length e0.2)),(8,(.slice k2 x1.length l2))]) _ (fun i0 e0 w'=>∃ O':Lab,Bs w A w' O'∧Lc 2 w' O' b1 53 [(.slice A8 x0.vars.length c9),(.slice w0 x0.vals.length y0),(.slice z0 x0.ops.length a1)]∧Vb w' (Fr 0 w' O') (.slice A8 x0.vars.length c9) x0.vars∧Vb w' (Fr 0 w' O') (.slice w0 x0.vals.length y0) x0.vals∧Vb w' (Fr 0 w' O') (.slice z0 x0.ops.length a1) x0.ops∧Rw 5 w' O' 45 (.slice e0.1 i0.length e0.2) i0∧Vb w' (Fr 0 w' O') (.slice k2 x1.length l2) x1) _ (none,0) ⟨m2,hB,h0,h7,g0,j0,(Rw.nil 5 (by decide)),d0⟩ ⟨rfl,rfl,rfl,rfl,rfl,trivial⟩ (fun _ _=>⟨rfl,rfl⟩) (fun _ _=>⟨rfl,trivial⟩) (fun _ _ _ ⟨O',hB,h0,h7,g0,j0,f0,d0⟩=>⟨O',hB,f0⟩) ⟨rfl,rfl,rfl⟩ ⟨rfl,rfl⟩ ?_
  rintro p2 n2 i0 e0 y3 q2 r0 ⟨r2,hB,h0,h7,g0,j0,f0,d0⟩ a0 e1 f1
  have rk29:inI64 (p2:Int):=rngK r0 c1
  refine Al (Aj ?_)
  obtain ⟨z3,a4,s2,g1,h1,i1,rfl,b4,c4⟩:=d0.elem' r0
  refine Bv (hA:=g1) (hj:=rfl) (hlt:=h1) rfl rfl rfl ?_
  refine Bk (hl:=rfl) (hc:=i1) rfl rfl ?_
  refine Bh 3 r2 rfl fun t2 d4 j1 k0 l0=>?_
  refine AZ l0 rfl rfl rfl (Bj rfl) (allOne rfl) fun u2 m0 l0=>?_
  replace l0:Lc 3 u2 j1 t2 45 [(.int .i64 n2.var),(.int .i64 n2.val)]:=l0
  refine o_z ?_
  refine Bt [(19,[5])] j1 ?_
  refine AT (fuel:=3) [] [(0,true),(1,true),(2,true),(3,true),(4,true),(5,true),(6,true),(7,true),(8,true),(9,true),(10,true),(11,true),(12,true),(13,true),(14,true),(15,true),(16,true),(17,true)] (by kernel_rfl) rfl ?_
  refine AL rfl rfl rfl (Bc rfl rfl rfl ?_)
  replace h0:=(h0.st k0).st m0
  refine AV (hc:=fun w' ⟨O',hq⟩=>Blk.cell (i:=0) ((h0.st hq (by decide)).1) rfl) rfl rfl rfl ?_
  refine Bc rfl rfl rfl (AV (hc:=fun w' ⟨O',hq⟩=>Blk.cell (i:=0) ((l0.st hq (by decide)).1) rfl) rfl rfl rfl ?_)
  obtain ⟨k1,v2,a0⟩:=bs a0
  obtain ⟨w2,x2⟩:=AW v2
  replace h7:=(h7.st k0).st m0
  obtain ⟨e4,f4,y2,l1,m1,n1,o1,rfl,z2⟩:=h7.elem x2
  refine Br (hA:=l1) (hj:=(Int.toNat_of_nonneg w2).symm) (hlt:=n1) rfl rfl rfl rfl ?_
  refine AV (hc:=fun w' ⟨O',hq⟩=>cat0 (AR (hq.agree (i:=0) (by decide)) m1 o1)) rfl rfl rfl ?_
  refine Bc rfl rfl rfl (AV (hc:=fun w' ⟨O',hq⟩=>Blk.cell (i:=1) ((h0.st hq (by decide)).1) rfl) rfl rfl rfl ?_)
  refine Bc rfl rfl rfl (AV (hc:=fun w' ⟨O',hq⟩=>Blk.cell (i:=0) ((l0.st hq (by decide)).1) rfl) rfl rfl rfl ?_)
  obtain ⟨g4,a3,a0⟩:=bs a0
  obtain ⟨b3,c3⟩:=AW a3
  replace g0:=(g0.st k0).st m0
  obtain ⟨h4,i4,d3,p1,q1,r1,s1,j4,rfl,u0⟩:=g0.elem c3
  replace u0:=Vb.of_slice u0
  obtain ⟨k4,l4,rfl⟩:=u0.form
  refine Br (hA:=p1) (hj:=(Int.toNat_of_nonneg b3).symm) (hlt:=r1) rfl rfl rfl rfl ?_
  refine AV (hc:=fun w' ⟨O',hq⟩=>cat0 (AR (hq.agree (i:=0) (by decide)) q1 s1)) rfl rfl rfl ?_
  refine Bc rfl rfl rfl (AV (hc:=fun w' ⟨O',hq⟩=>Blk.cell (i:=1) ((l0.st hq (by decide)).1) rfl) rfl rfl rfl ?_)
  obtain ⟨t1,e3,a0⟩:=bs a0
  obtain ⟨f3,g3⟩:=AW e3
  obtain ⟨m4,n4,h3,u1,v1,w1,y1,rfl,i3⟩:=u0.elem g3
  refine Br (hA:=u1) (hj:=(Int.toNat_of_nonneg f3).symm) (hlt:=w1) rfl rfl rfl rfl ?_
  refine AV (hc:=fun w' ⟨O',hq⟩=>cat0 (AR (hq.agree (i:=0) (by decide)) v1 y1)) rfl rfl rfl ?_
  refine Dr rfl rfl rfl rfl ?_
  refine AC ?_
  refine AP (i:=18) (by kernel_rfl) rfl ?_
  refine Cj 4 (by decide) j1 (xs:=([(⟨k1,t1⟩:Fct)]:List Fct)) rfl rfl rfl rfl ⟨(Vb.ofAgg (cs:=[(.int .i64 k1),(.int .i64 t1)]) (x:=(⟨k1,t1⟩:Fct)) rfl ⟨rfl,z2,i3⟩),trivial⟩ (by decide) (by decide) rfl fun o4 j3 k3 b0 z1=>?_
  have hZ:=b0.lst [] (fun _ h=>h.elim)
  refine AX [(19,[5])] hZ (by kernel_rfl) ?_
  refine AP (i:=19) (by kernel_rfl) rfl ?_
  obtain ⟨l3,n0,a0⟩:=bs a0
  obtain ⟨n0,a2,b2⟩:=Cc n0
  replace f0:=((f0.st k0).st m0).st b0
  refine DW rfl f0 (z1.rd) rfl rfl (by decide) a2 b2 rfl fun c2 d2 m3 n3 c0 s0=>?_
  rw [← n0] at s0 ⊢
  have hZ:=c0.lst [5] (fun _ h=>by cases h;decide)
  refine AX [] hZ (by kernel_rfl) ?_
  refine AT (fuel:=0) [] [(20,true)] (by kernel_rfl) rfl ?_
  refine Ef rfl rfl rfl (AC ?_)
  refine Bn (by kernel_rfl) ?_
  obtain rfl:=sm a0
  exact show Exists _ from ⟨_,(c2,d2),rfl,⟨rfl,rfl,rfl,rfl,rfl,trivial⟩,_,(((hB.st k0).st m0).st b0).st c0,(h0.st b0).st c0,(h7.st b0).st c0,(g0.st b0).st c0,(((j0.st k0).st m0).st b0).st c0,s0,(((d0.st k0).st m0).st b0).st c0⟩
 replace hB:=hB.st p0
 rintro o3 p3 ⟨q3,r3,rfl,t0,s3,hB,f0⟩
 replace hm:=Be hm
 refine AO _ t0 ?_
 refine Al (Aj (Ar rfl rfl ?_))
 obtain ⟨t3,o0,hm⟩:=bs hm
 obtain ⟨e2,o0⟩:=IY o0
 refine Nw (Hq f0 e2) rfl rfl fun u3 f2 v3 g2 f0=>?_
 rw [o0] at f0
 refine o_z ?_
 refine Al (Aj (Ar rfl rfl (Au rfl rfl (o_z ?_))))
 refine AJ ?_
 obtain ⟨h2,i2,f0⟩:=f0.freeze
 obtain rfl:=sm hm
 replace hB:=(hB.st g2).st i2
 exact ret1v rfl (AD rfl) ⟨hB.ext,(Vb.mono (F:=Fr 0 f2 h2) f0 hB.out)⟩
noncomputable def DJ (x0:Swp) (x1:Opr):Option Opr :=
  bnd (CL x0 x1.pre) fun q42=>bnd (some q42:Option (List Fct)) fun y44=>bnd (rng (ρ:=Opr) (fun (k88:Nat) (a89:Eff) (s86:(List Eff))=>bnd (atI x0.vars a89.var) fun a123=>bnd (atI x0.vals a89.var) fun a135=>bnd (atI a135 a89.val) fun a150=>bnd (CL x0 a89.cond) fun q162=>bnd (appI 40 s86 [(⟨q162,a123,a150⟩:Eff)]) fun u177=>some (.next u177)) x1.effs 0 ([]:List Eff)) fun res84=>fin res84 fun (s194:(List Eff))=>some (⟨(⟨#[]⟩:ByteArray),x1.cost,y44,s194⟩:Opr)
theorem Jg {w:World} {A:Nat→Prop} (hA:∀ k,A k→k < w.heap.size) {vx0:Value} {x0:Swp} (b3:Vb w A vx0 x0) {vx1:Value} {x1:Opr} (c3:Vb w A vx1 x1) {r:Opr} (hm:DJ x0 x1=some r) :
    Fn Tryz.prog 80 [vx0,vx1] w fun v w'=>Ext w w'∧Vb w' (upA A w w') v r:=by
 obtain ⟨O,hB,o4⟩:=enter hA
 replace b3:=b3.mono o4
 obtain ⟨s6,rfl,v4,v5,v6,rfl,h7,j0,l0⟩:=b3
 obtain ⟨A8,c9,rfl⟩:=h7.form
 obtain ⟨l1,m1,rfl⟩:=j0.form
 obtain ⟨n1,o1,rfl⟩:=l0.form
 replace c3:=c3.mono o4
 obtain ⟨f5,rfl,t6,u6,rfl,v0,t0,g5,w6⟩:=c3
 obtain ⟨d3,e3,rfl⟩:=v0.form
 obtain ⟨y1,z1,rfl⟩:=t0.form
 refine AK Tryz.func80 rfl Tryz.ntmps80 rfl ?_
 unfold DJ at hm
 refine Al (Aj (BS 2 O rfl rfl fun a2 h5 p4 o0 m0=>?_))
 replace m0:Lc 2 h5 p4 a2 53 [(.slice A8 x0.vars.length c9),(.slice l1 x0.vals.length m1),(.slice n1 x0.ops.length o1)]:=m0
 refine BS 3 p4 rfl rfl fun f3 i5 q4 k0 w0=>?_
 replace w0:Lc 3 i5 q4 f3 50 [(.string x1.name),(.int .i64 x1.cost),(.slice d3 x1.pre.length e3),(.slice y1 x1.effs.length z1)]:=w0
 refine Bh 4 q4 rfl fun p1 x6 g3 h0 q0=>?_
 refine o_z ?_
 refine Al ?_
 obtain ⟨a3,r4,hm⟩:=bs hm
 obtain ⟨s0,b2,hm⟩:=bs hm
 refine AH (fun l' w'=>∃ (a0:Nat×(Option Addr×Nat)) (O':Lab),subs l' [(2,(.pointer (some ⟨a2,0,none⟩))),(3,(.pointer (some ⟨f3,0,none⟩))),(4,(.pointer (some ⟨p1,0,none⟩))),(5,(.pointer (some ⟨a0.1,0,none⟩)))]∧Bs w A w' O'∧Lc 2 w' O' a2 53 [(.slice A8 x0.vars.length c9),(.slice l1 x0.vals.length m1),(.slice n1 x0.ops.length o1)]∧Vb w' (Fr 0 w' O') (.slice A8 x0.vars.length c9) x0.vars∧Vb w' (Fr 0 w' O') (.slice l1 x0.vals.length m1) x0.vals∧Vb w' (Fr 0 w' O') (.slice n1 x0.ops.length o1) x0.ops∧Lc 3 w' O' f3 50 [(.string x1.name),(.int .i64 x1.cost),(.slice d3 x1.pre.length e3),(.slice y1 x1.effs.length z1)]∧Vb w' (Fr 0 w' O') (.slice d3 x1.pre.length e3) x1.pre∧Vb w' (Fr 0 w' O') (.slice y1 x1.effs.length z1) x1.effs∧Lc 4 w' O' p1 50 [(.string (⟨#[]⟩:ByteArray)),(.int .i64 0),(.slice none 0 0),(.slice none 0 0)]∧Lc 5 w' O' a0.1 50 [(.string (⟨#[]⟩:ByteArray)),(.int .i64 x1.cost),(.slice a0.2.1 s0.length a0.2.2),(.slice none 0 0)]∧Vb w' (Fr 0 w' O') (.slice a0.2.1 s0.length a0.2.2) s0) ?_ ?_
 ·
  refine Bt [] g3 ?_
  refine AT (fuel:=4) [] [(0,true),(1,true),(2,true),(3,true),(4,true)] (by kernel_rfl) rfl ?_
  refine Bc rfl rfl rfl ?_
  replace w0:=w0.st h0
  refine AV (hc:=fun w' ⟨O',hq⟩=>Blk.cell (i:=1) ((w0.st hq (by decide)).1) rfl) rfl rfl rfl ?_
  replace m0:=(m0.st k0).st h0
  refine CU (hl:=rfl) (hb:=fun w' ⟨O',hq⟩=>((m0.st hq (by decide)).1).cellsAt) rfl rfl rfl ?_
  refine Bc rfl rfl rfl (AV (hc:=fun w' ⟨O',hq⟩=>Blk.cell (i:=2) ((w0.st hq (by decide)).1) rfl) rfl rfl rfl ?_)
  refine AC ?_
  refine ES (i:=5) (j:=7) (by kernel_rfl) rfl rfl ?_ ?_
  ·
   replace h7:=((h7.st o0).st k0).st h0
   replace j0:=((j0.st o0).st k0).st h0
   replace l0:=((l0.st o0).st k0).st h0
   replace v0:=((v0.st o0).st k0).st h0
   refine Bq (O:=g3) (R:=fun w' F v=>Vb w' F v a3) (Eb Fr.lt (Vb.ofAgg (cs:=[(.slice A8 x0.vars.length c9),(.slice l1 x0.vals.length m1),(.slice n1 x0.ops.length o1)]) (x:=x0) rfl ⟨_,_,_,rfl,h7,j0,l0⟩) v0 r4) rfl rfl fun y6 z6 j5 b1 s4=>?_
   obtain ⟨t4,u4,rfl⟩:=s4.form
   have hZ:=b1.lst [] (fun _ h=>h.elim)
   refine AX [] hZ (by kernel_rfl) ?_
   refine AT (fuel:=2) [] [(6,true)] (by kernel_rfl) rfl ?_
   refine Dr rfl rfl rfl rfl ?_
   refine AC ?_
   refine AP (i:=7) (by kernel_rfl) rfl ?_
   refine Bh 5 j5 rfl fun w4 a7 k5 z0 c2=>?_
   have hZ:=z0.lst [] (fun _ h=>h.elim)
   refine AX [] hZ (by kernel_rfl) ?_
   refine AP (i:=8) (by kernel_rfl) rfl ?_
   refine AZ c2 rfl rfl rfl (Bj rfl) (allOne rfl) fun l5 c1 c2=>?_
   replace c2:Lc 5 l5 k5 w4 50 [(.string (⟨#[]⟩:ByteArray)),(.int .i64 x1.cost),(.slice t4 a3.length u4),(.slice none 0 0)]:=c2
   refine BZ (by kernel_rfl) ?_
   refine Bn (by kernel_rfl) ?_
   obtain rfl:=sm b2
   exact ⟨(w4,(t4,u4)),_,⟨rfl,rfl,rfl,rfl,trivial⟩,(((((hB.st o0).st k0).st h0).st b1).st z0).st c1,((m0.st b1).st z0).st c1,((h7.st b1).st z0).st c1,((j0.st b1).st z0).st c1,((l0.st b1).st z0).st c1,((w0.st b1).st z0).st c1,((v0.st b1).st z0).st c1,(((((t0.st o0).st k0).st h0).st b1).st z0).st c1,((q0.st b1).st z0).st c1,c2,(s4.st z0).st c1⟩
  refine Bh 5 g3 rfl fun x4 b7 m5 d1 q1=>?_
  have hZ:=d1.lst [] (fun _ h=>h.elim)
  refine AX [] hZ (by kernel_rfl) ?_
  refine AP (i:=5) (by kernel_rfl) rfl ?_
  replace h7:=(((h7.st o0).st k0).st h0).st d1
  replace j0:=(((j0.st o0).st k0).st h0).st d1
  replace l0:=(((l0.st o0).st k0).st h0).st d1
  replace v0:=(((v0.st o0).st k0).st h0).st d1
  refine Bq (O:=m5) (R:=fun w' F v=>Vb w' F v a3) (Eb Fr.lt (Vb.ofAgg (cs:=[(.slice A8 x0.vars.length c9),(.slice l1 x0.vals.length m1),(.slice n1 x0.ops.length o1)]) (x:=x0) rfl ⟨_,_,_,rfl,h7,j0,l0⟩) v0 r4) rfl rfl fun c7 d7 n5 a1 y4=>?_
  obtain ⟨z4,a5,rfl⟩:=y4.form
  have hZ:=a1.lst [] (fun _ h=>h.elim)
  refine AX [] hZ (by kernel_rfl) ?_
  refine AT (fuel:=1) [] [(6,true)] (by kernel_rfl) rfl ?_
  refine Dr rfl rfl rfl rfl ?_
  refine AC ?_
  refine AP (i:=8) (by kernel_rfl) rfl ?_
  replace q1:=q1.st a1
  refine AZ q1 rfl rfl rfl (Bj rfl) (allOne rfl) fun o5 e1 q1=>?_
  replace q1:Lc 5 o5 n5 x4 50 [(.string (⟨#[]⟩:ByteArray)),(.int .i64 x1.cost),(.slice z4 a3.length a5),(.slice none 0 0)]:=q1
  refine BZ (by kernel_rfl) ?_
  refine Bn (by kernel_rfl) ?_
  obtain rfl:=sm b2
  exact ⟨(x4,(z4,a5)),_,⟨rfl,rfl,rfl,rfl,trivial⟩,(((((hB.st o0).st k0).st h0).st d1).st a1).st e1,((m0.st d1).st a1).st e1,(h7.st a1).st e1,(j0.st a1).st e1,(l0.st a1).st e1,((w0.st d1).st a1).st e1,(v0.st a1).st e1,(((((t0.st o0).st k0).st h0).st d1).st a1).st e1,((q0.st d1).st a1).st e1,q1,y4.st e1⟩
 replace hB:=((hB.st o0).st k0).st h0
 replace h7:=((h7.st o0).st k0).st h0
 replace j0:=((j0.st o0).st k0).st h0
 replace l0:=((l0.st o0).st k0).st h0
 replace v0:=((v0.st o0).st k0).st h0
 replace t0:=((t0.st o0).st k0).st h0
 replace m0:=(m0.st k0).st h0
 replace w0:=w0.st h0
 rintro e7 f7 ⟨a0,p5,h3,hB,m0,h7,j0,l0,w0,v0,t0,q0,r0,g1⟩
 refine AO _ h3 ?_
 refine Al (Al (Aj (AN rfl rfl (AG (hc:=Blk.cell (i:=3) (w0.1) rfl) rfl rfl ?_))))
 refine AY rfl rfl ?_
 have i3:x1.effs.length≤9223372036854775807:=Nat.le_trans t0.len.2.1 t0.len.2.2
 have g7:inI64 (x1.effs.length:Int):=rngNat i3
 refine Ar rfl rfl (o_z ?_)
 obtain ⟨d2,j3,hm⟩:=bs hm
 refine AH (aft d2 (fun (f1:(List Eff)) (y0:(Option Addr×Nat))=>[(4,(.pointer (some ⟨p1,0,none⟩))),(5,(.pointer (some ⟨a0.1,0,none⟩)))]) (fun f1 y0 w'=>∃ O':Lab,Bs w A w' O'∧Lc 4 w' O' p1 50 [(.string (⟨#[]⟩:ByteArray)),(.int .i64 0),(.slice none 0 0),(.slice none 0 0)]∧Lc 5 w' O' a0.1 50 [(.string (⟨#[]⟩:ByteArray)),(.int .i64 x1.cost),(.slice a0.2.1 s0.length a0.2.2),(.slice y0.1 f1.length y0.2)]∧Vb w' (Fr 0 w' O') (.slice a0.2.1 s0.length a0.2.2) s0∧Rw 8 w' O' 47 (.slice y0.1 f1.length y0.2) f1)) ?_ ?_
 ·
  refine AU (Bu (σ:=(List Eff)) (X:=(Option Addr×Nat)) (x1.effs.length) j3 rfl i3 (fun (f1:(List Eff)) (y0:(Option Addr×Nat))=>[(2,(.pointer (some ⟨a2,0,none⟩))),(4,(.pointer (some ⟨p1,0,none⟩))),(5,(.pointer (some ⟨a0.1,0,none⟩))),(16,(.slice y1 x1.effs.length z1))]) _ (fun f1 y0 w'=>∃ O':Lab,Bs w A w' O'∧Lc 2 w' O' a2 53 [(.slice A8 x0.vars.length c9),(.slice l1 x0.vals.length m1),(.slice n1 x0.ops.length o1)]∧Vb w' (Fr 0 w' O') (.slice A8 x0.vars.length c9) x0.vars∧Vb w' (Fr 0 w' O') (.slice l1 x0.vals.length m1) x0.vals∧Vb w' (Fr 0 w' O') (.slice n1 x0.ops.length o1) x0.ops∧Lc 4 w' O' p1 50 [(.string (⟨#[]⟩:ByteArray)),(.int .i64 0),(.slice none 0 0),(.slice none 0 0)]∧Lc 5 w' O' a0.1 50 [(.string (⟨#[]⟩:ByteArray)),(.int .i64 x1.cost),(.slice a0.2.1 s0.length a0.2.2),(.slice y0.1 f1.length y0.2)]∧Vb w' (Fr 0 w' O') (.slice a0.2.1 s0.length a0.2.2) s0∧Rw 8 w' O' 47 (.slice y0.1 f1.length y0.2) f1∧Vb w' (Fr 0 w' O') (.slice y1 x1.effs.length z1) x1.effs) _ (none,0) ⟨p5,hB,m0,h7,j0,l0,q0,r0,g1,(Rw.nil 8 (by decide)),t0⟩ ⟨rfl,rfl,rfl,rfl,rfl,rfl,trivial⟩ (fun _ _=>⟨rfl,rfl⟩) (fun _ _=>⟨rfl,rfl,trivial⟩) (fun _ _ _ ⟨O',hB,m0,h7,j0,l0,q0,r0,g1,b0,t0⟩=>⟨O',hB,q0,r0,g1,b0⟩) ⟨rfl,rfl,rfl⟩ ⟨rfl,rfl⟩ ?_)
  rintro q5 k3 f1 y0 i7 r5 e2 ⟨s5,hB,m0,h7,j0,l0,q0,r0,g1,b0,t0⟩ c0 l3 m3
  have rk88:inI64 (q5:Int):=rngK e2 i3
  refine Al (Aj ?_)
  obtain ⟨t5,u5,b5,f2,g2,h2,w5,rfl,h1,x5,y5⟩:=t0.elem' e2
  obtain ⟨n3,o3,rfl⟩:=h1.form
  refine Bv (hA:=f2) (hj:=rfl) (hlt:=g2) rfl rfl rfl ?_
  refine Bk (hl:=rfl) (hc:=h2) rfl rfl ?_
  refine Bh 6 s5 rfl fun p3 z5 r1 d0 p0=>?_
  refine AZ p0 rfl rfl rfl (Bj rfl) (allOne rfl) fun q3 e0 p0=>?_
  replace p0:Lc 6 q3 r1 p3 47 [(.slice n3 k3.cond.length o3),(.int .i64 k3.var),(.int .i64 k3.val)]:=p0
  refine o_z ?_
  refine Bt [(24,[8])] r1 ?_
  refine AT (fuel:=6) [] [(0,true),(1,true),(2,true),(3,true),(4,true),(6,true),(7,true),(8,true),(9,true),(10,true),(11,true),(12,true),(13,true),(14,true),(15,true),(16,true),(17,true),(18,true),(19,true),(20,true),(21,true)] (by kernel_rfl) rfl ?_
  refine Bc rfl rfl rfl ?_
  replace r0:=(r0.st d0).st e0
  refine AV (hc:=fun w' ⟨O',hq⟩=>Blk.cell (i:=3) ((r0.st hq (by decide)).1) rfl) rfl rfl rfl ?_
  replace m0:=(m0.st d0).st e0
  refine CU (hl:=rfl) (hb:=fun w' ⟨O',hq⟩=>((m0.st hq (by decide)).1).cellsAt) rfl rfl rfl ?_
  refine Bc rfl rfl rfl (AV (hc:=fun w' ⟨O',hq⟩=>Blk.cell (i:=0) ((p0.st hq (by decide)).1) rfl) rfl rfl rfl ?_)
  refine Bc rfl rfl rfl (AV (hc:=fun w' ⟨O',hq⟩=>Blk.cell (i:=0) ((m0.st hq (by decide)).1) rfl) rfl rfl rfl ?_)
  refine Bc rfl rfl rfl (AV (hc:=fun w' ⟨O',hq⟩=>Blk.cell (i:=1) ((p0.st hq (by decide)).1) rfl) rfl rfl rfl ?_)
  obtain ⟨s1,r3,c0⟩:=bs c0
  obtain ⟨s3,t3⟩:=AW r3
  replace h7:=(h7.st d0).st e0
  obtain ⟨a6,b6,c5,i2,j2,k2,l2,rfl,u3⟩:=h7.elem t3
  refine Br (hA:=i2) (hj:=(Int.toNat_of_nonneg s3).symm) (hlt:=k2) rfl rfl rfl rfl ?_
  refine AV (hc:=fun w' ⟨O',hq⟩=>cat0 (AR (hq.agree (i:=0) (by decide)) j2 l2)) rfl rfl rfl ?_
  refine Bc rfl rfl rfl (AV (hc:=fun w' ⟨O',hq⟩=>Blk.cell (i:=1) ((m0.st hq (by decide)).1) rfl) rfl rfl rfl ?_)
  refine Bc rfl rfl rfl (AV (hc:=fun w' ⟨O',hq⟩=>Blk.cell (i:=1) ((p0.st hq (by decide)).1) rfl) rfl rfl rfl ?_)
  obtain ⟨c6,v3,c0⟩:=bs c0
  obtain ⟨w3,x3⟩:=AW v3
  replace j0:=(j0.st d0).st e0
  obtain ⟨d6,e6,d5,m2,n2,o2,p2,f6,rfl,i1⟩:=j0.elem x3
  replace i1:=Vb.of_slice i1
  obtain ⟨g6,h6,rfl⟩:=i1.form
  refine Br (hA:=m2) (hj:=(Int.toNat_of_nonneg w3).symm) (hlt:=o2) rfl rfl rfl rfl ?_
  refine AV (hc:=fun w' ⟨O',hq⟩=>cat0 (AR (hq.agree (i:=0) (by decide)) n2 p2)) rfl rfl rfl ?_
  refine Bc rfl rfl rfl (AV (hc:=fun w' ⟨O',hq⟩=>Blk.cell (i:=2) ((p0.st hq (by decide)).1) rfl) rfl rfl rfl ?_)
  obtain ⟨t1,y3,c0⟩:=bs c0
  obtain ⟨z3,a4⟩:=AW y3
  obtain ⟨i6,j6,e5,q2,r2,s2,t2,rfl,b4⟩:=i1.elem a4
  refine Br (hA:=q2) (hj:=(Int.toNat_of_nonneg z3).symm) (hlt:=s2) rfl rfl rfl rfl ?_
  refine AV (hc:=fun w' ⟨O',hq⟩=>cat0 (AR (hq.agree (i:=0) (by decide)) r2 t2)) rfl rfl rfl ?_
  refine AC ?_
  refine AP (i:=5) (by kernel_rfl) rfl ?_
  obtain ⟨j1,c4,c0⟩:=bs c0
  replace l0:=(l0.st d0).st e0
  replace h1:=(h1.st d0).st e0
  refine Bq (O:=r1) (R:=fun w' F v=>Vb w' F v j1) (Eb Fr.lt (Vb.ofAgg (cs:=[(.slice A8 x0.vars.length c9),(.slice l1 x0.vals.length m1),(.slice n1 x0.ops.length o1)]) (x:=x0) rfl ⟨_,_,_,rfl,h7,j0,l0⟩) h1 c4) rfl rfl fun k6 l6 d4 f0 u2=>?_
  obtain ⟨e4,f4,rfl⟩:=u2.form
  have hZ:=f0.lst [] (fun _ h=>h.elim)
  refine AX [(24,[8])] hZ (by kernel_rfl) ?_
  refine AT (fuel:=4) [] [(22,true)] (by kernel_rfl) rfl ?_
  refine Dr rfl rfl rfl rfl ?_
  refine AC ?_
  refine AP (i:=23) (by kernel_rfl) rfl ?_
  refine Cj 7 (by decide) d4 (xs:=([(⟨j1,s1,t1⟩:Eff)]:List Eff)) rfl rfl rfl rfl ⟨(Vb.ofAgg (cs:=[(.slice e4 j1.length f4),(.int .i64 s1),(.int .i64 t1)]) (x:=(⟨j1,s1,t1⟩:Eff)) rfl ⟨_,rfl,u2,u3,b4⟩),trivial⟩ (by decide) (by decide) rfl fun m6 n6 o6 g0 g4=>?_
  have hZ:=g0.lst [] (fun _ h=>h.elim)
  refine AX [(24,[8])] hZ (by kernel_rfl) ?_
  refine AP (i:=24) (by kernel_rfl) rfl ?_
  obtain ⟨h4,u1,c0⟩:=bs c0
  obtain ⟨u1,i4,j4⟩:=Cc u1
  replace b0:=(((b0.st d0).st e0).st f0).st g0
  refine DW rfl b0 (g4.rd) rfl rfl (by decide) i4 j4 rfl fun v2 w2 p6 k4 i0 x2=>?_
  rw [← u1] at x2 ⊢
  have hZ:=i0.lst [8] (fun _ h=>by cases h;decide)
  refine AX [] hZ (by kernel_rfl) ?_
  refine AT (fuel:=1) [] [(25,true)] (by kernel_rfl) rfl ?_
  refine Bc rfl rfl rfl (AC ?_)
  refine AP (i:=26) (by kernel_rfl) rfl ?_
  replace r0:=((r0.st f0).st g0).st i0
  refine AZ r0 rfl rfl rfl (Bj rfl) (allOne rfl) fun l4 n0 r0=>?_
  replace r0:Lc 5 l4 k4 a0.1 50 [(.string (⟨#[]⟩:ByteArray)),(.int .i64 x1.cost),(.slice a0.2.1 s0.length a0.2.2),(.slice v2 h4.length w2)]:=r0
  refine BZ (by kernel_rfl) ?_
  refine Bn (by kernel_rfl) ?_
  obtain rfl:=sm c0
  exact show Exists _ from ⟨_,(v2,w2),rfl,⟨rfl,rfl,rfl,rfl,rfl,rfl,trivial⟩,_,(((((hB.st d0).st e0).st f0).st g0).st i0).st n0,(((m0.st f0).st g0).st i0).st n0,(((h7.st f0).st g0).st i0).st n0,(((j0.st f0).st g0).st i0).st n0,(((l0.st f0).st g0).st i0).st n0,(((((q0.st d0).st e0).st f0).st g0).st i0).st n0,r0,(((((g1.st d0).st e0).st f0).st g0).st i0).st n0,x2.st n0,(((((t0.st d0).st e0).st f0).st g0).st i0).st n0⟩
 rintro q6 r6 ⟨k1,u0,rfl,y2,m4,hB,q0,r0,g1,b0⟩
 replace hm:=Be hm
 refine AO _ y2 ?_
 refine Al (Aj (Bk (hl:=rfl) (hc:=(r0.1).cellsAt) rfl rfl ?_))
 refine AZ q0 rfl rfl rfl (Bj rfl) (allOne rfl) fun z2 v1 q0=>?_
 replace q0:Lc 4 z2 m4 p1 50 [(.string (⟨#[]⟩:ByteArray)),(.int .i64 x1.cost),(.slice a0.2.1 s0.length a0.2.2),(.slice u0.1 k1.length u0.2)]:=q0
 refine o_z ?_
 refine AJ ?_
 replace b0:=b0.st v1
 obtain ⟨n4,w1,b0⟩:=b0.freeze
 obtain rfl:=sm hm
 replace hB:=(hB.st v1).st w1
 replace q0:=q0.st w1
 replace g1:=(g1.st v1).st w1
 exact ret1v rfl (Cm (cs:=[(.string (⟨#[]⟩:ByteArray)),(.int .i64 x1.cost),(.slice a0.2.1 s0.length a0.2.2),(.slice u0.1 k1.length u0.2)]) rfl rfl q0.1.cellsAt) ⟨hB.ext,(Vb.mono (F:=Fr 0 z2 n4) (Vb.ofAgg (cs:=[(.string (⟨#[]⟩:ByteArray)),(.int .i64 x1.cost),(.slice a0.2.1 s0.length a0.2.2),(.slice u0.1 k1.length u0.2)]) (x:=(⟨(⟨#[]⟩:ByteArray),x1.cost,s0,k1⟩:Opr)) rfl ⟨_,_,rfl,g1,b0,g5,(show (⟨#[]⟩:ByteArray).size≤9223372036854775807 from by decide)⟩) hB.out)⟩
noncomputable def Du (x0:Tsk) (x1:Swp):Option Bool :=
  bnd (bnd (DH x0 x1) fun q47=>if q47=true then bnd (BV x1.ops (x0.ops.length:Int)) fun q56=>if q56=true then bnd (CL x1 x0.goal) fun q63=>bnd (BF q63 x0.goal) fun q72=>if q72=true then some false else some true else some true else some true:Option Bool) fun y43=>if y43=true then (some false) else (bnd (rng (ρ:=Bool) (fun (k90:Nat) (a91:Opr) (s88:Unit)=>bnd (x1.ops[k90]?) fun a125=>bnd (atI x0.ops a125) fun a135=>bnd (DJ x1 a91) fun q156=>bnd (DI q156 a135) fun q174=>if q174=true then some (.next ()) else some (.ret false)) x0.ops 0 ()) fun res86=>fin res86 fun (s185:Unit)=>some true)
theorem HH {w:World} {A:Nat→Prop} (hA:∀ k,A k→k < w.heap.size) {vx0:Value} {x0:Tsk} (w2:Vb w A vx0 x0) {vx1:Value} {x1:Swp} (x2:Vb w A vx1 x1) {r:Bool} (hm:Du x0 x1=some r) :
    Fn Tryz.prog 54 [vx0,vx1] w fun v w'=>Ext w w'∧Vb w' (upA A w w') v r:=by
 obtain ⟨O,hB,d4⟩:=enter hA
 replace w2:=w2.mono d4
 obtain ⟨i6,rfl,v4,v5,v6,v7,rfl,h8,t0,m0,h0⟩:=w2
 obtain ⟨A9,p1,rfl⟩:=h8.form
 obtain ⟨q1,r1,rfl⟩:=t0.form
 obtain ⟨s1,t1,rfl⟩:=m0.form
 obtain ⟨j1,k1,rfl⟩:=h0.form
 replace x2:=x2.mono d4
 obtain ⟨p4,rfl,j6,k6,l6,rfl,n0,o0,i0⟩:=x2
 obtain ⟨d1,e1,rfl⟩:=n0.form
 obtain ⟨f1,g1,rfl⟩:=o0.form
 obtain ⟨h1,i1,rfl⟩:=i0.form
 refine AK Tryz.func54 rfl Tryz.ntmps54 rfl ?_
 unfold Du at hm
 refine Al (Aj (BS 2 O rfl rfl fun u1 q4 e4 s0 e0=>?_))
 replace e0:Lc 2 q4 e4 u1 26 [(.slice A9 x0.vars.length p1),(.slice q1 x0.init.length r1),(.slice s1 x0.goal.length t1),(.slice j1 x0.ops.length k1)]:=e0
 refine BS 3 e4 rfl rfl fun v1 t2 w1 p0 l0=>?_
 replace l0:Lc 3 t2 w1 v1 53 [(.slice d1 x1.vars.length e1),(.slice f1 x1.vals.length g1),(.slice h1 x1.ops.length i1)]:=l0
 refine Au rfl rfl (o_z ?_)
 refine Al (Al ?_)
 obtain ⟨r4,a0,hm⟩:=bs hm
 refine AH (fun l' w'=>∃ (s4:Unit) (O':Lab),subs l' [(2,(.pointer (some ⟨u1,0,none⟩))),(3,(.pointer (some ⟨v1,0,none⟩))),(29,(.bool r4))]∧Bs w A w' O'∧Lc 2 w' O' u1 26 [(.slice A9 x0.vars.length p1),(.slice q1 x0.init.length r1),(.slice s1 x0.goal.length t1),(.slice j1 x0.ops.length k1)]∧Vb w' (Fr 0 w' O') (.slice A9 x0.vars.length p1) x0.vars∧Vb w' (Fr 0 w' O') (.slice q1 x0.init.length r1) x0.init∧Vb w' (Fr 0 w' O') (.slice s1 x0.goal.length t1) x0.goal∧Vb w' (Fr 0 w' O') (.slice j1 x0.ops.length k1) x0.ops∧Lc 3 w' O' v1 53 [(.slice d1 x1.vars.length e1),(.slice f1 x1.vals.length g1),(.slice h1 x1.ops.length i1)]∧Vb w' (Fr 0 w' O') (.slice d1 x1.vars.length e1) x1.vars∧Vb w' (Fr 0 w' O') (.slice f1 x1.vals.length g1) x1.vals∧Vb w' (Fr 0 w' O') (.slice h1 x1.ops.length i1) x1.ops) ?_ ?_
 ·
  refine Bt [] w1 ?_
  refine AT (fuel:=21) [] [(0,true),(1,true)] (by kernel_rfl) rfl ?_
  replace e0:=e0.st p0
  refine CU (hl:=rfl) (hb:=fun w' ⟨O',hq⟩=>((e0.st hq (by decide)).1).cellsAt) rfl rfl rfl ?_
  refine CU (hl:=rfl) (hb:=fun w' ⟨O',hq⟩=>((l0.st hq (by decide)).1).cellsAt) rfl rfl rfl ?_
  refine AC ?_
  refine AP (i:=2) (by kernel_rfl) rfl ?_
  obtain ⟨f4,t4,a0⟩:=bs a0
  replace h8:=(h8.st s0).st p0
  replace t0:=(t0.st s0).st p0
  replace m0:=(m0.st s0).st p0
  replace h0:=(h0.st s0).st p0
  replace n0:=(n0.st s0).st p0
  replace o0:=(o0.st s0).st p0
  replace i0:=(i0.st s0).st p0
  refine Bi (O:=w1) (A:=All t2) (R:=fun w' F v=>Vb w' F v f4) (Jc (fun _ h=>h) (Vb.mono (F:=Fr 0 t2 w1) (Vb.ofAgg (cs:=[(.slice A9 x0.vars.length p1),(.slice q1 x0.init.length r1),(.slice s1 x0.goal.length t1),(.slice j1 x0.ops.length k1)]) (x:=x0) rfl ⟨_,_,_,_,rfl,h8,t0,m0,h0⟩) Fr.lt) (Vb.mono (F:=Fr 0 t2 w1) (Vb.ofAgg (cs:=[(.slice d1 x1.vars.length e1),(.slice f1 x1.vals.length g1),(.slice h1 x1.ops.length i1)]) (x:=x1) rfl ⟨_,_,_,rfl,n0,o0,i0⟩) Fr.lt) t4) rfl rfl fun m6 g4 h4 b0 u4=>?_
  obtain rfl:=u4.bool
  have hZ:=b0.lst [] (fun _ h=>h.elim)
  cases f4
  case false =>
   replace a0:=iF a0
   refine AX [] hZ (by kernel_rfl) ?_
   refine AT (fuel:=13) [] [(3,true),(4,true),(5,true),(6,true),(7,true),(8,true),(9,true)] (by kernel_rfl) rfl ?_
   refine MT rfl rfl rfl (AL rfl rfl rfl (Bd rfl rfl rfl rfl rfl (Bd rfl rfl rfl rfl rfl (Bd rfl rfl rfl rfl rfl (Bd rfl rfl rfl rfl rfl (Bd rfl rfl rfl rfl rfl (AC ?_)))))))
   refine AP (i:=10) (by kernel_rfl) rfl ?_
   refine Ay rfl rfl rfl rfl (AX [] ((St.refl nT _ _).lst [] (fun _ h=>h.elim)) (by kernel_rfl) ?_)
   refine AT (fuel:=4) [] [(11,true),(12,true),(13,true),(14,true),(15,true),(16,true),(18,true),(19,true)] (by kernel_rfl) rfl ?_
   refine Bd rfl rfl rfl rfl rfl (Cf rfl rfl rfl rfl (AL rfl rfl rfl (Bd rfl rfl rfl rfl rfl (Bd rfl rfl rfl rfl rfl (Bd rfl rfl rfl rfl rfl (Bd rfl rfl rfl rfl rfl (Bd rfl rfl rfl rfl rfl (AC ?_))))))))
   refine AP (i:=17) (by kernel_rfl) rfl ?_
   refine Ay rfl rfl rfl rfl (AX [] ((St.refl nT _ _).lst [] (fun _ h=>h.elim)) (by kernel_rfl) ?_)
   refine AP (i:=20) (by kernel_rfl) rfl ?_
   refine Ay rfl rfl rfl rfl (AX [] ((St.refl nT _ _).lst [] (fun _ h=>h.elim)) (by kernel_rfl) ?_)
   refine AT (fuel:=0) [] [(21,true),(22,true)] (by kernel_rfl) rfl ?_
   refine Bd rfl rfl rfl rfl rfl (Cf rfl rfl rfl rfl (AC ?_))
   refine Bn (by kernel_rfl) ?_
   obtain rfl:=sm a0
   exact ⟨(),_,⟨rfl,rfl,rfl,trivial⟩,((hB.st s0).st p0).st b0,e0.st b0,h8.st b0,t0.st b0,m0.st b0,h0.st b0,l0.st b0,n0.st b0,o0.st b0,i0.st b0⟩
  replace a0:=iT a0
  refine AX [] hZ (by kernel_rfl) ?_
  refine AT (fuel:=13) [] [(3,true),(4,true),(5,true),(6,true),(7,true),(8,true),(9,true)] (by kernel_rfl) rfl ?_
  refine Lm rfl rfl rfl (AL rfl rfl rfl (AA rfl (Aw rfl rfl (BH rfl rfl (AA rfl (Aw rfl rfl ?_))))))
  replace l0:=l0.st b0
  refine Dp (hc:=fun w' ⟨O',hq⟩=>Blk.cell (i:=2) ((l0.st hq (by decide)).1) rfl) rfl rfl ?_
  refine AA rfl (Aw rfl rfl (BH rfl rfl (AA rfl (Aw rfl rfl ?_))))
  replace e0:=e0.st b0
  refine Dp (hc:=fun w' ⟨O',hq⟩=>Blk.cell (i:=3) ((e0.st hq (by decide)).1) rfl) rfl rfl ?_
  refine AA rfl (Aw rfl rfl (Gb rfl rfl ?_))
  replace h0:=h0.st b0
  have w4:x0.ops.length≤9223372036854775807:=Nat.le_trans h0.len.2.1 h0.len.2.2
  have x4:inI64 (x0.ops.length:Int):=rngNat w4
  refine AC ?_
  refine AP (i:=10) (by kernel_rfl) rfl ?_
  refine Az rfl rfl ?_
  obtain ⟨i4,y4,a0⟩:=bs a0
  replace i0:=i0.st b0
  refine Bi (O:=h4) (A:=All g4) (R:=fun w' F v=>Vb w' F v i4) (DX (fun _ h=>h) (Vb.mono (F:=Fr 0 g4 h4) i0 Fr.lt) x4 y4) rfl rfl fun n6 o6 z4 j0 a5=>?_
  obtain rfl:=a5.bool
  have hZ:=j0.lst [] (fun _ h=>h.elim)
  cases i4
  case false =>
   replace a0:=iF a0
   refine AX [] hZ (by kernel_rfl) ?_
   refine AT (fuel:=4) [] [(11,true),(12,true),(13,true),(14,true),(15,true),(16,true),(18,true),(19,true)] (by kernel_rfl) rfl ?_
   refine AA rfl (Aw rfl rfl (GB rfl rfl (BN rfl rfl rfl rfl (AL rfl rfl rfl (Bd rfl rfl rfl rfl rfl (Bd rfl rfl rfl rfl rfl (Bd rfl rfl rfl rfl rfl (Bd rfl rfl rfl rfl rfl (Bd rfl rfl rfl rfl rfl (AC ?_))))))))))
   refine AP (i:=17) (by kernel_rfl) rfl ?_
   refine Ay rfl rfl rfl rfl (AX [] ((St.refl nT _ _).lst [] (fun _ h=>h.elim)) (by kernel_rfl) ?_)
   refine AP (i:=20) (by kernel_rfl) rfl ?_
   refine Ay rfl rfl rfl rfl (AX [] ((St.refl nT _ _).lst [] (fun _ h=>h.elim)) (by kernel_rfl) ?_)
   refine AT (fuel:=0) [] [(21,true),(22,true)] (by kernel_rfl) rfl ?_
   refine Bd rfl rfl rfl rfl rfl (Cf rfl rfl rfl rfl (AC ?_))
   refine Bn (by kernel_rfl) ?_
   obtain rfl:=sm a0
   exact ⟨(),_,⟨rfl,rfl,rfl,trivial⟩,(((hB.st s0).st p0).st b0).st j0,e0.st j0,(h8.st b0).st j0,(t0.st b0).st j0,(m0.st b0).st j0,h0.st j0,l0.st j0,(n0.st b0).st j0,(o0.st b0).st j0,i0.st j0⟩
  replace a0:=iT a0
  refine AX [] hZ (by kernel_rfl) ?_
  refine AT (fuel:=4) [] [(11,true),(12,true),(13,true),(14,true),(15,true),(16,true),(18,true),(19,true)] (by kernel_rfl) rfl ?_
  refine AA rfl (Aw rfl rfl (GA rfl rfl (BN rfl rfl rfl rfl (AL rfl rfl rfl (AA rfl (Aw rfl rfl ?_))))))
  replace l0:=l0.st j0
  refine Iy (hl:=rfl) (hb:=fun w' ⟨O',hq⟩=>((l0.st hq (by decide)).1).cellsAt) rfl rfl ?_
  refine AA rfl (Aw rfl rfl (BH rfl rfl (AA rfl (Aw rfl rfl ?_))))
  replace e0:=e0.st j0
  refine Dp (hc:=fun w' ⟨O',hq⟩=>Blk.cell (i:=2) ((e0.st hq (by decide)).1) rfl) rfl rfl ?_
  refine AA rfl (Aw rfl rfl (BH rfl rfl (AA rfl (Aw rfl rfl (Dp (hc:=fun w' ⟨O',hq⟩=>Blk.cell (i:=2) ((e0.st hq (by decide)).1) rfl) rfl rfl ?_)))))
  refine AC ?_
  refine AP (i:=17) (by kernel_rfl) rfl ?_
  refine Az rfl rfl ?_
  obtain ⟨b5,c5,a0⟩:=bs a0
  replace m0:=(m0.st b0).st j0
  replace n0:=(n0.st b0).st j0
  replace o0:=(o0.st b0).st j0
  replace i0:=i0.st j0
  refine Bq (O:=z4) (R:=fun w' F v=>Vb w' F v b5) (Eb Fr.lt (Vb.ofAgg (cs:=[(.slice d1 x1.vars.length e1),(.slice f1 x1.vals.length g1),(.slice h1 x1.ops.length i1)]) (x:=x1) rfl ⟨_,_,_,rfl,n0,o0,i0⟩) m0 c5) rfl rfl fun p6 y2 z2 r0 j4=>?_
  obtain ⟨q6,r6,rfl⟩:=j4.form
  have hZ:=r0.lst [] (fun _ h=>h.elim)
  refine AX [] hZ (by kernel_rfl) ?_
  refine AP (i:=20) (by kernel_rfl) rfl ?_
  refine Az rfl rfl ?_
  obtain ⟨k4,d5,a0⟩:=bs a0
  replace m0:=m0.st r0
  refine Bi (O:=z2) (A:=All y2) (R:=fun w' F v=>Vb w' F v k4) (CO (fun _ h=>h) (Vb.mono (F:=Fr 0 y2 z2) j4 Fr.lt) (Vb.mono (F:=Fr 0 y2 z2) m0 Fr.lt) d5) rfl rfl fun s6 t6 u6 q0 e5=>?_
  obtain rfl:=e5.bool
  have hZ:=q0.lst [] (fun _ h=>h.elim)
  cases k4
  case false =>
   replace a0:=iF a0
   refine AX [] hZ (by kernel_rfl) ?_
   refine AT (fuel:=0) [] [(21,true),(22,true)] (by kernel_rfl) rfl ?_
   refine AA rfl (Aw rfl rfl (GB rfl rfl (BN rfl rfl rfl rfl (AC ?_))))
   refine Bn (by kernel_rfl) ?_
   obtain rfl:=sm a0
   exact ⟨(),_,⟨rfl,rfl,rfl,trivial⟩,(((((hB.st s0).st p0).st b0).st j0).st r0).st q0,(e0.st r0).st q0,(((h8.st b0).st j0).st r0).st q0,(((t0.st b0).st j0).st r0).st q0,m0.st q0,((h0.st j0).st r0).st q0,(l0.st r0).st q0,(n0.st r0).st q0,(o0.st r0).st q0,(i0.st r0).st q0⟩
  replace a0:=iT a0
  refine AX [] hZ (by kernel_rfl) ?_
  refine AT (fuel:=0) [] [(21,true),(22,true)] (by kernel_rfl) rfl ?_
  refine AA rfl (Aw rfl rfl (GA rfl rfl (BN rfl rfl rfl rfl (AC ?_))))
  refine Bn (by kernel_rfl) ?_
  obtain rfl:=sm a0
  exact ⟨(),_,⟨rfl,rfl,rfl,trivial⟩,(((((hB.st s0).st p0).st b0).st j0).st r0).st q0,(e0.st r0).st q0,(((h8.st b0).st j0).st r0).st q0,(((t0.st b0).st j0).st r0).st q0,m0.st q0,((h0.st j0).st r0).st q0,(l0.st r0).st q0,(n0.st r0).st q0,(o0.st r0).st q0,(i0.st r0).st q0⟩
 replace hB:=(hB.st s0).st p0
 replace h8:=(h8.st s0).st p0
 replace t0:=(t0.st s0).st p0
 replace m0:=(m0.st s0).st p0
 replace h0:=(h0.st s0).st p0
 replace n0:=(n0.st s0).st p0
 replace o0:=(o0.st s0).st p0
 replace i0:=(i0.st s0).st p0
 replace e0:=e0.st p0
 rintro w6 x6 ⟨s4,f5,a3,hB,e0,h8,t0,m0,h0,l0,n0,o0,i0⟩
 refine AO _ a3 ?_
 refine BK rfl (fun b3=>?_) (fun b3=>?_)
 ·
  replace hm:=ip hm b3
  refine Al (Aj (Au rfl rfl (o_z ?_)))
  refine AJ ?_
  obtain rfl:=sm hm
  exact ret1v rfl (AD rfl) ⟨hB.ext,vBool⟩
 replace hm:=im' hm b3
 refine AM (Al (Al (Aj (AN rfl rfl (AG (hc:=Blk.cell (i:=3) (e0.1) rfl) rfl rfl ?_)))))
 refine AY rfl rfl ?_
 have c3:x0.ops.length≤9223372036854775807:=Nat.le_trans h0.len.2.1 h0.len.2.2
 have y6:inI64 (x0.ops.length:Int):=rngNat c3
 refine Ar rfl rfl (o_z ?_)
 obtain ⟨y1,d3,hm⟩:=bs hm
 refine AH (aft y1 (fun (u2:Unit) (v2:Unit)=>[]) (fun u2 v2 w'=>∃ O':Lab,Bs w A w' O')) ?_ ?_
 ·
  refine AU (Bu (σ:=Unit) (X:=Unit) (x0.ops.length) d3 rfl c3 (fun (u2:Unit) (v2:Unit)=>[(2,(.pointer (some ⟨u1,0,none⟩))),(3,(.pointer (some ⟨v1,0,none⟩))),(31,(.slice j1 x0.ops.length k1))]) _ (fun u2 v2 w'=>∃ O':Lab,Bs w A w' O'∧Lc 2 w' O' u1 26 [(.slice A9 x0.vars.length p1),(.slice q1 x0.init.length r1),(.slice s1 x0.goal.length t1),(.slice j1 x0.ops.length k1)]∧Vb w' (Fr 0 w' O') (.slice A9 x0.vars.length p1) x0.vars∧Vb w' (Fr 0 w' O') (.slice q1 x0.init.length r1) x0.init∧Vb w' (Fr 0 w' O') (.slice s1 x0.goal.length t1) x0.goal∧Vb w' (Fr 0 w' O') (.slice j1 x0.ops.length k1) x0.ops∧Lc 3 w' O' v1 53 [(.slice d1 x1.vars.length e1),(.slice f1 x1.vals.length g1),(.slice h1 x1.ops.length i1)]∧Vb w' (Fr 0 w' O') (.slice d1 x1.vars.length e1) x1.vars∧Vb w' (Fr 0 w' O') (.slice f1 x1.vals.length g1) x1.vals∧Vb w' (Fr 0 w' O') (.slice h1 x1.ops.length i1) x1.ops) _ () ⟨f5,hB,e0,h8,t0,m0,h0,l0,n0,o0,i0⟩ ⟨rfl,rfl,rfl,rfl,rfl,trivial⟩ (fun _ _=>⟨rfl,rfl⟩) (fun _ _=>trivial) (fun _ _ _ ⟨O',hB,e0,h8,t0,m0,h0,l0,n0,o0,i0⟩=>⟨O',hB⟩) ⟨rfl,rfl,rfl⟩ ⟨rfl,rfl⟩ ?_)
  rintro g5 y0 u2 v2 z6 h5 z1 ⟨i5,hB,e0,h8,t0,m0,h0,l0,n0,o0,i0⟩ c0 l1 e3
  have rk90:inI64 (g5:Int):=rngK z1 c3
  refine Al (Aj (Ar rfl rfl ?_))
  obtain ⟨j5,k5,l4,a2,b2,c2,l5,m5,rfl,z0,a1,f3,g3⟩:=h0.elem' z1
  obtain ⟨d2,e2,rfl⟩:=z0.form
  obtain ⟨f2,g2,rfl⟩:=a1.form
  refine Bv (hA:=a2) (hj:=rfl) (hlt:=b2) rfl rfl rfl ?_
  refine Bk (hl:=rfl) (hc:=c2) rfl rfl ?_
  refine Bh 4 i5 rfl fun h3 n5 m1 f0 v0=>?_
  refine Au rfl rfl (AZ v0 rfl rfl rfl (Bj rfl) (allOne rfl) fun i3 g0 v0=>?_)
  replace v0:Lc 4 i3 m1 h3 50 [(.string y0.name),(.int .i64 y0.cost),(.slice d2 y0.pre.length e2),(.slice f2 y0.effs.length g2)]:=v0
  refine o_z ?_
  refine Al (Bt [] m1 ?_)
  refine AT (fuel:=3) [] [(0,true),(1,true),(3,true),(4,true),(5,true),(6,true),(7,true),(8,true),(9,true),(10,true),(11,true)] (by kernel_rfl) rfl ?_
  replace l0:=(l0.st f0).st g0
  refine CU (hl:=rfl) (hb:=fun w' ⟨O',hq⟩=>((l0.st hq (by decide)).1).cellsAt) rfl rfl rfl ?_
  refine CU (hl:=rfl) (hb:=fun w' ⟨O',hq⟩=>((v0.st hq (by decide)).1).cellsAt) rfl rfl rfl ?_
  refine Bc rfl rfl rfl ?_
  replace e0:=(e0.st f0).st g0
  refine AV (hc:=fun w' ⟨O',hq⟩=>Blk.cell (i:=3) ((e0.st hq (by decide)).1) rfl) rfl rfl rfl ?_
  refine Bc rfl rfl rfl (AV (hc:=fun w' ⟨O',hq⟩=>Blk.cell (i:=2) ((l0.st hq (by decide)).1) rfl) rfl rfl rfl ?_)
  refine AL rfl rfl rfl ?_
  obtain ⟨o5,j3,c0⟩:=bs c0
  replace i0:=(i0.st f0).st g0
  obtain ⟨p5,q5,m4,h2,i2,j2,k2,rfl,r5⟩:=i0.elem j3
  refine Br (hA:=h2) (hj:=rfl) (hlt:=j2) rfl rfl rfl rfl ?_
  refine AV (hc:=fun w' ⟨O',hq⟩=>cat0 (AR (hq.agree (i:=0) (by decide)) i2 k2)) rfl rfl rfl ?_
  obtain ⟨w0,k3,c0⟩:=bs c0
  obtain ⟨l3,m3⟩:=AW k3
  replace h0:=(h0.st f0).st g0
  obtain ⟨s5,t5,n4,l2,m2,n2,o2,u5,w5,rfl,b1,c1,n3,o3⟩:=h0.elem m3
  obtain ⟨p3,q3,rfl⟩:=b1.form
  obtain ⟨r3,s3,rfl⟩:=c1.form
  refine Br (hA:=l2) (hj:=(Int.toNat_of_nonneg l3).symm) (hlt:=n2) rfl rfl rfl rfl ?_
  refine CU (hl:=rfl) (hb:=fun w' ⟨O',hq⟩=>(AR (hq.agree (i:=0) (by decide)) m2 o2)) rfl rfl rfl ?_
  refine AC ?_
  refine AP (i:=2) (by kernel_rfl) rfl ?_
  obtain ⟨u0,t3,c0⟩:=bs c0
  replace n0:=(n0.st f0).st g0
  replace o0:=(o0.st f0).st g0
  replace z0:=(z0.st f0).st g0
  replace a1:=(a1.st f0).st g0
  refine Bq (O:=m1) (R:=fun w' F v=>Vb w' F v u0) (Jg Fr.lt (Vb.ofAgg (cs:=[(.slice d1 x1.vars.length e1),(.slice f1 x1.vals.length g1),(.slice h1 x1.ops.length i1)]) (x:=x1) rfl ⟨_,_,_,rfl,n0,o0,i0⟩) (Vb.ofAgg (cs:=[(.string y0.name),(.int .i64 y0.cost),(.slice d2 y0.pre.length e2),(.slice f2 y0.effs.length g2)]) (x:=y0) rfl ⟨_,_,rfl,z0,a1,f3,g3⟩) t3) rfl rfl fun x5 n1 o1 d0 u3=>?_
  obtain ⟨o4,rfl,y5,z5,rfl,p2,q2,v3,w3⟩:=u3
  obtain ⟨x3,y3,rfl⟩:=p2.form
  obtain ⟨z3,a4,rfl⟩:=q2.form
  have hZ:=d0.lst [] (fun _ h=>h.elim)
  refine AX [] hZ (by kernel_rfl) ?_
  refine AP (i:=12) (by kernel_rfl) rfl ?_
  obtain ⟨r2,b4,c0⟩:=bs c0
  replace b1:=b1.st d0
  replace c1:=c1.st d0
  refine Bi (O:=o1) (A:=All n1) (R:=fun w' F v=>Vb w' F v r2) (Je (fun _ h=>h) (Vb.mono (F:=Fr 0 n1 o1) (Vb.ofAgg (cs:=[(.string u0.name),(.int .i64 u0.cost),(.slice x3 u0.pre.length y3),(.slice z3 u0.effs.length a4)]) (x:=u0) rfl ⟨_,_,rfl,p2,q2,v3,w3⟩) Fr.lt) (Vb.mono (F:=Fr 0 n1 o1) (Vb.ofAgg (cs:=[(.string w0.name),(.int .i64 w0.cost),(.slice p3 w0.pre.length q3),(.slice r3 w0.effs.length s3)]) (x:=w0) rfl ⟨_,_,rfl,b1,c1,n3,o3⟩) Fr.lt) b4) rfl rfl fun a6 b6 c6 k0 c4=>?_
  obtain rfl:=c4.bool
  have hZ:=k0.lst [] (fun _ h=>h.elim)
  cases r2
  case false =>
   replace c0:=iF c0
   refine AX [] hZ (by kernel_rfl) ?_
   refine AT (fuel:=0) [] [(13,true)] (by kernel_rfl) rfl ?_
   refine MT rfl rfl rfl (AC ?_)
   refine Bn (by kernel_rfl) ?_
   refine Ah rfl (Al (Aj (Au rfl rfl (o_z ?_))))
   refine AJ ?_
   obtain rfl:=sm c0
   obtain rfl:=l1 _ rfl
   obtain rfl:=sm (BM hm)
   replace hB:=(((hB.st f0).st g0).st d0).st k0
   exact ret1v rfl (AD rfl) ⟨hB.ext,vBool⟩
  replace c0:=iT c0
  refine AX [] hZ (by kernel_rfl) ?_
  refine AT (fuel:=0) [] [(13,true)] (by kernel_rfl) rfl ?_
  refine Lm rfl rfl rfl (AC ?_)
  refine Bn (by kernel_rfl) ?_
  refine Ae rfl (AM ?_)
  obtain rfl:=sm c0
  exact show Exists _ from ⟨_,(),rfl,⟨rfl,rfl,rfl,rfl,rfl,trivial⟩,_,(((hB.st f0).st g0).st d0).st k0,(e0.st d0).st k0,(((h8.st f0).st g0).st d0).st k0,(((t0.st f0).st g0).st d0).st k0,(((m0.st f0).st g0).st d0).st k0,(h0.st d0).st k0,(l0.st d0).st k0,(n0.st d0).st k0,(o0.st d0).st k0,(i0.st d0).st k0⟩
 rintro d6 e6 ⟨f6,g6,rfl,s2,h6,hB⟩
 replace hm:=Be hm
 refine AO _ s2 ?_
 refine Al (Aj (Au rfl rfl (o_z ?_)))
 refine AJ ?_
 obtain rfl:=sm hm
 exact ret1v rfl (AD rfl) ⟨hB.ext,vBool⟩
noncomputable def CG (x0:Tsk) (x1:Swp):Option Bool :=
  bnd (bnd (CF x0) fun q47=>if q47.n=0 then (bnd (Du x0 x1) fun q56=>if q56=true then some true else some false) else (some false):Option Bool) fun y43=>some y43
theorem Jh {w:World} {A:Nat→Prop} (hA:∀ k,A k→k < w.heap.size) {vx0:Value} {x0:Tsk} (m0:Vb w A vx0 x0) {vx1:Value} {x1:Swp} (n0:Vb w A vx1 x1) {r:Bool} (hm:CG x0 x1=some r) :
    Fn Tryz.prog 23 [vx0,vx1] w fun v w'=>Ext w w'∧Vb w' (upA A w w') v r:=by
 obtain ⟨O,hB,c1⟩:=enter hA
 replace m0:=m0.mono c1
 obtain ⟨y1,rfl,v4,v5,v6,v7,rfl,h8,f0,g0,h0⟩:=m0
 obtain ⟨A9,o0,rfl⟩:=h8.form
 obtain ⟨p0,q0,rfl⟩:=f0.form
 obtain ⟨r0,s0,rfl⟩:=g0.form
 obtain ⟨t0,u0,rfl⟩:=h0.form
 replace n0:=n0.mono c1
 obtain ⟨m1,rfl,z1,a2,b2,rfl,j0,k0,l0⟩:=n0
 obtain ⟨d1,e1,rfl⟩:=j0.form
 obtain ⟨f1,g1,rfl⟩:=k0.form
 obtain ⟨h1,i1,rfl⟩:=l0.form
 refine AK Tryz.func23 rfl Tryz.ntmps23 rfl ?_
 unfold CG at hm
 refine Al (Aj (BS 2 O rfl rfl fun n1 o1 j1 d0 e0=>?_))
 replace e0:Lc 2 o1 j1 n1 26 [(.slice A9 x0.vars.length o0),(.slice p0 x0.init.length q0),(.slice r0 x0.goal.length s0),(.slice t0 x0.ops.length u0)]:=e0
 refine BS 3 j1 rfl rfl fun p1 v0 w0 b0 i0=>?_
 replace i0:Lc 3 v0 w0 p1 53 [(.slice d1 x1.vars.length e1),(.slice f1 x1.vals.length g1),(.slice h1 x1.ops.length i1)]:=i0
 refine Au rfl rfl (o_z ?_)
 refine Al ?_
 obtain ⟨q1,a0,hm⟩:=bs hm
 refine AH (fun l' w'=>∃ (r1:Unit) (O':Lab),subs l' [(4,(.bool q1))]∧Bs w A w' O') ?_ ?_
 ·
  refine Aj ?_
  replace e0:=e0.st b0
  refine Bk (hl:=rfl) (hc:=(e0.1).cellsAt) rfl rfl ?_
  obtain ⟨s1,t1,a0⟩:=bs a0
  replace h8:=(h8.st d0).st b0
  replace f0:=(f0.st d0).st b0
  replace g0:=(g0.st d0).st b0
  replace h0:=(h0.st d0).st b0
  refine Bi (O:=w0) (A:=All v0) (R:=fun w' F v=>Vb w' F v s1) (GE (fun _ h=>h) (Vb.mono (F:=Fr 0 v0 w0) (Vb.ofAgg (cs:=[(.slice A9 x0.vars.length o0),(.slice p0 x0.init.length q0),(.slice r0 x0.goal.length s0),(.slice t0 x0.ops.length u0)]) (x:=x0) rfl ⟨_,_,_,_,rfl,h8,f0,g0,h0⟩) Fr.lt) t1) rfl rfl fun c2 y0 z0 c0 u1=>?_
  obtain ⟨rfl,d2⟩:=u1.err
  refine Pn rfl rfl (fun a1=>?_) fun a1=>?_
  ·
   replace a0:=ip a0 a1
   refine Ar rfl rfl (Az rfl rfl ?_)
   replace e0:=e0.st c0
   refine Bk (hl:=rfl) (hc:=(e0.1).cellsAt) rfl rfl ?_
   refine Az rfl rfl ?_
   replace i0:=i0.st c0
   refine Bk (hl:=rfl) (hc:=(i0.1).cellsAt) rfl rfl ?_
   refine Az rfl rfl ?_
   obtain ⟨k1,v1,a0⟩:=bs a0
   replace h8:=h8.st c0
   replace f0:=f0.st c0
   replace g0:=g0.st c0
   replace h0:=h0.st c0
   replace j0:=((j0.st d0).st b0).st c0
   replace k0:=((k0.st d0).st b0).st c0
   replace l0:=((l0.st d0).st b0).st c0
   refine Bi (O:=z0) (A:=All y0) (R:=fun w' F v=>Vb w' F v k1) (HH (fun _ h=>h) (Vb.mono (F:=Fr 0 y0 z0) (Vb.ofAgg (cs:=[(.slice A9 x0.vars.length o0),(.slice p0 x0.init.length q0),(.slice r0 x0.goal.length s0),(.slice t0 x0.ops.length u0)]) (x:=x0) rfl ⟨_,_,_,_,rfl,h8,f0,g0,h0⟩) Fr.lt) (Vb.mono (F:=Fr 0 y0 z0) (Vb.ofAgg (cs:=[(.slice d1 x1.vars.length e1),(.slice f1 x1.vals.length g1),(.slice h1 x1.ops.length i1)]) (x:=x1) rfl ⟨_,_,_,rfl,j0,k0,l0⟩) Fr.lt) v1) rfl rfl fun e2 f2 g2 l1 w1=>?_
   obtain rfl:=w1.bool
   cases k1
   case false =>
    replace a0:=iF a0
    refine BA rfl rfl rfl (Au rfl rfl (o_z ?_))
    obtain rfl:=sm a0
    exact ⟨(),_,⟨rfl,trivial⟩,(((hB.st d0).st b0).st c0).st l1⟩
   replace a0:=iT a0
   refine BA rfl rfl rfl (Au rfl rfl (o_z ?_))
   obtain rfl:=sm a0
   exact ⟨(),_,⟨rfl,trivial⟩,(((hB.st d0).st b0).st c0).st l1⟩
  replace a0:=im a0 a1
  refine Ar rfl rfl (Ay rfl rfl rfl rfl (Ay rfl rfl rfl rfl (Ay rfl rfl rfl rfl (BD rfl rfl rfl (Au rfl rfl (o_z ?_))))))
  obtain rfl:=sm a0
  exact ⟨(),_,⟨rfl,trivial⟩,((hB.st d0).st b0).st c0⟩
 replace hB:=(hB.st d0).st b0
 rintro h2 i2 ⟨r1,j2,b1,hB⟩
 refine AO _ b1 ?_
 refine AJ ?_
 obtain rfl:=sm hm
 exact ret1v rfl (AD rfl) ⟨hB.ext,vBool⟩
noncomputable def Bx (x0:Tsk) (x1:List Swp):Option Err :=
  bnd (CF x0) fun q27=>if q27.n≠0 then (some (⟨q27.n⟩:Err)) else (bnd (rng (ρ:=Err) (fun (k42:Nat) (a43:Swp) (s40:Unit)=>bnd (Du x0 a43) fun q79=>if q79=true then some (.next ()) else some (.ret (⟨2⟩:Err))) x1 0 ()) fun res38=>fin res38 fun (s90:Unit)=>some (⟨0⟩:Err))
theorem Ec {w:World} {A:Nat→Prop} (hA:∀ k,A k→k < w.heap.size) {vx0:Value} {x0:Tsk} (f1:Vb w A vx0 x0) {vx1:Value} {x1:List Swp} (e0:Vb w A vx1 x1) {r:Err} (hm:Bx x0 x1=some r) :
    Fn Tryz.prog 85 [vx0,vx1] w fun v w'=>Ext w w'∧Vb w' (upA A w w') v r:=by
 obtain ⟨O,hB,r1⟩:=enter hA
 replace f1:=f1.mono r1
 obtain ⟨o2,rfl,v4,v5,v6,v7,rfl,h8,b0,c0,d0⟩:=f1
 obtain ⟨A9,n0,rfl⟩:=h8.form
 obtain ⟨o0,p0,rfl⟩:=b0.form
 obtain ⟨q0,r0,rfl⟩:=c0.form
 obtain ⟨s0,t0,rfl⟩:=d0.form
 replace e0:=e0.mono r1
 obtain ⟨s1,t1,rfl⟩:=e0.form
 refine AK Tryz.func85 rfl Tryz.ntmps85 rfl ?_
 unfold Bx at hm
 refine Al (Aj (BS 2 O rfl rfl fun g1 h1 i1 j0 f0=>?_))
 replace f0:Lc 2 h1 i1 g1 26 [(.slice A9 x0.vars.length n0),(.slice o0 x0.init.length p0),(.slice q0 x0.goal.length r0),(.slice s0 x0.ops.length t0)]:=f0
 refine Au rfl rfl (o_z ?_)
 refine Al (Al (Aj (Bk (hl:=rfl) (hc:=(f0.1).cellsAt) rfl rfl ?_)))
 obtain ⟨c2,d2,hm⟩:=bs hm
 replace h8:=h8.st j0
 replace b0:=b0.st j0
 replace c0:=c0.st j0
 replace d0:=d0.st j0
 refine Bi (O:=i1) (A:=All h1) (R:=fun w' F v=>Vb w' F v c2) (GE (fun _ h=>h) (Vb.mono (F:=Fr 0 h1 i1) (Vb.ofAgg (cs:=[(.slice A9 x0.vars.length n0),(.slice o0 x0.init.length p0),(.slice q0 x0.goal.length r0),(.slice s0 x0.ops.length t0)]) (x:=x0) rfl ⟨_,_,_,_,rfl,h8,b0,c0,d0⟩) Fr.lt) d2) rfl rfl fun p2 q2 e2 i0 f2=>?_
 obtain ⟨rfl,g2⟩:=f2.err
 refine Au rfl rfl (o_z ?_)
 refine Al (Aj (Ar rfl rfl (Eq rfl rfl (fun j1=>?_) fun j1=>?_)))
 ·
  replace hm:=ip hm j1
  refine o_z ?_
  refine Ah rfl (Al (Aj (Ar rfl rfl (Au rfl rfl (o_z ?_)))))
  refine AJ ?_
  obtain rfl:=sm hm
  replace hB:=(hB.st j0).st i0
  exact ret1v rfl (AD rfl) ⟨hB.ext,(vErr g2)⟩
 replace hm:=im hm j1
 refine o_z ?_
 refine Ae rfl (AM (Al (Al (Aj (Ar rfl rfl (AY rfl rfl ?_))))))
 replace e0:=(e0.st j0).st i0
 have k1:x1.length≤9223372036854775807:=Nat.le_trans e0.len.2.1 e0.len.2.2
 have r2:inI64 (x1.length:Int):=rngNat k1
 refine Ar rfl rfl (o_z ?_)
 obtain ⟨u0,l1,hm⟩:=bs hm
 refine AH (aft u0 (fun (y0:Unit) (z0:Unit)=>[]) (fun y0 z0 w'=>∃ O':Lab,Bs w A w' O')) ?_ ?_
 ·
  refine AU ?_
  replace hB:=(hB.st j0).st i0
  replace h8:=h8.st i0
  replace b0:=b0.st i0
  replace c0:=c0.st i0
  replace d0:=d0.st i0
  replace f0:=f0.st i0
  refine Bu (σ:=Unit) (X:=Unit) (x1.length) l1 rfl k1 (fun (y0:Unit) (z0:Unit)=>[(2,(.pointer (some ⟨g1,0,none⟩))),(13,(.slice s1 x1.length t1))]) _ (fun y0 z0 w'=>∃ O':Lab,Bs w A w' O'∧Lc 2 w' O' g1 26 [(.slice A9 x0.vars.length n0),(.slice o0 x0.init.length p0),(.slice q0 x0.goal.length r0),(.slice s0 x0.ops.length t0)]∧Vb w' (Fr 0 w' O') (.slice A9 x0.vars.length n0) x0.vars∧Vb w' (Fr 0 w' O') (.slice o0 x0.init.length p0) x0.init∧Vb w' (Fr 0 w' O') (.slice q0 x0.goal.length r0) x0.goal∧Vb w' (Fr 0 w' O') (.slice s0 x0.ops.length t0) x0.ops∧Vb w' (Fr 0 w' O') (.slice s1 x1.length t1) x1) _ () ⟨e2,hB,f0,h8,b0,c0,d0,e0⟩ ⟨rfl,rfl,rfl,rfl,trivial⟩ (fun _ _=>⟨rfl,rfl⟩) (fun _ _=>trivial) (fun _ _ _ ⟨O',hB,f0,h8,b0,c0,d0,e0⟩=>⟨O',hB⟩) ⟨rfl,rfl,rfl⟩ ⟨rfl,rfl⟩ ?_
  rintro h2 l0 y0 z0 s2 i2 v0 ⟨j2,hB,f0,h8,b0,c0,d0,e0⟩ a0 m0 m1
  have rk42:inI64 (h2:Int):=rngK v0 k1
  refine Al (Aj ?_)
  obtain ⟨t2,u2,k2,n1,o1,p1,v2,w2,x2,rfl,a1,b1,c1⟩:=e0.elem' v0
  obtain ⟨u1,v1,rfl⟩:=a1.form
  obtain ⟨w1,y1,rfl⟩:=b1.form
  obtain ⟨z1,a2,rfl⟩:=c1.form
  refine Bv (hA:=n1) (hj:=rfl) (hlt:=o1) rfl rfl rfl ?_
  refine Bk (hl:=rfl) (hc:=p1) rfl rfl ?_
  refine Bh 3 j2 rfl fun l2 y2 d1 g0 w0=>?_
  refine AZ w0 rfl rfl rfl (Bj rfl) (allOne rfl) fun e1 h0 w0=>?_
  replace w0:Lc 3 e1 d1 l2 53 [(.slice u1 l0.vars.length v1),(.slice w1 l0.vals.length y1),(.slice z1 l0.ops.length a2)]:=w0
  refine o_z ?_
  refine Al (Aj ?_)
  replace f0:=(f0.st g0).st h0
  refine Bk (hl:=rfl) (hc:=(f0.1).cellsAt) rfl rfl ?_
  refine Bk (hl:=rfl) (hc:=(w0.1).cellsAt) rfl rfl ?_
  obtain ⟨b2,m2,a0⟩:=bs a0
  replace h8:=(h8.st g0).st h0
  replace b0:=(b0.st g0).st h0
  replace c0:=(c0.st g0).st h0
  replace d0:=(d0.st g0).st h0
  replace a1:=(a1.st g0).st h0
  replace b1:=(b1.st g0).st h0
  replace c1:=(c1.st g0).st h0
  refine Bi (O:=d1) (A:=All e1) (R:=fun w' F v=>Vb w' F v b2) (HH (fun _ h=>h) (Vb.mono (F:=Fr 0 e1 d1) (Vb.ofAgg (cs:=[(.slice A9 x0.vars.length n0),(.slice o0 x0.init.length p0),(.slice q0 x0.goal.length r0),(.slice s0 x0.ops.length t0)]) (x:=x0) rfl ⟨_,_,_,_,rfl,h8,b0,c0,d0⟩) Fr.lt) (Vb.mono (F:=Fr 0 e1 d1) (Vb.ofAgg (cs:=[(.slice u1 l0.vars.length v1),(.slice w1 l0.vals.length y1),(.slice z1 l0.ops.length a2)]) (x:=l0) rfl ⟨_,_,_,rfl,a1,b1,c1⟩) Fr.lt) m2) rfl rfl fun z2 a3 b3 k0 n2=>?_
  obtain rfl:=n2.bool
  cases b2
  case false =>
   replace a0:=iF a0
   refine Ct rfl rfl (o_z ?_)
   refine Ah rfl (Al (Aj (MV rfl rfl ?_)))
   refine Au rfl rfl (o_z ?_)
   refine AJ ?_
   obtain rfl:=sm a0
   obtain rfl:=m0 _ rfl
   obtain rfl:=sm (BM hm)
   replace hB:=((hB.st g0).st h0).st k0
   exact ret1v rfl (AD rfl) ⟨hB.ext,(vErr (by decide))⟩
  replace a0:=iT a0
  refine Cs rfl rfl (o_z ?_)
  refine Ae rfl (AM ?_)
  obtain rfl:=sm a0
  exact show Exists _ from ⟨_,(),rfl,⟨rfl,rfl,rfl,rfl,trivial⟩,_,((hB.st g0).st h0).st k0,f0.st k0,h8.st k0,b0.st k0,c0.st k0,d0.st k0,((e0.st g0).st h0).st k0⟩
 replace hB:=(hB.st j0).st i0
 rintro c3 d3 ⟨e3,f3,rfl,q1,g3,hB⟩
 replace hm:=Be hm
 refine AO _ q1 ?_
 refine Al (Aj (Au rfl rfl (o_z ?_)))
 refine AJ ?_
 obtain rfl:=sm hm
 exact ret1v rfl (AD rfl) ⟨hB.ext,(vErr (show inI64 0 from by decide))⟩
end
section
open Go Go.RowKit
attribute [local irreducible] ewp owp hwp hwq hws Ev Evg Fn retPost loud loudS Res1
def exts (n:Nat) (s:List Int):List (List Int):=(List.range n).map fun x:Nat=>s ++ [(x:Int)]
def grows (out:List (List Int)) (k:Int):List (List Int):=out.flatMap (exts k.toNat)
def statesL (vars:List Int):List (List Int):=vars.foldl grows [[]]
theorem Ft {vars:List Int} {k:Nat} {n:Int} (h:vars[k]?=some n):statesL (vars.take (k + 1))=grows (statesL (vars.take k)) n:=by
  unfold statesL
  rw [List.take_add_one,h,List.foldl_append];rfl
theorem NA (n:Nat) (s:List Int):exts (n + 1) s=exts n s ++ [s ++ [(n:Int)]]:=by unfold exts;rw [List.range_succ];simp
theorem FE (n:Nat) (s:List Int):(exts n s).length=n:=by simp [exts]
theorem Id (n:Nat):∀ l:List (List Int),(l.flatMap (exts n)).length=l.length * n
  | []=>by simp
  | s :: l=>by rw [List.flatMap_cons,List.length_append,FE,Id n l,List.length_cons,Nat.add_mul];omega
theorem NB {α β:Type} (f:α→List β) {l:List α} {k:Nat} {x:α} (h:l[k]?=some x):(l.take (k + 1)).flatMap f=(l.take k).flatMap f ++ f x:=by
  rw [List.take_add_one,h];simp
theorem Mg (vars:List Int):∀ (k:Nat),k≤vars.length→∀ s∈statesL (vars.take k),s.length=k:=by
  intro k
  induction k with
  | zero=>intro _ s hs;simp [statesL] at hs;simp [hs]
  | succ k ih =>
    intro hk s hs
    obtain ⟨n,hn⟩:∃ n,vars[k]?=some n:=⟨vars[k],List.getElem?_eq_getElem (by omega)⟩
    rw [Ft hn] at hs
    obtain ⟨s',h1,h2⟩:=List.mem_flatMap.1 hs
    obtain ⟨x,_,rfl⟩:=List.mem_map.1 h2
    simp [ih (by omega) s' h1]
end
section
open Go Go.RowKit
def prodV:List Int→Nat→Nat
  | [],n=>n
  | k :: r,n=>prodV r (n * k.toNat)
theorem GN:∀ (vars:List Int) (out:List (List Int)),(vars.foldl grows out).length=prodV vars out.length
  | [],_=>rfl
  | k :: r,out=>by
    simp only [List.foldl_cons,prodV]
    rw [GN r,grows,Id]
theorem Mh (vars:List Int):(statesL vars).length=prodV vars 1:=GN vars [[]]
theorem Kv {most:Nat}:∀ (vars:List Int) (n:Nat),(∀ x∈vars,1≤x)→1≤n→manyF most vars (n:Int)≤most→∀ k,prodV (vars.take k) n≤most
  | [],n,_,_,h,k=>by simp only [List.take_nil,prodV];simp only [manyF] at h;omega
  | x :: r,n,hx,hn,h,k=>by
    have h1:1≤x:=hx x List.mem_cons_self
    simp only [manyF] at h
    have hmax:max x 0=x:=by omega
    rw [hmax] at h
    obtain ⟨m,rfl⟩:∃ m:Nat,x=(m:Int):=⟨x.toNat,by omega⟩
    by_cases hm:(m:Int)≤most
    · rw [show min (m:Int) (most + 1)=(m:Int) from by omega,← Int.natCast_mul] at h
      have hnm:n≤n * m:=Nat.le_mul_of_pos_right n (by omega)
      by_cases hc:(most:Int) < ((n * m:Nat):Int)
      · rw [if_pos hc] at h;omega
      · rw [if_neg hc] at h
        cases k with
        | zero=>simp only [List.take_zero,prodV];omega
        | succ k =>
          simp only [List.take_succ_cons,prodV,Int.toNat_natCast]
          exact Kv r (n * m) (fun y hy=>hx y (List.mem_cons_of_mem _ hy)) (by omega) h k
    · exfalso
      rw [show min (m:Int) (most + 1)=((most + 1:Nat):Int) from by omega,← Int.natCast_mul] at h
      have:most + 1≤n * (most + 1):=Nat.le_mul_of_pos_left _ hn
      rw [if_pos (by omega)] at h
      omega
theorem Ie {y x:Int} {vs s:List Int}:StateOk (y :: vs) (x :: s)↔(0≤x∧x < y)∧StateOk vs s:=by
  constructor
  · intro h
    exact ⟨h.2 0 x y rfl rfl,by have:=h.1;simpa using this,fun i a b ha hb=>h.2 (i + 1) a b (by simpa using ha) (by simpa using hb)⟩
  · rintro ⟨h1,h2,h3⟩
    refine ⟨by simpa using h2,fun i a b ha hb=>?_⟩
    cases i with
    | zero=>simp at ha hb;subst ha;subst hb;exact h1
    | succ i=>exact h3 i a b (by simpa using ha) (by simpa using hb)
theorem Mi:StateOk [] []:=⟨rfl,fun i a b ha=>by simp at ha⟩
theorem Lz {n:Nat} {s t:List Int}:t∈exts n s↔∃ x:Nat,x < n∧t=s ++ [(x:Int)]:=by
  unfold exts
  rw [List.mem_map]
  constructor
  · rintro ⟨x,hx,rfl⟩;exact ⟨x,List.mem_range.1 hx,rfl⟩
  · rintro ⟨x,hx,rfl⟩;exact ⟨x,List.mem_range.2 hx,rfl⟩
theorem GO:∀ (vars:List Int) (out:List (List Int)) (s:List Int),s∈vars.foldl grows out↔∃ s0∈out,∃ r,s=s0 ++ r∧StateOk vars r
  | [],out,s=>by
    constructor
    · intro h;exact ⟨s,h,[],by simp,Mi⟩
    · rintro ⟨s0,h,r,rfl,hr⟩
      have:r=[]:=List.eq_nil_of_length_eq_zero hr.1
      subst this;simpa using h
  | k :: vs,out,s=>by
    simp only [List.foldl_cons]
    rw [GO vs (grows out k) s]
    constructor
    · rintro ⟨s1,h1,r,rfl,hr⟩
      obtain ⟨s0,h0,h2⟩:=List.mem_flatMap.1 h1
      obtain ⟨x,hx,rfl⟩:=Lz.1 h2
      exact ⟨s0,h0,(x:Int) :: r,by simp,Ie.2 ⟨⟨by omega,by omega⟩,hr⟩⟩
    · rintro ⟨s0,h0,r,rfl,hr⟩
      cases r with
      | nil=>have:=hr.1;simp at this
      | cons x r =>
        obtain ⟨⟨h1,h2⟩,h3⟩:=Ie.1 hr
        exact ⟨s0 ++ [x],List.mem_flatMap.2 ⟨s0,h0,Lz.2 ⟨x.toNat,by omega,by rw [show ((x.toNat:Nat):Int)=x from by omega]⟩⟩,r,by simp,h3⟩
theorem Fa {vars s:List Int}:s∈statesL vars↔StateOk vars s:=by
  unfold statesL
  rw [GO]
  constructor
  · rintro ⟨s0,h0,r,rfl,hr⟩
    have:s0=[]:=by simpa using h0
    subst this;exact hr
  · intro h;exact ⟨[],by simp,s,rfl,h⟩
theorem SmallOk.ok {t:Tsk} (h:SmallOk t):TaskOk t:=h.2.2.2.1
theorem SmallOk.states {t:Tsk} (h:SmallOk t):∀ k,(statesL (t.vars.take k)).length≤512:=fun k=>by
  rw [Mh]
  refine Kv (most:=512) t.vars 1 (fun x hx=>?_) (Nat.le_refl _) h.2.2.2.2 k
  obtain ⟨i,hi,rfl⟩:=List.getElem_of_mem hx
  exact (h.ok.vars i _ (List.getElem?_eq_getElem hi)).1
theorem SmallOk.many {t:Tsk} (h:SmallOk t):(statesL t.vars).length≤512:=by
  have:=h.states t.vars.length
  rwa [List.take_length] at this
structure Mid (t:Tsk):Prop where
  ok:TaskOk t
  states:∀ k,(statesL (t.vars.take k)).length≤600
  ops:t.ops.length≤80
theorem SmallOk.mid {t:Tsk} (h:SmallOk t):Mid t:=⟨h.ok,fun k=>by have:=h.states k;omega,by have:=h.2.1;omega⟩
end
end Go.Proofs.YtecegaabajeolaaGreat

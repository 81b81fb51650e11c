/- Own text: what the proof of orbitExpands_holds uses, part 5: rules, models and their proofs, plain laws. -/
import Derived.Test.YtecegaabajeolaaGreatOexD
set_option linter.unusedVariables false
set_option linter.unusedSimpArgs false
namespace Go.Proofs.YtecegaabajeolaaGreat
open Go Go.RowKit
section
open Go Go.RowKit
section
attribute [local irreducible] ewp owp hwp hwq hws Ev Evg Fn retPost loud loudS Res1
noncomputable def BI (x0:Option Gnr) (x1:List Int):Option (List Suc) :=
  bnd (CX x0 x1) fun q7=>bnd (rng (ρ:=(List Suc)) (fun (k23:Nat) (a24:Int) (s21:(List Suc))=>bnd (Cu x1) fun q46=>bnd (x0) fun o56=>bnd (atI o56.t.ops a24) fun a88=>bnd (rng (ρ:=Ctl (List Suc) (List Suc)) (fun (k115:Nat) (a116:Eff) (s113:(List Int))=>bnd (Eh a116.cond x1) fun q150=>if q150=true then bnd (atI s113 a116.var) fun a157=>some (.next (s113.set (a116.var:Int).toNat a116.val)) else some (.next s113)) a88.effs 0 q46) fun res111=>fin res111 fun (s175:(List Int))=>bnd (appI 32 s21 [(⟨a24,s175⟩:Suc)]) fun u179=>some (.next u179)) q7 0 ([]:List Suc)) fun res19=>fin res19 fun (s195:(List Suc))=>some s195
theorem Fv {w:World} {A:Nat→Prop} (hA:∀ k,A k→k < w.heap.size) {vx0:Value} {x0:Option Gnr} (h0:Vb w A vx0 x0) {vx1:Value} {x1:List Int} (g0:Vb w A vx1 x1) {r:(List Suc)} (hm:BI x0 x1=some r) :
    Fn Tryz.prog 30 [vx0,vx1] w fun v w'=>Ext w w'∧Vb w' (upA A w w') v r:=by
 obtain ⟨O,hB,k3⟩:=enter hA
 replace h0:=h0.mono k3
 obtain ⟨p3,rfl,s3⟩:=h0.ptr
 replace g0:=g0.mono k3
 obtain ⟨A5,c6,rfl⟩:=g0.form
 refine AK Tryz.func30 rfl Tryz.ntmps30 rfl ?_
 unfold BI at hm
 refine Al (Aj (Au rfl rfl (o_z ?_)))
 refine Al (Aj (Au rfl rfl (o_z ?_)))
 refine Al (Al (Aj (Ar rfl rfl (Ar rfl rfl ?_))))
 obtain ⟨q7,e8,hm⟩:=bs hm
 refine HY 2 (by decide) (O:=O) (Fu Fr.lt h0 g0 e8) rfl rfl fun e1 f1 w9 t3 b2 m0=>?_
 refine AY rfl rfl ?_
 have e2:q7.length≤9223372036854775807:=Nat.le_trans m0.len.2.1 m0.len.2.2
 have q5:inI64 (q7.length:Int):=rngNat e2
 refine Ar rfl rfl (o_z ?_)
 obtain ⟨h1,f2,hm⟩:=bs hm
 refine AH (aft h1 (fun (n0:(List Suc)) (i0:(Option Addr×Nat))=>[(5,(.slice i0.1 n0.length i0.2))]) (fun n0 i0 w'=>∃ O':Lab,Bs w A w' O'∧Rw 5 w' O' 85 (.slice i0.1 n0.length i0.2) n0)) ?_ ?_
 ·
  refine AU ?_
  replace hB:=hB.st b2
  replace h0:=h0.st b2
  replace g0:=g0.st b2
  refine Bu (σ:=(List Suc)) (X:=(Option Addr×Nat)) (q7.length) f2 rfl e2 (fun (n0:(List Suc)) (i0:(Option Addr×Nat))=>[(0,(.pointer p3)),(1,(.slice A5 x1.length c6)),(5,(.slice i0.1 n0.length i0.2)),(13,(.slice e1 q7.length f1))]) _ (fun n0 i0 w'=>∃ O':Lab,Bs w A w' O'∧Vb w' (Fr 0 w' O') (.pointer p3) x0∧Vb w' (Fr 0 w' O') (.slice A5 x1.length c6) x1∧Rw 5 w' O' 85 (.slice i0.1 n0.length i0.2) n0∧Rw 2 w' O' 3 (.slice e1 q7.length f1) q7) _ (none,0) ⟨t3,hB,h0,g0,(Rw.nil 5 (by decide)),m0⟩ ⟨rfl,rfl,rfl,rfl,rfl,rfl,trivial⟩ (fun _ _=>⟨rfl,rfl⟩) (fun _ _=>⟨rfl,trivial⟩) (fun _ _ _ ⟨O',hB,h0,g0,j0,m0⟩=>⟨O',hB,j0⟩) ⟨rfl,rfl,rfl⟩ ⟨rfl,rfl⟩ ?_
  rintro g2 i1 n0 i0 r5 u3 j1 ⟨v3,hB,h0,g0,j0,m0⟩ e0 h2 i2
  have rk23:inI64 (g2:Int):=rngK j1 e2
  refine Al (Aj ?_)
  obtain ⟨s5,t5,w3,j2,k2,l2,rfl,x3⟩:=m0.elem j1
  refine Bv (hA:=j2) (hj:=rfl) (hlt:=k2) rfl rfl rfl ?_
  refine AG (hc:=cat0 l2) rfl rfl ?_
  refine Au rfl rfl (o_z ?_)
  refine Al (Aj (Ar rfl rfl ?_))
  obtain ⟨k1,y3,e0⟩:=bs e0
  refine HY 3 (by decide) (O:=v3) (ET Fr.lt g0 y3) rfl rfl fun l1 m1 u5 z3 r0 a4=>?_
  refine Au rfl rfl (o_z ?_)
  refine Al (Al (Aj (Ar rfl rfl ?_)))
  obtain ⟨v5,l3,e0⟩:=bs e0
  obtain ⟨ad59,m2⟩:=Kg (s3.trans (by rw [l3];rfl))
  refine Ri (hA:=m2) rfl rfl ?_
  replace h0:=h0.st r0
  obtain ⟨w5,x5,y5,z5,a6,b6,n2,b4,o2,c4,d4,e4,m3⟩:=OC h0 l3
  obtain ⟨d6,e6,rfl⟩:=c4.form
  obtain ⟨f6,g6,rfl⟩:=d4.form
  obtain ⟨h6,i6,rfl⟩:=e4.form
  obtain ⟨j6,k6,rfl⟩:=m3.form
  refine Rh (hA:=n2) rfl rfl ?_
  refine AN rfl rfl (AG (hc:=cat3 o2) rfl rfl ?_)
  refine Ar rfl rfl ?_
  obtain ⟨g1,f4,e0⟩:=bs e0
  obtain ⟨g4,h4⟩:=AW f4
  obtain ⟨l6,m6,i4,p2,q2,r2,n6,j4,rfl,s2,k0,k4,l4⟩:=m3.elem' h4
  obtain ⟨m4,n4,rfl⟩:=s2.form
  obtain ⟨n1,o1,rfl⟩:=k0.form
  refine Bv (hA:=p2) (hj:=(Int.toNat_of_nonneg g4).symm) (hlt:=q2) rfl rfl rfl ?_
  refine AN rfl rfl (AG (hc:=cat3 r2) rfl rfl ?_)
  refine AY rfl rfl ?_
  have b1:g1.effs.length≤9223372036854775807:=Nat.le_trans k0.len.2.1 k0.len.2.2
  have o4:inI64 (g1.effs.length:Int):=rngNat b1
  refine Ar rfl rfl (o_z ?_)
  obtain ⟨c1,p1,e0⟩:=bs e0
  refine AH (aft c1 (fun (o0:(List Int)) (s0:Unit)=>[(0,(.pointer p3)),(1,(.slice A5 x1.length c6)),(5,(.slice i0.1 n0.length i0.2)),(7,(.int .i64 i1)),(8,(.slice l1 k1.length m1)),(13,(.slice e1 q7.length f1)),(14,(.int .i64 (q7.length:Int))),(15,(.int .i64 (g2:Int)))]) (fun o0 s0 w'=>∃ O':Lab,Bs w A w' O'∧Vb w' (Fr 0 w' O') (.pointer p3) x0∧Vb w' (Fr 0 w' O') (.slice A5 x1.length c6) x1∧Rw 5 w' O' 85 (.slice i0.1 n0.length i0.2) n0∧Rw 3 w' O' 3 (.slice l1 k1.length m1) o0∧Rw 2 w' O' 3 (.slice e1 q7.length f1) q7)) ?_ ?_
  ·
   refine AU ?_
   replace hB:=hB.st r0
   replace g0:=g0.st r0
   replace m0:=m0.st r0
   replace j0:=j0.st r0
   refine Bu (σ:=(List Int)) (X:=Unit) (g1.effs.length) p1 rfl b1 (fun (o0:(List Int)) (s0:Unit)=>[(0,(.pointer p3)),(1,(.slice A5 x1.length c6)),(5,(.slice i0.1 n0.length i0.2)),(7,(.int .i64 i1)),(8,(.slice l1 k1.length m1)),(13,(.slice e1 q7.length f1)),(14,(.int .i64 (q7.length:Int))),(15,(.int .i64 (g2:Int))),(29,(.slice n1 g1.effs.length o1))]) _ (fun o0 s0 w'=>∃ O':Lab,Bs w A w' O'∧Vb w' (Fr 0 w' O') (.pointer p3) x0∧Vb w' (Fr 0 w' O') (.slice A5 x1.length c6) x1∧Rw 5 w' O' 85 (.slice i0.1 n0.length i0.2) n0∧Rw 3 w' O' 3 (.slice l1 k1.length m1) o0∧Rw 2 w' O' 3 (.slice e1 q7.length f1) q7∧Vb w' (Fr 0 w' O') (.slice n1 g1.effs.length o1) g1.effs) _ () ⟨z3,hB,h0,g0,j0,a4,m0,k0⟩ ⟨rfl,rfl,rfl,rfl,rfl,rfl,rfl,rfl,rfl,rfl,rfl,trivial⟩ (fun _ _=>⟨rfl,rfl⟩) (fun _ _=>⟨rfl,rfl,rfl,rfl,rfl,rfl,rfl,rfl,trivial⟩) (fun _ _ _ ⟨O',hB,h0,g0,j0,f0,m0,k0⟩=>⟨O',hB,h0,g0,j0,f0,m0⟩) ⟨rfl,rfl,rfl⟩ ⟨rfl,rfl⟩ ?_
   rintro t2 t0 o0 s0 p4 n3 z0 ⟨u2,hB,h0,g0,j0,f0,m0,k0⟩ a0 c2 d2
   have rk115:inI64 (t2:Int):=rngK z0 b1
   refine Al (Aj ?_)
   obtain ⟨q4,r4,o3,q1,r1,s1,s4,rfl,u0,t4,v2⟩:=k0.elem' z0
   obtain ⟨w2,x2,rfl⟩:=u0.form
   refine Bv (hA:=q1) (hj:=rfl) (hlt:=r1) rfl rfl rfl ?_
   refine Bk (hl:=rfl) (hc:=s1) rfl rfl ?_
   refine Bh 4 u2 rfl fun y2 u4 v0 c0 l0=>?_
   refine AZ l0 rfl rfl rfl (Bj rfl) (allOne rfl) fun w0 d0 l0=>?_
   replace l0:Lc 4 w0 v0 y2 47 [(.slice w2 t0.cond.length x2),(.int .i64 t0.var),(.int .i64 t0.val)]:=l0
   refine o_z ?_
   refine Al (Aj (AN rfl rfl (AG (hc:=Blk.cell (i:=0) (l0.1) rfl) rfl rfl ?_)))
   refine Ar rfl rfl ?_
   obtain ⟨t1,z2,a0⟩:=bs a0
   replace g0:=(g0.st c0).st d0
   replace u0:=(u0.st c0).st d0
   refine Bi (O:=v0) (A:=All w0) (R:=fun w' F v=>Vb w' F v t1) (HZ (fun _ h=>h) (Vb.mono (F:=Fr 0 w0 v0) u0 Fr.lt) (Vb.mono (F:=Fr 0 w0 v0) g0 Fr.lt) z2) rfl rfl fun v4 w4 x4 b0 a3=>?_
   obtain rfl:=a3.bool
   cases t1
   case false =>
    replace a0:=iF a0
    refine o_z ?_
    refine Ae rfl (AM ?_)
    obtain rfl:=sm a0
    exact show Exists _ from ⟨_,(),rfl,⟨rfl,rfl,rfl,rfl,rfl,rfl,rfl,rfl,rfl,rfl,rfl,trivial⟩,_,((hB.st c0).st d0).st b0,((h0.st c0).st d0).st b0,g0.st b0,((j0.st c0).st d0).st b0,((f0.st c0).st d0).st b0,((m0.st c0).st d0).st b0,((k0.st c0).st d0).st b0⟩
   replace a0:=iT a0
   refine o_z ?_
   refine Ah rfl (Aj (Ar rfl rfl (AN rfl rfl ?_)))
   replace l0:=l0.st b0
   refine AG (hc:=Blk.cell (i:=1) (l0.1) rfl) rfl rfl ?_
   refine AN rfl rfl (AG (hc:=Blk.cell (i:=2) (l0.1) rfl) rfl rfl ?_)
   obtain ⟨y4,b3,a0⟩:=bs a0
   obtain ⟨c3,u1⟩:=AW b3
   replace f0:=((f0.st c0).st d0).st b0
   obtain ⟨z4,a5,q3,a1,v1,r3,rfl,b5⟩:=f0.elem u1
   refine Bv (hA:=a1) (hj:=(Int.toNat_of_nonneg c3).symm) (hlt:=v1) rfl rfl rfl ?_
   refine Dj rfl f0 (a:=t0.val) (vInt v2) a1 rfl rfl (AE u1) fun c5 p0 f0=>?_
   refine o_z ?_
   obtain rfl:=sm a0
   exact show Exists _ from ⟨_,(),rfl,⟨rfl,rfl,rfl,rfl,rfl,rfl,rfl,rfl,rfl,rfl,rfl,trivial⟩,_,(((hB.st c0).st d0).st b0).st p0,(((h0.st c0).st d0).st b0).st p0,(g0.st b0).st p0,(((j0.st c0).st d0).st b0).st p0,f0,(((m0.st c0).st d0).st b0).st p0,(((k0.st c0).st d0).st b0).st p0⟩
  replace hB:=hB.st r0
  replace g0:=g0.st r0
  replace m0:=m0.st r0
  replace j0:=j0.st r0
  rintro d5 e5 ⟨w1,f5,rfl,y1,g5,hB,h0,g0,j0,f0,m0⟩
  replace e0:=Be e0
  refine AO _ y1 ?_
  refine Aj (Ar rfl rfl (Ar rfl rfl (Ar rfl rfl (Dh rfl rfl rfl ?_))))
  obtain ⟨h5,q0,f0⟩:=f0.freeze
  obtain ⟨i5,d1,e0⟩:=bs e0
  obtain ⟨d1,d3,e3⟩:=Cc d1
  replace j0:=j0.st q0
  refine CY rfl (a:=(⟨i1,w1⟩:Suc)) j0 (Vb.ofAgg (cs:=[(.int .i64 i1),(.slice l1 k1.length m1)]) (x:=(⟨i1,w1⟩:Suc)) rfl ⟨_,rfl,f0,x3⟩) (fun _=>rfl) rfl (by decide) (by decide) d3 e3 ⟨rfl,rfl⟩ fun j5 f3 g3 k5 l5 y0 z1=>?_
  rw [← d1] at z1 ⊢
  refine Au rfl rfl (o_z ?_)
  obtain rfl:=sm e0
  exact show Exists _ from ⟨_,(f3,g3),rfl,⟨rfl,rfl,rfl,rfl,rfl,rfl,trivial⟩,_,(hB.st q0).st y0,(h0.st q0).st y0,(g0.st q0).st y0,z1,(m0.st q0).st y0⟩
 replace hB:=hB.st b2
 rintro m5 h3 ⟨n5,o5,rfl,a2,p5,hB,j0⟩
 replace hm:=Be hm
 refine AO _ a2 ?_
 refine Al (Aj (Ar rfl rfl (Au rfl rfl (o_z ?_))))
 refine AJ ?_
 obtain ⟨i3,j3,j0⟩:=j0.freeze
 obtain rfl:=sm hm
 replace hB:=hB.st j3
 exact ret1v rfl (AD rfl) ⟨hB.ext,(Vb.mono (F:=Fr 0 h3 i3) j0 hB.out)⟩
end
theorem OG {s:List Int} (hl:s.length≤1000000):Cu s=some s:=if_pos ⟨by omega,by omega⟩
theorem PK {t:Tsk} {s:List Int} (hok:TaskOk t) (hl:s.length≤1000000):BI (some ⟨t⟩) s=some ((appS t s).map (sucOf t s)):=by
  have ha:CX (some ⟨t⟩) s=some (appS t s):=if_pos hl
  have hol:=hok.2.1
  have hal:=OB t s
  unfold BI
  rw [ha,Am]
  rw [DL (fun k=>((appS t s).take k).map (sucOf t s)) ?_ ?_,Am,BL,List.take_length]
  · rfl
  intro k x hk
  have hkl:=AE hk
  obtain ⟨hst,hmem⟩:=OA (List.mem_of_getElem? hk)
  obtain ⟨j,o,rfl,hj,hp⟩:=LG hmem
  rw [OG hl,Am,Am,Bg,hj,Am,LJ (hok.effs hst j o hj) Eh (fun _ _=>rfl) s rfl,Am,BL,Cp (by simp;omega) (by simp;omega),Am,List.take_add_one,hk,List.map_append]
  simp [sucOf,hj,succ]
theorem QK {t:Tsk} (h:TaskOk t):Ez t=some (some ⟨t⟩,⟨0⟩):=by unfold Ez;rw [Bf h,Bl,DG.2 h]
end
section
open Go Go.RowKit
attribute [local irreducible] ewp owp hwp hwq hws Ev Evg Fn retPost loud loudS Res1
structure Rsl where
  verdict:Int
  plan:List Int
  cost:Int
  expanded:Int
instance:Rp Rsl where
  isAgg:=true
  size:=4
  R w F cs x:=∃ v0,cs=[.int .i64 x.verdict,v0,.int .i64 x.cost,.int .i64 x.expanded]∧Vb w F v0 x.plan∧inI64 x.verdict∧inI64 x.cost∧inI64 x.expanded
  len:=by rintro w F cs x ⟨v0,rfl,h0,h1,h2,h3⟩;rfl
  one:=by rintro w F cs x ⟨v0,rfl,h0,h1,h2,h3⟩ u hu;simp at hu;rcases hu with rfl|rfl|rfl|rfl<;>first|rfl|exact Vb.one rfl (by assumption)
  agree:=by rintro w w' F cs x ⟨v0,rfl,h0,h1,h2,h3⟩ ha;exact ⟨v0,rfl,h0.agree ha,h1,h2,h3⟩
  mono:=by rintro w F G cs x ⟨v0,rfl,h0,h1,h2,h3⟩ ha;exact ⟨v0,rfl,h0.mono ha,h1,h2,h3⟩
end
section
open Go Go.RowKit
attribute [local irreducible] ewp owp hwp hwq hws Ev Evg Fn retPost loud loudS Res1
attribute [local irreducible] hwx loudX
noncomputable def Ck (x0:List Int):Option (List Int) :=
  bnd (chkI ((x0.length:Int) - 1)) fun n4=>bnd (lop (ρ:=(List Int)) (fun (s9:(List Int)×Int×Int)=>if s9.2.1 < s9.2.2 then (bnd (atI s9.1 s9.2.2) fun a31=>bnd (atI s9.1 s9.2.1) fun a43=>bnd (atI s9.1 s9.2.1) fun a55=>bnd (atI (s9.1.set (s9.2.1:Int).toNat a31) s9.2.2) fun a69=>bnd (chkI (s9.2.1 + 1)) fun n83=>bnd (chkI (s9.2.2 - 1)) fun n86=>some (.next (((s9.1.set (s9.2.1:Int).toNat a31).set (s9.2.2:Int).toNat a43),n83,n86))) else (some (.brk (s9.1,s9.2.1,s9.2.2)))) (x0,0,n4)) fun res7=>fin res7 fun (s93:(List Int)×Int×Int)=>some s93.1
theorem Gm {w:World} {O:Lab} {A0:Option Addr} {m0 c0 i0:Nat} {x0:List Int} (d0:Rw i0 w O 3 (.slice A0 m0 c0) x0) {r:(List Int)} (hm:Ck x0=some r) :
    Fn Tryz.prog 61 [(.slice A0 m0 c0)] w fun v w'=>∃ O',St (eT i0) w O w' O'∧Rw i0 w' O' 3 (.slice A0 m0 c0) r:=by
 obtain ⟨O0,hE,f1,g1⟩:=ent1 (w:=w) (O:=O) d0.2.2
 obtain rfl:m0=x0.length:=d0.len.1
 have d0':=Rw.leave d0 f1 g1 (j:=2) (by decide)
 have hB:Bm w O0 w O0:=Bm.refl
 refine AK Tryz.func61 rfl Tryz.ntmps61 rfl ?_
 unfold Ck at hm
 refine Al (Aj (Ar rfl rfl (AY rfl rfl ?_)))
 have l3:x0.length≤9223372036854775807:=Nat.le_trans d0'.len.2.1 d0'.len.2.2
 have r2:inI64 (x0.length:Int):=rngNat l3
 obtain ⟨n4,e5,hm⟩:=bs hm
 have r6:=(Co e5)
 refine Ho (he:=e5) rfl rfl rfl ?_
 refine Au rfl rfl (Au rfl rfl (o_z ?_))
 obtain ⟨j0,h1,hm⟩:=bs hm
 refine AH (aft j0 (fun (s9:(List Int)×Int×Int) (h0:Unit)=>[(0,(.slice A0 x0.length c0))]) (fun s9 h0 w'=>∃ O':Lab,Bm w O0 w' O'∧Rw 2 w' O' 3 (.slice A0 x0.length c0) s9.1∧inI64 s9.2.1∧inI64 s9.2.2)) ?_ ?_
 ·
  refine AU (Fi (σ:=(List Int)×Int×Int) (X:=Unit) h1 (fun (s9:(List Int)×Int×Int) (h0:Unit)=>[(0,(.slice A0 x0.length c0)),(2,(.int .i64 s9.2.1)),(3,(.int .i64 s9.2.2))]) _ (fun s9 h0 w'=>∃ O':Lab,Bm w O0 w' O'∧Rw 2 w' O' 3 (.slice A0 x0.length c0) s9.1∧inI64 s9.2.1∧inI64 s9.2.2) _ () ⟨O0,hB,d0',(show inI64 (0) from by decide),r6⟩ ⟨rfl,rfl,rfl,trivial⟩ ?_)
  rintro s9 h0 k2 i1 ⟨j1,hB,b0,y0,z0⟩ a0 k0 e0
  refine Al (Al (Aj (Ar rfl rfl (Ar rfl rfl (Da rfl rfl rfl (fun l0=>?_) fun l0=>?_)))))
  ·
   replace a0:=ip a0 l0
   refine o_z ?_
   refine Ah rfl (AM (Al (AU (Bt [(13,[2])] j1 ?_))))
   refine AT (fuel:=5) [] [(0,true),(1,true),(4,true),(5,true),(6,true),(7,true),(8,true),(9,true),(10,true),(11,true),(12,true)] (by kernel_rfl) rfl ?_
   refine AL rfl rfl rfl (AL rfl rfl rfl (AL rfl rfl rfl (AL rfl rfl rfl ?_)))
   obtain ⟨k1,l1,a0⟩:=bs a0
   obtain ⟨m1,n1⟩:=AW l1
   obtain ⟨l2,m2,o1,n0,o0,p0,q0,rfl,p1⟩:=b0.elemF n1
   refine Br (hA:=n0) (hj:=(Int.toNat_of_nonneg m1).symm) (hlt:=p0) rfl rfl rfl rfl ?_
   refine AV (hc:=fun w' ⟨O',hq⟩=>cat0 (AR (hq.agree (i:=2) (by decide)) o0 q0)) rfl rfl rfl ?_
   refine AL rfl rfl rfl (AL rfl rfl rfl ?_)
   obtain ⟨q1,r1,a0⟩:=bs a0
   obtain ⟨s1,t1⟩:=AW r1
   obtain ⟨n2,o2,u1,r0,s0,t0,u0,rfl,v1⟩:=b0.elemF t1
   refine Br (hA:=r0) (hj:=(Int.toNat_of_nonneg s1).symm) (hlt:=t0) rfl rfl rfl rfl ?_
   refine AV (hc:=fun w' ⟨O',hq⟩=>cat0 (AR (hq.agree (i:=2) (by decide)) s0 u0)) rfl rfl rfl ?_
   obtain ⟨p2,w1,a0⟩:=bs a0
   obtain ⟨x1,a1⟩:=AW w1
   obtain ⟨q2,s2,y1,f0,z1,v0,a2,rfl,t2⟩:=b0.elemF a1
   refine Br (hA:=f0) (hj:=(Int.toNat_of_nonneg x1).symm) (hlt:=v0) rfl rfl rfl rfl ?_
   refine AC ?_
   refine AT (fuel:=3) [2] [(2,true),(3,true)] (by kernel_rfl) rfl ?_
   refine AL rfl rfl rfl (AL rfl rfl rfl (AC ?_))
   refine AP (i:=13) (by kernel_rfl) rfl ?_
   refine Dj rfl b0 (a:=k1) (vInt p1) f0 rfl rfl (AE a1) fun u2 b1 b0=>?_
   have hZ:=b1.lst [2] (fun _ h=>by cases h;decide)
   refine AX [] hZ (by kernel_rfl) ?_
   refine AT (fuel:=1) [] [(14,true)] (by kernel_rfl) rfl ?_
   obtain ⟨v2,b2,a0⟩:=bs a0
   obtain ⟨c2,c1⟩:=AW b2
   obtain ⟨w2,x2,d2,g0,e2,w0,f2,rfl,y2⟩:=b0.elemF c1
   refine Br (hA:=g0) (hj:=(Int.toNat_of_nonneg c2).symm) (hlt:=w0) rfl rfl rfl rfl ?_
   refine AC ?_
   refine AP (i:=15) (by kernel_rfl) rfl ?_
   refine Dj rfl b0 (a:=q1) (vInt v1) g0 rfl rfl (AE c1) fun z2 g2 b0=>?_
   refine BZ (by kernel_rfl) ?_
   refine Bn (by kernel_rfl) ?_
   refine Aj (Ar rfl rfl ?_)
   obtain ⟨a3,d1,a0⟩:=bs a0
   have h2:=(Co d1)
   refine Gk (he:=d1) rfl rfl rfl ?_
   refine Ar rfl rfl ?_
   obtain ⟨b3,e1,a0⟩:=bs a0
   have i2:=(Co e1)
   refine Ho (he:=e1) rfl rfl rfl ?_
   refine Au rfl rfl (Au rfl rfl (o_z ?_))
   obtain rfl:=sm a0
   exact show Exists _ from ⟨_,(),rfl,⟨rfl,rfl,rfl,trivial⟩,_,(hB.st b1).st g2,b0,h2,i2⟩
  replace a0:=im a0 l0
  refine o_z ?_
  refine Ae rfl (De ?_)
  obtain rfl:=sm a0
  exact show Exists _ from ⟨_,(),e0 _ rfl,⟨rfl,trivial⟩,_,hB,b0,y0,z0⟩
 rintro c3 d3 ⟨e3,f3,rfl,j2,g3,hB,b0,y0,z0⟩
 replace hm:=Be hm
 obtain rfl:=sm hm
 obtain ⟨O',hS',hz,hl⟩:=hE.leave (fun q=>if q=2 then i0 else 0) rfl hB
 exact ret0n rfl  ⟨O',hS',(Rw.leave b0 hz (hl 2 (by decide) (by decide)) d0.2.2)⟩
end
section
open Go Go.RowKit
attribute [local irreducible] ewp owp hwp hwq hws Ev Evg Fn retPost loud loudS Res1
attribute [local irreducible] hwx loudX
structure ONd where
  state:List Int
  cost:Int
  parent:Int
  op:Int
  used:List Int
  fin:Bool
instance:Rp ONd where
  isAgg:=true
  size:=6
  R w F cs x:=∃ v0 v1,cs=[v0,.int .i64 x.cost,.int .i64 x.parent,.int .i64 x.op,v1,.bool x.fin]∧Vb w F v0 x.state∧Vb w F v1 x.used∧inI64 x.cost∧inI64 x.parent∧inI64 x.op
  len:=by rintro w F cs x ⟨v0,v1,rfl,h0,h1,h2,h3,h4⟩;rfl
  one:=by rintro w F cs x ⟨v0,v1,rfl,h0,h1,h2,h3,h4⟩ u hu;simp at hu;rcases hu with rfl|rfl|rfl|rfl|rfl|rfl<;>first|rfl|exact Vb.one rfl (by assumption)
  agree:=by rintro w w' F cs x ⟨v0,v1,rfl,h0,h1,h2,h3,h4⟩ ha;exact ⟨v0,v1,rfl,h0.agree ha,h1.agree ha,h2,h3,h4⟩
  mono:=by rintro w F G cs x ⟨v0,v1,rfl,h0,h1,h2,h3,h4⟩ ha;exact ⟨v0,v1,rfl,h0.mono ha,h1.mono ha,h2,h3,h4⟩
structure Ors where
  t:Tsk
  gens:List Swp
  nodes:List ONd
  tab:MapP ByteArray Int
  open_ : List OEn
  number:Int
instance:Ow Ors where
  R w F M v x:=∃ (g:Nat) (L:Lab) (c0 c1 c2 c3 c4 c5 c6 c7:Value),v=.pointer (some ⟨g,0,none⟩)∧Blk w g 69 [c0,c1,c2,c3,c4,c5,c6,c7,.int .i64 x.number]∧M g∧L g=0∧Vb w F c0 x.t.vars∧Vb w F c1 x.t.init∧Vb w F c2 x.t.goal∧Vb w F c3 x.t.ops∧Vb w F c4 x.gens∧RwM w F (fun k=>M k∧L k=1) 78 c5 x.nodes∧Ow.R w F (fun k=>M k∧L k=2) c6 x.tab∧RwM w F (fun k=>M k∧L k=3) 73 c7 x.open_∧inI64 x.number
  agree:=by rintro w w' F M v x ⟨g,L,c0,c1,c2,c3,c4,c5,c6,c7,rfl,hb,hM,hL,h0,h1,h2,h3,h4,h5,h6,h7,h8⟩ a1 a2;exact ⟨g,L,c0,c1,c2,c3,c4,c5,c6,c7,rfl,hb.keep (a2 g hM),hM,hL,h0.agree a1,h1.agree a1,h2.agree a1,h3.agree a1,h4.agree a1,h5.agree a1 fun k hk=>a2 k hk.1,Ow.agree h6 a1 fun k hk=>a2 k hk.1,h7.agree a1 fun k hk=>a2 k hk.1,h8⟩
  mono:=by rintro w F M F' M' v x ⟨g,L,c0,c1,c2,c3,c4,c5,c6,c7,rfl,hb,hM,hL,h0,h1,h2,h3,h4,h5,h6,h7,h8⟩ a1 a2 a3;exact ⟨g,L,c0,c1,c2,c3,c4,c5,c6,c7,rfl,hb,a2 g hM,hL,h0.mono a1,h1.mono a1,h2.mono a1,h3.mono a1,h4.mono a1,h5.mono a1 (fun k hk=>⟨a2 k hk.1,hk.2⟩) fun k hf hm=>a3 k hf hm.1,Ow.mono h6 a1 (fun k hk=>⟨a2 k hk.1,hk.2⟩) fun k hf hm=>a3 k hf hm.1,h7.mono a1 (fun k hk=>⟨a2 k hk.1,hk.2⟩) fun k hf hm=>a3 k hf hm.1,h8⟩
theorem Ors.opn {i:Nat} {w:World} {O:Lab} {p:Nat} {x:Ors} (h:Ob i w O (.pointer (some ⟨p,0,none⟩)) x) (l0 l1 l2 l3:Nat) (hl:l0≠0∧l1≠0∧l2≠0∧l3≠0):∃ (O':Lab) (c0 c1 c2 c3 c4 c5 c6 c7:Value),St (eT i) w O w O'∧(∀ k,Fr i w O k→∃ q,q∈[l0,l1,l2,l3]∧Fr q w O' k)∧Lc l0 w O' p 69 [c0,c1,c2,c3,c4,c5,c6,c7,.int .i64 x.number]∧Vb w (Fr 0 w O') c0 x.t.vars∧Vb w (Fr 0 w O') c1 x.t.init∧Vb w (Fr 0 w O') c2 x.t.goal∧Vb w (Fr 0 w O') c3 x.t.ops∧Vb w (Fr 0 w O') c4 x.gens∧Rw l1 w O' 78 c5 x.nodes∧Ob l2 w O' c6 x.tab∧Rw l3 w O' 73 c7 x.open_∧inI64 x.number:=by
  obtain ⟨⟨g,L,c0,c1,c2,c3,c4,c5,c6,c7,hv,hb,hM,hL,h0,h1,h2,h3,h4,h5,h6,h7,h8⟩,hi⟩:=h
  obtain rfl:p=g:=by injection hv with hv;injection hv with hv;injection hv
  exact ⟨part O i L [l0,l1,l2,l3],c0,c1,c2,c3,c4,c5,c6,c7,Mv hi,Lq (by simp),⟨hb,(Gs (j:=0) rfl p ⟨hM,hL⟩).2⟩,h0.mono (Er hi),h1.mono (Er hi),h2.mono (Er hi),h3.mono (Er hi),h4.mono (Er hi),h5.rw (Er hi) (Gs (j:=1) rfl) hl.2.1,⟨Ow.mono h6 (Er hi) (Gs (j:=2) rfl) (frNe0 hl.2.2.1),hl.2.2.1⟩,h7.rw (Er hi) (Gs (j:=3) rfl) hl.2.2.2,h8⟩
theorem Ors.shut {w:World} {O:Lab} {p:Nat} {x:Ors} {l0 l1 l2 l3:Nat} {c0 c1 c2 c3 c4 c5 c6 c7:Value} (hd:¬ 0∈[l0,l1,l2,l3]∧[l0,l1,l2,l3].idxOf l0=0∧[l0,l1,l2,l3].idxOf l1=1∧[l0,l1,l2,l3].idxOf l2=2∧[l0,l1,l2,l3].idxOf l3=3) (hb:Lc l0 w O p 69 [c0,c1,c2,c3,c4,c5,c6,c7,.int .i64 x.number]) (h0:Vb w (Fr 0 w O) c0 x.t.vars) (h1:Vb w (Fr 0 w O) c1 x.t.init) (h2:Vb w (Fr 0 w O) c2 x.t.goal) (h3:Vb w (Fr 0 w O) c3 x.t.ops) (h4:Vb w (Fr 0 w O) c4 x.gens) (h5:Rw l1 w O 78 c5 x.nodes) (h6:Ob l2 w O c6 x.tab) (h7:Rw l3 w O 73 c7 x.open_) (h8:inI64 x.number):∃ O',St (·∈[l0,l1,l2,l3]) w O w O'∧(∀ k,Fr 0 w O k→Fr 0 w O' k)∧(∀ q,q∈[l0,l1,l2,l3]→∀ k,Fr q w O k→Fr l0 w O' k)∧Ob l0 w O' (.pointer (some ⟨p,0,none⟩)) x:=by
  have hb1:l0≠0:=fun e=>hd.1 (by simp [e])
  have hg:=FC (i:=l0) hd.2.1 (by simp) p ⟨hb.1.lt,hb.2⟩
  exact ⟨whole O l0 [l0,l1,l2,l3],Lr,Dk hd.1,Kr,⟨p,fun k=>[l0,l1,l2,l3].idxOf (O k),c0,c1,c2,c3,c4,c5,c6,c7,rfl,hb.1,hg.1,hg.2,h0.mono (Dk hd.1),h1.mono (Dk hd.1),h2.mono (Dk hd.1),h3.mono (Dk hd.1),h4.mono (Dk hd.1),h5.m (Dk hd.1) (FC hd.2.2.1 (by simp)) (fun k a b=>frNe0 hb1 k a b.1),Ow.mono h6.1 (Dk hd.1) (FC hd.2.2.2.1 (by simp)) (fun k a b=>frNe0 hb1 k a b.1),h7.m (Dk hd.1) (FC hd.2.2.2.2 (by simp)) (fun k a b=>frNe0 hb1 k a b.1),h8⟩,hb1⟩
noncomputable def Fb (x0:List Int):Option ByteArray :=
  bnd (mkI 1 ((bw 0):Byt) (x0.length:Int)) fun u6=>bnd (rng (ρ:=ByteArray) (fun (k25:Nat) (a26:Int) (s23:(List Byt))=>bnd (s23[k25]?) fun a48=>some (.next (s23.set k25 (bw a26)))) x0 0 u6) fun res21=>fin res21 fun (s64:(List Byt))=>bnd (strI s64) fun n66=>some n66
theorem Mo {w:World} {A:Nat→Prop} (hA:∀ k,A k→k < w.heap.size) {vx0:Value} {x0:List Int} (a0:Vb w A vx0 x0) {r:ByteArray} (hm:Fb x0=some r) :
    Fn Tryz.prog 58 [vx0] w fun v w'=>Ext w w'∧Vb w' (upA A w w') v r:=by
 obtain ⟨O,hB,a1⟩:=enter hA
 replace a0:=a0.mono a1
 obtain ⟨A2,c3,rfl⟩:=a0.form
 refine AK Tryz.func58 rfl Tryz.ntmps58 rfl ?_
 unfold Fb at hm
 refine Al (Aj (Au rfl rfl (o_z ?_)))
 refine Al (Aj (Ar rfl rfl (AY rfl rfl ?_)))
 have l5:x0.length≤9223372036854775807:=Nat.le_trans a0.len.2.1 a0.len.2.2
 have r4:inI64 (x0.length:Int):=rngNat l5
 obtain ⟨u6,e7,hm⟩:=bs hm
 obtain ⟨m8,e9,b1,c1,d1⟩:=CE e7
 refine Di 2 (by decide) O (z0:=((bw 0):Byt)) rfl rfl rfl rfl rfl e9 (vByte (x:=(bw 0))) b1 c1 rfl fun h0 k1 e1 j0 t0=>?_
 rw [← d1] at t0 ⊢
 refine Au rfl rfl (o_z ?_)
 refine Al (Al (Aj (Ar rfl rfl (AY rfl rfl ?_))))
 replace a0:=a0.st j0
 have k0:x0.length≤9223372036854775807:=Nat.le_trans a0.len.2.1 a0.len.2.2
 have l1:inI64 (x0.length:Int):=rngNat k0
 refine Ar rfl rfl (o_z ?_)
 obtain ⟨e0,l0,hm⟩:=bs hm
 refine AH (aft e0 (fun (d0:(List Byt)) (i0:Unit)=>[(3,(.slice (some ⟨h0,0,none⟩) u6.length m8))]) (fun d0 i0 w'=>∃ O':Lab,Bs w A w' O'∧Rw 2 w' O' 5 (.slice (some ⟨h0,0,none⟩) u6.length m8) d0)) ?_ ?_
 ·
  refine AU ?_
  replace hB:=hB.st j0
  refine Bu (σ:=(List Byt)) (X:=Unit) (x0.length) l0 rfl k0 (fun (d0:(List Byt)) (i0:Unit)=>[(3,(.slice (some ⟨h0,0,none⟩) u6.length m8)),(9,(.slice A2 x0.length c3))]) _ (fun d0 i0 w'=>∃ O':Lab,Bs w A w' O'∧Rw 2 w' O' 5 (.slice (some ⟨h0,0,none⟩) u6.length m8) d0∧Vb w' (Fr 0 w' O') (.slice A2 x0.length c3) x0) _ () ⟨e1,hB,t0,a0⟩ ⟨rfl,rfl,rfl,rfl,trivial⟩ (fun _ _=>⟨rfl,rfl⟩) (fun _ _=>⟨rfl,trivial⟩) (fun _ _ _ ⟨O',hB,b0,a0⟩=>⟨O',hB,b0⟩) ⟨rfl,rfl,rfl⟩ ⟨rfl,rfl⟩ ?_
  rintro f1 u0 d0 i0 m1 g1 f0 ⟨n1,hB,b0,a0⟩ c0 m0 n0
  have rk25:inI64 (f1:Int):=rngK f0 k0
  refine Al (Aj (Ar rfl rfl ?_))
  obtain ⟨o1,p1,h1,o0,p0,q0,rfl,q1⟩:=a0.elem' f0
  refine Bv (hA:=o0) (hj:=rfl) (hlt:=p0) rfl rfl rfl ?_
  refine AG (hc:=cat0 q0) rfl rfl ?_
  refine Au rfl rfl (Au rfl rfl (o_z ?_))
  refine Aj (Ar rfl rfl (Ar rfl rfl (Ar rfl rfl (Rt rfl rfl ?_))))
  obtain ⟨r1,v0,c0⟩:=bs c0
  obtain ⟨s1,t1,i1,g0,r0,j1,rfl⟩:=b0.elem v0
  refine Bv (hA:=g0) (hj:=rfl) (hlt:=r0) rfl rfl rfl ?_
  refine Dj rfl b0 (a:=(bw u0)) (vByte (x:=(bw u0))) g0 rfl rfl (AE v0) fun u1 w0 b0=>?_
  refine o_z ?_
  obtain rfl:=sm c0
  exact show Exists _ from ⟨_,(),rfl,⟨rfl,rfl,rfl,rfl,trivial⟩,_,hB.st w0,b0,a0.st w0⟩
 replace hB:=hB.st j0
 rintro v1 w1 ⟨x1,y1,rfl,s0,z1,hB,b0⟩
 replace hm:=Be hm
 refine AO _ s0 ?_
 refine Al (Aj (Ar rfl rfl ?_))
 obtain ⟨a2,y0,hm⟩:=bs hm
 refine Ru (hv:=(b0).all) (he:=y0) rfl rfl ?_
 refine Au rfl rfl (o_z ?_)
 refine AJ ?_
 obtain rfl:=sm hm
 exact ret1v rfl (AD rfl) ⟨hB.ext,(vStr (PG y0))⟩
noncomputable def BW (x0:Ors) (x1:List Int) (x2:Int) (x3:Int) (x4:Int):Option (Err×Ors) :=
  bnd (Ci (⟨x0.t.vars,x0.t.init,x0.t.goal,x0.t.ops⟩:Tsk) x0.gens x1) fun q46=>if q46.2.2.n≠0 then (some ((⟨q46.2.2.n⟩:Err),x0)) else (bnd (Fb q46.1) fun q70=>bnd (if (mhas x0.tab.l q70)=true then (bnd (atI x0.nodes (mget 0 x0.tab.l q70)) fun a87=>if a87.cost≤x2 then (some (true,true)) else (some (true,false))) else (some (false,false)):Option (Bool×Bool)) fun y82=>if y82.2=true then (some ((⟨0⟩:Err),x0)) else (bnd (if y82.1=true then (bnd (atI x0.nodes (mget 0 x0.tab.l q70)) fun a182=>some ((mget 0 x0.tab.l q70),(⟨(⟨x0.t.vars,x0.t.init,x0.t.goal,x0.t.ops⟩:Tsk),x0.gens,(x0.nodes.set ((mget 0 x0.tab.l q70):Int).toNat (⟨q46.1,x2,x3,x4,q46.2.1,false⟩:ONd)),x0.tab,x0.open_,x0.number⟩:Ors))) else (bnd (appI 80 x0.nodes [(⟨q46.1,x2,x3,x4,q46.2.1,false⟩:ONd)]) fun u261=>some ((x0.nodes.length:Int),(⟨(⟨x0.t.vars,x0.t.init,x0.t.goal,x0.t.ops⟩:Tsk),x0.gens,u261,(⟨mput x0.tab.l q70 (x0.nodes.length:Int)⟩:MapP ByteArray Int),x0.open_,x0.number⟩:Ors))):Option (Int×Ors)) fun y137=>bnd (chkI (y137.2.number + 1)) fun n321=>bnd (CD (⟨y137.2.open_⟩:BxR 67 73 OEn) (⟨(⟨x2,n321,y137.1⟩:OEn)⟩:An 73 OEn)) fun q331=>some ((⟨0⟩:Err),(⟨(⟨y137.2.t.vars,y137.2.t.init,y137.2.t.goal,y137.2.t.ops⟩:Tsk),y137.2.gens,y137.2.nodes,y137.2.tab,q331.l,n321⟩:Ors))))
theorem FV {w:World} {O:Lab} {p0 i0:Nat} {x0:Ors} (s2:Ob i0 w O (.pointer (some ⟨p0,0,none⟩)) x0) {vx1:Value} {x1:List Int} (r3:Vb w (Fr 0 w O) vx1 x1) {x2:Int} (rx2:inI64 x2) {x3:Int} (rx3:inI64 x3) {x4:Int} (rx4:inI64 x4) {r:Err×Ors} (hm:BW x0 x1 x2 x3 x4=some r) :
    Fn Tryz.prog 25 [(.pointer (some ⟨p0,0,none⟩)),vx1,(.int .i64 x2),(.int .i64 x3),(.int .i64 x4)] w fun v w'=>∃ O',St (eT i0) w O w' O'∧Ob i0 w' O' (.pointer (some ⟨p0,0,none⟩)) r.2∧Vb w' (Fr 0 w' O') v r.1:=by
 obtain ⟨O0,hE,y6,y7⟩:=ent1 (w:=w) (O:=O) s2.2
 have s2':=Ob.leave s2 y6 y7 (j:=2) (by decide)
 have hB:Bm w O0 w O0:=Bm.refl
 replace r3:=r3.mono y6
 obtain ⟨A6,c7,rfl⟩:=r3.form
 refine AK Tryz.func25 rfl Tryz.ntmps25 rfl ?_
 unfold BW at hm
 refine Al (Aj (Au rfl rfl (o_z ?_)))
 refine Al ?_
 obtain ⟨O8,fC,gC,hC,iC,jC,kC,lC,mC,S9,z7,k1,a1,b1,c1,d1,e1,m1,o1,g1,n4⟩:=Ors.opn s2' 2 3 4 5 (by decide)
 obtain ⟨a8,b8,rfl⟩:=a1.form
 obtain ⟨c8,d8,rfl⟩:=b1.form
 obtain ⟨e8,f8,rfl⟩:=c1.form
 obtain ⟨g8,h8,rfl⟩:=d1.form
 obtain ⟨nC,oC,rfl⟩:=e1.form
 obtain ⟨pC,qC,rfl⟩:=m1.form
 obtain ⟨rC,rfl⟩:=o1.mptr
 obtain ⟨sC,tC,rfl⟩:=g1.form
 refine Bt [] O8 ?_
 refine AT (fuel:=8) [] [(0,true),(1,true),(2,true),(3,true),(4,true),(5,true),(6,true),(7,true),(8,true)] (by kernel_rfl) rfl ?_
 refine AL rfl rfl rfl (DA rfl rfl rfl (Bc rfl rfl rfl (CU (hl:=rfl) (hb:=fun w' ⟨O',hq⟩=>(Fs 0 4 ((k1.st hq (by decide)).1).cellsAt)) rfl rfl rfl ?_)))
 refine AL rfl rfl rfl (DA rfl rfl rfl (Bc rfl rfl rfl (AV (hc:=fun w' ⟨O',hq⟩=>Blk.cell (i:=4) ((k1.st hq (by decide)).1) rfl) rfl rfl rfl ?_)))
 refine AL rfl rfl rfl (AC ?_)
 refine AP (i:=9) (by kernel_rfl) rfl ?_
 obtain ⟨g0,i8,hm⟩:=bs hm
 replace r3:=r3.st S9
 refine Bq (O:=O8) (R:=fun w' F v=>T3 w' F v g0) (Hr Fr.lt (Vb.ofAgg (cs:=[(.slice a8 x0.t.vars.length b8),(.slice c8 x0.t.init.length d8),(.slice e8 x0.t.goal.length f8),(.slice g8 x0.t.ops.length h8)]) (x:=(⟨x0.t.vars,x0.t.init,x0.t.goal,x0.t.ops⟩:Tsk)) rfl ⟨_,_,_,_,rfl,a1,b1,c1,d1⟩) e1 r3 i8) rfl rfl fun uC z6 a7 b0 j8=>?_
 obtain ⟨vC,wC,xC,rfl,f1,h1,k8⟩:=j8
 obtain ⟨s3,t3,rfl⟩:=f1.form
 obtain ⟨u3,v3,rfl⟩:=h1.form
 obtain ⟨rfl,l8⟩:=k8.err
 have hZ:=b0.lst [] (fun _ h=>h.elim)
 refine AX [] hZ (by kernel_rfl) ?_
 refine AT (fuel:=0) [] [(10,true),(11,true),(12,true),(13,true),(14,true),(15,true),(16,true)] (by kernel_rfl) rfl ?_
 refine AL rfl rfl rfl (Gz rfl rfl rfl rfl (Gz rfl rfl rfl rfl (Gz rfl rfl rfl rfl (Ef rfl rfl rfl (Ef rfl rfl rfl (Ef rfl rfl rfl (AC ?_)))))))
 refine Bn (by kernel_rfl) ?_
 refine Al (Al (Aj (Ar rfl rfl (Eq rfl rfl (fun o4=>?_) fun o4=>?_))))
 ·
  replace hm:=ip hm o4
  refine o_z ?_
  refine Ah rfl (Al (Aj (Ar rfl rfl (Au rfl rfl (o_z ?_)))))
  refine AJ ?_
  replace k1:=k1.st b0
  replace a1:=a1.st b0
  replace b1:=b1.st b0
  replace c1:=c1.st b0
  replace d1:=d1.st b0
  replace e1:=e1.st b0
  replace m1:=m1.st b0
  replace o1:=o1.st b0
  replace g1:=g1.st b0
  obtain ⟨yC,m8,n8,o8,p8⟩:=Ors.shut (x:=x0) (l0:=2) (l1:=3) (l2:=4) (l3:=5) (by decide) k1 a1 b1 c1 d1 e1 m1 o1 g1 n4
  obtain rfl:=sm hm
  replace hB:=((hB.st S9).st b0).st m8
  obtain ⟨O',hS',hz,hl⟩:=hE.leave (fun q=>if q=2 then i0 else 0) rfl hB
  exact ret1v rfl (AD rfl) ⟨O',hS',(Ob.leave p8 hz (hl 2 (by decide) (by decide)) s2.2),(vErr l8)⟩
 replace hm:=im hm o4
 refine o_z ?_
 refine Ae rfl (AM (Al (Aj (Ar rfl rfl ?_))))
 obtain ⟨p1,q8,hm⟩:=bs hm
 refine Bi (O:=a7) (A:=All z6) (R:=fun w' F v=>Vb w' F v p1) (Mo (fun _ h=>h) (Vb.mono (F:=Fr 0 z6 a7) f1 Fr.lt) q8) rfl rfl fun zC aD bD d0 r8=>?_
 obtain ⟨rfl,cD⟩:=r8.str
 refine Au rfl rfl (o_z ?_)
 refine Al (Aj (Ar rfl rfl (Dx rfl rfl (AN rfl rfl ?_))))
 replace k1:=(k1.st b0).st d0
 refine AG (hc:=Blk.cell (i:=6) (k1.1) rfl) rfl rfl ?_
 refine Ar rfl rfl ?_
 replace o1:=(o1.st b0).st d0
 obtain ⟨dD,p4,s8⟩:=MapP.get o1 p1 (vInt (show inI64 0 from by decide))
 obtain ⟨rfl,t8⟩:=s8.int
 refine Rl p1 p4 rfl rfl rfl ?_
 refine Ar rfl rfl (CI rfl rfl rfl (CI rfl rfl rfl (Au rfl rfl (Au rfl rfl (o_z ?_)))))
 refine Al (Al ?_)
 obtain ⟨b7,f0,hm⟩:=bs hm
 refine AH (fun l' w'=>∃ (u8:Unit) (O':Lab),subs l' [(0,(.pointer (some ⟨p0,0,none⟩))),(2,(.int .i64 x2)),(3,(.int .i64 x3)),(4,(.int .i64 x4)),(11,(.slice s3 g0.1.length t3)),(12,(.slice u3 g0.2.1.length v3)),(14,(.string p1)),(15,(.int .i64 (mget 0 x0.tab.l p1))),(16,(.bool b7.1)),(58,(.bool b7.2))]∧Bm w O0 w' O'∧Ob 2 w' O' (.pointer (some ⟨p0,0,none⟩)) x0∧Vb w' (Fr 0 w' O') (.slice s3 g0.1.length t3) g0.1∧Vb w' (Fr 0 w' O') (.slice u3 g0.2.1.length v3) g0.2.1) ?_ ?_
 ·
  refine Aj (Ar rfl rfl (Ar rfl rfl ?_))
  rcases Bool.eq_false_or_eq_true (mhas x0.tab.l p1) with w3|w3
  ·
   try rw [w3]
   replace f0:=ip f0 w3
   refine Az rfl rfl (Ar rfl rfl (Az rfl rfl (Dx rfl rfl (Az rfl rfl (AN rfl rfl (Az rfl rfl (AG (hc:=Blk.cell (i:=5) (k1.1) rfl) rfl rfl ?_)))))))
   refine Az rfl rfl (Ar rfl rfl (Az rfl rfl ?_))
   obtain ⟨eD,v8,f0⟩:=bs f0
   obtain ⟨w8,x8⟩:=AW v8
   replace m1:=(m1.st b0).st d0
   obtain ⟨fD,gD,y8,q4,r4,s4,hD,iD,rfl,t4,u4,z8,a9,b9⟩:=m1.elem x8
   obtain ⟨c9,d9,rfl⟩:=t4.form
   obtain ⟨e9,f9,rfl⟩:=u4.form
   refine Bv (hA:=q4) (hj:=(Int.toNat_of_nonneg w8).symm) (hlt:=r4) rfl rfl rfl ?_
   refine Az rfl rfl (AN rfl rfl (Az rfl rfl (AG (hc:=cat1 s4) rfl rfl ?_)))
   refine Az rfl rfl (Ar rfl rfl (Az rfl rfl (MQ rfl rfl rfl (fun t2=>?_) fun t2=>?_)))
   ·
    replace f0:=ip f0 t2
    refine BA rfl rfl rfl (o_z ?_)
    replace a1:=(a1.st b0).st d0
    replace b1:=(b1.st b0).st d0
    replace c1:=(c1.st b0).st d0
    replace d1:=(d1.st b0).st d0
    replace e1:=(e1.st b0).st d0
    replace g1:=(g1.st b0).st d0
    obtain ⟨g9,u2,d7,e7,v4⟩:=Ors.shut (x:=x0) (l0:=2) (l1:=3) (l2:=4) (l3:=5) (by decide) k1 a1 b1 c1 d1 e1 m1 o1 g1 n4
    obtain rfl:=sm f0
    exact ⟨(),_,⟨rfl,rfl,rfl,rfl,rfl,rfl,rfl,rfl,rfl,rfl,trivial⟩,(((hB.st S9).st b0).st d0).st u2,v4,(f1.st d0).st u2,(h1.st d0).st u2⟩
   replace f0:=im f0 t2
   refine BA rfl rfl rfl (o_z ?_)
   replace a1:=(a1.st b0).st d0
   replace b1:=(b1.st b0).st d0
   replace c1:=(c1.st b0).st d0
   replace d1:=(d1.st b0).st d0
   replace e1:=(e1.st b0).st d0
   replace g1:=(g1.st b0).st d0
   obtain ⟨h9,v2,f7,g7,w4⟩:=Ors.shut (x:=x0) (l0:=2) (l1:=3) (l2:=4) (l3:=5) (by decide) k1 a1 b1 c1 d1 e1 m1 o1 g1 n4
   obtain rfl:=sm f0
   exact ⟨(),_,⟨rfl,rfl,rfl,rfl,rfl,rfl,rfl,rfl,rfl,rfl,trivial⟩,(((hB.st S9).st b0).st d0).st v2,w4,(f1.st d0).st v2,(h1.st d0).st v2⟩
  try rw [w3]
  replace f0:=im' f0 w3
  refine Ay rfl rfl rfl rfl (Ay rfl rfl rfl rfl (Ay rfl rfl rfl rfl (Ay rfl rfl rfl rfl (Ay rfl rfl rfl rfl (Ay rfl rfl rfl rfl (Ay rfl rfl rfl rfl (Ay rfl rfl rfl rfl (Ay rfl rfl rfl rfl (Ay rfl rfl rfl rfl (BD rfl rfl rfl (o_z ?_)))))))))))
  replace a1:=(a1.st b0).st d0
  replace b1:=(b1.st b0).st d0
  replace c1:=(c1.st b0).st d0
  replace d1:=(d1.st b0).st d0
  replace e1:=(e1.st b0).st d0
  replace m1:=(m1.st b0).st d0
  replace g1:=(g1.st b0).st d0
  obtain ⟨i9,w2,h7,i7,y4⟩:=Ors.shut (x:=x0) (l0:=2) (l1:=3) (l2:=4) (l3:=5) (by decide) k1 a1 b1 c1 d1 e1 m1 o1 g1 n4
  obtain rfl:=sm f0
  exact ⟨(),_,⟨rfl,rfl,rfl,rfl,rfl,rfl,rfl,rfl,rfl,rfl,trivial⟩,(((hB.st S9).st b0).st d0).st w2,y4,(f1.st d0).st w2,(h1.st d0).st w2⟩
 replace hB:=((hB.st S9).st b0).st d0
 replace f1:=f1.st d0
 replace h1:=h1.st d0
 rintro j9 k9 ⟨u8,z4,y3,hB,y0,f1,h1⟩
 refine AO _ y3 ?_
 refine BK rfl (fun y2=>?_) (fun y2=>?_)
 ·
  replace hm:=ip hm y2
  refine Al (Aj (Au rfl rfl (o_z ?_)))
  refine AJ ?_
  obtain rfl:=sm hm
  obtain ⟨O',hS',hz,hl⟩:=hE.leave (fun q=>if q=2 then i0 else 0) rfl hB
  exact ret1v rfl (AD rfl) ⟨O',hS',(Ob.leave y0 hz (hl 2 (by decide) (by decide)) s2.2),(vErr (show inI64 0 from by decide))⟩
 replace hm:=im' hm y2
 refine AM (Al (Aj (Ar rfl rfl (Ar rfl rfl (Ar rfl rfl (Ar rfl rfl (Ar rfl rfl (Dh rfl rfl rfl ?_))))))))
 refine Bh 6 z4 rfl fun a5 l9 b5 o0 m0=>?_
 refine AZ m0 rfl rfl rfl (Bj rfl) (allOne rfl) fun c5 q0 m0=>?_
 replace m0:Lc 6 c5 b5 a5 78 [(.slice s3 g0.1.length t3),(.int .i64 x2),(.int .i64 x3),(.int .i64 x4),(.slice u3 g0.2.1.length v3),(.bool false)]:=m0
 refine o_z ?_
 refine Al ?_
 obtain ⟨a0,e0,hm⟩:=bs hm
 refine AH (fun l' w'=>∃ (d5:Unit) (O':Lab),subs l' [(0,(.pointer (some ⟨p0,0,none⟩))),(2,(.int .i64 x2)),(15,(.int .i64 a0.1))]∧Bm w O0 w' O'∧Ob 2 w' O' (.pointer (some ⟨p0,0,none⟩)) a0.2∧inI64 a0.1) ?_ ?_
 ·
  refine Al (Aj (Ar rfl rfl (o_z ?_)))
  refine BK rfl (fun z2=>?_) (fun z2=>?_)
  ·
   replace e0:=ip e0 z2
   replace y0:=(y0.st o0).st q0
   obtain ⟨e5,m9,n9,o9,p9,q9,r9,s9,t9,q1,j7,r1,s1,t1,u1,v1,w1,n1,y1,z1,f5⟩:=Ors.opn y0 2 3 4 5 (by decide)
   obtain ⟨u9,v9,rfl⟩:=s1.form
   obtain ⟨w9,x9,rfl⟩:=t1.form
   obtain ⟨y9,z9,rfl⟩:=u1.form
   obtain ⟨aA,bA,rfl⟩:=v1.form
   obtain ⟨cA,dA,rfl⟩:=w1.form
   obtain ⟨eA,fA,rfl⟩:=n1.form
   obtain ⟨gA,rfl⟩:=y1.mptr
   obtain ⟨iA,jA,rfl⟩:=z1.form
   refine Bt [] e5 ?_
   refine AT (fuel:=1) [] [(0,true),(1,true),(2,true),(3,true),(4,true),(5,true),(6,true)] (by kernel_rfl) rfl ?_
   refine AL rfl rfl rfl (DA rfl rfl rfl (Bc rfl rfl rfl (AV (hc:=fun w' ⟨O',hq⟩=>Blk.cell (i:=5) ((r1.st hq (by decide)).1) rfl) rfl rfl rfl ?_)))
   refine AL rfl rfl rfl ?_
   replace m0:=m0.st q1
   refine CU (hl:=rfl) (hb:=fun w' ⟨O',hq⟩=>((m0.st hq (by decide)).1).cellsAt) rfl rfl rfl ?_
   obtain ⟨kA,g5,e0⟩:=bs e0
   obtain ⟨h5,z3⟩:=AW g5
   obtain ⟨lA,mA,k7,r2,l7,a4,m7,nA,oA,rfl,i5,j5,pA,qA,rA⟩:=n1.elemF z3
   obtain ⟨sA,tA,rfl⟩:=i5.form
   obtain ⟨uA,vA,rfl⟩:=j5.form
   refine Br (hA:=r2) (hj:=(Int.toNat_of_nonneg h5).symm) (hlt:=a4) rfl rfl rfl rfl ?_
   refine AC ?_
   refine AP (i:=7) (by kernel_rfl) rfl ?_
   replace f1:=((f1.st o0).st q0).st q1
   replace h1:=((h1.st o0).st q0).st q1
   refine Dj rfl n1 (a:=(⟨g0.1,x2,x3,x4,g0.2.1,false⟩:ONd)) (Vb.ofAgg (cs:=[(.slice s3 g0.1.length t3),(.int .i64 x2),(.int .i64 x3),(.int .i64 x4),(.slice u3 g0.2.1.length v3),(.bool false)]) (x:=(⟨g0.1,x2,x3,x4,g0.2.1,false⟩:ONd)) rfl ⟨_,_,rfl,f1,h1,rx2,rx3,rx4⟩) r2 rfl rfl (AE z3) fun wA r0 n1=>?_
   refine BZ (by kernel_rfl) ?_
   refine Bn (by kernel_rfl) ?_
   replace r1:=r1.st r0
   replace s1:=s1.st r0
   replace t1:=t1.st r0
   replace u1:=u1.st r0
   replace v1:=v1.st r0
   replace w1:=w1.st r0
   replace y1:=y1.st r0
   replace z1:=z1.st r0
   obtain ⟨xA,k5,n7,o7,l5⟩:=Ors.shut (x:=(⟨(⟨x0.t.vars,x0.t.init,x0.t.goal,x0.t.ops⟩:Tsk),x0.gens,(x0.nodes.set ((mget 0 x0.tab.l p1):Int).toNat (⟨g0.1,x2,x3,x4,g0.2.1,false⟩:ONd)),x0.tab,x0.open_,x0.number⟩:Ors)) (l0:=2) (l1:=3) (l2:=4) (l3:=5) (by decide) (by have q:=r1;rw [← ((by simp:(x0.nodes.set ((mget 0 x0.tab.l p1):Int).toNat (⟨g0.1,x2,x3,x4,g0.2.1,false⟩:ONd)).length=x0.nodes.length).trans rfl)] at q;exact q) s1 t1 u1 v1 w1 n1.relen y1 z1 f5
   obtain rfl:=sm e0
   exact ⟨(),_,⟨rfl,rfl,rfl,trivial⟩,((((hB.st o0).st q0).st q1).st r0).st k5,l5,t8⟩
  replace e0:=im' e0 z2
  refine Al (Aj (Ar rfl rfl (Dx rfl rfl ?_)))
  replace y0:=(y0.st o0).st q0
  obtain ⟨b4,yA,zA,aB,bB,cB,dB,eB,fB,a2,p7,h0,b2,c2,d2,e2,f2,i1,c4,g2,m5⟩:=Ors.opn y0 2 3 4 5 (by decide)
  obtain ⟨n5,o5,rfl⟩:=b2.form
  obtain ⟨p5,q5,rfl⟩:=c2.form
  obtain ⟨r5,s5,rfl⟩:=d2.form
  obtain ⟨t5,u5,rfl⟩:=e2.form
  obtain ⟨v5,w5,rfl⟩:=f2.form
  obtain ⟨gB,iB,rfl⟩:=i1.form
  obtain ⟨x5,rfl⟩:=c4.mptr
  obtain ⟨y5,z5,rfl⟩:=g2.form
  refine AN rfl rfl (AG (hc:=Blk.cell (i:=5) (h0.1) rfl) rfl rfl ?_)
  refine AY rfl rfl ?_
  have a6:x0.nodes.length≤9223372036854775807:=Nat.le_trans i1.len.2.1 i1.len.2.2
  have d4:inI64 (x0.nodes.length:Int):=rngNat a6
  refine Au rfl rfl (o_z ?_)
  refine Al (Aj (Ar rfl rfl (Dx rfl rfl (AN rfl rfl (AG (hc:=Blk.cell (i:=6) (h0.1) rfl) rfl rfl ?_)))))
  refine Ar rfl rfl (Ar rfl rfl (QI (a:=p1) (b:=(x0.nodes.length:Int)) c4 (vInt d4) rfl rfl rfl fun jB j0 a3=>?_))
  refine o_z ?_
  refine Bt [(7,[3])] b4 ?_
  refine AT (fuel:=6) [] [(1,true),(2,true),(3,true),(4,true),(5,true)] (by kernel_rfl) rfl ?_
  refine AL rfl rfl rfl (DA rfl rfl rfl (Bc rfl rfl rfl ?_))
  replace h0:=h0.st j0
  refine AV (hc:=fun w' ⟨O',hq⟩=>Blk.cell (i:=5) ((h0.st hq (by decide)).1) rfl) rfl rfl rfl ?_
  replace m0:=(m0.st a2).st j0
  refine CU (hl:=rfl) (hb:=fun w' ⟨O',hq⟩=>((m0.st hq (by decide)).1).cellsAt) rfl rfl rfl ?_
  refine AC ?_
  refine AT (fuel:=5) [3] [(0,true)] (by kernel_rfl) rfl ?_
  refine AL rfl rfl rfl (AC ?_)
  refine AP (i:=6) (by kernel_rfl) rfl ?_
  replace f1:=(((f1.st o0).st q0).st a2).st j0
  replace h1:=(((h1.st o0).st q0).st a2).st j0
  refine Cj 7 (by decide) b4 (xs:=([(⟨g0.1,x2,x3,x4,g0.2.1,false⟩:ONd)]:List ONd)) rfl rfl rfl rfl ⟨(Vb.ofAgg (cs:=[(.slice s3 g0.1.length t3),(.int .i64 x2),(.int .i64 x3),(.int .i64 x4),(.slice u3 g0.2.1.length v3),(.bool false)]) (x:=(⟨g0.1,x2,x3,x4,g0.2.1,false⟩:ONd)) rfl ⟨_,_,rfl,f1,h1,rx2,rx3,rx4⟩),trivial⟩ (by decide) (by decide) rfl fun kB lB mB k0 b6=>?_
  have hZ:=k0.lst [] (fun _ h=>h.elim)
  refine AX [(7,[3])] hZ (by kernel_rfl) ?_
  refine AP (i:=7) (by kernel_rfl) rfl ?_
  obtain ⟨e4,b3,e0⟩:=bs e0
  obtain ⟨b3,c6,d6⟩:=Cc b3
  replace i1:=(i1.st j0).st k0
  refine DW rfl i1 (b6.rd) rfl rfl (by decide) c6 d6 rfl fun e6 f6 nB g6 n0 h2=>?_
  rw [← b3] at h2 ⊢
  have hZ:=n0.lst [3] (fun _ h=>by cases h;decide)
  refine AX [] hZ (by kernel_rfl) ?_
  refine AT (fuel:=1) [] [(8,true),(9,true)] (by kernel_rfl) rfl ?_
  refine DA rfl rfl rfl (Bc rfl rfl rfl (AC ?_))
  refine AP (i:=10) (by kernel_rfl) rfl ?_
  replace h0:=(h0.st k0).st n0
  refine AZ h0 rfl rfl rfl (Bj rfl) (allOne rfl) fun h6 s0 h0=>?_
  replace h0:Lc 2 h6 g6 p0 69 [(.slice n5 x0.t.vars.length o5),(.slice p5 x0.t.init.length q5),(.slice r5 x0.t.goal.length s5),(.slice t5 x0.t.ops.length u5),(.slice v5 x0.gens.length w5),(.slice e6 e4.length f6),(.map (some x5)),(.slice y5 x0.open_.length z5),(.int .i64 x0.number)]:=h0
  refine BZ (by kernel_rfl) ?_
  refine Bn (by kernel_rfl) ?_
  replace b2:=(((b2.st j0).st k0).st n0).st s0
  replace c2:=(((c2.st j0).st k0).st n0).st s0
  replace d2:=(((d2.st j0).st k0).st n0).st s0
  replace e2:=(((e2.st j0).st k0).st n0).st s0
  replace f2:=(((f2.st j0).st k0).st n0).st s0
  replace g2:=(((g2.st j0).st k0).st n0).st s0
  replace a3:=((a3.st k0).st n0).st s0
  replace h2:=h2.st s0
  obtain ⟨oB,i6,q7,r7,j6⟩:=Ors.shut (x:=(⟨(⟨x0.t.vars,x0.t.init,x0.t.goal,x0.t.ops⟩:Tsk),x0.gens,e4,(⟨mput x0.tab.l p1 (x0.nodes.length:Int)⟩:MapP ByteArray Int),x0.open_,x0.number⟩:Ors)) (l0:=2) (l1:=3) (l2:=4) (l3:=5) (by decide) h0 b2 c2 d2 e2 f2 h2 a3 g2 m5
  obtain rfl:=sm e0
  exact ⟨(),_,⟨rfl,rfl,rfl,trivial⟩,(((((((hB.st o0).st q0).st a2).st j0).st k0).st n0).st s0).st i6,j6,d4⟩
 replace hB:=(hB.st o0).st q0
 rintro pB qB ⟨d5,rB,f4,hB,k6,l6⟩
 refine AO _ f4 ?_
 refine Al (Aj (Ar rfl rfl (Dx rfl rfl ?_)))
 obtain ⟨g4,sB,tB,uB,vB,wB,xB,yB,zB,m6,s7,z0,i2,j2,k2,m2,n2,o2,p2,q2,aC⟩:=Ors.opn k6 2 3 4 5 (by decide)
 obtain ⟨c3,d3,rfl⟩:=i2.form
 obtain ⟨e3,f3,rfl⟩:=j2.form
 obtain ⟨g3,h3,rfl⟩:=k2.form
 obtain ⟨i3,j3,rfl⟩:=m2.form
 obtain ⟨k3,m3,rfl⟩:=n2.form
 obtain ⟨n3,o3,rfl⟩:=o2.form
 obtain ⟨p3,rfl⟩:=p2.mptr
 obtain ⟨h4,i4,rfl⟩:=q2.form
 refine AN rfl rfl (AG (hc:=Blk.cell (i:=8) (z0.1) rfl) rfl rfl ?_)
 obtain ⟨j1,j4,hm⟩:=bs hm
 have k4:=(Co j4)
 refine Gk (he:=j4) rfl rfl rfl ?_
 refine Dx rfl rfl (AN rfl rfl (AZ z0 rfl rfl rfl (Bj rfl) (allOne rfl) fun n6 t0 z0=>?_))
 replace z0:Lc 2 n6 g4 p0 69 [(.slice c3 a0.2.t.vars.length d3),(.slice e3 a0.2.t.init.length f3),(.slice g3 a0.2.t.goal.length h3),(.slice i3 a0.2.t.ops.length j3),(.slice k3 a0.2.gens.length m3),(.slice n3 a0.2.nodes.length o3),(.map (some p3)),(.slice h4 a0.2.open_.length i4),(.int .i64 j1)]:=z0
 refine o_z ?_
 refine Al (Bt [] g4 ?_)
 refine AT (fuel:=1) [] [(0,true),(1,true),(2,true),(3,true),(4,true),(5,true),(6,true),(7,true),(8,true),(9,true),(10,true),(11,true)] (by kernel_rfl) rfl ?_
 refine AL rfl rfl rfl (DA rfl rfl rfl (Bc rfl rfl rfl (Pr rfl rfl rfl ?_)))
 refine AL rfl rfl rfl (AL rfl rfl rfl (DA rfl rfl rfl (Bc rfl rfl rfl (AV (hc:=fun w' ⟨O',hq⟩=>Blk.cell (i:=8) ((z0.st hq (by decide)).1) rfl) rfl rfl rfl ?_))))
 refine AL rfl rfl rfl (Dr rfl rfl rfl rfl ?_)
 refine Pr rfl rfl rfl ?_
 refine AC ?_
 refine AP (i:=12) (by kernel_rfl) rfl ?_
 replace q2:=q2.st t0
 obtain ⟨o6,u0,t7,u7,p6⟩:=BxC.shut (cx:=(⟨69,[(.slice c3 a0.2.t.vars.length d3),(.slice e3 a0.2.t.init.length f3),(.slice g3 a0.2.t.goal.length h3),(.slice i3 a0.2.t.ops.length j3),(.slice k3 a0.2.gens.length m3),(.slice n3 a0.2.nodes.length o3),(.map (some p3))],[(.int .i64 j1)]⟩:Cx)) (p:=p0) (c0:=.slice h4 a0.2.open_.length i4) (x:=(⟨a0.2.open_⟩:BxR 67 73 OEn)) (l0:=2) (l1:=5) (by decide) z0 q2
 obtain ⟨l4,q6,hm⟩:=bs hm
 refine Fj (O:=o6) (Hf p6 (vAny (Vb.ofAgg (cs:=[(.int .i64 x2),(.int .i64 j1),(.int .i64 a0.1)]) (x:=(⟨x2,j1,a0.1⟩:OEn)) rfl ⟨rfl,rx2,k4,l6⟩)) q6) rfl rfl fun bC r6 cC v0 s6=>?_
 obtain ⟨t6,dC,w0,v7,q3,m4⟩:=BxC.opn s6 2 5 (by decide)
 obtain ⟨u6,v6,rfl⟩:=m4.form
 replace q3:Lc 2 r6 t6 p0 69 [(.slice c3 a0.2.t.vars.length d3),(.slice e3 a0.2.t.init.length f3),(.slice g3 a0.2.t.goal.length h3),(.slice i3 a0.2.t.ops.length j3),(.slice k3 a0.2.gens.length m3),(.slice n3 a0.2.nodes.length o3),(.map (some p3)),(.slice u6 l4.l.length v6),(.int .i64 j1)]:=q3
 refine BZ (by kernel_rfl) ?_
 refine Bn (by kernel_rfl) ?_
 refine Al (Aj (Au rfl rfl (o_z ?_)))
 refine AJ ?_
 replace i2:=(((i2.st t0).st u0).st v0).st w0
 replace j2:=(((j2.st t0).st u0).st v0).st w0
 replace k2:=(((k2.st t0).st u0).st v0).st w0
 replace m2:=(((m2.st t0).st u0).st v0).st w0
 replace n2:=(((n2.st t0).st u0).st v0).st w0
 replace o2:=(((o2.st t0).st u0).st v0).st w0
 replace p2:=(((p2.st t0).st u0).st v0).st w0
 obtain ⟨eC,w6,w7,x7,x6⟩:=Ors.shut (x:=(⟨(⟨a0.2.t.vars,a0.2.t.init,a0.2.t.goal,a0.2.t.ops⟩:Tsk),a0.2.gens,a0.2.nodes,a0.2.tab,l4.l,j1⟩:Ors)) (l0:=2) (l1:=3) (l2:=4) (l3:=5) (by decide) q3 i2 j2 k2 m2 n2 o2 p2 m4 k4
 obtain rfl:=sm hm
 replace hB:=(((((hB.st m6).st t0).st u0).st v0).st w0).st w6
 obtain ⟨O',hS',hz,hl⟩:=hE.leave (fun q=>if q=2 then i0 else 0) rfl hB
 exact ret1v rfl (AD rfl) ⟨O',hS',(Ob.leave x6 hz (hl 2 (by decide) (by decide)) s2.2),(vErr (show inI64 0 from by decide))⟩
noncomputable def CB (x0:Ors) (x1:Int):Option ((List Int)×Err) :=
  bnd (lop (ρ:=(List Int)×Err) (fun (s5:Int×(List Int))=>if 0≤s5.1 then (bnd (appI 8 s5.2 [s5.1]) fun u25=>bnd (atI x0.nodes s5.1) fun a75=>some (.next (a75.parent,u25))) else (some (.brk (s5.1,s5.2)))) (x1,([]:List Int))) fun res3=>fin res3 fun (s106:Int×(List Int))=>bnd (Ck s106.2) fun q108=>bnd (CN (⟨x0.t.vars,x0.t.init,x0.t.goal,x0.t.ops⟩:Tsk)) fun q154=>if q154.2.n≠0 then (some (([]:List Int),(⟨q154.2.n⟩:Err))) else (bnd (rng (ρ:=(List Int)×Err) (fun (k203:Nat) (a204:Int) (s201:(List Int)×(List Int)×(List (List Int))×(List Int))=>bnd (q108[k203]?) fun a224=>bnd (bnd (atI x0.nodes a224) fun a278=>if 0≤a278.op then (bnd (CH (⟨x0.t.vars,x0.t.init,x0.t.goal,x0.t.ops⟩:Tsk) (⟨s201.2.1,s201.2.2.1,s201.2.2.2⟩:Swp)) fun q308=>bnd (some (q308.1.vars,q308.1.vals,q308.1.ops):Option ((List Int)×(List (List Int))×(List Int))) fun y310=>if q308.2.n≠0 then (some (.ret (.ret (([]:List Int),(⟨q308.2.n⟩:Err))))) else (bnd (atI y310.2.2 a278.op) fun a394=>bnd (appI 8 s201.1 [a394]) fun u406=>some (.done u406))) else (some (.done s201.1)):Option (Fin (List Int) (Ctl ((List Int)×(List Int)×(List (List Int))×(List Int)) ((List Int)×Err)))) fun y234=>fin y234 fun (s236:(List Int))=>bnd (atI x0.nodes a224) fun a465=>bnd (rng (ρ:=Ctl ((List Int)×(List Int)×(List (List Int))×(List Int)) ((List Int)×Err)) (fun (k498:Nat) (a499:Int) (s496:(List Int)×(List (List Int))×(List Int))=>bnd (atI x0.gens a499) fun a561=>bnd (Ch (⟨x0.t.vars,x0.t.init,x0.t.goal,x0.t.ops⟩:Tsk) (⟨s496.1,s496.2.1,s496.2.2⟩:Swp) a561) fun q584=>if q584.2.n≠0 then (some (.ret (.ret (([]:List Int),(⟨q584.2.n⟩:Err))))) else (some (.next (q584.1.vars,q584.1.vals,q584.1.ops)))) a465.used 0 (s201.2.1,s201.2.2.1,s201.2.2.2)) fun res494=>fin res494 fun (s626:(List Int)×(List (List Int))×(List Int))=>some (.next (s236,s626.1,s626.2.1,s626.2.2))) s106.2 0 (([]:List Int),q154.1.vars,q154.1.vals,q154.1.ops)) fun res199=>fin res199 fun (s632:(List Int)×(List Int)×(List (List Int))×(List Int))=>some (s632.1,(⟨0⟩:Err)))
theorem HQ {w:World} {O:Lab} {p0 i0:Nat} {x0:Ors} (n2:Ob i0 w O (.pointer (some ⟨p0,0,none⟩)) x0) {x1:Int} (rx1:inI64 x1) {r:(List Int)×Err} (hm:CB x0 x1=some r) :
    Fn Tryz.prog 29 [(.pointer (some ⟨p0,0,none⟩)),(.int .i64 x1)] w fun v w'=>∃ O',St (eT i0) w O w' O'∧∃ v0 v1:Value,Ob i0 w' O' (.pointer (some ⟨p0,0,none⟩)) x0∧v=.tuple #[v0,v1]∧Vb w' (Fr 0 w' O') v0 r.1∧Vb w' (Fr 0 w' O') v1 r.2:=by
 obtain ⟨O0,hE,oE,pE⟩:=ent1 (w:=w) (O:=O) n2.2
 have n2':=Ob.leave n2 oE pE (j:=2) (by decide)
 have hB:Bm w O0 w O0:=Bm.refl
 refine AK Tryz.func29 rfl Tryz.ntmps29 rfl ?_
 unfold CB at hm
 refine Al (Aj (Au rfl rfl (Au rfl rfl (o_z ?_))))
 refine Al (Aj (Au rfl rfl (o_z ?_)))
 refine Al ?_
 obtain ⟨s8,qE,hm⟩:=bs hm
 refine AH (aft s8 (fun (s5:Int×(List Int)) (x6:(Option Addr×Nat))=>[(0,(.pointer (some ⟨p0,0,none⟩))),(6,(.slice x6.1 s5.2.length x6.2))]) (fun s5 x6 w'=>∃ O':Lab,Bm w O0 w' O'∧Ob 2 w' O' (.pointer (some ⟨p0,0,none⟩)) x0∧Rw 3 w' O' 3 (.slice x6.1 s5.2.length x6.2) s5.2∧inI64 s5.1)) ?_ ?_
 ·
  refine AU (Fi (σ:=Int×(List Int)) (X:=(Option Addr×Nat)) qE (fun (s5:Int×(List Int)) (x6:(Option Addr×Nat))=>[(0,(.pointer (some ⟨p0,0,none⟩))),(1,(.int .i64 s5.1)),(6,(.slice x6.1 s5.2.length x6.2))]) _ (fun s5 x6 w'=>∃ O':Lab,Bm w O0 w' O'∧Ob 2 w' O' (.pointer (some ⟨p0,0,none⟩)) x0∧Rw 3 w' O' 3 (.slice x6.1 s5.2.length x6.2) s5.2∧inI64 s5.1) _ (none,0) ⟨O0,hB,n2',(Rw.nil 3 (by decide)),rx1⟩ ⟨rfl,rfl,rfl,trivial⟩ ?_)
  rintro s5 x6 w9 rE ⟨vL,hB,n2',p8,t8⟩ b2 u8 k4
  refine Al (Al (Aj (Ar rfl rfl (FK rfl rfl rfl (fun v8=>?_) fun v8=>?_))))
  ·
   replace b2:=ip b2 v8
   refine o_z ?_
   refine Ah rfl (AM (Al (AU (Aj (Ar rfl rfl (Ar rfl rfl ?_))))))
   obtain ⟨wL,w8,b2⟩:=bs b2
   obtain ⟨w8,sE,tE⟩:=Cc w8
   refine CY rfl (a:=s5.1) p8 (vInt t8) (fun _=>rfl) rfl (by decide) (by decide) sE tE ⟨rfl,rfl⟩ fun xL uE vE yL zL tC uC=>?_
   rw [← w8] at uC ⊢
   refine Au rfl rfl (o_z ?_)
   refine Aj (Ar rfl rfl (Dx rfl rfl ?_))
   replace n2':=n2'.st tC
   obtain ⟨aM,bM,cM,dM,eM,fM,gM,hM,iM,vC,wE,wC,xC,yC,zC,aD,bD,x8,cD,dD,xE⟩:=Ors.opn n2' 2 4 5 6 (by decide)
   obtain ⟨jM,kM,rfl⟩:=xC.form
   obtain ⟨lM,mM,rfl⟩:=yC.form
   obtain ⟨nM,oM,rfl⟩:=zC.form
   obtain ⟨pM,qM,rfl⟩:=aD.form
   obtain ⟨rM,sM,rfl⟩:=bD.form
   obtain ⟨tM,uM,rfl⟩:=x8.form
   obtain ⟨vM,rfl⟩:=cD.mptr
   obtain ⟨wM,xM,rfl⟩:=dD.form
   refine AN rfl rfl (AG (hc:=Blk.cell (i:=5) (wC.1) rfl) rfl rfl ?_)
   refine Ar rfl rfl ?_
   obtain ⟨yM,yE,b2⟩:=bs b2
   obtain ⟨zE,aF⟩:=AW yE
   obtain ⟨zM,aN,bF,y8,z8,a9,bN,cN,rfl,cF,dF,dN,eF,eN⟩:=x8.elem aF
   obtain ⟨fN,gN,rfl⟩:=cF.form
   obtain ⟨hN,iN,rfl⟩:=dF.form
   refine Bv (hA:=y8) (hj:=(Int.toNat_of_nonneg zE).symm) (hlt:=z8) rfl rfl rfl ?_
   refine AN rfl rfl (AG (hc:=cat2 a9) rfl rfl ?_)
   refine Au rfl rfl (o_z ?_)
   obtain ⟨jN,eD,fD,gD,fF⟩:=Ors.shut (x:=x0) (l0:=2) (l1:=4) (l2:=5) (l3:=6) (by decide) wC xC yC zC aD bD x8 cD dD xE
   obtain rfl:=sm b2
   exact show Exists _ from ⟨_,(uE,vE),rfl,⟨rfl,rfl,rfl,trivial⟩,_,((hB.st tC).st vC).st eD,fF,(uC.st vC).st eD,eF⟩
  replace b2:=im b2 v8
  refine o_z ?_
  refine Ae rfl (De ?_)
  obtain rfl:=sm b2
  exact show Exists _ from ⟨_,(x6.1,x6.2),k4 _ rfl,⟨rfl,rfl,trivial⟩,_,hB,n2',p8,t8⟩
 rintro gF hF ⟨f1,z0,rfl,b5,b9,hB,n2',p8,t8⟩
 replace hm:=Be hm
 refine AO _ b5 ?_
 refine Al (Aj (Ar rfl rfl ?_))
 obtain ⟨v3,c9,hm⟩:=bs hm
 refine Fj (O:=b9) (Gm p8 c9) rfl rfl fun iF jF kF y3 h0=>?_
 refine o_z ?_
 refine Al (Aj (Ar rfl rfl (Dx rfl rfl ?_)))
 replace n2':=n2'.st y3
 obtain ⟨d9,lF,mF,nF,oF,pF,qF,rF,sF,z3,hD,z2,o2,p2,q2,r2,a3,b3,c3,d3,c5⟩:=Ors.opn n2' 2 4 5 6 (by decide)
 obtain ⟨e9,f9,rfl⟩:=o2.form
 obtain ⟨g9,h9,rfl⟩:=p2.form
 obtain ⟨i9,j9,rfl⟩:=q2.form
 obtain ⟨k9,l9,rfl⟩:=r2.form
 obtain ⟨tF,uF,rfl⟩:=a3.form
 obtain ⟨vF,wF,rfl⟩:=b3.form
 obtain ⟨xF,rfl⟩:=c3.mptr
 obtain ⟨yF,zF,rfl⟩:=d3.form
 refine AN rfl rfl (Bk (hl:=rfl) (hc:=(Fs 0 4 (z2.1).cellsAt)) rfl rfl ?_)
 obtain ⟨a4,m9,hm⟩:=bs hm
 refine Bq (O:=d9) (R:=fun w' F v=>T2 w' F v a4) (HP Fr.lt (Vb.ofAgg (cs:=[(.slice e9 x0.t.vars.length f9),(.slice g9 x0.t.init.length h9),(.slice i9 x0.t.goal.length j9),(.slice k9 x0.t.ops.length l9)]) (x:=(⟨x0.t.vars,x0.t.init,x0.t.goal,x0.t.ops⟩:Tsk)) rfl ⟨_,_,_,_,rfl,o2,p2,q2,r2⟩) m9) rfl rfl fun aG bG n9 w0 o9=>?_
 obtain ⟨cG,dG,rfl,p9,q9⟩:=o9
 obtain ⟨iD,rfl,eG,fG,gG,rfl,b4,c4,d4⟩:=p9
 obtain ⟨d5,e5,rfl⟩:=b4.form
 obtain ⟨f5,g5,rfl⟩:=c4.form
 obtain ⟨h5,i5,rfl⟩:=d4.form
 obtain ⟨rfl,r9⟩:=q9.err
 refine Ar rfl rfl (CI rfl rfl rfl (CI rfl rfl rfl (Bh 7 n9 rfl fun t1 hG s9 n0 e0=>?_)))
 refine AZ e0 rfl rfl rfl (Bj rfl) (allOne rfl) fun t9 o0 e0=>?_
 replace e0:Lc 7 t9 s9 t1 53 [(.slice d5 a4.1.vars.length e5),(.slice f5 a4.1.vals.length g5),(.slice h5 a4.1.ops.length i5)]:=e0
 refine Au rfl rfl (o_z ?_)
 refine Al (Al (Aj (Ar rfl rfl (Eq rfl rfl (fun l4=>?_) fun l4=>?_))))
 ·
  replace hm:=ip hm l4
  refine o_z ?_
  refine Ah rfl (Al (Aj (Ar rfl rfl (Au rfl rfl (Au rfl rfl (o_z ?_))))))
  refine AJ ?_
  replace z2:=((z2.st w0).st n0).st o0
  replace o2:=((o2.st w0).st n0).st o0
  replace p2:=((p2.st w0).st n0).st o0
  replace q2:=((q2.st w0).st n0).st o0
  replace r2:=((r2.st w0).st n0).st o0
  replace a3:=((a3.st w0).st n0).st o0
  replace b3:=((b3.st w0).st n0).st o0
  replace c3:=((c3.st w0).st n0).st o0
  replace d3:=((d3.st w0).st n0).st o0
  obtain ⟨iG,u9,jD,kD,v9⟩:=Ors.shut (x:=x0) (l0:=2) (l1:=4) (l2:=5) (l3:=6) (by decide) z2 o2 p2 q2 r2 a3 b3 c3 d3 c5
  obtain rfl:=sm hm
  replace hB:=(((((hB.st y3).st z3).st w0).st n0).st o0).st u9
  obtain ⟨O',hS',hz,hl⟩:=hE.leave (fun q=>if q=2 then i0 else 0) rfl hB
  exact ret2 rfl (AD rfl) (AD rfl) ⟨O',hS',_,_,(Ob.leave v9 hz (hl 2 (by decide) (by decide)) n2.2),rfl,(Vb.mono (Vb.nil _ _) hz),(vErr r9)⟩
 replace hm:=im hm l4
 refine o_z ?_
 refine Ae rfl (AM (Al (Aj (Au rfl rfl (o_z ?_)))))
 refine Al (Al (Aj (Ar rfl rfl (AY rfl rfl ?_))))
 replace h0:=(((h0.st z3).st w0).st n0).st o0
 have m4:f1.2.length≤9223372036854775807:=Nat.le_trans h0.len.2.1 h0.len.2.2
 have jG:inI64 (f1.2.length:Int):=rngNat m4
 refine Ar rfl rfl (o_z ?_)
 replace z2:=((z2.st w0).st n0).st o0
 replace o2:=((o2.st w0).st n0).st o0
 replace p2:=((p2.st w0).st n0).st o0
 replace q2:=((q2.st w0).st n0).st o0
 replace r2:=((r2.st w0).st n0).st o0
 replace a3:=((a3.st w0).st n0).st o0
 replace b3:=((b3.st w0).st n0).st o0
 replace c3:=((c3.st w0).st n0).st o0
 replace d3:=((d3.st w0).st n0).st o0
 obtain ⟨x9,e3,lD,mD,i2⟩:=Ors.shut (x:=x0) (l0:=2) (l1:=4) (l2:=5) (l3:=6) (by decide) z2 o2 p2 q2 r2 a3 b3 c3 d3 c5
 obtain ⟨n4,j5,hm⟩:=bs hm
 refine AH (aft n4 (fun (d0:(List Int)×(List Int)×(List (List Int))×(List Int)) (a0:(Option Addr×Nat)×(Option Addr×Nat)×(Option Addr×Nat)×(Option Addr×Nat))=>[(9,(.slice a0.1.1 d0.1.length a0.1.2))]) (fun d0 a0 w'=>∃ O':Lab,Bm w O0 w' O'∧Rw 10 w' O' 3 (.slice a0.1.1 d0.1.length a0.1.2) d0.1∧Ob 2 w' O' (.pointer (some ⟨p0,0,none⟩)) x0)) ?_ ?_
 ·
  refine AU ?_
  replace hB:=(((((hB.st y3).st z3).st w0).st n0).st o0).st e3
  replace h0:=h0.st e3
  replace b4:=((b4.st n0).st o0).st e3
  replace c4:=((c4.st n0).st o0).st e3
  replace d4:=((d4.st n0).st o0).st e3
  replace e0:=e0.st e3
  refine Bu (σ:=(List Int)×(List Int)×(List (List Int))×(List Int)) (X:=(Option Addr×Nat)×(Option Addr×Nat)×(Option Addr×Nat)×(Option Addr×Nat)) (f1.2.length) j5 rfl m4 (fun (d0:(List Int)×(List Int)×(List (List Int))×(List Int)) (a0:(Option Addr×Nat)×(Option Addr×Nat)×(Option Addr×Nat)×(Option Addr×Nat))=>[(0,(.pointer (some ⟨p0,0,none⟩))),(7,(.pointer (some ⟨t1,0,none⟩))),(9,(.slice a0.1.1 d0.1.length a0.1.2)),(44,(.slice z0.1 f1.2.length z0.2))]) _ (fun d0 a0 w'=>∃ O':Lab,Bm w O0 w' O'∧Ob 2 w' O' (.pointer (some ⟨p0,0,none⟩)) x0∧Lc 7 w' O' t1 53 [(.slice a0.2.1.1 d0.2.1.length a0.2.1.2),(.slice a0.2.2.1.1 d0.2.2.1.length a0.2.2.1.2),(.slice a0.2.2.2.1 d0.2.2.2.length a0.2.2.2.2)]∧Vb w' (Fr 0 w' O') (.slice a0.2.1.1 d0.2.1.length a0.2.1.2) d0.2.1∧Vb w' (Fr 0 w' O') (.slice a0.2.2.1.1 d0.2.2.1.length a0.2.2.1.2) d0.2.2.1∧Vb w' (Fr 0 w' O') (.slice a0.2.2.2.1 d0.2.2.2.length a0.2.2.2.2) d0.2.2.2∧Rw 10 w' O' 3 (.slice a0.1.1 d0.1.length a0.1.2) d0.1∧Rw 3 w' O' 3 (.slice z0.1 f1.2.length z0.2) v3) _ ((none,0),(d5,e5),(f5,g5),(h5,i5)) ⟨x9,hB,i2,e0,b4,c4,d4,(Rw.nil 10 (by decide)),h0⟩ ⟨rfl,rfl,rfl,rfl,rfl,rfl,trivial⟩ (fun _ _=>⟨rfl,rfl⟩) (fun _ _=>⟨rfl,trivial⟩) (fun _ _ _ ⟨O',hB,i2,e0,c1,d1,e1,r1,h0⟩=>⟨O',hB,r1,i2⟩) ⟨rfl,rfl,rfl⟩ ⟨rfl,rfl⟩ ?_
  rintro w3 kG d0 a0 lG nD k5 ⟨mG,hB,i2,e0,c1,d1,e1,r1,h0⟩ r0 q3 q8
  have rk203:inI64 (w3:Int):=rngK k5 m4
  refine Al (Aj ?_)
  obtain ⟨l5,y9,r0⟩:=bs r0
  obtain ⟨nG,oG,oD,m5,n5,o5,rfl,pG⟩:=h0.elem y9
  refine Bv (hA:=m5) (hj:=rfl) (hlt:=n5) rfl rfl rfl ?_
  refine AG (hc:=cat0 o5) rfl rfl ?_
  refine Au rfl rfl (o_z ?_)
  refine Al ?_
  obtain ⟨z9,g0,r0⟩:=bs r0
  refine AH (fun l' w'=>∃ (w1:(List Int)) (n1:(Option Addr×Nat)) (O':Lab),z9=.done w1∧subs l' [(0,(.pointer (some ⟨p0,0,none⟩))),(7,(.pointer (some ⟨t1,0,none⟩))),(9,(.slice n1.1 w1.length n1.2)),(11,(.int .i64 l5)),(44,(.slice z0.1 f1.2.length z0.2)),(45,(.int .i64 (f1.2.length:Int))),(46,(.int .i64 (w3:Int)))]∧Bm w O0 w' O'∧Ob 2 w' O' (.pointer (some ⟨p0,0,none⟩)) x0∧Lc 7 w' O' t1 53 [(.slice a0.2.1.1 d0.2.1.length a0.2.1.2),(.slice a0.2.2.1.1 d0.2.2.1.length a0.2.2.1.2),(.slice a0.2.2.2.1 d0.2.2.2.length a0.2.2.2.2)]∧Vb w' (Fr 0 w' O') (.slice a0.2.1.1 d0.2.1.length a0.2.1.2) d0.2.1∧Vb w' (Fr 0 w' O') (.slice a0.2.2.1.1 d0.2.2.1.length a0.2.2.1.2) d0.2.2.1∧Vb w' (Fr 0 w' O') (.slice a0.2.2.2.1 d0.2.2.2.length a0.2.2.2.2) d0.2.2.2∧Rw 10 w' O' 3 (.slice n1.1 w1.length n1.2) w1∧Rw 3 w' O' 3 (.slice z0.1 f1.2.length z0.2) v3) ?_ ?_
  ·
   refine Al (Aj (Ar rfl rfl (Dx rfl rfl ?_)))
   obtain ⟨aA,qG,rG,sG,tG,uG,vG,wG,xG,k0,pD,s1,g1,h1,i1,j1,c2,y1,d2,e2,o4⟩:=Ors.opn i2 2 4 5 6 (by decide)
   obtain ⟨p5,q5,rfl⟩:=g1.form
   obtain ⟨r5,t5,rfl⟩:=h1.form
   obtain ⟨u5,v5,rfl⟩:=i1.form
   obtain ⟨w5,x5,rfl⟩:=j1.form
   obtain ⟨yG,zG,rfl⟩:=c2.form
   obtain ⟨aH,bH,rfl⟩:=y1.form
   obtain ⟨cH,rfl⟩:=d2.mptr
   obtain ⟨dH,eH,rfl⟩:=e2.form
   refine AN rfl rfl (AG (hc:=Blk.cell (i:=5) (s1.1) rfl) rfl rfl ?_)
   refine Ar rfl rfl ?_
   obtain ⟨k1,bA,g0⟩:=bs g0
   obtain ⟨cA,dA⟩:=AW bA
   obtain ⟨fH,gH,qD,y5,z5,a6,hH,iH,rfl,r3,s3,jH,kH,lH⟩:=y1.elem dA
   obtain ⟨p4,q4,rfl⟩:=r3.form
   obtain ⟨r4,s4,rfl⟩:=s3.form
   refine Bv (hA:=y5) (hj:=(Int.toNat_of_nonneg cA).symm) (hlt:=z5) rfl rfl rfl ?_
   refine Bk (hl:=rfl) (hc:=a6) rfl rfl ?_
   refine Bh 8 aA rfl fun t4 mH e4 b0 j2=>?_
   refine AZ j2 rfl rfl rfl (Bj rfl) (allOne rfl) fun eA c0 j2=>?_
   replace j2:Lc 8 eA e4 t4 78 [(.slice p4 k1.state.length q4),(.int .i64 k1.cost),(.int .i64 k1.parent),(.int .i64 k1.op),(.slice r4 k1.used.length s4),(.bool k1.fin)]:=j2
   refine o_z ?_
   refine Al (Aj (AN rfl rfl (AG (hc:=Blk.cell (i:=3) (j2.1) rfl) rfl rfl ?_)))
   refine FK rfl rfl rfl (fun u4=>?_) fun u4=>?_
   ·
    replace g0:=ip g0 u4
    refine o_z ?_
    refine Ah rfl (Al ?_)
    obtain ⟨f2,b6,g0⟩:=bs g0
    obtain ⟨k2,i4,g0⟩:=bs g0
    refine AH (fun l' w'=>∃ (o1:Nat×(Option Addr×Nat)×(Option Addr×Nat)×(Option Addr×Nat)) (O':Lab),subs l' [(0,(.pointer (some ⟨p0,0,none⟩))),(7,(.pointer (some ⟨t1,0,none⟩))),(9,(.slice a0.1.1 d0.1.length a0.1.2)),(11,(.int .i64 l5)),(12,(.pointer (some ⟨t4,0,none⟩))),(13,(.pointer (some ⟨o1.1,0,none⟩))),(14,(errV f2.2.n)),(44,(.slice z0.1 f1.2.length z0.2)),(45,(.int .i64 (f1.2.length:Int))),(46,(.int .i64 (w3:Int)))]∧Bm w O0 w' O'∧Ob 2 w' O' (.pointer (some ⟨p0,0,none⟩)) x0∧Lc 7 w' O' t1 53 [(.slice a0.2.1.1 d0.2.1.length a0.2.1.2),(.slice a0.2.2.1.1 d0.2.2.1.length a0.2.2.1.2),(.slice a0.2.2.2.1 d0.2.2.2.length a0.2.2.2.2)]∧Vb w' (Fr 0 w' O') (.slice a0.2.1.1 d0.2.1.length a0.2.1.2) d0.2.1∧Vb w' (Fr 0 w' O') (.slice a0.2.2.1.1 d0.2.2.1.length a0.2.2.1.2) d0.2.2.1∧Vb w' (Fr 0 w' O') (.slice a0.2.2.2.1 d0.2.2.2.length a0.2.2.2.2) d0.2.2.2∧Rw 10 w' O' 3 (.slice a0.1.1 d0.1.length a0.1.2) d0.1∧Lc 8 w' O' t4 78 [(.slice p4 k1.state.length q4),(.int .i64 k1.cost),(.int .i64 k1.parent),(.int .i64 k1.op),(.slice r4 k1.used.length s4),(.bool k1.fin)]∧Vb w' (Fr 0 w' O') (.slice p4 k1.state.length q4) k1.state∧Vb w' (Fr 0 w' O') (.slice r4 k1.used.length s4) k1.used∧Lc 9 w' O' o1.1 53 [(.slice o1.2.1.1 k2.1.length o1.2.1.2),(.slice o1.2.2.1.1 k2.2.1.length o1.2.2.1.2),(.slice o1.2.2.2.1 k2.2.2.length o1.2.2.2.2)]∧Vb w' (Fr 0 w' O') (.slice o1.2.1.1 k2.1.length o1.2.1.2) k2.1∧Vb w' (Fr 0 w' O') (.slice o1.2.2.1.1 k2.2.1.length o1.2.2.1.2) k2.2.1∧Vb w' (Fr 0 w' O') (.slice o1.2.2.2.1 k2.2.2.length o1.2.2.2.2) k2.2.2∧Rw 3 w' O' 3 (.slice z0.1 f1.2.length z0.2) v3∧inI64 f2.2.n) ?_ ?_
    ·
     refine Bt [(10,[9])] e4 ?_
     refine AT (fuel:=7) [] [(0,true),(1,true),(2,true),(3,true),(4,true)] (by kernel_rfl) rfl ?_
     refine AL rfl rfl rfl (DA rfl rfl rfl (Bc rfl rfl rfl ?_))
     replace s1:=(s1.st b0).st c0
     refine CU (hl:=rfl) (hb:=fun w' ⟨O',hq⟩=>(Fs 0 4 ((s1.st hq (by decide)).1).cellsAt)) rfl rfl rfl ?_
     replace e0:=((e0.st k0).st b0).st c0
     refine CU (hl:=rfl) (hb:=fun w' ⟨O',hq⟩=>((e0.st hq (by decide)).1).cellsAt) rfl rfl rfl ?_
     refine AC ?_
     refine ES (i:=5) (j:=9) (by kernel_rfl) rfl rfl ?_ ?_
     ·
      replace c1:=((c1.st k0).st b0).st c0
      replace d1:=((d1.st k0).st b0).st c0
      replace e1:=((e1.st k0).st b0).st c0
      replace g1:=(g1.st b0).st c0
      replace h1:=(h1.st b0).st c0
      replace i1:=(i1.st b0).st c0
      replace j1:=(j1.st b0).st c0
      refine Bq (O:=e4) (R:=fun w' F v=>T2 w' F v f2) (FU Fr.lt (Vb.ofAgg (cs:=[(.slice p5 x0.t.vars.length q5),(.slice r5 x0.t.init.length t5),(.slice u5 x0.t.goal.length v5),(.slice w5 x0.t.ops.length x5)]) (x:=(⟨x0.t.vars,x0.t.init,x0.t.goal,x0.t.ops⟩:Tsk)) rfl ⟨_,_,_,_,rfl,g1,h1,i1,j1⟩) (Vb.ofAgg (cs:=[(.slice a0.2.1.1 d0.2.1.length a0.2.1.2),(.slice a0.2.2.1.1 d0.2.2.1.length a0.2.2.1.2),(.slice a0.2.2.2.1 d0.2.2.2.length a0.2.2.2.2)]) (x:=(⟨d0.2.1,d0.2.2.1,d0.2.2.2⟩:Swp)) rfl ⟨_,_,_,rfl,c1,d1,e1⟩) b6) rfl rfl fun nH oH fA a1 gA=>?_
      obtain ⟨pH,qH,rfl,iA,jA⟩:=gA
      obtain ⟨rD,rfl,rH,sH,tH,rfl,c6,d6,e6⟩:=iA
      obtain ⟨f6,g6,rfl⟩:=c6.form
      obtain ⟨h6,i6,rfl⟩:=d6.form
      obtain ⟨j6,k6,rfl⟩:=e6.form
      obtain ⟨rfl,kA⟩:=jA.err
      have hZ:=a1.lst [] (fun _ h=>h.elim)
      refine AX [(10,[9])] hZ (by kernel_rfl) ?_
      refine AT (fuel:=4) [] [(6,true),(7,true)] (by kernel_rfl) rfl ?_
      refine AL rfl rfl rfl (Gz rfl rfl rfl rfl (AC ?_))
      refine AT (fuel:=3) [9] [(8,true)] (by kernel_rfl) rfl ?_
      refine Gz rfl rfl rfl rfl (AC ?_)
      refine AP (i:=9) (by kernel_rfl) rfl ?_
      refine Bh 9 fA rfl fun l6 uH lA s0 x3=>?_
      have hZ:=s0.lst [] (fun _ h=>h.elim)
      refine AX [(10,[9])] hZ (by kernel_rfl) ?_
      refine AP (i:=10) (by kernel_rfl) rfl ?_
      refine AZ x3 rfl rfl rfl (Bj rfl) (allOne rfl) fun mA t0 x3=>?_
      replace x3:Lc 9 mA lA l6 53 [(.slice f6 f2.1.vars.length g6),(.slice h6 f2.1.vals.length i6),(.slice j6 f2.1.ops.length k6)]:=x3
      have hZ:=t0.lst [9] (fun _ h=>by cases h;decide)
      refine AX [] hZ (by kernel_rfl) ?_
      refine AT (fuel:=0) [] [(11,true)] (by kernel_rfl) rfl ?_
      refine Ef rfl rfl rfl (AC ?_)
      refine Bn (by kernel_rfl) ?_
      replace s1:=((s1.st a1).st s0).st t0
      replace g1:=((g1.st a1).st s0).st t0
      replace h1:=((h1.st a1).st s0).st t0
      replace i1:=((i1.st a1).st s0).st t0
      replace j1:=((j1.st a1).st s0).st t0
      replace c2:=((((c2.st b0).st c0).st a1).st s0).st t0
      replace y1:=((((y1.st b0).st c0).st a1).st s0).st t0
      replace d2:=((((d2.st b0).st c0).st a1).st s0).st t0
      replace e2:=((((e2.st b0).st c0).st a1).st s0).st t0
      obtain ⟨vH,p1,sD,tD,nA⟩:=Ors.shut (x:=x0) (l0:=2) (l1:=4) (l2:=5) (l3:=6) (by decide) s1 g1 h1 i1 j1 c2 y1 d2 e2 o4
      obtain rfl:=sm i4
      exact ⟨(l6,(f6,g6),(h6,i6),(j6,k6)),_,⟨rfl,rfl,rfl,rfl,rfl,rfl,rfl,rfl,rfl,rfl,trivial⟩,((((((hB.st k0).st b0).st c0).st a1).st s0).st t0).st p1,nA,(((e0.st a1).st s0).st t0).st p1,(((c1.st a1).st s0).st t0).st p1,(((d1.st a1).st s0).st t0).st p1,(((e1.st a1).st s0).st t0).st p1,((((((r1.st k0).st b0).st c0).st a1).st s0).st t0).st p1,(((j2.st a1).st s0).st t0).st p1,(((((r3.st b0).st c0).st a1).st s0).st t0).st p1,(((((s3.st b0).st c0).st a1).st s0).st t0).st p1,x3.st p1,((c6.st s0).st t0).st p1,((d6.st s0).st t0).st p1,((e6.st s0).st t0).st p1,((((((h0.st k0).st b0).st c0).st a1).st s0).st t0).st p1,kA⟩
     refine Bh 9 e4 rfl fun m6 wH oA b1 f3=>?_
     have hZ:=b1.lst [] (fun _ h=>h.elim)
     refine AX [(10,[9])] hZ (by kernel_rfl) ?_
     refine AP (i:=5) (by kernel_rfl) rfl ?_
     replace c1:=(((c1.st k0).st b0).st c0).st b1
     replace d1:=(((d1.st k0).st b0).st c0).st b1
     replace e1:=(((e1.st k0).st b0).st c0).st b1
     replace g1:=((g1.st b0).st c0).st b1
     replace h1:=((h1.st b0).st c0).st b1
     replace i1:=((i1.st b0).st c0).st b1
     replace j1:=((j1.st b0).st c0).st b1
     refine Bq (O:=oA) (R:=fun w' F v=>T2 w' F v f2) (FU Fr.lt (Vb.ofAgg (cs:=[(.slice p5 x0.t.vars.length q5),(.slice r5 x0.t.init.length t5),(.slice u5 x0.t.goal.length v5),(.slice w5 x0.t.ops.length x5)]) (x:=(⟨x0.t.vars,x0.t.init,x0.t.goal,x0.t.ops⟩:Tsk)) rfl ⟨_,_,_,_,rfl,g1,h1,i1,j1⟩) (Vb.ofAgg (cs:=[(.slice a0.2.1.1 d0.2.1.length a0.2.1.2),(.slice a0.2.2.1.1 d0.2.2.1.length a0.2.2.1.2),(.slice a0.2.2.2.1 d0.2.2.2.length a0.2.2.2.2)]) (x:=(⟨d0.2.1,d0.2.2.1,d0.2.2.2⟩:Swp)) rfl ⟨_,_,_,rfl,c1,d1,e1⟩) b6) rfl rfl fun xH yH pA y0 qA=>?_
     obtain ⟨zH,aI,rfl,rA,sA⟩:=qA
     obtain ⟨uD,rfl,bI,cI,dI,rfl,n6,o6,p6⟩:=rA
     obtain ⟨q6,r6,rfl⟩:=n6.form
     obtain ⟨s6,t6,rfl⟩:=o6.form
     obtain ⟨u6,v6,rfl⟩:=p6.form
     obtain ⟨rfl,tA⟩:=sA.err
     have hZ:=y0.lst [] (fun _ h=>h.elim)
     refine AX [(10,[9])] hZ (by kernel_rfl) ?_
     refine AT (fuel:=3) [] [(6,true),(7,true)] (by kernel_rfl) rfl ?_
     refine AL rfl rfl rfl (Gz rfl rfl rfl rfl (AC ?_))
     refine AT (fuel:=2) [9] [(8,true)] (by kernel_rfl) rfl ?_
     refine Gz rfl rfl rfl rfl (AC ?_)
     refine AP (i:=10) (by kernel_rfl) rfl ?_
     replace f3:=f3.st y0
     refine AZ f3 rfl rfl rfl (Bj rfl) (allOne rfl) fun uA u0 f3=>?_
     replace f3:Lc 9 uA pA m6 53 [(.slice q6 f2.1.vars.length r6),(.slice s6 f2.1.vals.length t6),(.slice u6 f2.1.ops.length v6)]:=f3
     have hZ:=u0.lst [9] (fun _ h=>by cases h;decide)
     refine AX [] hZ (by kernel_rfl) ?_
     refine AT (fuel:=0) [] [(11,true)] (by kernel_rfl) rfl ?_
     refine Ef rfl rfl rfl (AC ?_)
     refine Bn (by kernel_rfl) ?_
     replace s1:=((s1.st b1).st y0).st u0
     replace g1:=(g1.st y0).st u0
     replace h1:=(h1.st y0).st u0
     replace i1:=(i1.st y0).st u0
     replace j1:=(j1.st y0).st u0
     replace c2:=((((c2.st b0).st c0).st b1).st y0).st u0
     replace y1:=((((y1.st b0).st c0).st b1).st y0).st u0
     replace d2:=((((d2.st b0).st c0).st b1).st y0).st u0
     replace e2:=((((e2.st b0).st c0).st b1).st y0).st u0
     obtain ⟨eI,q1,vD,wD,vA⟩:=Ors.shut (x:=x0) (l0:=2) (l1:=4) (l2:=5) (l3:=6) (by decide) s1 g1 h1 i1 j1 c2 y1 d2 e2 o4
     obtain rfl:=sm i4
     exact ⟨(m6,(q6,r6),(s6,t6),(u6,v6)),_,⟨rfl,rfl,rfl,rfl,rfl,rfl,rfl,rfl,rfl,rfl,trivial⟩,((((((hB.st k0).st b0).st c0).st b1).st y0).st u0).st q1,vA,(((e0.st b1).st y0).st u0).st q1,((c1.st y0).st u0).st q1,((d1.st y0).st u0).st q1,((e1.st y0).st u0).st q1,((((((r1.st k0).st b0).st c0).st b1).st y0).st u0).st q1,(((j2.st b1).st y0).st u0).st q1,(((((r3.st b0).st c0).st b1).st y0).st u0).st q1,(((((s3.st b0).st c0).st b1).st y0).st u0).st q1,f3.st q1,(n6.st u0).st q1,(o6.st u0).st q1,(p6.st u0).st q1,((((((h0.st k0).st b0).st c0).st b1).st y0).st u0).st q1,tA⟩
    replace hB:=((hB.st k0).st b0).st c0
    replace h0:=((h0.st k0).st b0).st c0
    replace e0:=((e0.st k0).st b0).st c0
    replace r1:=((r1.st k0).st b0).st c0
    replace c1:=((c1.st k0).st b0).st c0
    replace d1:=((d1.st k0).st b0).st c0
    replace e1:=((e1.st k0).st b0).st c0
    replace r3:=(r3.st b0).st c0
    replace s3:=(s3.st b0).st c0
    rintro fI gI ⟨o1,hI,w6,hB,y6,e0,c1,d1,e1,r1,j2,r3,s3,wA,iI,jI,xA,h0,yA⟩
    refine AO _ w6 ?_
    refine Al (Al (Aj (Ar rfl rfl (Eq rfl rfl (fun v4=>?_) fun v4=>?_))))
    ·
     replace g0:=ip g0 v4
     refine o_z ?_
     refine Ah rfl (Al (Aj (Ar rfl rfl (Au rfl rfl (Au rfl rfl (o_z ?_))))))
     refine AJ ?_
     obtain rfl:=sm g0
     obtain rfl:=sm (BM r0)
     obtain rfl:=q3 _ rfl
     obtain rfl:=sm (BM hm)
     obtain ⟨O',hS',hz,hl⟩:=hE.leave (fun q=>if q=2 then i0 else 0) rfl hB
     exact ret2 rfl (AD rfl) (AD rfl) ⟨O',hS',_,_,(Ob.leave y6 hz (hl 2 (by decide) (by decide)) n2.2),rfl,(Vb.mono (Vb.nil _ _) hz),(vErr yA)⟩
    replace g0:=im g0 v4
    refine o_z ?_
    refine Ae rfl (AM (Aj (Ar rfl rfl (AN rfl rfl (AG (hc:=Blk.cell (i:=2) (wA.1) rfl) rfl rfl ?_)))))
    refine AN rfl rfl (AG (hc:=Blk.cell (i:=3) (j2.1) rfl) rfl rfl ?_)
    obtain ⟨zA,aB,g0⟩:=bs g0
    obtain ⟨bB,cB⟩:=AW aB
    obtain ⟨kI,lI,xD,z6,a7,b7,rfl,dB⟩:=xA.elem' cB
    refine Bv (hA:=z6) (hj:=(Int.toNat_of_nonneg bB).symm) (hlt:=a7) rfl rfl rfl ?_
    refine AG (hc:=cat0 b7) rfl rfl ?_
    obtain ⟨mI,w4,g0⟩:=bs g0
    obtain ⟨w4,eB,fB⟩:=Cc w4
    refine CY rfl (a:=zA) r1 (vInt dB) (fun _=>rfl) rfl (by decide) (by decide) eB fB ⟨rfl,rfl⟩ fun nI gB iB oI pI g3 c7=>?_
    rw [← w4] at c7 ⊢
    refine Au rfl rfl (o_z ?_)
    obtain rfl:=sm g0
    exact ⟨_,(gB,iB),_,rfl,⟨rfl,rfl,rfl,rfl,rfl,rfl,rfl,trivial⟩,hB.st g3,y6.st g3,e0.st g3,c1.st g3,d1.st g3,e1.st g3,c7,h0.st g3⟩
   replace g0:=im g0 u4
   refine o_z ?_
   refine Ae rfl (AM ?_)
   replace s1:=(s1.st b0).st c0
   replace g1:=(g1.st b0).st c0
   replace h1:=(h1.st b0).st c0
   replace i1:=(i1.st b0).st c0
   replace j1:=(j1.st b0).st c0
   replace c2:=(c2.st b0).st c0
   replace y1:=(y1.st b0).st c0
   replace d2:=(d2.st b0).st c0
   replace e2:=(e2.st b0).st c0
   obtain ⟨qI,h3,yD,zD,jB⟩:=Ors.shut (x:=x0) (l0:=2) (l1:=4) (l2:=5) (l3:=6) (by decide) s1 g1 h1 i1 j1 c2 y1 d2 e2 o4
   obtain rfl:=sm g0
   exact ⟨_,(a0.1.1,a0.1.2),_,rfl,⟨rfl,rfl,rfl,rfl,rfl,rfl,rfl,trivial⟩,(((hB.st k0).st b0).st c0).st h3,jB,(((e0.st k0).st b0).st c0).st h3,(((c1.st k0).st b0).st c0).st h3,(((d1.st k0).st b0).st c0).st h3,(((e1.st k0).st b0).st c0).st h3,(((r1.st k0).st b0).st c0).st h3,(((h0.st k0).st b0).st c0).st h3⟩
  rintro rI sI ⟨w1,n1,tI,rfl,d7,hB,kB,e0,c1,d1,e1,z1,h0⟩
  replace r0:=Be r0
  refine AO _ d7 ?_
  refine Al (Aj (Ar rfl rfl (Dx rfl rfl ?_)))
  obtain ⟨uI,vI,wI,xI,yI,zI,aJ,bJ,cJ,a2,aE,e7,f7,g7,h7,i7,j7,x4,k7,l7,lB⟩:=Ors.opn kB 2 4 5 6 (by decide)
  obtain ⟨dJ,eJ,rfl⟩:=f7.form
  obtain ⟨fJ,gJ,rfl⟩:=g7.form
  obtain ⟨hJ,iJ,rfl⟩:=h7.form
  obtain ⟨jJ,kJ,rfl⟩:=i7.form
  obtain ⟨lJ,mJ,rfl⟩:=j7.form
  obtain ⟨nJ,oJ,rfl⟩:=x4.form
  obtain ⟨pJ,rfl⟩:=k7.mptr
  obtain ⟨qJ,rJ,rfl⟩:=l7.form
  refine AN rfl rfl (AG (hc:=Blk.cell (i:=5) (e7.1) rfl) rfl rfl ?_)
  refine Ar rfl rfl ?_
  obtain ⟨t3,mB,r0⟩:=bs r0
  obtain ⟨nB,oB⟩:=AW mB
  obtain ⟨sJ,tJ,bE,m7,n7,o7,uJ,vJ,rfl,pB,g2,wJ,xJ,yJ⟩:=x4.elem oB
  obtain ⟨zJ,aK,rfl⟩:=pB.form
  obtain ⟨p7,q7,rfl⟩:=g2.form
  refine Bv (hA:=m7) (hj:=(Int.toNat_of_nonneg nB).symm) (hlt:=n7) rfl rfl rfl ?_
  refine AN rfl rfl (AG (hc:=cat4 o7) rfl rfl ?_)
  refine AY rfl rfl ?_
  have y4:t3.used.length≤9223372036854775807:=Nat.le_trans g2.len.2.1 g2.len.2.2
  have bK:inI64 (t3.used.length:Int):=rngNat y4
  refine Ar rfl rfl (o_z ?_)
  obtain ⟨qB,u1,cE,dE,i3⟩:=Ors.shut (x:=x0) (l0:=2) (l1:=4) (l2:=5) (l3:=6) (by decide) e7 f7 g7 h7 i7 j7 x4 k7 l7 lB
  obtain ⟨z4,r7,r0⟩:=bs r0
  refine AH (aft z4 (fun (j0:(List Int)×(List (List Int))×(List Int)) (f0:(Option Addr×Nat)×(Option Addr×Nat)×(Option Addr×Nat))=>[(0,(.pointer (some ⟨p0,0,none⟩))),(7,(.pointer (some ⟨t1,0,none⟩))),(9,(.slice n1.1 w1.length n1.2)),(44,(.slice z0.1 f1.2.length z0.2)),(45,(.int .i64 (f1.2.length:Int))),(46,(.int .i64 (w3:Int)))]) (fun j0 f0 w'=>∃ O':Lab,Bm w O0 w' O'∧Ob 2 w' O' (.pointer (some ⟨p0,0,none⟩)) x0∧Lc 7 w' O' t1 53 [(.slice f0.1.1 j0.1.length f0.1.2),(.slice f0.2.1.1 j0.2.1.length f0.2.1.2),(.slice f0.2.2.1 j0.2.2.length f0.2.2.2)]∧Vb w' (Fr 0 w' O') (.slice f0.1.1 j0.1.length f0.1.2) j0.1∧Vb w' (Fr 0 w' O') (.slice f0.2.1.1 j0.2.1.length f0.2.1.2) j0.2.1∧Vb w' (Fr 0 w' O') (.slice f0.2.2.1 j0.2.2.length f0.2.2.2) j0.2.2∧Rw 10 w' O' 3 (.slice n1.1 w1.length n1.2) w1∧Rw 3 w' O' 3 (.slice z0.1 f1.2.length z0.2) v3)) ?_ ?_
  ·
   refine AU ?_
   replace hB:=(hB.st a2).st u1
   replace h0:=(h0.st a2).st u1
   replace e0:=(e0.st a2).st u1
   replace c1:=(c1.st a2).st u1
   replace d1:=(d1.st a2).st u1
   replace e1:=(e1.st a2).st u1
   replace z1:=(z1.st a2).st u1
   replace g2:=g2.st u1
   refine Bu (σ:=(List Int)×(List (List Int))×(List Int)) (X:=(Option Addr×Nat)×(Option Addr×Nat)×(Option Addr×Nat)) (t3.used.length) r7 rfl y4 (fun (j0:(List Int)×(List (List Int))×(List Int)) (f0:(Option Addr×Nat)×(Option Addr×Nat)×(Option Addr×Nat))=>[(0,(.pointer (some ⟨p0,0,none⟩))),(7,(.pointer (some ⟨t1,0,none⟩))),(9,(.slice n1.1 w1.length n1.2)),(44,(.slice z0.1 f1.2.length z0.2)),(45,(.int .i64 (f1.2.length:Int))),(46,(.int .i64 (w3:Int))),(88,(.slice p7 t3.used.length q7))]) _ (fun j0 f0 w'=>∃ O':Lab,Bm w O0 w' O'∧Ob 2 w' O' (.pointer (some ⟨p0,0,none⟩)) x0∧Lc 7 w' O' t1 53 [(.slice f0.1.1 j0.1.length f0.1.2),(.slice f0.2.1.1 j0.2.1.length f0.2.1.2),(.slice f0.2.2.1 j0.2.2.length f0.2.2.2)]∧Vb w' (Fr 0 w' O') (.slice f0.1.1 j0.1.length f0.1.2) j0.1∧Vb w' (Fr 0 w' O') (.slice f0.2.1.1 j0.2.1.length f0.2.1.2) j0.2.1∧Vb w' (Fr 0 w' O') (.slice f0.2.2.1 j0.2.2.length f0.2.2.2) j0.2.2∧Rw 10 w' O' 3 (.slice n1.1 w1.length n1.2) w1∧Rw 3 w' O' 3 (.slice z0.1 f1.2.length z0.2) v3∧Vb w' (Fr 0 w' O') (.slice p7 t3.used.length q7) t3.used) _ ((a0.2.1.1,a0.2.1.2),(a0.2.2.1.1,a0.2.2.1.2),(a0.2.2.2.1,a0.2.2.2.2)) ⟨qB,hB,i3,e0,c1,d1,e1,z1,h0,g2⟩ ⟨rfl,rfl,rfl,rfl,rfl,rfl,rfl,rfl,rfl,trivial⟩ (fun _ _=>⟨rfl,rfl⟩) (fun _ _=>⟨rfl,rfl,rfl,rfl,rfl,rfl,trivial⟩) (fun _ _ _ ⟨O',hB,i3,e0,j3,k3,m3,z1,h0,g2⟩=>⟨O',hB,i3,e0,j3,k3,m3,z1,h0⟩) ⟨rfl,rfl,rfl⟩ ⟨rfl,rfl⟩ ?_
   rintro rB cK j0 f0 dK eE j4 ⟨eK,hB,i3,e0,j3,k3,m3,z1,h0,g2⟩ m1 f4 r8
   have rk498:inI64 (rB:Int):=rngK j4 y4
   refine Al (Aj ?_)
   obtain ⟨fK,gK,fE,s7,t7,u7,rfl,hK⟩:=g2.elem' j4
   refine Bv (hA:=s7) (hj:=rfl) (hlt:=t7) rfl rfl rfl ?_
   refine AG (hc:=cat0 u7) rfl rfl ?_
   refine Au rfl rfl (o_z ?_)
   refine Al ?_
   obtain ⟨v7,iK,jK,kK,lK,mK,nK,oK,pK,m2,gE,s2,t2,u2,v2,w2,x2,n3,o3,p3,w7⟩:=Ors.opn i3 2 4 5 6 (by decide)
   obtain ⟨sB,tB,rfl⟩:=t2.form
   obtain ⟨uB,vB,rfl⟩:=u2.form
   obtain ⟨wB,xB,rfl⟩:=v2.form
   obtain ⟨yB,zB,rfl⟩:=w2.form
   obtain ⟨qK,rK,rfl⟩:=x2.form
   obtain ⟨sK,tK,rfl⟩:=n3.form
   obtain ⟨uK,rfl⟩:=o3.mptr
   obtain ⟨vK,wK,rfl⟩:=p3.form
   refine Bt [(16,[7])] v7 ?_
   refine AT (fuel:=6) [] [(0,true),(1,true),(2,true),(3,true),(4,true),(5,true),(6,true),(7,true),(8,true),(9,true),(10,true),(11,true)] (by kernel_rfl) rfl ?_
   refine AL rfl rfl rfl (DA rfl rfl rfl (Bc rfl rfl rfl (CU (hl:=rfl) (hb:=fun w' ⟨O',hq⟩=>(Fs 0 4 ((s2.st hq (by decide)).1).cellsAt)) rfl rfl rfl ?_)))
   replace e0:=e0.st m2
   refine CU (hl:=rfl) (hb:=fun w' ⟨O',hq⟩=>((e0.st hq (by decide)).1).cellsAt) rfl rfl rfl ?_
   refine AL rfl rfl rfl (DA rfl rfl rfl (Bc rfl rfl rfl (AV (hc:=fun w' ⟨O',hq⟩=>Blk.cell (i:=4) ((s2.st hq (by decide)).1) rfl) rfl rfl rfl ?_)))
   refine AL rfl rfl rfl ?_
   obtain ⟨g4,aC,m1⟩:=bs m1
   obtain ⟨bC,cC⟩:=AW aC
   obtain ⟨xK,yK,iE,x7,y7,z7,a8,zK,aL,bL,rfl,b8,c8,d8⟩:=x2.elem cC
   obtain ⟨dC,eC,rfl⟩:=b8.form
   obtain ⟨fC,gC,rfl⟩:=c8.form
   obtain ⟨hC,iC,rfl⟩:=d8.form
   refine Br (hA:=x7) (hj:=(Int.toNat_of_nonneg bC).symm) (hlt:=z7) rfl rfl rfl rfl ?_
   refine CU (hl:=rfl) (hb:=fun w' ⟨O',hq⟩=>(AR (hq.agree (i:=0) (by decide)) y7 a8)) rfl rfl rfl ?_
   refine AC ?_
   refine AP (i:=12) (by kernel_rfl) rfl ?_
   obtain ⟨h4,jC,m1⟩:=bs m1
   replace j3:=j3.st m2
   replace k3:=k3.st m2
   replace m3:=m3.st m2
   refine Bq (O:=v7) (R:=fun w' F v=>T2 w' F v h4) (If Fr.lt (Vb.ofAgg (cs:=[(.slice sB x0.t.vars.length tB),(.slice uB x0.t.init.length vB),(.slice wB x0.t.goal.length xB),(.slice yB x0.t.ops.length zB)]) (x:=(⟨x0.t.vars,x0.t.init,x0.t.goal,x0.t.ops⟩:Tsk)) rfl ⟨_,_,_,_,rfl,t2,u2,v2,w2⟩) (Vb.ofAgg (cs:=[(.slice f0.1.1 j0.1.length f0.1.2),(.slice f0.2.1.1 j0.2.1.length f0.2.1.2),(.slice f0.2.2.1 j0.2.2.length f0.2.2.2)]) (x:=(⟨j0.1,j0.2.1,j0.2.2⟩:Swp)) rfl ⟨_,_,_,rfl,j3,k3,m3⟩) (Vb.ofAgg (cs:=[(.slice dC g4.vars.length eC),(.slice fC g4.vals.length gC),(.slice hC g4.ops.length iC)]) (x:=g4) rfl ⟨_,_,_,rfl,b8,c8,d8⟩) jC) rfl rfl fun cL dL kC q0 lC=>?_
   obtain ⟨eL,fL,rfl,mC,nC⟩:=lC
   obtain ⟨jE,rfl,gL,hL,iL,rfl,e8,f8,g8⟩:=mC
   obtain ⟨h8,i8,rfl⟩:=e8.form
   obtain ⟨j8,k8,rfl⟩:=f8.form
   obtain ⟨l8,m8,rfl⟩:=g8.form
   obtain ⟨rfl,oC⟩:=nC.err
   have hZ:=q0.lst [] (fun _ h=>h.elim)
   refine AX [(16,[7])] hZ (by kernel_rfl) ?_
   refine AT (fuel:=3) [] [(13,true),(14,true)] (by kernel_rfl) rfl ?_
   refine AL rfl rfl rfl (Gz rfl rfl rfl rfl (AC ?_))
   refine AT (fuel:=2) [7] [(15,true)] (by kernel_rfl) rfl ?_
   refine Gz rfl rfl rfl rfl (AC ?_)
   refine AP (i:=16) (by kernel_rfl) rfl ?_
   replace e0:=e0.st q0
   refine AZ e0 rfl rfl rfl (Bj rfl) (allOne rfl) fun pC m0 e0=>?_
   replace e0:Lc 7 pC kC t1 53 [(.slice h8 h4.1.vars.length i8),(.slice j8 h4.1.vals.length k8),(.slice l8 h4.1.ops.length m8)]:=e0
   have hZ:=m0.lst [7] (fun _ h=>by cases h;decide)
   refine AX [] hZ (by kernel_rfl) ?_
   refine AT (fuel:=0) [] [(17,true)] (by kernel_rfl) rfl ?_
   refine Ef rfl rfl rfl (AC ?_)
   refine Bn (by kernel_rfl) ?_
   refine Al (Aj (Ar rfl rfl (Eq rfl rfl (fun a5=>?_) fun a5=>?_)))
   ·
    replace m1:=ip m1 a5
    refine o_z ?_
    refine Ah rfl (Al (Aj (Ar rfl rfl (Au rfl rfl (Au rfl rfl (o_z ?_))))))
    refine AJ ?_
    replace s2:=(s2.st q0).st m0
    replace t2:=(t2.st q0).st m0
    replace u2:=(u2.st q0).st m0
    replace v2:=(v2.st q0).st m0
    replace w2:=(w2.st q0).st m0
    replace x2:=(x2.st q0).st m0
    replace n3:=(n3.st q0).st m0
    replace o3:=(o3.st q0).st m0
    replace p3:=(p3.st q0).st m0
    obtain ⟨jL,qC,kE,lE,rC⟩:=Ors.shut (x:=x0) (l0:=2) (l1:=4) (l2:=5) (l3:=6) (by decide) s2 t2 u2 v2 w2 x2 n3 o3 p3 w7
    obtain rfl:=sm m1
    obtain rfl:=f4 _ rfl
    obtain rfl:=sm (BM r0)
    obtain rfl:=q3 _ rfl
    obtain rfl:=sm (BM hm)
    replace hB:=(((hB.st m2).st q0).st m0).st qC
    obtain ⟨O',hS',hz,hl⟩:=hE.leave (fun q=>if q=2 then i0 else 0) rfl hB
    exact ret2 rfl (AD rfl) (AD rfl) ⟨O',hS',_,_,(Ob.leave rC hz (hl 2 (by decide) (by decide)) n2.2),rfl,(Vb.mono (Vb.nil _ _) hz),(vErr oC)⟩
   replace m1:=im m1 a5
   refine o_z ?_
   refine Ae rfl (AM ?_)
   replace s2:=(s2.st q0).st m0
   replace t2:=(t2.st q0).st m0
   replace u2:=(u2.st q0).st m0
   replace v2:=(v2.st q0).st m0
   replace w2:=(w2.st q0).st m0
   replace x2:=(x2.st q0).st m0
   replace n3:=(n3.st q0).st m0
   replace o3:=(o3.st q0).st m0
   replace p3:=(p3.st q0).st m0
   obtain ⟨kL,y2,mE,nE,sC⟩:=Ors.shut (x:=x0) (l0:=2) (l1:=4) (l2:=5) (l3:=6) (by decide) s2 t2 u2 v2 w2 x2 n3 o3 p3 w7
   obtain rfl:=sm m1
   exact show Exists _ from ⟨_,((h8,i8),(j8,k8),(l8,m8)),rfl,⟨rfl,rfl,rfl,rfl,rfl,rfl,rfl,rfl,rfl,trivial⟩,_,(((hB.st m2).st q0).st m0).st y2,sC,e0.st y2,(e8.st m0).st y2,(f8.st m0).st y2,(g8.st m0).st y2,(((z1.st m2).st q0).st m0).st y2,(((h0.st m2).st q0).st m0).st y2,(((g2.st m2).st q0).st m0).st y2⟩
  replace hB:=(hB.st a2).st u1
  replace h0:=(h0.st a2).st u1
  replace e0:=(e0.st a2).st u1
  replace z1:=(z1.st a2).st u1
  rintro lL mL ⟨nL,u3,rfl,h2,oL,hB,i3,e0,j3,k3,m3,z1,h0⟩
  replace r0:=Be r0
  obtain rfl:=sm r0
  exact show Exists _ from ⟨_,((n1.1,n1.2),(u3.1.1,u3.1.2),(u3.2.1.1,u3.2.1.2),(u3.2.2.1,u3.2.2.2)),rfl,⟨(BX h2 _ _ rfl),(BX h2 _ _ rfl),(BX h2 _ _ rfl),(BX h2 _ _ rfl),(BX h2 _ _ rfl),(BX h2 _ _ rfl),trivial⟩,_,hB,i3,e0,j3,k3,m3,z1,h0⟩
 replace hB:=(((((hB.st y3).st z3).st w0).st n0).st o0).st e3
 rintro pL qL ⟨rL,sL,rfl,n8,tL,hB,r1,i2⟩
 replace hm:=Be hm
 refine AO _ n8 ?_
 refine Al (Aj (Ar rfl rfl (Au rfl rfl (Au rfl rfl (o_z ?_)))))
 refine AJ ?_
 obtain ⟨uL,o8,r1⟩:=r1.freeze
 obtain rfl:=sm hm
 replace hB:=hB.st o8
 obtain ⟨O',hS',hz,hl⟩:=hE.leave (fun q=>if q=2 then i0 else 0) rfl hB
 replace i2:=i2.st o8
 exact ret2 rfl (AD rfl) (AD rfl) ⟨O',hS',_,_,(Ob.leave i2 hz (hl 2 (by decide) (by decide)) n2.2),rfl,(Vb.mono r1 hz),(vErr (show inI64 0 from by decide))⟩
noncomputable def CK (x0:Tsk) (x1:List Swp) (x2:Int):Option (Rsl×Err) :=
  bnd (CF x0) fun q33=>if q33.n≠0 then (some ((⟨0,([]:List Int),0,0⟩:Rsl),(⟨q33.n⟩:Err))) else (bnd (rng (ρ:=Rsl×Err) (fun (k50:Nat) (a51:Swp) (s48:Unit)=>bnd (CG x0 a51) fun q87=>if q87=true then some (.next ()) else some (.ret ((⟨0,([]:List Int),0,0⟩:Rsl),(⟨2⟩:Err)))) x1 0 ()) fun res46=>fin res46 fun (s100:Unit)=>bnd (Ez x0) fun q102=>if q102.2.n≠0 then (some ((⟨0,([]:List Int),0,0⟩:Rsl),(⟨q102.2.n⟩:Err))) else (bnd (BW (⟨(⟨x0.vars,x0.init,x0.goal,x0.ops⟩:Tsk),x1,([]:List ONd),(⟨[]⟩:MapP ByteArray Int),([]:List OEn),0⟩:Ors) x0.init 0 (-1) (-1)) fun q138=>if q138.1.n≠0 then (some ((⟨0,([]:List Int),0,0⟩:Rsl),(⟨q138.1.n⟩:Err))) else (bnd (lop (ρ:=Rsl×Err) (fun (s153:Int×Ors)=>bnd (BY s153.2.open_) fun q208=>if q208=0 then (some (.ret ((⟨2,([]:List Int),0,s153.1⟩:Rsl),(⟨0⟩:Err)))) else (bnd (CJ (⟨s153.2.open_⟩:BxR 67 73 OEn)) fun q224=>bnd (bnd (atI s153.2.nodes q224.1.x.node) fun a259=>if a259.fin=true then (some true) else (bnd (atI s153.2.nodes q224.1.x.node) fun a287=>if a287.cost < q224.1.x.cost then (some true) else (some false)):Option Bool) fun y255=>if y255=true then (some (.next (s153.1,(⟨(⟨s153.2.t.vars,s153.2.t.init,s153.2.t.goal,s153.2.t.ops⟩:Tsk),s153.2.gens,s153.2.nodes,s153.2.tab,q224.2.l,s153.2.number⟩:Ors)))) else (bnd (atI ((⟨(⟨s153.2.t.vars,s153.2.t.init,s153.2.t.goal,s153.2.t.ops⟩:Tsk),s153.2.gens,s153.2.nodes,s153.2.tab,q224.2.l,s153.2.number⟩:Ors).nodes) q224.1.x.node) fun a363=>bnd (Eh x0.goal a363.state) fun q392=>if q392=true then bnd (CB (⟨(⟨s153.2.t.vars,s153.2.t.init,s153.2.t.goal,s153.2.t.ops⟩:Tsk),s153.2.gens,s153.2.nodes,s153.2.tab,q224.2.l,s153.2.number⟩:Ors) q224.1.x.node) fun q540=>if q540.2.n≠0 then (some (.ret ((⟨0,([]:List Int),0,0⟩:Rsl),(⟨q540.2.n⟩:Err)))) else (some (.ret ((⟨1,q540.1,a363.cost,s153.1⟩:Rsl),(⟨0⟩:Err)))) else if x2≤s153.1 then (some (.ret ((⟨3,([]:List Int),0,s153.1⟩:Rsl),(⟨0⟩:Err)))) else (bnd (chkI (s153.1 + 1)) fun n402=>bnd (atI ((⟨(⟨s153.2.t.vars,s153.2.t.init,s153.2.t.goal,s153.2.t.ops⟩:Tsk),s153.2.gens,s153.2.nodes,s153.2.tab,q224.2.l,s153.2.number⟩:Ors).nodes) q224.1.x.node) fun a405=>bnd (BI q102.1 a363.state) fun q440=>bnd (rng (ρ:=Ctl (Int×Ors) (Rsl×Err)) (fun (k460:Nat) (a461:Suc) (s458:Ors)=>bnd (atI x0.ops a461.op) fun a492=>bnd (chkI (a363.cost + a492.cost)) fun n513=>bnd (BW s458 a461.state n513 q224.1.x.node a461.op) fun q516=>if q516.1.n≠0 then (some (.ret (.ret ((⟨0,([]:List Int),0,0⟩:Rsl),(⟨q516.1.n⟩:Err))))) else (some (.next q516.2))) q440 0 (⟨(⟨(⟨(⟨s153.2.t.vars,s153.2.t.init,s153.2.t.goal,s153.2.t.ops⟩:Tsk),s153.2.gens,s153.2.nodes,s153.2.tab,q224.2.l,s153.2.number⟩:Ors).t.vars,(⟨(⟨s153.2.t.vars,s153.2.t.init,s153.2.t.goal,s153.2.t.ops⟩:Tsk),s153.2.gens,s153.2.nodes,s153.2.tab,q224.2.l,s153.2.number⟩:Ors).t.init,(⟨(⟨s153.2.t.vars,s153.2.t.init,s153.2.t.goal,s153.2.t.ops⟩:Tsk),s153.2.gens,s153.2.nodes,s153.2.tab,q224.2.l,s153.2.number⟩:Ors).t.goal,(⟨(⟨s153.2.t.vars,s153.2.t.init,s153.2.t.goal,s153.2.t.ops⟩:Tsk),s153.2.gens,s153.2.nodes,s153.2.tab,q224.2.l,s153.2.number⟩:Ors).t.ops⟩:Tsk),(⟨(⟨s153.2.t.vars,s153.2.t.init,s153.2.t.goal,s153.2.t.ops⟩:Tsk),s153.2.gens,s153.2.nodes,s153.2.tab,q224.2.l,s153.2.number⟩:Ors).gens,(((⟨(⟨s153.2.t.vars,s153.2.t.init,s153.2.t.goal,s153.2.t.ops⟩:Tsk),s153.2.gens,s153.2.nodes,s153.2.tab,q224.2.l,s153.2.number⟩:Ors).nodes).set (q224.1.x.node:Int).toNat ({ a405 with fin:=true }:ONd)),(⟨(⟨s153.2.t.vars,s153.2.t.init,s153.2.t.goal,s153.2.t.ops⟩:Tsk),s153.2.gens,s153.2.nodes,s153.2.tab,q224.2.l,s153.2.number⟩:Ors).tab,(⟨(⟨s153.2.t.vars,s153.2.t.init,s153.2.t.goal,s153.2.t.ops⟩:Tsk),s153.2.gens,s153.2.nodes,s153.2.tab,q224.2.l,s153.2.number⟩:Ors).open_,(⟨(⟨s153.2.t.vars,s153.2.t.init,s153.2.t.goal,s153.2.t.ops⟩:Tsk),s153.2.gens,s153.2.nodes,s153.2.tab,q224.2.l,s153.2.number⟩:Ors).number⟩:Ors)) fun res456=>fin res456 fun (s533:Ors)=>some (.next (n402,s533)))))) (0,q138.2)) fun res151=>fin res151 fun (_:Int×Ors)=>none)))
theorem Hg {w:World} {A:Nat→Prop} (hA:∀ k,A k→k < w.heap.size) {vx0:Value} {x0:Tsk} (k8:Vb w A vx0 x0) {vx1:Value} {x1:List Swp} (i2:Vb w A vx1 x1) {x2:Int} (rx2:inI64 x2) {r:Rsl×Err} (hm:CK x0 x1 x2=some r) :
    Fn Tryz.prog 12 [vx0,vx1,(.int .i64 x2)] w fun v w'=>Ext w w'∧T2 w' (upA A w w') v r:=by
 obtain ⟨O,hB,tC⟩:=enter hA
 replace k8:=k8.mono tC
 obtain ⟨nK,rfl,v5,v6,v7,v8,rfl,h9,w0,y0,z0⟩:=k8
 obtain ⟨j2,k2,rfl⟩:=h9.form
 obtain ⟨m2,n2,rfl⟩:=w0.form
 obtain ⟨o2,p2,rfl⟩:=y0.form
 obtain ⟨q2,r2,rfl⟩:=z0.form
 replace i2:=i2.mono tC
 obtain ⟨n5,o5,rfl⟩:=i2.form
 refine AK Tryz.func12 rfl Tryz.ntmps12 rfl ?_
 unfold CK at hm
 refine Al (Aj (BS 2 O rfl rfl fun i3 lE uC i4 t0=>?_))
 replace t0:Lc 2 lE uC i3 26 [(.slice j2 x0.vars.length k2),(.slice m2 x0.init.length n2),(.slice o2 x0.goal.length p2),(.slice q2 x0.ops.length r2)]:=t0
 refine Bh 3 uC rfl fun q1 vC wC u3 j0=>?_
 refine Au rfl rfl (o_z ?_)
 refine Al (Al (Aj ?_))
 replace t0:=t0.st u3
 refine Bk (hl:=rfl) (hc:=(t0.1).cellsAt) rfl rfl ?_
 obtain ⟨mE,nE,hm⟩:=bs hm
 replace h9:=(h9.st i4).st u3
 replace w0:=(w0.st i4).st u3
 replace y0:=(y0.st i4).st u3
 replace z0:=(z0.st i4).st u3
 refine Bi (O:=wC) (A:=All vC) (R:=fun w' F v=>Vb w' F v mE) (GE (fun _ h=>h) (Vb.mono (F:=Fr 0 vC wC) (Vb.ofAgg (cs:=[(.slice j2 x0.vars.length k2),(.slice m2 x0.init.length n2),(.slice o2 x0.goal.length p2),(.slice q2 x0.ops.length r2)]) (x:=x0) rfl ⟨_,_,_,_,rfl,h9,w0,y0,z0⟩) Fr.lt) nE) rfl rfl fun oK pK l8 s2 oE=>?_
 obtain ⟨rfl,pE⟩:=oE.err
 refine Au rfl rfl (o_z ?_)
 refine Al (Aj (Ar rfl rfl (Eq rfl rfl (fun m8=>?_) fun m8=>?_)))
 ·
  replace hm:=ip hm m8
  refine o_z ?_
  refine Ah rfl (Al (Aj (Dh rfl rfl rfl ?_)))
  refine Ar rfl rfl ?_
  replace j0:=j0.st s2
  refine AZ j0 rfl rfl rfl (Bj rfl) (allOne rfl) fun xC qE j0=>?_
  replace j0:Lc 3 xC l8 q1 32 [(.int .i64 0),(.slice none 0 0),(.int .i64 0),(.int .i64 0)]:=j0
  refine Au rfl rfl (o_z ?_)
  refine AJ ?_
  obtain rfl:=sm hm
  replace hB:=(((hB.st i4).st u3).st s2).st qE
  exact ret2 rfl (Cm (cs:=[(.int .i64 0),(.slice none 0 0),(.int .i64 0),(.int .i64 0)]) rfl rfl j0.1.cellsAt) (AD rfl) ⟨hB.ext,_,_,rfl,(Vb.mono (F:=Fr 0 xC l8) (Vb.ofAgg (cs:=[(.int .i64 0),(.slice none 0 0),(.int .i64 0),(.int .i64 0)]) (x:=(⟨0,([]:List Int),0,0⟩:Rsl)) rfl ⟨_,rfl,(Vb.nil _ _),(show inI64 0 from by decide),(show inI64 0 from by decide),(show inI64 0 from by decide)⟩) hB.out),(vErr pE)⟩
 replace hm:=im hm m8
 refine o_z ?_
 refine Ae rfl (AM (Al (Al (Aj (Ar rfl rfl (AY rfl rfl ?_))))))
 replace i2:=((i2.st i4).st u3).st s2
 have n8:x1.length≤9223372036854775807:=Nat.le_trans i2.len.2.1 i2.len.2.2
 have qK:inI64 (x1.length:Int):=rngNat n8
 refine Ar rfl rfl (o_z ?_)
 obtain ⟨p5,o8,hm⟩:=bs hm
 refine AH (aft p5 (fun (b8:Unit) (c8:Unit)=>[(1,(.slice n5 x1.length o5)),(2,(.int .i64 x2)),(3,(.pointer (some ⟨i3,0,none⟩))),(6,(.pointer (some ⟨q1,0,none⟩)))]) (fun b8 c8 w'=>∃ O':Lab,Bs w A w' O'∧Vb w' (Fr 0 w' O') (.slice n5 x1.length o5) x1∧Lc 2 w' O' i3 26 [(.slice j2 x0.vars.length k2),(.slice m2 x0.init.length n2),(.slice o2 x0.goal.length p2),(.slice q2 x0.ops.length r2)]∧Vb w' (Fr 0 w' O') (.slice j2 x0.vars.length k2) x0.vars∧Vb w' (Fr 0 w' O') (.slice m2 x0.init.length n2) x0.init∧Vb w' (Fr 0 w' O') (.slice o2 x0.goal.length p2) x0.goal∧Vb w' (Fr 0 w' O') (.slice q2 x0.ops.length r2) x0.ops∧Lc 3 w' O' q1 32 [(.int .i64 0),(.slice none 0 0),(.int .i64 0),(.int .i64 0)])) ?_ ?_
 ·
  refine AU ?_
  replace hB:=((hB.st i4).st u3).st s2
  replace h9:=h9.st s2
  replace w0:=w0.st s2
  replace y0:=y0.st s2
  replace z0:=z0.st s2
  replace t0:=t0.st s2
  replace j0:=j0.st s2
  refine Bu (σ:=Unit) (X:=Unit) (x1.length) o8 rfl n8 (fun (b8:Unit) (c8:Unit)=>[(1,(.slice n5 x1.length o5)),(2,(.int .i64 x2)),(3,(.pointer (some ⟨i3,0,none⟩))),(6,(.pointer (some ⟨q1,0,none⟩))),(30,(.slice n5 x1.length o5))]) _ (fun b8 c8 w'=>∃ O':Lab,Bs w A w' O'∧Vb w' (Fr 0 w' O') (.slice n5 x1.length o5) x1∧Lc 2 w' O' i3 26 [(.slice j2 x0.vars.length k2),(.slice m2 x0.init.length n2),(.slice o2 x0.goal.length p2),(.slice q2 x0.ops.length r2)]∧Vb w' (Fr 0 w' O') (.slice j2 x0.vars.length k2) x0.vars∧Vb w' (Fr 0 w' O') (.slice m2 x0.init.length n2) x0.init∧Vb w' (Fr 0 w' O') (.slice o2 x0.goal.length p2) x0.goal∧Vb w' (Fr 0 w' O') (.slice q2 x0.ops.length r2) x0.ops∧Lc 3 w' O' q1 32 [(.int .i64 0),(.slice none 0 0),(.int .i64 0),(.int .i64 0)]) _ () ⟨l8,hB,i2,t0,h9,w0,y0,z0,j0⟩ ⟨rfl,rfl,rfl,rfl,rfl,rfl,rfl,trivial⟩ (fun _ _=>⟨rfl,rfl⟩) (fun _ _=>⟨rfl,rfl,rfl,rfl,trivial⟩) (fun _ _ _ ⟨O',hB,i2,t0,h9,w0,y0,z0,j0⟩=>⟨O',hB,i2,t0,h9,w0,y0,z0,j0⟩) ⟨rfl,rfl,rfl⟩ ⟨rfl,rfl⟩ ?_
  rintro rE l4 b8 c8 rK sE q5 ⟨tE,hB,i2,t0,h9,w0,y0,z0,j0⟩ t2 m4 p8
  have rk50:inI64 (rE:Int):=rngK q5 n8
  refine Al (Aj ?_)
  obtain ⟨sK,tK,uE,q8,r8,s8,uK,vK,wK,rfl,d8,e8,f8⟩:=i2.elem' q5
  obtain ⟨yC,zC,rfl⟩:=d8.form
  obtain ⟨aD,bD,rfl⟩:=e8.form
  obtain ⟨cD,dD,rfl⟩:=f8.form
  refine Bv (hA:=q8) (hj:=rfl) (hlt:=r8) rfl rfl rfl ?_
  refine Bk (hl:=rfl) (hc:=s8) rfl rfl ?_
  refine Bh 4 tE rfl fun vE xK g8 j3 r5=>?_
  refine AZ r5 rfl rfl rfl (Bj rfl) (allOne rfl) fun h8 k3 r5=>?_
  replace r5:Lc 4 h8 g8 vE 53 [(.slice yC l4.vars.length zC),(.slice aD l4.vals.length bD),(.slice cD l4.ops.length dD)]:=r5
  refine o_z ?_
  refine Al (Aj ?_)
  replace t0:=(t0.st j3).st k3
  refine Bk (hl:=rfl) (hc:=(t0.1).cellsAt) rfl rfl ?_
  refine Bk (hl:=rfl) (hc:=(r5.1).cellsAt) rfl rfl ?_
  obtain ⟨eD,wE,t2⟩:=bs t2
  replace h9:=(h9.st j3).st k3
  replace w0:=(w0.st j3).st k3
  replace y0:=(y0.st j3).st k3
  replace z0:=(z0.st j3).st k3
  replace d8:=(d8.st j3).st k3
  replace e8:=(e8.st j3).st k3
  replace f8:=(f8.st j3).st k3
  refine Bi (O:=g8) (A:=All h8) (R:=fun w' F v=>Vb w' F v eD) (Jh (fun _ h=>h) (Vb.mono (F:=Fr 0 h8 g8) (Vb.ofAgg (cs:=[(.slice j2 x0.vars.length k2),(.slice m2 x0.init.length n2),(.slice o2 x0.goal.length p2),(.slice q2 x0.ops.length r2)]) (x:=x0) rfl ⟨_,_,_,_,rfl,h9,w0,y0,z0⟩) Fr.lt) (Vb.mono (F:=Fr 0 h8 g8) (Vb.ofAgg (cs:=[(.slice yC l4.vars.length zC),(.slice aD l4.vals.length bD),(.slice cD l4.ops.length dD)]) (x:=l4) rfl ⟨_,_,_,rfl,d8,e8,f8⟩) Fr.lt) wE) rfl rfl fun yK zK fD t3 xE=>?_
  obtain rfl:=xE.bool
  cases eD
  case false =>
   replace t2:=iF t2
   refine Ct rfl rfl (o_z ?_)
   refine Ah rfl (Al (Aj (Dh rfl rfl rfl ?_)))
   refine MV rfl rfl ?_
   replace j0:=((j0.st j3).st k3).st t3
   refine AZ j0 rfl rfl rfl (Bj rfl) (allOne rfl) fun gD yE j0=>?_
   replace j0:Lc 3 gD fD q1 32 [(.int .i64 0),(.slice none 0 0),(.int .i64 0),(.int .i64 0)]:=j0
   refine Au rfl rfl (o_z ?_)
   refine AJ ?_
   obtain rfl:=sm t2
   obtain rfl:=m4 _ rfl
   obtain rfl:=sm (BM hm)
   replace hB:=(((hB.st j3).st k3).st t3).st yE
   exact ret2 rfl (Cm (cs:=[(.int .i64 0),(.slice none 0 0),(.int .i64 0),(.int .i64 0)]) rfl rfl j0.1.cellsAt) (AD rfl) ⟨hB.ext,_,_,rfl,(Vb.mono (F:=Fr 0 gD fD) (Vb.ofAgg (cs:=[(.int .i64 0),(.slice none 0 0),(.int .i64 0),(.int .i64 0)]) (x:=(⟨0,([]:List Int),0,0⟩:Rsl)) rfl ⟨_,rfl,(Vb.nil _ _),(show inI64 0 from by decide),(show inI64 0 from by decide),(show inI64 0 from by decide)⟩) hB.out),(vErr (by decide))⟩
  replace t2:=iT t2
  refine Cs rfl rfl (o_z ?_)
  refine Ae rfl (AM ?_)
  obtain rfl:=sm t2
  exact show Exists _ from ⟨_,(),rfl,⟨rfl,rfl,rfl,rfl,rfl,rfl,rfl,trivial⟩,_,((hB.st j3).st k3).st t3,((i2.st j3).st k3).st t3,t0.st t3,h9.st t3,w0.st t3,y0.st t3,z0.st t3,((j0.st j3).st k3).st t3⟩
 replace hB:=((hB.st i4).st u3).st s2
 replace h9:=h9.st s2
 replace w0:=w0.st s2
 replace y0:=y0.st s2
 replace z0:=z0.st s2
 replace t0:=t0.st s2
 replace j0:=j0.st s2
 rintro aL bL ⟨zE,aF,rfl,t8,bF,hB,i2,t0,h9,w0,y0,z0,j0⟩
 replace hm:=Be hm
 refine AO _ t8 ?_
 refine Al (Aj (Bk (hl:=rfl) (hc:=(t0.1).cellsAt) rfl rfl ?_))
 obtain ⟨n3,u8,hm⟩:=bs hm
 refine Bq (O:=bF) (R:=fun w' F v=>T2 w' F v n3) (KS Fr.lt (Vb.ofAgg (cs:=[(.slice j2 x0.vars.length k2),(.slice m2 x0.init.length n2),(.slice o2 x0.goal.length p2),(.slice q2 x0.ops.length r2)]) (x:=x0) rfl ⟨_,_,_,_,rfl,h9,w0,y0,z0⟩) u8) rfl rfl fun cF dF n4 m1 w8=>?_
 obtain ⟨eF,fF,rfl,u0,x8⟩:=w8
 obtain ⟨u2,rfl,hD⟩:=u0.ptr
 obtain ⟨rfl,y8⟩:=x8.err
 refine Ar rfl rfl (CI rfl rfl rfl (CI rfl rfl rfl (Au rfl rfl (Au rfl rfl (o_z ?_)))))
 refine Al (Al (Aj (Ar rfl rfl (Eq rfl rfl (fun o4=>?_) fun o4=>?_))))
 ·
  replace hm:=ip hm o4
  refine o_z ?_
  refine Ah rfl (Al (Aj (Dh rfl rfl rfl ?_)))
  refine Ar rfl rfl ?_
  replace j0:=j0.st m1
  refine AZ j0 rfl rfl rfl (Bj rfl) (allOne rfl) fun s5 z8 j0=>?_
  replace j0:Lc 3 s5 n4 q1 32 [(.int .i64 0),(.slice none 0 0),(.int .i64 0),(.int .i64 0)]:=j0
  refine Au rfl rfl (o_z ?_)
  refine AJ ?_
  obtain rfl:=sm hm
  replace hB:=(hB.st m1).st z8
  exact ret2 rfl (Cm (cs:=[(.int .i64 0),(.slice none 0 0),(.int .i64 0),(.int .i64 0)]) rfl rfl j0.1.cellsAt) (AD rfl) ⟨hB.ext,_,_,rfl,(Vb.mono (F:=Fr 0 s5 n4) (Vb.ofAgg (cs:=[(.int .i64 0),(.slice none 0 0),(.int .i64 0),(.int .i64 0)]) (x:=(⟨0,([]:List Int),0,0⟩:Rsl)) rfl ⟨_,rfl,(Vb.nil _ _),(show inI64 0 from by decide),(show inI64 0 from by decide),(show inI64 0 from by decide)⟩) hB.out),(vErr y8)⟩
 replace hm:=im hm o4
 refine o_z ?_
 refine Ae rfl (AM (Al (Aj ?_)))
 replace t0:=t0.st m1
 refine Bk (hl:=rfl) (hc:=(t0.1).cellsAt) rfl rfl ?_
 refine Ar rfl rfl (PD (K:=ByteArray) (V:=Int) 5 (by decide) n4 rfl fun a9 gF b9 o1 p4=>?_)
 refine Dh rfl rfl rfl ?_
 refine BS 6 b9 rfl rfl fun p1 q4 r4 n1 s4=>?_
 replace s4:Lc 6 q4 r4 p1 69 [(.slice j2 x0.vars.length k2),(.slice m2 x0.init.length n2),(.slice o2 x0.goal.length p2),(.slice q2 x0.ops.length r2),(.slice n5 x1.length o5),(.slice none 0 0),(.map (some a9)),(.slice none 0 0),(.int .i64 0)]:=s4
 refine Au rfl rfl (o_z ?_)
 refine Al (Al (Aj (Ar rfl rfl (AN rfl rfl ?_))))
 replace t0:=(t0.st o1).st n1
 refine AG (hc:=Blk.cell (i:=1) (t0.1) rfl) rfl rfl ?_
 have c9:Rw 7 q4 r4 78 (.slice none 0 0) ([]:List ONd):=Rw.nil 7 (by decide)
 have d9:Rw 8 q4 r4 73 (.slice none 0 0) ([]:List OEn):=Rw.nil 8 (by decide)
 replace i2:=((i2.st m1).st o1).st n1
 replace h9:=((h9.st m1).st o1).st n1
 replace w0:=((w0.st m1).st o1).st n1
 replace y0:=((y0.st m1).st o1).st n1
 replace z0:=((z0.st m1).st o1).st n1
 replace p4:=p4.st n1
 obtain ⟨e9,r1,iD,jD,f9⟩:=Ors.shut (x:=(⟨(⟨x0.vars,x0.init,x0.goal,x0.ops⟩:Tsk),x1,([]:List ONd),(⟨[]⟩:MapP ByteArray Int),([]:List OEn),0⟩:Ors)) (l0:=6) (l1:=7) (l2:=5) (l3:=8) (by decide) s4 h9 w0 y0 z0 i2 c9 p4 d9 (show inI64 0 from by decide)
 obtain ⟨hF,g9,hm⟩:=bs hm
 replace w0:=w0.st r1
 refine Fj (O:=e9) (FV f9 w0 (show inI64 (0) from by decide) (show inI64 (-1) from by decide) (show inI64 (-1) from by decide) g9) rfl rfl fun jF kF t4 s1 i9=>?_
 obtain ⟨j9,k9⟩:=i9
 obtain ⟨rfl,l9⟩:=k9.err
 refine Au rfl rfl (o_z ?_)
 refine Al (Aj (Ar rfl rfl (Eq rfl rfl (fun u4=>?_) fun u4=>?_)))
 ·
  replace hm:=ip hm u4
  refine o_z ?_
  refine Ah rfl (Al (Aj (Dh rfl rfl rfl ?_)))
  refine Ar rfl rfl ?_
  replace j0:=((((j0.st m1).st o1).st n1).st r1).st s1
  refine AZ j0 rfl rfl rfl (Bj rfl) (allOne rfl) fun t5 m9 j0=>?_
  replace j0:Lc 3 t5 t4 q1 32 [(.int .i64 0),(.slice none 0 0),(.int .i64 0),(.int .i64 0)]:=j0
  refine Au rfl rfl (o_z ?_)
  refine AJ ?_
  obtain rfl:=sm hm
  replace hB:=(((((hB.st m1).st o1).st n1).st r1).st s1).st m9
  exact ret2 rfl (Cm (cs:=[(.int .i64 0),(.slice none 0 0),(.int .i64 0),(.int .i64 0)]) rfl rfl j0.1.cellsAt) (AD rfl) ⟨hB.ext,_,_,rfl,(Vb.mono (F:=Fr 0 t5 t4) (Vb.ofAgg (cs:=[(.int .i64 0),(.slice none 0 0),(.int .i64 0),(.int .i64 0)]) (x:=(⟨0,([]:List Int),0,0⟩:Rsl)) rfl ⟨_,rfl,(Vb.nil _ _),(show inI64 0 from by decide),(show inI64 0 from by decide),(show inI64 0 from by decide)⟩) hB.out),(vErr l9)⟩
 replace hm:=im hm u4
 refine o_z ?_
 refine Ae rfl (AM (Al (Aj (Au rfl rfl (o_z ?_)))))
 obtain ⟨v4,u5,hm⟩:=bs hm
 refine AH (aft v4 (fun (a0:Int×Ors) (v3:Unit)=>[]) (fun a0 v3 w'=>False)) ?_ ?_
 ·
  refine AU ?_
  replace hB:=((((hB.st m1).st o1).st n1).st r1).st s1
  replace h9:=(h9.st r1).st s1
  replace w0:=w0.st s1
  replace y0:=(y0.st r1).st s1
  replace z0:=(z0.st r1).st s1
  replace t0:=(t0.st r1).st s1
  replace j0:=((((j0.st m1).st o1).st n1).st r1).st s1
  replace u0:=(((u0.st o1).st n1).st r1).st s1
  refine Fi (σ:=Int×Ors) (X:=Unit) u5 (fun (a0:Int×Ors) (v3:Unit)=>[(2,(.int .i64 x2)),(3,(.pointer (some ⟨i3,0,none⟩))),(6,(.pointer (some ⟨q1,0,none⟩))),(11,(.pointer u2)),(13,(.pointer (some ⟨p1,0,none⟩))),(15,(.int .i64 a0.1))]) _ (fun a0 v3 w'=>∃ O':Lab,Bs w A w' O'∧Lc 2 w' O' i3 26 [(.slice j2 x0.vars.length k2),(.slice m2 x0.init.length n2),(.slice o2 x0.goal.length p2),(.slice q2 x0.ops.length r2)]∧Vb w' (Fr 0 w' O') (.slice j2 x0.vars.length k2) x0.vars∧Vb w' (Fr 0 w' O') (.slice m2 x0.init.length n2) x0.init∧Vb w' (Fr 0 w' O') (.slice o2 x0.goal.length p2) x0.goal∧Vb w' (Fr 0 w' O') (.slice q2 x0.ops.length r2) x0.ops∧Lc 3 w' O' q1 32 [(.int .i64 0),(.slice none 0 0),(.int .i64 0),(.int .i64 0)]∧Vb w' (Fr 0 w' O') (.pointer u2) n3.1∧Ob 6 w' O' (.pointer (some ⟨p1,0,none⟩)) a0.2∧inI64 a0.1) _ () ⟨t4,hB,t0,h9,w0,y0,z0,j0,u0,j9,(show inI64 (0) from by decide)⟩ ⟨rfl,rfl,rfl,rfl,rfl,rfl,trivial⟩ ?_
  rintro a0 v3 n9 kD ⟨lF,hB,t0,h9,w0,y0,z0,j0,u0,o9,w3⟩ b0 i1 i8
  refine AU (Al (Al (Aj (Ar rfl rfl (Dx rfl rfl ?_)))))
  obtain ⟨p9,mF,nF,oF,pF,qF,rF,sF,tF,o0,lD,x3,t1,u1,v1,w1,y1,v2,z1,o3,w4⟩:=Ors.opn o9 6 9 10 11 (by decide)
  obtain ⟨w5,x5,rfl⟩:=t1.form
  obtain ⟨y5,z5,rfl⟩:=u1.form
  obtain ⟨a6,b6,rfl⟩:=v1.form
  obtain ⟨c6,d6,rfl⟩:=w1.form
  obtain ⟨e6,f6,rfl⟩:=y1.form
  obtain ⟨g6,h6,rfl⟩:=v2.form
  obtain ⟨i6,rfl⟩:=z1.mptr
  obtain ⟨q9,r9,rfl⟩:=o3.form
  refine AN rfl rfl (AG (hc:=Blk.cell (i:=7) (x3.1) rfl) rfl rfl ?_)
  obtain ⟨s9,t9,b0⟩:=bs b0
  refine Bi (O:=p9) (A:=All n9) (R:=fun w' F v=>Vb w' F v s9) (Ff (fun _ h=>h) (o3).all t9) rfl rfl fun uF vF j6 d0 u9=>?_
  obtain ⟨rfl,wF⟩:=u9.int
  refine EP rfl rfl rfl (fun x4=>?_) fun x4=>?_
  ·
   replace b0:=ip b0 x4
   refine o_z ?_
   refine Ah rfl (Al (Aj (Ar rfl rfl (Dh rfl rfl rfl ?_))))
   replace j0:=(j0.st o0).st d0
   refine AZ j0 rfl rfl rfl (Bj rfl) (allOne rfl) fun k6 v9 j0=>?_
   replace j0:Lc 3 k6 j6 q1 32 [(.int .i64 2),(.slice none 0 0),(.int .i64 0),(.int .i64 a0.1)]:=j0
   refine Au rfl rfl (o_z ?_)
   refine AJ ?_
   obtain rfl:=sm b0
   obtain rfl:=i1 _ rfl
   obtain rfl:=sm (BM hm)
   replace hB:=((hB.st o0).st d0).st v9
   exact ret2 rfl (Cm (cs:=[(.int .i64 2),(.slice none 0 0),(.int .i64 0),(.int .i64 a0.1)]) rfl rfl j0.1.cellsAt) (AD rfl) ⟨hB.ext,_,_,rfl,(Vb.mono (F:=Fr 0 k6 j6) (Vb.ofAgg (cs:=[(.int .i64 2),(.slice none 0 0),(.int .i64 0),(.int .i64 a0.1)]) (x:=(⟨2,([]:List Int),0,a0.1⟩:Rsl)) rfl ⟨_,rfl,(Vb.nil _ _),(show inI64 (2) from by decide),(show inI64 0 from by decide),w3⟩) hB.out),(vErr (show inI64 0 from by decide))⟩
  replace b0:=im b0 x4
  refine o_z ?_
  refine Ae rfl (AM (Al (Aj (Ar rfl rfl (Dx rfl rfl (AN rfl rfl (Pq rfl rfl ?_)))))))
  replace x3:=x3.st d0
  replace o3:=o3.st d0
  obtain ⟨w9,g0,mD,nD,x9⟩:=BxC.shut (cx:=(⟨69,[(.slice w5 a0.2.t.vars.length x5),(.slice y5 a0.2.t.init.length z5),(.slice a6 a0.2.t.goal.length b6),(.slice c6 a0.2.t.ops.length d6),(.slice e6 a0.2.gens.length f6),(.slice g6 a0.2.nodes.length h6),(.map (some i6))],[(.int .i64 a0.2.number)]⟩:Cx)) (p:=p1) (c0:=.slice q9 a0.2.open_.length r9) (x:=(⟨a0.2.open_⟩:BxR 67 73 OEn)) (l0:=6) (l1:=11) (by decide) x3 o3
  obtain ⟨r0,y9,b0⟩:=bs b0
  refine Fj (O:=w9) (Hp x9 y9) rfl rfl fun xF z9 yF h0 aA=>?_
  obtain ⟨bA,cA⟩:=aA
  obtain ⟨zF,rfl,dA⟩:=cA.any
  obtain ⟨oD,rfl,rfl,aG,bG,l6⟩:=dA
  obtain ⟨m6,cG,i0,pD,e2,a2⟩:=BxC.opn bA 6 11 (by decide)
  obtain ⟨eA,fA,rfl⟩:=a2.form
  replace e2:Lc 6 z9 m6 p1 69 [(.slice w5 a0.2.t.vars.length x5),(.slice y5 a0.2.t.init.length z5),(.slice a6 a0.2.t.goal.length b6),(.slice c6 a0.2.t.ops.length d6),(.slice e6 a0.2.gens.length f6),(.slice g6 a0.2.nodes.length h6),(.map (some i6)),(.slice eA r0.2.l.length fA),(.int .i64 a0.2.number)]:=e2
  refine Ps rfl rfl ?_
  refine Ar rfl rfl (CI rfl rfl rfl (CI rfl rfl rfl (Bh 12 m6 rfl fun p3 dG gA e0 p0=>?_)))
  refine AZ p0 rfl rfl rfl (Bj rfl) (allOne rfl) fun n6 f0 p0=>?_
  replace p0:Lc 12 n6 gA p3 73 [(.int .i64 r0.1.x.cost),(.int .i64 r0.1.x.number),(.int .i64 r0.1.x.node)]:=p0
  refine Au rfl rfl (o_z ?_)
  refine Al (Al ?_)
  obtain ⟨iA,v0,b0⟩:=bs b0
  refine AH (fun l' w'=>∃ (jA:Unit) (O':Lab),subs l' [(2,(.int .i64 x2)),(3,(.pointer (some ⟨i3,0,none⟩))),(6,(.pointer (some ⟨q1,0,none⟩))),(11,(.pointer u2)),(13,(.pointer (some ⟨p1,0,none⟩))),(15,(.int .i64 a0.1)),(16,(.pointer (some ⟨p3,0,none⟩))),(108,(.bool iA))]∧Bs w A w' O'∧Lc 2 w' O' i3 26 [(.slice j2 x0.vars.length k2),(.slice m2 x0.init.length n2),(.slice o2 x0.goal.length p2),(.slice q2 x0.ops.length r2)]∧Vb w' (Fr 0 w' O') (.slice j2 x0.vars.length k2) x0.vars∧Vb w' (Fr 0 w' O') (.slice m2 x0.init.length n2) x0.init∧Vb w' (Fr 0 w' O') (.slice o2 x0.goal.length p2) x0.goal∧Vb w' (Fr 0 w' O') (.slice q2 x0.ops.length r2) x0.ops∧Lc 3 w' O' q1 32 [(.int .i64 0),(.slice none 0 0),(.int .i64 0),(.int .i64 0)]∧Vb w' (Fr 0 w' O') (.pointer u2) n3.1∧Ob 6 w' O' (.pointer (some ⟨p1,0,none⟩)) (⟨(⟨a0.2.t.vars,a0.2.t.init,a0.2.t.goal,a0.2.t.ops⟩:Tsk),a0.2.gens,a0.2.nodes,a0.2.tab,r0.2.l,a0.2.number⟩:Ors)∧Lc 12 w' O' p3 73 [(.int .i64 r0.1.x.cost),(.int .i64 r0.1.x.number),(.int .i64 r0.1.x.node)]) ?_ ?_
  ·
   refine Ce (·=n6) [(0,true),(1,true),(2,true),(3,true),(4,true),(5,true),(6,true),(7,true),(8,true),(9,true),(10,true),(11,true),(12,true),(13,true),(14,true),(15,true),(16,true),(17,true),(18,true),(19,true),(20,true),(21,true),(22,true),(23,true),(24,true),(25,true),(26,true)] (by kernel_rfl) rfl (by kernel_rfl) rfl ?_
   refine AL rfl rfl rfl (Lm rfl rfl rfl (AL rfl rfl rfl (AA rfl (Aw rfl rfl (Cg rfl rfl (AA rfl (Aw rfl rfl (Qs rfl rfl (AA rfl (Aw rfl rfl (BH rfl rfl (AA rfl (Aw rfl rfl ?_)))))))))))))
   replace e2:=(e2.st e0).st f0
   refine Bz (hc:=Blk.cell (i:=5) (e2.1) rfl) rfl rfl ?_
   refine AA rfl (Aw rfl rfl (BH rfl rfl (AA rfl (Aw rfl rfl (Bz (hc:=Blk.cell (i:=2) (p0.1) rfl) rfl rfl ?_)))))
   refine AA rfl (Aw rfl rfl ?_)
   obtain ⟨kA,lA,v0⟩:=bs v0
   obtain ⟨mA,nA⟩:=AW lA
   replace v2:=(((((v2.st d0).st g0).st h0).st i0).st e0).st f0
   obtain ⟨eG,fG,qD,o6,p6,q6,gG,hG,rfl,oA,pA,iG,jG,kG⟩:=v2.elem nA
   obtain ⟨lG,mG,rfl⟩:=oA.form
   obtain ⟨nG,oG,rfl⟩:=pA.form
   refine IC (hA:=o6) (hj:=(Int.toNat_of_nonneg mA).symm) (hlt:=p6) rfl rfl rfl ?_
   refine AA rfl (Aw rfl rfl (BH rfl rfl (AA rfl (Aw rfl rfl (Bz (hc:=cat5 q6) rfl rfl ?_)))))
   refine BN rfl rfl rfl rfl (AL rfl rfl rfl ?_)
   rcases Bool.eq_false_or_eq_true kA.fin with q3|q3
   ·
    try rw [q3]
    replace v0:=ip v0 q3
    refine Bd rfl rfl rfl rfl rfl (Bd rfl rfl rfl rfl rfl (Bd rfl rfl rfl rfl rfl (Bd rfl rfl rfl rfl rfl (Bd rfl rfl rfl rfl rfl (Bd rfl rfl rfl rfl rfl (Bd rfl rfl rfl rfl rfl (Bd rfl rfl rfl rfl rfl (Bd rfl rfl rfl rfl rfl (Bd rfl rfl rfl rfl rfl (Bd rfl rfl rfl rfl rfl (Bd rfl rfl rfl rfl rfl (Cf rfl rfl rfl rfl (h_z ?_)))))))))))))
    replace t1:=(((((t1.st d0).st g0).st h0).st i0).st e0).st f0
    replace u1:=(((((u1.st d0).st g0).st h0).st i0).st e0).st f0
    replace v1:=(((((v1.st d0).st g0).st h0).st i0).st e0).st f0
    replace w1:=(((((w1.st d0).st g0).st h0).st i0).st e0).st f0
    replace y1:=(((((y1.st d0).st g0).st h0).st i0).st e0).st f0
    replace z1:=(((((z1.st d0).st g0).st h0).st i0).st e0).st f0
    replace a2:=(a2.st e0).st f0
    obtain ⟨pG,f2,rD,sD,qA⟩:=Ors.shut (x:=(⟨(⟨a0.2.t.vars,a0.2.t.init,a0.2.t.goal,a0.2.t.ops⟩:Tsk),a0.2.gens,a0.2.nodes,a0.2.tab,r0.2.l,a0.2.number⟩:Ors)) (l0:=6) (l1:=9) (l2:=10) (l3:=11) (by decide) e2 t1 u1 v1 w1 y1 v2 z1 a2 w4
    obtain rfl:=sm v0
    exact ⟨(),_,⟨rfl,rfl,rfl,rfl,rfl,rfl,rfl,rfl,trivial⟩,(((((((hB.st o0).st d0).st g0).st h0).st i0).st e0).st f0).st f2,(((((((t0.st o0).st d0).st g0).st h0).st i0).st e0).st f0).st f2,(((((((h9.st o0).st d0).st g0).st h0).st i0).st e0).st f0).st f2,(((((((w0.st o0).st d0).st g0).st h0).st i0).st e0).st f0).st f2,(((((((y0.st o0).st d0).st g0).st h0).st i0).st e0).st f0).st f2,(((((((z0.st o0).st d0).st g0).st h0).st i0).st e0).st f0).st f2,(((((((j0.st o0).st d0).st g0).st h0).st i0).st e0).st f0).st f2,(((((((u0.st o0).st d0).st g0).st h0).st i0).st e0).st f0).st f2,qA,p0.st f2⟩
   try rw [q3]
   replace v0:=im' v0 q3
   refine AA rfl (Aw rfl rfl (Cg rfl rfl (AA rfl (Aw rfl rfl (Qs rfl rfl (AA rfl (Aw rfl rfl (BH rfl rfl (AA rfl (Aw rfl rfl (Bz (hc:=Blk.cell (i:=5) (e2.1) rfl) rfl rfl ?_)))))))))))
   refine AA rfl (Aw rfl rfl (BH rfl rfl (AA rfl (Aw rfl rfl (Bz (hc:=Blk.cell (i:=2) (p0.1) rfl) rfl rfl ?_)))))
   refine AA rfl (Aw rfl rfl ?_)
   obtain ⟨qG,rA,v0⟩:=bs v0
   obtain ⟨sA,tA⟩:=AW rA
   obtain ⟨rG,sG,tD,r6,s6,t6,tG,uG,rfl,uA,vA,vG,wG,xG⟩:=v2.elem tA
   obtain ⟨yG,zG,rfl⟩:=uA.form
   obtain ⟨aH,bH,rfl⟩:=vA.form
   refine IC (hA:=r6) (hj:=(Int.toNat_of_nonneg sA).symm) (hlt:=s6) rfl rfl rfl ?_
   refine AA rfl (Aw rfl rfl (BH rfl rfl (AA rfl (Aw rfl rfl (Bz (hc:=cat1 t6) rfl rfl ?_)))))
   refine AA rfl (Aw rfl rfl (BH rfl rfl (AA rfl (Aw rfl rfl (Bz (hc:=Blk.cell (i:=0) (p0.1) rfl) rfl rfl ?_)))))
   refine AA rfl (Aw rfl rfl (Bo (fun _ _=>CC rfl rfl) rfl (fun y4=>?_) (fun y4=>?_)))
   ·
    replace v0:=ip v0 y4
    refine BN rfl rfl rfl rfl (h_z ?_)
    replace t1:=(((((t1.st d0).st g0).st h0).st i0).st e0).st f0
    replace u1:=(((((u1.st d0).st g0).st h0).st i0).st e0).st f0
    replace v1:=(((((v1.st d0).st g0).st h0).st i0).st e0).st f0
    replace w1:=(((((w1.st d0).st g0).st h0).st i0).st e0).st f0
    replace y1:=(((((y1.st d0).st g0).st h0).st i0).st e0).st f0
    replace z1:=(((((z1.st d0).st g0).st h0).st i0).st e0).st f0
    replace a2:=(a2.st e0).st f0
    obtain ⟨cH,g2,uD,vD,wA⟩:=Ors.shut (x:=(⟨(⟨a0.2.t.vars,a0.2.t.init,a0.2.t.goal,a0.2.t.ops⟩:Tsk),a0.2.gens,a0.2.nodes,a0.2.tab,r0.2.l,a0.2.number⟩:Ors)) (l0:=6) (l1:=9) (l2:=10) (l3:=11) (by decide) e2 t1 u1 v1 w1 y1 v2 z1 a2 w4
    obtain rfl:=sm v0
    exact ⟨(),_,⟨rfl,rfl,rfl,rfl,rfl,rfl,rfl,rfl,trivial⟩,(((((((hB.st o0).st d0).st g0).st h0).st i0).st e0).st f0).st g2,(((((((t0.st o0).st d0).st g0).st h0).st i0).st e0).st f0).st g2,(((((((h9.st o0).st d0).st g0).st h0).st i0).st e0).st f0).st g2,(((((((w0.st o0).st d0).st g0).st h0).st i0).st e0).st f0).st g2,(((((((y0.st o0).st d0).st g0).st h0).st i0).st e0).st f0).st g2,(((((((z0.st o0).st d0).st g0).st h0).st i0).st e0).st f0).st g2,(((((((j0.st o0).st d0).st g0).st h0).st i0).st e0).st f0).st g2,(((((((u0.st o0).st d0).st g0).st h0).st i0).st e0).st f0).st g2,wA,p0.st g2⟩
   replace v0:=im v0 y4
   refine BN rfl rfl rfl rfl (h_z ?_)
   replace t1:=(((((t1.st d0).st g0).st h0).st i0).st e0).st f0
   replace u1:=(((((u1.st d0).st g0).st h0).st i0).st e0).st f0
   replace v1:=(((((v1.st d0).st g0).st h0).st i0).st e0).st f0
   replace w1:=(((((w1.st d0).st g0).st h0).st i0).st e0).st f0
   replace y1:=(((((y1.st d0).st g0).st h0).st i0).st e0).st f0
   replace z1:=(((((z1.st d0).st g0).st h0).st i0).st e0).st f0
   replace a2:=(a2.st e0).st f0
   obtain ⟨dH,h2,wD,xD,xA⟩:=Ors.shut (x:=(⟨(⟨a0.2.t.vars,a0.2.t.init,a0.2.t.goal,a0.2.t.ops⟩:Tsk),a0.2.gens,a0.2.nodes,a0.2.tab,r0.2.l,a0.2.number⟩:Ors)) (l0:=6) (l1:=9) (l2:=10) (l3:=11) (by decide) e2 t1 u1 v1 w1 y1 v2 z1 a2 w4
   obtain rfl:=sm v0
   exact ⟨(),_,⟨rfl,rfl,rfl,rfl,rfl,rfl,rfl,rfl,trivial⟩,(((((((hB.st o0).st d0).st g0).st h0).st i0).st e0).st f0).st h2,(((((((t0.st o0).st d0).st g0).st h0).st i0).st e0).st f0).st h2,(((((((h9.st o0).st d0).st g0).st h0).st i0).st e0).st f0).st h2,(((((((w0.st o0).st d0).st g0).st h0).st i0).st e0).st f0).st h2,(((((((y0.st o0).st d0).st g0).st h0).st i0).st e0).st f0).st h2,(((((((z0.st o0).st d0).st g0).st h0).st i0).st e0).st f0).st h2,(((((((j0.st o0).st d0).st g0).st h0).st i0).st e0).st f0).st h2,(((((((u0.st o0).st d0).st g0).st h0).st i0).st e0).st f0).st h2,xA,p0.st h2⟩
  replace hB:=((((((hB.st o0).st d0).st g0).st h0).st i0).st e0).st f0
  replace h9:=((((((h9.st o0).st d0).st g0).st h0).st i0).st e0).st f0
  replace w0:=((((((w0.st o0).st d0).st g0).st h0).st i0).st e0).st f0
  replace y0:=((((((y0.st o0).st d0).st g0).st h0).st i0).st e0).st f0
  replace z0:=((((((z0.st o0).st d0).st g0).st h0).st i0).st e0).st f0
  replace t0:=((((((t0.st o0).st d0).st g0).st h0).st i0).st e0).st f0
  replace j0:=((((((j0.st o0).st d0).st g0).st h0).st i0).st e0).st f0
  replace u0:=((((((u0.st o0).st d0).st g0).st h0).st i0).st e0).st f0
  rintro eH fH ⟨jA,gH,u6,hB,t0,h9,w0,y0,z0,j0,u0,w6,p0⟩
  refine AO _ u6 ?_
  refine BK rfl (fun z4=>?_) (fun z4=>?_)
  ·
   replace b0:=ip b0 z4
   refine De ?_
   obtain rfl:=sm b0
   exact show Exists _ from ⟨_,(),rfl,⟨rfl,rfl,rfl,rfl,rfl,rfl,trivial⟩,_,hB,t0,h9,w0,y0,z0,j0,u0,w6,w3⟩
  replace b0:=im' b0 z4
  refine AM (Al ?_)
  obtain ⟨x6,hH,iH,jH,kH,lH,mH,nH,oH,b1,yD,b2,w2,y2,z2,a3,b3,j1,c3,d3,y6⟩:=Ors.opn w6 6 9 10 11 (by decide)
  obtain ⟨pH,qH,rfl⟩:=w2.form
  obtain ⟨rH,sH,rfl⟩:=y2.form
  obtain ⟨tH,uH,rfl⟩:=z2.form
  obtain ⟨vH,wH,rfl⟩:=a3.form
  obtain ⟨xH,yH,rfl⟩:=b3.form
  obtain ⟨zH,aI,rfl⟩:=j1.form
  obtain ⟨bI,rfl⟩:=c3.mptr
  obtain ⟨cI,dI,rfl⟩:=d3.form
  refine Bt [] x6 ?_
  refine AT (fuel:=2) [] [(0,true),(1,true),(2,true),(3,true),(4,true),(5,true),(6,true),(7,true)] (by kernel_rfl) rfl ?_
  refine AL rfl rfl rfl (DA rfl rfl rfl (Bc rfl rfl rfl (AV (hc:=fun w' ⟨O',hq⟩=>Blk.cell (i:=5) ((b2.st hq (by decide)).1) rfl) rfl rfl rfl ?_)))
  refine Bc rfl rfl rfl ?_
  replace p0:=p0.st b1
  refine AV (hc:=fun w' ⟨O',hq⟩=>Blk.cell (i:=2) ((p0.st hq (by decide)).1) rfl) rfl rfl rfl ?_
  obtain ⟨c1,yA,b0⟩:=bs b0
  obtain ⟨zA,aB⟩:=AW yA
  obtain ⟨eI,fI,zD,z6,a7,b7,c7,gI,hI,rfl,k1,e3,bB,iI,jI⟩:=j1.elemF aB
  obtain ⟨a5,b5,rfl⟩:=k1.form
  obtain ⟨c5,d5,rfl⟩:=e3.form
  refine Br (hA:=z6) (hj:=(Int.toNat_of_nonneg zA).symm) (hlt:=b7) rfl rfl rfl rfl ?_
  refine CU (hl:=rfl) (hb:=fun w' ⟨O',hq⟩=>(AR (hq.agree (i:=9) (by decide)) a7 c7)) rfl rfl rfl ?_
  refine AC ?_
  refine AP (i:=8) (by kernel_rfl) rfl ?_
  refine Bh 13 x6 rfl fun e5 kI y3 m0 d1=>?_
  have hZ:=m0.lst [] (fun _ h=>h.elim)
  refine AX [] hZ (by kernel_rfl) ?_
  refine AP (i:=9) (by kernel_rfl) rfl ?_
  refine AZ d1 rfl rfl rfl (Bj rfl) (allOne rfl) fun z3 n0 d1=>?_
  replace d1:Lc 13 z3 y3 e5 78 [(.slice a5 c1.state.length b5),(.int .i64 c1.cost),(.int .i64 c1.parent),(.int .i64 c1.op),(.slice c5 c1.used.length d5),(.bool c1.fin)]:=d1
  refine BZ (by kernel_rfl) ?_
  refine Bn (by kernel_rfl) ?_
  refine Al (Al (Aj (AN rfl rfl ?_)))
  replace t0:=((t0.st b1).st m0).st n0
  refine AG (hc:=Blk.cell (i:=2) (t0.1) rfl) rfl rfl ?_
  refine AN rfl rfl (AG (hc:=Blk.cell (i:=0) (d1.1) rfl) rfl rfl ?_)
  obtain ⟨d7,cB,b0⟩:=bs b0
  replace y0:=((y0.st b1).st m0).st n0
  replace k1:=(k1.st m0).st n0
  refine Bi (O:=y3) (A:=All z3) (R:=fun w' F v=>Vb w' F v d7) (HZ (fun _ h=>h) (Vb.mono (F:=Fr 0 z3 y3) y0 Fr.lt) (Vb.mono (F:=Fr 0 z3 y3) k1 Fr.lt) cB) rfl rfl fun lI mI a4 k0 dB=>?_
  obtain rfl:=dB.bool
  cases d7
  case false =>
   replace b0:=iF b0
   refine o_z ?_
   refine Ae rfl (AM (Al (Al (Aj (Ar rfl rfl (Ar rfl rfl (FK rfl rfl rfl (fun f5=>?_) fun f5=>?_)))))))
   ·
    replace b0:=ip b0 f5
    refine o_z ?_
    refine Ah rfl (Al (Aj (Ar rfl rfl (Dh rfl rfl rfl ?_))))
    replace j0:=(((j0.st b1).st m0).st n0).st k0
    refine AZ j0 rfl rfl rfl (Bj rfl) (allOne rfl) fun e7 eB j0=>?_
    replace j0:Lc 3 e7 a4 q1 32 [(.int .i64 3),(.slice none 0 0),(.int .i64 0),(.int .i64 a0.1)]:=j0
    refine Au rfl rfl (o_z ?_)
    refine AJ ?_
    obtain rfl:=sm b0
    obtain rfl:=i1 _ rfl
    obtain rfl:=sm (BM hm)
    replace hB:=((((hB.st b1).st m0).st n0).st k0).st eB
    exact ret2 rfl (Cm (cs:=[(.int .i64 3),(.slice none 0 0),(.int .i64 0),(.int .i64 a0.1)]) rfl rfl j0.1.cellsAt) (AD rfl) ⟨hB.ext,_,_,rfl,(Vb.mono (F:=Fr 0 e7 a4) (Vb.ofAgg (cs:=[(.int .i64 3),(.slice none 0 0),(.int .i64 0),(.int .i64 a0.1)]) (x:=(⟨3,([]:List Int),0,a0.1⟩:Rsl)) rfl ⟨_,rfl,(Vb.nil _ _),(show inI64 (3) from by decide),(show inI64 0 from by decide),w3⟩) hB.out),(vErr (show inI64 0 from by decide))⟩
   replace b0:=im b0 f5
   refine o_z ?_
   refine Ae rfl (AM (Al (Aj (Ar rfl rfl ?_))))
   obtain ⟨f7,g7,b0⟩:=bs b0
   have fB:=(Co g7)
   refine Gk (he:=g7) rfl rfl rfl ?_
   refine Au rfl rfl (o_z ?_)
   refine Al (Bt [] a4 ?_)
   refine AT (fuel:=1) [] [(0,true),(1,true),(2,true),(3,true),(4,true),(5,true),(6,true),(7,true)] (by kernel_rfl) rfl ?_
   refine AL rfl rfl rfl (DA rfl rfl rfl (Bc rfl rfl rfl ?_))
   replace b2:=((b2.st m0).st n0).st k0
   refine AV (hc:=fun w' ⟨O',hq⟩=>Blk.cell (i:=5) ((b2.st hq (by decide)).1) rfl) rfl rfl rfl ?_
   refine Bc rfl rfl rfl ?_
   replace p0:=((p0.st m0).st n0).st k0
   refine AV (hc:=fun w' ⟨O',hq⟩=>Blk.cell (i:=2) ((p0.st hq (by decide)).1) rfl) rfl rfl rfl ?_
   obtain ⟨b4,gB,b0⟩:=bs b0
   obtain ⟨iB,h7⟩:=AW gB
   replace j1:=((j1.st m0).st n0).st k0
   obtain ⟨nI,oI,aE,j4,bE,i7,cE,pI,qI,rfl,jB,kB,rI,sI,tI⟩:=j1.elemF h7
   obtain ⟨uI,vI,rfl⟩:=jB.form
   obtain ⟨wI,xI,rfl⟩:=kB.form
   refine Br (hA:=j4) (hj:=(Int.toNat_of_nonneg iB).symm) (hlt:=i7) rfl rfl rfl rfl ?_
   refine Bc rfl rfl rfl (AC ?_)
   refine AP (i:=8) (by kernel_rfl) rfl ?_
   refine Nv (a:=b4) (a':=({ b4 with fin:=true }:ONd)) (off:=5) j1 j4 h7 rfl rfl rfl (Nat.le_of_ble_eq_true rfl) (by first|exact allOne rfl|simp [Value.cells,Value.oneCell',Lo]) (by rintro ce ⟨yI,zI,rfl,lB,mB,nB,oB,pB⟩;exact ⟨_,_,rfl,lB,mB,nB,oB,pB⟩) fun aJ s0 j1=>?_
   refine BZ (by kernel_rfl) ?_
   refine Bn (by kernel_rfl) ?_
   refine Al (Aj (Ar rfl rfl (AN rfl rfl ?_)))
   replace d1:=(d1.st k0).st s0
   refine AG (hc:=Blk.cell (i:=0) (d1.1) rfl) rfl rfl ?_
   obtain ⟨f3,qB,b0⟩:=bs b0
   replace u0:=((((u0.st b1).st m0).st n0).st k0).st s0
   replace k1:=(k1.st k0).st s0
   refine Bq (O:=a4) (R:=fun w' F v=>Vb w' F v f3) (Fv Fr.lt u0 k1 qB) rfl rfl fun bJ cJ dJ q0 c2=>?_
   obtain ⟨j7,k7,rfl⟩:=c2.form
   refine AY rfl rfl ?_
   have g5:f3.length≤9223372036854775807:=Nat.le_trans c2.len.2.1 c2.len.2.2
   have eJ:inI64 (f3.length:Int):=rngNat g5
   refine Ar rfl rfl (o_z ?_)
   replace b2:=(b2.st s0).st q0
   replace w2:=((((w2.st m0).st n0).st k0).st s0).st q0
   replace y2:=((((y2.st m0).st n0).st k0).st s0).st q0
   replace z2:=((((z2.st m0).st n0).st k0).st s0).st q0
   replace a3:=((((a3.st m0).st n0).st k0).st s0).st q0
   replace b3:=((((b3.st m0).st n0).st k0).st s0).st q0
   replace j1:=j1.st q0
   replace c3:=((((c3.st m0).st n0).st k0).st s0).st q0
   replace d3:=((((d3.st m0).st n0).st k0).st s0).st q0
   obtain ⟨rB,a1,dE,eE,sB⟩:=Ors.shut (x:=(⟨(⟨(⟨(⟨a0.2.t.vars,a0.2.t.init,a0.2.t.goal,a0.2.t.ops⟩:Tsk),a0.2.gens,a0.2.nodes,a0.2.tab,r0.2.l,a0.2.number⟩:Ors).t.vars,(⟨(⟨a0.2.t.vars,a0.2.t.init,a0.2.t.goal,a0.2.t.ops⟩:Tsk),a0.2.gens,a0.2.nodes,a0.2.tab,r0.2.l,a0.2.number⟩:Ors).t.init,(⟨(⟨a0.2.t.vars,a0.2.t.init,a0.2.t.goal,a0.2.t.ops⟩:Tsk),a0.2.gens,a0.2.nodes,a0.2.tab,r0.2.l,a0.2.number⟩:Ors).t.goal,(⟨(⟨a0.2.t.vars,a0.2.t.init,a0.2.t.goal,a0.2.t.ops⟩:Tsk),a0.2.gens,a0.2.nodes,a0.2.tab,r0.2.l,a0.2.number⟩:Ors).t.ops⟩:Tsk),(⟨(⟨a0.2.t.vars,a0.2.t.init,a0.2.t.goal,a0.2.t.ops⟩:Tsk),a0.2.gens,a0.2.nodes,a0.2.tab,r0.2.l,a0.2.number⟩:Ors).gens,(((⟨(⟨a0.2.t.vars,a0.2.t.init,a0.2.t.goal,a0.2.t.ops⟩:Tsk),a0.2.gens,a0.2.nodes,a0.2.tab,r0.2.l,a0.2.number⟩:Ors).nodes).set (r0.1.x.node:Int).toNat ({ b4 with fin:=true }:ONd)),(⟨(⟨a0.2.t.vars,a0.2.t.init,a0.2.t.goal,a0.2.t.ops⟩:Tsk),a0.2.gens,a0.2.nodes,a0.2.tab,r0.2.l,a0.2.number⟩:Ors).tab,(⟨(⟨a0.2.t.vars,a0.2.t.init,a0.2.t.goal,a0.2.t.ops⟩:Tsk),a0.2.gens,a0.2.nodes,a0.2.tab,r0.2.l,a0.2.number⟩:Ors).open_,(⟨(⟨a0.2.t.vars,a0.2.t.init,a0.2.t.goal,a0.2.t.ops⟩:Tsk),a0.2.gens,a0.2.nodes,a0.2.tab,r0.2.l,a0.2.number⟩:Ors).number⟩:Ors)) (l0:=6) (l1:=9) (l2:=10) (l3:=11) (by decide) (by have q:=b2;rw [← ((by simp:(((⟨(⟨a0.2.t.vars,a0.2.t.init,a0.2.t.goal,a0.2.t.ops⟩:Tsk),a0.2.gens,a0.2.nodes,a0.2.tab,r0.2.l,a0.2.number⟩:Ors).nodes).set (r0.1.x.node:Int).toNat ({ b4 with fin:=true }:ONd)).length=((⟨(⟨a0.2.t.vars,a0.2.t.init,a0.2.t.goal,a0.2.t.ops⟩:Tsk),a0.2.gens,a0.2.nodes,a0.2.tab,r0.2.l,a0.2.number⟩:Ors).nodes).length).trans rfl)] at q;exact q) w2 y2 z2 a3 b3 j1.relen c3 d3 y6
   obtain ⟨h5,l7,b0⟩:=bs b0
   refine AH (aft h5 (fun (m3:Ors) (c4:Unit)=>[(2,(.int .i64 x2)),(3,(.pointer (some ⟨i3,0,none⟩))),(6,(.pointer (some ⟨q1,0,none⟩))),(11,(.pointer u2)),(13,(.pointer (some ⟨p1,0,none⟩))),(15,(.int .i64 f7))]) (fun m3 c4 w'=>∃ O':Lab,Bs w A w' O'∧Lc 2 w' O' i3 26 [(.slice j2 x0.vars.length k2),(.slice m2 x0.init.length n2),(.slice o2 x0.goal.length p2),(.slice q2 x0.ops.length r2)]∧Vb w' (Fr 0 w' O') (.slice j2 x0.vars.length k2) x0.vars∧Vb w' (Fr 0 w' O') (.slice m2 x0.init.length n2) x0.init∧Vb w' (Fr 0 w' O') (.slice o2 x0.goal.length p2) x0.goal∧Vb w' (Fr 0 w' O') (.slice q2 x0.ops.length r2) x0.ops∧Lc 3 w' O' q1 32 [(.int .i64 0),(.slice none 0 0),(.int .i64 0),(.int .i64 0)]∧Vb w' (Fr 0 w' O') (.pointer u2) n3.1∧Ob 6 w' O' (.pointer (some ⟨p1,0,none⟩)) m3)) ?_ ?_
   ·
    refine AU ?_
    replace hB:=((((((hB.st b1).st m0).st n0).st k0).st s0).st q0).st a1
    replace h9:=((((((h9.st b1).st m0).st n0).st k0).st s0).st q0).st a1
    replace w0:=((((((w0.st b1).st m0).st n0).st k0).st s0).st q0).st a1
    replace y0:=(((y0.st k0).st s0).st q0).st a1
    replace z0:=((((((z0.st b1).st m0).st n0).st k0).st s0).st q0).st a1
    replace t0:=(((t0.st k0).st s0).st q0).st a1
    replace j0:=((((((j0.st b1).st m0).st n0).st k0).st s0).st q0).st a1
    replace u0:=(u0.st q0).st a1
    replace p0:=((p0.st s0).st q0).st a1
    replace k1:=(k1.st q0).st a1
    replace e3:=(((((e3.st m0).st n0).st k0).st s0).st q0).st a1
    replace d1:=(d1.st q0).st a1
    replace c2:=c2.st a1
    refine Bu (σ:=Ors) (X:=Unit) (f3.length) l7 rfl g5 (fun (m3:Ors) (c4:Unit)=>[(2,(.int .i64 x2)),(3,(.pointer (some ⟨i3,0,none⟩))),(6,(.pointer (some ⟨q1,0,none⟩))),(11,(.pointer u2)),(13,(.pointer (some ⟨p1,0,none⟩))),(15,(.int .i64 f7)),(16,(.pointer (some ⟨p3,0,none⟩))),(18,(.pointer (some ⟨e5,0,none⟩))),(156,(.slice j7 f3.length k7))]) _ (fun m3 c4 w'=>∃ O':Lab,Bs w A w' O'∧Lc 2 w' O' i3 26 [(.slice j2 x0.vars.length k2),(.slice m2 x0.init.length n2),(.slice o2 x0.goal.length p2),(.slice q2 x0.ops.length r2)]∧Vb w' (Fr 0 w' O') (.slice j2 x0.vars.length k2) x0.vars∧Vb w' (Fr 0 w' O') (.slice m2 x0.init.length n2) x0.init∧Vb w' (Fr 0 w' O') (.slice o2 x0.goal.length p2) x0.goal∧Vb w' (Fr 0 w' O') (.slice q2 x0.ops.length r2) x0.ops∧Lc 3 w' O' q1 32 [(.int .i64 0),(.slice none 0 0),(.int .i64 0),(.int .i64 0)]∧Vb w' (Fr 0 w' O') (.pointer u2) n3.1∧Ob 6 w' O' (.pointer (some ⟨p1,0,none⟩)) m3∧Lc 12 w' O' p3 73 [(.int .i64 r0.1.x.cost),(.int .i64 r0.1.x.number),(.int .i64 r0.1.x.node)]∧Lc 13 w' O' e5 78 [(.slice a5 c1.state.length b5),(.int .i64 c1.cost),(.int .i64 c1.parent),(.int .i64 c1.op),(.slice c5 c1.used.length d5),(.bool c1.fin)]∧Vb w' (Fr 0 w' O') (.slice a5 c1.state.length b5) c1.state∧Vb w' (Fr 0 w' O') (.slice c5 c1.used.length d5) c1.used∧Vb w' (Fr 0 w' O') (.slice j7 f3.length k7) f3) _ () ⟨rB,hB,t0,h9,w0,y0,z0,j0,u0,sB,p0,d1,k1,e3,c2⟩ ⟨rfl,rfl,rfl,rfl,rfl,rfl,rfl,rfl,rfl,rfl,rfl,trivial⟩ (fun _ _=>⟨rfl,rfl⟩) (fun _ _=>⟨rfl,rfl,rfl,rfl,rfl,rfl,trivial⟩) (fun _ _ _ ⟨O',hB,t0,h9,w0,y0,z0,j0,u0,g3,p0,d1,k1,e3,c2⟩=>⟨O',hB,t0,h9,w0,y0,z0,j0,u0,g3⟩) ⟨rfl,rfl,rfl⟩ ⟨rfl,rfl⟩ ?_
    rintro tB m7 m3 c4 fJ fE k4 ⟨uB,hB,t0,h9,w0,y0,z0,j0,u0,g3,p0,d1,k1,e3,c2⟩ e1 d4 j8
    have rk460:inI64 (tB:Int):=rngK k4 g5
    refine Al (Aj ?_)
    obtain ⟨gJ,hJ,gE,n7,o7,p7,iJ,rfl,e4,vB⟩:=c2.elem' k4
    obtain ⟨wB,xB,rfl⟩:=e4.form
    refine Bv (hA:=n7) (hj:=rfl) (hlt:=o7) rfl rfl rfl ?_
    refine Bk (hl:=rfl) (hc:=p7) rfl rfl ?_
    refine Bh 14 uB rfl fun yB jJ i5 f1 h3=>?_
    refine AZ h3 rfl rfl rfl (Bj rfl) (allOne rfl) fun zB g1 h3=>?_
    replace h3:Lc 14 zB i5 yB 85 [(.int .i64 m7.op),(.slice wB m7.state.length xB)]:=h3
    refine o_z ?_
    refine Al (Bt [(17,[6])] i5 ?_)
    refine AT (fuel:=2) [] [(0,true),(1,true),(2,true),(3,true),(4,true),(5,true),(6,true),(7,true),(8,true),(9,true),(10,true),(11,true),(12,true),(13,true),(14,true),(15,true),(16,true)] (by kernel_rfl) rfl ?_
    refine AL rfl rfl rfl (Bc rfl rfl rfl (AV (hc:=fun w' ⟨O',hq⟩=>Blk.cell (i:=1) ((h3.st hq (by decide)).1) rfl) rfl rfl rfl ?_))
    refine Bc rfl rfl rfl ?_
    replace d1:=(d1.st f1).st g1
    refine AV (hc:=fun w' ⟨O',hq⟩=>Blk.cell (i:=1) ((d1.st hq (by decide)).1) rfl) rfl rfl rfl ?_
    refine Bc rfl rfl rfl ?_
    replace t0:=(t0.st f1).st g1
    refine AV (hc:=fun w' ⟨O',hq⟩=>Blk.cell (i:=3) ((t0.st hq (by decide)).1) rfl) rfl rfl rfl ?_
    refine Bc rfl rfl rfl (AV (hc:=fun w' ⟨O',hq⟩=>Blk.cell (i:=0) ((h3.st hq (by decide)).1) rfl) rfl rfl rfl ?_)
    obtain ⟨kJ,aC,e1⟩:=bs e1
    obtain ⟨bC,cC⟩:=AW aC
    replace z0:=(z0.st f1).st g1
    obtain ⟨lJ,mJ,iE,q7,r7,s7,t7,nJ,oJ,rfl,dC,eC,pJ,qJ⟩:=z0.elem cC
    obtain ⟨rJ,sJ,rfl⟩:=dC.form
    obtain ⟨tJ,uJ,rfl⟩:=eC.form
    refine Br (hA:=q7) (hj:=(Int.toNat_of_nonneg bC).symm) (hlt:=s7) rfl rfl rfl rfl ?_
    refine Bc rfl rfl rfl (AV (hc:=fun w' ⟨O',hq⟩=>cat1 (AR (hq.agree (i:=0) (by decide)) r7 t7)) rfl rfl rfl ?_)
    obtain ⟨vJ,u7,e1⟩:=bs e1
    have fC:=(Co u7)
    refine Pp (he:=u7) rfl rfl rfl rfl ?_
    refine Bc rfl rfl rfl ?_
    replace p0:=(p0.st f1).st g1
    refine AV (hc:=fun w' ⟨O',hq⟩=>Blk.cell (i:=2) ((p0.st hq (by decide)).1) rfl) rfl rfl rfl ?_
    refine Bc rfl rfl rfl (AV (hc:=fun w' ⟨O',hq⟩=>Blk.cell (i:=0) ((h3.st hq (by decide)).1) rfl) rfl rfl rfl ?_)
    refine AC ?_
    refine AP (i:=17) (by kernel_rfl) rfl ?_
    obtain ⟨wJ,gC,e1⟩:=bs e1
    replace g3:=(g3.st f1).st g1
    replace e4:=(e4.st f1).st g1
    refine Fj (O:=i5) (FV g3 e4 fC l6 vB gC) rfl rfl fun xJ yJ w7 h1 hC=>?_
    obtain ⟨iC,jC⟩:=hC
    obtain ⟨rfl,kC⟩:=jC.err
    have hZ:=h1.lst [6] (fun _ h=>by cases h;decide)
    refine AX [] hZ (by kernel_rfl) ?_
    refine AT (fuel:=0) [] [(18,true)] (by kernel_rfl) rfl ?_
    refine Ef rfl rfl rfl (AC ?_)
    refine Bn (by kernel_rfl) ?_
    refine Al (Aj (Ar rfl rfl (Eq rfl rfl (fun j5=>?_) fun j5=>?_)))
    ·
     replace e1:=ip e1 j5
     refine o_z ?_
     refine Ah rfl (Al (Aj (Dh rfl rfl rfl ?_)))
     refine Ar rfl rfl ?_
     replace j0:=((j0.st f1).st g1).st h1
     refine AZ j0 rfl rfl rfl (Bj rfl) (allOne rfl) fun x7 lC j0=>?_
     replace j0:Lc 3 x7 w7 q1 32 [(.int .i64 0),(.slice none 0 0),(.int .i64 0),(.int .i64 0)]:=j0
     refine Au rfl rfl (o_z ?_)
     refine AJ ?_
     obtain rfl:=sm e1
     obtain rfl:=d4 _ rfl
     obtain rfl:=sm (BM b0)
     obtain rfl:=i1 _ rfl
     obtain rfl:=sm (BM hm)
     replace hB:=(((hB.st f1).st g1).st h1).st lC
     exact ret2 rfl (Cm (cs:=[(.int .i64 0),(.slice none 0 0),(.int .i64 0),(.int .i64 0)]) rfl rfl j0.1.cellsAt) (AD rfl) ⟨hB.ext,_,_,rfl,(Vb.mono (F:=Fr 0 x7 w7) (Vb.ofAgg (cs:=[(.int .i64 0),(.slice none 0 0),(.int .i64 0),(.int .i64 0)]) (x:=(⟨0,([]:List Int),0,0⟩:Rsl)) rfl ⟨_,rfl,(Vb.nil _ _),(show inI64 0 from by decide),(show inI64 0 from by decide),(show inI64 0 from by decide)⟩) hB.out),(vErr kC)⟩
    replace e1:=im e1 j5
    refine o_z ?_
    refine Ae rfl (AM ?_)
    obtain rfl:=sm e1
    exact show Exists _ from ⟨_,(),rfl,⟨rfl,rfl,rfl,rfl,rfl,rfl,rfl,rfl,rfl,rfl,rfl,trivial⟩,_,((hB.st f1).st g1).st h1,t0.st h1,((h9.st f1).st g1).st h1,((w0.st f1).st g1).st h1,((y0.st f1).st g1).st h1,z0.st h1,((j0.st f1).st g1).st h1,((u0.st f1).st g1).st h1,iC,p0.st h1,d1.st h1,((k1.st f1).st g1).st h1,((e3.st f1).st g1).st h1,((c2.st f1).st g1).st h1⟩
   replace hB:=((((((hB.st b1).st m0).st n0).st k0).st s0).st q0).st a1
   replace h9:=((((((h9.st b1).st m0).st n0).st k0).st s0).st q0).st a1
   replace w0:=((((((w0.st b1).st m0).st n0).st k0).st s0).st q0).st a1
   replace y0:=(((y0.st k0).st s0).st q0).st a1
   replace z0:=((((((z0.st b1).st m0).st n0).st k0).st s0).st q0).st a1
   replace t0:=(((t0.st k0).st s0).st q0).st a1
   replace j0:=((((((j0.st b1).st m0).st n0).st k0).st s0).st q0).st a1
   replace u0:=(u0.st q0).st a1
   rintro zJ aK ⟨bK,cK,rfl,d2,dK,hB,t0,h9,w0,y0,z0,j0,u0,g3⟩
   replace b0:=Be b0
   obtain rfl:=sm b0
   exact show Exists _ from ⟨_,(),rfl,⟨(BX d2 _ _ rfl),(BX d2 _ _ rfl),(BX d2 _ _ rfl),(BX d2 _ _ rfl),(BX d2 _ _ rfl),(BX d2 _ _ rfl),trivial⟩,_,hB,t0,h9,w0,y0,z0,j0,u0,g3,fB⟩
  replace b0:=iT b0
  refine o_z ?_
  refine Ah rfl (Al (Aj (Ar rfl rfl (AN rfl rfl ?_))))
  replace p0:=((p0.st m0).st n0).st k0
  refine AG (hc:=Blk.cell (i:=2) (p0.1) rfl) rfl rfl ?_
  replace b2:=((b2.st m0).st n0).st k0
  replace w2:=((w2.st m0).st n0).st k0
  replace y2:=((y2.st m0).st n0).st k0
  replace z2:=((z2.st m0).st n0).st k0
  replace a3:=((a3.st m0).st n0).st k0
  replace b3:=((b3.st m0).st n0).st k0
  replace j1:=((j1.st m0).st n0).st k0
  replace c3:=((c3.st m0).st n0).st k0
  replace d3:=((d3.st m0).st n0).st k0
  obtain ⟨mC,r3,jE,kE,nC⟩:=Ors.shut (x:=(⟨(⟨a0.2.t.vars,a0.2.t.init,a0.2.t.goal,a0.2.t.ops⟩:Tsk),a0.2.gens,a0.2.nodes,a0.2.tab,r0.2.l,a0.2.number⟩:Ors)) (l0:=6) (l1:=9) (l2:=10) (l3:=11) (by decide) b2 w2 y2 z2 a3 b3 j1 c3 d3 y6
  obtain ⟨f4,oC,b0⟩:=bs b0
  refine Fj (O:=mC) (HQ nC l6 oC) rfl rfl fun eK fK g4 s3 pC=>?_
  obtain ⟨gK,hK,iK,rfl,h4,qC⟩:=pC
  obtain ⟨k5,l5,rfl⟩:=h4.form
  obtain ⟨rfl,rC⟩:=qC.err
  refine Ar rfl rfl (CI rfl rfl rfl (CI rfl rfl rfl (Au rfl rfl (Au rfl rfl (o_z ?_)))))
  refine Al (Al (Aj (Ar rfl rfl (Eq rfl rfl (fun m5=>?_) fun m5=>?_))))
  ·
   replace b0:=ip b0 m5
   refine o_z ?_
   refine Ah rfl (Al (Aj (Dh rfl rfl rfl ?_)))
   refine Ar rfl rfl ?_
   replace j0:=(((((j0.st b1).st m0).st n0).st k0).st r3).st s3
   refine AZ j0 rfl rfl rfl (Bj rfl) (allOne rfl) fun y7 sC j0=>?_
   replace j0:Lc 3 y7 g4 q1 32 [(.int .i64 0),(.slice none 0 0),(.int .i64 0),(.int .i64 0)]:=j0
   refine Au rfl rfl (o_z ?_)
   refine AJ ?_
   obtain rfl:=sm b0
   obtain rfl:=i1 _ rfl
   obtain rfl:=sm (BM hm)
   replace hB:=((((((hB.st b1).st m0).st n0).st k0).st r3).st s3).st sC
   exact ret2 rfl (Cm (cs:=[(.int .i64 0),(.slice none 0 0),(.int .i64 0),(.int .i64 0)]) rfl rfl j0.1.cellsAt) (AD rfl) ⟨hB.ext,_,_,rfl,(Vb.mono (F:=Fr 0 y7 g4) (Vb.ofAgg (cs:=[(.int .i64 0),(.slice none 0 0),(.int .i64 0),(.int .i64 0)]) (x:=(⟨0,([]:List Int),0,0⟩:Rsl)) rfl ⟨_,rfl,(Vb.nil _ _),(show inI64 0 from by decide),(show inI64 0 from by decide),(show inI64 0 from by decide)⟩) hB.out),(vErr rC)⟩
  replace b0:=im b0 m5
  refine o_z ?_
  refine Ae rfl (AM (Al (Aj (Ar rfl rfl (AN rfl rfl ?_)))))
  replace d1:=((d1.st k0).st r3).st s3
  refine AG (hc:=Blk.cell (i:=1) (d1.1) rfl) rfl rfl ?_
  refine Ar rfl rfl (Dh rfl rfl rfl ?_)
  replace j0:=(((((j0.st b1).st m0).st n0).st k0).st r3).st s3
  refine AZ j0 rfl rfl rfl (Bj rfl) (allOne rfl) fun z7 a8 j0=>?_
  replace j0:Lc 3 z7 g4 q1 32 [(.int .i64 1),(.slice k5 f4.1.length l5),(.int .i64 c1.cost),(.int .i64 a0.1)]:=j0
  refine Au rfl rfl (o_z ?_)
  refine AJ ?_
  obtain rfl:=sm b0
  obtain rfl:=i1 _ rfl
  obtain rfl:=sm (BM hm)
  replace hB:=((((((hB.st b1).st m0).st n0).st k0).st r3).st s3).st a8
  replace h4:=h4.st a8
  exact ret2 rfl (Cm (cs:=[(.int .i64 1),(.slice k5 f4.1.length l5),(.int .i64 c1.cost),(.int .i64 a0.1)]) rfl rfl j0.1.cellsAt) (AD rfl) ⟨hB.ext,_,_,rfl,(Vb.mono (F:=Fr 0 z7 g4) (Vb.ofAgg (cs:=[(.int .i64 1),(.slice k5 f4.1.length l5),(.int .i64 c1.cost),(.int .i64 a0.1)]) (x:=(⟨1,f4.1,c1.cost,a0.1⟩:Rsl)) rfl ⟨_,rfl,h4,(show inI64 (1) from by decide),bB,w3⟩) hB.out),(vErr (show inI64 0 from by decide))⟩
 rintro jK kK ⟨lK,mK,_,_,hE⟩
 exact hE.elim
end
section
open Go Go.RowKit
inductive PlanR (t:Tsk):List Int→List Int→List Int→Int→Prop
  | nil {s:List Int}:PlanR t s [] s 0
  | cons {s rest s':List Int} {k:Nat} {o:Opr} {C:Int}:t.ops[k]?=some o→holdsB o.pre s=true→PlanR t (succ o s) rest s' C→PlanR t s ((k:Int) :: rest) s' (o.cost + C)
theorem NO (f:List Fct) (s:List Int):Eh f s=some (holdsB f s):=rfl
end
section
section
variable {α σ ρ β : Type}
theorem MH {f:σ→Option (Ctl σ ρ)} (I:σ→Prop) (B:σ→Prop) (R:ρ→Prop) (μ:σ→Nat) (h:∀ s,I s→(∃ s',f s=some (.next s')∧I s'∧μ s' < μ s)∨(∃ s',f s=some (.brk s')∧B s')∨∃ r,f s=some (.ret r)∧R r) :
    ∀ s,I s→(∃ s',lop f s=some (.done s')∧B s')∨∃ r,lop f s=some (.ret r)∧R r:=by
  have key:∀ (n:Nat) s,I s→μ s < n→(∃ s',lop f s=some (.done s')∧B s')∨∃ r,lop f s=some (.ret r)∧R r:=by
    intro n
    induction n with
    | zero=>intro s _ hn;omega
    | succ n ih =>
      intro s hI hn
      rw [Db]
      rcases h s hI with ⟨s',h1,h2,h3⟩|⟨s',h1,h2⟩|⟨r,h1,h2⟩
      · rw [h1];exact ih s' h2 (by omega)
      · rw [h1];exact .inl ⟨s',rfl,h2⟩
      · rw [h1];exact .inr ⟨r,rfl,h2⟩
  exact fun s hI=>key (μ s + 1) s hI (by omega)
theorem LK {f:σ→Option (Ctl σ ρ)} {s₀:σ} {k:Fin σ ρ→Option β} {P:β→Prop} (I:σ→Prop) (B:σ→Prop) (R:ρ→Prop) (μ:σ→Nat) (h0:I s₀)
    (h:∀ s,I s→(∃ s',f s=some (.next s')∧I s'∧μ s' < μ s)∨(∃ s',f s=some (.brk s')∧B s')∨∃ r,f s=some (.ret r)∧R r)
    (hb:∀ s,B s→∃ r,k (.done s)=some r∧P r) (hr:∀ q,R q→∃ r,k (.ret q)=some r∧P r):∃ r,bnd (lop f s₀) k=some r∧P r:=by
  rcases MH I B R μ h s₀ h0 with ⟨s,h1,h2⟩|⟨q,h1,h2⟩
  · rw [h1,Am];exact hb s h2
  · rw [h1,Am];exact hr q h2
theorem PL {f:σ→Option (Ctl σ ρ)} {s₀:σ} {k:Fin σ ρ→Option β} {r:Option β} (I:σ→Prop) (B:σ→Prop) (μ:σ→Nat) (h0:I s₀)
    (h:∀ s,I s→(∃ s',f s=some (.next s')∧I s'∧μ s' < μ s)∨(∃ s',f s=some (.brk s')∧B s')) (hb:∀ s,B s→k (.done s)=r):bnd (lop f s₀) k=r:=by
  rcases MH I B (fun _=>False) μ (fun s hI=>(h s hI).imp id .inl) s₀ h0 with ⟨s,h1,h2⟩|⟨q,_,h2⟩
  · rw [h1,Am];exact hb s h2
  · exact h2.elim
theorem Ik {f:Nat→α→σ→Option (Ctl σ ρ)} {xs:List α} {s₀:σ} {k:Fin σ ρ→Option β} {P:β→Prop} (I:Nat→σ→Prop) (R:ρ→Prop) (h0:I 0 s₀)
    (h:∀ i x s,xs[i]?=some x→I i s→(∃ s',f i x s=some (.next s')∧I (i + 1) s')∨∃ q,f i x s=some (.ret q)∧R q)
    (hb:∀ s,I xs.length s→∃ r,k (.done s)=some r∧P r) (hr:∀ q,R q→∃ r,k (.ret q)=some r∧P r):∃ r,bnd (rng f xs 0 s₀) k=some r∧P r:=by
  have key:∀ (ys:List α) (j:Nat) (s:σ),(∀ i,ys[i]?=xs[j + i]?)→j + ys.length=xs.length→I j s→∃ r,bnd (rng f ys j s) k=some r∧P r:=by
    intro ys
    induction ys with
    | nil=>intro j s _ hl hI;exact hb s (by simp at hl;rw [← hl];exact hI)
    | cons y ys ih =>
      intro j s hg hl hI
      have hy:xs[j]?=some y:=by have:=hg 0;simpa using this.symm
      simp only [rng]
      rcases h j y s hy hI with ⟨s',h1,h2⟩|⟨q,h1,h2⟩
      · rw [h1]
        exact ih (j + 1) s' (fun i=>by have:=hg (i + 1);rw [show j + 1 + i=j + (i + 1) from by omega,← this];simp) (by simp at hl;omega) h2
      · rw [h1,Am];exact hr q h2
  exact key xs 0 s₀ (fun i=>by rw [Nat.zero_add]) (by omega) h0
theorem PM {f:Nat→α→σ→Option (Ctl σ ρ)} {xs:List α} {s₀:σ} {k:Fin σ ρ→Option β} {r:Option β} (I:Nat→σ→Prop) (h0:I 0 s₀)
    (h:∀ i x s,xs[i]?=some x→I i s→∃ s',f i x s=some (.next s')∧I (i + 1) s') (hb:∀ s,I xs.length s→k (.done s)=r):bnd (rng f xs 0 s₀) k=r:=by
  obtain ⟨s,h1,h2⟩:=DE I h0 h
  rw [h1,Am]
  exact hb s h2
end
end
section
open Go Go.RowKit
inductive Walk (t:Tsk):List Int→Int→Prop
  | goal {s:List Int}:holdsB t.goal s=true→Walk t s 0
  | step {s:List Int} {k:Nat} {o:Opr} {c:Int}:t.ops[k]?=some o→holdsB o.pre s=true→Walk t (succ o s) c→Walk t s (c + o.cost)
theorem OH {α:Type} {l:List α} {k:Nat} {x y:α} (h:l[k]?=some x):y∈l.take (k + 1)↔y∈l.take k∨y=x:=by
  rw [List.take_add_one,h,List.mem_append];simp
end
section
open Go Go.RowKit
structure QEn where
  key:Int
  tie:Int
  item:Int
  number:Int
theorem KA {α:Type} {l:List α} {m i:Nat} {x:α} (h:(l.take m)[i]?=some x):l[i]?=some x:=by
  by_cases hi:i < m
  · rwa [List.getElem?_take_of_lt hi] at h
  · rw [List.getElem?_take_eq_none (by omega)] at h;cases h
def bfr (x y:QEn):Prop:=x.key < y.key∨(x.key=y.key∧(x.tie < y.tie∨(x.tie=y.tie∧x.number < y.number)))
instance (x y:QEn):Decidable (bfr x y):=by unfold bfr;infer_instance
def nb (x y:QEn):Prop:=¬ bfr x y
theorem Hv {x y z:QEn} (h1:nb x y) (h2:nb y z):nb x z:=by unfold nb bfr at *;omega
theorem KY {x y:QEn} (h:bfr x y):nb y x:=by unfold nb bfr at *;omega
theorem JS (x:QEn):nb x x:=by unfold nb bfr;omega
theorem NP {x y:QEn} (h:nb x y):y.key≤x.key:=by unfold nb bfr at h;omega
def HeapOk (l:List QEn):Prop:=∀ (j:Nat) x y,0 < j→l[j]?=some x→l[(j - 1) / 2]?=some y→nb x y
def Over (l:List QEn) (i:Nat):Prop:=∀ (j:Nat) x y,0 < i→0 < j→(j - 1) / 2=i→l[j]?=some x→l[(i - 1) / 2]?=some y→nb x y
def UpI (l:List QEn) (i:Nat):Prop:=(∀ (j:Nat) x y,0 < j→j≠i→l[j]?=some x→l[(j - 1) / 2]?=some y→nb x y)∧Over l i
def DownI (l:List QEn) (i:Nat):Prop:=(∀ (j:Nat) x y,0 < j→(j - 1) / 2≠i→l[j]?=some x→l[(j - 1) / 2]?=some y→nb x y)∧Over l i
theorem Hh {l:List QEn} {i j:Nat} {a b:QEn} (hi:l[i]?=some a) (hj:l[j]?=some b) (hne:i≠j) (k:Nat):((l.set i b).set j a)[k]?=if k=j then some a else if k=i then some b else l[k]?:=by
  by_cases h1:k=j
  · subst h1;rw [if_pos rfl,List.getElem?_set_self (by simpa using AE hj)]
  · rw [if_neg h1,List.getElem?_set_ne (by omega)]
    by_cases h2:k=i
    · subst h2;rw [if_pos rfl,List.getElem?_set_self (AE hi)]
    · rw [if_neg h2,List.getElem?_set_ne (by omega)]
theorem LL {l:List QEn} {i j:Nat} {a b:QEn} (hi:l[i]?=some a) (hj:l[j]?=some b):((l.set i b).set j a).Perm l:=by
  have h1:=AE hi
  have h2:=AE hj
  have e1:l[i]=a:=by rw [List.getElem?_eq_getElem h1] at hi;exact Option.some.inj hi
  have e2:l[j]=b:=by rw [List.getElem?_eq_getElem h2] at hj;exact Option.some.inj hj
  rw [← e1,← e2]
  exact List.set_set_perm h1 h2
theorem UpI.step {l:List QEn} {i:Nat} {a b:QEn} (h:UpI l i) (h0:0 < i) (hi:l[i]?=some a) (hj:l[(i - 1) / 2]?=some b) (hb:bfr a b):UpI ((l.set i b).set ((i - 1) / 2) a) ((i - 1) / 2):=by
  have hne:i≠(i - 1) / 2:=by omega
  constructor
  · intro j x y hj0 hjp hx hy
    rw [Hh hi hj hne,if_neg hjp] at hx
    rw [Hh hi hj hne] at hy
    by_cases e1:j=i
    · subst e1
      rw [if_pos rfl] at hx hy
      obtain rfl:=Option.some.inj hx
      obtain rfl:=Option.some.inj hy
      exact KY hb
    · rw [if_neg e1] at hx
      by_cases e2:(j - 1) / 2=(i - 1) / 2
      · rw [if_pos e2] at hy
        obtain rfl:=Option.some.inj hy
        have:=h.1 j x b hj0 e1 hx (by rw [e2];exact hj)
        exact Hv this (KY hb)
      · rw [if_neg e2] at hy
        by_cases e3:(j - 1) / 2=i
        · rw [if_pos e3] at hy
          obtain rfl:=Option.some.inj hy
          exact h.2 j x b h0 hj0 e3 hx hj
        · rw [if_neg e3] at hy
          exact h.1 j x y hj0 e1 hx hy
  · intro j x y hp0 hj0 hjp hx hy
    rw [Hh hi hj hne] at hx hy
    have n1:((i - 1) / 2 - 1) / 2≠(i - 1) / 2:=by omega
    have n2:((i - 1) / 2 - 1) / 2≠i:=by omega
    rw [if_neg n1,if_neg n2] at hy
    have hpp:=h.1 ((i - 1) / 2) b y hp0 (by omega) hj hy
    rw [if_neg (by omega)] at hx
    by_cases e1:j=i
    · subst e1
      rw [if_pos rfl] at hx
      obtain rfl:=Option.some.inj hx
      exact hpp
    · rw [if_neg e1] at hx
      exact Hv (h.1 j x b hj0 e1 hx (by rw [hjp];exact hj)) hpp
theorem UpI.heap {l:List QEn} {i:Nat} (h:UpI l i) (hi:i=0∨∀ x y,l[i]?=some x→l[(i - 1) / 2]?=some y→nb x y):HeapOk l:=fun j x y hj hx hy=>by
  by_cases e:j=i
  · subst e
    rcases hi with h0|h1
    · omega
    · exact h1 x y hx hy
  · exact h.1 j x y hj e hx hy
theorem DownI.step {l:List QEn} {i c:Nat} {a b:QEn} (h:DownI l i) (hc:c=2 * i + 1∨c=2 * i + 2) (hi:l[i]?=some a) (hj:l[c]?=some b) (hb:bfr b a) (hs:∀ (j:Nat) x,0 < j→(j - 1) / 2=i→l[j]?=some x→nb x b):DownI ((l.set i b).set c a) c:=by
  have hne:i≠c:=by omega
  have hcp:(c - 1) / 2=i:=by omega
  constructor
  · intro j x y hj0 hjp hx hy
    rw [Hh hi hj hne] at hx hy
    rw [if_neg hjp] at hy
    by_cases e1:j=c
    · subst e1
      rw [if_pos rfl] at hx
      rw [if_pos hcp] at hy
      obtain rfl:=Option.some.inj hx
      obtain rfl:=Option.some.inj hy
      exact KY hb
    · rw [if_neg e1] at hx
      by_cases e2:j=i
      · subst e2
        rw [if_pos rfl] at hx
        rw [if_neg (by omega)] at hy
        obtain rfl:=Option.some.inj hx
        exact h.2 c _ y hj0 (by omega) hcp hj hy
      · rw [if_neg e2] at hx
        by_cases e3:(j - 1) / 2=i
        · rw [if_pos e3] at hy
          obtain rfl:=Option.some.inj hy
          exact hs j x hj0 e3 hx
        · rw [if_neg e3] at hy
          exact h.1 j x y hj0 e3 hx hy
  · intro j x y hc0 hj0 hjc hx hy
    rw [Hh hi hj hne] at hx hy
    rw [if_neg (by omega),if_neg (by omega)] at hx
    rw [if_neg (by omega),if_pos hcp] at hy
    obtain rfl:=Option.some.inj hy
    exact h.1 j x _ hj0 (by omega) hx (by rw [hjc];exact hj)
theorem DownI.heap {l:List QEn} {i:Nat} (h:DownI l i) (hi:∀ (j:Nat) x y,0 < j→(j - 1) / 2=i→l[j]?=some x→l[i]?=some y→nb x y):HeapOk l:=fun j x y hj hx hy=>by
  by_cases e:(j - 1) / 2=i
  · exact hi j x y hj e hx (by rw [← e];exact hy)
  · exact h.1 j x y hj e hx hy
theorem NQ {l:List QEn} (h:HeapOk l) {e:QEn} (he:l[0]?=some e):∀ x∈l,nb x e:=by
  have key:∀ (n j:Nat) x,j≤n→l[j]?=some x→nb x e:=by
    intro n
    induction n with
    | zero =>
      intro j x hj hx
      have hj0:j=0:=by omega
      rw [hj0,he] at hx
      rw [← Option.some.inj hx]
      exact JS _
    | succ n ih =>
      intro j x hj hx
      by_cases h0:j=0
      · exact ih j x (by omega) hx
      · obtain ⟨y,hy⟩:=AF (l:=l) (k:=(j - 1) / 2) (by have:=AE hx;omega)
        exact Hv (h j x y (by omega) hx hy) (ih ((j - 1) / 2) y (by omega) hy)
  intro x hx
  obtain ⟨j,hj⟩:=List.getElem?_of_mem hx
  exact key j j x (by omega) hj
end
section
open Go Go.RowKit
theorem KB {K V:Type} [MKey K] (z:V) (k k':K) (v:V):∀ l:List (K×V),mget z (mput l k v) k'=if k=k' then v else mget z l k'
  | []=>by simp only [mput,mget]
  | p :: r=>by
    have ih:=KB z k k' v r
    simp only [mput]
    by_cases h1:p.1=k
    · rw [if_pos h1]
      simp only [mget]
      by_cases h2:k=k'
      · rw [if_pos h2,if_pos h2]
      · rw [if_neg h2,if_neg h2,if_neg (by rw [h1];exact h2)]
    · rw [if_neg h1]
      simp only [mget,ih]
      by_cases h2:k=k'
      · rw [if_pos h2,if_pos h2,if_neg (by rw [← h2];exact h1)]
      · rw [if_neg h2,if_neg h2]
theorem QL {xs:List Int} (hl:xs.length≤1000000):Ck xs=some xs.reverse:=by
  unfold Ck
  rw [Cy (by unfold inI64;omega),Am]
  refine PL (fun s=>∃ i:Nat,s.2.1=(i:Int)∧s.2.1 + s.2.2=(xs.length:Int) - 1∧i≤xs.length∧s.1.length=xs.length∧∀ k:Nat,k < xs.length→s.1[k]?=if k < i∨xs.length - 1 - k < i then xs[xs.length - 1 - k]? else xs[k]?) (fun s=>s.1=xs.reverse) (fun s=>(s.2.2 - s.2.1 + 1).toNat) ⟨0,rfl,by dsimp only;omega,by omega,rfl,fun k hk=>by rw [if_neg (by omega)]⟩ ?_ (fun s hs=>by rw [BL,hs])
  rintro ⟨ys,i',j⟩ ⟨i,hi,hij,hil,hlen,hg⟩
  dsimp only at hi hij hlen hg ⊢
  subst hi
  by_cases hlt:(i:Int) < j
  · obtain ⟨jn,rfl⟩:∃ jn:Nat,j=(jn:Int):=⟨j.toNat,by omega⟩
    obtain ⟨a,ha⟩:=AF (l:=ys) (k:=jn) (by omega)
    obtain ⟨b,hb⟩:=AF (l:=ys) (k:=i) (by omega)
    rw [if_pos hlt,Bg,ha,Am,Bg,hb,Am,Am,Int.toNat_natCast,Int.toNat_natCast,Bg,List.getElem?_set_ne (by omega),ha,Am,Cy (by unfold inI64;omega),Am,Cy (by unfold inI64;omega),Am]
    refine .inl ⟨_,rfl,⟨i + 1,by dsimp only;omega,by dsimp only;omega,by omega,by simp [hlen],fun k hk=>?_⟩,by dsimp only;omega⟩
    dsimp only
    have hga:=hg jn (by omega)
    rw [ha,if_neg (by omega)] at hga
    have hgb:=hg i (by omega)
    rw [hb,if_neg (by omega)] at hgb
    by_cases e1:k=jn
    · subst e1
      rw [List.getElem?_set_self (by simp;omega),if_pos (by omega),hgb]
      congr 1;omega
    · rw [List.getElem?_set_ne (by omega)]
      by_cases e2:k=i
      · subst e2
        rw [List.getElem?_set_self (by omega),if_pos (by omega),hga]
        congr 1;omega
      · rw [List.getElem?_set_ne (by omega),hg k hk]
        by_cases e3:k < i∨xs.length - 1 - k < i
        · rw [if_pos e3,if_pos (by omega)]
        · rw [if_neg e3,if_neg (by omega)]
  · rw [if_neg hlt]
    refine .inr ⟨_,rfl,?_⟩
    dsimp only
    apply List.ext_getElem?
    intro k
    rcases Nat.lt_or_ge k xs.length with hk|hk
    · rw [List.getElem?_reverse hk,hg k hk]
      by_cases e3:k < i∨xs.length - 1 - k < i
      · rw [if_pos e3]
      · rw [if_neg e3];congr 1;omega
    · rw [List.getElem?_eq_none (by omega),List.getElem?_eq_none (by simp;omega)]
end
section
open Go Go.RowKit
theorem PlanR.snoc {t:Tsk} {s p s':List Int} {C:Int} (h:PlanR t s p s' C) {k:Nat} {o:Opr} (ho:t.ops[k]?=some o) (hp:holdsB o.pre s'=true):PlanR t s (p ++ [(k:Int)]) (succ o s') (C + o.cost):=by
  induction h with
  | nil=>have:=PlanR.cons ho hp (PlanR.nil (t:=t) (s:=succ o _));simpa [Int.add_comm] using this
  | cons ho' hp' _ ih=>have:=PlanR.cons ho' hp' (ih hp);rw [Int.add_assoc];exact this
theorem PlanR.walk {t:Tsk} {s p s':List Int} {C:Int} (h:PlanR t s p s' C) (hg:holdsB t.goal s'=true):Walk t s C:=by
  induction h with
  | nil=>exact .goal hg
  | cons ho hp _ ih=>have:=Walk.step ho hp (ih hg);rwa [Int.add_comm] at this
def cnt (l:List Bool):Nat:=(l.filter id).length
theorem QM (l:List Bool):cnt l≤l.length:=List.length_filter_le _ _
end
section
open Go Go.RowKit
theorem EL {α:Type} [DecidableEq α]:∀ {a b:List α},a.Nodup→(∀ x∈a,x∈b)→a.length≤b.length
  | [],_,_,_=>Nat.zero_le _
  | x :: a,b,hn,hs=>by
    have hx:=hs x List.mem_cons_self
    have h1:=EL (a:=a) (b:=b.erase x) (List.nodup_cons.1 hn).2 fun y hy=>(List.mem_erase_of_ne (fun e=>(List.nodup_cons.1 hn).1 (by rw [← e];exact hy))).2 (hs y (List.mem_cons_of_mem _ hy))
    have h2:=List.length_erase_of_mem hx
    have h3:=List.length_pos_of_mem hx
    simp only [List.length_cons]
    omega
def marked:List (List Int)→List Bool→List (List Int)
  | s :: l,b :: bs=>if b=true then s :: marked l bs else marked l bs
  | _,_=>[]
theorem JT:∀ (l:List (List Int)) (bs:List Bool),bs.length=l.length→(marked l bs).length=cnt bs
  | [],bs,h=>by have:bs=[]:=List.length_eq_zero_iff.1 h;subst this;rfl
  | s :: l,[],h=>by simp at h
  | s :: l,b :: bs,h=>by
    have:=JT l bs (by simpa using h)
    simp only [marked,cnt] at this ⊢
    cases b<;>simp [this]
theorem JU:∀ {l:List (List Int)} {bs:List Bool} {i:Nat} {s:List Int},l[i]?=some s→bs[i]?=some true→s∈marked l bs
  | [],bs,i,s,h,_=>by simp at h
  | s :: l,[],i,s',_,h=>by simp at h
  | s :: l,b :: bs,0,s',h1,h2=>by simp at h1 h2;subst h1 h2;simp [marked]
  | s :: l,b :: bs,i + 1,s',h1,h2=>by
    have:=JU (l:=l) (bs:=bs) (i:=i) (by simpa using h1) (by simpa using h2)
    simp only [marked]
    split
    · exact List.mem_cons_of_mem _ this
    · exact this
theorem Jm {L:List (List Int)} (h:∀ (i j:Nat) s,L[i]?=some s→L[j]?=some s→i=j):L.Nodup:=by
  rw [List.nodup_iff_pairwise_ne,List.pairwise_iff_getElem]
  intro i j hi hj hij he
  have:=h i j L[i] (List.getElem?_eq_getElem hi) (by rw [he];exact List.getElem?_eq_getElem hj)
  omega
theorem OK {bs:List Bool} (hl:bs.length≤1000000):rng (ρ:=Bool) (fun (_:Nat) (a130:Bool) (s127:Int)=>if a130=true then (bnd (chkI (s127 + 1)) fun n150=>some (.next n150)) else (some (.next s127))) bs 0 0=some (.done (cnt bs:Int)):=by
  have:=DL (ρ:=Bool) (xs:=bs) (s₀:=(0:Int)) (f:=fun (_:Nat) (a130:Bool) (s127:Int)=>if a130=true then (bnd (chkI (s127 + 1)) fun n150=>some (.next n150)) else (some (.next s127))) (fun k=>((cnt (bs.take k):Nat):Int)) (by simp [cnt]) (fun k b hk=>by
    have h1:=QM (bs.take k)
    have h2:(bs.take k).length≤k:=by simp;omega
    have h3:=AE hk
    have h4:cnt (bs.take (k + 1))=cnt (bs.take k) + (if b=true then 1 else 0):=by
      rw [List.take_add_one,hk]
      cases b<;>simp [cnt]
    rw [h4]
    cases b with
    | true =>
      rw [Bl,Cy (by unfold inI64;omega),Am]
      simp
    | false=>simp)
  rw [this,List.take_length]
end
section
open Go Go.RowKit
def appB (t:Tsk) (s:List Int) (k:Nat):Bool:=match t.ops[k]? with|some o=>holdsB o.pre s|none=>false
def appN (t:Tsk) (s:List Int) (m:Nat):List Nat:=(List.range m).filter (appB t s)
def sucN (t:Tsk) (s:List Int) (k:Nat):List Int:=match t.ops[k]? with|some o=>succ o s|none=>s
theorem QN (t:Tsk) (s:List Int):appl t s=(appN t s t.ops.length).map fun k:Nat=>(k:Int):=rfl
theorem PN (t:Tsk) (s:List Int) (k:Nat):sucOf t s (k:Int)=⟨(k:Int),sucN t s k⟩:=rfl
theorem MI {t:Tsk} {s:List Int} {k:Nat} {o:Opr} (ho:t.ops[k]?=some o):appB t s k=holdsB o.pre s∧sucN t s k=succ o s:=by unfold appB sucN;rw [ho];exact ⟨rfl,rfl⟩
end
section
set_option linter.unusedVariables false
set_option linter.unusedSimpArgs false
open Go Go.RowKit
def UpN {α:Type} (i:Nat) (x:α) (l l':List α):Prop:=l'[i]?=some x∧∀ j,j≠i→l'[j]?=l[j]?
theorem PO {α:Type} {i:Nat} {x:α} {l:List α} (h:i < l.length):UpN i x l (l.set i x):=⟨List.getElem?_set_self h,fun j hj=>List.getElem?_set_ne (by omega)⟩
theorem PP {α:Type} {x:α} {l:List α}:UpN l.length x l (l ++ [x]):=⟨by simp,fun j hj=>by
  rcases Nat.lt_or_ge j l.length with h|h
  · exact List.getElem?_append_left h
  · rw [List.getElem?_append_right h,List.getElem?_eq_none (l:=l) h,List.getElem?_eq_none (by simp;omega)]⟩
theorem LM {t:Tsk} {s:List Int} {k:Nat} {o:Opr} (ho:t.ops[k]?=some o) (hp:holdsB o.pre s=true):(k:Int)∈appl t s:=by
  rw [QN,List.mem_map]
  exact ⟨k,List.mem_filter.2 ⟨List.mem_range.2 (AE ho),by rw [(MI ho).1];exact hp⟩,rfl⟩
def cntN (N:List ONd):Nat:=(N.filter fun n=>n.fin).length
theorem OL (N:List ONd) {n:ONd} (h:n.fin=false):cntN (N ++ [n])=cntN N:=by simp [cntN,h]
theorem LN:∀ {N:List ONd} {i:Nat} {a b:ONd},N[i]?=some a→a.fin=false→b.fin=false→cntN (N.set i b)=cntN N
  | [],i,_,_,h,_,_=>by simp at h
  | n :: N,0,a,b,h,ha,hb=>by simp at h;subst h;simp [cntN,ha,hb]
  | n :: N,i + 1,a,b,h,ha,hb=>by
    have:=LN (N:=N) (i:=i) (by simpa using h) ha hb
    simp only [cntN,List.set_cons_succ,List.filter_cons] at this ⊢
    split<;>simp [this]
theorem KC:∀ {N:List ONd} {i:Nat} {a b:ONd},N[i]?=some a→a.fin=false→b.fin=true→cntN (N.set i b)=cntN N + 1
  | [],i,_,_,h,_,_=>by simp at h
  | n :: N,0,a,b,h,ha,hb=>by simp at h;subst h;simp [cntN,ha,hb]
  | n :: N,i + 1,a,b,h,ha,hb=>by
    have:=KC (N:=N) (i:=i) (by simpa using h) ha hb
    simp only [cntN,List.set_cons_succ,List.filter_cons] at this ⊢
    split<;>simp [this]
theorem PQ (N:List ONd):cntN N≤N.length:=List.length_filter_le _ _
inductive OR (t:Tsk) (cn:List Int→List Int):List Int→Prop
  | init:OR t cn (cn t.init)
  | step {s:List Int} {k:Nat} {o:Opr}:OR t cn s→holdsB t.goal s=false→t.ops[k]?=some o→holdsB o.pre s=true→OR t cn (cn (succ o s))
inductive WalkC (t:Tsk) (cn:List Int→List Int):List Int→Int→Prop
  | goal {s:List Int}:holdsB t.goal s=true→WalkC t cn s 0
  | step {s:List Int} {k:Nat} {o:Opr} {C:Int}:t.ops[k]?=some o→holdsB o.pre s=true→WalkC t cn (cn (succ o s)) C→WalkC t cn s (C + o.cost)
theorem NR {t:Tsk} (h:TaskOk t) {cn:List Int→List Int} {s:List Int} {C:Int} (hw:WalkC t cn s C):0≤C:=by
  induction hw with
  | goal _=>omega
  | @step s k o C ho _ _ ih=>have:=(h.2.2.2.2.2 k o ho).1;omega
structure OrI (t:Tsk) (cn wd:List Int→List Int) (D:Nat→Int→Prop) (N:List ONd) (hp:List QEn) (ord:Nat→Nat) (E:Nat):Prop where
  root:∃ n,N[0]?=some n∧n.state=cn t.init∧n.used=wd t.init∧n.cost=0∧n.parent=-1∧n.op=-1
  link:∀ (i:Nat) n,N[i]?=some n→i=0∨∃ (p q:Nat) (o:Opr) (m:ONd),n.parent=(p:Int)∧n.op=(q:Int)∧t.ops[q]?=some o∧N[p]?=some m∧m.fin=true∧holdsB o.pre m.state=true∧n.state=cn (succ o m.state)∧n.used=wd (succ o m.state)∧n.cost=m.cost + o.cost∧(n.fin=true→ord p < ord i)
  ordl:∀ (i:Nat) n,N[i]?=some n→n.fin=true→ord i < E
  lower:∀ (j:Nat) n,N[j]?=some n→n.fin=true→∀ e∈hp,n.cost≤e.key
  ent:∀ e∈hp,∃ (i:Nat) (n:ONd),e.item=(i:Int)∧N[i]?=some n∧n.cost≤e.key
  opn:∀ (i:Nat) n,N[i]?=some n→n.fin=false→∃ e∈hp,e.key=n.cost∧e.item=(i:Int)
  bound:∀ (i:Nat) n,N[i]?=some n→0≤n.cost∧n.cost≤(E:Int) * 1048576
  nogoal:∀ (j:Nat) n,N[j]?=some n→n.fin=true→holdsB t.goal n.state=false
  rel:∀ (j:Nat) n q,N[j]?=some n→n.fin=true→q∈appl t n.state→D j q→∃ (k:Nat) (o:Opr) (i:Nat) (m:ONd),q=(k:Int)∧t.ops[k]?=some o∧N[i]?=some m∧m.state=cn (succ o n.state)∧m.cost≤n.cost + o.cost
  num:cntN N=E
  rch:∀ (i:Nat) n,N[i]?=some n→OR t cn n.state
  first:0 < E→∃ n,N[0]?=some n∧n.fin=true
  uniq:∀ (i j:Nat) n m,N[i]?=some n→N[j]?=some m→n.state=m.state→i=j
section
variable {t : Tsk} {cn wd : List Int → List Int} {D : Nat → Int → Prop} {N N' : List ONd} {hp hp' : List QEn} {ord : Nat → Nat} {E : Nat}
theorem OrI.upd (h:OrI t cn wd D N hp ord E) (hok:TaskOk t) {i p q:Nat} {o:Opr} {n m:ONd} {e:QEn} (hN:UpN i n N N') (hh:hp'.Perm (e :: hp)) (ek:e.key=n.cost) (ei:e.item=(i:Int)) (hle:N.length≤N'.length) (hc:cntN N'=cntN N)
    (hi:(N[i]?=none∧∀ (j:Nat) a,N[j]?=some a→a.state≠n.state)∨∃ a,N[i]?=some a∧a.state=n.state∧a.fin=false∧n.cost < a.cost)
    (hd:n.fin=false) (hpa:n.parent=(p:Int)) (hop:n.op=(q:Int)) (ho:t.ops[q]?=some o) (hm:N[p]?=some m) (hmd:m.fin=true) (hpre:holdsB o.pre m.state=true) (hst:n.state=cn (succ o m.state)) (hus:n.used=wd (succ o m.state)) (hx:n.cost=m.cost + o.cost) (hmax:∀ (j:Nat) a,N[j]?=some a→a.fin=true→a.cost≤m.cost) (hxE:n.cost≤(E:Int) * 1048576) :
    OrI t cn wd D N' hp' ord E:=by
  have hoc:=(hok.2.2.2.2.2 q o ho).1
  have hcp:=(h.bound p m hm).1
  have hfin:∀ (j:Nat) a,N[j]?=some a→a.fin=true→j≠i:=fun j a hj hja e1=>by
    subst e1
    rcases hi with ⟨hn,_⟩|⟨b,hb,_,hbd,_⟩
    · rw [hj] at hn;cases hn
    · rw [hj] at hb;obtain rfl:=Option.some.inj hb;rw [hja] at hbd;cases hbd
  have hfin':∀ (j:Nat) a,N'[j]?=some a→a.fin=true→j≠i∧N[j]?=some a:=fun j a hj hja=>by
    have hne:j≠i:=fun e1=>by subst e1;rw [hN.1] at hj;obtain rfl:=Option.some.inj hj;rw [hd] at hja;cases hja
    exact ⟨hne,by rw [← hN.2 j hne];exact hj⟩
  obtain ⟨n0,r1,r2,r3,r4,r5,r6⟩:=h.root
  have h0:(0:Nat)≠i:=fun e1=>by
    subst e1
    rcases hi with ⟨hn,_⟩|⟨b,hb,_,_,hlt⟩
    · rw [r1] at hn;cases hn
    · rw [r1] at hb;obtain rfl:=Option.some.inj hb;omega
  have hpi:=hfin p m hm hmd
  refine ⟨⟨n0,by rw [hN.2 0 h0];exact r1,r2,r3,r4,r5,r6⟩,?_,?_,?_,?_,?_,?_,?_,?_,by rw [hc];exact h.num,?_,?_,?_⟩
  · intro j a hj
    by_cases e1:j=i
    · subst e1
      rw [hN.1] at hj
      obtain rfl:=Option.some.inj hj
      exact .inr ⟨p,q,o,m,hpa,hop,ho,by rw [hN.2 p hpi];exact hm,hmd,hpre,hst,hus,hx,fun hh=>by rw [hd] at hh;cases hh⟩
    · rw [hN.2 j e1] at hj
      rcases h.link j a hj with hh|⟨p',q',o',m',a1,a2,a3,a4,a5,a6⟩
      · exact .inl hh
      · exact .inr ⟨p',q',o',m',a1,a2,a3,by rw [hN.2 p' (hfin p' m' a4 a5)];exact a4,a5,a6⟩
  · intro j a hj hja
    exact h.ordl j a (hfin' j a hj hja).2 hja
  · intro j a hj hja e' he'
    obtain ⟨_,hj⟩:=hfin' j a hj hja
    rcases List.mem_cons.1 (hh.mem_iff.1 he') with rfl|hm'
    · have:=hmax j a hj hja;omega
    · exact h.lower j a hj hja e' hm'
  · intro e' he'
    rcases List.mem_cons.1 (hh.mem_iff.1 he') with rfl|hm'
    · exact ⟨i,n,ei,hN.1,by omega⟩
    · obtain ⟨j,a,j1,j2,j3⟩:=h.ent e' hm'
      by_cases e1:j=i
      · subst e1
        rcases hi with ⟨hn,_⟩|⟨b,hb,_,_,hlt⟩
        · rw [j2] at hn;cases hn
        · rw [j2] at hb
          obtain rfl:=Option.some.inj hb
          exact ⟨j,n,j1,hN.1,by omega⟩
      · exact ⟨j,a,j1,by rw [hN.2 j e1];exact j2,j3⟩
  · intro j a hj hja
    by_cases e1:j=i
    · subst e1
      rw [hN.1] at hj
      obtain rfl:=Option.some.inj hj
      exact ⟨e,hh.mem_iff.2 List.mem_cons_self,ek,ei⟩
    · rw [hN.2 j e1] at hj
      obtain ⟨e',m',r⟩:=h.opn j a hj hja
      exact ⟨e',hh.mem_iff.2 (List.mem_cons_of_mem _ m'),r⟩
  · intro j a hj
    by_cases e1:j=i
    · subst e1
      rw [hN.1] at hj
      obtain rfl:=Option.some.inj hj
      omega
    · rw [hN.2 j e1] at hj;exact h.bound j a hj
  · intro j a hj hja
    exact h.nogoal j a (hfin' j a hj hja).2 hja
  · intro j a q' hj hja hq hD
    obtain ⟨hne,hj⟩:=hfin' j a hj hja
    obtain ⟨k,o',i',b,a1,a2,a3,a4,a5⟩:=h.rel j a q' hj hja hq hD
    by_cases e1:i'=i
    · subst e1
      rcases hi with ⟨hn,_⟩|⟨b',hb,hbs,_,hlt⟩
      · rw [a3] at hn;cases hn
      · rw [a3] at hb
        obtain rfl:=Option.some.inj hb
        exact ⟨k,o',i',n,a1,a2,hN.1,by rw [← hbs];exact a4,by omega⟩
    · exact ⟨k,o',i',b,a1,a2,by rw [hN.2 i' e1];exact a3,a4,a5⟩
  · intro j a hj
    by_cases e1:j=i
    · subst e1
      rw [hN.1] at hj
      obtain rfl:=Option.some.inj hj
      rw [hst]
      exact (h.rch p m hm).step (h.nogoal p m hm hmd) ho hpre
    · rw [hN.2 j e1] at hj;exact h.rch j a hj
  · intro hE
    obtain ⟨b,b1,b2⟩:=h.first hE
    exact ⟨b,by rw [hN.2 0 h0];exact b1,b2⟩
  · intro a b x y hx' hy' hs
    have key:∀ (j:Nat) z,j≠i→N'[j]?=some z→z.state≠n.state:=fun j z hne hz hzs=>by
      rw [hN.2 j hne] at hz
      rcases hi with ⟨_,hn⟩|⟨b',hb,hbs,_⟩
      · exact hn j z hz hzs
      · exact hne (h.uniq j i z b' hz hb (by rw [hzs,hbs]))
    by_cases ea:a=i
    · subst ea
      rw [hN.1] at hx'
      obtain rfl:=Option.some.inj hx'
      by_cases eb:b=a
      · exact eb.symm
      · exact (key b y eb hy' hs.symm).elim
    · by_cases eb:b=i
      · subst eb
        rw [hN.1] at hy'
        obtain rfl:=Option.some.inj hy'
        exact (key a x ea hx' hs).elim
      · rw [hN.2 a ea] at hx'
        rw [hN.2 b eb] at hy'
        exact h.uniq a b x y hx' hy' hs
theorem OrI.drop (h:OrI t cn wd D N hp ord E) {e:QEn} (hh:hp.Perm (e :: hp')) {i:Nat} {n:ONd} (hi:e.item=(i:Int)) (hn:N[i]?=some n) (hd:n.fin=true∨n.cost≠e.key):OrI t cn wd D N hp' ord E :=
  { h with
    lower:=fun j a hj hja e' he'=>h.lower j a hj hja e' (hh.mem_iff.2 (List.mem_cons_of_mem _ he'))
    ent:=fun e' he'=>h.ent e' (hh.mem_iff.2 (List.mem_cons_of_mem _ he'))
    opn := fun j a hj hja=>by
      obtain ⟨e',m,k1,k2⟩:=h.opn j a hj hja
      rcases List.mem_cons.1 (hh.mem_iff.1 m) with rfl|hm
      · exfalso
        have e1:i=j:=by omega
        subst e1
        rw [hn] at hj
        obtain rfl:=Option.some.inj hj
        rcases hd with hd|hd
        · rw [hja] at hd;cases hd
        · exact hd k1.symm
      · exact ⟨e',hm,k1,k2⟩ }
theorem OrI.mark (h:OrI t cn wd (fun _ _=>True) N hp ord E) {e:QEn} (hh:hp.Perm (e :: hp')) (hmin:∀ x∈hp,nb x e) {i:Nat} {n n':ONd} (hi:e.item=(i:Int)) (hn:N[i]?=some n) (hf:n.fin=false) (hc:n.cost=e.key) (hg:holdsB t.goal n.state=false) (hn':n'={ n with fin:=true }) :
    OrI t cn wd (fun j _=>j≠i) (N.set i n') hp' (fun j=>if j=i then E else ord j) (E + 1):=by
  subst hn'
  have hil:=AE hn
  have hset:∀ (j:Nat) a,(N.set i { n with fin:=true })[j]?=some a→(j=i∧a={ n with fin:=true })∨(j≠i∧N[j]?=some a):=fun j a hj=>by
    by_cases e1:j=i
    · subst e1;rw [List.getElem?_set_self hil] at hj;exact .inl ⟨rfl,(Option.some.inj hj).symm⟩
    · rw [List.getElem?_set_ne (by omega)] at hj;exact .inr ⟨e1,hj⟩
  have hkeep:∀ (j:Nat) a,N[j]?=some a→a.fin=true→j≠i∧(N.set i { n with fin:=true })[j]?=some a:=fun j a hj hja=>by
    have hne:j≠i:=fun e1=>by subst e1;rw [hn] at hj;obtain rfl:=Option.some.inj hj;rw [hja] at hf;cases hf
    exact ⟨hne,by rw [List.getElem?_set_ne (by omega)];exact hj⟩
  have hst:∀ (j:Nat) a,(N.set i { n with fin:=true })[j]?=some a→∃ b,N[j]?=some b∧b.state=a.state∧b.cost=a.cost:=fun j a hj=>by
    rcases hset j a hj with ⟨rfl,rfl⟩|⟨_,h2⟩
    · exact ⟨n,hn,rfl,rfl⟩
    · exact ⟨a,h2,rfl,rfl⟩
  have hto:∀ (j:Nat) b,N[j]?=some b→∃ a,(N.set i { n with fin:=true })[j]?=some a∧a.state=b.state∧a.cost=b.cost∧a.used=b.used∧a.parent=b.parent∧a.op=b.op:=fun j b hj=>by
    by_cases e1:j=i
    · subst e1
      rw [hn] at hj
      obtain rfl:=Option.some.inj hj
      exact ⟨_,List.getElem?_set_self hil,rfl,rfl,rfl,rfl,rfl⟩
    · exact ⟨b,by rw [List.getElem?_set_ne (by omega)];exact hj,rfl,rfl,rfl,rfl,rfl⟩
  have hord:∀ (p:Nat) (m:ONd),N[p]?=some m→m.fin=true→ord p < E:=fun p m h1 h2=>h.ordl p m h1 h2
  refine ⟨?_,?_,?_,?_,?_,?_,?_,?_,?_,by rw [KC hn hf rfl,h.num],?_,?_,?_⟩
  · obtain ⟨n0,r1,r2,r3,r4,r5,r6⟩:=h.root
    obtain ⟨a,a1,a2,a3,a4,a5,a6⟩:=hto 0 n0 r1
    exact ⟨a,a1,a2.trans r2,a4.trans r3,a3.trans r4,a5.trans r5,a6.trans r6⟩
  · intro j a hj
    rcases hset j a hj with ⟨rfl,rfl⟩|⟨hne,hj2⟩
    · rcases h.link j n hn with hh|⟨p',q',o',m',a1,a2,a3,a4,a5,a6,a7,a8,a9,a10⟩
      · exact .inl hh
      · obtain ⟨hne,hp2⟩:=hkeep p' m' a4 a5
        exact .inr ⟨p',q',o',m',a1,a2,a3,hp2,a5,a6,a7,a8,a9,fun _=>by rw [if_neg hne,if_pos rfl];exact hord p' m' a4 a5⟩
    · rcases h.link j a hj2 with hh|⟨p',q',o',m',a1,a2,a3,a4,a5,a6,a7,a8,a9,a10⟩
      · exact .inl hh
      · obtain ⟨hne',hp2⟩:=hkeep p' m' a4 a5
        exact .inr ⟨p',q',o',m',a1,a2,a3,hp2,a5,a6,a7,a8,a9,fun hd=>by rw [if_neg hne',if_neg hne];exact a10 hd⟩
  · intro j a hj hja
    rcases hset j a hj with ⟨rfl,rfl⟩|⟨hne,hj2⟩
    · rw [if_pos rfl];omega
    · rw [if_neg hne];have:=h.ordl j a hj2 hja;omega
  · intro j a hj hja e' he'
    have hm:e'∈hp:=hh.mem_iff.2 (List.mem_cons_of_mem _ he')
    rcases hset j a hj with ⟨rfl,rfl⟩|⟨_,hj2⟩
    · have:=NP (hmin e' hm);dsimp only;omega
    · exact h.lower j a hj2 hja e' hm
  · intro e' he'
    obtain ⟨j,b,j1,j2,j3⟩:=h.ent e' (hh.mem_iff.2 (List.mem_cons_of_mem _ he'))
    obtain ⟨a,a1,a2,a3,_⟩:=hto j b j2
    exact ⟨j,a,j1,a1,by omega⟩
  · intro j a hj hja
    rcases hset j a hj with ⟨rfl,rfl⟩|⟨hne,hj2⟩
    · cases hja
    · obtain ⟨e',m,k1,k2⟩:=h.opn j a hj2 hja
      rcases List.mem_cons.1 (hh.mem_iff.1 m) with rfl|hm
      · omega
      · exact ⟨e',hm,k1,k2⟩
  · intro j a hj
    obtain ⟨b,b1,_,b3⟩:=hst j a hj
    have:=h.bound j b b1
    omega
  · intro j a hj hja
    rcases hset j a hj with ⟨rfl,rfl⟩|⟨_,hj2⟩
    · exact hg
    · exact h.nogoal j a hj2 hja
  · intro j a q hj hja hq hD
    rcases hset j a hj with ⟨rfl,rfl⟩|⟨_,hj2⟩
    · exact absurd rfl hD
    · obtain ⟨k,o,i',m,a1,a2,a3,a4,a5⟩:=h.rel j a q hj2 hja hq trivial
      obtain ⟨b,b1,b2,b3,_⟩:=hto i' m a3
      exact ⟨k,o,i',b,a1,a2,b1,by rw [b2];exact a4,by omega⟩
  · intro j a hj
    obtain ⟨b,b1,b2,_⟩:=hst j a hj
    rw [← b2];exact h.rch j b b1
  · intro _
    by_cases h0:i=0
    · subst h0;exact ⟨_,List.getElem?_set_self hil,rfl⟩
    · rcases h.link i n hn with hh|⟨p',_,_,m',_,_,_,a4,a5,_⟩
      · exact absurd hh h0
      · have hE:0 < E:=by have:=h.ordl p' m' a4 a5;omega
        obtain ⟨b,b1,b2⟩:=h.first hE
        exact ⟨b,(hkeep 0 b b1 b2).2,b2⟩
  · intro a b x y hx hy hs
    obtain ⟨x',x1,x2,_⟩:=hst a x hx
    obtain ⟨y',y1,y2,_⟩:=hst b y hy
    exact h.uniq a b x' y' x1 y1 (by rw [x2,y2,hs])
theorem OrI.front (h:OrI t cn wd (fun _ _=>True) N hp ord E) (hok:TaskOk t) {s:List Int} {C:Int} (hw:WalkC t cn s C):∀ (i:Nat) n,N[i]?=some n→n.state=s→∃ e∈hp,e.key≤n.cost + C:=by
  induction hw with
  | @goal s hg =>
    intro i n hi hs
    cases hb:n.fin with
    | false=>obtain ⟨e,m,k1,_⟩:=h.opn i n hi hb;exact ⟨e,m,by omega⟩
    | true=>have:=h.nogoal i n hi hb;rw [hs,hg] at this;cases this
  | @step s k o C ho hk hw ih =>
    intro i n hi hs
    have h1:=NR hok hw
    have h2:=(hok.2.2.2.2.2 k o ho).1
    cases hb:n.fin with
    | false=>obtain ⟨e,m,k1,_⟩:=h.opn i n hi hb;exact ⟨e,m,by omega⟩
    | true =>
      obtain ⟨k',o',i',m,a1,a2,a3,a4,a5⟩:=h.rel i n (k:Int) hi hb (by rw [hs];exact LM ho hk) trivial
      have e1:k=k':=by omega
      subst e1
      rw [ho] at a2
      obtain rfl:=Option.some.inj a2
      rw [hs] at a4
      obtain ⟨e,m',k1⟩:=ih i' m a3 a4
      exact ⟨e,m',by omega⟩
theorem OrI.all (h:OrI t cn wd (fun _ _=>True) N [] ord E) {s:List Int} (hs:OR t cn s):∃ (i:Nat) (n:ONd),N[i]?=some n∧n.state=s∧n.fin=true:=by
  have hdone:∀ (i:Nat) n,N[i]?=some n→n.fin=true:=fun i n hi=>by
    cases hb:n.fin with
    | true=>rfl
    | false=>obtain ⟨e,m,_⟩:=h.opn i n hi hb;simp at m
  induction hs with
  | init=>obtain ⟨n,r1,r2,_⟩:=h.root;exact ⟨0,n,r1,r2,hdone 0 n r1⟩
  | @step s k o _ _ ho hp ih =>
    obtain ⟨i,n,i1,i2,i3⟩:=ih
    obtain ⟨k',o',i',m,a1,a2,a3,a4,_⟩:=h.rel i n (k:Int) i1 i3 (by rw [i2];exact LM ho hp) trivial
    have e1:k=k':=by omega
    subst e1
    rw [ho] at a2
    obtain rfl:=Option.some.inj a2
    exact ⟨i',m,a3,by rw [a4,i2],hdone i' m a3⟩
theorem OrI.more (h:OrI t cn wd D N hp ord E) {D':Nat→Int→Prop} {j₀:Nat} {q₀:Int} (hD:∀ j q,D' j q→D j q∨(j=j₀∧q=q₀)) {n m:ONd} (hn:N[j₀]?=some n) {k:Nat} {o:Opr} {i:Nat} (h1:q₀=(k:Int)) (h2:t.ops[k]?=some o) (h3:N[i]?=some m) (h4:m.state=cn (succ o n.state)) (h6:m.cost≤n.cost + o.cost):OrI t cn wd D' N hp ord E :=
  { h with
    rel := fun j a q hj hja hq hd=>by
      rcases hD j q hd with hd|⟨rfl,rfl⟩
      · exact h.rel j a q hj hja hq hd
      · rw [hn] at hj
        obtain rfl:=Option.some.inj hj
        exact ⟨k,o,i,m,h1,h2,h3,h4,h6⟩ }
inductive TrN (N:List ONd):Nat→List Nat→Prop
  | root {n:ONd}:N[0]?=some n→n.parent=-1→TrN N 0 [0]
  | step {i p:Nat} {n:ONd} {l:List Nat}:N[i]?=some n→n.parent=(p:Int)→TrN N p l→TrN N i (l ++ [i])
theorem OrI.trace (h:OrI t cn wd D N hp ord E):∀ (b i:Nat) n,ord i < b→N[i]?=some n→n.fin=true→∃ l,TrN N i l∧l.length≤ord i + 1:=by
  intro b
  induction b with
  | zero=>intro i n hb;omega
  | succ b ih =>
    intro i n hb hi hd
    rcases h.link i n hi with rfl|⟨p,q,o,m,a1,a2,a3,a4,a5,a6,a7,a8,a9,a10⟩
    · obtain ⟨n0,r1,_,_,_,r5,_⟩:=h.root
      exact ⟨[0],.root r1 r5,by simp⟩
    · have ho:=a10 hd
      obtain ⟨l,l1,l2⟩:=ih p m (by omega) a4 a5
      exact ⟨l ++ [i],.step hi a1 l1,by simp;omega⟩
theorem OrI.path (h:OrI t cn wd D N hp ord E) {i:Nat} {n:ONd} (hi:N[i]?=some n):∃ l,TrN N i l∧l.length≤E + 1:=by
  rcases h.link i n hi with rfl|⟨p,q,o,m,a1,a2,a3,a4,a5,_⟩
  · obtain ⟨n0,r1,_,_,_,r5,_⟩:=h.root
    exact ⟨[0],.root r1 r5,by simp⟩
  · have ho:=h.ordl p m a4 a5
    obtain ⟨l,l1,l2⟩:=h.trace (ord p + 1) p m (by omega) a4 a5
    exact ⟨l ++ [i],.step hi a1 l1,by simp;omega⟩
end
end
section
open Go Go.RowKit
abbrev BQ:=BxR 67 73 OEn
abbrev AI:=An 73 OEn
def toQ (x:OEn):QEn:=⟨x.cost,0,x.node,x.number⟩
def qs (l:List OEn):List QEn:=l.map toQ
theorem FW (l:List OEn):(qs l).length=l.length:=by simp [qs]
theorem FX {l:List OEn} {i:Nat} {x:OEn} (h:l[i]?=some x):(qs l)[i]?=some (toQ x):=by unfold qs;rw [List.getElem?_map,h];rfl
theorem Il (l:List OEn) (i:Nat) (x:OEn):qs (l.set i x)=(qs l).set i (toQ x):=by unfold qs;rw [List.map_set]
theorem PR (l:List OEn) (n:Nat):qs (l.take n)=(qs l).take n:=by unfold qs;rw [List.map_take]
theorem Jn {l:List OEn} {i j:Nat} {a b:OEn} (ha:l[i]?=some a) (hb:l[j]?=some b):Cd l (i:Int) (j:Int)=some (decide (bfr (toQ a) (toQ b))):=by
  unfold Cd
  rw [Bg,ha,Am,Bg,hb,Am,Am,Am,Am,Am]
  unfold bfr toQ
  by_cases h2:a.cost=b.cost
  · rw [if_neg (by simp [h2])]
    by_cases h3:a.number < b.number
    · rw [if_pos h3,Am];simp [h2,h3]
    · rw [if_neg h3,Am];simp [h2,h3]
  · rw [if_pos h2]
    by_cases h1:a.cost < b.cost
    · rw [if_pos h1,Am];simp [h1]
    · rw [if_neg h1,Am];simp [h1,h2]
theorem Jo {l:List OEn} {i j:Nat} {a b:OEn} (ha:l[i]?=some a) (hb:l[j]?=some b):BT l (i:Int) (j:Int)=some ((l.set i b).set j a):=by
  have hil:=AE ha
  have hjl:=AE hb
  obtain ⟨c,hc⟩:=AF (l:=l.set i b) (k:=j) (by simp;exact hjl)
  unfold BT
  rw [Bg,hb,Am,Bg,ha,Am,Am,Int.toNat_natCast,Bg,hc,Am,Int.toNat_natCast]
theorem QO {q:BQ} {i:Nat} (hi:i < q.l.length) (hl:q.l.length≤1000000) (h:UpI (qs q.l) i):∃ r,Dd q (i:Int)=some r∧HeapOk (qs r.l)∧(qs r.l).Perm (qs q.l):=by
  unfold Dd
  refine LK (fun s=>∃ i:Nat,s.1=(i:Int)∧i < s.2.l.length∧UpI (qs s.2.l) i∧(qs s.2.l).Perm (qs q.l)) (fun s=>HeapOk (qs s.2.l)∧(qs s.2.l).Perm (qs q.l)) (fun _=>False) (fun s=>s.1.toNat) ⟨i,rfl,hi,h,List.Perm.refl _⟩ ?_ (fun s hs=>⟨_,rfl,hs⟩) (fun s hs=>hs.elim)
  rintro ⟨c,s⟩ ⟨i,hc,hi,hu,hp⟩
  dsimp only at hc hi hu hp ⊢
  subst hc
  have hlen:=hp.length_eq
  rw [FW,FW] at hlen
  rw [Cy (by unfold inI64;omega),Am]
  by_cases h0:0 < (i:Int)
  · have hq:quoT ((i:Int) - 1) 2=some (((i - 1) / 2:Nat):Int):=by
      unfold quoT;rw [if_pos (by omega),if_pos (by omega)];congr 1;omega
    obtain ⟨a,ha⟩:=AF (l:=s.l) (k:=i) hi
    obtain ⟨b,hb⟩:=AF (l:=s.l) (k:=(i - 1) / 2) (by omega)
    rw [hq,Am,if_neg (by omega),Jn ha hb,Am]
    by_cases hab:bfr (toQ a) (toQ b)
    · rw [decide_eq_true hab,Bl,Am,BB,Jo hb ha,Am]
      have e1:qs ((s.l.set ((i - 1) / 2) a).set i b)=((qs s.l).set i (toQ b)).set ((i - 1) / 2) (toQ a):=by
        rw [Il,Il,List.set_comm _ _ (by omega)]
      refine .inl ⟨_,rfl,⟨(i - 1) / 2,rfl,by simp;omega,?_,?_⟩,?_⟩
      · dsimp only;rw [e1];exact hu.step (by omega) (FX ha) (FX hb) hab
      · dsimp only;rw [e1];exact (LL (FX ha) (FX hb)).trans hp
      · dsimp only;omega
    · rw [decide_eq_false hab,BB,Am,Bl]
      refine .inr (.inl ⟨_,rfl,hu.heap (.inr fun x y hx hy=>?_),hp⟩)
      rw [FX ha] at hx
      rw [FX hb] at hy
      obtain rfl:=Option.some.inj hx
      obtain rfl:=Option.some.inj hy
      exact hab
  · have h00:i=0:=by omega
    subst h00
    have hq:quoT (((0:Nat):Int) - 1) 2=some 0:=rfl
    rw [hq,Am,if_pos (show (0:Int)=((0:Nat):Int) from rfl),Am,Bl]
    exact .inr (.inl ⟨_,rfl,hu.heap (.inl rfl),hp⟩)
theorem OM {q:BQ} (h:HeapOk (qs q.l)) (hl:q.l.length≤900000) (x:OEn):∃ r,CD q ⟨x⟩=some r∧HeapOk (qs r.l)∧(qs r.l).Perm (toQ x :: qs q.l):=by
  unfold CD Ea BY
  rw [Cp (by simp;omega) (by simp;omega),Am,Am,Am,Cy (by unfold inI64;simp;omega),Am]
  have hlen:(((q.l ++ [x]).length:Int) - 1)=((q.l.length:Nat):Int):=by simp
  rw [hlen]
  have eq1:qs (q.l ++ [x])=qs q.l ++ [toQ x]:=by simp [qs]
  obtain ⟨r,r1,r2,r3⟩:=QO (q:=⟨q.l ++ [x]⟩) (i:=q.l.length) (by simp) (by simp;omega) ⟨fun j y z hj hji hx hy=>by
    dsimp only at hx hy
    rw [eq1] at hx hy
    have hjl:j < (qs q.l).length:=by have:=AE hx;simp at this;rw [FW] at this ⊢;omega
    rw [List.getElem?_append_left hjl] at hx
    rw [List.getElem?_append_left (by omega)] at hy
    exact h j y z hj hx hy,fun j y z h1 h2 h3 hx hy=>by
    dsimp only at hx
    have:=AE hx
    rw [FW] at this
    simp at this
    omega⟩
  rw [r1,Am]
  refine ⟨_,rfl,r2,r3.trans ?_⟩
  dsimp only
  rw [eq1]
  exact List.perm_append_comm (l₁:=qs q.l) (l₂:=[_])
theorem ON {q:BQ} {n:Nat} (hn:n≤q.l.length) (hl:q.l.length≤1000000) (h:DownI (qs (q.l.take n)) 0):∃ r,CR q 0 (n:Int)=some r∧HeapOk (qs (r.2.l.take n))∧(qs (r.2.l.take n)).Perm (qs (q.l.take n))∧r.2.l.drop n=q.l.drop n∧r.2.l.length=q.l.length:=by
  unfold CR
  refine LK (fun s=>∃ i:Nat,s.1=(i:Int)∧DownI (qs (s.2.l.take n)) i∧i≤n∧(qs (s.2.l.take n)).Perm (qs (q.l.take n))∧s.2.l.drop n=q.l.drop n∧s.2.l.length=q.l.length) (fun s=>HeapOk (qs (s.2.l.take n))∧(qs (s.2.l.take n)).Perm (qs (q.l.take n))∧s.2.l.drop n=q.l.drop n∧s.2.l.length=q.l.length) (fun _=>False) (fun s=>n - s.1.toNat) ⟨0,rfl,h,by omega,List.Perm.refl _,rfl,rfl⟩ ?_ ?_ (fun s hs=>hs.elim)
  · rintro ⟨c,s⟩ ⟨i,hc,hd,hi,hp,hdr,hsl⟩
    dsimp only at hc hd hi hp hdr hsl ⊢
    subst hc
    rw [Cy (by unfold inI64;omega),Am,Cy (by unfold inI64;omega),Am]
    by_cases h1:(n:Int)≤2 * (i:Int) + 1
    · rw [if_pos h1,Am,Bl]
      refine .inr (.inl ⟨_,rfl,hd.heap fun j x y hj hji hx _=>?_,hp,hdr,hsl⟩)
      have:=AE hx
      rw [FW,List.length_take] at this
      omega
    rw [if_neg h1,if_neg (by omega),Am,BB]
    obtain ⟨a,ha⟩:=AF (l:=s.l) (k:=i) (by omega)
    obtain ⟨b,hb⟩:=AF (l:=s.l) (k:=2 * i + 1) (by omega)
    have tk:∀ {k:Nat} {x:OEn},k < n→s.l[k]?=some x→(qs (s.l.take n))[k]?=some (toQ x):=fun {k x} hk hx=>FX (by rw [List.getElem?_take_of_lt hk];exact hx)
    have cast1:2 * (i:Int) + 1=((2 * i + 1:Nat):Int):=by omega
    have cast2:2 * (i:Int) + 1 + 1=((2 * i + 2:Nat):Int):=by omega
    have rest:∀ (c:Nat) (d:OEn),(c=2 * i + 1∨c=2 * i + 2)→c < n→s.l[c]?=some d→(∀ (j:Nat) x,0 < j→(j - 1) / 2=i→(qs (s.l.take n))[j]?=some x→nb x (toQ d))→(∃ s',(bnd (Cd s.l (c:Int) (i:Int)) fun q97=>if q97=true then bnd (BT s.l (i:Int) (c:Int)) fun q109=>some (Ctl.next (ρ:=Bool×BQ) ((c:Int),(⟨q109⟩:BQ))) else some (.brk ((i:Int),s)))=some (.next s')∧(∃ i:Nat,s'.1=(i:Int)∧DownI (qs (s'.2.l.take n)) i∧i≤n∧(qs (s'.2.l.take n)).Perm (qs (q.l.take n))∧s'.2.l.drop n=q.l.drop n∧s'.2.l.length=q.l.length)∧n - s'.1.toNat < n - ((i:Int)).toNat)∨(∃ s',(bnd (Cd s.l (c:Int) (i:Int)) fun q97=>if q97=true then bnd (BT s.l (i:Int) (c:Int)) fun q109=>some (Ctl.next (ρ:=Bool×BQ) ((c:Int),(⟨q109⟩:BQ))) else some (.brk ((i:Int),s)))=some (.brk s')∧HeapOk (qs (s'.2.l.take n))∧(qs (s'.2.l.take n)).Perm (qs (q.l.take n))∧s'.2.l.drop n=q.l.drop n∧s'.2.l.length=q.l.length)∨∃ r,(bnd (Cd s.l (c:Int) (i:Int)) fun q97=>if q97=true then bnd (BT s.l (i:Int) (c:Int)) fun q109=>some (Ctl.next (ρ:=Bool×BQ) ((c:Int),(⟨q109⟩:BQ))) else some (.brk ((i:Int),s)))=some (.ret r)∧False:=by
      intro c d hc hcn hd' hs
      rw [Jn hd' ha,Am]
      have e1:qs (((s.l.set i d).set c a).take n)=((qs (s.l.take n)).set i (toQ d)).set c (toQ a):=by
        rw [List.take_set,List.take_set,Il,Il]
      by_cases hda:bfr (toQ d) (toQ a)
      · rw [decide_eq_true hda,Bl,Jo ha hd',Am]
        refine .inl ⟨_,rfl,⟨c,rfl,?_,by omega,?_,?_,by simp;exact hsl⟩,?_⟩
        · dsimp only;rw [e1];exact hd.step hc (tk (by omega) ha) (tk hcn hd') hda hs
        · dsimp only;rw [e1];exact (LL (tk (by omega) ha) (tk hcn hd')).trans hp
        · dsimp only
          rw [← hdr]
          apply List.ext_getElem?
          intro k
          rw [List.getElem?_drop,List.getElem?_drop,List.getElem?_set_ne (by omega),List.getElem?_set_ne (by omega)]
        · dsimp only;omega
      · rw [decide_eq_false hda,BB]
        refine .inr (.inl ⟨_,rfl,hd.heap fun j x y hj hji hx hy=>?_,hp,hdr,hsl⟩)
        rw [tk (by omega) ha] at hy
        obtain rfl:=Option.some.inj hy
        exact Hv (hs j x hj hji hx) hda
    rw [Cy (by unfold inI64;omega),Am]
    by_cases h2:2 * (i:Int) + 1 + 1 < (n:Int)
    · obtain ⟨d,hd'⟩:=AF (l:=s.l) (k:=2 * i + 2) (by omega)
      rw [if_pos h2,cast2,cast1,Jn hd' hb,Am]
      by_cases hdb:bfr (toQ d) (toQ b)
      · rw [decide_eq_true hdb,Bl,Am,Bl,Am]
        refine rest (2 * i + 2) d (.inr rfl) (by omega) hd' fun j x hj hji hx=>?_
        have:j=2 * i + 1∨j=2 * i + 2:=by omega
        rcases this with rfl|rfl
        · rw [tk (by omega) hb] at hx;obtain rfl:=Option.some.inj hx;exact KY hdb
        · rw [tk (by omega) hd'] at hx;obtain rfl:=Option.some.inj hx;exact JS _
      · rw [decide_eq_false hdb,BB,Am,BB,Am]
        refine rest (2 * i + 1) b (.inl rfl) (by omega) hb fun j x hj hji hx=>?_
        have:j=2 * i + 1∨j=2 * i + 2:=by omega
        rcases this with rfl|rfl
        · rw [tk (by omega) hb] at hx;obtain rfl:=Option.some.inj hx;exact JS _
        · rw [tk (by omega) hd'] at hx;obtain rfl:=Option.some.inj hx;exact hdb
    · rw [if_neg h2,Am,BB,Am,cast1]
      refine rest (2 * i + 1) b (.inl rfl) (by omega) hb fun j x hj hji hx=>?_
      have:j=2 * i + 1:=by have:=AE hx;rw [FW,List.length_take] at this;omega
      subst this
      rw [tk (by omega) hb] at hx;obtain rfl:=Option.some.inj hx;exact JS _
  · intro s hs
    by_cases hz:0 < s.1
    · rw [BL,if_pos hz,Am];exact ⟨_,rfl,hs⟩
    · rw [BL,if_neg hz,Am];exact ⟨_,rfl,hs⟩
theorem PS {q:BQ} (h:HeapOk (qs q.l)) (h0:0 < q.l.length) (hl:q.l.length≤900000):∃ r,CJ q=some r∧∃ (e:OEn) (q':BQ),r=((⟨e⟩:AI),q')∧HeapOk (qs q'.l)∧(qs q.l).Perm (toQ e :: qs q'.l)∧∀ x∈qs q.l,nb x (toQ e):=by
  obtain ⟨e,he⟩:=AF (l:=q.l) (k:=0) h0
  obtain ⟨z,hz⟩:=AF (l:=q.l) (k:=q.l.length - 1) (by omega)
  have cz:((q.l.length:Int) - 1)=((q.l.length - 1:Nat):Int):=by omega
  have sw:BT q.l 0 ((q.l.length - 1:Nat):Int)=some ((q.l.set 0 z).set (q.l.length - 1) e):=Jo (i:=0) he hz
  unfold CJ BY
  rw [Am,Cy (by unfold inI64;omega),Am,cz,sw,Am]
  have tk:((q.l.set 0 z).set (q.l.length - 1) e).take (q.l.length - 1)=(q.l.set 0 z).take (q.l.length - 1):=by
    rw [List.take_set]
    exact List.set_eq_of_length_le (by simp)
  have hperm:(qs q.l).Perm (toQ e :: qs ((q.l.set 0 z).take (q.l.length - 1))):=by
    have:q.l.Perm (e :: (q.l.set 0 z).take (q.l.length - 1)):=by
      cases hq:q.l with
      | nil=>rw [hq] at h0;simp at h0
      | cons a tl =>
        rw [hq] at he hz
        simp at he
        subst he
        cases htl:tl.reverse with
        | nil =>
          have:tl=[]:=by simpa using htl
          subst this
          simp
        | cons w r =>
          have htl':tl=r.reverse ++ [w]:=by have:=congrArg List.reverse htl;simpa using this
          subst htl'
          simp at hz
          subst hz
          simp
    exact this.map toQ
  obtain ⟨r,r1,r2,r3,r4,r5⟩:=ON (q:=⟨(q.l.set 0 z).set (q.l.length - 1) e⟩) (n:=q.l.length - 1) (by simp) (by simp;omega) (by
    dsimp only
    rw [tk]
    refine ⟨fun j x y hj hjp hx hy=>?_,fun j x y h1=>by omega⟩
    rw [PR,Il] at hx hy
    have hx':=KA hx
    have hy':=KA hy
    rw [List.getElem?_set_ne (by omega)] at hx' hy'
    exact h j x y hj hx' hy')
  dsimp only at r3 r4 r5
  rw [tk] at r3
  simp only [List.length_set] at r5
  rw [r1,Am]
  unfold Es
  have hlast:r.2.l[q.l.length - 1]?=some e:=by
    have:(r.2.l.drop (q.l.length - 1))[0]?=some e:=by
      rw [r4,List.getElem?_drop,Nat.add_zero,List.getElem?_set_self (by simp;omega)]
    rwa [List.getElem?_drop,Nat.add_zero] at this
  have hcut:cutI r.2.l 0 ((q.l.length - 1:Nat):Int)=some (r.2.l.take (q.l.length - 1)):=by
    unfold cutI
    rw [if_pos (by simp;omega)]
    simp
  rw [r5,cz,Cy (by unfold inI64;omega),Am,Bg,hlast,Am,Am,hcut,Am,Am]
  exact ⟨_,rfl,e,⟨r.2.l.take (q.l.length - 1)⟩,rfl,r2,hperm.trans (List.Perm.cons _ r3.symm),NQ h (FX he)⟩
end
section
open Go Go.RowKit
def rangeI (n:Nat):List Int:=(List.range n).map fun i:Nat=>(i:Int)
theorem Fw {n:Nat} {x:Int}:x∈rangeI n↔0≤x∧x < n:=by
  unfold rangeI
  rw [List.mem_map]
  constructor
  · rintro ⟨i,hi,rfl⟩;have:=List.mem_range.1 hi;omega
  · rintro ⟨h1,h2⟩;exact ⟨x.toNat,List.mem_range.2 (by omega),by omega⟩
theorem Gn (n:Nat):(rangeI n).length=n:=by simp [rangeI]
theorem GG (n:Nat):(rangeI n).Nodup:=by
  unfold rangeI
  rw [List.nodup_iff_pairwise_ne,List.pairwise_map]
  exact (List.nodup_iff_pairwise_ne.1 List.nodup_range).imp fun h=>by omega
theorem NS {l:List Int} {x:Int} (hn:l.Nodup) (h:x∈l):l.count x=1:=by
  have h1:=List.nodup_iff_count.1 hn x
  have h2:=List.count_pos_iff.2 h
  omega
def PermR (l:List Int) (n:Nat):Prop:=l.Perm (rangeI n)
theorem FG:∀ {l₁ l₂:List Int},l₁.Nodup→(∀ x∈l₁,x∈l₂)→l₂.length≤l₁.length→l₁.Perm l₂
  | [],l₂,_,_,hl=>by
    have:l₂=[]:=List.eq_nil_of_length_eq_zero (by simpa using hl)
    rw [this]
  | x :: l₁,l₂,hn,hs,hl=>by
    have hx:=hs x List.mem_cons_self
    have hp:=List.perm_cons_erase hx
    obtain ⟨h1,h2⟩:=List.nodup_cons.1 hn
    refine (List.Perm.cons x (FG h2 (fun y hy=>?_) ?_)).trans hp.symm
    · have:y≠x:=fun e=>h1 (e ▸ hy)
      exact (List.mem_erase_of_ne this).2 (hs y (List.mem_cons_of_mem _ hy))
    · rw [List.length_erase_of_mem hx]
      simp at hl;omega
theorem PermR.len {l:List Int} {n:Nat} (h:PermR l n):l.length=n:=by rw [h.length_eq,Gn]
theorem PermR.mem {l:List Int} {n:Nat} (h:PermR l n) {x:Int} (hx:x∈l):0≤x∧x < n:=Fw.1 (h.mem_iff.1 hx)
theorem PermR.nodup {l:List Int} {n:Nat} (h:PermR l n):l.Nodup:=h.symm.nodup (GG n)
theorem LO {l:List Int} {n:Nat} (h1:l.Nodup) (h2:∀ x∈l,0≤x∧x < n) (h3:l.length=n):PermR l n:=FG h1 (fun x hx=>Fw.2 (h2 x hx)) (by rw [Gn];omega)
theorem Fc {p q:Prop} (h:p↔q):some (bof p)=some (bof q):=by rw [JA h]
theorem DP {α:Type} {l:List α} {k:Nat} {x y:α} (h:l[k]?=some x):y∈l.take (k + 1)↔y∈l.take k∨y=x:=by
  rw [List.take_add_one,h,List.mem_append];simp
theorem PT      {l:List Int} {n:Int} (hl:l.length≤1000000∨(l.length:Int)≠n):BV l n=some (bof ((l.length:Int)=n∧PermR l l.length)):=by
  unfold BV
  by_cases hn:(l.length:Int)=n
  case neg=>rw [if_pos hn,AQ (fun h=>hn h.1)]
  have hl':l.length≤1000000:=hl.resolve_right fun h=>h hn
  subst hn
  rw [if_neg (by simp),FS (by omega) (by omega),Am]
  rcases IE (ρ:=Bool) (f:=fun (_:Nat) (a26:Int) (s23:(List Bool))=>bnd (if a26 < 0 then (some true) else (if (l.length:Int)≤a26 then (some true) else (bnd (atI s23 a26) fun a54=>some a54)):Option Bool) fun y48=>if y48=true then (some (.ret false)) else (bnd (atI s23 a26) fun _=>some (.next (s23.set (a26).toNat true)))) (xs:=l) (s₀:=List.replicate l.length false)
    (fun k s=>s.length=l.length∧(∀ j:Nat,j < l.length→s[j]?=some (bof ((j:Int)∈l.take k)))∧(l.take k).Nodup∧∀ x∈l.take k,0≤x∧x < l.length) (fun r=>r=false∧¬ PermR l l.length)
    ⟨by simp, fun j hj=>by rw [List.getElem?_replicate,if_pos hj,List.take_zero,AQ (List.not_mem_nil)],by simp,by simp⟩ (fun k x s hx hI=>by
      obtain ⟨i1,i2,i3,i4⟩:=hI
      by_cases h1:x < 0
      · rw [if_pos h1,Am,Bl]
        exact .inr ⟨_,rfl,rfl,fun hp=>by have:=hp.mem (List.mem_of_getElem? hx);omega⟩
      · rw [if_neg h1]
        by_cases h2:(l.length:Int)≤x
        · rw [if_pos h2,Am,Bl]
          exact .inr ⟨_,rfl,rfl,fun hp=>by have:=hp.mem (List.mem_of_getElem? hx);omega⟩
        · rw [if_neg h2]
          obtain ⟨j,rfl⟩:=Int.eq_ofNat_of_zero_le (by omega:0≤x)
          rw [Bg,i2 j (by omega),Am,Am]
          by_cases hm:(j:Int)∈l.take k
          · rw [Bf hm,Bl]
            refine .inr ⟨_,rfl,rfl,fun hp=>?_⟩
            have hnd:=hp.nodup
            rw [← List.take_append_drop k l,List.nodup_append] at hnd
            have hd:(j:Int)∈l.drop k:=List.mem_of_getElem? (i:=0) (by rw [List.getElem?_drop,Nat.add_zero];exact hx)
            exact hnd.2.2 _ hm _ hd rfl
          · rw [AQ hm,BB,Am]
            refine .inl ⟨_,rfl,by simpa using i1,fun q hq=>?_,?_,fun y hy=>?_⟩
            · rw [show ((j:Int)).toNat=j from by omega,List.getElem?_set]
              by_cases hjq:j=q
              · subst hjq
                rw [if_pos rfl,if_pos (by omega),Bf ((DP hx).2 (.inr rfl))]
              · rw [if_neg hjq,i2 q hq]
                refine Fc ⟨fun h=>(DP hx).2 (.inl h),fun h=>((DP hx).1 h).resolve_right (by omega)⟩
            · rw [List.take_add_one,hx]
              refine List.nodup_append.2 ⟨i3,by simp,fun a ha b hb=>?_⟩
              have:b=(j:Int):=by simpa using hb
              rw [this];exact fun e=>hm (e ▸ ha)
            · rcases (DP hx).1 hy with hy|rfl
              · exact i4 y hy
              · omega) with ⟨s,hr,_,_,hnd,hrg⟩|⟨r,hr,rfl,hno⟩
  · rw [hr,Am,BL]
    rw [List.take_length] at hnd hrg
    rw [Bf ⟨rfl,LO hnd hrg rfl⟩]
  · rw [hr,Am,Ht,AQ (fun h=>hno h.2)]
theorem Nc {l:List Int} {v:Int} {ρ:Type} (hl:l.length≤1000000):rng (ρ:=ρ) (fun (_:Nat) (a28:Int) (s25:Int)=>if a28=v then (bnd (chkI (s25 + 1)) fun n49=>some (.next n49)) else (some (.next s25))) l 0 0=some (.done ((l.count v:Nat):Int)):=by
  rw [DL (fun k=>(((l.take k).count v:Nat):Int)) ?ha ?hb,List.take_length]
  case ha=>rfl
  case hb =>
    intro k x hx
    have hk:=AE hx
    have hc:=List.count_le_length (a:=v) (l:=l.take k)
    rw [List.length_take] at hc
    rw [List.take_add_one,hx,List.count_append]
    by_cases h:x=v
    · rw [if_pos h,Cy (by unfold inI64;omega),Am]
      subst h;simp
    · rw [if_neg h];simp [h]
theorem Nd {l:List Int} {n:Int} (hl:l.length≤1000000∨(l.length:Int)≠n):Cl l n=some (bof ((l.length:Int)=n∧PermR l l.length)):=by
  unfold Cl
  by_cases hn:(l.length:Int)=n
  case neg=>rw [if_pos hn,AQ (fun h=>hn h.1)]
  have hl':l.length≤1000000:=hl.resolve_right fun h=>h hn
  subst hn
  rw [if_neg (by simp),Mu,Am]
  have key:=IE (ρ:=Bool) (f:=fun (_:Nat) (k10:Nat) (_:Unit)=>bnd (rng (ρ:=Ctl Unit Bool) (fun (_:Nat) (a28:Int) (s25:Int)=>if a28=(k10:Int) then (bnd (chkI (s25 + 1)) fun n49=>some (.next n49)) else (some (.next s25))) l 0 0) fun res23=>fin res23 fun (s56:Int)=>if s56≠1 then (some (.ret false)) else (some (.next ()))) (xs:=List.range l.length) (s₀:=())
    (fun k _=>∀ j:Nat,j < k→l.count (j:Int)=1) (fun r=>r=false∧¬ PermR l l.length) (fun j hj=>by omega) (fun k x _ hx hI=>by
      obtain ⟨hlt,rfl⟩:=List.getElem?_eq_some_iff.1 hx
      have hk:k < l.length:=by simpa using hlt
      rw [List.getElem_range,Nc hl',Am,BL]
      by_cases h1:l.count (k:Int)=1
      · rw [if_neg (by rw [h1];simp)]
        exact .inl ⟨_,rfl,fun j hj=>by
          by_cases hjk:j=k
          · rw [hjk];exact h1
          · exact hI j (by omega)⟩
      · rw [if_pos (by omega)]
        refine .inr ⟨_,rfl,rfl,fun hp=>h1 ?_⟩
        rw [hp.count_eq,NS (GG _) (Fw.2 ⟨by omega,by omega⟩)])
  rcases key with ⟨_,hr,hc⟩|⟨r,hr,rfl,hno⟩
  · rw [show rngN _ _ _=_ from hr,Am,BL]
    rw [List.length_range] at hc
    have hp:PermR l l.length:=(FG (GG l.length) (fun x hx=>by
      obtain ⟨h1,h2⟩:=Fw.1 hx
      have:=hc x.toNat (by omega)
      rw [show ((x.toNat:Nat):Int)=x from by omega] at this
      exact List.count_pos_iff.1 (by omega)) (by rw [Gn];omega)).symm
    rw [Bf ⟨rfl,hp⟩]
  · rw [show rngN _ _ _=_ from hr,Am,Ht,AQ (fun h=>hno h.2)]
end
section
open Go Go.RowKit
theorem FH {α:Type} {f:Nat→α→Unit→Option (Ctl Unit Bool)} {xs:List α} (P:Nat→Prop) (h:∀ k x,xs[k]?=some x→f k x ()=if bof (P k)=true then some (.next ()) else some (.ret false)) :
    (bnd (rng (ρ:=Bool) f xs 0 ()) fun r=>fin r fun _=>some true)=some (bof (∀ k,k < xs.length→P k)):=by
  rcases IE (f:=f) (xs:=xs) (s₀:=()) (fun k _=>∀ j,j < k→P j) (fun r=>r=false∧¬ ∀ k,k < xs.length→P k) (fun j hj=>by omega) (fun k x _ hx hI=>by
    rw [h k x hx]
    by_cases hp:P k
    · rw [Bf hp,Bl]
      exact .inl ⟨_,rfl,Cz hI hp⟩
    · rw [AQ hp,BB]
      exact .inr ⟨_,rfl,rfl,fun hh=>hp (hh k (AE hx))⟩) with ⟨_,hr,hc⟩|⟨r,hr,rfl,hno⟩
  · rw [hr,Am,BL,Bf hc]
  · rw [hr,Am,Ht,AQ hno]
theorem LP {l:List Int} {n:Nat} (hn:n≤1000000):BV l (n:Int)=some (bof (PermR l n)):=by
  rw [PT (by omega)]
  exact Fc ⟨fun h=>by       have:l.length=n:=by omega
                            rw [← this];exact h.2,fun h=>⟨by rw [h.len],by rw [h.len];exact h⟩⟩
theorem Im {l:List          Int} {n:Nat} (hn:n≤1000000):Cl l (n:Int)=some (bof (PermR l n)):=by
  rw [Nd (by omega)]
  exact Fc ⟨fun h=>by       have:l.length=n:=by omega
                            rw [← this];exact h.2,fun h=>⟨by rw [h.len],by rw [h.len];exact h⟩⟩
def FactsPerm (t:Tsk) (x:Swp):Prop:=PermR x.vars t.vars.length∧x.vals.length=t.vars.length∧∀ (k:Nat),k < t.vars.length→∃ (n:Nat) (a:Int) (l:List Int),t.vars[k]?=some (n:Int)∧x.vars[k]?=some a∧x.vals[k]?=some l∧atI t.vars a=some (n:Int)∧PermR l n
theorem OO {t:Tsk} {x:Swp} (hok:TaskOk t):DH t x=some (bof (FactsPerm t x)):=by
  obtain ⟨hl,_,hv,_⟩:=hok
  unfold DH
  rw [LP (by omega),Am]
  by_cases h1:PermR x.vars t.vars.length
  case neg=>rw [AQ h1,BB,Am,Bl,AQ (fun h=>h1 h.1)]
  rw [Bf h1,Bl]
  by_cases h2:x.vals.length=t.vars.length
  case neg=>rw [if_pos (by omega),Am,Bl,AQ (fun h=>h2 h.2.1)]
  rw [if_neg (by omega),Am,BB]
  rw [FH (fun k=>∃ (n:Nat) (a:Int) (l:List Int),t.vars[k]?=some (n:Int)∧x.vars[k]?=some a∧x.vals[k]?=some l∧atI t.vars a=some (n:Int)∧PermR l n) (fun k y hy=>by
    have hk:=AE hy
    obtain ⟨a,ha⟩:=AF (l:=x.vars) (k:=k) (by rw [h1.len];omega)
    obtain ⟨l,hll⟩:=AF (l:=x.vals) (k:=k) (by omega)
    have hy2:=hv k y hy
    obtain ⟨n,rfl⟩:=Int.eq_ofNat_of_zero_le (by omega:0≤y)
    obtain ⟨ha1,ha2⟩:=h1.mem (List.mem_of_getElem? ha)
    obtain ⟨j,rfl⟩:=Int.eq_ofNat_of_zero_le ha1
    obtain ⟨m,hm⟩:=AF (l:=t.vars) (k:=j) (by omega)
    rw [ha,Am,Bg,hm,Am]
    by_cases hmn:m=(n:Int)
    · rw [if_neg (by simpa using hmn),hll,Am,LP (by omega),Am]
      by_cases hp:PermR l n
      · rw [Bf hp,Bl,Am,BB,Bf ⟨n,_,l,hy,rfl,rfl,by rw [Bg,hm,hmn],hp⟩,Bl]
      · rw [AQ hp,BB,Am,Bl,AQ (fun ⟨n',a',l',q1,q2,q3,q4,q5⟩=>by
          have e1:(n:Int)=n':=by rw [hy] at q1;exact Option.some.inj q1
          have e2:l=l':=Option.some.inj q3
          have e3:n=n':=by omega
          subst e2 e3;exact hp q5),BB]
    · rw [if_pos hmn,Am,Bl,AQ (fun ⟨n',a',l',q1,q2,q3,q4,q5⟩=>by
        have e1:(n:Int)=n':=by rw [hy] at q1;exact Option.some.inj q1
        have e2:(j:Int)=a':=Option.some.inj q2
        rw [← e2,Bg,hm] at q4
        exact hmn (by rw [e1];exact Option.some.inj q4)),BB])]
  exact Fc ⟨fun h=>⟨h1,h2,h⟩,fun h=>h.2.2⟩
theorem OP {t:Tsk} {x:Swp} (hok:TaskOk t):Ey t x=some (bof (FactsPerm t x∧PermR x.ops t.ops.length)):=by
  obtain ⟨hl,hlo,hv,_⟩:=hok
  unfold Ey
  rw [Im (by omega),Am]
  by_cases h1:PermR x.vars t.vars.length
  case neg=>rw [AQ h1,BB,Am,Bl,AQ (fun h=>h1 h.1.1)]
  rw [Bf h1,Bl]
  by_cases h2:x.vals.length=t.vars.length
  case neg=>rw [if_pos (by omega),Am,Bl,AQ (fun h=>h2 h.1.2.1)]
  rw [if_neg (by omega),Im (by omega),Am]
  by_cases h3:PermR x.ops t.ops.length
  case neg=>rw [AQ h3,BB,Am,Bl,AQ (fun h=>h3 h.2)]
  rw [Bf h3,Bl,Am,BB]
  rw [FH (fun k=>∃ (n:Nat) (a:Int) (l:List Int),t.vars[k]?=some (n:Int)∧x.vars[k]?=some a∧x.vals[k]?=some l∧atI t.vars a=some (n:Int)∧PermR l n) (fun k y hy=>by
    have hk:=AE hy
    obtain ⟨a,ha⟩:=AF (l:=x.vars) (k:=k) (by rw [h1.len];omega)
    obtain ⟨l,hll⟩:=AF (l:=x.vals) (k:=k) (by omega)
    have hy2:=hv k y hy
    obtain ⟨n,rfl⟩:=Int.eq_ofNat_of_zero_le (by omega:0≤y)
    obtain ⟨ha1,ha2⟩:=h1.mem (List.mem_of_getElem? ha)
    obtain ⟨j,rfl⟩:=Int.eq_ofNat_of_zero_le ha1
    obtain ⟨m,hm⟩:=AF (l:=t.vars) (k:=j) (by omega)
    rw [ha,Am,Bg,hm,Am]
    by_cases hmn:m=(n:Int)
    · rw [if_neg (by simpa using hmn),hll,Am,Im (by omega),Am]
      by_cases hp:PermR l n
      · rw [Bf hp,Bl,Am,BB,Bf ⟨n,_,l,hy,rfl,rfl,by rw [Bg,hm,hmn],hp⟩,Bl]
      · rw [AQ hp,BB,Am,Bl,AQ (fun ⟨n',a',l',q1,q2,q3,q4,q5⟩=>by
          have e1:(n:Int)=n':=by rw [hy] at q1;exact Option.some.inj q1
          have e2:l=l':=Option.some.inj q3
          have e3:n=n':=by omega
          subst e2 e3;exact hp q5),BB]
    · rw [if_pos hmn,Am,Bl,AQ (fun ⟨n',a',l',q1,q2,q3,q4,q5⟩=>by
        have e1:(n:Int)=n':=by rw [hy] at q1;exact Option.some.inj q1
        have e2:(j:Int)=a':=Option.some.inj q2
        rw [← e2,Bg,hm] at q4
        exact hmn (by rw [e1];exact Option.some.inj q4)),BB])]
  exact Fc ⟨fun h=>⟨⟨h1,h2,h⟩,h3⟩,fun h=>h.1.2.2⟩
theorem FQ (a b:List Fct):BF a b=some (bof (a=b)):=by
  unfold BF
  by_cases hl:a.length=b.length
  case neg=>rw [if_pos (by omega),AQ (fun h=>hl (by rw [h]))]
  rw [if_neg (by omega),FH (fun k=>a[k]?=b[k]?) (fun k y hy=>by
    obtain ⟨z,hz⟩:=AF (l:=b) (k:=k) (by have:=AE hy;omega)
    rw [hz,Am]
    by_cases h:y=z
    · rw [if_neg (by simp [h]),Bf (by rw [hy,h]),Bl]
    · rw [if_pos (fun hh=>h (by cases y;cases z;simpa using hh)),AQ (by rw [hy];simpa using h),BB])]
  refine Fc ⟨fun h=>List.ext_getElem? fun k=>?_,fun h=>by rw [h];exact fun _ _=>rfl⟩
  by_cases hk:k < a.length
  · exact h k hk
  · rw [List.getElem?_eq_none (by omega),List.getElem?_eq_none (by omega)]
theorem Hw (a b:List Fct):Ei a b=some (bof (a=b)):=FQ a b
theorem alike1 (a b:Eff):Dc a b=some (bof (a=b)):=by
  unfold Dc
  by_cases h1:a.var=b.var
  case neg=>rw [if_neg h1,Am,AQ (fun h=>h1 (by rw [h]))]
  by_cases h2:a.val=b.val
  case neg=>rw [if_pos h1,if_neg h2,Am,AQ (fun h=>h2 (by rw [h]))]
  rw [if_pos h1,if_pos h2,FQ,Am]
  by_cases h3:a.cond=b.cond
  · rw [Bf h3,Bl,Am,Bf (by cases a;cases b;simp_all)]
  · rw [AQ h3,BB,Am,AQ (fun h=>h3 (by rw [h]))]
theorem Nf (a b:List Eff):Ba a b=some (bof (a=b)):=by
  unfold Ba
  by_cases hl:a.length=b.length
  case neg=>rw [if_pos (by omega),AQ (fun h=>hl (by rw [h]))]
  rw [if_neg (by omega),FH (fun k=>a[k]?=b[k]?) (fun k y hy=>by
    obtain ⟨z,hz⟩:=AF (l:=b) (k:=k) (by have:=AE hy;omega)
    rw [hz,Am,alike1,Am]
    by_cases h:y=z
    · rw [Bf h,Bl,Bf (by rw [hy,h]),Bl]
    · rw [AQ h,BB,AQ (by rw [hy];simpa using h),BB])]
  refine Fc ⟨fun h=>List.ext_getElem? fun k=>?_,fun h=>by rw [h];exact fun _ _=>rfl⟩
  by_cases hk:k < a.length
  · exact h k hk
  · rw [List.getElem?_eq_none (by omega),List.getElem?_eq_none (by omega)]
theorem OQ (p q:Opr):DI p q=some (bof (p.cost=q.cost∧p.pre=q.pre∧p.effs=q.effs)):=by
  unfold DI
  by_cases h1:p.cost=q.cost
  case neg=>rw [if_neg h1,Am,AQ (fun h=>h1 h.1)]
  rw [if_pos h1,FQ,Am]
  by_cases h2:p.pre=q.pre
  case neg=>rw [AQ h2,BB,Am,AQ (fun h=>h2 h.2.1)]
  rw [Bf h2,Bl,Nf,Am]
  by_cases h3:p.effs=q.effs
  · rw [Bf h3,Bl,Am,Bf ⟨h1,h2,h3⟩]
  · rw [AQ h3,BB,Am,AQ (fun h=>h3 h.2.2)]
def imF (x:Swp) (f:Fct):Fct:=⟨(x.vars[f.var.toNat]?).getD 0,(((x.vals[f.var.toNat]?).getD [])[f.val.toNat]?).getD 0⟩
def imL (x:Swp) (fs:List Fct):List Fct:=Bb (fs.map (imF x))
def imE (x:Swp) (e:Eff):Eff:=⟨imL x e.cond,(imF x ⟨e.var,e.val⟩).var,(imF x ⟨e.var,e.val⟩).val⟩
def imO (x:Swp) (o:Opr):Opr:=⟨⟨#[]⟩,o.cost,imL x o.pre,o.effs.map (imE x)⟩
theorem Hi {t:Tsk} {x:Swp} {f:Fct} (hp:FactsPerm t x) (hf:FactOk t.vars f):∃ l,atI x.vars f.var=some (imF x f).var∧atI x.vals f.var=some l∧atI l f.val=some (imF x f).val∧0≤(imF x f).var∧0≤(imF x f).val:=by
  obtain ⟨h1,h2,n,hn,h3⟩:=hf
  obtain ⟨fv,fz⟩:=f
  simp only at h1 h2 hn h3 ⊢
  obtain ⟨j,rfl⟩:=Int.eq_ofNat_of_zero_le h1
  obtain ⟨i,rfl⟩:=Int.eq_ofNat_of_zero_le h2
  rw [show ((j:Int)).toNat=j from by omega] at hn
  obtain ⟨m,a,l,q1,q2,q3,q4,q5⟩:=hp.2.2 j (AE hn)
  have e:(m:Int)=n:=by rw [hn] at q1;exact (Option.some.inj q1).symm
  obtain ⟨z,hz⟩:=AF (l:=l) (k:=i) (by rw [q5.len];omega)
  have ha:=hp.1.mem (List.mem_of_getElem? q2)
  have hz':=q5.mem (List.mem_of_getElem? hz)
  refine ⟨l,?_,?_,?_,?_,?_⟩<;>simp [imF,Bg,q2,q3,hz]<;>omega
end
section
open Go Go.RowKit
theorem EM {vars:List Int} {f:List Fct} (h:FactsOk vars f):(∀ x∈f,FactOk vars x)∧f.Pairwise fun x y=>x.var < y.var:=by
  refine ⟨fun x hx=>by obtain ⟨i,hi⟩:=List.getElem?_of_mem hx;exact h.1 i x hi,?_⟩
  rw [List.pairwise_iff_getElem]
  intro i j hi hj hij
  exact Gj h j i _ _ hij (List.getElem?_eq_getElem hi) (List.getElem?_eq_getElem hj)
theorem KD {a b:List Fct} (hp:a.Perm b) (ha:a.Pairwise fun x y=>x.var < y.var) (hb:b.Pairwise fun x y=>x.var < y.var):a=b :=
  List.Perm.eq_of_pairwise (fun x y _ _ h1 h2=>by omega) ha hb hp
def VarsNe (f:List Fct):Prop:=f.Pairwise fun x y=>x.var≠y.var
theorem VarsNe.perm {a b:List Fct} (hp:a.Perm b) (h:VarsNe a):VarsNe b:=(hp.pairwise_iff (fun h e=>h e.symm)).1 h
theorem Hx {a:List Fct} (h:VarsNe a):(Bb a).Pairwise fun x y=>x.var < y.var:=by
  have h1:=Mf a
  have h2:VarsNe (Bb a):=h.perm (DD a).symm
  exact (h1.and h2).imp fun ⟨p,q⟩=>by omega
theorem PU {t:Tsk} {x:Swp} {f g:Fct} (hp:FactsPerm t x) (hf:FactOk t.vars f) (hg:FactOk t.vars g) (h:(imF x f).var=(imF x g).var):f.var=g.var:=by
  obtain ⟨_,hf1,_⟩:=Hi hp hf
  obtain ⟨_,hg1,_⟩:=Hi hp hg
  obtain ⟨i,hi,hi'⟩:=FB hf1
  obtain ⟨j,hj,hj'⟩:=FB hg1
  rw [h,← hj'] at hi'
  have h1:i < x.vars.length:=by rw [hj'] at hi';exact AE hi'
  have h2:=AE hj'
  rw [List.getElem?_eq_getElem h1,List.getElem?_eq_getElem h2] at hi'
  have hij:=(List.getElem_inj hp.1.nodup).1 (Option.some.inj hi')
  rw [hi,hj,hij]
theorem Ng {t:Tsk} {x:Swp} {fs:List Fct} (hp:FactsPerm t x) (hf:FactsOk t.vars fs):VarsNe (fs.map (imF x)):=by
  obtain ⟨h1,h2⟩:=EM hf
  unfold VarsNe
  rw [List.pairwise_map]
  refine List.Pairwise.imp_of_mem (fun {a b} ha hb hab=>?_) h2
  intro e
  have:=PU hp (h1 a ha) (h1 b hb) e
  omega
theorem KE {t:Tsk} {fs:List Fct} (hok:TaskOk t) (hf:FactsOk t.vars fs):fs.length≤64:=by have:=EZ hf;have:=hok.1;omega
theorem map_take {α β:Type} {f:α→β} {l:List α} {k:Nat} {x:α} (h:l[k]?=some x):(l.take (k + 1)).map f=(l.take k).map f ++ [f x]:=by
  rw [List.take_add_one,h];simp
theorem In {t:Tsk} {x:Swp} {fs:List Fct} (hok:TaskOk t) (hp:FactsPerm t x) (hf:FactsOk t.vars fs):CL x fs=some (imL x fs):=by
  have hl:=KE hok hf
  unfold CL
  rw [DL (fun k=>(fs.take k).map (imF x)) (by simp) (fun k f hk=>by
    obtain ⟨l,h1,h2,h3,_⟩:=Hi hp (hf.1 k f hk)
    have:=AE hk
    rw [h1,Am,h2,Am,h3,Am,Cp (by simp;omega) (by simp;omega),Am,map_take hk]),Am,BL,List.take_length,if_pos (by simp;omega),Am]
  rfl
def insF (f:Fct):List Fct→List Fct
  | []=>[f]
  | a :: l=>if f.var < a.var then f :: a :: l else a :: insF f l
theorem NT {f:Fct} {ρ:Type}:∀ (l acc:List Fct) (k:Nat),acc.length + l.length≤1000→rng (ρ:=ρ) (fun (_:Nat) (a18:Fct) (s15:(List Fct)×Bool)=>bnd (bnd (if (!s15.2)=true then (if f.var < a18.var then (some true) else (some false)) else (some false):Option Bool) fun y54=>if y54=true then (bnd (appI 16 s15.1 [f]) fun u65=>some (u65,true)) else (some (s15.1,s15.2)):Option ((List Fct)×Bool)) fun y48=>bnd (appI 16 y48.1 [a18]) fun u81=>some (.next (u81,y48.2))) l k (acc,true)=some (.done (acc ++ l,true))
  | [],acc,k,_=>by simp [rng]
  | a :: l,acc,k,h=>by
    simp at h
    have:=NT (f:=f) (ρ:=ρ) l (acc ++ [a]) (k + 1) (by simp;omega)
    rw [rng,Pt,Am,BB,Am,Cp (by simp;omega) (by simp;omega),Am]
    simp only
    rw [this];simp
theorem NU {f:Fct} {ρ:Type}:∀ (l acc:List Fct) (k:Nat),acc.length + l.length≤900→∃ r:List Fct×Bool,rng (ρ:=ρ) (fun (_:Nat) (a18:Fct) (s15:(List Fct)×Bool)=>bnd (bnd (if (!s15.2)=true then (if f.var < a18.var then (some true) else (some false)) else (some false):Option Bool) fun y54=>if y54=true then (bnd (appI 16 s15.1 [f]) fun u65=>some (u65,true)) else (some (s15.1,s15.2)):Option ((List Fct)×Bool)) fun y48=>bnd (appI 16 y48.1 [a18]) fun u81=>some (.next (u81,y48.2))) l k (acc,false)=some (.done r)∧r.1.length≤1000∧(if r.2=true then r.1 else r.1 ++ [f])=acc ++ insF f l
  | [],acc,k,h=>⟨(acc,false),by simp [rng],by simp at h;simp;omega,by simp [insF]⟩
  | a :: l,acc,k,h=>by
    simp at h
    rw [rng,Pu]
    by_cases hlt:f.var < a.var
    · have:=NT (f:=f) (ρ:=ρ) l (acc ++ [f] ++ [a]) (k + 1) (by simp;omega)
      refine ⟨(acc ++ [f] ++ [a] ++ l,true),?_,?_,?_⟩
      · rw [if_pos hlt,Am,Bl,Cp (by simp;omega) (by simp;omega),Am,Am,Cp (by simp;omega) (by simp;omega),Am]
        simp only
        rw [this]
      · simp;omega
      · simp [insF,hlt]
    · obtain ⟨r,h1,h2,h3⟩:=NU (f:=f) (ρ:=ρ) l (acc ++ [a]) (k + 1) (by simp;omega)
      refine ⟨r,?_,h2,?_⟩
      · rw [if_neg hlt,Am,BB,Am,Cp (by simp;omega) (by simp;omega),Am]
        simp only
        rw [h1]
      · rw [h3];simp [insF,hlt]
theorem PV {f:Fct} {l:List Fct} (h:l.length≤900):Ej l f=some (insF f l):=by
  unfold Ej
  obtain ⟨⟨r1,r2⟩,h1,h2,h3⟩:=NU (f:=f) (ρ:=List Fct) l [] 0 (by simpa using h)
  rw [h1,Am,BL]
  simp only at h2 h3 ⊢
  cases r2 with
  | true=>rw [Pt,Am];simpa using h3
  | false=>rw [Pu,Cp (by simp;omega) (by simp;omega),Am,Am];simpa using h3
theorem Ip (f:Fct):∀ l,(insF f l).Perm (f :: l)
  | []=>by simp [insF]
  | a :: l=>by
    unfold insF
    split
    · exact List.Perm.refl _
    · exact ((Ip f l).cons a).trans (List.Perm.swap f a l)
theorem IQ {f:Fct}:∀ {l:List Fct},l.Pairwise (fun x y=>x.var < y.var)→(∀ y∈l,y.var≠f.var)→(insF f l).Pairwise fun x y=>x.var < y.var
  | [],_,_=>by simp [insF]
  | a :: l,h,hn=>by
    obtain ⟨h1,h2⟩:=List.pairwise_cons.1 h
    unfold insF
    split
    · rename_i hlt
      refine List.pairwise_cons.2 ⟨fun y hy=>?_,h⟩
      rcases List.mem_cons.1 hy with rfl|hy
      · exact hlt
      · have:=h1 y hy;omega
    · rename_i hlt
      refine List.pairwise_cons.2 ⟨fun y hy=>?_,IQ h2 fun y hy=>hn y (List.mem_cons_of_mem _ hy)⟩
      rcases List.mem_cons.1 ((Ip f l).mem_iff.1 hy) with rfl|hy
      · have:=hn a List.mem_cons_self;omega
      · exact h1 y hy
theorem OS {l:List Fct} {v:Int} (h:∀ y∈l,y.var≠v):DM l v=some (-1):=by
  unfold DM
  rw [Jk (fun k y hy=>by rw [if_neg (h y (List.mem_of_getElem? hy))]),Am,BL]
theorem PW {l:List Fct} (hl:l.length≤64) (hv:∀ x∈l,0≤x.var∧0≤x.val) (hn:VarsNe l):EJ l=some (Bb l,0):=by
  unfold EJ
  rw [Jk (fun k y hy=>by
    have:=hv y (List.mem_of_getElem? hy)
    rw [if_neg (by omega),if_neg (by omega),Am,BB]),Am,BL]
  obtain ⟨s,h1,h2,h3⟩:=DE (ρ:=List Fct×Int) (f:=fun (_:Nat) (a60:Fct) (s57:(List Fct))=>bnd (DM s57 a60.var) fun q88=>bnd (if 0≤q88 then (if q88≠a60.val then (some true) else (some false)) else (some false):Option Bool) fun y96=>if y96=true then (some (.ret (([]:List Fct),2))) else (if q88 < 0 then (bnd (Ej s57 a60) fun q108=>some (.next q108)) else (some (.next s57)))) (xs:=l) (s₀:=[]) (fun k s=>s.Perm (l.take k)∧s.Pairwise fun x y=>x.var < y.var) ⟨by simp,by simp⟩ (fun k f s hk hI=>by
    obtain ⟨i1,i2⟩:=hI
    have hne:∀ y∈s,y.var≠f.var:=fun y hy=>by
      have hy:=i1.mem_iff.1 hy
      have hd:f∈l.drop k:=List.mem_of_getElem? (i:=0) (by rw [List.getElem?_drop,Nat.add_zero];exact hk)
      have hn':=hn
      unfold VarsNe at hn'
      rw [← List.take_append_drop k l,List.pairwise_append] at hn'
      exact hn'.2.2 y hy f hd
    have hsl:s.length≤900:=by rw [i1.length_eq,List.length_take];omega
    rw [OS hne,Am,if_neg (by omega),Am,BB,if_pos (by omega),PV hsl,Am]
    refine ⟨_,rfl,?_,IQ i2 hne⟩
    rw [List.take_add_one,hk]
    exact (Ip f s).trans ((i1.cons f).trans (List.perm_append_singleton f _).symm))
  rw [h1,Am,BL]
  rw [List.take_length] at h2
  rw [KD (h2.trans (DD l).symm) h3 (Hx hn)]
theorem JV {t:Tsk} {x:Swp} {f:Fct} (hp:FactsPerm t x) (hf:FactOk t.vars f):Ek x f=some (imF x f):=by
  unfold Ek
  obtain ⟨l,h1,h2,h3,_⟩:=Hi hp hf
  rw [h1,Am,h2,Am,h3,Am]
theorem GW {t:Tsk} {x:Swp} {fs:List Fct} (hok:TaskOk t) (hp:FactsPerm t x) (hf:FactsOk t.vars fs):Ds x fs=some (imL x fs):=by
  have hl:=KE hok hf
  unfold Ds
  rw [DL (fun k=>(fs.take k).map (imF x)) (by simp) (fun k f hk=>by
    have:=AE hk
    rw [JV hp (hf.1 k f hk),Am,Cp (by simp;omega) (by simp;omega),Am,map_take hk]),Am,BL,List.take_length,PW (by simpa using hl) (fun y hy=>by
      obtain ⟨f,hf',rfl⟩:=List.mem_map.1 hy
      obtain ⟨_,_,_,_,h⟩:=Hi hp ((EM hf).1 f hf')
      exact h) (Ng hp hf),Am]
  rfl
theorem OU {t:Tsk} {x:Swp} {o:Opr} (hok:TaskOk t) (hp:FactsPerm t x) (ho:OpOk t.vars o):DJ x o=some (imO x o):=by
  obtain ⟨_,_,hl,_,hpre,heff⟩:=ho
  unfold DJ
  rw [In hok hp hpre,Am,Am,DL (fun k=>(o.effs.take k).map (imE x)) (by simp) (fun k e hk=>by
    obtain ⟨h1,h2⟩:=heff k e hk
    obtain ⟨l,g1,g2,g3,_⟩:=Hi hp h2
    have:=AE hk
    rw [show e.var=(⟨e.var,e.val⟩:Fct).var from rfl,g1,Am,g2,Am,show e.val=(⟨e.var,e.val⟩:Fct).val from rfl,g3,Am,In hok hp h1,Am,Cp (by simp;omega) (by simp;omega),Am,map_take hk]
    rfl),Am,BL,List.take_length]
  rfl
theorem PX {a b:Eff}:a=b↔a.var=b.var∧a.val=b.val∧a.cond=b.cond:=⟨fun h=>by rw [h];exact ⟨rfl,rfl,rfl⟩,fun ⟨h1,h2,h3⟩=>by cases a;cases b;simp_all⟩
theorem PY {t:Tsk} {x:Swp} {o p:Opr} (hok:TaskOk t) (hp:FactsPerm t x) (ho:OpOk t.vars o):EK x o p=some (bof (o.cost=p.cost∧imL x o.pre=p.pre∧o.effs.map (imE x)=p.effs)):=by
  obtain ⟨_,_,hl,_,hpre,heff⟩:=ho
  unfold EK
  by_cases h1:o.cost=p.cost
  case neg=>rw [if_pos h1,Am,Bl,AQ (fun h=>h1 h.1)]
  rw [if_neg (by simpa using h1)]
  by_cases h2:o.effs.length=p.effs.length
  case neg=>rw [if_pos (by omega),Am,Bl,AQ (fun h=>h2 (by rw [← h.2.2];simp))]
  rw [if_neg (by omega),GW hok hp hpre,Am,Hw,Am]
  by_cases h3:imL x o.pre=p.pre
  case neg=>rw [AQ h3,BB,Am,Bl,AQ (fun h=>h3 h.2.1)]
  rw [Bf h3,Bl,Am,BB,FH (fun k=>(o.effs.map (imE x))[k]?=p.effs[k]?) (fun k e hk=>by
    obtain ⟨g1,g2⟩:=heff k e hk
    obtain ⟨z,hz⟩:=AF (l:=p.effs) (k:=k) (by have:=AE hk;omega)
    have hE:(o.effs.map (imE x))[k]?=some (imE x e):=by rw [List.getElem?_map,hk];rfl
    rw [JV hp g2,Am,hz,Am,hE]
    have hex:=@PX (imE x e) z
    by_cases k1:(imF x ⟨e.var,e.val⟩).var=z.var
    case neg=>rw [if_pos k1,Am,Bl,AQ (fun h=>k1 (hex.1 (Option.some.inj h)).1),BB]
    rw [if_neg (by simpa using k1),Am]
    by_cases k2:(imF x ⟨e.var,e.val⟩).val=z.val
    case neg=>rw [if_pos k2,Am,Bl,AQ (fun h=>k2 (hex.1 (Option.some.inj h)).2.1),BB]
    rw [if_neg (by simpa using k2),Am,GW hok hp g1,Am,Hw,Am]
    by_cases k3:imL x e.cond=z.cond
    · rw [Bf k3,Bl,Am,BB,Bf (by rw [hex.2 ⟨k1,k2,k3⟩]),Bl]
    · rw [AQ k3,BB,Am,Bl,AQ (fun h=>k3 (hex.1 (Option.some.inj h)).2.2),BB])]
  refine Fc ⟨fun h=>⟨h1,h3,List.ext_getElem? fun k=>?_⟩,fun h=>by rw [h.2.2];exact fun _ _=>rfl⟩
  by_cases hk:k < o.effs.length
  · exact h k hk
  · rw [List.getElem?_eq_none (by simp;omega),List.getElem?_eq_none (by omega)]
def SymP (t:Tsk) (x:Swp):Prop:=FactsPerm t x∧PermR x.ops t.ops.length∧imL x t.goal=t.goal∧∀ k,k < t.ops.length→∃ (o p:Opr) (a:Int),t.ops[k]?=some o∧x.ops[k]?=some a∧atI t.ops a=some p∧o.cost=p.cost∧imL x o.pre=p.pre∧o.effs.map (imE x)=p.effs
theorem IF {t:Tsk} {x:Swp} (hok:TaskOk t):Du t x=some (bof (SymP t x)):=by
  unfold Du
  rw [OO hok,Am]
  by_cases h1:FactsPerm t x
  case neg=>rw [AQ h1,BB,Am,Bl,AQ (fun h=>h1 h.1)]
  have hlo:=hok.2.1
  rw [Bf h1,Bl,LP (by omega),Am]
  by_cases h2:PermR x.ops t.ops.length
  case neg=>rw [AQ h2,BB,Am,Bl,AQ (fun h=>h2 h.2.1)]
  rw [Bf h2,Bl,In hok h1 hok.2.2.2.2.1,Am,FQ,Am]
  by_cases h3:imL x t.goal=t.goal
  case neg=>rw [AQ h3,BB,Am,Bl,AQ (fun h=>h3 h.2.2.1)]
  rw [Bf h3,Bl,Am,BB,FH (fun k=>∃ (o p:Opr) (a:Int),t.ops[k]?=some o∧x.ops[k]?=some a∧atI t.ops a=some p∧o.cost=p.cost∧imL x o.pre=p.pre∧o.effs.map (imE x)=p.effs) (fun k o hk=>by
    have:=AE hk
    obtain ⟨a,ha⟩:=AF (l:=x.ops) (k:=k) (by rw [h2.len];omega)
    obtain ⟨ha1,ha2⟩:=h2.mem (List.mem_of_getElem? ha)
    obtain ⟨j,rfl⟩:=Int.eq_ofNat_of_zero_le ha1
    obtain ⟨p,hp⟩:=AF (l:=t.ops) (k:=j) (by omega)
    rw [ha,Am,Bg,hp,Am,OU hok h1 (hok.2.2.2.2.2 k o hk),Am,OQ,Am]
    have e:(∃ (o p:Opr) (a:Int),t.ops[k]?=some o∧some (j:Int)=some a∧atI t.ops a=some p∧o.cost=p.cost∧imL x o.pre=p.pre∧o.effs.map (imE x)=p.effs)↔((imO x o).cost=p.cost∧(imO x o).pre=p.pre∧(imO x o).effs=p.effs):=by
      constructor
      · rintro ⟨o',p',a',q1,q2,q3,q4⟩
        obtain rfl:o=o':=by rw [hk] at q1;exact Option.some.inj q1
        obtain rfl:=Option.some.inj q2
        rw [Bg,hp] at q3
        obtain rfl:=Option.some.inj q3
        exact q4
      · intro h
        exact ⟨o,p,j,hk,rfl,by rw [Bg,hp],h⟩
    rw [JA e])]
  exact Fc ⟨fun h=>⟨h1,h2,h3,h⟩,fun h=>h.2.2.2⟩
theorem Mp {t:Tsk} {x:Swp}:DN t x=some (bof (TaskOk t∧SymP t x)):=by
  unfold DN GS
  rw [Am]
  by_cases hok:TaskOk t
  case neg=>rw [AQ hok,BB,Am,Bl,AQ (fun h=>hok h.1)]
  rw [Bf hok,Bl,OP hok,Am]
  by_cases h12:FactsPerm t x∧PermR x.ops t.ops.length
  case neg=>rw [AQ h12,BB,Am,Bl,AQ (fun h=>h12 ⟨h.2.1,h.2.2.1⟩)]
  obtain ⟨h1,h2⟩:=h12
  have hlo:=hok.2.1
  rw [Bf ⟨h1,h2⟩,Bl,GW hok h1 hok.2.2.2.2.1,Am,Hw,Am]
  by_cases h3:imL x t.goal=t.goal
  case neg=>rw [AQ h3,BB,Am,Bl,AQ (fun h=>h3 h.2.2.2.1)]
  rw [Bf h3,Bl,Am,BB,FH (fun k=>∃ (o p:Opr) (a:Int),t.ops[k]?=some o∧x.ops[k]?=some a∧atI t.ops a=some p∧o.cost=p.cost∧imL x o.pre=p.pre∧o.effs.map (imE x)=p.effs) (fun k o hk=>by
    have:=AE hk
    obtain ⟨a,ha⟩:=AF (l:=x.ops) (k:=k) (by rw [h2.len];omega)
    obtain ⟨ha1,ha2⟩:=h2.mem (List.mem_of_getElem? ha)
    obtain ⟨j,rfl⟩:=Int.eq_ofNat_of_zero_le ha1
    obtain ⟨p,hp⟩:=AF (l:=t.ops) (k:=j) (by omega)
    rw [ha,Am,Bg,hp,Am,PY hok h1 (hok.2.2.2.2.2 k o hk),Am]
    have e:(∃ (o p:Opr) (a:Int),t.ops[k]?=some o∧some (j:Int)=some a∧atI t.ops a=some p∧o.cost=p.cost∧imL x o.pre=p.pre∧o.effs.map (imE x)=p.effs)↔(o.cost=p.cost∧imL x o.pre=p.pre∧o.effs.map (imE x)=p.effs):=by
      constructor
      · rintro ⟨o',p',a',q1,q2,q3,q4⟩
        obtain rfl:o=o':=by rw [hk] at q1;exact Option.some.inj q1
        obtain rfl:=Option.some.inj q2
        rw [Bg,hp] at q3
        obtain rfl:=Option.some.inj q3
        exact q4
      · intro h
        exact ⟨o,p,j,hk,rfl,by rw [Bg,hp],h⟩
    rw [JA e])]
  exact Fc ⟨fun h=>⟨hok,h1,h2,h3,h⟩,fun h=>h.2.2.2.2⟩
theorem OV {t:Tsk} {x:Swp}:CG t x=some (bof (TaskOk t∧SymP t x)):=by
  unfold CG CF
  rw [Am]
  by_cases hok:TaskOk t
  case neg=>rw [if_neg (fun h=>hok (DG.1 h)),Am,AQ (fun h=>hok h.1)]
  rw [if_pos (DG.2 hok),IF hok,Am]
  by_cases h:SymP t x
  · rw [Bf h,Bl,Am,Bf ⟨hok,h⟩]
  · rw [AQ h,BB,Am,AQ (fun hh=>h hh.2)]
end
section
open Go Go.RowKit
theorem demand1 {t:Tsk} {x:Swp} (hok:TaskOk t):Bx t [x]=some ⟨if bof (SymP t x)=true then 0 else 2⟩:=by
  unfold Bx CF
  rw [Am,if_neg (by rw [DG.2 hok];simp)]
  by_cases h:SymP t x
  · rw [Jk (fun k y hy=>by
      obtain rfl:y=x:=by simpa using List.mem_of_getElem? hy
      rw [IF hok,Am,Bf h,Bl]),Am,BL,Bf h,Bl]
  · have:rng (ρ:=Err) (fun (_:Nat) (a41:Swp) (_:Unit)=>bnd (Du t a41) fun q77=>if q77=true then some (.next ()) else some (.ret (⟨2⟩:Err))) [x] 0 ()=some (.ret ⟨2⟩):=by
      simp only [rng]
      rw [IF hok,Am,AQ h,BB]
    rw [this,Am,Ht,AQ h,BB]
def ImS (x:Swp) (s r:List Int):Prop:=r.length=s.length∧∀ (k:Nat) v,s[k]?=some v→∃ (a:Nat) (l:List Int) (z:Int),x.vars[k]?=some (a:Int)∧x.vals[k]?=some l∧atI l v=some z∧r[a]?=some z
theorem LQ {t:Tsk} {x:Swp} {s:List Int} (hok:TaskOk t) (hp:FactsPerm t x) (hs:StateOk t.vars s):∃ r,Cv x s=some r∧ImS x s r:=by
  obtain ⟨hsl,hsv⟩:=hs
  have hl:=hok.1
  unfold Cv
  rw [FS (by omega) (by omega),Am]
  obtain ⟨r,h1,h2,h3⟩:=DE (ρ:=List Int) (f:=fun (k42:Nat) (a43:Int) (s40:(List Int))=>bnd (x.vars[k42]?) fun a65=>bnd (x.vals[k42]?) fun a75=>bnd (atI a75 a43) fun a88=>bnd (atI s40 a65) fun _=>some (.next (s40.set (a65).toNat a88))) (xs:=s) (s₀:=List.replicate s.length 0)
    (fun k r=>r.length=s.length∧∀ (j:Nat) v,j < k→s[j]?=some v→∃ (a:Nat) (l:List Int) (z:Int),x.vars[j]?=some (a:Int)∧x.vals[j]?=some l∧atI l v=some z∧r[a]?=some z) ⟨by simp,fun j v hj=>by omega⟩ (fun k v r hk hI=>by
    obtain ⟨i1,i2⟩:=hI
    have hlt:=AE hk
    obtain ⟨n,a,l,q1,q2,q3,q4,q5⟩:=hp.2.2 k (by omega)
    obtain ⟨ha1,ha2⟩:=hp.1.mem (List.mem_of_getElem? q2)
    obtain ⟨a,rfl⟩:=Int.eq_ofNat_of_zero_le ha1
    obtain ⟨h1,h2⟩:=hsv k v n hk q1
    obtain ⟨u,rfl⟩:=Int.eq_ofNat_of_zero_le h1
    obtain ⟨z,hz⟩:=AF (l:=l) (k:=u) (by rw [q5.len];omega)
    obtain ⟨y,hy⟩:=AF (l:=r) (k:=a) (by omega)
    rw [q2,Am,q3,Am,Bg,hz,Am,Bg,hy,Am]
    refine ⟨_,rfl,by simpa using i1,fun j v' hj hv'=>?_⟩
    rw [show ((a:Int)).toNat=a from by omega]
    by_cases hjk:j=k
    · subst hjk
      rw [hk] at hv'
      obtain rfl:=Option.some.inj hv'
      exact ⟨a,l,z,q2,q3,by rw [Bg,hz],by rw [List.getElem?_set_self (by omega)]⟩
    · obtain ⟨a',l',z',g1,g2,g3,g4⟩:=i2 j v' (by omega) hv'
      refine ⟨a',l',z',g1,g2,g3,?_⟩
      rw [List.getElem?_set_ne (fun e=>hjk ?_),g4]
      have hj1:=AE g1
      have hk1:=AE q2
      rw [e] at q2
      have:=g1.trans q2.symm
      rw [List.getElem?_eq_getElem hj1,List.getElem?_eq_getElem hk1] at this
      exact (List.getElem_inj hp.1.nodup).1 (Option.some.inj this))
  exact ⟨r,by rw [h1,Am,BL],h2,fun k v hk=>h3 k v (AE hk) hk⟩
theorem KF (x:Swp) (s:List Int):CZ x s=Cv x s:=rfl
end
section
open Go Go.RowKit
theorem FI {l:List Int} {n:Nat} (h:PermR l n) {k:Nat} (hk:k < n):∃ a:Nat,l[k]?=some (a:Int)∧a < n:=by
  obtain ⟨z,hz⟩:=AF (l:=l) (k:=k) (by rw [h.len];exact hk)
  obtain ⟨h1,h2⟩:=h.mem (List.mem_of_getElem? hz)
  obtain ⟨a,rfl⟩:=Int.eq_ofNat_of_zero_le h1
  exact ⟨a,hz,by omega⟩
theorem Fl {l:List Int} {n:Nat} (h:PermR l n) {a:Nat} (ha:a < n):∃ k:Nat,k < n∧l[k]?=some (a:Int):=by
  have:(a:Int)∈l:=h.mem_iff.2 (Fw.2 ⟨by omega,by omega⟩)
  obtain ⟨k,hk⟩:=List.getElem?_of_mem this
  exact ⟨k,by rw [← h.len];exact AE hk,hk⟩
theorem GH {l:List Int} {n:Nat} (h:PermR l n) {i j:Nat} {a:Int} (hi:l[i]?=some a) (hj:l[j]?=some a):i=j:=by
  have h1:=AE hi
  have h2:=AE hj
  have:=hi.trans hj.symm
  rw [List.getElem?_eq_getElem h1,List.getElem?_eq_getElem h2] at this
  exact (List.getElem_inj h.nodup).1 (Option.some.inj this)
theorem KG {l:List Int} {n:Nat} (hl:l.length=n) (h1:∀ (k:Nat) (a:Int),l[k]?=some a→0≤a∧a < n) (h2:∀ (i j:Nat) (a:Int),l[i]?=some a→l[j]?=some a→i=j):PermR l n:=by
  refine LO ?_ (fun x hx=>?_) hl
  · rw [List.nodup_iff_pairwise_ne,List.pairwise_iff_getElem]
    intro i j hi hj hij e
    have:=h2 i j l[i] (List.getElem?_eq_getElem hi) (by rw [List.getElem?_eq_getElem hj,e])
    omega
  · obtain ⟨k,hk⟩:=List.getElem?_of_mem hx
    exact h1 k x hk
theorem Eu {n k:Nat} (h:k < n):(rangeI n)[k]?=some (k:Int):=by
  unfold rangeI
  rw [List.getElem?_map,List.getElem?_range h];rfl
theorem GX (n:Nat):PermR (rangeI n) n:=List.Perm.refl _
theorem KH {l:List Int} {n:Nat} (hl:l.length=n) (h:∀ k,k < n→l[k]?=some (k:Int)):l=rangeI n:=List.ext_getElem? fun k=>by
  by_cases hk:k < n
  · rw [h k hk,Eu hk]
  · rw [List.getElem?_eq_none (by omega),List.getElem?_eq_none (by rw [Gn];omega)]
theorem Kk {n:Nat} (h:n≤1000000):CW (n:Int)=some (rangeI n):=by
  unfold CW
  rw [FS (by omega) (by omega),Am,List.length_replicate]
  obtain ⟨s,h1,h2,h3⟩:=OE (ρ:=List Int) (f:=fun (k20:Nat) (s18:(List Int))=>bnd (s18[k20]?) fun _=>some (.next (s18.set k20 (k20:Int)))) (N:=n) (s₀:=List.replicate n 0) (fun k s=>s.length=n∧∀ j,j < k→s[j]?=some (j:Int)) ⟨by simp,fun j hj=>by omega⟩ (fun k s hk hI=>by
    obtain ⟨i1,i2⟩:=hI
    obtain ⟨z,hz⟩:=AF (l:=s) (k:=k) (by omega)
    rw [hz,Am]
    refine ⟨_,rfl,by simpa using i1,fun j hj=>?_⟩
    rw [List.getElem?_set]
    by_cases e:k=j
    · rw [if_pos e,if_pos (by omega),e]
    · rw [if_neg e];exact i2 j (by omega))
  rw [h1,Am,BL,KH h2 h3]
def alongL (a b:List Int):List Int:=a.map fun k=>(b[k.toNat]?).getD 0
theorem DU {a b:List Int} {n:Nat} (ha:PermR a n) (hb:b.length=n) {k i:Nat} {z:Int} (h1:a[k]?=some (i:Int)) (h2:b[i]?=some z):(alongL a b)[k]?=some z:=by
  unfold alongL
  rw [List.getElem?_map,h1]
  simp [h2]
theorem Jp {a b:List Int} {n:Nat} (ha:PermR a n) (hb:b.length=n) (hn:n≤1000000):CQ a b=some (alongL a b):=by
  unfold CQ
  have hl:=ha.len
  rw [FS (by omega) (by omega),Am]
  obtain ⟨s,h1,h2,h3⟩:=DE (ρ:=List Int) (f:=fun (k26:Nat) (a27:Int) (s24:(List Int))=>bnd (atI b a27) fun a49=>bnd (s24[k26]?) fun _=>some (.next (s24.set k26 a49))) (xs:=a) (s₀:=List.replicate a.length 0) (fun k s=>s.length=a.length∧∀ j,j < k→s[j]?=(alongL a b)[j]?) ⟨by simp,fun j hj=>by omega⟩ (fun k y s hk hI=>by
    obtain ⟨i1,i2⟩:=hI
    have hlt:=AE hk
    obtain ⟨i,hi,hin⟩:=FI ha (k:=k) (by omega)
    obtain rfl:y=(i:Int):=by rw [hi] at hk;exact (Option.some.inj hk).symm
    obtain ⟨z,hz⟩:=AF (l:=b) (k:=i) (by omega)
    obtain ⟨u,hu⟩:=AF (l:=s) (k:=k) (by omega)
    rw [Bg,hz,Am,hu,Am]
    refine ⟨_,rfl,by simpa using i1,fun j hj=>?_⟩
    rw [List.getElem?_set]
    by_cases e:k=j
    · subst e;rw [if_pos rfl,if_pos (by omega),DU ha hb hi hz]
    · rw [if_neg e];exact i2 j (by omega))
  rw [h1,Am,BL]
  refine congrArg some (List.ext_getElem? fun k=>?_)
  by_cases hk:k < a.length
  · exact h3 k hk
  · rw [List.getElem?_eq_none (by omega),List.getElem?_eq_none (by simp [alongL];omega)]
theorem Hy {a b:List Int} {n:Nat} (ha:PermR a n) (hb:PermR b n):PermR (alongL a b) n:=by
  have hl:(alongL a b).length=n:=by simp [alongL,ha.len]
  have key:∀ (k:Nat) (z:Int),(alongL a b)[k]?=some z→∃ i:Nat,a[k]?=some (i:Int)∧b[i]?=some z:=fun k z hz=>by
    obtain ⟨i,hi,hin⟩:=FI ha (k:=k) (by rw [← hl];exact AE hz)
    obtain ⟨y,hy,_⟩:=FI hb hin
    rw [DU ha hb.len hi hy] at hz
    exact ⟨i,hi,hy.trans hz⟩
  refine KG hl (fun k z hz=>?_) (fun k j z h1 h2=>?_)
  · obtain ⟨i,hi,hz⟩:=key k z hz
    exact hb.mem (List.mem_of_getElem? hz)
  · obtain ⟨i,hi,hz⟩:=key k z h1
    obtain ⟨i',hi',hz'⟩:=key j z h2
    have:=GH hb hz hz'
    subst this
    exact GH ha hi hi'
noncomputable def backL (l:List Int):List Int:=(Cr l).getD []
theorem EF {l:List Int} {n:Nat} (hp:PermR l n) (hn:n≤1000000):Cr l=some (backL l)∧(backL l).length=n∧∀ i k:Nat,l[i]?=some (k:Int)→(backL l)[k]?=some (i:Int):=by
  have hl:=hp.len
  have:∃ s,Cr l=some s∧s.length=n∧∀ i k:Nat,l[i]?=some (k:Int)→s[k]?=some (i:Int):=by
    unfold Cr
    rw [FS (by omega) (by omega),Am]
    obtain ⟨s,h1,h2,h3⟩:=DE (ρ:=List Int) (f:=fun (k24:Nat) (a25:Int) (s22:(List Int))=>bnd (atI s22 a25) fun _=>some (.next (s22.set (a25).toNat (k24:Int)))) (xs:=l) (s₀:=List.replicate l.length 0) (fun k s=>s.length=n∧∀ i j:Nat,i < k→l[i]?=some (j:Int)→s[j]?=some (i:Int)) ⟨by simpa using hl,fun i j hi=>by omega⟩ (fun k y s hk hI=>by
      obtain ⟨i1,i2⟩:=hI
      have hlt:=AE hk
      obtain ⟨j,hj,hjn⟩:=FI hp (k:=k) (by omega)
      obtain rfl:y=(j:Int):=by rw [hj] at hk;exact (Option.some.inj hk).symm
      obtain ⟨u,hu⟩:=AF (l:=s) (k:=j) (by omega)
      rw [Bg,hu,Am]
      refine ⟨_,rfl,by simpa using i1,fun i j' hi hij=>?_⟩
      rw [show ((j:Int)).toNat=j from by omega,List.getElem?_set]
      by_cases e:j=j'
      · subst e
        rw [if_pos rfl,if_pos (by omega),GH hp hij hk]
      · rw [if_neg e]
        refine i2 i j' ?_ hij
        have:i≠k:=fun h=>e (by subst h;rw [hij] at hk;have:=Option.some.inj hk;omega)
        omega)
    exact ⟨s,by rw [h1,Am,BL],h2,fun i k h=>h3 i k (AE h) h⟩
  obtain ⟨s,h1,h2,h3⟩:=this
  have e:backL l=s:=by unfold backL;rw [h1];rfl
  rw [e];exact ⟨h1,h2,h3⟩
theorem Iq {l:List Int} {n:Nat} (hp:PermR l n) (hn:n≤1000000):PermR (backL l) n:=by
  obtain ⟨_,h2,h3⟩:=EF hp hn
  have key:∀ (k:Nat) (z:Int),(backL l)[k]?=some z→∃ i:Nat,z=(i:Int)∧i < n∧l[i]?=some (k:Int):=fun k z hz=>by
    obtain ⟨i,hin,hi⟩:=Fl hp (a:=k) (by rw [← h2];exact AE hz)
    have:=h3 i k hi
    rw [hz] at this
    exact ⟨i,Option.some.inj this,hin,hi⟩
  refine KG h2 (fun k z hz=>?_) (fun k j z g1 g2=>?_)
  · obtain ⟨i,rfl,hi,_⟩:=key k z hz;omega
  · obtain ⟨i,rfl,_,hi⟩:=key k z g1
    obtain ⟨i',e,_,hi'⟩:=key j _ g2
    obtain rfl:i=i':=by omega
    rw [hi] at hi'
    have:=Option.some.inj hi'
    omega
theorem Hz {l:List Int} {n:Nat} (hp:PermR l n) (hn:n≤1000000):alongL l (backL l)=rangeI n:=by
  obtain ⟨_,h2,h3⟩:=EF hp hn
  refine KH (by simp [alongL,hp.len]) fun k hk=>?_
  obtain ⟨a,ha,_⟩:=FI hp hk
  exact DU hp h2 ha (h3 k a ha)
theorem JW {x:Swp} {v u a z:Nat} {l:List Int} (h1:x.vars[v]?=some (a:Int)) (h2:x.vals[v]?=some l) (h3:l[u]?=some (z:Int)):imF x ⟨v,u⟩=⟨a,z⟩:=by simp [imF,h1,h2,h3]
theorem Ew {t:Tsk} {x:Swp} {f:Fct} (hok:TaskOk t) (hp:FactsPerm t x) (hf:FactOk t.vars f):∃ (v u n a z:Nat) (l:List Int),f=⟨v,u⟩∧v < t.vars.length∧t.vars[v]?=some (n:Int)∧n≤64∧u < n∧x.vars[v]?=some (a:Int)∧x.vals[v]?=some l∧PermR l n∧l[u]?=some (z:Int)∧z < n∧a < t.vars.length∧t.vars[a]?=some (n:Int)∧imF x f=⟨a,z⟩:=by
  obtain ⟨fv,fu⟩:=f
  obtain ⟨h1,h2,n,hn,h3⟩:=hf
  simp only at h1 h2 hn h3
  obtain ⟨v,rfl⟩:=Int.eq_ofNat_of_zero_le h1
  obtain ⟨u,rfl⟩:=Int.eq_ofNat_of_zero_le h2
  rw [show ((v:Int)).toNat=v from by omega] at hn
  have hlt:=AE hn
  obtain ⟨m,a,l,q1,q2,q3,q4,q5⟩:=hp.2.2 v hlt
  have e:(m:Int)=n:=by rw [hn] at q1;exact (Option.some.inj q1).symm
  subst e
  obtain ⟨ha1,ha2⟩:=hp.1.mem (List.mem_of_getElem? q2)
  obtain ⟨a,rfl⟩:=Int.eq_ofNat_of_zero_le ha1
  obtain ⟨z,hz,hzn⟩:=FI q5 (k:=u) (by omega)
  have hm:=hok.2.2.1 v m hn
  rw [Bg] at q4
  exact ⟨v,u,m,a,z,l,rfl,hlt,hn,by omega,by omega,q2,q3,q5,hz,hzn,by omega,q4,JW q2 q3 hz⟩
theorem NV {t:Tsk} {x:Swp} {f:Fct} (hok:TaskOk t) (hp:FactsPerm t x) (hf:FactOk t.vars f):FactOk t.vars (imF x f):=by
  obtain ⟨v,u,n,a,z,l,rfl,_,_,_,_,_,_,_,_,hz,ha,hta,e⟩:=Ew hok hp hf
  rw [e]
  exact ⟨by simp,by simp,n,by simpa using hta,by simpa using hz⟩
theorem LR {t:Tsk} {x:Swp} {fs:List Fct} (hok:TaskOk t) (hp:FactsPerm t x) (hf:FactsOk t.vars fs):(∀ f∈imL x fs,FactOk t.vars f)∧(imL x fs).Pairwise fun a b=>a.var < b.var:=by
  refine ⟨fun f h=>?_,Hx (Ng hp hf)⟩
  have h:=(DD _).mem_iff.1 h
  obtain ⟨g,hg,rfl⟩:=List.mem_map.1 h
  exact NV hok hp ((EM hf).1 g hg)
theorem NW {t:Tsk} {x:Swp} {fs gs:List Fct} (hp:FactsPerm t x) (hf:FactsOk t.vars fs) (hg:gs.Pairwise fun a b=>a.var < b.var) (h:gs.Perm (fs.map (imF x))):imL x fs=gs :=
  KD ((DD _).trans h.symm) (Hx (Ng hp hf)) hg
theorem Jq {t:Tsk} {x y z:Swp} {fs:List Fct} (hok:TaskOk t) (hx:FactsPerm t x) (hy:FactsPerm t y) (hz:FactsPerm t z) (hf:FactsOk t.vars fs) (hgs:FactsOk t.vars (imL x fs)) (h:∀ f,FactOk t.vars f→imF z f=imF y (imF x f)):imL z fs=imL y (imL x fs):=by
  refine NW hz hf (LR hok hy hgs).2 ?_
  refine (DD _).trans ?_
  have e:fs.map (imF z)=(fs.map (imF x)).map (imF y):=by
    rw [List.map_map]
    exact List.map_congr_left fun f hf'=>h f ((EM hf).1 f hf')
  rw [e]
  exact (DD _).map _
theorem Nh {vars:List Int} {f:List Fct} (h1:∀ x∈f,FactOk vars x) (h2:f.Pairwise fun x y=>x.var < y.var):FactsOk vars f:=by
  refine ⟨fun i x hx=>h1 x (List.mem_of_getElem? hx),fun i x y hx hy=>?_⟩
  obtain ⟨hi,rfl⟩:=List.getElem?_eq_some_iff.1 hx
  obtain ⟨hj,rfl⟩:=List.getElem?_eq_some_iff.1 hy
  exact List.pairwise_iff_getElem.1 h2 i (i + 1) hi hj (Nat.lt_succ_self i)
theorem Ir {t:Tsk} {x:Swp} {fs:List Fct} (hok:TaskOk t) (hp:FactsPerm t x) (hf:FactsOk t.vars fs):FactsOk t.vars (imL x fs):=Nh (LR hok hp hf).1 (LR hok hp hf).2
theorem HA {t:Tsk} {x:Swp} {fs:List Fct} (hp:FactsPerm t x) (hf:FactsOk t.vars fs) (h:∀ f,FactOk t.vars f→imF x f=f):imL x fs=fs:=by
  refine NW hp hf (EM hf).2 ?_
  have:fs.map (imF x)=fs.map id:=List.map_congr_left fun f hf'=>h f ((EM hf).1 f hf')
  rw [this,List.map_id]
theorem LS {t:Tsk} {x y z:Swp} {e:Eff} (hok:TaskOk t) (hx:FactsPerm t x) (hy:FactsPerm t y) (hz:FactsPerm t z) (he:EffOk t.vars e) (h:∀ f,FactOk t.vars f→imF z f=imF y (imF x f)):imE z e=imE y (imE x e):=by
  have h1:=Jq hok hx hy hz he.1 (Ir hok hx he.1) h
  have h2:=h ⟨e.var,e.val⟩ he.2
  show (⟨imL z e.cond,(imF z ⟨e.var,e.val⟩).var,(imF z ⟨e.var,e.val⟩).val⟩:Eff)=⟨imL y (imL x e.cond),(imF y (imF x ⟨e.var,e.val⟩)).var,(imF y (imF x ⟨e.var,e.val⟩)).val⟩
  rw [h1,h2]
theorem LT {t:Tsk} {x:Swp} {e:Eff} (hp:FactsPerm t x) (he:EffOk t.vars e) (h:∀ f,FactOk t.vars f→imF x f=f):imE x e=e:=by
  show (⟨imL x e.cond,(imF x ⟨e.var,e.val⟩).var,(imF x ⟨e.var,e.val⟩).val⟩:Eff)=e
  rw [HA hp he.1 h,h _ he.2]
theorem IG {vars:List Int} {o:Opr} (ho:OpOk vars o):∀ e∈o.effs,EffOk vars e:=fun e he=>by
  obtain ⟨j,hj⟩:=List.getElem?_of_mem he
  exact ho.2.2.2.2.2 j e hj
def idX (t:Tsk):Swp:=⟨rangeI t.vars.length,t.vars.map fun n=>rangeI n.toNat,rangeI t.ops.length⟩
theorem EG {t:Tsk} (hok:TaskOk t):FactsPerm t (idX t):=by
  refine ⟨GX _,by simp [idX],fun k hk=>?_⟩
  obtain ⟨n,hn⟩:=AF (l:=t.vars) (k:=k) hk
  have:=hok.2.2.1 k n hn
  obtain ⟨m,rfl⟩:=Int.eq_ofNat_of_zero_le (by omega:0≤n)
  exact ⟨m,k,rangeI m,hn,Eu hk,by simp [idX,hn],by rw [Bg,hn],GX _⟩
theorem FJ {t:Tsk} (hok:TaskOk t) {f:Fct} (hf:FactOk t.vars f):imF (idX t) f=f:=by
  obtain ⟨v,u,n,a,z,l,rfl,h1,h2,_,hu,h3,h4,_,h5,_,_,_,e⟩:=Ew hok (EG hok) hf
  have e1:(idX t).vars[v]?=some (v:Int):=Eu h1
  have e2:(idX t).vals[v]?=some (rangeI n):=by simp [idX,h2]
  exact JW e1 e2 (Eu hu)
theorem NX {t:Tsk} (hok:TaskOk t):SymP t (idX t):=by
  refine ⟨EG hok,GX _,HA (EG hok) hok.2.2.2.2.1 fun f=>FJ hok,fun k hk=>?_⟩
  obtain ⟨o,ho⟩:=AF (l:=t.ops) (k:=k) hk
  have hoo:=hok.2.2.2.2.2 k o ho
  refine ⟨o,o,k,ho,Eu hk,by rw [Bg,ho],rfl,HA (EG hok) hoo.2.2.2.2.1 fun f=>FJ hok,?_⟩
  have:o.effs.map (imE (idX t))=o.effs.map id:=List.map_congr_left fun e he=>LT (EG hok) (IG hoo e he) fun f=>FJ hok
  rw [this,List.map_id]
theorem demand0 {t:Tsk} (hok:TaskOk t):Bx t []=some ⟨0⟩:=by
  unfold Bx CF
  rw [Am,if_neg (by rw [DG.2 hok];simp)]
  rfl
theorem demand2 {t:Tsk} {x y:Swp} (hok:TaskOk t):Bx t [x,y]=some ⟨if bof (SymP t x∧SymP t y)=true then 0 else 2⟩:=by
  unfold Bx CF
  rw [Am,if_neg (by rw [DG.2 hok];simp)]
  simp only [rng]
  rw [IF hok,IF hok,Am,Am]
  by_cases hx:SymP t x
  · rw [Bf hx,Bl]
    by_cases hy:SymP t y
    · rw [Bf hy,Bl,Bf (p:=SymP t x∧SymP t y) ⟨hx,hy⟩];rfl
    · rw [AQ hy,BB,AQ (p:=SymP t x∧SymP t y) (fun h=>hy h.2)];rfl
  · rw [AQ hx,BB,AQ (p:=SymP t x∧SymP t y) (fun h=>hx h.1)];rfl
def compX (x y:Swp):Swp:=⟨alongL x.vars y.vars,x.vals.mapIdx fun v l=>alongL l ((y.vals[((x.vars[v]?).getD 0).toNat]?).getD []),alongL x.ops y.ops⟩
theorem FY {x y:Swp} {v a:Nat} {l m:List Int} (h1:x.vars[v]?=some (a:Int)) (h2:x.vals[v]?=some l) (h3:y.vals[a]?=some m):(compX x y).vals[v]?=some (alongL l m):=by
  simp [compX,List.getElem?_mapIdx,h1,h2,h3]
theorem NY {t:Tsk} {x y:Swp} (hx:FactsPerm t x) (hy:FactsPerm t y):FactsPerm t (compX x y):=by
  refine ⟨Hy hx.1 hy.1,by simp [compX,hx.2.1],fun k hk=>?_⟩
  obtain ⟨n,a,l,q1,q2,q3,q4,q5⟩:=hx.2.2 k hk
  obtain ⟨ha1,ha2⟩:=hx.1.mem (List.mem_of_getElem? q2)
  obtain ⟨a,rfl⟩:=Int.eq_ofNat_of_zero_le ha1
  obtain ⟨n',b,m,p1,p2,p3,p4,p5⟩:=hy.2.2 a (by omega)
  rw [Bg] at q4
  have e:n=n':=by rw [q4] at p1;have:=Option.some.inj p1;omega
  subst e
  exact ⟨n,b,alongL l m,q1,DU hx.1 hy.1.len q2 p2,FY q2 q3 p3,p4,Hy q5 p5⟩
theorem NZ {t:Tsk} {x y:Swp} (hok:TaskOk t) (hx:FactsPerm t x) (hy:FactsPerm t y) {f:Fct} (hf:FactOk t.vars f):imF (compX x y) f=imF y (imF x f):=by
  obtain ⟨v,u,n,a,z,l,rfl,h1,h2,h3,hu,h4,h5,h6,h7,h8,h9,h10,e⟩:=Ew hok hx hf
  have hf2:=NV hok hx hf
  rw [e] at hf2 ⊢
  obtain ⟨v',u',n',a',z',l',e',g1,g2,g3,gu,g4,g5,g6,g7,g8,g9,g10,e2⟩:=Ew hok hy hf2
  have e3:v'=a:=by have:=congrArg Fct.var e';simp at this;omega
  have e4:u'=z:=by have:=congrArg Fct.val e';simp at this;omega
  subst e3 e4
  rw [e2]
  have hn:n'=n:=by rw [g2] at h10;have:=Option.some.inj h10;omega
  subst hn
  exact JW (DU hx.1 hy.1.len h4 g4) (FY h4 h5 g5) (DU h6 g6.len h7 g7)
theorem Fm {t:Tsk} {x:Swp} (hx:SymP t x) {k:Nat} (hk:k < t.ops.length):∃ (o p:Opr) (a:Nat),t.ops[k]?=some o∧x.ops[k]?=some (a:Int)∧a < t.ops.length∧t.ops[a]?=some p∧o.cost=p.cost∧imL x o.pre=p.pre∧o.effs.map (imE x)=p.effs:=by
  obtain ⟨o,p,a,h1,h2,h3,h4⟩:=hx.2.2.2 k hk
  obtain ⟨ha1,ha2⟩:=hx.2.1.mem (List.mem_of_getElem? h2)
  obtain ⟨a,rfl⟩:=Int.eq_ofNat_of_zero_le ha1
  rw [Bg] at h3
  exact ⟨o,p,a,h1,h2,by omega,h3,h4⟩
theorem LU {t:Tsk} {x y:Swp} (hok:TaskOk t) (hx:SymP t x) (hy:SymP t y):SymP t (compX x y):=by
  have hz:=NY hx.1 hy.1
  have hc:∀ f,FactOk t.vars f→imF (compX x y) f=imF y (imF x f):=fun f=>NZ hok hx.1 hy.1
  have hL:∀ fs,FactsOk t.vars fs→imL (compX x y) fs=imL y (imL x fs):=fun fs hf=>Jq hok hx.1 hy.1 hz hf (Ir hok hx.1 hf) hc
  refine ⟨hz,Hy hx.2.1 hy.2.1,by rw [hL _ hok.2.2.2.2.1,hx.2.2.1,hy.2.2.1],fun k hk=>?_⟩
  obtain ⟨o,p,a,h1,h2,ha,h3,h4,h5,h6⟩:=Fm hx hk
  obtain ⟨p',q,b,g1,g2,hb,g3,g4,g5,g6⟩:=Fm hy ha
  obtain rfl:p=p':=by rw [g1] at h3;exact (Option.some.inj h3).symm
  have hoo:=hok.2.2.2.2.2 k o h1
  refine ⟨o,q,b,h1,DU hx.2.1 hy.2.1.len h2 g2,by rw [Bg,g3],h4.trans g4,by rw [hL _ hoo.2.2.2.2.1,h5,g5],?_⟩
  have:o.effs.map (imE (compX x y))=o.effs.map (imE y ∘ imE x):=List.map_congr_left fun e he=>LS hok hx.1 hy.1 hz (IG hoo e he) hc
  rw [this,← List.map_map,h6,g6]
noncomputable def invX (x:Swp):Swp:=⟨backL x.vars,(List.range x.vals.length).map fun w=>backL ((x.vals[(((backL x.vars)[w]?).getD 0).toNat]?).getD []),backL x.ops⟩
theorem HB {t:Tsk} {x:Swp} (hok:TaskOk t) (hx:FactsPerm t x) {v a:Nat} {l:List Int} (h1:x.vars[v]?=some (a:Int)) (h2:x.vals[v]?=some l):(invX x).vals[a]?=some (backL l):=by
  obtain ⟨_,h4,h5⟩:=EF hx.1 (by have:=hok.1;omega)
  have:=hx.1.mem (List.mem_of_getElem? h1)
  have h6:=h5 v a h1
  show ((List.range x.vals.length).map _)[a]?=_
  rw [List.getElem?_map,List.getElem?_range (by rw [hx.2.1];omega)]
  simp [h6,h2]
theorem Jr {t:Tsk} {x:Swp} (hok:TaskOk t) (hx:FactsPerm t x):FactsPerm t (invX x):=by
  have hl:t.vars.length≤1000000:=by have:=hok.1;omega
  refine ⟨Iq hx.1 hl,by simp [invX,hx.2.1],fun k hk=>?_⟩
  obtain ⟨v,hv,hvk⟩:=Fl hx.1 hk
  obtain ⟨n,a,l,q1,q2,q3,q4,q5⟩:=hx.2.2 v hv
  obtain rfl:a=(k:Int):=by rw [hvk] at q2;exact (Option.some.inj q2).symm
  rw [Bg] at q4
  have hn:=hok.2.2.1 v n q1
  obtain ⟨_,h4,h5⟩:=EF hx.1 hl
  exact ⟨n,v,backL l,q4,h5 v k hvk,HB hok hx hvk q3,by rw [Bg,q1],Iq q5 (by omega)⟩
theorem LV {t:Tsk} {x:Swp} (hok:TaskOk t) (hx:FactsPerm t x) {f:Fct} (hf:FactOk t.vars f):imF (invX x) (imF x f)=f:=by
  obtain ⟨v,u,n,a,z,l,rfl,h1,h2,h3,hu,h4,h5,h6,h7,h8,h9,h10,e⟩:=Ew hok hx hf
  rw [e]
  have hl:t.vars.length≤1000000:=by have:=hok.1;omega
  exact JW ((EF hx.1 hl).2.2 v a h4) (HB hok hx h4 h5) ((EF h6 (by omega)).2.2 u z h7)
theorem LW {t:Tsk} {x:Swp} (hok:TaskOk t) (hx:FactsPerm t x) {fs:List Fct} (hf:FactsOk t.vars fs):imL (invX x) (imL x fs)=fs:=by
  rw [← Jq hok hx (Jr hok hx) (EG hok) hf (Ir hok hx hf) (fun f hf=>by rw [LV hok hx hf,FJ hok hf])]
  exact HA (EG hok) hf fun f=>FJ hok
theorem PZ {t:Tsk} {x:Swp} (hok:TaskOk t) (hx:FactsPerm t x) {e:Eff} (he:EffOk t.vars e):imE (invX x) (imE x e)=e:=by
  rw [← LS hok hx (Jr hok hx) (EG hok) he (fun f hf=>by rw [LV hok hx hf,FJ hok hf])]
  exact LT (EG hok) he fun f=>FJ hok
theorem Kl {t:Tsk} {x:Swp} (hok:TaskOk t) (hx:SymP t x):SymP t (invX x):=by
  have hl:t.ops.length≤1000000:=by have:=hok.2.1;omega
  refine ⟨Jr hok hx.1,Iq hx.2.1 hl,?_,fun k hk=>?_⟩
  · have:=LW hok hx.1 hok.2.2.2.2.1
    rwa [hx.2.2.1] at this
  · obtain ⟨j,hj,hjk⟩:=Fl hx.2.1 hk
    obtain ⟨o,p,a,h1,h2,ha,h3,h4,h5,h6⟩:=Fm hx hj
    obtain rfl:a=k:=by rw [hjk] at h2;have:=Option.some.inj h2;omega
    have hoo:=hok.2.2.2.2.2 j o h1
    refine ⟨p,o,j,h3,(EF hx.2.1 hl).2.2 j a hjk,by rw [Bg,h1],h4.symm,by rw [← h5,LW hok hx.1 hoo.2.2.2.2.1],?_⟩
    rw [← h6,List.map_map]
    have:o.effs.map (imE (invX x) ∘ imE x)=o.effs.map id:=List.map_congr_left fun e he=>PZ hok hx.1 (IG hoo e he)
    rw [this,List.map_id]
theorem OW {t:Tsk} {x:Swp} (hok:TaskOk t) (hx:SymP t x):compX x (invX x)=idX t:=by
  have hl:t.vars.length≤1000000:=by have:=hok.1;omega
  have hl2:t.ops.length≤1000000:=by have:=hok.2.1;omega
  have h1:(compX x (invX x)).vars=(idX t).vars:=Hz hx.1.1 hl
  have h2:(compX x (invX x)).ops=(idX t).ops:=Hz hx.2.1 hl2
  have h3:(compX x (invX x)).vals=(idX t).vals:=List.ext_getElem? fun k=>by
    by_cases hk:k < t.vars.length
    · obtain ⟨n,a,l,q1,q2,q3,q4,q5⟩:=hx.1.2.2 k hk
      obtain ⟨ha1,ha2⟩:=hx.1.1.mem (List.mem_of_getElem? q2)
      obtain ⟨a,rfl⟩:=Int.eq_ofNat_of_zero_le ha1
      have hn:=hok.2.2.1 k n q1
      rw [FY q2 q3 (HB hok hx.1 q2 q3),Hz q5 (by omega)]
      simp [idX,q1]
    · rw [List.getElem?_eq_none (by simp [compX,hx.1.2.1];omega),List.getElem?_eq_none (by simp [idX];omega)]
  cases h:compX x (invX x)
  rw [h] at h1 h2 h3
  cases h':idX t
  rw [h'] at h1 h2 h3
  simp_all
theorem LX {t:Tsk} {x:Swp} {s r r':List Int} (hx:FactsPerm t x) (hs:s.length=t.vars.length) (h:ImS x s r) (h':ImS x s r'):r=r':=List.ext_getElem? fun a=>by
  by_cases ha:a < t.vars.length
  · obtain ⟨v,hv,hva⟩:=Fl hx.1 ha
    obtain ⟨u,hu⟩:=AF (l:=s) (k:=v) (by omega)
    obtain ⟨b,l,z,q1,q2,q3,q4⟩:=h.2 v u hu
    obtain ⟨b',l',z',p1,p2,p3,p4⟩:=h'.2 v u hu
    obtain rfl:b=a:=by rw [hva] at q1;have:=Option.some.inj q1;omega
    obtain rfl:b'=b:=by rw [hva] at p1;have:=Option.some.inj p1;omega
    obtain rfl:l=l':=by rw [q2] at p2;exact Option.some.inj p2
    rw [q4,p4];rw [q3] at p3;exact p3
  · rw [List.getElem?_eq_none (by rw [h.1];omega),List.getElem?_eq_none (by rw [h'.1];omega)]
theorem Oa {t:Tsk} {x:Swp} {s r:List Int} (hx:FactsPerm t x) (hs:StateOk t.vars s) (h:ImS x s r):StateOk t.vars r:=by
  refine ⟨h.1.trans hs.1,fun a z n hz hn=>?_⟩
  obtain ⟨v,hv,hva⟩:=Fl hx.1 (AE hn)
  obtain ⟨u,hu⟩:=AF (l:=s) (k:=v) (by rw [hs.1];exact hv)
  obtain ⟨b,l,z',q1,q2,q3,q4⟩:=h.2 v u hu
  obtain rfl:b=a:=by rw [hva] at q1;have:=Option.some.inj q1;omega
  obtain ⟨m,b',l',p1,p2,p3,p4,p5⟩:=hx.2.2 v hv
  obtain rfl:b'=(b:Int):=by rw [hva] at p2;exact (Option.some.inj p2).symm
  obtain rfl:l=l':=by rw [q2] at p3;exact Option.some.inj p3
  rw [Bg,hn] at p4
  rw [q4] at hz
  obtain rfl:=Option.some.inj hz
  obtain ⟨j,_,hj⟩:=FB q3
  have:=p5.mem (List.mem_of_getElem? hj)
  have:=Option.some.inj p4
  omega
theorem Js {t:Tsk} {x y:Swp} {s a b:List Int} (hx:FactsPerm t x) (hy:FactsPerm t y) (hs:StateOk t.vars s) (ha:ImS x s a) (hb:ImS y a b):ImS (compX x y) s b:=by
  refine ⟨hb.1.trans ha.1,fun k v hk=>?_⟩
  obtain ⟨i,l,z,q1,q2,q3,q4⟩:=ha.2 k v hk
  obtain ⟨j,m,z',p1,p2,p3,p4⟩:=hb.2 i z q4
  obtain ⟨c,rfl,hc⟩:=FB q3
  obtain ⟨d,rfl,hd⟩:=FB p3
  have hkl:k < t.vars.length:=by rw [← hs.1];exact AE hk
  obtain ⟨n,a',l',u1,u2,u3,u4,u5⟩:=hx.2.2 k hkl
  obtain rfl:l=l':=by rw [q2] at u3;exact Option.some.inj u3
  obtain rfl:a'=(i:Int):=by rw [q1] at u2;exact (Option.some.inj u2).symm
  have hil:i < t.vars.length:=by have:=hx.1.mem (List.mem_of_getElem? q1);omega
  obtain ⟨n',b',m',w1,w2,w3,w4,w5⟩:=hy.2.2 i hil
  obtain rfl:m=m':=by rw [p2] at w3;exact Option.some.inj w3
  rw [Bg] at u4
  have e:n=n':=by rw [u4] at w1;have:=Option.some.inj w1;omega
  subst e
  exact ⟨j,alongL l m,z',DU hx.1 hy.1.len q1 p1,FY q1 q2 p2,by rw [Bg,DU u5 w5.len hc hd],p4⟩
theorem LY {t:Tsk} {s:List Int} (hok:TaskOk t) (hs:StateOk t.vars s):ImS (idX t) s s:=by
  refine ⟨rfl,fun k v hk=>?_⟩
  have hkl:k < t.vars.length:=by rw [← hs.1];exact AE hk
  obtain ⟨n,hn⟩:=AF (l:=t.vars) (k:=k) hkl
  obtain ⟨h1,h2⟩:=hs.2 k v n hk hn
  obtain ⟨v,rfl⟩:=Int.eq_ofNat_of_zero_le h1
  obtain ⟨n,rfl⟩:=Int.eq_ofNat_of_zero_le (by omega:0≤n)
  exact ⟨k,rangeI n,v,Eu hkl,by simp [idX,hn],by rw [Bg,Eu (by omega)],hk⟩
end
section
open Go Go.RowKit
theorem Qa (a b:Int):Dv a b=some (Lib.compareInt a b):=by
  unfold Dv DT
  rcases Et a b with ⟨h1,h2⟩|⟨h1,h2⟩|⟨h1,h2⟩
  · simp [bnd,h1,h2]
  · subst h1;simp [bnd,h2]
  · have:¬ a < b:=by omega
    simp [bnd,h1,h2,this]
theorem Qb (xs ys:List Int):BU xs ys=some (cfL xs ys):=by
  have:∃ r,BU xs ys=some r∧r=cfL xs ys:=by
    unfold BU
    refine Ik (fun m _=>m≤ys.length∧cfL xs ys=cfL (xs.drop m) (ys.drop m)) (fun r=>r=cfL xs ys) ⟨Nat.zero_le _,rfl⟩ ?_ ?_ (fun q hq=>⟨_,rfl,hq⟩)
    · rintro m x _ hx ⟨h1,h2⟩
      by_cases hge:(ys.length:Int)≤(m:Int)
      · rw [if_pos hge]
        refine .inr ⟨_,rfl,?_⟩
        rw [h2,Ji (l:=ys) (by omega),List.drop_eq_getElem_cons (AE hx)]
        rfl
      · rw [if_neg hge]
        obtain ⟨y,hy⟩:=EE (l:=ys) (k:=m) (by omega)
        have hst:=LB hx hy
        rw [hy,Am,Qa,Am]
        by_cases hc:Lib.compareInt x y≠0
        · rw [if_pos hc]
          rw [if_pos hc] at hst
          exact .inr ⟨_,rfl,by rw [h2,hst]⟩
        · rw [if_neg hc]
          rw [if_neg hc] at hst
          exact .inl ⟨(),rfl,by omega,by rw [h2,hst]⟩
    · rintro _ ⟨h1,h2⟩
      rw [BL]
      rw [List.drop_length] at h2
      by_cases hll:(xs.length:Int) < (ys.length:Int)
      · rw [if_pos hll]
        refine ⟨_,rfl,?_⟩
        rw [h2,List.drop_eq_getElem_cons (l:=ys) (i:=xs.length) (by omega)]
        rfl
      · rw [if_neg hll]
        refine ⟨_,rfl,?_⟩
        rw [h2,Ji (l:=ys) (by omega)]
        rfl
  obtain ⟨r,h1,h2⟩:=this
  rw [h1,h2]
theorem Qc {xs ys:List Int} (hl:xs.length=ys.length):Dm xs ys=some (decide (cfL xs ys < 0)):=by
  have:∃ r,Dm xs ys=some r∧r=decide (cfL xs ys < 0):=by
    unfold Dm
    refine Ik (fun m _=>cfL xs ys=cfL (xs.drop m) (ys.drop m)) (fun r=>r=decide (cfL xs ys < 0)) rfl ?_ ?_ (fun q hq=>⟨_,rfl,hq⟩)
    · rintro m x _ hx h2
      obtain ⟨y,hy⟩:=EE (l:=ys) (k:=m) (by have:=AE hx;omega)
      have hst:=LB hx hy
      rw [hy,Am]
      rcases Et x y with ⟨p1,p2⟩|⟨p1,p2⟩|⟨p1,p2⟩
      · rw [if_pos (by omega),Am,if_pos p1,Am]
        rw [p2] at hst
        exact .inr ⟨_,rfl,by rw [h2,hst];rfl⟩
      · rw [if_neg (by omega)]
        rw [p2] at hst
        exact .inl ⟨(),rfl,by rw [h2,hst];rfl⟩
      · rw [if_pos (by omega),Am,if_neg (by omega),Am]
        rw [p2] at hst
        exact .inr ⟨_,rfl,by rw [h2,hst];rfl⟩
    · intro _ h2
      refine ⟨_,rfl,?_⟩
      rw [List.drop_length,Ji (l:=ys) (by omega)] at h2
      rw [h2];rfl
  obtain ⟨r,h1,h2⟩:=this
  rw [h1,h2]
def txt (s:List Int):ByteArray:=strB (s.map bw)
end
section
open Go Go.RowKit
noncomputable def imS (x:Swp) (s:List Int):List Int:=(Cv x s).getD []
theorem GI {t:Tsk} {x:Swp} {s:List Int} (hok:TaskOk t) (hp:FactsPerm t x) (hs:StateOk t.vars s):Cv x s=some (imS x s)∧ImS x s (imS x s)∧StateOk t.vars (imS x s):=by
  obtain ⟨r,h1,h2⟩:=LQ hok hp hs
  have:imS x s=r:=by unfold imS;rw [h1];rfl
  rw [this]
  exact ⟨h1,h2,Oa hp hs h2⟩
def muL (vars s:List Int):Nat:=((statesL vars).filter fun x=>decide (cfL x s < 0)).length
theorem KI {α:Type} {p q:α→Bool}:∀ {l:List α},(∀ x∈l,p x=true→q x=true)→(∃ x∈l,q x=true∧p x=false)→(l.filter p).length < (l.filter q).length
  | [],_,h=>by obtain ⟨x,hx,_⟩:=h;cases hx
  | y :: l,hsub,⟨x,hx,h1,h2⟩=>by
    have hle:(l.filter p).length≤(l.filter q).length:=by
      clear hx
      induction l with
      | nil=>simp
      | cons z l ih =>
        have ihh:=ih fun a ha=>hsub a (by rcases List.mem_cons.1 ha with rfl|ha;exact List.mem_cons_self;exact List.mem_cons_of_mem _ (List.mem_cons_of_mem _ ha))
        have hz:=hsub z (List.mem_cons_of_mem _ List.mem_cons_self)
        rw [List.filter_cons,List.filter_cons]
        cases hp:p z with
        | true=>rw [hz hp];simp;omega
        | false=>cases q z<;>simp<;>omega
    rw [List.filter_cons,List.filter_cons]
    rcases List.mem_cons.1 hx with rfl|hx
    · rw [h1,h2];simp;omega
    · have ih:=KI (l:=l) (fun a ha=>hsub a (List.mem_cons_of_mem _ ha)) ⟨x,hx,h1,h2⟩
      have hy:=hsub y List.mem_cons_self
      cases hp:p y with
      | true=>rw [hy hp];simp;omega
      | false=>cases q y<;>simp<;>omega
theorem QP {vars s r:List Int} (hr:StateOk vars r) (h:cfL r s < 0):muL vars r < muL vars s:=by
  refine KI (fun x _ hx=>?_) ⟨r,Fa.2 hr,by simpa using h,by rw [Jj];simp⟩
  simp at hx ⊢
  have h3:=Ig (Int.le_of_lt hx) (Int.le_of_lt h)
  rcases Int.lt_or_eq_of_le h3 with h4|h4
  · exact h4
  · exfalso
    have:=NF h4
    rw [← this,MD] at h
    omega
noncomputable def canF (x1:List Swp):(List Int)×(List Int)×Int→Option (Ctl ((List Int)×(List Int)×Int) ((List Int)×(List Int)×Err)) :=
  fun (s58:(List Int)×(List Int)×Int)=>if s58.2.2 < (x1.length:Int) then (bnd (atI x1 s58.2.2) fun a84=>bnd (Cv a84 s58.1) fun q107=>bnd (BU q107 s58.1) fun q116=>if 0≤q116 then (bnd (chkI (s58.2.2 + 1)) fun n125=>some (.next (s58.1,s58.2.1,n125))) else (bnd (appI 8 s58.2.1 [s58.2.2]) fun u128=>some (.next (q107,u128,0)))) else (some (.brk (s58.1,s58.2.1,s58.2.2)))
noncomputable def canG (x0:List Swp):(List Int)×(List Int)→Option (Ctl ((List Int)×(List Int)) ((List Int)×(List Int))) :=
  fun (s9:(List Int)×(List Int))=>bnd (rng (ρ:=Ctl ((List Int)×(List Int)) ((List Int)×(List Int))) (fun (k34:Nat) (a35:Swp) (s32:Int)=>bnd (if s32 < 0 then (bnd (CZ a35 s9.1) fun q71=>bnd (Dm q71 s9.1) fun q80=>if q80=true then some true else some false) else (some false):Option Bool) fun y47=>if y47=true then (some (.next (k34:Int))) else (some (.next s32))) x0 0 (-1)) fun res30=>fin res30 fun (s96:Int)=>if s96 < 0 then (some (.ret (s9.1,s9.2))) else (bnd (atI x0 s96) fun a101=>bnd (CZ a101 s9.1) fun q124=>bnd (appI 8 s9.2 [s96]) fun u133=>some (.next (q124,u133)))
def FstL (gens:List Swp) (s:List Int) (k:Nat):Prop:=∃ x,gens[k]?=some x∧cfL (imS x s) s < 0
theorem Oc {t:Tsk} (hok:TaskOk t) {gens:List Swp} (hg:∀ x∈gens,SymP t x) (hgl:gens.length≤1000) {s used:List Int} (hs:StateOk t.vars s) (hu:used.length≤100000):∀ (n k:Nat),gens.length - k=n→k≤gens.length →
    ((∀ j,k≤j→¬ FstL gens s j)∧lop (canF gens) (s,used,(k:Int))=some (.done (s,used,(gens.length:Int))))∨∃ m x,k≤m∧(∀ j,k≤j→j < m→¬ FstL gens s j)∧gens[m]?=some x∧cfL (imS x s) s < 0∧lop (canF gens) (s,used,(k:Int))=lop (canF gens) (imS x s,used ++ [(m:Int)],0):=by
  intro n
  induction n with
  | zero =>
    intro k hk hkl
    have:k=gens.length:=by omega
    subst this
    refine .inl ⟨fun j hj hf=>by obtain ⟨x,hx,_⟩:=hf;have:=AE hx;omega,?_⟩
    rw [Db]
    simp only [canF]
    rw [if_neg (by omega)]
  | succ n ih =>
    intro k hk hkl
    obtain ⟨x,hx⟩:=EE (l:=gens) (k:=k) (by omega)
    obtain ⟨h1,h2,h3⟩:=GI hok (hg x (List.mem_of_getElem? hx)).1 hs
    have hkl':=AE hx
    have step:canF gens (s,used,(k:Int))=if 0≤cfL (imS x s) s then some (.next (s,used,(k:Int) + 1)) else some (.next (imS x s,used ++ [(k:Int)],0)):=by
      simp only [canF]
      rw [if_pos (by omega),Bg,hx,Am,h1,Am,Qb,Am,Cy (by unfold inI64;omega),Am,Cp (by simp;omega) (by simp;omega),Am]
    by_cases hc:0≤cfL (imS x s) s
    · have e1:lop (canF gens) (s,used,(k:Int))=lop (canF gens) (s,used,((k + 1:Nat):Int)):=by
        rw [Db,step,if_pos hc]
        simp
      have hnot:¬ FstL gens s k:=fun ⟨y,hy,hlt⟩=>by
        rw [hx] at hy
        obtain rfl:=Option.some.inj hy
        omega
      rcases ih (k + 1) (by omega) (by omega) with ⟨g1,g2⟩|⟨m,y,g1,g2,g3,g4,g5⟩
      · refine .inl ⟨fun j hj=>?_,by rw [e1,g2]⟩
        by_cases e:j=k
        · subst e;exact hnot
        · exact g1 j (by omega)
      · refine .inr ⟨m,y,by omega,fun j hj hjm=>?_,g3,g4,by rw [e1,g5]⟩
        by_cases e:j=k
        · subst e;exact hnot
        · exact g2 j (by omega) hjm
    · refine .inr ⟨k,x,Nat.le_refl _,fun j h1 h2=>by omega,hx,by omega,?_⟩
      rw [Db,step,if_neg hc]
theorem KJ {t:Tsk} (hok:TaskOk t) {gens:List Swp} (hg:∀ x∈gens,SymP t x) {s used:List Int} (hs:StateOk t.vars s) (hu:used.length≤100000) :
    ((∀ j,¬ FstL gens s j)∧canG gens (s,used)=some (.ret (s,used)))∨∃ (m:Nat) (x:Swp),(∀ j,j < m→¬ FstL gens s j)∧gens[m]?=some x∧cfL (imS x s) s < 0∧canG gens (s,used)=some (.next (imS x s,used ++ [(m:Int)])):=by
  have key:=DE (ρ:=Ctl ((List Int)×(List Int)) ((List Int)×(List Int))) (xs:=gens) (s₀:=(-1:Int)) (f:=fun (k34:Nat) (a35:Swp) (s32:Int)=>bnd (if s32 < 0 then (bnd (CZ a35 s) fun q71=>bnd (Dm q71 s) fun q80=>if q80=true then some true else some false) else (some false):Option Bool) fun y47=>if y47=true then (some (.next (k34:Int))) else (some (.next s32))) (fun m a=>(a=-1∧∀ j,j < m→¬ FstL gens s j)∨∃ (q:Nat) (x:Swp),a=(q:Int)∧(∀ j,j < q→¬ FstL gens s j)∧gens[q]?=some x∧cfL (imS x s) s < 0) (.inl ⟨rfl,fun j hj=>by omega⟩) (fun k x a hx hI=>by
      obtain ⟨h1,h2,h3⟩:=GI hok (hg x (List.mem_of_getElem? hx)).1 hs
      rcases hI with ⟨rfl,hno⟩|⟨q,y,rfl,hno,hy,hlt⟩
      · rw [if_pos (by omega),KF,h1,Am,Qc (by rw [h3.1,hs.1]),Am]
        by_cases hlt:cfL (imS x s) s < 0
        · rw [decide_eq_true hlt,Bl,Am,Bl]
          exact ⟨_,rfl,.inr ⟨k,x,rfl,hno,hx,hlt⟩⟩
        · rw [decide_eq_false hlt,BB,Am,BB]
          refine ⟨_,rfl,.inl ⟨rfl,fun j hj=>?_⟩⟩
          by_cases e:j=k
          · subst e
            rintro ⟨y,hy,hl⟩
            rw [hx] at hy
            obtain rfl:=Option.some.inj hy
            exact hlt hl
          · exact hno j (by omega)
      · rw [if_neg (by omega),Am,BB]
        exact ⟨_,rfl,.inr ⟨q,y,rfl,hno,hy,hlt⟩⟩)
  obtain ⟨a,g1,g2⟩:=key
  unfold canG
  dsimp only
  rw [g1,Am,BL]
  rcases g2 with ⟨rfl,hno⟩|⟨q,x,rfl,hno,hx,hlt⟩
  · rw [if_pos (by omega)]
    refine .inl ⟨fun j hf=>?_,rfl⟩
    obtain ⟨x,hx,hl⟩:=hf
    exact hno j (AE hx) ⟨x,hx,hl⟩
  · obtain ⟨h1,h2,h3⟩:=GI hok (hg x (List.mem_of_getElem? hx)).1 hs
    rw [if_neg (by omega),Bg,hx,Am,KF,h1,Am,Cp (by simp;omega) (by simp;omega),Am]
    exact .inr ⟨q,x,hno,hx,hlt,rfl⟩
inductive Word (gens:List Swp):List Int→List Int→List Int→Prop
  | nil {s:List Int}:Word gens s [] s
  | cons {s r ws:List Int} {m:Nat} {x:Swp}:gens[m]?=some x→Word gens (imS x s) ws r→Word gens s ((m:Int) :: ws) r
theorem OX {t:Tsk} (hok:TaskOk t) {gens:List Swp} (hg:∀ x∈gens,SymP t x) (hgl:gens.length≤1000):∀ (n:Nat) (s used:List Int),StateOk t.vars s→muL t.vars s < n→used.length + n≤100000 →
    ∃ r ws,lop (canF gens) (s,used,0)=some (.done (r,used ++ ws,(gens.length:Int)))∧lop (canG gens) (s,used)=some (.ret (r,used ++ ws))∧StateOk t.vars r∧cfL r s≤0∧Word gens s ws r:=by
  intro n
  induction n with
  | zero=>intro s used _ h;omega
  | succ n ih =>
    intro s used hs hmu hul
    rcases Oc hok hg hgl hs (used:=used) (by omega) gens.length 0 (by omega) (by omega) with ⟨f1,f2⟩|⟨m,x,f1,f2,f3,f4,f5⟩
    · rcases KJ hok hg hs (used:=used) (by omega) with ⟨g1,g2⟩|⟨q,y,_,g3,g4,_⟩
      · refine ⟨s,[],by simpa using f2,by rw [Db,g2,List.append_nil],hs,by rw [Jj];omega,.nil⟩
      · exact absurd ⟨y,g3,g4⟩ (f1 q (by omega))
    · rcases KJ hok hg hs (used:=used) (by omega) with ⟨g1,_⟩|⟨q,y,g2,g3,g4,g5⟩
      · exact absurd ⟨x,f3,f4⟩ (g1 m)
      · have hqm:q=m:=by
          rcases Nat.lt_trichotomy q m with h|h|h
          · exact absurd ⟨y,g3,g4⟩ (f2 q (by omega) h)
          · exact h
          · exact absurd ⟨x,f3,f4⟩ (g2 m h)
        subst hqm
        rw [f3] at g3
        obtain rfl:=Option.some.inj g3
        obtain ⟨h1,h2,h3⟩:=GI hok (hg x (List.mem_of_getElem? f3)).1 hs
        have hlt:=QP h3 f4
        obtain ⟨r,ws,r1,r2,r3,r4,r5⟩:=ih (imS x s) (used ++ [(q:Int)]) h3 (by omega) (by simp;omega)
        refine ⟨r,(q:Int) :: ws,?_,?_,r3,Ig r4 (by omega),.cons f3 r5⟩
        · have f5':lop (canF gens) (s,used,0)=lop (canF gens) (imS x s,used ++ [(q:Int)],0):=f5
          rw [f5',r1]
          simp
        · rw [Db,g5]
          simp only
          rw [r2]
          simp
theorem demandL {t:Tsk} (hok:TaskOk t) {gens:List Swp}:Bx t gens=some ⟨if bof (∀ x∈gens,SymP t x)=true then 0 else 2⟩:=by
  have:∃ r,Bx t gens=some r∧r=⟨if bof (∀ x∈gens,SymP t x)=true then 0 else 2⟩:=by
    unfold Bx CF
    rw [DG.2 hok,Am,if_neg (by simp)]
    refine Ik (fun m _=>∀ x∈gens.take m,SymP t x) (fun r=>r=⟨2⟩∧¬ ∀ x∈gens,SymP t x) (fun x hx=>by simp at hx) ?_ ?_ ?_
    · intro m x _ hx hI
      rw [IF hok,Am]
      by_cases h:SymP t x
      · rw [Bf h,Bl]
        refine .inl ⟨(),rfl,fun y hy=>?_⟩
        rcases (DP hx).1 hy with hy|rfl
        · exact hI y hy
        · exact h
      · rw [AQ h,BB]
        exact .inr ⟨_,rfl,rfl,fun hh=>h (hh x (List.mem_of_getElem? hx))⟩
    · intro _ hI
      rw [List.take_length] at hI
      exact ⟨_,rfl,by rw [Bf hI];rfl⟩
    · rintro q ⟨rfl,hn⟩
      exact ⟨_,rfl,by rw [AQ hn];rfl⟩
  obtain ⟨r,h1,h2⟩:=this
  rw [h1,h2]
theorem Qd {t:Tsk} (hs:SmallOk t) (s:List Int):muL t.vars s≤512:=Nat.le_trans (List.length_filter_le _ _) hs.many
theorem OY {t:Tsk} (hsm:SmallOk t) {gens:List Swp} (hg:∀ x∈gens,SymP t x) (hgl:gens.length≤1000) {s:List Int} (hs:StateOk t.vars s) :
    ∃ r ws,Ci t gens s=some (r,ws,⟨0⟩)∧CA gens s=some (r,ws)∧StateOk t.vars r∧cfL r s≤0∧Word gens s ws r:=by
  have hok:=hsm.ok
  obtain ⟨r,ws,r1,r2,r3,r4,r5⟩:=OX hok hg hgl 513 s [] hs (by have:=Qd hsm s;omega) (by simp)
  rw [List.nil_append] at r1 r2
  refine ⟨r,ws,?_,?_,r3,r4,r5⟩
  · have unf:Ci t gens s=bnd (Bx t gens) fun q30=>if q30.n≠0 then (some (([]:List Int),([]:List Int),(⟨q30.n⟩:Err))) else (bnd (Fe t.vars s) fun q39=>if q39=true then bnd (Cu s) fun q46=>bnd (lop (canF gens) (q46,([]:List Int),0)) fun res56=>fin res56 fun (s144:(List Int)×(List Int)×Int)=>some (s144.1,s144.2.1,(⟨0⟩:Err)) else some (([]:List Int),([]:List Int),(⟨2⟩:Err))):=rfl
    have hc:Cu s=some s:=if_pos ⟨by have:=hs.1;have:=hok.1;omega,by have:=hs.1;have:=hok.1;omega⟩
    rw [unf,demandL hok,Bf hg,Am,Bl,if_neg (by simp)]
    unfold Fe
    rw [Bf hs,Am,Bl,hc,Am,r1,Am,BL]
  · have unf:CA gens s=bnd (lop (canG gens) (s,([]:List Int))) fun res7=>fin res7 fun (_:(List Int)×(List Int))=>none:=rfl
    rw [unf,r2,Am,Ht]
end
section
open Go Go.RowKit
theorem Qe {t:Tsk} (hok:TaskOk t) {a b:List Int} (ha:StateOk t.vars a) (hb:StateOk t.vars b) (h:txt a=txt b):a=b:=by
  have h1:(a.map bw).map (fun b:Byt=>UInt8.ofNat b.n.toNat)=(b.map bw).map fun b:Byt=>UInt8.ofNat b.n.toNat:=by
    unfold txt strB at h
    have:=congrArg ByteArray.data h
    simpa using this
  apply List.ext_getElem?
  intro i
  rcases Nat.lt_or_ge i t.vars.length with hi|hi
  · obtain ⟨n,hn⟩:=EE (l:=t.vars) (k:=i) hi
    obtain ⟨x,hx⟩:=EE (l:=a) (k:=i) (by rw [ha.1];exact hi)
    obtain ⟨y,hy⟩:=EE (l:=b) (k:=i) (by rw [hb.1];exact hi)
    have hx1:=ha.2 i x n hx hn
    have hy1:=hb.2 i y n hy hn
    have hn1:=hok.2.2.1 i n hn
    have h2:=congrArg (·[i]?) h1
    simp only [List.getElem?_map,hx,hy,Option.map_some] at h2
    have h3:=congrArg UInt8.toNat (Option.some.inj h2)
    simp [bw] at h3
    rw [hx,hy]
    congr 1
    omega
  · rw [List.getElem?_eq_none (by rw [ha.1];exact hi),List.getElem?_eq_none (by rw [hb.1];exact hi)]
end
section
open Go Go.RowKit
def imP (x:Swp) (p:List Int):List Int:=p.map fun op=>(x.ops[op.toNat]?).getD 0
def Inside (n:Nat) (p:List Int):Prop:=∀ a∈p,0≤a∧a < n
end
section
open Go Go.RowKit
theorem LZ {s:List Int} {v u:Nat}:hasB s ⟨v,u⟩=true↔s[v]?=some (u:Int):=by
  unfold hasB
  simp
theorem Od {t:Tsk} {x:Swp} {f:Fct} {s a:List Int} (hok:TaskOk t) (hp:FactsPerm t x) (hf:FactOk t.vars f) (hs:StateOk t.vars s) (ha:ImS x s a):hasB a (imF x f)=hasB s f:=by
  obtain ⟨v,u,n,b,z,l,rfl,h1,h2,h3,hu,h4,h5,h6,h7,h8,h9,h10,e⟩:=Ew hok hp hf
  rw [e,Bool.eq_iff_iff,LZ,LZ]
  obtain ⟨y,hy⟩:=AF (l:=s) (k:=v) (by rw [hs.1];exact h1)
  obtain ⟨b',l',z',q1,q2,q3,q4⟩:=ha.2 v y hy
  obtain rfl:b=b':=by rw [h4] at q1;have:=Option.some.inj q1;omega
  obtain rfl:l=l':=by rw [h5] at q2;exact Option.some.inj q2
  obtain ⟨y,rfl,hy2⟩:=FB q3
  rw [q4,hy]
  constructor
  · intro hz
    rw [Option.some.inj hz] at hy2
    rw [GH h6 hy2 h7]
  · intro hz
    have:y=u:=by have:=Option.some.inj hz;omega
    subst this
    rw [h7] at hy2
    exact hy2.symm
theorem Jt {t:Tsk} {x:Swp} {fs:List Fct} {s a:List Int} (hok:TaskOk t) (hp:FactsPerm t x) (hf:FactsOk t.vars fs) (hs:StateOk t.vars s) (ha:ImS x s a):holdsB (imL x fs) a=holdsB fs s:=by
  unfold holdsB imL
  rw [Bool.eq_iff_iff,List.all_eq_true,List.all_eq_true]
  constructor
  · intro h f hf'
    rw [← Od hok hp ((EM hf).1 f hf') hs ha]
    exact h _ ((DD _).mem_iff.2 (List.mem_map.2 ⟨f,hf',rfl⟩))
  · intro h g hg
    obtain ⟨f,hf',rfl⟩:=List.mem_map.1 ((DD _).mem_iff.1 hg)
    rw [Od hok hp ((EM hf).1 f hf') hs ha]
    exact h f hf'
theorem Qf {t:Tsk} {x:Swp} {f:Fct} {u b:List Int} (hok:TaskOk t) (hp:FactsPerm t x) (hf:FactOk t.vars f) (hu:u.length=t.vars.length) (hb:ImS x u b):ImS x (u.set f.var.toNat f.val) (b.set (imF x f).var.toNat (imF x f).val):=by
  obtain ⟨v,y,n,c,z,l,rfl,h1,h2,h3,hy,h4,h5,h6,h7,h8,h9,h10,e⟩:=Ew hok hp hf
  rw [e]
  simp only [Int.toNat_natCast]
  refine ⟨by simp [hb.1],fun k w hk=>?_⟩
  rw [List.getElem?_set] at hk
  by_cases hvk:v=k
  · subst hvk
    rw [if_pos rfl,if_pos (by omega)] at hk
    obtain rfl:=Option.some.inj hk
    exact ⟨c,l,z,h4,h5,by rw [Bg,h7],by rw [List.getElem?_set_self (by rw [hb.1];omega)]⟩
  · rw [if_neg hvk] at hk
    obtain ⟨c',l',z',q1,q2,q3,q4⟩:=hb.2 k w hk
    refine ⟨c',l',z',q1,q2,q3,?_⟩
    rw [List.getElem?_set_ne (fun ec=>hvk ?_),q4]
    subst ec
    exact GH hp.1 h4 q1
theorem Ju {t:Tsk} {x:Swp} {s a:List Int} (hok:TaskOk t) (hp:FactsPerm t x) (hs:StateOk t.vars s) (ha:ImS x s a):∀ (l:List Eff),(∀ e∈l,EffOk t.vars e)→∀ (u b:List Int),u.length=t.vars.length→ImS x u b→ImS x (effsOn s l u) (effsOn a (l.map (imE x)) b)
  | [],_,_,_,_,hb=>hb
  | e :: l,he,u,b,hu,hb=>by
    obtain ⟨h1,h2⟩:=he e List.mem_cons_self
    rw [List.map_cons]
    unfold effsOn
    have hc:holdsB (imE x e).cond a=holdsB e.cond s:=Jt hok hp h1 hs ha
    rw [hc]
    by_cases hh:holdsB e.cond s=true
    · rw [if_pos hh,if_pos hh]
      exact Ju hok hp hs ha l (fun e' h'=>he e' (List.mem_cons_of_mem _ h')) _ _ (by simp [hu]) (Qf hok hp h2 hu hb)
    · rw [if_neg hh,if_neg hh]
      exact Ju hok hp hs ha l (fun e' h'=>he e' (List.mem_cons_of_mem _ h')) _ _ hu hb
theorem MJ {t:Tsk} {x:Swp} {s a:List Int} {k b:Nat} {o p:Opr} (hok:TaskOk t) (hx:SymP t x) (hs:StateOk t.vars s) (ha:ImS x s a) (ho:t.ops[k]?=some o) (hk:x.ops[k]?=some (b:Int)) (hb:t.ops[b]?=some p) :
    holdsB p.pre a=holdsB o.pre s∧ImS x (succ o s) (succ p a)∧p.cost=o.cost:=by
  obtain ⟨o',p',b',h1,h2,_,h3,h4,h5,h6⟩:=Fm hx (AE ho)
  obtain rfl:o=o':=by rw [ho] at h1;exact Option.some.inj h1
  obtain rfl:b=b':=by rw [hk] at h2;have:=Option.some.inj h2;omega
  obtain rfl:p=p':=by rw [hb] at h3;exact Option.some.inj h3
  have hoo:=hok.2.2.2.2.2 k o ho
  refine ⟨by rw [← h5];exact Jt hok hx.1 hoo.2.2.2.2.1 hs ha,?_,h4.symm⟩
  unfold succ
  rw [← h6]
  exact Ju hok hx.1 hs ha o.effs (IG hoo) s a hs.1 ha
theorem HC {t:Tsk} {x:Swp} {s a:List Int} (hok:TaskOk t) (hx:SymP t x) (hs:StateOk t.vars s) (ha:ImS x s a):ImS (invX x) a s:=by
  have hi:=Kl hok hx
  obtain ⟨r,_,hr⟩:=LQ hok hi.1 (Oa hx.1 hs ha)
  have:=Js hx.1 hi.1 hs ha hr
  rw [OW hok hx] at this
  rwa [LX (EG hok) hs.1 this (LY hok hs)] at hr
end
section
open Go Go.RowKit
theorem MK {t:Tsk} {x:Swp} (hok:TaskOk t) (hx:SymP t x) {s p s':List Int} {C:Int} (hr:PlanR t s p s' C):∀ {a:List Int},StateOk t.vars s→ImS x s a→Inside t.ops.length p∧StateOk t.vars s'∧∃ a',PlanR t a (imP x p) a' C∧ImS x s' a':=by
  induction hr with
  | nil=>intro a hs ha;exact ⟨fun b hb=>by simp at hb,hs,a,.nil,ha⟩
  | @cons s rest s' k o C ho hp hr ih =>
    intro a hs ha
    obtain ⟨o',p,b,h1,h2,hb,h3,_⟩:=Fm hx (AE ho)
    obtain ⟨g1,g2,g3⟩:=MJ hok hx hs ha ho h2 h3
    obtain ⟨i1,i2,a',i3,i4⟩:=ih (FF hok hs ho) g2
    refine ⟨fun q hq=>?_,i2,a',?_,i4⟩
    · rcases List.mem_cons.1 hq with rfl|hq
      · have:=AE ho;omega
      · exact i1 q hq
    · have:imP x ((k:Int) :: rest)=(b:Int) :: imP x rest:=by simp [imP,h2]
      rw [this,← g3]
      exact .cons h3 (by rw [g1];exact hp) i3
end
section
set_option linter.unusedVariables false
set_option linter.unusedSimpArgs false
open Go Go.RowKit
noncomputable def cnP (t:Tsk) (gens:List Swp) (s:List Int):List Int×List Int:=((Ci t gens s).map fun r=>(r.1,r.2.1)).getD ([],[])
noncomputable def cnS (t:Tsk) (gens:List Swp) (s:List Int):List Int:=(cnP t gens s).1
noncomputable def wdS (t:Tsk) (gens:List Swp) (s:List Int):List Int:=(cnP t gens s).2
structure Sy (t:Tsk) (gens:List Swp):Prop where
  sm:SmallOk t
  sy:∀ x∈gens,SymP t x
  len:gens.length≤1000
theorem Gp {t:Tsk} {gens:List Swp} (h:Sy t gens) {s:List Int} (hs:StateOk t.vars s):Ci t gens s=some (cnS t gens s,wdS t gens s,⟨0⟩)∧CA gens s=some (cnS t gens s,wdS t gens s)∧StateOk t.vars (cnS t gens s)∧Word gens s (wdS t gens s) (cnS t gens s):=by
  obtain ⟨r,ws,h1,h2,h3,_,h5⟩:=OY h.sm h.sy h.len hs
  have e1:cnS t gens s=r:=by unfold cnS cnP;rw [h1];rfl
  have e2:wdS t gens s=ws:=by unfold wdS cnP;rw [h1];rfl
  rw [e1,e2]
  exact ⟨h1,h2,h3,h5⟩
theorem QQ {s:List Int} (hl:s.length≤1000000):Fb s=some (txt s):=by
  unfold Fb
  rw [FS (by omega) (by omega),Am]
  refine PM (fun m l=>l.length=s.length∧∀ (i:Nat) x,i < m→s[i]?=some x→l[i]?=some (bw x)) ⟨by simp,fun i x hi=>by omega⟩ ?_ ?_
  · rintro m x l hx ⟨h1,h2⟩
    have hm:=AE hx
    obtain ⟨u,hu⟩:=EE (l:=l) (k:=m) (by omega)
    rw [hu,Am]
    refine ⟨_,rfl,by simpa using h1,fun i y hi hy=>?_⟩
    by_cases e:i=m
    · subst e
      rw [hx] at hy
      rw [List.getElem?_set_self (by omega),Option.some.inj hy]
    · rw [List.getElem?_set_ne (by omega)]
      exact h2 i y (by omega) hy
  · rintro l ⟨h1,h2⟩
    have hls:l=s.map bw:=by
      apply List.ext_getElem?
      intro i
      rw [List.getElem?_map]
      rcases Nat.lt_or_ge i s.length with hi|hi
      · obtain ⟨x,hx⟩:=EE (l:=s) (k:=i) hi
        rw [hx,h2 i x hi hx];rfl
      · rw [List.getElem?_eq_none (by omega),List.getElem?_eq_none hi];rfl
    subst hls
    rw [BL,PF (by simp;omega),Am]
    rfl
theorem KK {K V:Type} [MKey K] (k k':K) (v:V):∀ l:List (K×V),mhas (mput l k v) k'=if k=k' then true else mhas l k'
  | []=>by simp only [mput,mhas]
  | p :: r=>by
    have ih:=KK k k' v r
    simp only [mput]
    by_cases h1:p.1=k
    · rw [if_pos h1]
      simp only [mhas]
      by_cases h2:k=k'
      · rw [if_pos h2,if_pos h2]
      · rw [if_neg h2,if_neg h2,if_neg (by rw [h1];exact h2)]
    · rw [if_neg h1]
      simp only [mhas,ih]
      by_cases h2:k=k'
      · rw [if_pos h2,if_pos h2,if_neg (by rw [← h2];exact h1)]
      · rw [if_neg h2,if_neg h2]
def TabI (vars:List Int) (N:List ONd) (tab:List (ByteArray×Int)):Prop:=∀ y,StateOk vars y→(mhas tab (txt y)=false∧∀ (i:Nat) n,N[i]?=some n→n.state≠y)∨(∃ (i:Nat) (n:ONd),mhas tab (txt y)=true∧mget 0 tab (txt y)=(i:Int)∧N[i]?=some n∧n.state=y)
theorem TabI.set {vars:List Int} {N:List ONd} {tab:List (ByteArray×Int)} (h:TabI vars N tab) {i:Nat} {a b:ONd} (ha:N[i]?=some a) (hb:b.state=a.state):TabI vars (N.set i b) tab:=fun y hy=>by
  have hil:=AE ha
  rcases h y hy with ⟨h1,h2⟩|⟨j,n,h1,h2,h3,h4⟩
  · refine .inl ⟨h1,fun j n hj=>?_⟩
    by_cases e:i=j
    · subst e;rw [List.getElem?_set_self hil] at hj;obtain rfl:=Option.some.inj hj;rw [hb];exact h2 i a ha
    · rw [List.getElem?_set_ne e] at hj;exact h2 j n hj
  · by_cases e:i=j
    · subst e
      rw [ha] at h3
      obtain rfl:=Option.some.inj h3
      exact .inr ⟨i,b,h1,h2,List.getElem?_set_self hil,hb.trans h4⟩
    · exact .inr ⟨j,n,h1,h2,by rw [List.getElem?_set_ne e];exact h3,h4⟩
theorem TabI.app {t:Tsk} (hok:TaskOk t) {N:List ONd} {tab:List (ByteArray×Int)} (h:TabI t.vars N tab) {b:ONd} (hb:StateOk t.vars b.state):TabI t.vars (N ++ [b]) (mput tab (txt b.state) (N.length:Int)):=fun y hy=>by
  rw [KK,KB]
  by_cases e:txt b.state=txt y
  · have:=Qe hok hb hy e
    rw [if_pos e,if_pos e]
    exact .inr ⟨N.length,b,rfl,rfl,by simp,this⟩
  · rw [if_neg e,if_neg e]
    rcases h y hy with ⟨h1,h2⟩|⟨j,n,h1,h2,h3,h4⟩
    · refine .inl ⟨h1,fun j n hj=>?_⟩
      rcases Nat.lt_or_ge j N.length with hl|hl
      · rw [List.getElem?_append_left hl] at hj;exact h2 j n hj
      · rw [List.getElem?_append_right hl] at hj
        have:n=b:=by
          cases hk:j - N.length with
          | zero=>rw [hk] at hj;simpa using hj.symm
          | succ k=>rw [hk] at hj;simp at hj
        subst this
        exact fun e2=>e (by rw [e2])
    · exact .inr ⟨j,n,h1,h2,by rw [List.getElem?_append_left (AE h3)];exact h3,h4⟩
theorem Pv {t:Tsk} {gens:List Swp} (h:Sy t gens) {x:Ors} (ht:x.t=t) (hg:x.gens=gens) (htab:TabI t.vars x.nodes x.tab.l) (hh:HeapOk (qs x.open_)) (hn0:0≤x.number) (hn1:x.number≤100000) (hq:x.open_.length≤100000) (hN:x.nodes.length≤600) {s:List Int} (hs:StateOk t.vars s) (c p q:Int) :
    (∃ (i:Nat) (n:ONd),x.nodes[i]?=some n∧n.state=cnS t gens s∧n.cost≤c∧BW x s c p q=some (⟨0⟩,x)) ∨
    ∃ (i:Nat) (x':Ors),BW x s c p q=some (⟨0⟩,x')∧x'.t=t∧x'.gens=gens∧TabI t.vars x'.nodes x'.tab.l∧HeapOk (qs x'.open_)∧x'.number=x.number + 1∧x'.open_.length=x.open_.length + 1∧(qs x'.open_).Perm (⟨c,0,(i:Int),x.number + 1⟩ :: qs x.open_) ∧
      ((i=x.nodes.length∧x'.nodes=x.nodes ++ [⟨cnS t gens s,c,p,q,wdS t gens s,false⟩]∧∀ (j:Nat) n,x.nodes[j]?=some n→n.state≠cnS t gens s)∨∃ a,x.nodes[i]?=some a∧a.state=cnS t gens s∧c < a.cost∧x'.nodes=x.nodes.set i ⟨cnS t gens s,c,p,q,wdS t gens s,false⟩):=by
  have hok:=h.sm.ok
  obtain ⟨c1,_,c3,_⟩:=Gp h hs
  obtain ⟨tt,gg,N,tab,op,num⟩:=x
  dsimp only at ht hg htab hh hn0 hn1 hq hN ⊢
  subst ht hg
  have c1':Ci (⟨tt.vars,tt.init,tt.goal,tt.ops⟩:Tsk) gg s=some (cnS tt gg s,wdS tt gg s,⟨0⟩):=c1
  have hkl:(cnS tt gg s).length≤1000000:=by have:=c3.1;have:=hok.1;omega
  have push:∀ i:Nat,∃ r,CD (⟨op⟩:BQ) ⟨⟨c,num + 1,(i:Int)⟩⟩=some r∧HeapOk (qs r.l)∧(qs r.l).Perm (⟨c,0,(i:Int),num + 1⟩ :: qs op):=fun i=>OM (q:=⟨op⟩) hh (by dsimp only;omega) ⟨c,num + 1,(i:Int)⟩
  have plen:∀ {l:List OEn} {e:QEn},(qs l).Perm (e :: qs op)→l.length=op.length + 1:=fun {l e} hp=>by
    have:=hp.length_eq
    simpa [FW] using this
  unfold BW
  dsimp only
  rw [c1',Am,if_neg (by simp)]
  dsimp only
  rw [QQ hkl,Am]
  rcases htab _ c3 with ⟨h1,h2⟩|⟨j,n,h1,h2,h3,h4⟩
  · refine .inr ⟨N.length,?_⟩
    obtain ⟨r,r1,r2,r3⟩:=push N.length
    rw [h1,BB,Am]
    dsimp only
    rw [BB,BB,Cp (by simp;omega) (by simp;omega),Am,Am]
    dsimp only
    rw [Cy (by unfold inI64;omega),Am,r1,Am]
    exact ⟨_,rfl,rfl,rfl,TabI.app hok htab (b:=⟨cnS tt gg s,c,p,q,wdS tt gg s,false⟩) c3,r2,rfl,plen r3,r3,.inl ⟨rfl,rfl,h2⟩⟩
  · rw [h1,Bl,h2,Bg,h3,Am]
    by_cases hle:n.cost≤c
    · rw [if_pos hle,Am]
      dsimp only
      rw [Bl]
      exact .inl ⟨j,n,h3,h4,hle,rfl⟩
    · refine .inr ⟨j,?_⟩
      obtain ⟨r,r1,r2,r3⟩:=push j
      rw [if_neg hle,Am]
      dsimp only
      rw [BB,Bl,Am,Am]
      dsimp only
      rw [Cy (by unfold inI64;omega),Am,r1,Am]
      exact ⟨_,rfl,rfl,rfl,htab.set h3 (b:=⟨cnS tt gg s,c,p,q,wdS tt gg s,false⟩) h4.symm,r2,rfl,plen r3,r3,.inr ⟨n,h3,h4,by omega,by dsimp only;rw [Int.toNat_natCast]⟩⟩
end
section
open Go Go.RowKit
theorem Mq {t:Tsk} (hok:TaskOk t):CN t=some (idX t,⟨0⟩):=by
  unfold CN
  have h1:=hok.1
  have h2:=hok.2.1
  rw [demand0 hok,Am,if_neg (by simp),Kk (by omega),Am,Kk (by omega),Am,Am,DL (fun k=>(t.vars.take k).map fun n=>rangeI n.toNat) (by simp) (fun k n hk=>by
    have hn:=hok.2.2.1 k n hk
    have:=AE hk
    obtain ⟨m,rfl⟩:=Int.eq_ofNat_of_zero_le (by omega:0≤n)
    rw [Kk (by omega),Am,Cp (by simp;omega) (by simp;omega),Am,map_take hk]
    simp),Am,BL,List.take_length]
  rfl
theorem Ni {t:Tsk} {x y:Swp} (hok:TaskOk t) (hx:SymP t x) (hy:SymP t y):Ch t x y=some (compX x y,⟨0⟩):=by
  unfold Ch
  have h1:=hok.1
  have h2:=hok.2.1
  rw [demand2 hok,Am,Bf ⟨hx,hy⟩,Bl,if_neg (by simp),Jp hx.1.1 hy.1.1.len (by omega),Am,Jp hx.2.1 hy.2.1.len (by omega),Am,Am,DL (fun k=>(compX x y).vals.take k) (by simp) (fun k l hk=>by
    have hlt:=AE hk
    rw [hx.1.2.1] at hlt
    obtain ⟨n,a,l',q1,q2,q3,q4,q5⟩:=hx.1.2.2 k hlt
    obtain rfl:l=l':=by rw [hk] at q3;exact Option.some.inj q3
    obtain ⟨ha1,ha2⟩:=hx.1.1.mem (List.mem_of_getElem? q2)
    obtain ⟨a,rfl⟩:=Int.eq_ofNat_of_zero_le ha1
    obtain ⟨n',b,m,p1,p2,p3,p4,p5⟩:=hy.1.2.2 a (by omega)
    rw [Bg] at q4
    have e:n=n':=by rw [q4] at p1;have:=Option.some.inj p1;omega
    subst e
    have hn:=hok.2.2.1 k n q1
    rw [q2,Am,Bg,p3,Am,Jp q5 p5.len (by omega),Am,Cp (by simp;omega) (by simp;omega),Am,List.take_add_one,FY q2 q3 p3]
    rfl),Am,BL]
  have:x.vals.length=(compX x y).vals.length:=by simp [compX]
  rw [this,List.take_length]
  rfl
theorem Nj {t:Tsk} {x:Swp} (hok:TaskOk t) (hx:SymP t x):CH t x=some (invX x,⟨0⟩):=by
  unfold CH
  have hl:t.vars.length≤1000000:=by have:=hok.1;omega
  have hl2:t.ops.length≤1000000:=by have:=hok.2.1;omega
  have hvl:=hx.1.2.1
  rw [demand1 hok,Am,Bf hx,Bl,if_neg (by simp),(EF hx.1.1 hl).1,Am,(EF hx.2.1 hl2).1,Am,FS (by omega) (by omega),Am,Am]
  simp only
  obtain ⟨s,h1,h2,h3⟩:=DE (ρ:=Swp×Err) (f:=fun (k414:Nat) (a415:List Int) (s412:(List (List Int)))=>bnd (x.vars[k414]?) fun a440=>bnd (Cr a415) fun q450=>bnd (atI s412 a440) fun _=>some (.next (s412.set (a440).toNat q450))) (xs:=x.vals) (s₀:=List.replicate x.vals.length []) (fun k s=>s.length=x.vals.length∧∀ v a:Nat,v < k→x.vars[v]?=some (a:Int)→s[a]?=(invX x).vals[a]?) ⟨by simp,fun v a h=>by omega⟩ (fun k l s hk hI=>by
    obtain ⟨i1,i2⟩:=hI
    have hlt:=AE hk
    obtain ⟨n,a,l',q1,q2,q3,q4,q5⟩:=hx.1.2.2 k (by omega)
    obtain rfl:l=l':=by rw [hk] at q3;exact Option.some.inj q3
    obtain ⟨ha1,ha2⟩:=hx.1.1.mem (List.mem_of_getElem? q2)
    obtain ⟨a,rfl⟩:=Int.eq_ofNat_of_zero_le ha1
    obtain ⟨u,hu⟩:=AF (l:=s) (k:=a) (by omega)
    have hn:=hok.2.2.1 k n q1
    rw [q2,Am,(EF q5 (by omega)).1,Am,Bg,hu,Am]
    refine ⟨_,rfl,by simpa using i1,fun v b hv hvb=>?_⟩
    rw [show ((a:Int)).toNat=a from by omega,List.getElem?_set]
    by_cases e:a=b
    · subst e;rw [if_pos rfl,if_pos (by omega),HB hok hx.1 q2 q3]
    · rw [if_neg e]
      refine i2 v b ?_ hvb
      have:v≠k:=fun h=>e (by subst h;rw [hvb] at q2;have:=Option.some.inj q2;omega)
      omega)
  rw [h1,Am,BL]
  have:s=(invX x).vals:=List.ext_getElem? fun a=>by
    by_cases ha:a < x.vals.length
    · obtain ⟨v,hv,hva⟩:=Fl hx.1.1 (a:=a) (by omega)
      exact h3 v a (by omega) hva
    · rw [List.getElem?_eq_none (by omega),List.getElem?_eq_none (by simp [invX];omega)]
  rw [this]
  rfl
end
section
set_option linter.unusedVariables false
set_option linter.unusedSimpArgs false
open Go Go.RowKit
theorem Gq {t:Tsk} {gens:List Swp} (h:Sy t gens) {s:List Int} (ho:OR t (cnS t gens) s):StateOk t.vars s:=by
  have hok:=h.sm.ok
  induction ho with
  | init=>exact (Gp h hok.2.2.2.1).2.2.1
  | step _ _ ho _ ih=>exact (Gp h (FF hok ih ho)).2.2.1
theorem OZ {N:List ONd} {i:Nat} {l:List Nat} (h:TrN N i l):∀ (acc:List Int),acc.length + l.length≤100000 →
    lop (ρ:=(List Int)×Err) (fun (s5:Int×(List Int))=>if 0≤s5.1 then (bnd (appI 8 s5.2 [s5.1]) fun u25=>bnd (atI N s5.1) fun a75=>some (.next (a75.parent,u25))) else (some (.brk (s5.1,s5.2)))) ((i:Int),acc)=some (.done (-1,acc ++ (l.reverse.map fun k:Nat=>(k:Int)))):=by
  induction h with
  | @root n h0 hp =>
    intro acc ha
    simp only [List.length_singleton] at ha
    rw [Db]
    dsimp only
    rw [if_pos (by omega),Cp (by simp;omega) (by simp;omega),Am,Bg,h0,Am,hp]
    dsimp only
    rw [Db]
    dsimp only
    rw [if_neg (by omega)]
    rfl
  | @step i p n l hi hp hl ih =>
    intro acc ha
    simp only [List.length_append,List.length_singleton] at ha
    rw [Db]
    dsimp only
    rw [if_pos (by omega),Cp (by simp;omega) (by simp;omega),Am,Bg,hi,Am,hp]
    dsimp only
    rw [ih (acc ++ [(i:Int)]) (by simp;omega)]
    simp
theorem TrN.way {N:List ONd} {i:Nat} {l:List Nat} (h:TrN N i l):l[0]?=some 0∧l.getLast?=some i∧∀ (k a b:Nat),l[k]?=some a→l[k + 1]?=some b→∃ n,N[b]?=some n∧n.parent=(a:Int):=by
  induction h with
  | root h0 hp=>exact ⟨rfl,rfl,fun k a b _ hb=>by simp at hb⟩
  | @step i p n l hi hp hl ih =>
    obtain ⟨i1,i2,i3⟩:=ih
    have hl0:=AE i1
    refine ⟨by rw [List.getElem?_append_left hl0];exact i1,by simp,fun k a b ha hb=>?_⟩
    rcases Nat.lt_or_ge (k + 1) l.length with hk|hk
    · rw [List.getElem?_append_left hk] at hb
      rw [List.getElem?_append_left (by omega)] at ha
      exact i3 k a b ha hb
    · have hbl:=AE hb
      simp only [List.length_append,List.length_singleton] at hbl
      have hk2:k + 1=l.length:=by omega
      rw [hk2] at hb
      simp at hb
      subst hb
      rw [List.getElem?_append_left (by omega)] at ha
      rw [List.getLast?_eq_getElem?,show l.length - 1=k from by omega,ha] at i2
      obtain rfl:=Option.some.inj i2
      exact ⟨n,hi,hp⟩
theorem TrN.mem {N:List ONd} {i:Nat} {l:List Nat} (h:TrN N i l):∀ k∈l,∃ n,N[k]?=some n:=by
  induction h with
  | root h0 hp=>intro k hk;simp at hk;subst hk;exact ⟨_,h0⟩
  | step hi hp hl ih =>
    intro k hk
    rcases List.mem_append.1 hk with hk|hk
    · exact ih k hk
    · simp at hk;subst hk;exact ⟨_,hi⟩
theorem Oe {t:Tsk} {gens:List Swp} (h:Sy t gens) {L s ws r:List Int} (hw:Word gens s ws r) {ρ:Type} (bad:(Swp×Err)→ρ) (hL:StateOk t.vars L):∀ (j:Nat) (x:Swp),SymP t x→StateOk t.vars s→ImS x L s →
    ∃ y:Swp,rng (ρ:=ρ) (fun (k498:Nat) (a499:Int) (s496:(List Int)×(List (List Int))×(List Int))=>bnd (atI gens a499) fun a561=>bnd (Ch t (⟨s496.1,s496.2.1,s496.2.2⟩:Swp) a561) fun q584=>if q584.2.n≠0 then (some (.ret (bad q584))) else (some (.next (q584.1.vars,q584.1.vals,q584.1.ops)))) ws j (x.vars,x.vals,x.ops)=some (.done (y.vars,y.vals,y.ops))∧SymP t y∧ImS y L r:=by
  have hok:=h.sm.ok
  induction hw with
  | nil=>intro j x hx _ ha;exact ⟨x,rfl,hx,ha⟩
  | @cons s r ws m g hm hw ih =>
    intro j x hx hs ha
    have hg:=h.sy g (List.mem_of_getElem? hm)
    obtain ⟨g1,g2,g3⟩:=GI hok hg.1 hs
    obtain ⟨y,y1,y2,y3⟩:=ih (j + 1) (compX x g) (LU hok hx hg) g3 (Js hx.1 hg.1 hL ha g2)
    refine ⟨y,?_,y2,y3⟩
    have e:Ch t (⟨x.vars,x.vals,x.ops⟩:Swp) g=some (compX x g,⟨0⟩):=Ni hok hx hg
    simp only [rng]
    rw [Bg,hm,Am,e,Am,if_neg (by simp)]
    exact y1
theorem Pa {t:Tsk} {gens:List Swp} (h:Sy t gens) {x:Ors} (ht:x.t=t) (hg:x.gens=gens) {D:Nat→Int→Prop} {hp:List QEn} {ord:Nat→Nat} {E:Nat} (hinv:OrI t (cnS t gens) (wdS t gens) D x.nodes hp ord E) {i:Nat} {n:ONd} {l:List Nat} (hi:x.nodes[i]?=some n) (hl:TrN x.nodes i l) (hlen:l.length≤1000) :
    ∃ p L,CB x (i:Int)=some (p,⟨0⟩)∧p.length≤l.length∧PlanR t t.init p L n.cost∧StateOk t.vars L∧∃ y,SymP t y∧ImS y L n.state:=by
  have hok:=h.sm.ok
  have hs0:=hok.2.2.2.1
  obtain ⟨tt,gg,N,tab,op,num⟩:=x
  dsimp only at ht hg hinv hi hl ⊢
  subst ht hg
  obtain ⟨w1,w2,w3⟩:=hl.way
  have hid:CN (⟨tt.vars,tt.init,tt.goal,tt.ops⟩:Tsk)=some (idX tt,⟨0⟩):=Mq hok
  have hrev:Ck (l.reverse.map fun k:Nat=>(k:Int))=some (l.map fun k:Nat=>(k:Int)):=by
    rw [QL (by simp;omega)]
    simp
  have hsp:∀ (j:Nat) m,N[j]?=some m→StateOk tt.vars m.state:=fun j m hj=>Gq h (hinv.rch j m hj)
  unfold CB
  dsimp only
  rw [OZ hl [] (by simp;omega),Am,BL]
  dsimp only
  rw [List.nil_append,hrev,Am,hid,Am,if_neg (by simp)]
  dsimp only
  refine (?_:∃ p L,_∧p.length≤l.length∧PlanR tt tt.init p L n.cost∧StateOk tt.vars L∧∃ y,SymP tt y∧ImS y L n.state)
  obtain ⟨z,z1,z2⟩:=DE (ρ:=(List Int)×Err) (xs:=l.reverse.map fun k:Nat=>(k:Int)) (s₀:=(([]:List Int),(idX tt).vars,(idX tt).vals,(idX tt).ops)) (f:=fun (k203:Nat) (a204:Int) (s201:(List Int)×(List Int)×(List (List Int))×(List Int))=>bnd ((l.map fun k:Nat=>(k:Int))[k203]?) fun a224=>bnd (bnd (atI N a224) fun a278=>if 0≤a278.op then (bnd (CH (⟨tt.vars,tt.init,tt.goal,tt.ops⟩:Tsk) (⟨s201.2.1,s201.2.2.1,s201.2.2.2⟩:Swp)) fun q308=>bnd (some (q308.1.vars,q308.1.vals,q308.1.ops):Option ((List Int)×(List (List Int))×(List Int))) fun y310=>if q308.2.n≠0 then (some (.ret (.ret (([]:List Int),(⟨q308.2.n⟩:Err))))) else (bnd (atI y310.2.2 a278.op) fun a394=>bnd (appI 8 s201.1 [a394]) fun u406=>some (.done u406))) else (some (.done s201.1)):Option (Fin (List Int) (Ctl ((List Int)×(List Int)×(List (List Int))×(List Int)) ((List Int)×Err)))) fun y234=>fin y234 fun (s236:(List Int))=>bnd (atI N a224) fun a465=>bnd (rng (ρ:=Ctl ((List Int)×(List Int)×(List (List Int))×(List Int)) ((List Int)×Err)) (fun (k498:Nat) (a499:Int) (s496:(List Int)×(List (List Int))×(List Int))=>bnd (atI gg a499) fun a561=>bnd (Ch (⟨tt.vars,tt.init,tt.goal,tt.ops⟩:Tsk) (⟨s496.1,s496.2.1,s496.2.2⟩:Swp) a561) fun q584=>if q584.2.n≠0 then (some (.ret (.ret (([]:List Int),(⟨q584.2.n⟩:Err))))) else (some (.next (q584.1.vars,q584.1.vals,q584.1.ops)))) a465.used 0 (s201.2.1,s201.2.2.1,s201.2.2.2)) fun res494=>fin res494 fun (s626:(List Int)×(List (List Int))×(List Int))=>some (.next (s236,s626.1,s626.2.1,s626.2.2)))
    (fun k st=>∃ y:Swp,SymP tt y∧st.2=(y.vars,y.vals,y.ops)∧st.1.length≤k∧((k=0∧st.1=[]∧y=idX tt)∨∃ (k' j:Nat) (m:ONd) (L:List Int),k=k' + 1∧l[k']?=some j∧N[j]?=some m∧PlanR tt tt.init st.1 L m.cost∧StateOk tt.vars L∧ImS y L m.state))
    ⟨idX tt,NX hok,rfl,by simp,.inl ⟨rfl,rfl,rfl⟩⟩ (fun k a st hk hI=>by
      have hkl:=AE hk
      simp only [List.length_map,List.length_reverse] at hkl
      obtain ⟨j,hj⟩:=AF (l:=l) (k:=k) hkl
      obtain ⟨m,hm⟩:=hl.mem j (List.mem_of_getElem? hj)
      obtain ⟨pl,st2⟩:=st
      obtain ⟨y,y1,y2,y3,y4⟩:=hI
      dsimp only at y2 y3 y4 ⊢
      subst y2
      dsimp only
      rw [List.getElem?_map,hj]
      dsimp only [Option.map_some]
      rw [Am,Bg,hm,Am]
      have wloop:∀ {L s:List Int},StateOk tt.vars L→StateOk tt.vars s→ImS y L s→m.state=cnS tt gg s→m.used=wdS tt gg s→∃ y':Swp,rng (ρ:=Ctl ((List Int)×(List Int)×(List (List Int))×(List Int)) ((List Int)×Err)) (fun (k498:Nat) (a499:Int) (s496:(List Int)×(List (List Int))×(List Int))=>bnd (atI gg a499) fun a561=>bnd (Ch (⟨tt.vars,tt.init,tt.goal,tt.ops⟩:Tsk) (⟨s496.1,s496.2.1,s496.2.2⟩:Swp) a561) fun q584=>if q584.2.n≠0 then (some (.ret (.ret (([]:List Int),(⟨q584.2.n⟩:Err))))) else (some (.next (q584.1.vars,q584.1.vals,q584.1.ops)))) m.used 0 (y.vars,y.vals,y.ops)=some (.done (y'.vars,y'.vals,y'.ops))∧SymP tt y'∧ImS y' L m.state:=fun {L s} hL hs ha e1 e2=>by
        rw [e1,e2]
        exact Oe h (Gp h hs).2.2.2 (fun q584=>Ctl.ret (σ:=(List Int)×(List Int)×(List (List Int))×(List Int)) (([]:List Int),(⟨q584.2.n⟩:Err))) hL 0 y y1 hs ha
      rcases y4 with ⟨rfl,rfl,rfl⟩|⟨k',j',m',L,rfl,hj',hm',hpl,hL,hIm⟩
      · rw [w1] at hj
        obtain rfl:=Option.some.inj hj
        obtain ⟨n0,r1,r2,r3,r4,r5,r6⟩:=hinv.root
        rw [r1] at hm
        obtain rfl:=Option.some.inj hm
        obtain ⟨y',q1,q2,q3⟩:=wloop hs0 hs0 (LY hok hs0) r2 r3
        rw [r6,if_neg (by omega),Am,BL,Am,q1,Am,BL]
        refine ⟨_,rfl,y',q2,rfl,by simp,.inr ⟨0,0,n0,tt.init,rfl,w1,r1,?_,hs0,q3⟩⟩
        rw [r4]
        exact .nil
      · obtain ⟨m2,hm2,hpar⟩:=w3 k' j' j hj' hj
        rw [hm] at hm2
        obtain rfl:=Option.some.inj hm2
        rcases hinv.link j m hm with rfl|⟨pp,q,o,mm,a1,a2,a3,a4,a5,a6,a7,a8,a9,_⟩
        · obtain ⟨n0,r1,_,_,_,r5,_⟩:=hinv.root
          rw [r1] at hm
          obtain rfl:=Option.some.inj hm
          omega
        have epp:pp=j':=by omega
        subst epp
        rw [hm'] at a4
        obtain rfl:=Option.some.inj a4
        have hst:=hsp pp m' hm'
        have hiv:=Kl hok y1
        obtain ⟨o',p2,b,o1,o2,o3,o4,o5,_⟩:=Fm hiv (AE a3)
        have hback:=HC hok y1 hL hIm
        obtain ⟨g1,g2,g3⟩:=MJ hok hiv hst hback a3 o2 o4
        have hs2:=FF hok hst a3
        have hL2:=FF hok hL o4
        have hIm2:ImS y (succ p2 L) (succ o m'.state):=by
          obtain ⟨c1,c2,c3⟩:=GI hok y1.1 hL2
          have e1:=HC hok y1 hL2 c2
          have e2:=HC hok hiv c3 e1
          have e3:=HC hok hiv hs2 g2
          have e4:=LX (Kl hok hiv).1 hL2.1 e2 e3
          rw [e4] at c2
          exact c2
        obtain ⟨y',q1,q2,q3⟩:=wloop hL2 hs2 hIm2 a7 a8
        have ei:CH (⟨tt.vars,tt.init,tt.goal,tt.ops⟩:Tsk) (⟨y.vars,y.vals,y.ops⟩:Swp)=some (invX y,⟨0⟩):=Nj hok y1
        rw [a2,if_pos (by omega),ei,Am,Am,if_neg (by simp)]
        dsimp only
        rw [Bg,o2,Am,Cp (by simp;omega) (by simp;omega),Am,Am,BL,Am,q1,Am,BL]
        refine ⟨_,rfl,y',q2,rfl,by simp;omega,.inr ⟨k' + 1,j,m,succ p2 L,rfl,hj,hm,?_,hL2,q3⟩⟩
        rw [a9,← g3]
        exact hpl.snoc o4 (by rw [g1];exact a6))
  obtain ⟨y,y1,y2,y3,y4⟩:=z2
  rw [z1,Am,BL]
  simp only [List.length_map,List.length_reverse] at y3 y4
  have hlp:=AE w1
  rcases y4 with ⟨e,_⟩|⟨k',j,m,L,e,hj,hm,hpl,hL,hIm⟩
  · omega
  rw [List.getLast?_eq_getElem?,show l.length - 1=k' from by omega,hj] at w2
  obtain rfl:=Option.some.inj w2
  rw [hi] at hm
  obtain rfl:=Option.some.inj hm
  exact ⟨z.1,L,rfl,y3,hpl,hL,y,y1,hIm⟩
end
end Go.Proofs.YtecegaabajeolaaGreat

/- Own text: what the proof of explorePlans_holds uses, part 4: rules, models and their proofs, plain laws. -/
import Derived.Test.YtkbmbcblgdgjlaaGreatEPC
set_option linter.unusedVariables false
set_option linter.unusedSimpArgs false
namespace Go.Proofs.YtkbmbcblgdgjlaaGreat
open Go Go.RowKit
section
open Go Go.RowKit
attribute [local irreducible] ewp owp hwp hwq hws Ev Evg Fn retPost loud loudS Res1
attribute [local irreducible] hwx loudX
structure Arc where
  src:Int
  dst:Int
  weight:Int
instance:Rp Arc where
  isAgg:=true
  size:=3
  R w F cs x:=cs=[.int .i64 x.src,.int .i64 x.dst,.int .i64 x.weight]∧inI64 x.src∧inI64 x.dst∧inI64 x.weight
  len:=by rintro w F cs x ⟨rfl,h0,h1,h2⟩;rfl
  one:=by rintro w F cs x ⟨rfl,h0,h1,h2⟩ u hu;simp at hu;rcases hu with rfl|rfl|rfl<;>first|rfl|exact Vb.one rfl (by assumption)
  agree:=by rintro w w' F cs x ⟨rfl,h0,h1,h2⟩ ha;exact ⟨rfl,h0,h1,h2⟩
  mono:=by rintro w F G cs x ⟨rfl,h0,h1,h2⟩ ha;exact ⟨rfl,h0,h1,h2⟩
structure Edj where
  src:Int
  label:Int
  dst:Int
instance:Rp Edj where
  isAgg:=true
  size:=3
  R w F cs x:=cs=[.int .i64 x.src,.int .i64 x.label,.int .i64 x.dst]∧inI64 x.src∧inI64 x.label∧inI64 x.dst
  len:=by rintro w F cs x ⟨rfl,h0,h1,h2⟩;rfl
  one:=by rintro w F cs x ⟨rfl,h0,h1,h2⟩ u hu;simp at hu;rcases hu with rfl|rfl|rfl<;>first|rfl|exact Vb.one rfl (by assumption)
  agree:=by rintro w w' F cs x ⟨rfl,h0,h1,h2⟩ ha;exact ⟨rfl,h0,h1,h2⟩
  mono:=by rintro w F G cs x ⟨rfl,h0,h1,h2⟩ ha;exact ⟨rfl,h0,h1,h2⟩
structure Spa where
  t:Tsk
  states:Reg
  edges:List Edj
  goals:List Bool
  costs:List Int
  distances:List Int
  steps:List Int
instance:Ow Spa where
  R w F M v x:=∃ (g:Nat) (L:Lab) (c0 c1 c2 c3 c4 c5 c6 c7 c8 c9:Value),v=.pointer (some ⟨g,0,none⟩)∧Blk w g 87 [c0,c1,c2,c3,c4,c5,c6,c7,c8,c9]∧M g∧L g=0∧Vb w F c0 x.t.vars∧Vb w F c1 x.t.init∧Vb w F c2 x.t.goal∧Vb w F c3 x.t.ops∧Ow.R w F (fun k=>M k∧L k=1) c4 x.states∧Vb w F c5 x.edges∧Vb w F c6 x.goals∧Vb w F c7 x.costs∧Vb w F c8 x.distances∧Vb w F c9 x.steps
  agree:=by rintro w w' F M v x ⟨g,L,c0,c1,c2,c3,c4,c5,c6,c7,c8,c9,rfl,hb,hM,hL,h0,h1,h2,h3,h4,h5,h6,h7,h8,h9⟩ a1 a2;exact ⟨g,L,c0,c1,c2,c3,c4,c5,c6,c7,c8,c9,rfl,hb.keep (a2 g hM),hM,hL,h0.agree a1,h1.agree a1,h2.agree a1,h3.agree a1,Ow.agree h4 a1 fun k hk=>a2 k hk.1,h5.agree a1,h6.agree a1,h7.agree a1,h8.agree a1,h9.agree a1⟩
  mono:=by rintro w F M F' M' v x ⟨g,L,c0,c1,c2,c3,c4,c5,c6,c7,c8,c9,rfl,hb,hM,hL,h0,h1,h2,h3,h4,h5,h6,h7,h8,h9⟩ a1 a2 a3;exact ⟨g,L,c0,c1,c2,c3,c4,c5,c6,c7,c8,c9,rfl,hb,a2 g hM,hL,h0.mono a1,h1.mono a1,h2.mono a1,h3.mono a1,Ow.mono h4 a1 (fun k hk=>⟨a2 k hk.1,hk.2⟩) fun k hf hm=>a3 k hf hm.1,h5.mono a1,h6.mono a1,h7.mono a1,h8.mono a1,h9.mono a1⟩
instance:OwP Spa:=⟨by rintro w F M v x ⟨g,L,c0,c1,c2,c3,c4,c5,c6,c7,c8,c9,rfl,_⟩;exact ⟨g,rfl⟩⟩
theorem Spa.opn {i:Nat} {w:World} {O:Lab} {p:Nat} {x:Spa} (h:Ob i w O (.pointer (some ⟨p,0,none⟩)) x) (l0 l1:Nat) (hl:l0≠0∧l1≠0):∃ (O':Lab) (c0 c1 c2 c3 c4 c5 c6 c7 c8 c9:Value),St (eT i) w O w O'∧(∀ k,Fr i w O k→∃ q,q∈[l0,l1]∧Fr q w O' k)∧Lc l0 w O' p 87 [c0,c1,c2,c3,c4,c5,c6,c7,c8,c9]∧Vb w (Fr 0 w O') c0 x.t.vars∧Vb w (Fr 0 w O') c1 x.t.init∧Vb w (Fr 0 w O') c2 x.t.goal∧Vb w (Fr 0 w O') c3 x.t.ops∧Ob l1 w O' c4 x.states∧Vb w (Fr 0 w O') c5 x.edges∧Vb w (Fr 0 w O') c6 x.goals∧Vb w (Fr 0 w O') c7 x.costs∧Vb w (Fr 0 w O') c8 x.distances∧Vb w (Fr 0 w O') c9 x.steps:=by
  obtain ⟨⟨g,L,c0,c1,c2,c3,c4,c5,c6,c7,c8,c9,hv,hb,hM,hL,h0,h1,h2,h3,h4,h5,h6,h7,h8,h9⟩,hi⟩:=h
  obtain rfl:p=g:=by injection hv with hv;injection hv with hv;injection hv
  exact ⟨part O i L [l0,l1],c0,c1,c2,c3,c4,c5,c6,c7,c8,c9,IL hi,Hq (by simp),⟨hb,(Ew (j:=0) rfl p ⟨hM,hL⟩).2⟩,h0.mono (CW hi),h1.mono (CW hi),h2.mono (CW hi),h3.mono (CW hi),⟨Ow.mono h4 (CW hi) (Ew (j:=1) rfl) (frNe0 hl.2),hl.2⟩,h5.mono (CW hi),h6.mono (CW hi),h7.mono (CW hi),h8.mono (CW hi),h9.mono (CW hi)⟩
theorem Spa.shut {w:World} {O:Lab} {p:Nat} {x:Spa} {l0 l1:Nat} {c0 c1 c2 c3 c4 c5 c6 c7 c8 c9:Value} (hd:¬ 0∈[l0,l1]∧[l0,l1].idxOf l0=0∧[l0,l1].idxOf l1=1) (hb:Lc l0 w O p 87 [c0,c1,c2,c3,c4,c5,c6,c7,c8,c9]) (h0:Vb w (Fr 0 w O) c0 x.t.vars) (h1:Vb w (Fr 0 w O) c1 x.t.init) (h2:Vb w (Fr 0 w O) c2 x.t.goal) (h3:Vb w (Fr 0 w O) c3 x.t.ops) (h4:Ob l1 w O c4 x.states) (h5:Vb w (Fr 0 w O) c5 x.edges) (h6:Vb w (Fr 0 w O) c6 x.goals) (h7:Vb w (Fr 0 w O) c7 x.costs) (h8:Vb w (Fr 0 w O) c8 x.distances) (h9:Vb w (Fr 0 w O) c9 x.steps):∃ O',St (·∈[l0,l1]) w O w O'∧(∀ k,Fr 0 w O k→Fr 0 w O' k)∧(∀ q,q∈[l0,l1]→∀ k,Fr q w O k→Fr l0 w O' k)∧Ob l0 w O' (.pointer (some ⟨p,0,none⟩)) x:=by
  have hb1:l0≠0:=fun e=>hd.1 (by simp [e])
  have hg:=Ea (i:=l0) hd.2.1 (by simp) p ⟨hb.1.lt,hb.2⟩
  exact ⟨whole O l0 [l0,l1],Hr,Cf hd.1,GK,⟨p,fun k=>[l0,l1].idxOf (O k),c0,c1,c2,c3,c4,c5,c6,c7,c8,c9,rfl,hb.1,hg.1,hg.2,h0.mono (Cf hd.1),h1.mono (Cf hd.1),h2.mono (Cf hd.1),h3.mono (Cf hd.1),Ow.mono h4.1 (Cf hd.1) (Ea hd.2.2 (by simp)) (fun k a b=>frNe0 hb1 k a b.1),h5.mono (Cf hd.1),h6.mono (Cf hd.1),h7.mono (Cf hd.1),h8.mono (Cf hd.1),h9.mono (Cf hd.1)⟩,hb1⟩
def Eb (x y:Err):Option Bool:=if x.n=0∧y.n≠0 then some false else none
def Dt (_:List (List Arc)) (_ _:List Int):Option (List Int×List Int):=none
theorem IQ {w:World} {A:Nat→Prop} (hA:∀ k,A k→k < w.heap.size) {vx0:Value} {x0:List (List Arc)} (a0:Vb w A vx0 x0) {vx1:Value} {x1:List Int} (b0:Vb w A vx1 x1) {vx2:Value} {x2:List Int} (c0:Vb w A vx2 x2) {r:List Int×List Int} (hm:Dt x0 x1 x2=some r) :
    Fn Tryz.prog 96 [vx0,vx1,vx2] w fun v w'=>Ext w w'∧T2 w' (upA A w w') v r:=by cases hm
noncomputable def Be (x0:Reg):Option Int :=
  some (x0.entries.length:Int)
theorem DK {w:World} {O:Lab} {p0 i0:Nat} {x0:Reg} (a0:Ob i0 w O (.pointer (some ⟨p0,0,none⟩)) x0) {r:Int} (hm:Be x0=some r) :
    Fn Tryz.prog 46 [(.pointer (some ⟨p0,0,none⟩))] w fun v w'=>∃ O',St (eT i0) w O w' O'∧Ob i0 w' O' (.pointer (some ⟨p0,0,none⟩)) x0∧Vb w' (Fr 0 w' O') v r:=by
 obtain ⟨O0,hE,d0,e0⟩:=ent1 (w:=w) (O:=O) a0.2
 have a0':=Ob.leave a0 d0 e0 (j:=2) (by decide)
 have hB:Bm w O0 w O0:=Bm.refl
 refine AI Tryz.func46 rfl Tryz.ntmps46 rfl ?_
 unfold Be at hm
 refine Al (Aj (At rfl rfl (o_z ?_)))
 refine Al (Al (Aj (Am rfl rfl (EY rfl rfl ?_))))
 refine o_z ?_
 refine Ae rfl (AK (Al (Aj (Am rfl rfl (BO rfl rfl ?_)))))
 obtain ⟨O2,v6,v9,n0,S3,o0,h4,h7,b0,c0⟩:=Reg.opn a0' 2 3 4 5 (by decide)
 obtain ⟨p8,rfl⟩:=h7.ptr
 obtain ⟨q0,r0,rfl⟩:=b0.form
 obtain ⟨s0,rfl⟩:=c0.mptr
 refine AG rfl rfl (AD (hc:=Blk.cell (i:=1) (h4.1) rfl) rfl rfl ?_)
 refine AQ rfl rfl ?_
 have f0:x0.entries.length≤9223372036854775807:=Nat.le_trans b0.len.2.1 b0.len.2.2
 have g0:inI64 (x0.entries.length:Int):=rngNat f0
 refine At rfl rfl (o_z ?_)
 refine AL ?_
 obtain ⟨t0,h0,j0,k0,m0⟩:=Reg.shut (x:=x0) (l0:=2) (l1:=3) (l2:=4) (l3:=5) (by decide) h4 h7 b0 c0
 obtain rfl:=sm hm
 replace hB:=(hB.st S3).st h0
 obtain ⟨O',hS',hz,hl⟩:=hE.leave (fun q=>if q=2 then i0 else 0) rfl hB
 exact ret1v rfl (AA rfl) ⟨O',hS',(Ob.leave m0 hz (hl 2 (by decide) (by decide)) a0.2),(vInt g0)⟩
noncomputable def CE (x0:Tsk):Option Tsk :=
  bnd (BM x0.vars) fun q29=>bnd (BM x0.init) fun q31=>bnd (Bf x0.goal) fun q33=>bnd (some (q29,q31,q33):Option ((List Int)×(List Int)×(List Fct))) fun y35=>bnd (rng (ρ:=Tsk) (fun (k156:Nat) (a157:Opr) (s154:(List Opr))=>bnd (Bf a157.pre) fun q195=>bnd (rng (ρ:=Ctl (List Opr) Tsk) (fun (k213:Nat) (a214:Eff) (s211:(List Eff))=>bnd (Bf a214.cond) fun q248=>bnd (appI 40 s211 [(⟨q248,a214.var,a214.val⟩:Eff)]) fun u262=>some (.next u262)) a157.effs 0 ([]:List Eff)) fun res209=>fin res209 fun (s278:(List Eff))=>bnd (appI 72 s154 [(⟨a157.name,a157.cost,q195,s278⟩:Opr)]) fun u286=>some (.next u286)) x0.ops 0 ([]:List Opr)) fun res152=>fin res152 fun (s304:(List Opr))=>some (⟨y35.1,y35.2.1,y35.2.2,s304⟩:Tsk)
theorem Jn {w:World} {A:Nat→Prop} (hA:∀ k,A k→k < w.heap.size) {vx0:Value} {x0:Tsk} (n5:Vb w A vx0 x0) {r:Tsk} (hm:CE x0=some r) :
    Fn Tryz.prog 45 [vx0] w fun v w'=>Ext w w'∧Vb w' (upA A w w') v r:=by
 obtain ⟨O,hB,h8⟩:=enter hA
 replace n5:=n5.mono h8
 obtain ⟨gA,rfl,v3,v4,v5,v6,rfl,h7,u1,q1,t0⟩:=n5
 obtain ⟨A8,c9,rfl⟩:=h7.form
 obtain ⟨o5,p5,rfl⟩:=u1.form
 obtain ⟨q5,r5,rfl⟩:=q1.form
 obtain ⟨w2,x2,rfl⟩:=t0.form
 refine AI Tryz.func45 rfl Tryz.ntmps45 rfl ?_
 unfold CE at hm
 refine Al (Aj (DR 2 O rfl rfl fun s5 i8 r7 j1 y1=>?_))
 replace y1:Lc 2 i8 r7 s5 26 [(.slice A8 x0.vars.length c9),(.slice o5 x0.init.length p5),(.slice q5 x0.goal.length r5),(.slice w2 x0.ops.length x2)]:=y1
 refine CQ 3 r7 rfl fun i2 iA t5 z0 n0=>?_
 refine o_z ?_
 refine Al ?_
 obtain ⟨d5,s7,hm⟩:=bs hm
 obtain ⟨e5,u5,hm⟩:=bs hm
 obtain ⟨f5,g5,hm⟩:=bs hm
 obtain ⟨b0,y2,hm⟩:=bs hm
 refine AM (fun l' w'=>∃ (a0:Nat×(Option Addr×Nat)×(Option Addr×Nat)×(Option Addr×Nat)) (O':Lab),subs l' [(1,(.pointer (some ⟨s5,0,none⟩))),(2,(.pointer (some ⟨i2,0,none⟩))),(3,(.pointer (some ⟨a0.1,0,none⟩)))]∧Bs w A w' O'∧Lc 2 w' O' s5 26 [(.slice A8 x0.vars.length c9),(.slice o5 x0.init.length p5),(.slice q5 x0.goal.length r5),(.slice w2 x0.ops.length x2)]∧Vb w' (Fr 0 w' O') (.slice A8 x0.vars.length c9) x0.vars∧Vb w' (Fr 0 w' O') (.slice o5 x0.init.length p5) x0.init∧Vb w' (Fr 0 w' O') (.slice q5 x0.goal.length r5) x0.goal∧Vb w' (Fr 0 w' O') (.slice w2 x0.ops.length x2) x0.ops∧Lc 3 w' O' i2 26 [(.slice none 0 0),(.slice none 0 0),(.slice none 0 0),(.slice none 0 0)]∧Lc 7 w' O' a0.1 26 [(.slice a0.2.1.1 b0.1.length a0.2.1.2),(.slice a0.2.2.1.1 b0.2.1.length a0.2.2.1.2),(.slice a0.2.2.2.1 b0.2.2.length a0.2.2.2.2),(.slice none 0 0)]∧Rw 4 w' O' 3 (.slice a0.2.1.1 b0.1.length a0.2.1.2) b0.1∧Rw 5 w' O' 3 (.slice a0.2.2.1.1 b0.2.1.length a0.2.2.1.2) b0.2.1∧Rw 6 w' O' 123 (.slice a0.2.2.2.1 b0.2.2.length a0.2.2.2.2) b0.2.2) ?_ ?_
 ·
  refine Bv [] t5 ?_
  refine AU (fuel:=6) [] [(0,true),(1,true),(3,true),(4,true),(6,true),(7,true)] (by kernel_rfl) rfl ?_
  refine AR rfl rfl rfl ?_
  replace y1:=y1.st z0
  refine AV (hc:=fun w' ⟨O',hq⟩=>Blk.cell (i:=0) ((y1.st hq (by decide)).1) rfl) rfl rfl rfl ?_
  refine AR rfl rfl rfl (AV (hc:=fun w' ⟨O',hq⟩=>Blk.cell (i:=1) ((y1.st hq (by decide)).1) rfl) rfl rfl rfl ?_)
  refine AR rfl rfl rfl (AV (hc:=fun w' ⟨O',hq⟩=>Blk.cell (i:=2) ((y1.st hq (by decide)).1) rfl) rfl rfl rfl ?_)
  refine AJ ?_
  refine IM (i:=2) (j:=10) (by kernel_rfl) rfl rfl ?_ ?_
  ·
   replace h7:=(h7.st j1).st z0
   refine CO 4 (by decide) (O:=t5) (Cr Fr.lt h7 s7) rfl rfl fun r3 s3 jA t7 k1 w5=>?_
   have hZ:=k1.lst [] (fun _ h=>h.elim)
   refine Bt [] hZ (by kernel_rfl) ?_
   refine IM (i:=5) (j:=10) (by kernel_rfl) rfl rfl ?_ ?_
   ·
    replace u1:=((u1.st j1).st z0).st k1
    refine CO 5 (by decide) (O:=t7) (Cr Fr.lt u1 u5) rfl rfl fun h5 i5 kA u7 v1 v7=>?_
    have hZ:=v1.lst [] (fun _ h=>h.elim)
    refine Bt [] hZ (by kernel_rfl) ?_
    refine IM (i:=8) (j:=10) (by kernel_rfl) rfl rfl ?_ ?_
    ·
     replace q1:=(((q1.st j1).st z0).st k1).st v1
     refine CO 6 (by decide) (O:=u7) (BA Fr.lt q1 g5) rfl rfl fun w7 x7 lA j8 r2 k8=>?_
     have hZ:=r2.lst [] (fun _ h=>h.elim)
     refine Bt [] hZ (by kernel_rfl) ?_
     refine AU (fuel:=2) [] [(9,true)] (by kernel_rfl) rfl ?_
     refine GR rfl rfl rfl rfl ?_
     refine AJ ?_
     refine Bc (i:=10) (by kernel_rfl) rfl ?_
     refine CQ 7 j8 rfl fun y7 mA l8 j2 t3=>?_
     have hZ:=j2.lst [] (fun _ h=>h.elim)
     refine Bt [] hZ (by kernel_rfl) ?_
     refine Bc (i:=11) (by kernel_rfl) rfl ?_
     refine Bu t3 rfl rfl rfl (Ci rfl) (allOne rfl) fun m8 s2 t3=>?_
     replace t3:Lc 7 m8 l8 y7 26 [(.slice r3 d5.length s3),(.slice h5 e5.length i5),(.slice w7 f5.length x7),(.slice none 0 0)]:=t3
     refine Dx (by kernel_rfl) ?_
     refine BW (by kernel_rfl) ?_
     obtain rfl:=sm y2
     exact ⟨(y7,(r3,s3),(h5,i5),(w7,x7)),_,⟨rfl,rfl,rfl,trivial⟩,((((((hB.st j1).st z0).st k1).st v1).st r2).st j2).st s2,((((y1.st k1).st v1).st r2).st j2).st s2,((((h7.st k1).st v1).st r2).st j2).st s2,(((u1.st v1).st r2).st j2).st s2,((q1.st r2).st j2).st s2,((((((t0.st j1).st z0).st k1).st v1).st r2).st j2).st s2,((((n0.st k1).st v1).st r2).st j2).st s2,t3,(((w5.st v1).st r2).st j2).st s2,((v7.st r2).st j2).st s2,(k8.st j2).st s2⟩
    refine CQ 7 u7 rfl fun z7 nA n8 t2 i3=>?_
    have hZ:=t2.lst [] (fun _ h=>h.elim)
    refine Bt [] hZ (by kernel_rfl) ?_
    refine Bc (i:=8) (by kernel_rfl) rfl ?_
    replace q1:=((((q1.st j1).st z0).st k1).st v1).st t2
    refine CO 6 (by decide) (O:=n8) (BA Fr.lt q1 g5) rfl rfl fun a8 b8 oA o8 k2 p8=>?_
    have hZ:=k2.lst [] (fun _ h=>h.elim)
    refine Bt [] hZ (by kernel_rfl) ?_
    refine AU (fuel:=1) [] [(9,true)] (by kernel_rfl) rfl ?_
    refine GR rfl rfl rfl rfl ?_
    refine AJ ?_
    refine Bc (i:=11) (by kernel_rfl) rfl ?_
    replace i3:=i3.st k2
    refine Bu i3 rfl rfl rfl (Ci rfl) (allOne rfl) fun q8 u2 i3=>?_
    replace i3:Lc 7 q8 o8 z7 26 [(.slice r3 d5.length s3),(.slice h5 e5.length i5),(.slice a8 f5.length b8),(.slice none 0 0)]:=i3
    refine Dx (by kernel_rfl) ?_
    refine BW (by kernel_rfl) ?_
    obtain rfl:=sm y2
    exact ⟨(z7,(r3,s3),(h5,i5),(a8,b8)),_,⟨rfl,rfl,rfl,trivial⟩,((((((hB.st j1).st z0).st k1).st v1).st t2).st k2).st u2,((((y1.st k1).st v1).st t2).st k2).st u2,((((h7.st k1).st v1).st t2).st k2).st u2,(((u1.st v1).st t2).st k2).st u2,(q1.st k2).st u2,((((((t0.st j1).st z0).st k1).st v1).st t2).st k2).st u2,((((n0.st k1).st v1).st t2).st k2).st u2,i3,(((w5.st v1).st t2).st k2).st u2,((v7.st t2).st k2).st u2,p8.st u2⟩
   refine CQ 7 t7 rfl fun c8 pA r8 z2 j3=>?_
   have hZ:=z2.lst [] (fun _ h=>h.elim)
   refine Bt [] hZ (by kernel_rfl) ?_
   refine Bc (i:=5) (by kernel_rfl) rfl ?_
   replace u1:=(((u1.st j1).st z0).st k1).st z2
   refine CO 5 (by decide) (O:=r8) (Cr Fr.lt u1 u5) rfl rfl fun u3 w3 qA s8 v2 x5=>?_
   have hZ:=v2.lst [] (fun _ h=>h.elim)
   refine Bt [] hZ (by kernel_rfl) ?_
   refine Bc (i:=8) (by kernel_rfl) rfl ?_
   replace q1:=((((q1.st j1).st z0).st k1).st z2).st v2
   refine CO 6 (by decide) (O:=s8) (BA Fr.lt q1 g5) rfl rfl fun x3 y3 t8 y5 a1 z5=>?_
   have hZ:=a1.lst [] (fun _ h=>h.elim)
   refine Bt [] hZ (by kernel_rfl) ?_
   refine AU (fuel:=1) [] [(9,true)] (by kernel_rfl) rfl ?_
   refine GR rfl rfl rfl rfl ?_
   refine AJ ?_
   refine Bc (i:=11) (by kernel_rfl) rfl ?_
   replace j3:=(j3.st v2).st a1
   refine Bu j3 rfl rfl rfl (Ci rfl) (allOne rfl) fun a6 l1 j3=>?_
   replace j3:Lc 7 a6 y5 c8 26 [(.slice r3 d5.length s3),(.slice u3 e5.length w3),(.slice x3 f5.length y3),(.slice none 0 0)]:=j3
   refine Dx (by kernel_rfl) ?_
   refine BW (by kernel_rfl) ?_
   obtain rfl:=sm y2
   exact ⟨(c8,(r3,s3),(u3,w3),(x3,y3)),_,⟨rfl,rfl,rfl,trivial⟩,((((((hB.st j1).st z0).st k1).st z2).st v2).st a1).st l1,((((y1.st k1).st z2).st v2).st a1).st l1,((((h7.st k1).st z2).st v2).st a1).st l1,((u1.st v2).st a1).st l1,(q1.st a1).st l1,((((((t0.st j1).st z0).st k1).st z2).st v2).st a1).st l1,((((n0.st k1).st z2).st v2).st a1).st l1,j3,(((w5.st z2).st v2).st a1).st l1,(x5.st a1).st l1,z5.st l1⟩
  refine CQ 7 t5 rfl fun z3 u8 b6 w1 z1=>?_
  have hZ:=w1.lst [] (fun _ h=>h.elim)
  refine Bt [] hZ (by kernel_rfl) ?_
  refine Bc (i:=2) (by kernel_rfl) rfl ?_
  replace h7:=((h7.st j1).st z0).st w1
  refine CO 4 (by decide) (O:=b6) (Cr Fr.lt h7 s7) rfl rfl fun a4 b4 v8 c6 r1 d6=>?_
  have hZ:=r1.lst [] (fun _ h=>h.elim)
  refine Bt [] hZ (by kernel_rfl) ?_
  refine Bc (i:=5) (by kernel_rfl) rfl ?_
  replace u1:=(((u1.st j1).st z0).st w1).st r1
  refine CO 5 (by decide) (O:=c6) (Cr Fr.lt u1 u5) rfl rfl fun c4 d4 w8 e6 m1 f6=>?_
  have hZ:=m1.lst [] (fun _ h=>h.elim)
  refine Bt [] hZ (by kernel_rfl) ?_
  refine Bc (i:=8) (by kernel_rfl) rfl ?_
  replace q1:=((((q1.st j1).st z0).st w1).st r1).st m1
  refine CO 6 (by decide) (O:=e6) (BA Fr.lt q1 g5) rfl rfl fun e4 f4 x8 g6 b1 h6=>?_
  have hZ:=b1.lst [] (fun _ h=>h.elim)
  refine Bt [] hZ (by kernel_rfl) ?_
  refine AU (fuel:=1) [] [(9,true)] (by kernel_rfl) rfl ?_
  refine GR rfl rfl rfl rfl ?_
  refine AJ ?_
  refine Bc (i:=11) (by kernel_rfl) rfl ?_
  replace z1:=((z1.st r1).st m1).st b1
  refine Bu z1 rfl rfl rfl (Ci rfl) (allOne rfl) fun i6 n1 z1=>?_
  replace z1:Lc 7 i6 g6 z3 26 [(.slice a4 d5.length b4),(.slice c4 e5.length d4),(.slice e4 f5.length f4),(.slice none 0 0)]:=z1
  refine Dx (by kernel_rfl) ?_
  refine BW (by kernel_rfl) ?_
  obtain rfl:=sm y2
  exact ⟨(z3,(a4,b4),(c4,d4),(e4,f4)),_,⟨rfl,rfl,rfl,trivial⟩,((((((hB.st j1).st z0).st w1).st r1).st m1).st b1).st n1,((((y1.st w1).st r1).st m1).st b1).st n1,(((h7.st r1).st m1).st b1).st n1,((u1.st m1).st b1).st n1,(q1.st b1).st n1,((((((t0.st j1).st z0).st w1).st r1).st m1).st b1).st n1,((((n0.st w1).st r1).st m1).st b1).st n1,z1,((d6.st m1).st b1).st n1,(f6.st b1).st n1,h6.st n1⟩
 replace hB:=(hB.st j1).st z0
 replace h7:=(h7.st j1).st z0
 replace u1:=(u1.st j1).st z0
 replace q1:=(q1.st j1).st z0
 replace t0:=(t0.st j1).st z0
 replace y1:=y1.st z0
 rintro y8 z8 ⟨a0,j6,g4,hB,y1,h7,u1,q1,t0,n0,s0,c1,d1,e1⟩
 refine AO _ g4 ?_
 refine Al (Al (Aj (AG rfl rfl (AD (hc:=Blk.cell (i:=3) (y1.1) rfl) rfl rfl ?_))))
 refine AQ rfl rfl ?_
 have k3:x0.ops.length≤9223372036854775807:=Nat.le_trans t0.len.2.1 t0.len.2.2
 have a9:inI64 (x0.ops.length:Int):=rngNat k3
 refine Am rfl rfl (o_z ?_)
 obtain ⟨l3,h4,hm⟩:=bs hm
 refine AM (aft l3 (fun (l0:(List Opr)) (f0:(Option Addr×Nat))=>[(2,(.pointer (some ⟨i2,0,none⟩))),(3,(.pointer (some ⟨a0.1,0,none⟩)))]) (fun l0 f0 w'=>∃ O':Lab,Bs w A w' O'∧Lc 3 w' O' i2 26 [(.slice none 0 0),(.slice none 0 0),(.slice none 0 0),(.slice none 0 0)]∧Lc 7 w' O' a0.1 26 [(.slice a0.2.1.1 b0.1.length a0.2.1.2),(.slice a0.2.2.1.1 b0.2.1.length a0.2.2.1.2),(.slice a0.2.2.2.1 b0.2.2.length a0.2.2.2.2),(.slice f0.1 l0.length f0.2)]∧Rw 4 w' O' 3 (.slice a0.2.1.1 b0.1.length a0.2.1.2) b0.1∧Rw 5 w' O' 3 (.slice a0.2.2.1.1 b0.2.1.length a0.2.2.1.2) b0.2.1∧Rw 6 w' O' 123 (.slice a0.2.2.2.1 b0.2.2.length a0.2.2.2.2) b0.2.2∧Rw 13 w' O' 61 (.slice f0.1 l0.length f0.2) l0)) ?_ ?_
 ·
  refine AP (Ca (σ:=(List Opr)) (X:=(Option Addr×Nat)) (x0.ops.length) h4 rfl k3 (fun (l0:(List Opr)) (f0:(Option Addr×Nat))=>[(2,(.pointer (some ⟨i2,0,none⟩))),(3,(.pointer (some ⟨a0.1,0,none⟩))),(20,(.slice w2 x0.ops.length x2))]) _ (fun l0 f0 w'=>∃ O':Lab,Bs w A w' O'∧Lc 3 w' O' i2 26 [(.slice none 0 0),(.slice none 0 0),(.slice none 0 0),(.slice none 0 0)]∧Lc 7 w' O' a0.1 26 [(.slice a0.2.1.1 b0.1.length a0.2.1.2),(.slice a0.2.2.1.1 b0.2.1.length a0.2.2.1.2),(.slice a0.2.2.2.1 b0.2.2.length a0.2.2.2.2),(.slice f0.1 l0.length f0.2)]∧Rw 4 w' O' 3 (.slice a0.2.1.1 b0.1.length a0.2.1.2) b0.1∧Rw 5 w' O' 3 (.slice a0.2.2.1.1 b0.2.1.length a0.2.2.1.2) b0.2.1∧Rw 6 w' O' 123 (.slice a0.2.2.2.1 b0.2.2.length a0.2.2.2.2) b0.2.2∧Rw 13 w' O' 61 (.slice f0.1 l0.length f0.2) l0∧Vb w' (Fr 0 w' O') (.slice w2 x0.ops.length x2) x0.ops) _ (none,0) ⟨j6,hB,n0,s0,c1,d1,e1,(Rw.nil 13 (by decide)),t0⟩ ⟨rfl,rfl,rfl,rfl,rfl,trivial⟩ (fun _ _=>⟨rfl,rfl⟩) (fun _ _=>⟨rfl,rfl,trivial⟩) (fun _ _ _ ⟨O',hB,n0,s0,c1,d1,e1,e0,t0⟩=>⟨O',hB,n0,s0,c1,d1,e1,e0⟩) ⟨rfl,rfl,rfl⟩ ⟨rfl,rfl⟩ ?_)
  rintro m3 c0 l0 f0 b9 d8 g3 ⟨k6,hB,n0,s0,c1,d1,e1,e0,t0⟩ m0 j5 k5
  have rk156:inI64 (m3:Int):=rngK g3 k3
  refine Al (Aj ?_)
  obtain ⟨d9,e9,e8,i4,j4,k4,f9,g9,rfl,a3,u0,l6,m6⟩:=t0.elem' g3
  obtain ⟨n6,o6,rfl⟩:=a3.form
  obtain ⟨a2,b2,rfl⟩:=u0.form
  refine Br (hA:=i4) (hj:=rfl) (hlt:=j4) rfl rfl rfl ?_
  refine BB (hl:=rfl) (hc:=k4) rfl rfl ?_
  refine CQ 8 k6 rfl fun c2 h9 l4 h0 d0=>?_
  refine Bu d0 rfl rfl rfl (Ci rfl) (allOne rfl) fun p6 i0 d0=>?_
  replace d0:Lc 8 p6 l4 c2 61 [(.string c0.name),(.int .i64 c0.cost),(.slice n6 c0.pre.length o6),(.slice a2 c0.effs.length b2)]:=d0
  refine o_z ?_
  refine Al (Aj (AG rfl rfl (AD (hc:=Blk.cell (i:=2) (d0.1) rfl) rfl rfl ?_)))
  obtain ⟨f1,q6,m0⟩:=bs m0
  replace a3:=(a3.st h0).st i0
  refine CO 9 (by decide) (O:=l4) (BA Fr.lt a3 q6) rfl rfl fun d2 e2 i9 m4 j0 k0=>?_
  refine AG rfl rfl ?_
  replace d0:=d0.st j0
  refine Bu d0 rfl rfl rfl (Ci rfl) (allOne rfl) fun r6 g0 d0=>?_
  replace d0:Lc 8 r6 m4 c2 61 [(.string c0.name),(.int .i64 c0.cost),(.slice d2 f1.length e2),(.slice a2 c0.effs.length b2)]:=d0
  refine o_z ?_
  refine Al (Aj (At rfl rfl (o_z ?_)))
  refine Al (Al (Aj (AG rfl rfl (AD (hc:=Blk.cell (i:=3) (d0.1) rfl) rfl rfl ?_))))
  refine AQ rfl rfl ?_
  replace u0:=(((u0.st h0).st i0).st j0).st g0
  have n3:c0.effs.length≤9223372036854775807:=Nat.le_trans u0.len.2.1 u0.len.2.2
  have j9:inI64 (c0.effs.length:Int):=rngNat n3
  refine Am rfl rfl (o_z ?_)
  obtain ⟨o3,n4,m0⟩:=bs m0
  refine AM (aft o3 (fun (o1:(List Eff)) (v0:(Option Addr×Nat))=>[(2,(.pointer (some ⟨i2,0,none⟩))),(3,(.pointer (some ⟨a0.1,0,none⟩))),(5,(.pointer (some ⟨c2,0,none⟩))),(6,(.slice v0.1 o1.length v0.2)),(20,(.slice w2 x0.ops.length x2)),(21,(.int .i64 (x0.ops.length:Int))),(22,(.int .i64 (m3:Int)))]) (fun o1 v0 w'=>∃ O':Lab,Bs w A w' O'∧Lc 3 w' O' i2 26 [(.slice none 0 0),(.slice none 0 0),(.slice none 0 0),(.slice none 0 0)]∧Lc 7 w' O' a0.1 26 [(.slice a0.2.1.1 b0.1.length a0.2.1.2),(.slice a0.2.2.1.1 b0.2.1.length a0.2.2.1.2),(.slice a0.2.2.2.1 b0.2.2.length a0.2.2.2.2),(.slice f0.1 l0.length f0.2)]∧Rw 4 w' O' 3 (.slice a0.2.1.1 b0.1.length a0.2.1.2) b0.1∧Rw 5 w' O' 3 (.slice a0.2.2.1.1 b0.2.1.length a0.2.2.1.2) b0.2.1∧Rw 6 w' O' 123 (.slice a0.2.2.2.1 b0.2.2.length a0.2.2.2.2) b0.2.2∧Rw 13 w' O' 61 (.slice f0.1 l0.length f0.2) l0∧Lc 8 w' O' c2 61 [(.string c0.name),(.int .i64 c0.cost),(.slice d2 f1.length e2),(.slice a2 c0.effs.length b2)]∧Rw 9 w' O' 123 (.slice d2 f1.length e2) f1∧Vb w' (Fr 0 w' O') (.slice a2 c0.effs.length b2) c0.effs∧Rw 12 w' O' 76 (.slice v0.1 o1.length v0.2) o1∧Vb w' (Fr 0 w' O') (.slice w2 x0.ops.length x2) x0.ops)) ?_ ?_
  ·
   refine AP ?_
   replace hB:=(((hB.st h0).st i0).st j0).st g0
   replace t0:=(((t0.st h0).st i0).st j0).st g0
   replace n0:=(((n0.st h0).st i0).st j0).st g0
   replace s0:=(((s0.st h0).st i0).st j0).st g0
   replace c1:=(((c1.st h0).st i0).st j0).st g0
   replace d1:=(((d1.st h0).st i0).st j0).st g0
   replace e1:=(((e1.st h0).st i0).st j0).st g0
   replace e0:=(((e0.st h0).st i0).st j0).st g0
   replace k0:=k0.st g0
   refine Ca (σ:=(List Eff)) (X:=(Option Addr×Nat)) (c0.effs.length) n4 rfl n3 (fun (o1:(List Eff)) (v0:(Option Addr×Nat))=>[(2,(.pointer (some ⟨i2,0,none⟩))),(3,(.pointer (some ⟨a0.1,0,none⟩))),(5,(.pointer (some ⟨c2,0,none⟩))),(6,(.slice v0.1 o1.length v0.2)),(20,(.slice w2 x0.ops.length x2)),(21,(.int .i64 (x0.ops.length:Int))),(22,(.int .i64 (m3:Int))),(31,(.slice a2 c0.effs.length b2))]) _ (fun o1 v0 w'=>∃ O':Lab,Bs w A w' O'∧Lc 3 w' O' i2 26 [(.slice none 0 0),(.slice none 0 0),(.slice none 0 0),(.slice none 0 0)]∧Lc 7 w' O' a0.1 26 [(.slice a0.2.1.1 b0.1.length a0.2.1.2),(.slice a0.2.2.1.1 b0.2.1.length a0.2.2.1.2),(.slice a0.2.2.2.1 b0.2.2.length a0.2.2.2.2),(.slice f0.1 l0.length f0.2)]∧Rw 4 w' O' 3 (.slice a0.2.1.1 b0.1.length a0.2.1.2) b0.1∧Rw 5 w' O' 3 (.slice a0.2.2.1.1 b0.2.1.length a0.2.2.1.2) b0.2.1∧Rw 6 w' O' 123 (.slice a0.2.2.2.1 b0.2.2.length a0.2.2.2.2) b0.2.2∧Rw 13 w' O' 61 (.slice f0.1 l0.length f0.2) l0∧Lc 8 w' O' c2 61 [(.string c0.name),(.int .i64 c0.cost),(.slice d2 f1.length e2),(.slice a2 c0.effs.length b2)]∧Rw 9 w' O' 123 (.slice d2 f1.length e2) f1∧Vb w' (Fr 0 w' O') (.slice a2 c0.effs.length b2) c0.effs∧Rw 12 w' O' 76 (.slice v0.1 o1.length v0.2) o1∧Vb w' (Fr 0 w' O') (.slice w2 x0.ops.length x2) x0.ops) _ (none,0) ⟨m4,hB,n0,s0,c1,d1,e1,e0,d0,k0,u0,(Rw.nil 12 (by decide)),t0⟩ ⟨rfl,rfl,rfl,rfl,rfl,rfl,rfl,rfl,rfl,rfl,trivial⟩ (fun _ _=>⟨rfl,rfl⟩) (fun _ _=>⟨rfl,rfl,rfl,rfl,rfl,rfl,rfl,trivial⟩) (fun _ _ _ ⟨O',hB,n0,s0,c1,d1,e1,e0,d0,k0,u0,g1,t0⟩=>⟨O',hB,n0,s0,c1,d1,e1,e0,d0,k0,u0,g1,t0⟩) ⟨rfl,rfl,rfl⟩ ⟨rfl,rfl⟩ ?_
   rintro s6 h1 o1 v0 k9 f8 h3 ⟨t6,hB,n0,s0,c1,d1,e1,e0,d0,k0,u0,g1,t0⟩ x1 l5 m5
   have rk213:inI64 (s6:Int):=rngK h3 n3
   refine Al (Aj ?_)
   obtain ⟨l9,m9,g8,o4,p4,q4,n9,rfl,b3,u6,w6⟩:=u0.elem' h3
   obtain ⟨x6,y6,rfl⟩:=b3.form
   refine Br (hA:=o4) (hj:=rfl) (hlt:=p4) rfl rfl rfl ?_
   refine BB (hl:=rfl) (hc:=q4) rfl rfl ?_
   refine CQ 10 t6 rfl fun r4 o9 s4 o0 w0=>?_
   refine Bu w0 rfl rfl rfl (Ci rfl) (allOne rfl) fun z6 p0 w0=>?_
   replace w0:Lc 10 z6 s4 r4 76 [(.slice x6 h1.cond.length y6),(.int .i64 h1.var),(.int .i64 h1.val)]:=w0
   refine o_z ?_
   refine Al (Aj (AG rfl rfl (AD (hc:=Blk.cell (i:=0) (w0.1) rfl) rfl rfl ?_)))
   obtain ⟨c3,a7,x1⟩:=bs x1
   replace b3:=(b3.st o0).st p0
   refine CO 11 (by decide) (O:=s4) (BA Fr.lt b3 a7) rfl rfl fun t4 u4 p9 b7 q0 l2=>?_
   refine AG rfl rfl ?_
   replace w0:=w0.st q0
   refine Bu w0 rfl rfl rfl (Ci rfl) (allOne rfl) fun c7 r0 w0=>?_
   replace w0:Lc 10 c7 b7 r4 76 [(.slice t4 c3.length u4),(.int .i64 h1.var),(.int .i64 h1.val)]:=w0
   refine o_z ?_
   refine Aj (Am rfl rfl (BB (hl:=rfl) (hc:=(w0.1).cellsAt) rfl rfl ?_))
   replace l2:=l2.st r0
   obtain ⟨q9,y0,l2⟩:=l2.freeze
   obtain ⟨r9,p3,x1⟩:=bs x1
   obtain ⟨p3,d7,e7⟩:=Ce p3
   replace g1:=((((g1.st o0).st p0).st q0).st r0).st y0
   refine DS rfl (a:=(⟨c3,h1.var,h1.val⟩:Eff)) g1 (Vb.ofAgg (cs:=[(.slice t4 c3.length u4),(.int .i64 h1.var),(.int .i64 h1.val)]) (x:=(⟨c3,h1.var,h1.val⟩:Eff)) rfl ⟨_,rfl,l2,u6,w6⟩) (fun _=>rfl) rfl (by decide) (by decide) d7 e7 ⟨rfl,rfl⟩ fun s9 f7 g7 t9 u9 i1 w4=>?_
   rw [← p3] at w4 ⊢
   refine At rfl rfl (o_z ?_)
   obtain rfl:=sm x1
   exact show Exists _ from ⟨_,(f7,g7),rfl,⟨rfl,rfl,rfl,rfl,rfl,rfl,rfl,rfl,rfl,rfl,trivial⟩,_,(((((hB.st o0).st p0).st q0).st r0).st y0).st i1,(((((n0.st o0).st p0).st q0).st r0).st y0).st i1,(((((s0.st o0).st p0).st q0).st r0).st y0).st i1,(((((c1.st o0).st p0).st q0).st r0).st y0).st i1,(((((d1.st o0).st p0).st q0).st r0).st y0).st i1,(((((e1.st o0).st p0).st q0).st r0).st y0).st i1,(((((e0.st o0).st p0).st q0).st r0).st y0).st i1,(((((d0.st o0).st p0).st q0).st r0).st y0).st i1,(((((k0.st o0).st p0).st q0).st r0).st y0).st i1,(((((u0.st o0).st p0).st q0).st r0).st y0).st i1,w4,(((((t0.st o0).st p0).st q0).st r0).st y0).st i1⟩
  replace hB:=(((hB.st h0).st i0).st j0).st g0
  replace t0:=(((t0.st h0).st i0).st j0).st g0
  replace n0:=(((n0.st h0).st i0).st j0).st g0
  replace s0:=(((s0.st h0).st i0).st j0).st g0
  replace c1:=(((c1.st h0).st i0).st j0).st g0
  replace d1:=(((d1.st h0).st i0).st j0).st g0
  replace e1:=(((e1.st h0).st i0).st j0).st g0
  replace e0:=(((e0.st h0).st i0).st j0).st g0
  replace k0:=k0.st g0
  rintro v9 w9 ⟨d3,e3,rfl,x4,i7,hB,n0,s0,c1,d1,e1,e0,d0,k0,u0,g1,t0⟩
  replace m0:=Bh m0
  refine AO _ x4 ?_
  refine Al (Aj (Am rfl rfl (AG rfl rfl (Bu d0 rfl rfl rfl (Ci rfl) (allOne rfl) fun j7 p1 d0=>?_))))
  replace d0:Lc 8 j7 i7 c2 61 [(.string c0.name),(.int .i64 c0.cost),(.slice d2 f1.length e2),(.slice e3.1 d3.length e3.2)]:=d0
  refine o_z ?_
  refine Aj (AG rfl rfl ?_)
  replace s0:=s0.st p1
  refine AD (hc:=Blk.cell (i:=3) (s0.1) rfl) rfl rfl ?_
  refine BB (hl:=rfl) (hc:=(d0.1).cellsAt) rfl rfl ?_
  replace k0:=k0.st p1
  obtain ⟨x9,s1,k0⟩:=k0.freeze
  replace g1:=(g1.st p1).st s1
  obtain ⟨y9,t1,g1⟩:=g1.freeze
  obtain ⟨k7,q3,m0⟩:=bs m0
  obtain ⟨q3,l7,m7⟩:=Ce q3
  replace e0:=((e0.st p1).st s1).st t1
  replace k0:=k0.st t1
  refine DS rfl (a:=(⟨c0.name,c0.cost,f1,d3⟩:Opr)) e0 (Vb.ofAgg (cs:=[(.string c0.name),(.int .i64 c0.cost),(.slice d2 f1.length e2),(.slice e3.1 d3.length e3.2)]) (x:=(⟨c0.name,c0.cost,f1,d3⟩:Opr)) rfl ⟨_,_,rfl,k0,g1,l6,m6⟩) (fun _=>rfl) rfl (by decide) (by decide) l7 m7 ⟨rfl,rfl⟩ fun z9 y4 z4 aA n7 f2 a5=>?_
  rw [← q3] at a5 ⊢
  refine AG rfl rfl ?_
  replace s0:=((s0.st s1).st t1).st f2
  refine Bu s0 rfl rfl rfl (Ci rfl) (allOne rfl) fun o7 g2 s0=>?_
  replace s0:Lc 7 o7 n7 a0.1 26 [(.slice a0.2.1.1 b0.1.length a0.2.1.2),(.slice a0.2.2.1.1 b0.2.1.length a0.2.2.1.2),(.slice a0.2.2.2.1 b0.2.2.length a0.2.2.2.2),(.slice y4 k7.length z4)]:=s0
  refine o_z ?_
  obtain rfl:=sm m0
  exact show Exists _ from ⟨_,(y4,z4),rfl,⟨rfl,rfl,rfl,rfl,rfl,trivial⟩,_,((((hB.st p1).st s1).st t1).st f2).st g2,((((n0.st p1).st s1).st t1).st f2).st g2,s0,((((c1.st p1).st s1).st t1).st f2).st g2,((((d1.st p1).st s1).st t1).st f2).st g2,((((e1.st p1).st s1).st t1).st f2).st g2,a5.st g2,((((t0.st p1).st s1).st t1).st f2).st g2⟩
 rintro bA cA ⟨f3,h2,rfl,b5,p7,hB,n0,s0,c1,d1,e1,e0⟩
 replace hm:=Bh hm
 refine AO _ b5 ?_
 refine Al (Aj (BB (hl:=rfl) (hc:=(s0.1).cellsAt) rfl rfl ?_))
 refine Bu n0 rfl rfl rfl (Ci rfl) (allOne rfl) fun c5 m2 n0=>?_
 replace n0:Lc 3 c5 p7 i2 26 [(.slice a0.2.1.1 b0.1.length a0.2.1.2),(.slice a0.2.2.1.1 b0.2.1.length a0.2.2.1.2),(.slice a0.2.2.2.1 b0.2.2.length a0.2.2.2.2),(.slice h2.1 f3.length h2.2)]:=n0
 refine o_z ?_
 refine AL ?_
 replace c1:=c1.st m2
 obtain ⟨dA,n2,c1⟩:=c1.freeze
 replace d1:=(d1.st m2).st n2
 obtain ⟨eA,o2,d1⟩:=d1.freeze
 replace e1:=((e1.st m2).st n2).st o2
 obtain ⟨fA,p2,e1⟩:=e1.freeze
 replace e0:=(((e0.st m2).st n2).st o2).st p2
 obtain ⟨q7,q2,e0⟩:=e0.freeze
 obtain rfl:=sm hm
 replace hB:=((((hB.st m2).st n2).st o2).st p2).st q2
 replace n0:=(((n0.st n2).st o2).st p2).st q2
 replace c1:=((c1.st o2).st p2).st q2
 replace d1:=(d1.st p2).st q2
 replace e1:=e1.st q2
 exact ret1v rfl (Hi (cs:=[(.slice a0.2.1.1 b0.1.length a0.2.1.2),(.slice a0.2.2.1.1 b0.2.1.length a0.2.2.1.2),(.slice a0.2.2.2.1 b0.2.2.length a0.2.2.2.2),(.slice h2.1 f3.length h2.2)]) rfl rfl n0.1.cellsAt) ⟨hB.ext,(Vb.mono (F:=Fr 0 c5 q7) (Vb.ofAgg (cs:=[(.slice a0.2.1.1 b0.1.length a0.2.1.2),(.slice a0.2.2.1.1 b0.2.1.length a0.2.2.1.2),(.slice a0.2.2.2.1 b0.2.2.length a0.2.2.2.2),(.slice h2.1 f3.length h2.2)]) (x:=(⟨b0.1,b0.2.1,b0.2.2,f3⟩:Tsk)) rfl ⟨_,_,_,_,rfl,c1,d1,e1,e0⟩) hB.out)⟩
noncomputable def BT (x0:List (List Arc)) (x1:List Int):Option ((List Int)×(List Int)) :=
  bnd (mkI 8 (0:Int) (x0.length:Int)) fun u7=>bnd (mkI 8 (0:Int) (x0.length:Int)) fun u9=>bnd (some (u7,u9):Option ((List Int)×(List Int))) fun y11=>bnd (rngN (ρ:=(List Int)×(List Int)) (fun (k77:Nat) (s75:(List Int)×(List Int))=>bnd (s75.1[k77]?) fun a104=>bnd (s75.2[k77]?) fun a116=>some (.next ((s75.1.set k77 1125899906842624),(s75.2.set k77 1125899906842624)))) y11.1.length (y11.1,y11.2)) fun res73=>fin res73 fun (s132:(List Int)×(List Int))=>bnd (DF) fun q134=>bnd q134 fun o144=>bnd (rng (ρ:=(List Int)×(List Int)) (fun (k151:Nat) (a152:Int) (s149:(List Int)×(List Int)×Que)=>bnd (atI s149.1 a152) fun a180=>bnd (atI s149.2.1 a152) fun a194=>bnd (BI s149.2.2 0 0 a152) fun q208=>some (.next ((s149.1.set (a152:Int).toNat 0),(s149.2.1.set (a152:Int).toNat 0),q208.2))) x1 0 (s132.1,s132.2,o144)) fun res147=>fin res147 fun (s222:(List Int)×(List Int)×Que)=>bnd (lop (ρ:=(List Int)×(List Int)) (fun (s226:(List Int)×(List Int)×Que)=>bnd (CD s226.2.2) fun q249=>if 0 < q249 then (bnd (Co s226.2.2) fun q260=>if q260.2.2.2.1.n≠0 then (some (.brk (s226.1,s226.2.1,q260.2.2.2.2))) else (bnd (bnd (atI s226.1 q260.2.2.1) fun a285=>if q260.1≠a285 then (some true) else (bnd (atI s226.2.1 q260.2.2.1) fun a298=>if q260.2.1≠a298 then (some true) else (some false)):Option Bool) fun y281=>if y281=true then (some (.next (s226.1,s226.2.1,q260.2.2.2.2))) else (bnd (atI x0 q260.2.2.1) fun a316=>bnd (rng (ρ:=Ctl ((List Int)×(List Int)×Que) ((List Int)×(List Int))) (fun (k337:Nat) (a338:Arc) (s335:(List Int)×(List Int)×Que)=>bnd (chkI (q260.1 + a338.weight)) fun n375=>bnd (chkI (q260.2.1 + 1)) fun n378=>bnd (bnd (atI s335.1 a338.dst) fun a385=>if a385 < n375 then (some true) else (bnd (atI s335.1 a338.dst) fun a398=>if n375=a398 then (bnd (atI s335.2.1 a338.dst) fun a411=>if a411≤n378 then (some true) else (some false)) else (some false)):Option Bool) fun y381=>if y381=true then (some (.next (s335.1,s335.2.1,s335.2.2))) else (bnd (atI s335.1 a338.dst) fun a429=>bnd (atI s335.2.1 a338.dst) fun a443=>bnd (BI s335.2.2 n375 n378 a338.dst) fun q457=>if q457.1.n≠0 then (bnd (Dt x0 (s335.1.set (a338.dst:Int).toNat n375) (s335.2.1.set (a338.dst:Int).toNat n378)) fun q472=>some (.ret (.ret (q472.1,q472.2)))) else (some (.next ((s335.1.set (a338.dst:Int).toNat n375),(s335.2.1.set (a338.dst:Int).toNat n378),q457.2))))) a316 0 (s226.1,s226.2.1,q260.2.2.2.2)) fun res333=>fin res333 fun (s491:(List Int)×(List Int)×Que)=>some (.next (s491.1,s491.2.1,s491.2.2))))) else (some (.brk (s226.1,s226.2.1,s226.2.2)))) (s222.1,s222.2.1,s222.2.2)) fun res224=>fin res224 fun (s497:(List Int)×(List Int)×Que)=>some (s497.1,s497.2.1)
theorem FW {w:World} {A:Nat→Prop} (hA:∀ k,A k→k < w.heap.size) {vx0:Value} {x0:List (List Arc)} (f0:Vb w A vx0 x0) {vx1:Value} {x1:List Int} (y0:Vb w A vx1 x1) {r:(List Int)×(List Int)} (hm:BT x0 x1=some r) :
    Fn Tryz.prog 60 [vx0,vx1] w fun v w'=>Ext w w'∧T2 w' (upA A w w') v r:=by
 obtain ⟨O,hB,z8⟩:=enter hA
 replace f0:=f0.mono z8
 obtain ⟨A3,c4,rfl⟩:=f0.form
 replace y0:=y0.mono z8
 obtain ⟨A5,c6,rfl⟩:=y0.form
 refine AI Tryz.func60 rfl Tryz.ntmps60 rfl ?_
 unfold BT at hm
 refine Al (Aj (At rfl rfl (At rfl rfl (o_z ?_))))
 refine Al ?_
 obtain ⟨u7,e8,hm⟩:=bs hm
 obtain ⟨u9,a9,hm⟩:=bs hm
 obtain ⟨j0,f3,hm⟩:=bs hm
 refine AM (fun l' w'=>∃ (a0:(Option Addr×Nat)×(Option Addr×Nat)) (O':Lab),subs l' [(0,(.slice A3 x0.length c4)),(1,(.slice A5 x1.length c6)),(6,(.slice a0.1.1 j0.1.length a0.1.2)),(7,(.slice a0.2.1 j0.2.length a0.2.2))]∧Bs w A w' O'∧Vb w' (Fr 0 w' O') (.slice A3 x0.length c4) x0∧Vb w' (Fr 0 w' O') (.slice A5 x1.length c6) x1∧Rw 2 w' O' 3 (.slice a0.1.1 j0.1.length a0.1.2) j0.1∧Rw 3 w' O' 3 (.slice a0.2.1 j0.2.length a0.2.2) j0.2) ?_ ?_
 ·
  refine Bv [] O ?_
  refine AU (fuel:=4) [] [(0,true),(1,true),(3,true),(4,true)] (by kernel_rfl) rfl ?_
  refine AF rfl rfl rfl (Hk rfl rfl rfl ?_)
  have fA:x0.length≤9223372036854775807:=Nat.le_trans f0.len.2.1 f0.len.2.2
  have iG:inI64 (x0.length:Int):=rngNat fA
  refine AF rfl rfl rfl (Hk rfl rfl rfl ?_)
  have gA:x0.length≤9223372036854775807:=Nat.le_trans f0.len.2.1 f0.len.2.2
  have jG:inI64 (x0.length:Int):=rngNat gA
  refine AJ ?_
  refine IM (i:=2) (j:=5) (by kernel_rfl) rfl rfl ?_ ?_
  ·
   obtain ⟨iA,jA,kA,lA,mA⟩:=Df e8
   refine EE 2 (by decide) O (z0:=(0:Int)) rfl rfl rfl rfl rfl jA (vInt (show inI64 0 from by decide)) kA lA rfl fun nA kG oA s5 b9=>?_
   rw [← mA] at b9 ⊢
   have hZ:=s5.lst [] (fun _ h=>h.elim)
   refine Bt [] hZ (by kernel_rfl) ?_
   refine AU (fuel:=2) [] [(6,true)] (by kernel_rfl) rfl ?_
   refine CB rfl rfl rfl (AJ ?_)
   refine Bc (i:=5) (by kernel_rfl) rfl ?_
   obtain ⟨pA,qA,rA,sA,tA⟩:=Df a9
   refine EE 3 (by decide) oA (z0:=(0:Int)) rfl rfl rfl rfl rfl qA (vInt (show inI64 0 from by decide)) rA sA rfl fun uA lG mG g3 c9=>?_
   rw [← tA] at c9 ⊢
   have hZ:=g3.lst [] (fun _ h=>h.elim)
   refine Bt [] hZ (by kernel_rfl) ?_
   refine AU (fuel:=0) [] [(7,true)] (by kernel_rfl) rfl ?_
   refine CB rfl rfl rfl (AJ ?_)
   refine BW (by kernel_rfl) ?_
   obtain rfl:=sm f3
   exact ⟨(((some ⟨nA,0,none⟩),iA),((some ⟨uA,0,none⟩),pA)),_,⟨rfl,rfl,rfl,rfl,trivial⟩,(hB.st s5).st g3,(f0.st s5).st g3,(y0.st s5).st g3,b9.st g3,c9⟩
  obtain ⟨vA,wA,xA,yA,zA⟩:=Df a9
  refine EE 3 (by decide) O (z0:=(0:Int)) rfl rfl rfl rfl rfl wA (vInt (show inI64 0 from by decide)) xA yA rfl fun aB nG bB t5 d9=>?_
  rw [← zA] at d9 ⊢
  have hZ:=t5.lst [] (fun _ h=>h.elim)
  refine Bt [] hZ (by kernel_rfl) ?_
  refine Bc (i:=2) (by kernel_rfl) rfl ?_
  obtain ⟨cB,dB,eB,fB,gB⟩:=Df e8
  refine EE 2 (by decide) bB (z0:=(0:Int)) rfl rfl rfl rfl rfl dB (vInt (show inI64 0 from by decide)) eB fB rfl fun iB oG pG h3 e9=>?_
  rw [← gB] at e9 ⊢
  have hZ:=h3.lst [] (fun _ h=>h.elim)
  refine Bt [] hZ (by kernel_rfl) ?_
  refine AU (fuel:=0) [] [(6,true),(7,true)] (by kernel_rfl) rfl ?_
  refine CB rfl rfl rfl (CB rfl rfl rfl (AJ ?_))
  refine BW (by kernel_rfl) ?_
  obtain rfl:=sm f3
  exact ⟨(((some ⟨iB,0,none⟩),cB),((some ⟨aB,0,none⟩),vA)),_,⟨rfl,rfl,rfl,rfl,trivial⟩,(hB.st t5).st h3,(f0.st t5).st h3,(y0.st t5).st h3,e9,d9.st h3⟩
 rintro qG rG ⟨a0,jB,y5,hB,f0,y0,z5,kB⟩
 refine AO _ y5 ?_
 refine Al (Al (Aj (Am rfl rfl (AQ rfl rfl ?_))))
 have a6:j0.1.length≤9223372036854775807:=Nat.le_trans z5.len.2.1 z5.len.2.2
 have sG:inI64 (j0.1.length:Int):=rngNat a6
 refine Am rfl rfl (o_z ?_)
 obtain ⟨i3,b6,hm⟩:=bs hm
 refine AM (aft i3 (fun (d2:(List Int)×(List Int)) (u5:Unit)=>[(0,(.slice A3 x0.length c4)),(1,(.slice A5 x1.length c6)),(6,(.slice a0.1.1 j0.1.length a0.1.2)),(7,(.slice a0.2.1 j0.2.length a0.2.2))]) (fun d2 u5 w'=>∃ O':Lab,Bs w A w' O'∧Vb w' (Fr 0 w' O') (.slice A3 x0.length c4) x0∧Vb w' (Fr 0 w' O') (.slice A5 x1.length c6) x1∧Rw 2 w' O' 3 (.slice a0.1.1 j0.1.length a0.1.2) d2.1∧Rw 3 w' O' 3 (.slice a0.2.1 j0.2.length a0.2.2) d2.2)) ?_ ?_
 ·
  refine AP (NQ (σ:=(List Int)×(List Int)) (X:=Unit) (j0.1.length) b6 a6 (fun (d2:(List Int)×(List Int)) (u5:Unit)=>[(0,(.slice A3 x0.length c4)),(1,(.slice A5 x1.length c6)),(6,(.slice a0.1.1 j0.1.length a0.1.2)),(7,(.slice a0.2.1 j0.2.length a0.2.2))]) _ (fun d2 u5 w'=>∃ O':Lab,Bs w A w' O'∧Vb w' (Fr 0 w' O') (.slice A3 x0.length c4) x0∧Vb w' (Fr 0 w' O') (.slice A5 x1.length c6) x1∧Rw 2 w' O' 3 (.slice a0.1.1 j0.1.length a0.1.2) d2.1∧Rw 3 w' O' 3 (.slice a0.2.1 j0.2.length a0.2.2) d2.2) _ () ⟨jB,hB,f0,y0,z5,kB⟩ ⟨rfl,rfl,rfl,rfl,rfl,rfl,trivial⟩ (fun _ _=>⟨rfl,rfl⟩) (fun _ _=>⟨rfl,rfl,rfl,rfl,trivial⟩) (fun _ _ _ ⟨O',hB,f0,y0,a1,u0⟩=>⟨O',hB,f0,y0,a1,u0⟩) ⟨rfl,rfl,rfl⟩ ⟨rfl,rfl⟩ ?_)
  rintro lB d2 u5 tG mB d6 ⟨uG,hB,f0,y0,a1,u0⟩ p1 e6 f6
  have rk77:inI64 (lB:Int):=rngKN d6 a6
  refine Al (Aj (Am rfl rfl (At rfl rfl (o_z ?_))))
  refine Aj (Am rfl rfl (Am rfl rfl (Am rfl rfl (Am rfl rfl ?_))))
  obtain ⟨nB,j3,p1⟩:=bs p1
  obtain ⟨oB,pB,f9,e2,k3,g9,rfl,qB⟩:=a1.elem j3
  refine Br (hA:=e2) (hj:=rfl) (hlt:=k3) rfl rfl rfl ?_
  refine De rfl a1 (a:=1125899906842624) (vInt (show inI64 (1125899906842624) from by decide)) e2 rfl rfl (AC j3) fun rB t1 a1=>?_
  obtain ⟨sB,l3,p1⟩:=bs p1
  replace u0:=u0.st t1
  obtain ⟨tB,uB,h9,f2,m3,i9,rfl,vB⟩:=u0.elem l3
  refine Br (hA:=f2) (hj:=rfl) (hlt:=m3) rfl rfl rfl ?_
  refine De rfl u0 (a:=1125899906842624) (vInt (show inI64 (1125899906842624) from by decide)) f2 rfl rfl (AC l3) fun wB u1 u0=>?_
  refine o_z ?_
  obtain rfl:=sm p1
  exact show Exists _ from ⟨_,(),rfl,⟨rfl,rfl,rfl,rfl,rfl,rfl,trivial⟩,_,(hB.st t1).st u1,(f0.st t1).st u1,(y0.st t1).st u1,a1.st u1,u0⟩
 rintro xB yB ⟨zB,aC,rfl,n3,g6,hB,f0,y0,a1,u0⟩
 replace hm:=Bh hm
 refine AO _ n3 ?_
 refine Al (Aj ?_)
 obtain ⟨bC,h6,hm⟩:=bs hm
 refine BV (O:=g6) (Lg 4 (by decide) h6) rfl rfl fun cC dC i6 j1 m2=>?_
 refine At rfl rfl (o_z ?_)
 refine Al (Al (Aj (Am rfl rfl (AQ rfl rfl ?_))))
 replace y0:=y0.st j1
 have n2:x1.length≤9223372036854775807:=Nat.le_trans y0.len.2.1 y0.len.2.2
 have eC:inI64 (x1.length:Int):=rngNat n2
 refine Am rfl rfl (o_z ?_)
 obtain ⟨fC,j6,hm⟩:=bs hm
 rw [j6] at m2
 obtain ⟨s0,rfl⟩:=Ob.ptr m2
 obtain ⟨o2,o3,hm⟩:=bs hm
 refine AM (aft o2 (fun (b1:(List Int)×(List Int)×Que) (v1:Unit)=>[(0,(.slice A3 x0.length c4)),(6,(.slice a0.1.1 j0.1.length a0.1.2)),(7,(.slice a0.2.1 j0.2.length a0.2.2)),(9,(.pointer (some ⟨s0,0,none⟩)))]) (fun b1 v1 w'=>∃ O':Lab,Bs w A w' O'∧Vb w' (Fr 0 w' O') (.slice A3 x0.length c4) x0∧Rw 2 w' O' 3 (.slice a0.1.1 j0.1.length a0.1.2) b1.1∧Rw 3 w' O' 3 (.slice a0.2.1 j0.2.length a0.2.2) b1.2.1∧Ob 4 w' O' (.pointer (some ⟨s0,0,none⟩)) b1.2.2)) ?_ ?_
 ·
  refine AP ?_
  replace hB:=hB.st j1
  replace f0:=f0.st j1
  replace a1:=a1.st j1
  replace u0:=u0.st j1
  refine Ca (σ:=(List Int)×(List Int)×Que) (X:=Unit) (x1.length) o3 rfl n2 (fun (b1:(List Int)×(List Int)×Que) (v1:Unit)=>[(0,(.slice A3 x0.length c4)),(6,(.slice a0.1.1 j0.1.length a0.1.2)),(7,(.slice a0.2.1 j0.2.length a0.2.2)),(9,(.pointer (some ⟨s0,0,none⟩))),(39,(.slice A5 x1.length c6))]) _ (fun b1 v1 w'=>∃ O':Lab,Bs w A w' O'∧Vb w' (Fr 0 w' O') (.slice A3 x0.length c4) x0∧Rw 2 w' O' 3 (.slice a0.1.1 j0.1.length a0.1.2) b1.1∧Rw 3 w' O' 3 (.slice a0.2.1 j0.2.length a0.2.2) b1.2.1∧Ob 4 w' O' (.pointer (some ⟨s0,0,none⟩)) b1.2.2∧Vb w' (Fr 0 w' O') (.slice A5 x1.length c6) x1) _ () ⟨i6,hB,f0,a1,u0,m2,y0⟩ ⟨rfl,rfl,rfl,rfl,rfl,rfl,rfl,trivial⟩ (fun _ _=>⟨rfl,rfl⟩) (fun _ _=>⟨rfl,rfl,rfl,rfl,trivial⟩) (fun _ _ _ ⟨O',hB,f0,h1,c1,k1,y0⟩=>⟨O',hB,f0,h1,c1,k1⟩) ⟨rfl,rfl,rfl⟩ ⟨rfl,rfl⟩ ?_
  rintro k6 gC b1 v1 hC j9 g2 ⟨l6,hB,f0,h1,c1,k1,y0⟩ v0 v5 w5
  have rk151:inI64 (k6:Int):=rngK g2 n2
  refine Al (Aj ?_)
  obtain ⟨iC,jC,k9,p3,q3,r3,rfl,m6⟩:=y0.elem' g2
  refine Br (hA:=p3) (hj:=rfl) (hlt:=q3) rfl rfl rfl ?_
  refine AD (hc:=cat0 r3) rfl rfl ?_
  refine At rfl rfl (o_z ?_)
  refine Al (Aj (Am rfl rfl (Am rfl rfl (Am rfl rfl (Am rfl rfl ?_)))))
  obtain ⟨kC,n6,v0⟩:=bs v0
  obtain ⟨o6,s3⟩:=AH n6
  obtain ⟨lC,mC,l9,h2,t3,m9,rfl,nC⟩:=h1.elem s3
  refine Br (hA:=h2) (hj:=(Int.toNat_of_nonneg o6).symm) (hlt:=t3) rfl rfl rfl ?_
  refine De rfl h1 (a:=0) (vInt (show inI64 (0) from by decide)) h2 rfl rfl (AC s3) fun oC q1 h1=>?_
  obtain ⟨pC,p6,v0⟩:=bs v0
  obtain ⟨q6,u3⟩:=AH p6
  replace c1:=c1.st q1
  obtain ⟨qC,rC,n9,i2,v3,o9,rfl,sC⟩:=c1.elem u3
  refine Br (hA:=i2) (hj:=(Int.toNat_of_nonneg q6).symm) (hlt:=v3) rfl rfl rfl ?_
  refine De rfl c1 (a:=0) (vInt (show inI64 (0) from by decide)) i2 rfl rfl (AC u3) fun tC r1 c1=>?_
  refine o_z ?_
  refine Aj (Am rfl rfl (Am rfl rfl ?_))
  obtain ⟨uC,r6,v0⟩:=bs v0
  replace k1:=(k1.st q1).st r1
  refine BV (O:=l6) (FD k1 (show inI64 (0) from by decide) (show inI64 (0) from by decide) m6 r6) rfl rfl fun vC wC xC s1 s6=>?_
  obtain ⟨t6,u6⟩:=s6
  obtain ⟨rfl,yC⟩:=u6.err
  refine o_z ?_
  obtain rfl:=sm v0
  exact show Exists _ from ⟨_,(),rfl,⟨rfl,rfl,rfl,rfl,rfl,rfl,rfl,trivial⟩,_,((hB.st q1).st r1).st s1,((f0.st q1).st r1).st s1,(h1.st r1).st s1,c1.st s1,t6,((y0.st q1).st r1).st s1⟩
 replace hB:=hB.st j1
 replace f0:=f0.st j1
 rintro zC aD ⟨bD,cD,rfl,w3,v6,hB,f0,h1,c1,k1⟩
 replace hm:=Bh hm
 refine AO _ w3 ?_
 refine Al ?_
 obtain ⟨p2,x3,hm⟩:=bs hm
 refine AM (aft p2 (fun (w0:(List Int)×(List Int)×Que) (w1:Unit)=>[(6,(.slice a0.1.1 j0.1.length a0.1.2)),(7,(.slice a0.2.1 j0.2.length a0.2.2))]) (fun w0 w1 w'=>∃ O':Lab,Bs w A w' O'∧Rw 2 w' O' 3 (.slice a0.1.1 j0.1.length a0.1.2) w0.1∧Rw 3 w' O' 3 (.slice a0.2.1 j0.2.length a0.2.2) w0.2.1)) ?_ ?_
 ·
  refine AP (Eu (σ:=(List Int)×(List Int)×Que) (X:=Unit) x3 (fun (w0:(List Int)×(List Int)×Que) (w1:Unit)=>[(0,(.slice A3 x0.length c4)),(6,(.slice a0.1.1 j0.1.length a0.1.2)),(7,(.slice a0.2.1 j0.2.length a0.2.2)),(9,(.pointer (some ⟨s0,0,none⟩)))]) _ (fun w0 w1 w'=>∃ O':Lab,Bs w A w' O'∧Vb w' (Fr 0 w' O') (.slice A3 x0.length c4) x0∧Rw 2 w' O' 3 (.slice a0.1.1 j0.1.length a0.1.2) w0.1∧Rw 3 w' O' 3 (.slice a0.2.1 j0.2.length a0.2.2) w0.2.1∧Ob 4 w' O' (.pointer (some ⟨s0,0,none⟩)) w0.2.2) _ () ⟨v6,hB,f0,h1,c1,k1⟩ ⟨rfl,rfl,rfl,rfl,trivial⟩ ?_)
  rintro w0 w1 dD p9 ⟨w6,hB,f0,l0,m0,x6⟩ b0 y1 l1
  refine Al (Al (Aj (Am rfl rfl ?_)))
  obtain ⟨eD,y6,b0⟩:=bs b0
  refine BV (O:=w6) (Ik x6 y6) rfl rfl fun fD gD z6 n0 a7=>?_
  obtain ⟨b7,c7⟩:=a7
  obtain ⟨rfl,hD⟩:=c7.int
  refine CN rfl rfl rfl (fun q2=>?_) fun q2=>?_
  ·
   replace b0:=ip b0 q2
   refine o_z ?_
   refine Ah rfl (AK (AP (Al (Aj (Am rfl rfl ?_)))))
   obtain ⟨i1,d7,b0⟩:=bs b0
   refine BV (O:=z6) (Il b7 d7) rfl rfl fun iD jD kD q0 e7=>?_
   obtain ⟨lD,mD,nD,oD,n1,rfl,f7,g7,h7,i7⟩:=e7
   obtain ⟨rfl,pD⟩:=f7.int
   obtain ⟨rfl,qD⟩:=g7.int
   obtain ⟨rfl,rD⟩:=h7.int
   obtain ⟨rfl,sD⟩:=i7.err
   refine Am rfl rfl (Bn rfl rfl rfl (Bn rfl rfl rfl (Bn rfl rfl rfl (Bn rfl rfl rfl (At rfl rfl (At rfl rfl (At rfl rfl (At rfl rfl (o_z ?_)))))))))
   refine Al (Al (Aj (Am rfl rfl (ET rfl rfl (fun r2=>?_) fun r2=>?_))))
   ·
    replace b0:=ip b0 r2
    refine o_z ?_
    refine Ah rfl (Cz ?_)
    obtain rfl:=sm b0
    exact show Exists _ from ⟨_,(),l1 _ rfl,⟨rfl,rfl,trivial⟩,_,(hB.st n0).st q0,(l0.st n0).st q0,(m0.st n0).st q0⟩
   replace b0:=im b0 r2
   refine o_z ?_
   refine Ae rfl (AK (Al (Al ?_)))
   obtain ⟨j7,k0,b0⟩:=bs b0
   refine AM (fun l' w'=>∃ (k7:Unit) (O':Lab),subs l' [(0,(.slice A3 x0.length c4)),(6,(.slice a0.1.1 j0.1.length a0.1.2)),(7,(.slice a0.2.1 j0.2.length a0.2.2)),(9,(.pointer (some ⟨s0,0,none⟩))),(12,(.int .i64 i1.1)),(13,(.int .i64 i1.2.1)),(14,(.int .i64 i1.2.2.1)),(80,(.bool j7))]∧Bs w A w' O'∧Vb w' (Fr 0 w' O') (.slice A3 x0.length c4) x0∧Rw 2 w' O' 3 (.slice a0.1.1 j0.1.length a0.1.2) w0.1∧Rw 3 w' O' 3 (.slice a0.2.1 j0.2.length a0.2.2) w0.2.1∧Ob 4 w' O' (.pointer (some ⟨s0,0,none⟩)) i1.2.2.2.2) ?_ ?_
   ·
    refine Aj (Am rfl rfl (Am rfl rfl (Am rfl rfl ?_)))
    obtain ⟨tD,l7,k0⟩:=bs k0
    obtain ⟨m7,n7⟩:=AH l7
    replace l0:=(l0.st n0).st q0
    obtain ⟨uD,vD,q9,y3,z3,a4,rfl,wD⟩:=l0.elem n7
    refine Br (hA:=y3) (hj:=(Int.toNat_of_nonneg m7).symm) (hlt:=z3) rfl rfl rfl ?_
    refine AD (hc:=cat0 a4) rfl rfl ?_
    refine FO rfl rfl rfl (fun s2=>?_) fun s2=>?_
    ·
     replace k0:=ip k0 s2
     refine Am rfl rfl (Ay rfl rfl rfl rfl (Ay rfl rfl rfl rfl (Ay rfl rfl rfl rfl (Ay rfl rfl rfl rfl (Ay rfl rfl rfl rfl (Ay rfl rfl rfl rfl (Bo rfl rfl rfl (o_z ?_))))))))
     obtain rfl:=sm k0
     exact ⟨(),_,⟨rfl,rfl,rfl,rfl,rfl,rfl,rfl,rfl,trivial⟩,(hB.st n0).st q0,(f0.st n0).st q0,l0,(m0.st n0).st q0,n1⟩
    replace k0:=im k0 s2
    refine Am rfl rfl (Aw rfl rfl (Am rfl rfl (Aw rfl rfl (Am rfl rfl (Aw rfl rfl (Am rfl rfl (Aw rfl rfl ?_)))))))
    obtain ⟨xD,o7,k0⟩:=bs k0
    obtain ⟨p7,q7⟩:=AH o7
    replace m0:=(m0.st n0).st q0
    obtain ⟨yD,zD,r9,b4,d4,e4,rfl,aE⟩:=m0.elem q7
    refine Br (hA:=b4) (hj:=(Int.toNat_of_nonneg p7).symm) (hlt:=d4) rfl rfl rfl ?_
    refine Aw rfl rfl (AD (hc:=cat0 e4) rfl rfl ?_)
    refine Aw rfl rfl (FO rfl rfl rfl (fun t2=>?_) fun t2=>?_)
    ·
     replace k0:=ip k0 t2
     refine Bl rfl rfl rfl (o_z ?_)
     obtain rfl:=sm k0
     exact ⟨(),_,⟨rfl,rfl,rfl,rfl,rfl,rfl,rfl,rfl,trivial⟩,(hB.st n0).st q0,(f0.st n0).st q0,l0,m0,n1⟩
    replace k0:=im k0 t2
    refine Bl rfl rfl rfl (o_z ?_)
    obtain rfl:=sm k0
    exact ⟨(),_,⟨rfl,rfl,rfl,rfl,rfl,rfl,rfl,rfl,trivial⟩,(hB.st n0).st q0,(f0.st n0).st q0,l0,m0,n1⟩
   replace hB:=(hB.st n0).st q0
   replace f0:=(f0.st n0).st q0
   replace l0:=(l0.st n0).st q0
   replace m0:=(m0.st n0).st q0
   rintro bE cE ⟨k7,r7,f4,hB,f0,l0,m0,n1⟩
   refine AO _ f4 ?_
   refine Cs rfl (fun u2=>?_) (fun u2=>?_)
   ·
    replace b0:=ip b0 u2
    refine Cz ?_
    obtain rfl:=sm b0
    exact show Exists _ from ⟨_,(),rfl,⟨rfl,rfl,rfl,rfl,trivial⟩,_,hB,f0,l0,m0,n1⟩
   replace b0:=im' b0 u2
   refine AK (Al (Aj (Am rfl rfl (Am rfl rfl ?_))))
   obtain ⟨d1,s7,b0⟩:=bs b0
   obtain ⟨t7,v7⟩:=AH s7
   obtain ⟨dE,eE,s9,g4,h4,i4,fE,rfl,o0⟩:=f0.elem' v7
   replace o0:=Vb.of_slice o0
   obtain ⟨z1,a2,rfl⟩:=o0.form
   refine Br (hA:=g4) (hj:=(Int.toNat_of_nonneg t7).symm) (hlt:=h4) rfl rfl rfl ?_
   refine AD (hc:=cat0 i4) rfl rfl ?_
   refine AQ rfl rfl ?_
   have v2:d1.length≤9223372036854775807:=Nat.le_trans o0.len.2.1 o0.len.2.2
   have gE:inI64 (d1.length:Int):=rngNat v2
   refine Am rfl rfl (o_z ?_)
   obtain ⟨w2,j4,b0⟩:=bs b0
   refine AM (aft w2 (fun (t0:(List Int)×(List Int)×Que) (b2:Unit)=>[(0,(.slice A3 x0.length c4)),(6,(.slice a0.1.1 j0.1.length a0.1.2)),(7,(.slice a0.2.1 j0.2.length a0.2.2)),(9,(.pointer (some ⟨s0,0,none⟩)))]) (fun t0 b2 w'=>∃ O':Lab,Bs w A w' O'∧Vb w' (Fr 0 w' O') (.slice A3 x0.length c4) x0∧Rw 2 w' O' 3 (.slice a0.1.1 j0.1.length a0.1.2) t0.1∧Rw 3 w' O' 3 (.slice a0.2.1 j0.2.length a0.2.2) t0.2.1∧Ob 4 w' O' (.pointer (some ⟨s0,0,none⟩)) t0.2.2)) ?_ ?_
   ·
    refine AP (Ca (σ:=(List Int)×(List Int)×Que) (X:=Unit) (d1.length) j4 rfl v2 (fun (t0:(List Int)×(List Int)×Que) (b2:Unit)=>[(0,(.slice A3 x0.length c4)),(6,(.slice a0.1.1 j0.1.length a0.1.2)),(7,(.slice a0.2.1 j0.2.length a0.2.2)),(9,(.pointer (some ⟨s0,0,none⟩))),(12,(.int .i64 i1.1)),(13,(.int .i64 i1.2.1)),(84,(.slice z1 d1.length a2))]) _ (fun t0 b2 w'=>∃ O':Lab,Bs w A w' O'∧Vb w' (Fr 0 w' O') (.slice A3 x0.length c4) x0∧Rw 2 w' O' 3 (.slice a0.1.1 j0.1.length a0.1.2) t0.1∧Rw 3 w' O' 3 (.slice a0.2.1 j0.2.length a0.2.2) t0.2.1∧Ob 4 w' O' (.pointer (some ⟨s0,0,none⟩)) t0.2.2∧Vb w' (Fr 0 w' O') (.slice z1 d1.length a2) d1) _ () ⟨r7,hB,f0,l0,m0,n1,o0⟩ ⟨rfl,rfl,rfl,rfl,rfl,rfl,rfl,rfl,rfl,trivial⟩ (fun _ _=>⟨rfl,rfl⟩) (fun _ _=>⟨rfl,rfl,rfl,rfl,trivial⟩) (fun _ _ _ ⟨O',hB,f0,e0,g0,r0,o0⟩=>⟨O',hB,f0,e0,g0,r0⟩) ⟨rfl,rfl,rfl⟩ ⟨rfl,rfl⟩ ?_)
    rintro k4 o1 t0 b2 hE t9 j2 ⟨w7,hB,f0,e0,g0,r0,o0⟩ c0 c2 x5
    have rk337:inI64 (k4:Int):=rngK j2 v2
    refine Al (Aj ?_)
    obtain ⟨iE,jE,v9,l4,m4,n4,rfl,kE,x7,lE⟩:=o0.elem' j2
    refine Br (hA:=l4) (hj:=rfl) (hlt:=m4) rfl rfl rfl ?_
    refine BB (hl:=rfl) (hc:=n4) rfl rfl ?_
    refine CQ 5 w7 rfl fun x2 mE y7 h0 p0=>?_
    refine Bu p0 rfl rfl rfl (Ci rfl) (allOne rfl) fun z7 i0 p0=>?_
    replace p0:Lc 5 z7 y7 x2 106 [(.int .i64 o1.src),(.int .i64 o1.dst),(.int .i64 o1.weight)]:=p0
    refine o_z ?_
    refine Al (Aj (Am rfl rfl (AG rfl rfl (AD (hc:=Blk.cell (i:=2) (p0.1) rfl) rfl rfl ?_))))
    obtain ⟨o4,p4,c0⟩:=bs c0
    have q4:=(BE p4)
    refine ES (he:=p4) rfl rfl rfl ?_
    refine Am rfl rfl ?_
    obtain ⟨r4,s4,c0⟩:=bs c0
    have t4:=(BE s4)
    refine ES (he:=s4) rfl rfl rfl ?_
    refine At rfl rfl (At rfl rfl (o_z ?_))
    refine Al (Al ?_)
    obtain ⟨a8,d0,c0⟩:=bs c0
    refine AM (fun l' w'=>∃ (b8:Unit) (O':Lab),subs l' [(0,(.slice A3 x0.length c4)),(6,(.slice a0.1.1 j0.1.length a0.1.2)),(7,(.slice a0.2.1 j0.2.length a0.2.2)),(9,(.pointer (some ⟨s0,0,none⟩))),(12,(.int .i64 i1.1)),(13,(.int .i64 i1.2.1)),(17,(.pointer (some ⟨x2,0,none⟩))),(18,(.int .i64 o4)),(19,(.int .i64 r4)),(84,(.slice z1 d1.length a2)),(85,(.int .i64 (d1.length:Int))),(86,(.int .i64 (k4:Int))),(120,(.bool a8))]∧Bs w A w' O'∧Vb w' (Fr 0 w' O') (.slice A3 x0.length c4) x0∧Rw 2 w' O' 3 (.slice a0.1.1 j0.1.length a0.1.2) t0.1∧Rw 3 w' O' 3 (.slice a0.2.1 j0.2.length a0.2.2) t0.2.1∧Ob 4 w' O' (.pointer (some ⟨s0,0,none⟩)) t0.2.2∧Lc 5 w' O' x2 106 [(.int .i64 o1.src),(.int .i64 o1.dst),(.int .i64 o1.weight)]∧Vb w' (Fr 0 w' O') (.slice z1 d1.length a2) d1) ?_ ?_
    ·
     refine Aj (Am rfl rfl (Am rfl rfl (AG rfl rfl (AD (hc:=Blk.cell (i:=1) (p0.1) rfl) rfl rfl ?_))))
     obtain ⟨nE,c8,d0⟩:=bs d0
     obtain ⟨d8,f8⟩:=AH c8
     replace e0:=(e0.st h0).st i0
     obtain ⟨oE,pE,w9,u4,v4,w4,rfl,qE⟩:=e0.elem f8
     refine Br (hA:=u4) (hj:=(Int.toNat_of_nonneg d8).symm) (hlt:=v4) rfl rfl rfl ?_
     refine AD (hc:=cat0 w4) rfl rfl ?_
     refine CN rfl rfl rfl (fun y2=>?_) fun y2=>?_
     ·
      replace d0:=ip d0 y2
      refine Am rfl rfl (Ay rfl rfl rfl rfl (Ay rfl rfl rfl rfl (Ay rfl rfl rfl rfl (Ay rfl rfl rfl rfl (Ay rfl rfl rfl rfl (Ay rfl rfl rfl rfl (Ay rfl rfl rfl rfl (Ay rfl rfl rfl rfl (Ay rfl rfl rfl rfl (Ay rfl rfl rfl rfl (Ay rfl rfl rfl rfl (Ay rfl rfl rfl rfl (Ay rfl rfl rfl rfl (Ay rfl rfl rfl rfl ?_))))))))))))))
      refine Ay rfl rfl rfl rfl (Ay rfl rfl rfl rfl (Bo rfl rfl rfl (o_z ?_)))
      obtain rfl:=sm d0
      exact ⟨(),_,⟨rfl,rfl,rfl,rfl,rfl,rfl,rfl,rfl,rfl,rfl,rfl,rfl,rfl,trivial⟩,(hB.st h0).st i0,(f0.st h0).st i0,e0,(g0.st h0).st i0,(r0.st h0).st i0,p0,(o0.st h0).st i0⟩
     replace d0:=im d0 y2
     refine Am rfl rfl (Aw rfl rfl (Am rfl rfl (Aw rfl rfl (Am rfl rfl (Aw rfl rfl (AG rfl rfl (Aw rfl rfl (AD (hc:=Blk.cell (i:=1) (p0.1) rfl) rfl rfl ?_))))))))
     refine Aw rfl rfl ?_
     obtain ⟨rE,g8,d0⟩:=bs d0
     obtain ⟨h8,i8⟩:=AH g8
     obtain ⟨sE,tE,x9,x4,y4,z4,rfl,uE⟩:=e0.elem i8
     refine Br (hA:=x4) (hj:=(Int.toNat_of_nonneg h8).symm) (hlt:=y4) rfl rfl rfl ?_
     refine Aw rfl rfl (AD (hc:=cat0 z4) rfl rfl ?_)
     refine Aw rfl rfl (EP rfl rfl rfl (fun z2=>?_) fun z2=>?_)
     ·
      replace d0:=ip d0 z2
      refine Aw rfl rfl (Am rfl rfl (Aw rfl rfl (Am rfl rfl (Aw rfl rfl (Am rfl rfl (Aw rfl rfl (AG rfl rfl (Aw rfl rfl (AD (hc:=Blk.cell (i:=1) (p0.1) rfl) rfl rfl ?_)))))))))
      refine Aw rfl rfl ?_
      obtain ⟨vE,j8,d0⟩:=bs d0
      obtain ⟨k8,l8⟩:=AH j8
      replace g0:=(g0.st h0).st i0
      obtain ⟨wE,xE,y9,a5,b5,c5,rfl,yE⟩:=g0.elem l8
      refine Br (hA:=a5) (hj:=(Int.toNat_of_nonneg k8).symm) (hlt:=b5) rfl rfl rfl ?_
      refine Aw rfl rfl (AD (hc:=cat0 c5) rfl rfl ?_)
      refine Aw rfl rfl (FN rfl rfl rfl (fun a3=>?_) fun a3=>?_)
      ·
       replace d0:=ip d0 a3
       refine Aw rfl rfl (Bo rfl rfl rfl (Bl rfl rfl rfl (o_z ?_)))
       obtain rfl:=sm d0
       exact ⟨(),_,⟨rfl,rfl,rfl,rfl,rfl,rfl,rfl,rfl,rfl,rfl,rfl,rfl,rfl,trivial⟩,(hB.st h0).st i0,(f0.st h0).st i0,e0,g0,(r0.st h0).st i0,p0,(o0.st h0).st i0⟩
      replace d0:=im d0 a3
      refine Aw rfl rfl (Bo rfl rfl rfl (Bl rfl rfl rfl (o_z ?_)))
      obtain rfl:=sm d0
      exact ⟨(),_,⟨rfl,rfl,rfl,rfl,rfl,rfl,rfl,rfl,rfl,rfl,rfl,rfl,rfl,trivial⟩,(hB.st h0).st i0,(f0.st h0).st i0,e0,g0,(r0.st h0).st i0,p0,(o0.st h0).st i0⟩
     replace d0:=im d0 z2
     refine Aw rfl rfl (Am rfl rfl (Ay rfl rfl rfl rfl (Ay rfl rfl rfl rfl (Ay rfl rfl rfl rfl (Ay rfl rfl rfl rfl (Ay rfl rfl rfl rfl (Ay rfl rfl rfl rfl (Ay rfl rfl rfl rfl (Aw rfl rfl (Bl rfl rfl rfl (Bl rfl rfl rfl (o_z ?_))))))))))))
     obtain rfl:=sm d0
     exact ⟨(),_,⟨rfl,rfl,rfl,rfl,rfl,rfl,rfl,rfl,rfl,rfl,rfl,rfl,rfl,trivial⟩,(hB.st h0).st i0,(f0.st h0).st i0,e0,(g0.st h0).st i0,(r0.st h0).st i0,p0,(o0.st h0).st i0⟩
    replace f0:=(f0.st h0).st i0
    replace hB:=(hB.st h0).st i0
    replace o0:=(o0.st h0).st i0
    replace e0:=(e0.st h0).st i0
    replace g0:=(g0.st h0).st i0
    replace r0:=(r0.st h0).st i0
    rintro zE aF ⟨b8,d5,e5,hB,f0,e0,g0,r0,p0,o0⟩
    refine AO _ e5 ?_
    refine Cs rfl (fun b3=>?_) (fun b3=>?_)
    ·
     replace c0:=ip c0 b3
     refine Cz ?_
     obtain rfl:=sm c0
     exact show Exists _ from ⟨_,(),rfl,⟨rfl,rfl,rfl,rfl,rfl,rfl,rfl,rfl,rfl,trivial⟩,_,hB,f0,e0,g0,r0,o0⟩
    replace c0:=im' c0 b3
    refine AK (Al (Bv [(9,[2])] d5 ?_))
    refine AU (fuel:=7) [] [(0,true),(1,true),(2,true),(6,true),(8,true)] (by kernel_rfl) rfl ?_
    refine AF rfl rfl rfl (AR rfl rfl rfl (AV (hc:=fun w' ⟨O',hq⟩=>Blk.cell (i:=1) ((p0.st hq (by decide)).1) rfl) rfl rfl rfl ?_))
    refine AF rfl rfl rfl ?_
    obtain ⟨bF,m8,c0⟩:=bs c0
    obtain ⟨n8,f5⟩:=AH m8
    obtain ⟨cF,dF,z9,k2,aA,g5,bA,rfl,eF⟩:=e0.elemF f5
    refine BC (hA:=k2) (hj:=(Int.toNat_of_nonneg n8).symm) (hlt:=g5) rfl rfl rfl rfl ?_
    refine AJ ?_
    refine AU (fuel:=3) [2] [(3,true),(4,true),(5,true),(7,true)] (by kernel_rfl) rfl ?_
    refine AF rfl rfl rfl (AR rfl rfl rfl (AV (hc:=fun w' ⟨O',hq⟩=>Blk.cell (i:=1) ((p0.st hq (by decide)).1) rfl) rfl rfl rfl ?_))
    refine AF rfl rfl rfl (AJ ?_)
    refine Bc (i:=9) (by kernel_rfl) rfl ?_
    refine De rfl e0 (a:=o4) (vInt q4) k2 rfl rfl (AC f5) fun fF e1 e0=>?_
    have hZ:=e1.lst [2] (fun _ h=>by cases h;decide)
    refine Bt [] hZ (by kernel_rfl) ?_
    refine AU (fuel:=1) [] [(10,true)] (by kernel_rfl) rfl ?_
    obtain ⟨gF,o8,c0⟩:=bs c0
    obtain ⟨p8,h5⟩:=AH o8
    replace g0:=g0.st e1
    obtain ⟨hF,iF,cA,l2,dA,i5,eA,rfl,jF⟩:=g0.elemF h5
    refine BC (hA:=l2) (hj:=(Int.toNat_of_nonneg p8).symm) (hlt:=i5) rfl rfl rfl rfl ?_
    refine AJ ?_
    refine Bc (i:=11) (by kernel_rfl) rfl ?_
    refine De rfl g0 (a:=r4) (vInt t4) l2 rfl rfl (AC h5) fun kF f1 g0=>?_
    refine Dx (by kernel_rfl) ?_
    refine BW (by kernel_rfl) ?_
    refine Al (Aj (Am rfl rfl (Am rfl rfl (Am rfl rfl (AG rfl rfl ?_)))))
    replace p0:=(p0.st e1).st f1
    refine AD (hc:=Blk.cell (i:=1) (p0.1) rfl) rfl rfl ?_
    obtain ⟨lF,q8,c0⟩:=bs c0
    replace r0:=(r0.st e1).st f1
    refine BV (O:=d5) (FD r0 q4 t4 x7 q8) rfl rfl fun mF nF oF g1 r8=>?_
    obtain ⟨s8,t8⟩:=r8
    obtain ⟨rfl,pF⟩:=t8.err
    refine ET rfl rfl (fun c3=>?_) fun c3=>?_
    ·
     replace c0:=ip c0 c3
     refine o_z ?_
     refine Ah rfl (Al (Aj (Am rfl rfl (Am rfl rfl (Am rfl rfl ?_)))))
     replace e0:=(e0.st f1).st g1
     obtain ⟨qF,d3,e0⟩:=e0.freeze
     replace g0:=(g0.st g1).st d3
     obtain ⟨u8,e3,g0⟩:=g0.freeze
     obtain ⟨v8,w8,c0⟩:=bs c0
     replace f0:=((((f0.st e1).st f1).st g1).st d3).st e3
     replace e0:=e0.st e3
     refine Eg (O:=u8) (R:=fun w' F v=>T2 w' F v v8) (IQ Fr.lt f0 e0 g0 w8) rfl rfl fun rF j5 k5 x8 y8=>?_
     obtain ⟨sF,tF,rfl,l5,m5⟩:=y8
     obtain ⟨uF,vF,rfl⟩:=l5.form
     obtain ⟨wF,xF,rfl⟩:=m5.form
     refine Bn rfl rfl rfl (Bn rfl rfl rfl (At rfl rfl (At rfl rfl (o_z ?_))))
     refine AL ?_
     obtain rfl:=sm c0
     obtain rfl:=c2 _ rfl
     obtain rfl:=sm (CG b0)
     obtain rfl:=y1 _ rfl
     obtain rfl:=sm (CG hm)
     replace hB:=(((((hB.st e1).st f1).st g1).st d3).st e3).st x8
     exact ret2 rfl (AA rfl) (AA rfl) ⟨hB.ext,_,_,rfl,(Vb.mono (F:=Fr 0 j5 k5) l5 hB.out),(Vb.mono (F:=Fr 0 j5 k5) m5 hB.out)⟩
    replace c0:=im c0 c3
    refine o_z ?_
    refine Ae rfl (AK ?_)
    obtain rfl:=sm c0
    exact show Exists _ from ⟨_,(),rfl,⟨rfl,rfl,rfl,rfl,rfl,rfl,rfl,rfl,rfl,trivial⟩,_,((hB.st e1).st f1).st g1,((f0.st e1).st f1).st g1,(e0.st f1).st g1,g0.st g1,s8,((o0.st e1).st f1).st g1⟩
   rintro yF zF ⟨aG,bG,rfl,m1,cG,hB,f0,e0,g0,r0⟩
   replace b0:=Bh b0
   obtain rfl:=sm b0
   exact show Exists _ from ⟨_,(),rfl,⟨(Cp m1 _ _ rfl),(Cp m1 _ _ rfl),(Cp m1 _ _ rfl),(Cp m1 _ _ rfl),trivial⟩,_,hB,f0,e0,g0,r0⟩
  replace b0:=im b0 q2
  refine o_z ?_
  refine Ae rfl (Cz ?_)
  obtain rfl:=sm b0
  exact show Exists _ from ⟨_,(),l1 _ rfl,⟨rfl,rfl,trivial⟩,_,hB.st n0,l0.st n0,m0.st n0⟩
 rintro dG n5 ⟨eG,fG,rfl,o5,gG,hB,l0,m0⟩
 replace hm:=Bh hm
 refine AO _ o5 ?_
 refine Al (Aj (Am rfl rfl (Am rfl rfl (At rfl rfl (At rfl rfl (o_z ?_))))))
 refine AL ?_
 obtain ⟨hG,p5,l0⟩:=l0.freeze
 replace m0:=m0.st p5
 obtain ⟨q5,r5,m0⟩:=m0.freeze
 obtain rfl:=sm hm
 replace hB:=(hB.st p5).st r5
 replace l0:=l0.st r5
 exact ret2 rfl (AA rfl) (AA rfl) ⟨hB.ext,_,_,rfl,(Vb.mono (F:=Fr 0 n5 q5) l0 hB.out),(Vb.mono (F:=Fr 0 n5 q5) m0 hB.out)⟩
noncomputable def BN (x0:Spa):Option Spa :=
  bnd (Be x0.states) fun q45=>bnd (mkI 24 ([]:List Arc) q45) fun u55=>bnd (mkI 24 ([]:List Arc) q45) fun u57=>bnd (some (u55,u57):Option ((List (List Arc))×(List (List Arc)))) fun y59=>bnd (rng (ρ:=Spa) (fun (k179:Nat) (a180:Edj) (s177:(List (List Arc))×(List (List Arc)))=>bnd (atI x0.t.ops a180.label) fun a258=>bnd (atI s177.1 a180.src) fun a279=>bnd (appI 24 a279 [(⟨a180.src,a180.dst,a258.cost⟩:Arc)]) fun u304=>bnd (atI s177.1 a180.src) fun a315=>bnd (atI s177.2 a180.dst) fun a330=>bnd (appI 24 a330 [(⟨a180.dst,a180.src,a258.cost⟩:Arc)]) fun u355=>bnd (atI s177.2 a180.dst) fun a366=>some (.next ((s177.1.set (a180.src:Int).toNat u304),(s177.2.set (a180.dst:Int).toNat u355)))) x0.edges 0 (y59.1,y59.2)) fun res175=>fin res175 fun (s390:(List (List Arc))×(List (List Arc)))=>bnd (rng (ρ:=Spa) (fun (k446:Nat) (a447:Bool) (s444:(List Int))=>if a447=true then (bnd (appI 8 s444 [(k446:Int)]) fun u469=>some (.next u469)) else (some (.next s444))) x0.goals 0 ([]:List Int)) fun res442=>fin res442 fun (s485:(List Int))=>bnd (BT s390.1 ([0]:List Int)) fun q497=>bnd (BT s390.2 s485) fun q561=>some (⟨(⟨x0.t.vars,x0.t.init,x0.t.goal,x0.t.ops⟩:Tsk),x0.states,x0.edges,x0.goals,q497.1,q561.1,q561.2⟩:Spa)
theorem GG {w:World} {O:Lab} {p0 i0:Nat} {x0:Spa} (k5:Ob i0 w O (.pointer (some ⟨p0,0,none⟩)) x0) {r:Spa} (hm:BN x0=some r) :
    Fn Tryz.prog 51 [(.pointer (some ⟨p0,0,none⟩))] w fun v w'=>∃ O',St (eT i0) w O w' O'∧Ob i0 w' O' (.pointer (some ⟨p0,0,none⟩)) r:=by
 obtain ⟨O0,hE,wB,xB⟩:=ent1 (w:=w) (O:=O) k5.2
 have k5':=Ob.leave k5 wB xB (j:=2) (by decide)
 have hB:Bm w O0 w O0:=Bm.refl
 refine AI Tryz.func51 rfl Tryz.ntmps51 rfl ?_
 unfold BN at hm
 refine Al (Aj (Am rfl rfl (BO rfl rfl ?_)))
 obtain ⟨O2,v6,sJ,tJ,uJ,vJ,wJ,xJ,yJ,zJ,aK,S3,bK,h4,h7,s3,t3,u3,xA,v3,w3,x3,y3,z3⟩:=Spa.opn k5' 2 3 (by decide)
 obtain ⟨A8,c9,rfl⟩:=h7.form
 obtain ⟨cK,dK,rfl⟩:=s3.form
 obtain ⟨eK,fK,rfl⟩:=t3.form
 obtain ⟨gK,hK,rfl⟩:=u3.form
 obtain ⟨iK,rfl⟩:=xA.ptr
 obtain ⟨jK,kK,rfl⟩:=v3.form
 obtain ⟨lK,mK,rfl⟩:=w3.form
 obtain ⟨nK,oK,rfl⟩:=x3.form
 obtain ⟨pK,qK,rfl⟩:=y3.form
 obtain ⟨rK,sK,rfl⟩:=z3.form
 refine AG rfl rfl (AD (hc:=Blk.cell (i:=4) (h4.1) rfl) rfl rfl ?_)
 obtain ⟨tK,yB,hm⟩:=bs hm
 refine BV (O:=O2) (DK xA yB) rfl rfl fun uK vK c8 z0 zB=>?_
 obtain ⟨j5,aC⟩:=zB
 obtain ⟨rfl,wK⟩:=aC.int
 refine At rfl rfl (o_z ?_)
 refine Al ?_
 obtain ⟨xK,yA,hm⟩:=bs hm
 obtain ⟨yK,zA,hm⟩:=bs hm
 obtain ⟨y0,l5,hm⟩:=bs hm
 refine AM (fun l' w'=>∃ (d0:(Option Addr×Nat)×(Option Addr×Nat)) (O':Lab),subs l' [(0,(.pointer (some ⟨p0,0,none⟩))),(3,(.slice d0.1.1 y0.1.length d0.1.2)),(4,(.slice d0.2.1 y0.2.length d0.2.2))]∧Bm w O0 w' O'∧Ob 2 w' O' (.pointer (some ⟨p0,0,none⟩)) x0∧NR Arc 4 w' O' 104 106 (.slice d0.1.1 y0.1.length d0.1.2) y0.1 none∧NR Arc 5 w' O' 104 106 (.slice d0.2.1 y0.2.length d0.2.2) y0.2 none) ?_ ?_
 ·
  refine Bv [] c8 ?_
  refine AU (fuel:=4) [] [(0,true),(2,true)] (by kernel_rfl) rfl ?_
  refine AF rfl rfl rfl (AF rfl rfl rfl (AJ ?_))
  refine IM (i:=1) (j:=3) (by kernel_rfl) rfl rfl ?_ ?_
  ·
   obtain ⟨bC,cC,dC,eC,fC⟩:=Df yA
   refine IN (β:=Arc) (e:=106) 4 (by decide) c8 rfl rfl rfl rfl cC dC eC rfl fun gC zK hC t1 aB=>?_
   rw [← fC] at aB ⊢
   have hZ:=t1.lst [] (fun _ h=>h.elim)
   refine Bt [] hZ (by kernel_rfl) ?_
   refine AU (fuel:=2) [] [(4,true)] (by kernel_rfl) rfl ?_
   refine CB rfl rfl rfl (AJ ?_)
   refine Bc (i:=3) (by kernel_rfl) rfl ?_
   obtain ⟨iC,jC,kC,lC,mC⟩:=Df zA
   refine IN (β:=Arc) (e:=106) 5 (by decide) hC rfl rfl rfl rfl jC kC lC rfl fun nC aL bL q1 bB=>?_
   rw [← mC] at bB ⊢
   have hZ:=q1.lst [] (fun _ h=>h.elim)
   refine Bt [] hZ (by kernel_rfl) ?_
   refine AU (fuel:=0) [] [(5,true)] (by kernel_rfl) rfl ?_
   refine CB rfl rfl rfl (AJ ?_)
   refine BW (by kernel_rfl) ?_
   replace h4:=((h4.st z0).st t1).st q1
   replace h7:=((h7.st z0).st t1).st q1
   replace s3:=((s3.st z0).st t1).st q1
   replace t3:=((t3.st z0).st t1).st q1
   replace u3:=((u3.st z0).st t1).st q1
   replace v3:=((v3.st z0).st t1).st q1
   replace w3:=((w3.st z0).st t1).st q1
   replace x3:=((x3.st z0).st t1).st q1
   replace y3:=((y3.st z0).st t1).st q1
   replace z3:=((z3.st z0).st t1).st q1
   replace j5:=(j5.st t1).st q1
   obtain ⟨cL,d8,oC,pC,qC⟩:=Spa.shut (x:=x0) (l0:=2) (l1:=3) (by decide) h4 h7 s3 t3 u3 j5 v3 w3 x3 y3 z3
   obtain rfl:=sm l5
   exact ⟨(((some ⟨gC,0,none⟩),bC),((some ⟨nC,0,none⟩),iC)),_,⟨rfl,rfl,rfl,trivial⟩,((((hB.st S3).st z0).st t1).st q1).st d8,qC,(aB.st q1).st d8,bB.st d8⟩
  obtain ⟨rC,sC,tC,uC,vC⟩:=Df zA
  refine IN (β:=Arc) (e:=106) 5 (by decide) c8 rfl rfl rfl rfl sC tC uC rfl fun wC xC e8 u0 m5=>?_
  rw [← vC] at m5 ⊢
  have hZ:=u0.lst [] (fun _ h=>h.elim)
  refine Bt [] hZ (by kernel_rfl) ?_
  refine Bc (i:=1) (by kernel_rfl) rfl ?_
  obtain ⟨f8,g8,h8,i8,j8⟩:=Df yA
  refine IN (β:=Arc) (e:=106) 4 (by decide) e8 rfl rfl rfl rfl g8 h8 i8 rfl fun k8 yC zC r0 n5=>?_
  rw [← j8] at n5 ⊢
  have hZ:=r0.lst [] (fun _ h=>h.elim)
  refine Bt [] hZ (by kernel_rfl) ?_
  refine AU (fuel:=0) [] [(4,true),(5,true)] (by kernel_rfl) rfl ?_
  refine CB rfl rfl rfl (CB rfl rfl rfl (AJ ?_))
  refine BW (by kernel_rfl) ?_
  replace h4:=((h4.st z0).st u0).st r0
  replace h7:=((h7.st z0).st u0).st r0
  replace s3:=((s3.st z0).st u0).st r0
  replace t3:=((t3.st z0).st u0).st r0
  replace u3:=((u3.st z0).st u0).st r0
  replace v3:=((v3.st z0).st u0).st r0
  replace w3:=((w3.st z0).st u0).st r0
  replace x3:=((x3.st z0).st u0).st r0
  replace y3:=((y3.st z0).st u0).st r0
  replace z3:=((z3.st z0).st u0).st r0
  replace j5:=(j5.st u0).st r0
  obtain ⟨aD,a4,cB,dB,l8⟩:=Spa.shut (x:=x0) (l0:=2) (l1:=3) (by decide) h4 h7 s3 t3 u3 j5 v3 w3 x3 y3 z3
  obtain rfl:=sm l5
  exact ⟨(((some ⟨k8,0,none⟩),f8),((some ⟨wC,0,none⟩),rC)),_,⟨rfl,rfl,rfl,trivial⟩,((((hB.st S3).st z0).st u0).st r0).st a4,l8,n5.st a4,(m5.st r0).st a4⟩
 replace hB:=(hB.st S3).st z0
 rintro bD cD ⟨d0,dD,o5,hB,eD,m8,n8⟩
 refine AO _ o5 ?_
 refine Al (Al (Aj (Am rfl rfl (BO rfl rfl ?_))))
 obtain ⟨fD,gD,hD,iD,jD,kD,lD,mD,nD,oD,pD,i2,eB,p5,q5,r5,s5,t5,u5,a1,v5,w5,x5,y5⟩:=Spa.opn eD 2 3 (by decide)
 obtain ⟨qD,rD,rfl⟩:=q5.form
 obtain ⟨sD,tD,rfl⟩:=r5.form
 obtain ⟨uD,vD,rfl⟩:=s5.form
 obtain ⟨wD,xD,rfl⟩:=t5.form
 obtain ⟨yD,rfl⟩:=u5.ptr
 obtain ⟨z5,a6,rfl⟩:=a1.form
 obtain ⟨zD,aE,rfl⟩:=v5.form
 obtain ⟨bE,cE,rfl⟩:=w5.form
 obtain ⟨dE,eE,rfl⟩:=x5.form
 obtain ⟨fE,gE,rfl⟩:=y5.form
 refine AG rfl rfl (AD (hc:=Blk.cell (i:=5) (p5.1) rfl) rfl rfl ?_)
 refine AQ rfl rfl ?_
 have b4:x0.edges.length≤9223372036854775807:=Nat.le_trans a1.len.2.1 a1.len.2.2
 have iE:inI64 (x0.edges.length:Int):=rngNat b4
 refine Am rfl rfl (o_z ?_)
 obtain ⟨o8,x1,fB,gB,m1⟩:=Spa.shut (x:=x0) (l0:=2) (l1:=3) (by decide) p5 q5 r5 s5 t5 u5 a1 v5 w5 x5 y5
 obtain ⟨c4,b6,hm⟩:=bs hm
 refine AM (aft c4 (fun (g1:(List (List Arc))×(List (List Arc))) (j2:Unit)=>[(0,(.pointer (some ⟨p0,0,none⟩))),(3,(.slice d0.1.1 y0.1.length d0.1.2)),(4,(.slice d0.2.1 y0.2.length d0.2.2))]) (fun g1 j2 w'=>∃ O':Lab,Bm w O0 w' O'∧Ob 2 w' O' (.pointer (some ⟨p0,0,none⟩)) x0∧NR Arc 4 w' O' 104 106 (.slice d0.1.1 y0.1.length d0.1.2) g1.1 none∧NR Arc 5 w' O' 104 106 (.slice d0.2.1 y0.2.length d0.2.2) g1.2 none)) ?_ ?_
 ·
  refine AP ?_
  replace hB:=(hB.st i2).st x1
  replace m8:=(m8.st i2).st x1
  replace n8:=(n8.st i2).st x1
  replace a1:=a1.st x1
  refine Ca (σ:=(List (List Arc))×(List (List Arc))) (X:=Unit) (x0.edges.length) b6 rfl b4 (fun (g1:(List (List Arc))×(List (List Arc))) (j2:Unit)=>[(0,(.pointer (some ⟨p0,0,none⟩))),(3,(.slice d0.1.1 y0.1.length d0.1.2)),(4,(.slice d0.2.1 y0.2.length d0.2.2)),(23,(.slice z5 x0.edges.length a6))]) _ (fun g1 j2 w'=>∃ O':Lab,Bm w O0 w' O'∧Ob 2 w' O' (.pointer (some ⟨p0,0,none⟩)) x0∧NR Arc 4 w' O' 104 106 (.slice d0.1.1 y0.1.length d0.1.2) g1.1 none∧NR Arc 5 w' O' 104 106 (.slice d0.2.1 y0.2.length d0.2.2) g1.2 none∧Vb w' (Fr 0 w' O') (.slice z5 x0.edges.length a6) x0.edges) _ () ⟨o8,hB,m1,m8,n8,a1⟩ ⟨rfl,rfl,rfl,rfl,rfl,rfl,trivial⟩ (fun _ _=>⟨rfl,rfl⟩) (fun _ _=>⟨rfl,rfl,rfl,trivial⟩) (fun _ _ _ ⟨O',hB,m1,a0,b0,a1⟩=>⟨O',hB,m1,a0,b0⟩) ⟨rfl,rfl,rfl⟩ ⟨rfl,rfl⟩ ?_
  rintro p8 g0 g1 j2 jE iB o3 ⟨q8,hB,m1,a0,b0,a1⟩ c0 y7 z7
  have rk179:inI64 (p8:Int):=rngK o3 b4
  refine Al (Aj ?_)
  obtain ⟨kE,lE,jB,c6,d6,e6,rfl,f6,mE,g6⟩:=a1.elem' o3
  refine Br (hA:=c6) (hj:=rfl) (hlt:=d6) rfl rfl rfl ?_
  refine BB (hl:=rfl) (hc:=e6) rfl rfl ?_
  refine CQ 6 q8 rfl fun r8 nE s8 y1 h0=>?_
  refine Bu h0 rfl rfl rfl (Ci rfl) (allOne rfl) fun k2 z1 h0=>?_
  replace h0:Lc 6 k2 s8 r8 94 [(.int .i64 g0.src),(.int .i64 g0.label),(.int .i64 g0.dst)]:=h0
  refine o_z ?_
  refine Al (BQ (·=k2) [(0,true),(1,true),(2,true),(3,true),(4,true),(5,true),(6,true),(7,true),(8,true),(9,true),(10,true)] (by kernel_rfl) rfl (by kernel_rfl) rfl ?_)
  refine AF rfl rfl rfl (Cb rfl rfl rfl ?_)
  replace m1:=(m1.st y1).st z1
  obtain ⟨d4,oE,pE,qE,rE,sE,tE,uE,vE,wE,xE,a2,kB,l2,m2,n2,o2,b2,p2,q2,r2,s2,t2,u2⟩:=Spa.opn m1 2 3 (by decide)
  obtain ⟨yE,zE,rfl⟩:=m2.form
  obtain ⟨aF,bF,rfl⟩:=n2.form
  obtain ⟨cF,dF,rfl⟩:=o2.form
  obtain ⟨eF,fF,rfl⟩:=b2.form
  obtain ⟨gF,rfl⟩:=p2.ptr
  obtain ⟨hF,iF,rfl⟩:=q2.form
  obtain ⟨jF,kF,rfl⟩:=r2.form
  obtain ⟨lF,mF,rfl⟩:=s2.form
  obtain ⟨nF,oF,rfl⟩:=t2.form
  obtain ⟨pF,qF,rfl⟩:=u2.form
  refine AR rfl rfl rfl (AR rfl rfl rfl (Bp (hc:=Blk.cell (i:=3) (l2.1) rfl) rfl rfl rfl ?_))
  refine AR rfl rfl rfl ?_
  replace h0:=h0.st a2
  refine Bp (hc:=Blk.cell (i:=1) (h0.1) rfl) rfl rfl rfl ?_
  obtain ⟨u1,t8,c0⟩:=bs c0
  obtain ⟨u8,v8⟩:=AH t8
  obtain ⟨rF,sF,lB,h6,i6,j6,tF,uF,rfl,w8,x8,k6,vF⟩:=b2.elem' v8
  obtain ⟨wF,xF,rfl⟩:=w8.form
  obtain ⟨yF,zF,rfl⟩:=x8.form
  refine BC (hA:=h6) (hj:=(Int.toNat_of_nonneg u8).symm) (hlt:=i6) rfl rfl rfl rfl ?_
  refine AR rfl rfl rfl (Bp (hc:=cat1 j6) rfl rfl rfl ?_)
  refine CB rfl rfl rfl (h_z ?_)
  refine Al (Bv [(15,[4,13])] d4 ?_)
  refine AU (fuel:=7) [] [(3,true),(4,true),(5,true),(6,true),(7,true),(8,true),(9,true),(10,true),(11,true),(12,true),(13,true)] (by kernel_rfl) rfl ?_
  refine AF rfl rfl rfl (AR rfl rfl rfl (AV (hc:=fun w' ⟨O',hq⟩=>Blk.cell (i:=0) ((h0.st hq (by decide)).1) rfl) rfl rfl rfl ?_))
  obtain ⟨v2,y8,c0⟩:=bs c0
  obtain ⟨z8,e4⟩:=AH y8
  replace a0:=((a0.st y1).st z1).st a2
  obtain ⟨aG,bG,n1,l6⟩:=a0.at e4
  refine BC (hA:=n1) (hj:=(Int.toNat_of_nonneg z8).symm) (hlt:=l6) rfl rfl rfl rfl ?_
  obtain ⟨m6,n6,r1,w2⟩:=NR.peek a0 n1 e4
  replace w2:Vb k2 (FrS [4] k2 d4) (.slice m6 v2.length n6) v2:=w2
  refine AV (hc:=fun w' ⟨O',hq⟩=>NR.stay a0 n1 hq (by decide) r1) rfl rfl rfl ?_
  refine AR rfl rfl rfl (AV (hc:=fun w' ⟨O',hq⟩=>Blk.cell (i:=0) ((h0.st hq (by decide)).1) rfl) rfl rfl rfl ?_)
  refine AR rfl rfl rfl (AV (hc:=fun w' ⟨O',hq⟩=>Blk.cell (i:=2) ((h0.st hq (by decide)).1) rfl) rfl rfl rfl ?_)
  refine AF rfl rfl rfl (GR rfl rfl rfl rfl ?_)
  refine AJ ?_
  refine AU (fuel:=4) [4,13] [(0,true),(1,true),(2,true)] (by kernel_rfl) rfl ?_
  refine AF rfl rfl rfl (AR rfl rfl rfl (AV (hc:=fun w' ⟨O',hq⟩=>Blk.cell (i:=0) ((h0.st hq (by decide)).1) rfl) rfl rfl rfl ?_))
  refine AJ ?_
  refine Bc (i:=14) (by kernel_rfl) rfl ?_
  refine Cl 7 (by decide) d4 (xs:=([(⟨g0.src,g0.dst,u1.cost⟩:Arc)]:List Arc)) rfl rfl rfl rfl ⟨(Vb.ofAgg (cs:=[(.int .i64 g0.src),(.int .i64 g0.dst),(.int .i64 u1.cost)]) (x:=(⟨g0.src,g0.dst,u1.cost⟩:Arc)) rfl ⟨rfl,f6,g6,k6⟩),trivial⟩ (by decide) (by decide) rfl fun cG a9 dG e0 f4=>?_
  have hZ:=e0.lst [] (fun _ h=>h.elim)
  replace r1:=NR.stay a0 n1 e0 id r1
  replace w2:=w2.stS e0 id (fun _ _=>id)
  refine Bt [(15,[4,13])] hZ (by kernel_rfl) ?_
  refine Bc (i:=15) (by kernel_rfl) rfl ?_
  replace a0:=a0.st e0
  obtain ⟨b9,j0,a0,g4⟩:=NR.take' a0 n1 e4 r1 13 (by decide) (by decide)
  replace g4:Rw 13 a9 b9 106 (.slice m6 v2.length n6) v2:=g4
  have hZ:=j0.lst [4] (fun _ h=>by cases h;decide)
  obtain ⟨d9,i4,c0⟩:=bs c0
  obtain ⟨i4,e9,f9⟩:=Ce i4
  replace f4:=f4.st j0
  refine Dd rfl g4 (f4.rd) rfl rfl (by decide) e9 f9 rfl fun eG fG gG hG k0 o6=>?_
  rw [← i4] at o6 ⊢
  replace hZ:=hZ.cmp k0 [4,13] (fun _ h=>by cases h;decide) rfl
  refine Bt [] hZ (by kernel_rfl) ?_
  refine AU (fuel:=1) [] [(16,true)] (by kernel_rfl) rfl ?_
  obtain ⟨g9,h9,c0⟩:=bs c0
  obtain ⟨i9,p6⟩:=AH h9
  replace a0:=a0.st k0
  obtain ⟨iG,jG,p3,q6⟩:=a0.at p6
  refine BC (hA:=p3) (hj:=(Int.toNat_of_nonneg i9).symm) (hlt:=q6) rfl rfl rfl rfl ?_
  refine AJ ?_
  refine Bc (i:=17) (by kernel_rfl) rfl ?_
  refine Nk (a:=g9) (off:=0) a0 o6 (by decide) p3 p6 rfl rfl rfl rfl (by decide) fun j4 x2 o0 k4=>?_
  replace k4:NR Arc 4 j4 x2 104 106 (.slice d0.1.1 y0.1.length d0.1.2) (g1.1.set (g0.src:Int).toNat d9) none:=k4
  refine Dx (by kernel_rfl) ?_
  refine BW (by kernel_rfl) ?_
  refine Bv [(15,[5,14])] x2 ?_
  refine AU (fuel:=7) [] [(3,true),(4,true),(5,true),(6,true),(7,true),(8,true),(9,true),(10,true),(11,true),(12,true),(13,true)] (by kernel_rfl) rfl ?_
  refine AF rfl rfl rfl (AR rfl rfl rfl ?_)
  replace h0:=(((h0.st e0).st j0).st k0).st o0
  refine AV (hc:=fun w' ⟨O',hq⟩=>Blk.cell (i:=2) ((h0.st hq (by decide)).1) rfl) rfl rfl rfl ?_
  obtain ⟨y2,j9,c0⟩:=bs c0
  obtain ⟨k9,l4⟩:=AH j9
  replace b0:=((((((b0.st y1).st z1).st a2).st e0).st j0).st k0).st o0
  obtain ⟨kG,lG,o1,r6⟩:=b0.at l4
  refine BC (hA:=o1) (hj:=(Int.toNat_of_nonneg k9).symm) (hlt:=r6) rfl rfl rfl rfl ?_
  obtain ⟨s6,t6,s1,z2⟩:=NR.peek b0 o1 l4
  replace z2:Vb j4 (FrS [5] j4 x2) (.slice s6 y2.length t6) y2:=z2
  refine AV (hc:=fun w' ⟨O',hq⟩=>NR.stay b0 o1 hq (by decide) s1) rfl rfl rfl ?_
  refine AR rfl rfl rfl (AV (hc:=fun w' ⟨O',hq⟩=>Blk.cell (i:=2) ((h0.st hq (by decide)).1) rfl) rfl rfl rfl ?_)
  refine AR rfl rfl rfl (AV (hc:=fun w' ⟨O',hq⟩=>Blk.cell (i:=0) ((h0.st hq (by decide)).1) rfl) rfl rfl rfl ?_)
  refine AF rfl rfl rfl (GR rfl rfl rfl rfl ?_)
  refine AJ ?_
  refine AU (fuel:=4) [5,14] [(0,true),(1,true),(2,true)] (by kernel_rfl) rfl ?_
  refine AF rfl rfl rfl (AR rfl rfl rfl (AV (hc:=fun w' ⟨O',hq⟩=>Blk.cell (i:=2) ((h0.st hq (by decide)).1) rfl) rfl rfl rfl ?_))
  refine AJ ?_
  refine Bc (i:=14) (by kernel_rfl) rfl ?_
  refine Cl 9 (by decide) x2 (xs:=([(⟨g0.dst,g0.src,u1.cost⟩:Arc)]:List Arc)) rfl rfl rfl rfl ⟨(Vb.ofAgg (cs:=[(.int .i64 g0.dst),(.int .i64 g0.src),(.int .i64 u1.cost)]) (x:=(⟨g0.dst,g0.src,u1.cost⟩:Arc)) rfl ⟨rfl,g6,f6,k6⟩),trivial⟩ (by decide) (by decide) rfl fun mG l9 nG f0 m4=>?_
  have hZ:=f0.lst [] (fun _ h=>h.elim)
  replace s1:=NR.stay b0 o1 f0 id s1
  replace z2:=z2.stS f0 id (fun _ _=>id)
  refine Bt [(15,[5,14])] hZ (by kernel_rfl) ?_
  refine Bc (i:=15) (by kernel_rfl) rfl ?_
  replace b0:=b0.st f0
  obtain ⟨m9,m0,b0,n4⟩:=NR.take' b0 o1 l4 s1 14 (by decide) (by decide)
  replace n4:Rw 14 l9 m9 106 (.slice s6 y2.length t6) y2:=n4
  have hZ:=m0.lst [5] (fun _ h=>by cases h;decide)
  obtain ⟨n9,o4,c0⟩:=bs c0
  obtain ⟨o4,o9,p9⟩:=Ce o4
  replace m4:=m4.st m0
  refine Dd rfl n4 (m4.rd) rfl rfl (by decide) o9 p9 rfl fun oG pG qG rG n0 u6=>?_
  rw [← o4] at u6 ⊢
  replace hZ:=hZ.cmp n0 [5,14] (fun _ h=>by cases h;decide) rfl
  refine Bt [] hZ (by kernel_rfl) ?_
  refine AU (fuel:=1) [] [(16,true)] (by kernel_rfl) rfl ?_
  obtain ⟨q9,r9,c0⟩:=bs c0
  obtain ⟨s9,w6⟩:=AH r9
  replace b0:=b0.st n0
  obtain ⟨sG,tG,q3,x6⟩:=b0.at w6
  refine BC (hA:=q3) (hj:=(Int.toNat_of_nonneg s9).symm) (hlt:=x6) rfl rfl rfl rfl ?_
  refine AJ ?_
  refine Bc (i:=17) (by kernel_rfl) rfl ?_
  refine Nk (a:=q9) (off:=0) b0 u6 (by decide) q3 w6 rfl rfl rfl rfl (by decide) fun t9 u9 s0 p4=>?_
  replace p4:NR Arc 5 t9 u9 104 106 (.slice d0.2.1 y0.2.length d0.2.2) (g1.2.set (g0.dst:Int).toNat n9) none:=p4
  refine Dx (by kernel_rfl) ?_
  refine BW (by kernel_rfl) ?_
  replace l2:=(((((((l2.st e0).st j0).st k0).st o0).st f0).st m0).st n0).st s0
  replace m2:=(((((((m2.st e0).st j0).st k0).st o0).st f0).st m0).st n0).st s0
  replace n2:=(((((((n2.st e0).st j0).st k0).st o0).st f0).st m0).st n0).st s0
  replace o2:=(((((((o2.st e0).st j0).st k0).st o0).st f0).st m0).st n0).st s0
  replace b2:=(((((((b2.st e0).st j0).st k0).st o0).st f0).st m0).st n0).st s0
  replace p2:=(((((((p2.st e0).st j0).st k0).st o0).st f0).st m0).st n0).st s0
  replace q2:=(((((((q2.st e0).st j0).st k0).st o0).st f0).st m0).st n0).st s0
  replace r2:=(((((((r2.st e0).st j0).st k0).st o0).st f0).st m0).st n0).st s0
  replace s2:=(((((((s2.st e0).st j0).st k0).st o0).st f0).st m0).st n0).st s0
  replace t2:=(((((((t2.st e0).st j0).st k0).st o0).st f0).st m0).st n0).st s0
  replace u2:=(((((((u2.st e0).st j0).st k0).st o0).st f0).st m0).st n0).st s0
  obtain ⟨uG,a3,mB,nB,v9⟩:=Spa.shut (x:=x0) (l0:=2) (l1:=3) (by decide) l2 m2 n2 o2 b2 p2 q2 r2 s2 t2 u2
  obtain rfl:=sm c0
  exact show Exists _ from ⟨_,(),rfl,⟨rfl,rfl,rfl,rfl,rfl,rfl,trivial⟩,_,(((((((((((hB.st y1).st z1).st a2).st e0).st j0).st k0).st o0).st f0).st m0).st n0).st s0).st a3,v9,((((k4.st f0).st m0).st n0).st s0).st a3,p4.st a3,(((((((((((a1.st y1).st z1).st a2).st e0).st j0).st k0).st o0).st f0).st m0).st n0).st s0).st a3⟩
 replace hB:=(hB.st i2).st x1
 rintro vG wG ⟨b3,xG,rfl,y6,yG,hB,m1,a0,b0⟩
 replace hm:=Bh hm
 refine AO _ y6 ?_
 refine Al (Aj (At rfl rfl (o_z ?_)))
 refine Al (Al (Aj (Am rfl rfl (BO rfl rfl ?_))))
 obtain ⟨zG,aH,bH,cH,dH,eH,fH,gH,hH,iH,jH,v1,oB,z6,a7,b7,c7,d7,e7,f7,w0,g7,i7,j7⟩:=Spa.opn m1 2 3 (by decide)
 obtain ⟨kH,lH,rfl⟩:=a7.form
 obtain ⟨mH,nH,rfl⟩:=b7.form
 obtain ⟨oH,pH,rfl⟩:=c7.form
 obtain ⟨qH,rH,rfl⟩:=d7.form
 obtain ⟨sH,rfl⟩:=e7.ptr
 obtain ⟨tH,uH,rfl⟩:=f7.form
 obtain ⟨k7,l7,rfl⟩:=w0.form
 obtain ⟨vH,wH,rfl⟩:=g7.form
 obtain ⟨xH,yH,rfl⟩:=i7.form
 obtain ⟨zH,aI,rfl⟩:=j7.form
 refine AG rfl rfl (AD (hc:=Blk.cell (i:=6) (z6.1) rfl) rfl rfl ?_)
 refine AQ rfl rfl ?_
 have q4:x0.goals.length≤9223372036854775807:=Nat.le_trans w0.len.2.1 w0.len.2.2
 have bI:inI64 (x0.goals.length:Int):=rngNat q4
 refine Am rfl rfl (o_z ?_)
 obtain ⟨w9,p1,pB,qB,h1⟩:=Spa.shut (x:=x0) (l0:=2) (l1:=3) (by decide) z6 a7 b7 c7 d7 e7 f7 w0 g7 i7 j7
 obtain ⟨r4,m7,hm⟩:=bs hm
 refine AM (aft r4 (fun (i1:(List Int)) (t0:(Option Addr×Nat))=>[(0,(.pointer (some ⟨p0,0,none⟩))),(3,(.slice d0.1.1 y0.1.length d0.1.2)),(4,(.slice d0.2.1 y0.2.length d0.2.2)),(8,(.slice t0.1 i1.length t0.2))]) (fun i1 t0 w'=>∃ O':Lab,Bm w O0 w' O'∧Ob 2 w' O' (.pointer (some ⟨p0,0,none⟩)) x0∧NR Arc 4 w' O' 104 106 (.slice d0.1.1 y0.1.length d0.1.2) b3.1 none∧NR Arc 5 w' O' 104 106 (.slice d0.2.1 y0.2.length d0.2.2) b3.2 none∧Rw 15 w' O' 3 (.slice t0.1 i1.length t0.2) i1)) ?_ ?_
 ·
  refine AP ?_
  replace hB:=(hB.st v1).st p1
  replace a0:=(a0.st v1).st p1
  replace b0:=(b0.st v1).st p1
  replace w0:=w0.st p1
  refine Ca (σ:=(List Int)) (X:=(Option Addr×Nat)) (x0.goals.length) m7 rfl q4 (fun (i1:(List Int)) (t0:(Option Addr×Nat))=>[(0,(.pointer (some ⟨p0,0,none⟩))),(3,(.slice d0.1.1 y0.1.length d0.1.2)),(4,(.slice d0.2.1 y0.2.length d0.2.2)),(8,(.slice t0.1 i1.length t0.2)),(77,(.slice k7 x0.goals.length l7))]) _ (fun i1 t0 w'=>∃ O':Lab,Bm w O0 w' O'∧Ob 2 w' O' (.pointer (some ⟨p0,0,none⟩)) x0∧NR Arc 4 w' O' 104 106 (.slice d0.1.1 y0.1.length d0.1.2) b3.1 none∧NR Arc 5 w' O' 104 106 (.slice d0.2.1 y0.2.length d0.2.2) b3.2 none∧Rw 15 w' O' 3 (.slice t0.1 i1.length t0.2) i1∧Vb w' (Fr 0 w' O') (.slice k7 x0.goals.length l7) x0.goals) _ (none,0) ⟨w9,hB,h1,a0,b0,(Rw.nil 15 (by decide)),w0⟩ ⟨rfl,rfl,rfl,rfl,rfl,rfl,rfl,trivial⟩ (fun _ _=>⟨rfl,rfl⟩) (fun _ _=>⟨rfl,rfl,rfl,rfl,trivial⟩) (fun _ _ _ ⟨O',hB,h1,a0,b0,j1,w0⟩=>⟨O',hB,h1,a0,b0,j1⟩) ⟨rfl,rfl,rfl⟩ ⟨rfl,rfl⟩ ?_
  rintro n7 cI i1 t0 dI rB r3 ⟨eI,hB,h1,a0,b0,j1,w0⟩ v0 a8 b8
  have rk446:inI64 (n7:Int):=rngK r3 q4
  refine Al (Aj (Am rfl rfl ?_))
  obtain ⟨fI,gI,sB,o7,p7,q7,rfl⟩:=w0.elem' r3
  refine Br (hA:=o7) (hj:=rfl) (hlt:=p7) rfl rfl rfl ?_
  refine AD (hc:=cat0 q7) rfl rfl ?_
  refine At rfl rfl (At rfl rfl (o_z ?_))
  refine Al (Aj (Am rfl rfl (o_z ?_)))
  refine Cs rfl (fun s4=>?_) (fun s4=>?_)
  ·
   replace v0:=ip v0 s4
   refine Aj (Am rfl rfl (Am rfl rfl ?_))
   obtain ⟨hI,t4,v0⟩:=bs v0
   obtain ⟨t4,x9,y9⟩:=Ce t4
   refine DS rfl (a:=(n7:Int)) j1 (vInt rk446) (fun _=>rfl) rfl (by decide) (by decide) x9 y9 ⟨rfl,rfl⟩ fun iI z9 aA jI kI c2 r7=>?_
   rw [← t4] at r7 ⊢
   refine At rfl rfl (o_z ?_)
   obtain rfl:=sm v0
   exact show Exists _ from ⟨_,(z9,aA),rfl,⟨rfl,rfl,rfl,rfl,rfl,rfl,rfl,trivial⟩,_,hB.st c2,h1.st c2,a0.st c2,b0.st c2,r7,w0.st c2⟩
  replace v0:=im' v0 s4
  refine AK ?_
  obtain rfl:=sm v0
  exact show Exists _ from ⟨_,(t0.1,t0.2),rfl,⟨rfl,rfl,rfl,rfl,rfl,rfl,rfl,trivial⟩,_,hB,h1,a0,b0,j1,w0⟩
 replace hB:=(hB.st v1).st p1
 replace a0:=(a0.st v1).st p1
 replace b0:=(b0.st v1).st p1
 rintro lI mI ⟨nI,oI,rfl,s7,bA,hB,h1,a0,b0,j1⟩
 replace hm:=Bh hm
 refine AO _ s7 ?_
 refine Al (Aj (Am rfl rfl (Am rfl rfl (Cl 16 (by decide) bA (xs:=(([0]:List Int):List Int)) rfl rfl rfl rfl ⟨(vInt (show inI64 (0) from by decide)),trivial⟩ (by decide) (by decide) rfl fun pI qI rI d2 e2=>?_))))
 replace a0:=a0.st d2
 obtain ⟨sI,f2,a0⟩:=a0.freeze
 replace e2:=e2.st f2
 obtain ⟨cA,g2,e2⟩:=e2.freeze
 obtain ⟨h2,dA,hm⟩:=bs hm
 replace a0:=a0.st g2
 refine Eg (O:=cA) (R:=fun w' F v=>T2 w' F v h2) (FW Fr.lt a0 e2 dA) rfl rfl fun tI uI vI c3 eA=>?_
 obtain ⟨wI,xI,rfl,d3,fA⟩:=eA
 obtain ⟨u4,v4,rfl⟩:=d3.form
 obtain ⟨yI,zI,rfl⟩:=fA.form
 refine Am rfl rfl (Bn rfl rfl rfl (Bn rfl rfl rfl (BO rfl rfl ?_)))
 replace h1:=(((h1.st d2).st f2).st g2).st c3
 obtain ⟨gA,aJ,bJ,cJ,dJ,eJ,fJ,gJ,hJ,iJ,jJ,e3,tB,q0,f3,g3,h3,i3,j3,k3,l3,iA,jA,kA⟩:=Spa.opn h1 2 3 (by decide)
 obtain ⟨w4,x4,rfl⟩:=f3.form
 obtain ⟨y4,z4,rfl⟩:=g3.form
 obtain ⟨a5,b5,rfl⟩:=h3.form
 obtain ⟨c5,d5,rfl⟩:=i3.form
 obtain ⟨e5,rfl⟩:=j3.ptr
 obtain ⟨f5,g5,rfl⟩:=k3.form
 obtain ⟨h5,i5,rfl⟩:=l3.form
 obtain ⟨kJ,lJ,rfl⟩:=iA.form
 obtain ⟨lA,mA,rfl⟩:=jA.form
 obtain ⟨t7,u7,rfl⟩:=kA.form
 refine AG rfl rfl (Bu q0 rfl rfl rfl (Ci rfl) (allOne rfl) fun nA b1 q0=>?_)
 replace q0:Lc 2 nA gA p0 87 [(.slice w4 x0.t.vars.length x4),(.slice y4 x0.t.init.length z4),(.slice a5 x0.t.goal.length b5),(.slice c5 x0.t.ops.length d5),(.pointer (some ⟨e5,0,none⟩)),(.slice f5 x0.edges.length g5),(.slice h5 x0.goals.length i5),(.slice u4 h2.1.length v4),(.slice lA x0.distances.length mA),(.slice t7 x0.steps.length u7)]:=q0
 refine o_z ?_
 refine Aj (Am rfl rfl (Am rfl rfl (Am rfl rfl (Am rfl rfl ?_))))
 replace b0:=(((((b0.st d2).st f2).st g2).st c3).st e3).st b1
 obtain ⟨mJ,c1,b0⟩:=b0.freeze
 replace j1:=((((((j1.st d2).st f2).st g2).st c3).st e3).st b1).st c1
 obtain ⟨oA,d1,j1⟩:=j1.freeze
 obtain ⟨w1,pA,hm⟩:=bs hm
 replace b0:=b0.st d1
 refine Eg (O:=oA) (R:=fun w' F v=>T2 w' F v w1) (FW Fr.lt b0 j1 pA) rfl rfl fun nJ oJ v7 k1 qA=>?_
 obtain ⟨pJ,qJ,rfl,m3,n3⟩:=qA
 obtain ⟨w7,x7,rfl⟩:=m3.form
 obtain ⟨rA,sA,rfl⟩:=n3.form
 refine Am rfl rfl (Bn rfl rfl rfl (Bn rfl rfl rfl (BO rfl rfl (AG rfl rfl ?_))))
 replace q0:=((q0.st c1).st d1).st k1
 refine Bu q0 rfl rfl rfl (Ci rfl) (allOne rfl) fun tA e1 q0=>?_
 replace q0:Lc 2 tA v7 p0 87 [(.slice w4 x0.t.vars.length x4),(.slice y4 x0.t.init.length z4),(.slice a5 x0.t.goal.length b5),(.slice c5 x0.t.ops.length d5),(.pointer (some ⟨e5,0,none⟩)),(.slice f5 x0.edges.length g5),(.slice h5 x0.goals.length i5),(.slice u4 h2.1.length v4),(.slice w7 w1.1.length x7),(.slice t7 x0.steps.length u7)]:=q0
 refine BO rfl rfl (AG rfl rfl (Bu q0 rfl rfl rfl (Ci rfl) (allOne rfl) fun uA f1 q0=>?_))
 replace q0:Lc 2 uA v7 p0 87 [(.slice w4 x0.t.vars.length x4),(.slice y4 x0.t.init.length z4),(.slice a5 x0.t.goal.length b5),(.slice c5 x0.t.ops.length d5),(.pointer (some ⟨e5,0,none⟩)),(.slice f5 x0.edges.length g5),(.slice h5 x0.goals.length i5),(.slice u4 h2.1.length v4),(.slice w7 w1.1.length x7),(.slice rA w1.2.length sA)]:=q0
 refine o_z ?_
 replace d3:=((((((d3.st e3).st b1).st c1).st d1).st k1).st e1).st f1
 replace f3:=(((((f3.st b1).st c1).st d1).st k1).st e1).st f1
 replace g3:=(((((g3.st b1).st c1).st d1).st k1).st e1).st f1
 replace h3:=(((((h3.st b1).st c1).st d1).st k1).st e1).st f1
 replace i3:=(((((i3.st b1).st c1).st d1).st k1).st e1).st f1
 replace j3:=(((((j3.st b1).st c1).st d1).st k1).st e1).st f1
 replace k3:=(((((k3.st b1).st c1).st d1).st k1).st e1).st f1
 replace l3:=(((((l3.st b1).st c1).st d1).st k1).st e1).st f1
 replace m3:=(m3.st e1).st f1
 replace n3:=(n3.st e1).st f1
 obtain ⟨rJ,vA,uB,vB,wA⟩:=Spa.shut (x:=(⟨(⟨x0.t.vars,x0.t.init,x0.t.goal,x0.t.ops⟩:Tsk),x0.states,x0.edges,x0.goals,h2.1,w1.1,w1.2⟩:Spa)) (l0:=2) (l1:=3) (by decide) q0 f3 g3 h3 i3 j3 k3 l3 d3 m3 n3
 obtain rfl:=sm hm
 replace hB:=(((((((((((hB.st d2).st f2).st g2).st c3).st e3).st b1).st c1).st d1).st k1).st e1).st f1).st vA
 obtain ⟨O',hS',hz,hl⟩:=hE.leave (fun q=>if q=2 then i0 else 0) rfl hB
 exact ret0n rfl  ⟨O',hS',(Ob.leave wA hz (hl 2 (by decide) (by decide)) k5.2)⟩
noncomputable def Dn (x0:Spa):Option Int :=
  bnd (Be x0.states) fun q45=>some q45
theorem HR {w:World} {O:Lab} {p0 i0:Nat} {x0:Spa} (b0:Ob i0 w O (.pointer (some ⟨p0,0,none⟩)) x0) {r:Int} (hm:Dn x0=some r) :
    Fn Tryz.prog 21 [(.pointer (some ⟨p0,0,none⟩))] w fun v w'=>∃ O',St (eT i0) w O w' O'∧Ob i0 w' O' (.pointer (some ⟨p0,0,none⟩)) x0∧Vb w' (Fr 0 w' O') v r:=by
 obtain ⟨O0,hE,n0,o0⟩:=ent1 (w:=w) (O:=O) b0.2
 have b0':=Ob.leave b0 n0 o0 (j:=2) (by decide)
 have hB:Bm w O0 w O0:=Bm.refl
 refine AI Tryz.func21 rfl Tryz.ntmps21 rfl ?_
 unfold Dn at hm
 refine Al (Aj (At rfl rfl (o_z ?_)))
 refine Al (Al (Aj (Am rfl rfl (EY rfl rfl ?_))))
 refine o_z ?_
 refine Ae rfl (AK (Al (Aj (Am rfl rfl (BO rfl rfl ?_)))))
 obtain ⟨O2,v6,a1,b1,c1,d1,e1,f1,g1,h1,i1,S3,j1,h4,h7,c0,d0,e0,m0,f0,g0,h0,j0,k0⟩:=Spa.opn b0' 2 3 (by decide)
 obtain ⟨A8,c9,rfl⟩:=h7.form
 obtain ⟨k1,m1,rfl⟩:=c0.form
 obtain ⟨n1,o1,rfl⟩:=d0.form
 obtain ⟨p1,q1,rfl⟩:=e0.form
 obtain ⟨r1,rfl⟩:=m0.ptr
 obtain ⟨s1,t1,rfl⟩:=f0.form
 obtain ⟨u1,v1,rfl⟩:=g0.form
 obtain ⟨w1,x1,rfl⟩:=h0.form
 obtain ⟨y1,z1,rfl⟩:=j0.form
 obtain ⟨a2,b2,rfl⟩:=k0.form
 refine AG rfl rfl (AD (hc:=Blk.cell (i:=4) (h4.1) rfl) rfl rfl ?_)
 obtain ⟨c2,q0,hm⟩:=bs hm
 refine BV (O:=O2) (DK m0 q0) rfl rfl fun d2 e2 f2 a0 r0=>?_
 obtain ⟨s0,t0⟩:=r0
 obtain ⟨rfl,u0⟩:=t0.int
 refine At rfl rfl (o_z ?_)
 refine AL ?_
 replace h4:=h4.st a0
 replace h7:=h7.st a0
 replace c0:=c0.st a0
 replace d0:=d0.st a0
 replace e0:=e0.st a0
 replace f0:=f0.st a0
 replace g0:=g0.st a0
 replace h0:=h0.st a0
 replace j0:=j0.st a0
 replace k0:=k0.st a0
 obtain ⟨g2,v0,w0,y0,z0⟩:=Spa.shut (x:=x0) (l0:=2) (l1:=3) (by decide) h4 h7 c0 d0 e0 s0 f0 g0 h0 j0 k0
 obtain rfl:=sm hm
 replace hB:=((hB.st S3).st a0).st v0
 obtain ⟨O',hS',hz,hl⟩:=hE.leave (fun q=>if q=2 then i0 else 0) rfl hB
 exact ret1v rfl (AA rfl) ⟨O',hS',(Ob.leave z0 hz (hl 2 (by decide) (by decide)) b0.2),(vInt u0)⟩
end
section
open Go Go.RowKit
theorem Ip {P:Program} {t:TypeId} [h:TIface P t] (s:TypeId) (v:Value) (w:World):(Op.equal t .nilIface (.iface s v)).run P w=.ok false w:=by
  obtain ⟨ms,hm⟩:=h.eq
  have hd:∀ d:Nat,(Op.equalIn (d + 1) t .nilIface (.iface s v)).run P w=.ok false w:=fun d=>by
    simp [Op.equalIn,run_underlying hm]
  exact hd 9999
theorem Qm {P:Program} {l:Env} {w:World} {dst:Option Tmp} {ty:TypeId} {pos:String} {aft:Array Edge} {t u:TypeId} [TIface P t] {x y:Operand} {s:TypeId} {v:Value} (hx:opv l x=some .nilIface) (hy:opv l y=some (.iface s v)):Ev P ⟨dst,.binOp .eql t x y u,ty,pos,aft,none⟩ l w (.bool false):=fun _ a d ha=>by
  simp [execOp,ha.eval hx,ha.eval hy,eqGuard,binOp,Ip (P:=P) (t:=t)]
section
attribute [local irreducible] ewp owp hwp hwq hws Ev Evg Fn retPost loud loudS Res1
attribute [local irreducible] hwx loudX
theorem LJ {w:World} {A:Nat→Prop} (hA:∀ k,A k→k < w.heap.size) {x0:Err} (rx0:inI64 x0.n) {x1:Err} (rx1:inI64 x1.n) {r:Bool} (hm:Eb x0 x1=some r) :
    Fn Tryz.prog 50 [(errV x0.n),(errV x1.n)] w fun v w'=>Ext w w'∧Vb w' (upA A w w') v r:=by
  obtain ⟨⟨e0,e1⟩,rfl⟩:=Fh hm
  obtain ⟨O,hB,a0⟩:=enter hA
  refine AI Tryz.func50 rfl Tryz.ntmps50 rfl ?_
  rw [e0,Fo,FJ e1]
  refine Al (Aj (At rfl rfl (o_z ?_)))
  refine Al (Al (Aj (Am rfl rfl (NG rfl rfl ?_))))
  refine Am rfl rfl (Ay rfl rfl rfl rfl (Ay rfl rfl rfl rfl (Bo rfl rfl rfl (o_z ?_))))
  refine Ah rfl (Al (Aj (Am rfl rfl (Am rfl rfl (AY (Qm rfl rfl) rfl (At rfl rfl (o_z ?_)))))))
  refine AL ?_
  exact ret1v rfl (AA rfl) ⟨hB.ext,vBool⟩
end
end
section
open Go Go.RowKit
attribute [local irreducible] ewp owp hwp hwq hws Ev Evg Fn retPost loud loudS Res1
attribute [local irreducible] hwx loudX
noncomputable def Cj (x0:Tsk) (x1:Int):Option ((Option Spa)×Err) :=
  bnd (DN x0) fun q25=>if q25.2.n≠0 then (some (none,(⟨q25.2.n⟩:Err))) else (bnd (CY x0.vars) fun q40=>if q40.2.n≠0 then (some (none,(⟨q40.2.n⟩:Err))) else (if (max 0 (min x1 65536)) < 1 then (some (none,(⟨10⟩:Err))) else (bnd q40.1 fun o54=>bnd (Bi o54 x0.init) fun q57=>if q57.2.2.1.n≠0 then (some (none,(⟨q57.2.2.1.n⟩:Err))) else (bnd (CE x0) fun q74=>bnd (lop (ρ:=(Option Spa)×Err) (fun (s105:Int×(List Edj)×(List Bool)×Reg)=>bnd (Be s105.2.2.2) fun q130=>if s105.1 < q130 then (bnd (BD s105.2.2.2 s105.1) fun q141=>if q141.2.n≠0 then (some (.ret (none,(⟨q141.2.n⟩:Err)))) else (bnd (bnd (Dg x0.goal q141.1) fun q163=>if q163=true then bnd (appI 1 s105.2.2.1 [true]) fun u195=>some u195 else bnd (appI 1 s105.2.2.1 [false]) fun u176=>some u176:Option (List Bool)) fun y157=>bnd (Bk q25.1 q141.1) fun q212=>bnd (rng (ρ:=Ctl (Int×(List Edj)×(List Bool)×Reg) ((Option Spa)×Err)) (fun (k227:Nat) (a228:Suc) (s225:(List Edj)×Reg)=>bnd (Bi s225.2 a228.state) fun q263=>bnd (bnd (Eb (⟨q263.2.2.1.n⟩:Err) (⟨10⟩:Err)) fun q283=>if q283=true then some true else if q263.2.1=true then (if (max 0 (min x1 65536))≤q263.1 then (some true) else (some false)) else (some false):Option Bool) fun y279=>if y279=true then (some (.ret (.ret (none,(⟨10⟩:Err))))) else (if q263.2.2.1.n≠0 then (some (.ret (.ret (none,(⟨q263.2.2.1.n⟩:Err))))) else (bnd (appI 24 s225.1 [(⟨s105.1,a228.op,q263.1⟩:Edj)]) fun u304=>some (.next (u304,q263.2.2.2))))) q212 0 (s105.2.1,s105.2.2.2)) fun res223=>fin res223 fun (s321:(List Edj)×Reg)=>bnd (chkI (s105.1 + 1)) fun n323=>some (.next (n323,s321.1,y157,s321.2)))) else (some (.brk (s105.1,s105.2.1,s105.2.2.1,s105.2.2.2)))) (0,([]:List Edj),([]:List Bool),q57.2.2.2)) fun res103=>fin res103 fun (s330:Int×(List Edj)×(List Bool)×Reg)=>bnd (BN (⟨(⟨q74.vars,q74.init,q74.goal,q74.ops⟩:Tsk),s330.2.2.2,s330.2.1,s330.2.2.1,([]:List Int),([]:List Int),([]:List Int)⟩:Spa)) fun q341=>some ((some q341),(⟨0⟩:Err))))))
theorem Gc {w:World} {O:Lab} {vx0:Value} {x0:Tsk} (r5:Vb w (Fr 0 w O) vx0 x0) {x1:Int} (rx1:inI64 x1) (j0:Nat) (hj0:j0≠0) {r:(Option Spa)×Err} (hm:Cj x0 x1=some r) :
    Fn Tryz.prog 12 [vx0,(.int .i64 x1)] w fun v w'=>∃ O',St nT w O w' O'∧∃ v0 v1:Value,v=.tuple #[v0,v1]∧Obo j0 w' O' v0 r.1∧Vb w' (Fr 0 w' O') v1 r.2:=by
 obtain ⟨O0,hE,k8⟩:=ent0 (w:=w) (O:=O)
 have hB:Bm w O0 w O0:=Bm.refl
 replace r5:=r5.mono k8
 obtain ⟨qB,rfl,v4,v5,v6,v7,rfl,h8,u0,w0,h1⟩:=r5
 obtain ⟨A9,t2,rfl⟩:=h8.form
 obtain ⟨u2,v2,rfl⟩:=u0.form
 obtain ⟨w2,x2,rfl⟩:=w0.form
 obtain ⟨y2,z2,rfl⟩:=h1.form
 refine AI Tryz.func12 rfl Tryz.ntmps12 rfl ?_
 unfold Cj at hm
 refine Al (Aj (DR 2 O0 rfl rfl fun d3 l8 d8 i3 s0=>?_))
 replace s0:Lc 2 l8 d8 d3 26 [(.slice A9 x0.vars.length t2),(.slice u2 x0.init.length v2),(.slice w2 x0.goal.length x2),(.slice y2 x0.ops.length z2)]:=s0
 refine At rfl rfl (At rfl rfl (o_z ?_))
 refine Al (Aj (BB (hl:=rfl) (hc:=(s0.1).cellsAt) rfl rfl ?_))
 obtain ⟨j4,m8,hm⟩:=bs hm
 replace h8:=h8.st i3
 replace u0:=u0.st i3
 replace w0:=w0.st i3
 replace h1:=h1.st i3
 refine Eg (O:=d8) (R:=fun w' F v=>T2 w' F v j4) (Ky Fr.lt (Vb.ofAgg (cs:=[(.slice A9 x0.vars.length t2),(.slice u2 x0.init.length v2),(.slice w2 x0.goal.length x2),(.slice y2 x0.ops.length z2)]) (x:=x0) rfl ⟨_,_,_,_,rfl,h8,u0,w0,h1⟩) m8) rfl rfl fun rB sB n8 e3 o8=>?_
 obtain ⟨tB,uB,rfl,t1,p8⟩:=o8
 obtain ⟨j3,rfl,q8⟩:=t1.ptr
 obtain ⟨rfl,r8⟩:=p8.err
 refine Am rfl rfl (Bn rfl rfl rfl (Bn rfl rfl rfl (At rfl rfl (At rfl rfl (o_z ?_)))))
 refine Al (Al (Aj (Am rfl rfl (ET rfl rfl (fun s5=>?_) fun s5=>?_))))
 ·
  replace hm:=ip hm s5
  refine o_z ?_
  refine Ah rfl (Al (Aj (Am rfl rfl (At rfl rfl (At rfl rfl (o_z ?_))))))
  refine AL ?_
  obtain rfl:=sm hm
  replace hB:=(hB.st i3).st e3
  obtain ⟨O',hS',hz,hl⟩:=hE.leave (fun _=>0) rfl hB
  exact ret2 rfl (AA rfl) (AA rfl) ⟨O',hS',_,_,rfl,rfl,(vErr r8)⟩
 replace hm:=im hm s5
 refine o_z ?_
 refine Ae rfl (AK (Al (Aj (Am rfl rfl (Mo rfl rfl rfl ?_)))))
 refine Mp rfl rfl rfl ?_
 refine At rfl rfl (o_z ?_)
 refine Al (Aj (AG rfl rfl ?_))
 replace s0:=s0.st e3
 refine AD (hc:=Blk.cell (i:=0) (s0.1) rfl) rfl rfl ?_
 obtain ⟨vB,s8,hm⟩:=bs hm
 replace h8:=h8.st e3
 refine BV (O:=n8) (JV h8 3 (by decide) s8) rfl rfl fun wB xB t8 f3 u8=>?_
 obtain ⟨yB,zB,rfl,t5,v8⟩:=u8
 obtain ⟨rfl,w8⟩:=v8.err
 refine Am rfl rfl (Bn rfl rfl rfl (Bn rfl rfl rfl (At rfl rfl (At rfl rfl (o_z ?_)))))
 refine Al (Al (Aj (Am rfl rfl (ET rfl rfl (fun u5=>?_) fun u5=>?_))))
 ·
  replace hm:=ip hm u5
  refine o_z ?_
  refine Ah rfl (Al (Aj (Am rfl rfl (At rfl rfl (At rfl rfl (o_z ?_))))))
  refine AL ?_
  obtain rfl:=sm hm
  replace hB:=((hB.st i3).st e3).st f3
  obtain ⟨O',hS',hz,hl⟩:=hE.leave (fun _=>0) rfl hB
  exact ret2 rfl (AA rfl) (AA rfl) ⟨O',hS',_,_,rfl,rfl,(vErr w8)⟩
 replace hm:=im hm u5
 refine o_z ?_
 refine Ae rfl (AK (Al (Al (Aj (Am rfl rfl (CU rfl rfl rfl (fun w5=>?_) fun w5=>?_))))))
 ·
  replace hm:=ip hm w5
  refine o_z ?_
  refine Ah rfl (Al (Aj (DT rfl rfl ?_)))
  refine At rfl rfl (At rfl rfl (o_z ?_))
  refine AL ?_
  obtain rfl:=sm hm
  replace hB:=((hB.st i3).st e3).st f3
  obtain ⟨O',hS',hz,hl⟩:=hE.leave (fun _=>0) rfl hB
  exact ret2 rfl (AA rfl) (AA rfl) ⟨O',hS',_,_,rfl,rfl,(vErr (by decide))⟩
 replace hm:=im hm w5
 refine o_z ?_
 refine Ae rfl (AK (Al (Al (Aj (Am rfl rfl (AG rfl rfl ?_))))))
 replace s0:=s0.st f3
 refine AD (hc:=Blk.cell (i:=1) (s0.1) rfl) rfl rfl ?_
 obtain ⟨aC,x8,hm⟩:=bs hm
 rw [x8] at t5
 obtain ⟨c2,rfl⟩:=Ob.ptr t5
 obtain ⟨bC,y8,hm⟩:=bs hm
 replace u0:=(u0.st e3).st f3
 refine BV (O:=t8) (EV t5 u0 y8) rfl rfl fun cC dC z8 k3 a9=>?_
 obtain ⟨eC,fC,gC,x5,rfl,b9,c9,d9⟩:=a9
 obtain ⟨rfl,hC⟩:=b9.int
 obtain rfl:=c9.bool
 obtain ⟨rfl,e9⟩:=d9.err
 refine Am rfl rfl (Bn rfl rfl rfl (Bn rfl rfl rfl (Bn rfl rfl rfl (At rfl rfl (At rfl rfl (At rfl rfl (o_z ?_)))))))
 refine Al (Aj (Am rfl rfl (ET rfl rfl (fun y5=>?_) fun y5=>?_)))
 ·
  replace hm:=ip hm y5
  refine o_z ?_
  refine Ah rfl (Al (Aj (Am rfl rfl (At rfl rfl (At rfl rfl (o_z ?_))))))
  refine AL ?_
  obtain rfl:=sm hm
  replace hB:=(((hB.st i3).st e3).st f3).st k3
  obtain ⟨O',hS',hz,hl⟩:=hE.leave (fun _=>0) rfl hB
  exact ret2 rfl (AA rfl) (AA rfl) ⟨O',hS',_,_,rfl,rfl,(vErr e9)⟩
 replace hm:=im hm y5
 refine o_z ?_
 refine Ae rfl (AK (Al (Aj ?_)))
 replace s0:=s0.st k3
 refine BB (hl:=rfl) (hc:=(s0.1).cellsAt) rfl rfl ?_
 obtain ⟨g0,f9,hm⟩:=bs hm
 replace h8:=(h8.st f3).st k3
 replace u0:=u0.st k3
 replace w0:=((w0.st e3).st f3).st k3
 replace h1:=((h1.st e3).st f3).st k3
 refine Eg (O:=z8) (R:=fun w' F v=>Vb w' F v g0) (Jn Fr.lt (Vb.ofAgg (cs:=[(.slice A9 x0.vars.length t2),(.slice u2 x0.init.length v2),(.slice w2 x0.goal.length x2),(.slice y2 x0.ops.length z2)]) (x:=x0) rfl ⟨_,_,_,_,rfl,h8,u0,w0,h1⟩) f9) rfl rfl fun iC jC g9 l3 h9=>?_
 obtain ⟨i9,rfl,kC,lC,mC,nC,rfl,z0,a1,b1,c1⟩:=h9
 obtain ⟨h2,i2,rfl⟩:=z0.form
 obtain ⟨j2,k2,rfl⟩:=a1.form
 obtain ⟨l2,m2,rfl⟩:=b1.form
 obtain ⟨n2,o2,rfl⟩:=c1.form
 refine Am rfl rfl (ED rfl rfl rfl ?_)
 refine DR 4 g9 rfl rfl fun p2 j9 k4 d1 e0=>?_
 replace e0:Lc 4 j9 k4 p2 87 [(.slice h2 g0.vars.length i2),(.slice j2 g0.init.length k2),(.slice l2 g0.goal.length m2),(.slice n2 g0.ops.length o2),(.pointer (some ⟨c2,0,none⟩)),(.slice none 0 0),(.slice none 0 0),(.slice none 0 0),(.slice none 0 0),(.slice none 0 0)]:=e0
 refine At rfl rfl (o_z ?_)
 refine Al (Al (Aj (At rfl rfl (o_z ?_))))
 obtain ⟨s3,l4,hm⟩:=bs hm
 refine AM (aft s3 (fun (k0:Int×(List Edj)×(List Bool)×Reg) (m0:(Option Addr×Nat)×(Option Addr×Nat))=>[(12,(.pointer (some ⟨p2,0,none⟩)))]) (fun k0 m0 w'=>∃ O':Lab,Bm w O0 w' O'∧Lc 4 w' O' p2 87 [(.slice h2 g0.vars.length i2),(.slice j2 g0.init.length k2),(.slice l2 g0.goal.length m2),(.slice n2 g0.ops.length o2),(.pointer (some ⟨c2,0,none⟩)),(.slice m0.1.1 k0.2.1.length m0.1.2),(.slice m0.2.1 k0.2.2.1.length m0.2.2),(.slice none 0 0),(.slice none 0 0),(.slice none 0 0)]∧Vb w' (Fr 0 w' O') (.slice h2 g0.vars.length i2) g0.vars∧Vb w' (Fr 0 w' O') (.slice j2 g0.init.length k2) g0.init∧Vb w' (Fr 0 w' O') (.slice l2 g0.goal.length m2) g0.goal∧Vb w' (Fr 0 w' O') (.slice n2 g0.ops.length o2) g0.ops∧Ob 3 w' O' (.pointer (some ⟨c2,0,none⟩)) k0.2.2.2∧Rw 9 w' O' 94 (.slice m0.1.1 k0.2.1.length m0.1.2) k0.2.1∧Rw 6 w' O' 4 (.slice m0.2.1 k0.2.2.1.length m0.2.2) k0.2.2.1∧inI64 k0.1)) ?_ ?_
 ·
  refine AP ?_
  replace hB:=(((((hB.st i3).st e3).st f3).st k3).st l3).st d1
  replace h8:=(h8.st l3).st d1
  replace u0:=(u0.st l3).st d1
  replace w0:=(w0.st l3).st d1
  replace h1:=(h1.st l3).st d1
  replace s0:=(s0.st l3).st d1
  replace t1:=(((t1.st f3).st k3).st l3).st d1
  replace x5:=(x5.st l3).st d1
  replace z0:=z0.st d1
  replace a1:=a1.st d1
  replace b1:=b1.st d1
  replace c1:=c1.st d1
  refine Eu (σ:=Int×(List Edj)×(List Bool)×Reg) (X:=(Option Addr×Nat)×(Option Addr×Nat)) l4 (fun (k0:Int×(List Edj)×(List Bool)×Reg) (m0:(Option Addr×Nat)×(Option Addr×Nat))=>[(1,(.int .i64 (max 0 (min x1 65536)))),(2,(.pointer (some ⟨d3,0,none⟩))),(6,(.pointer j3)),(8,(.pointer (some ⟨c2,0,none⟩))),(12,(.pointer (some ⟨p2,0,none⟩))),(13,(.int .i64 k0.1))]) _ (fun k0 m0 w'=>∃ O':Lab,Bm w O0 w' O'∧Lc 2 w' O' d3 26 [(.slice A9 x0.vars.length t2),(.slice u2 x0.init.length v2),(.slice w2 x0.goal.length x2),(.slice y2 x0.ops.length z2)]∧Vb w' (Fr 0 w' O') (.slice A9 x0.vars.length t2) x0.vars∧Vb w' (Fr 0 w' O') (.slice u2 x0.init.length v2) x0.init∧Vb w' (Fr 0 w' O') (.slice w2 x0.goal.length x2) x0.goal∧Vb w' (Fr 0 w' O') (.slice y2 x0.ops.length z2) x0.ops∧Vb w' (Fr 0 w' O') (.pointer j3) j4.1∧Ob 3 w' O' (.pointer (some ⟨c2,0,none⟩)) k0.2.2.2∧Lc 4 w' O' p2 87 [(.slice h2 g0.vars.length i2),(.slice j2 g0.init.length k2),(.slice l2 g0.goal.length m2),(.slice n2 g0.ops.length o2),(.pointer (some ⟨c2,0,none⟩)),(.slice m0.1.1 k0.2.1.length m0.1.2),(.slice m0.2.1 k0.2.2.1.length m0.2.2),(.slice none 0 0),(.slice none 0 0),(.slice none 0 0)]∧Vb w' (Fr 0 w' O') (.slice h2 g0.vars.length i2) g0.vars∧Vb w' (Fr 0 w' O') (.slice j2 g0.init.length k2) g0.init∧Vb w' (Fr 0 w' O') (.slice l2 g0.goal.length m2) g0.goal∧Vb w' (Fr 0 w' O') (.slice n2 g0.ops.length o2) g0.ops∧Rw 9 w' O' 94 (.slice m0.1.1 k0.2.1.length m0.1.2) k0.2.1∧Rw 6 w' O' 4 (.slice m0.2.1 k0.2.2.1.length m0.2.2) k0.2.2.1∧inI64 k0.1) _ ((none,0),(none,0)) ⟨k4,hB,s0,h8,u0,w0,h1,t1,x5,e0,z0,a1,b1,c1,(Rw.nil 9 (by decide)),(Rw.nil 6 (by decide)),(show inI64 (0) from by decide)⟩ ⟨rfl,rfl,rfl,rfl,rfl,rfl,trivial⟩ ?_
  rintro k0 m0 k9 e8 ⟨z5,hB,s0,h8,u0,w0,h1,t1,g3,e0,z0,a1,b1,c1,n1,w1,m3⟩ h0 d2 n3
  refine Al (Al (Aj (Am rfl rfl (Am rfl rfl ?_))))
  obtain ⟨l9,a6,h0⟩:=bs h0
  refine BV (O:=z5) (DK g3 a6) rfl rfl fun m9 n9 b6 f0 c6=>?_
  obtain ⟨m4,d6⟩:=c6
  obtain ⟨rfl,o9⟩:=d6.int
  refine CU rfl rfl rfl (fun t3=>?_) fun t3=>?_
  ·
   replace h0:=ip h0 t3
   refine o_z ?_
   refine Ah rfl (AK (Al (AP (Al (Aj (Am rfl rfl (Am rfl rfl ?_)))))))
   obtain ⟨u3,e6,h0⟩:=bs h0
   refine BV (O:=b6) (Gi m4 m3 e6) rfl rfl fun p9 v3 o3 i0 f6=>?_
   obtain ⟨q9,r9,a3,rfl,b3,g6⟩:=f6
   obtain ⟨n4,o4,rfl⟩:=b3.form
   obtain ⟨rfl,h6⟩:=g6.err
   refine Am rfl rfl (Bn rfl rfl rfl (Bn rfl rfl rfl (At rfl rfl (At rfl rfl (o_z ?_)))))
   refine Al (Al (Aj (Am rfl rfl (ET rfl rfl (fun w3=>?_) fun w3=>?_))))
   ·
    replace h0:=ip h0 w3
    refine o_z ?_
    refine Ah rfl (Al (Aj (Am rfl rfl (At rfl rfl (At rfl rfl (o_z ?_))))))
    refine AL ?_
    obtain rfl:=sm h0
    obtain rfl:=d2 _ rfl
    obtain rfl:=sm (CG hm)
    replace hB:=(hB.st f0).st i0
    obtain ⟨O',hS',hz,hl⟩:=hE.leave (fun _=>0) rfl hB
    exact ret2 rfl (AA rfl) (AA rfl) ⟨O',hS',_,_,rfl,rfl,(vErr h6)⟩
   replace h0:=im h0 w3
   refine o_z ?_
   refine Ae rfl (AK (Al ?_))
   obtain ⟨y1,t0,h0⟩:=bs h0
   refine AM (fun l' w'=>∃ (r0:(Option Addr×Nat)) (O':Lab),subs l' [(1,(.int .i64 (max 0 (min x1 65536)))),(2,(.pointer (some ⟨d3,0,none⟩))),(6,(.pointer j3)),(8,(.pointer (some ⟨c2,0,none⟩))),(12,(.pointer (some ⟨p2,0,none⟩))),(13,(.int .i64 k0.1)),(14,(.slice n4 u3.1.length o4))]∧Bm w O0 w' O'∧Lc 2 w' O' d3 26 [(.slice A9 x0.vars.length t2),(.slice u2 x0.init.length v2),(.slice w2 x0.goal.length x2),(.slice y2 x0.ops.length z2)]∧Vb w' (Fr 0 w' O') (.slice A9 x0.vars.length t2) x0.vars∧Vb w' (Fr 0 w' O') (.slice u2 x0.init.length v2) x0.init∧Vb w' (Fr 0 w' O') (.slice w2 x0.goal.length x2) x0.goal∧Vb w' (Fr 0 w' O') (.slice y2 x0.ops.length z2) x0.ops∧Vb w' (Fr 0 w' O') (.pointer j3) j4.1∧Ob 3 w' O' (.pointer (some ⟨c2,0,none⟩)) k0.2.2.2∧Lc 4 w' O' p2 87 [(.slice h2 g0.vars.length i2),(.slice j2 g0.init.length k2),(.slice l2 g0.goal.length m2),(.slice n2 g0.ops.length o2),(.pointer (some ⟨c2,0,none⟩)),(.slice m0.1.1 k0.2.1.length m0.1.2),(.slice r0.1 y1.length r0.2),(.slice none 0 0),(.slice none 0 0),(.slice none 0 0)]∧Vb w' (Fr 0 w' O') (.slice h2 g0.vars.length i2) g0.vars∧Vb w' (Fr 0 w' O') (.slice j2 g0.init.length k2) g0.init∧Vb w' (Fr 0 w' O') (.slice l2 g0.goal.length m2) g0.goal∧Vb w' (Fr 0 w' O') (.slice n2 g0.ops.length o2) g0.ops∧Rw 9 w' O' 94 (.slice m0.1.1 k0.2.1.length m0.1.2) k0.2.1∧Rw 6 w' O' 4 (.slice r0.1 y1.length r0.2) y1∧Vb w' (Fr 0 w' O') (.slice n4 u3.1.length o4) u3.1) ?_ ?_
   ·
    refine Bv [(10,[6])] o3 ?_
    refine AU (fuel:=7) [] [(1,true),(2,true),(3,true),(4,true),(5,true),(6,true),(7,true)] (by kernel_rfl) rfl ?_
    refine AF rfl rfl rfl (Cb rfl rfl rfl (AR rfl rfl rfl ?_))
    replace e0:=(e0.st f0).st i0
    refine AV (hc:=fun w' ⟨O',hq⟩=>Blk.cell (i:=6) ((e0.st hq (by decide)).1) rfl) rfl rfl rfl ?_
    refine AR rfl rfl rfl ?_
    replace s0:=(s0.st f0).st i0
    refine AV (hc:=fun w' ⟨O',hq⟩=>Blk.cell (i:=2) ((s0.st hq (by decide)).1) rfl) rfl rfl rfl ?_
    refine AF rfl rfl rfl (AJ ?_)
    refine AU (fuel:=6) [6] [(0,true)] (by kernel_rfl) rfl ?_
    refine AF rfl rfl rfl (AJ ?_)
    refine Bc (i:=8) (by kernel_rfl) rfl ?_
    obtain ⟨p4,i6,t0⟩:=bs t0
    replace w0:=(w0.st f0).st i0
    refine BU (O:=o3) (A:=All v3) (R:=fun w' F v=>Vb w' F v p4) (Ig (fun _ h=>h) (Vb.mono (F:=Fr 0 v3 o3) w0 Fr.lt) (Vb.mono (F:=Fr 0 v3 o3) b3 Fr.lt) i6) rfl rfl fun s9 t9 q4 n0 j6=>?_
    obtain rfl:=j6.bool
    have hZ:=n0.lst [] (fun _ h=>h.elim)
    cases p4
    case false =>
     replace t0:=iF t0
     refine Bt [(10,[6])] hZ (by kernel_rfl) ?_
     refine Bc (i:=9) (by kernel_rfl) rfl ?_
     refine Cl 5 (by decide) q4 (xs:=([false]:List Bool)) rfl rfl rfl rfl ⟨vBool,trivial⟩ (by decide) (by decide) rfl fun u9 v9 w9 e1 k6=>?_
     have hZ:=e1.lst [] (fun _ h=>h.elim)
     refine Bt [(10,[6])] hZ (by kernel_rfl) ?_
     refine Bc (i:=10) (by kernel_rfl) rfl ?_
     obtain ⟨l6,x3,t0⟩:=bs t0
     obtain ⟨x3,m6,n6⟩:=Ce x3
     replace w1:=(((w1.st f0).st i0).st n0).st e1
     refine Dd rfl w1 (k6.rd) rfl rfl (by decide) m6 n6 rfl fun r4 s4 x9 o6 i1 t4=>?_
     rw [← x3] at t4 ⊢
     have hZ:=i1.lst [6] (fun _ h=>by cases h;decide)
     refine Bt [] hZ (by kernel_rfl) ?_
     refine AU (fuel:=1) [] [(11,true),(12,true)] (by kernel_rfl) rfl ?_
     refine Cb rfl rfl rfl (AR rfl rfl rfl (AJ ?_))
     refine Bc (i:=13) (by kernel_rfl) rfl ?_
     replace e0:=((e0.st n0).st e1).st i1
     refine Bu e0 rfl rfl rfl (Ci rfl) (allOne rfl) fun p6 o1 e0=>?_
     replace e0:Lc 4 p6 o6 p2 87 [(.slice h2 g0.vars.length i2),(.slice j2 g0.init.length k2),(.slice l2 g0.goal.length m2),(.slice n2 g0.ops.length o2),(.pointer (some ⟨c2,0,none⟩)),(.slice m0.1.1 k0.2.1.length m0.1.2),(.slice r4 l6.length s4),(.slice none 0 0),(.slice none 0 0),(.slice none 0 0)]:=e0
     refine Dx (by kernel_rfl) ?_
     refine BW (by kernel_rfl) ?_
     obtain rfl:=sm t0
     exact ⟨(r4,s4),_,⟨rfl,rfl,rfl,rfl,rfl,rfl,rfl,trivial⟩,(((((hB.st f0).st i0).st n0).st e1).st i1).st o1,(((s0.st n0).st e1).st i1).st o1,(((((h8.st f0).st i0).st n0).st e1).st i1).st o1,(((((u0.st f0).st i0).st n0).st e1).st i1).st o1,(((w0.st n0).st e1).st i1).st o1,(((((h1.st f0).st i0).st n0).st e1).st i1).st o1,(((((t1.st f0).st i0).st n0).st e1).st i1).st o1,(((a3.st n0).st e1).st i1).st o1,e0,(((((z0.st f0).st i0).st n0).st e1).st i1).st o1,(((((a1.st f0).st i0).st n0).st e1).st i1).st o1,(((((b1.st f0).st i0).st n0).st e1).st i1).st o1,(((((c1.st f0).st i0).st n0).st e1).st i1).st o1,(((((n1.st f0).st i0).st n0).st e1).st i1).st o1,t4.st o1,(((b3.st n0).st e1).st i1).st o1⟩
    replace t0:=iT t0
    refine Bt [(10,[6])] hZ (by kernel_rfl) ?_
    refine Bc (i:=9) (by kernel_rfl) rfl ?_
    refine Cl 5 (by decide) q4 (xs:=([true]:List Bool)) rfl rfl rfl rfl ⟨vBool,trivial⟩ (by decide) (by decide) rfl fun y9 z9 aA f1 q6=>?_
    have hZ:=f1.lst [] (fun _ h=>h.elim)
    refine Bt [(10,[6])] hZ (by kernel_rfl) ?_
    refine Bc (i:=10) (by kernel_rfl) rfl ?_
    obtain ⟨r6,y3,t0⟩:=bs t0
    obtain ⟨y3,s6,t6⟩:=Ce y3
    replace w1:=(((w1.st f0).st i0).st n0).st f1
    refine Dd rfl w1 (q6.rd) rfl rfl (by decide) s6 t6 rfl fun u4 w4 bA u6 j1 x4=>?_
    rw [← y3] at x4 ⊢
    have hZ:=j1.lst [6] (fun _ h=>by cases h;decide)
    refine Bt [] hZ (by kernel_rfl) ?_
    refine AU (fuel:=1) [] [(11,true),(12,true)] (by kernel_rfl) rfl ?_
    refine Cb rfl rfl rfl (AR rfl rfl rfl (AJ ?_))
    refine Bc (i:=13) (by kernel_rfl) rfl ?_
    replace e0:=((e0.st n0).st f1).st j1
    refine Bu e0 rfl rfl rfl (Ci rfl) (allOne rfl) fun w6 p1 e0=>?_
    replace e0:Lc 4 w6 u6 p2 87 [(.slice h2 g0.vars.length i2),(.slice j2 g0.init.length k2),(.slice l2 g0.goal.length m2),(.slice n2 g0.ops.length o2),(.pointer (some ⟨c2,0,none⟩)),(.slice m0.1.1 k0.2.1.length m0.1.2),(.slice u4 r6.length w4),(.slice none 0 0),(.slice none 0 0),(.slice none 0 0)]:=e0
    refine Dx (by kernel_rfl) ?_
    refine BW (by kernel_rfl) ?_
    obtain rfl:=sm t0
    exact ⟨(u4,w4),_,⟨rfl,rfl,rfl,rfl,rfl,rfl,rfl,trivial⟩,(((((hB.st f0).st i0).st n0).st f1).st j1).st p1,(((s0.st n0).st f1).st j1).st p1,(((((h8.st f0).st i0).st n0).st f1).st j1).st p1,(((((u0.st f0).st i0).st n0).st f1).st j1).st p1,(((w0.st n0).st f1).st j1).st p1,(((((h1.st f0).st i0).st n0).st f1).st j1).st p1,(((((t1.st f0).st i0).st n0).st f1).st j1).st p1,(((a3.st n0).st f1).st j1).st p1,e0,(((((z0.st f0).st i0).st n0).st f1).st j1).st p1,(((((a1.st f0).st i0).st n0).st f1).st j1).st p1,(((((b1.st f0).st i0).st n0).st f1).st j1).st p1,(((((c1.st f0).st i0).st n0).st f1).st j1).st p1,(((((n1.st f0).st i0).st n0).st f1).st j1).st p1,x4.st p1,(((b3.st n0).st f1).st j1).st p1⟩
   replace hB:=(hB.st f0).st i0
   replace h8:=(h8.st f0).st i0
   replace u0:=(u0.st f0).st i0
   replace w0:=(w0.st f0).st i0
   replace h1:=(h1.st f0).st i0
   replace s0:=(s0.st f0).st i0
   replace t1:=(t1.st f0).st i0
   replace z0:=(z0.st f0).st i0
   replace a1:=(a1.st f0).st i0
   replace b1:=(b1.st f0).st i0
   replace c1:=(c1.st f0).st i0
   replace e0:=(e0.st f0).st i0
   replace n1:=(n1.st f0).st i0
   rintro cA dA ⟨r0,x6,y4,hB,s0,h8,u0,w0,h1,t1,a3,e0,z0,a1,b1,c1,n1,y0,b3⟩
   refine AO _ y4 ?_
   refine Al (Aj (Am rfl rfl (Am rfl rfl ?_)))
   obtain ⟨a2,y6,h0⟩:=bs h0
   refine Eg (O:=x6) (R:=fun w' F v=>Vb w' F v a2) (Fx Fr.lt t1 b3 y6) rfl rfl fun eA fA z6 o0 q1=>?_
   obtain ⟨p3,q3,rfl⟩:=q1.form
   refine AQ rfl rfl ?_
   have z3:a2.length≤9223372036854775807:=Nat.le_trans q1.len.2.1 q1.len.2.2
   have gA:inI64 (a2.length:Int):=rngNat z3
   refine Am rfl rfl (o_z ?_)
   obtain ⟨a4,z4,h0⟩:=bs h0
   refine AM (aft a4 (fun (r1:(List Edj)×Reg) (k1:(Option Addr×Nat))=>[(1,(.int .i64 (max 0 (min x1 65536)))),(2,(.pointer (some ⟨d3,0,none⟩))),(6,(.pointer j3)),(8,(.pointer (some ⟨c2,0,none⟩))),(12,(.pointer (some ⟨p2,0,none⟩))),(13,(.int .i64 k0.1))]) (fun r1 k1 w'=>∃ O':Lab,Bm w O0 w' O'∧Lc 2 w' O' d3 26 [(.slice A9 x0.vars.length t2),(.slice u2 x0.init.length v2),(.slice w2 x0.goal.length x2),(.slice y2 x0.ops.length z2)]∧Vb w' (Fr 0 w' O') (.slice A9 x0.vars.length t2) x0.vars∧Vb w' (Fr 0 w' O') (.slice u2 x0.init.length v2) x0.init∧Vb w' (Fr 0 w' O') (.slice w2 x0.goal.length x2) x0.goal∧Vb w' (Fr 0 w' O') (.slice y2 x0.ops.length z2) x0.ops∧Vb w' (Fr 0 w' O') (.pointer j3) j4.1∧Ob 3 w' O' (.pointer (some ⟨c2,0,none⟩)) r1.2∧Lc 4 w' O' p2 87 [(.slice h2 g0.vars.length i2),(.slice j2 g0.init.length k2),(.slice l2 g0.goal.length m2),(.slice n2 g0.ops.length o2),(.pointer (some ⟨c2,0,none⟩)),(.slice k1.1 r1.1.length k1.2),(.slice r0.1 y1.length r0.2),(.slice none 0 0),(.slice none 0 0),(.slice none 0 0)]∧Vb w' (Fr 0 w' O') (.slice h2 g0.vars.length i2) g0.vars∧Vb w' (Fr 0 w' O') (.slice j2 g0.init.length k2) g0.init∧Vb w' (Fr 0 w' O') (.slice l2 g0.goal.length m2) g0.goal∧Vb w' (Fr 0 w' O') (.slice n2 g0.ops.length o2) g0.ops∧Rw 9 w' O' 94 (.slice k1.1 r1.1.length k1.2) r1.1∧Rw 6 w' O' 4 (.slice r0.1 y1.length r0.2) y1)) ?_ ?_
   ·
    refine AP ?_
    replace hB:=hB.st o0
    replace h8:=h8.st o0
    replace u0:=u0.st o0
    replace w0:=w0.st o0
    replace h1:=h1.st o0
    replace s0:=s0.st o0
    replace t1:=t1.st o0
    replace z0:=z0.st o0
    replace a1:=a1.st o0
    replace b1:=b1.st o0
    replace c1:=c1.st o0
    replace e0:=e0.st o0
    replace n1:=n1.st o0
    replace a3:=a3.st o0
    replace y0:=y0.st o0
    refine Ca (σ:=(List Edj)×Reg) (X:=(Option Addr×Nat)) (a2.length) z4 rfl z3 (fun (r1:(List Edj)×Reg) (k1:(Option Addr×Nat))=>[(1,(.int .i64 (max 0 (min x1 65536)))),(2,(.pointer (some ⟨d3,0,none⟩))),(6,(.pointer j3)),(8,(.pointer (some ⟨c2,0,none⟩))),(12,(.pointer (some ⟨p2,0,none⟩))),(13,(.int .i64 k0.1)),(90,(.slice p3 a2.length q3))]) _ (fun r1 k1 w'=>∃ O':Lab,Bm w O0 w' O'∧Lc 2 w' O' d3 26 [(.slice A9 x0.vars.length t2),(.slice u2 x0.init.length v2),(.slice w2 x0.goal.length x2),(.slice y2 x0.ops.length z2)]∧Vb w' (Fr 0 w' O') (.slice A9 x0.vars.length t2) x0.vars∧Vb w' (Fr 0 w' O') (.slice u2 x0.init.length v2) x0.init∧Vb w' (Fr 0 w' O') (.slice w2 x0.goal.length x2) x0.goal∧Vb w' (Fr 0 w' O') (.slice y2 x0.ops.length z2) x0.ops∧Vb w' (Fr 0 w' O') (.pointer j3) j4.1∧Ob 3 w' O' (.pointer (some ⟨c2,0,none⟩)) r1.2∧Lc 4 w' O' p2 87 [(.slice h2 g0.vars.length i2),(.slice j2 g0.init.length k2),(.slice l2 g0.goal.length m2),(.slice n2 g0.ops.length o2),(.pointer (some ⟨c2,0,none⟩)),(.slice k1.1 r1.1.length k1.2),(.slice r0.1 y1.length r0.2),(.slice none 0 0),(.slice none 0 0),(.slice none 0 0)]∧Vb w' (Fr 0 w' O') (.slice h2 g0.vars.length i2) g0.vars∧Vb w' (Fr 0 w' O') (.slice j2 g0.init.length k2) g0.init∧Vb w' (Fr 0 w' O') (.slice l2 g0.goal.length m2) g0.goal∧Vb w' (Fr 0 w' O') (.slice n2 g0.ops.length o2) g0.ops∧Rw 9 w' O' 94 (.slice k1.1 r1.1.length k1.2) r1.1∧Rw 6 w' O' 4 (.slice r0.1 y1.length r0.2) y1∧Vb w' (Fr 0 w' O') (.slice p3 a2.length q3) a2) _ (m0.1.1,m0.1.2) ⟨z6,hB,s0,h8,u0,w0,h1,t1,a3,e0,z0,a1,b1,c1,n1,y0,q1⟩ ⟨rfl,rfl,rfl,rfl,rfl,rfl,rfl,rfl,rfl,trivial⟩ (fun _ _=>⟨rfl,rfl⟩) (fun _ _=>⟨rfl,rfl,rfl,rfl,rfl,rfl,trivial⟩) (fun _ _ _ ⟨O',hB,s0,h8,u0,w0,h1,t1,q2,e0,z0,a1,b1,c1,u1,y0,q1⟩=>⟨O',hB,s0,h8,u0,w0,h1,t1,q2,e0,z0,a1,b1,c1,u1,y0⟩) ⟨rfl,rfl,rfl⟩ ⟨rfl,rfl⟩ ?_
    rintro a5 e2 r1 k1 iA f8 r3 ⟨a7,hB,s0,h8,u0,w0,h1,t1,q2,e0,z0,a1,b1,c1,u1,y0,q1⟩ q0 s2 q5
    have rk227:inI64 (a5:Int):=rngK r3 z3
    refine Al (Aj ?_)
    obtain ⟨jA,kA,g8,b5,c5,d5,lA,rfl,b2,b7⟩:=q1.elem' r3
    obtain ⟨b4,c4,rfl⟩:=b2.form
    refine Br (hA:=b5) (hj:=rfl) (hlt:=c5) rfl rfl rfl ?_
    refine BB (hl:=rfl) (hc:=d5) rfl rfl ?_
    refine CQ 7 a7 rfl fun d4 mA e5 b0 z1=>?_
    refine Bu z1 rfl rfl rfl (Ci rfl) (allOne rfl) fun c7 c0 z1=>?_
    replace z1:Lc 7 c7 e5 d4 91 [(.int .i64 e2.op),(.slice b4 e2.state.length c4)]:=z1
    refine o_z ?_
    refine Al (Aj (Am rfl rfl (AG rfl rfl (AD (hc:=Blk.cell (i:=1) (z1.1) rfl) rfl rfl ?_))))
    obtain ⟨r2,d7,q0⟩:=bs q0
    replace q2:=(q2.st b0).st c0
    replace b2:=(b2.st b0).st c0
    refine BV (O:=e5) (EV q2 b2 d7) rfl rfl fun nA e7 f7 a0 g7=>?_
    obtain ⟨oA,pA,qA,c3,rfl,h7,i7,j7⟩:=g7
    obtain ⟨rfl,k7⟩:=h7.int
    obtain rfl:=i7.bool
    obtain ⟨rfl,f5⟩:=j7.err
    refine Am rfl rfl (Bn rfl rfl rfl (Bn rfl rfl rfl (Bn rfl rfl rfl (At rfl rfl (At rfl rfl (At rfl rfl (o_z ?_)))))))
    refine Al (Al ?_)
    obtain ⟨l7,p0,q0⟩:=bs q0
    refine AM (fun l' w'=>∃ (m7:Unit) (O':Lab),subs l' [(1,(.int .i64 (max 0 (min x1 65536)))),(2,(.pointer (some ⟨d3,0,none⟩))),(6,(.pointer j3)),(8,(.pointer (some ⟨c2,0,none⟩))),(12,(.pointer (some ⟨p2,0,none⟩))),(13,(.int .i64 k0.1)),(17,(.pointer (some ⟨d4,0,none⟩))),(18,(.int .i64 r2.1)),(20,(errV r2.2.2.1.n)),(90,(.slice p3 a2.length q3)),(91,(.int .i64 (a2.length:Int))),(92,(.int .i64 (a5:Int))),(114,(.bool l7))]∧Bm w O0 w' O'∧Lc 2 w' O' d3 26 [(.slice A9 x0.vars.length t2),(.slice u2 x0.init.length v2),(.slice w2 x0.goal.length x2),(.slice y2 x0.ops.length z2)]∧Vb w' (Fr 0 w' O') (.slice A9 x0.vars.length t2) x0.vars∧Vb w' (Fr 0 w' O') (.slice u2 x0.init.length v2) x0.init∧Vb w' (Fr 0 w' O') (.slice w2 x0.goal.length x2) x0.goal∧Vb w' (Fr 0 w' O') (.slice y2 x0.ops.length z2) x0.ops∧Vb w' (Fr 0 w' O') (.pointer j3) j4.1∧Ob 3 w' O' (.pointer (some ⟨c2,0,none⟩)) r2.2.2.2∧Lc 4 w' O' p2 87 [(.slice h2 g0.vars.length i2),(.slice j2 g0.init.length k2),(.slice l2 g0.goal.length m2),(.slice n2 g0.ops.length o2),(.pointer (some ⟨c2,0,none⟩)),(.slice k1.1 r1.1.length k1.2),(.slice r0.1 y1.length r0.2),(.slice none 0 0),(.slice none 0 0),(.slice none 0 0)]∧Vb w' (Fr 0 w' O') (.slice h2 g0.vars.length i2) g0.vars∧Vb w' (Fr 0 w' O') (.slice j2 g0.init.length k2) g0.init∧Vb w' (Fr 0 w' O') (.slice l2 g0.goal.length m2) g0.goal∧Vb w' (Fr 0 w' O') (.slice n2 g0.ops.length o2) g0.ops∧Rw 9 w' O' 94 (.slice k1.1 r1.1.length k1.2) r1.1∧Rw 6 w' O' 4 (.slice r0.1 y1.length r0.2) y1∧Lc 7 w' O' d4 91 [(.int .i64 e2.op),(.slice b4 e2.state.length c4)]∧Vb w' (Fr 0 w' O') (.slice b4 e2.state.length c4) e2.state∧Vb w' (Fr 0 w' O') (.slice p3 a2.length q3) a2) ?_ ?_
    ·
     refine Aj (Am rfl rfl (DT rfl rfl ?_))
     obtain ⟨g5,n7,p0⟩:=bs p0
     refine BU (O:=f7) (A:=All e7) (R:=fun w' F v=>Vb w' F v g5) (LJ (fun _ h=>h) f5 (by decide) n7) rfl rfl fun rA sA tA d0 o7=>?_
     obtain rfl:=o7.bool
     cases g5
     case false =>
      replace p0:=iF p0
      refine Am rfl rfl (Aw rfl rfl (Am rfl rfl (Aw rfl rfl (Am rfl rfl ?_))))
      rcases Bool.eq_false_or_eq_true r2.2.1 with h3|h3
      ·
       try simp only [h3]
       replace p0:=ip p0 h3
       refine Aw rfl rfl (Am rfl rfl (Aw rfl rfl (Am rfl rfl (Aw rfl rfl (FN rfl rfl rfl (fun e4=>?_) fun e4=>?_)))))
       ·
        replace p0:=ip p0 e4
        refine Aw rfl rfl (Bo rfl rfl rfl (Bl rfl rfl rfl (o_z ?_)))
        obtain rfl:=sm p0
        exact ⟨(),_,⟨rfl,rfl,rfl,rfl,rfl,rfl,rfl,rfl,rfl,rfl,rfl,rfl,rfl,trivial⟩,(((hB.st b0).st c0).st a0).st d0,(((s0.st b0).st c0).st a0).st d0,(((h8.st b0).st c0).st a0).st d0,(((u0.st b0).st c0).st a0).st d0,(((w0.st b0).st c0).st a0).st d0,(((h1.st b0).st c0).st a0).st d0,(((t1.st b0).st c0).st a0).st d0,c3.st d0,(((e0.st b0).st c0).st a0).st d0,(((z0.st b0).st c0).st a0).st d0,(((a1.st b0).st c0).st a0).st d0,(((b1.st b0).st c0).st a0).st d0,(((c1.st b0).st c0).st a0).st d0,(((u1.st b0).st c0).st a0).st d0,(((y0.st b0).st c0).st a0).st d0,(z1.st a0).st d0,(b2.st a0).st d0,(((q1.st b0).st c0).st a0).st d0⟩
       replace p0:=im p0 e4
       refine Aw rfl rfl (Bo rfl rfl rfl (Bl rfl rfl rfl (o_z ?_)))
       obtain rfl:=sm p0
       exact ⟨(),_,⟨rfl,rfl,rfl,rfl,rfl,rfl,rfl,rfl,rfl,rfl,rfl,rfl,rfl,trivial⟩,(((hB.st b0).st c0).st a0).st d0,(((s0.st b0).st c0).st a0).st d0,(((h8.st b0).st c0).st a0).st d0,(((u0.st b0).st c0).st a0).st d0,(((w0.st b0).st c0).st a0).st d0,(((h1.st b0).st c0).st a0).st d0,(((t1.st b0).st c0).st a0).st d0,c3.st d0,(((e0.st b0).st c0).st a0).st d0,(((z0.st b0).st c0).st a0).st d0,(((a1.st b0).st c0).st a0).st d0,(((b1.st b0).st c0).st a0).st d0,(((c1.st b0).st c0).st a0).st d0,(((u1.st b0).st c0).st a0).st d0,(((y0.st b0).st c0).st a0).st d0,(z1.st a0).st d0,(b2.st a0).st d0,(((q1.st b0).st c0).st a0).st d0⟩
      try simp only [h3]
      replace p0:=im' p0 h3
      refine Ay rfl rfl rfl rfl (Ay rfl rfl rfl rfl (Ay rfl rfl rfl rfl (Aw rfl rfl (Bl rfl rfl rfl (Bl rfl rfl rfl (o_z ?_))))))
      obtain rfl:=sm p0
      exact ⟨(),_,⟨rfl,rfl,rfl,rfl,rfl,rfl,rfl,rfl,rfl,rfl,rfl,rfl,rfl,trivial⟩,(((hB.st b0).st c0).st a0).st d0,(((s0.st b0).st c0).st a0).st d0,(((h8.st b0).st c0).st a0).st d0,(((u0.st b0).st c0).st a0).st d0,(((w0.st b0).st c0).st a0).st d0,(((h1.st b0).st c0).st a0).st d0,(((t1.st b0).st c0).st a0).st d0,c3.st d0,(((e0.st b0).st c0).st a0).st d0,(((z0.st b0).st c0).st a0).st d0,(((a1.st b0).st c0).st a0).st d0,(((b1.st b0).st c0).st a0).st d0,(((c1.st b0).st c0).st a0).st d0,(((u1.st b0).st c0).st a0).st d0,(((y0.st b0).st c0).st a0).st d0,(z1.st a0).st d0,(b2.st a0).st d0,(((q1.st b0).st c0).st a0).st d0⟩
     replace p0:=iT p0
     refine Am rfl rfl (Ay rfl rfl rfl rfl (Ay rfl rfl rfl rfl (Ay rfl rfl rfl rfl (Ay rfl rfl rfl rfl (Ay rfl rfl rfl rfl (Ay rfl rfl rfl rfl (Bo rfl rfl rfl (o_z ?_))))))))
     obtain rfl:=sm p0
     exact ⟨(),_,⟨rfl,rfl,rfl,rfl,rfl,rfl,rfl,rfl,rfl,rfl,rfl,rfl,rfl,trivial⟩,(((hB.st b0).st c0).st a0).st d0,(((s0.st b0).st c0).st a0).st d0,(((h8.st b0).st c0).st a0).st d0,(((u0.st b0).st c0).st a0).st d0,(((w0.st b0).st c0).st a0).st d0,(((h1.st b0).st c0).st a0).st d0,(((t1.st b0).st c0).st a0).st d0,c3.st d0,(((e0.st b0).st c0).st a0).st d0,(((z0.st b0).st c0).st a0).st d0,(((a1.st b0).st c0).st a0).st d0,(((b1.st b0).st c0).st a0).st d0,(((c1.st b0).st c0).st a0).st d0,(((u1.st b0).st c0).st a0).st d0,(((y0.st b0).st c0).st a0).st d0,(z1.st a0).st d0,(b2.st a0).st d0,(((q1.st b0).st c0).st a0).st d0⟩
    replace hB:=((hB.st b0).st c0).st a0
    replace h8:=((h8.st b0).st c0).st a0
    replace u0:=((u0.st b0).st c0).st a0
    replace w0:=((w0.st b0).st c0).st a0
    replace h1:=((h1.st b0).st c0).st a0
    replace s0:=((s0.st b0).st c0).st a0
    replace t1:=((t1.st b0).st c0).st a0
    replace z0:=((z0.st b0).st c0).st a0
    replace a1:=((a1.st b0).st c0).st a0
    replace b1:=((b1.st b0).st c0).st a0
    replace c1:=((c1.st b0).st c0).st a0
    replace e0:=((e0.st b0).st c0).st a0
    replace y0:=((y0.st b0).st c0).st a0
    replace q1:=((q1.st b0).st c0).st a0
    replace u1:=((u1.st b0).st c0).st a0
    replace b2:=b2.st a0
    replace z1:=z1.st a0
    rintro uA vA ⟨m7,h5,i5,hB,s0,h8,u0,w0,h1,t1,c3,e0,z0,a1,b1,c1,u1,y0,z1,b2,q1⟩
    refine AO _ i5 ?_
    refine Cs rfl (fun f4=>?_) (fun f4=>?_)
    ·
     replace q0:=ip q0 f4
     refine Al (Aj (DT rfl rfl ?_))
     refine At rfl rfl (At rfl rfl (o_z ?_))
     refine AL ?_
     obtain rfl:=sm q0
     obtain rfl:=s2 _ rfl
     obtain rfl:=sm (CG h0)
     obtain rfl:=d2 _ rfl
     obtain rfl:=sm (CG hm)
     obtain ⟨O',hS',hz,hl⟩:=hE.leave (fun _=>0) rfl hB
     exact ret2 rfl (AA rfl) (AA rfl) ⟨O',hS',_,_,rfl,rfl,(vErr (by decide))⟩
    replace q0:=im' q0 f4
    refine AK (Al (Al (Aj (Am rfl rfl (ET rfl rfl (fun g4=>?_) fun g4=>?_)))))
    ·
     replace q0:=ip q0 g4
     refine o_z ?_
     refine Ah rfl (Al (Aj (Am rfl rfl (At rfl rfl (At rfl rfl (o_z ?_))))))
     refine AL ?_
     obtain rfl:=sm q0
     obtain rfl:=s2 _ rfl
     obtain rfl:=sm (CG h0)
     obtain rfl:=d2 _ rfl
     obtain rfl:=sm (CG hm)
     obtain ⟨O',hS',hz,hl⟩:=hE.leave (fun _=>0) rfl hB
     exact ret2 rfl (AA rfl) (AA rfl) ⟨O',hS',_,_,rfl,rfl,(vErr f5)⟩
    replace q0:=im q0 g4
    refine o_z ?_
    refine Ae rfl (AK (Bv [(11,[9])] h5 ?_))
    refine AU (fuel:=6) [] [(1,true),(2,true),(3,true),(4,true),(5,true),(6,true),(7,true),(8,true),(9,true)] (by kernel_rfl) rfl ?_
    refine AF rfl rfl rfl (Cb rfl rfl rfl (AR rfl rfl rfl (AV (hc:=fun w' ⟨O',hq⟩=>Blk.cell (i:=5) ((e0.st hq (by decide)).1) rfl) rfl rfl rfl ?_)))
    refine AF rfl rfl rfl (AR rfl rfl rfl (AV (hc:=fun w' ⟨O',hq⟩=>Blk.cell (i:=0) ((z1.st hq (by decide)).1) rfl) rfl rfl rfl ?_))
    refine AF rfl rfl rfl (GR rfl rfl rfl rfl ?_)
    refine AJ ?_
    refine AU (fuel:=5) [9] [(0,true)] (by kernel_rfl) rfl ?_
    refine AF rfl rfl rfl (AJ ?_)
    refine Bc (i:=10) (by kernel_rfl) rfl ?_
    refine Cl 8 (by decide) h5 (xs:=([(⟨k0.1,e2.op,r2.1⟩:Edj)]:List Edj)) rfl rfl rfl rfl ⟨(Vb.ofAgg (cs:=[(.int .i64 k0.1),(.int .i64 e2.op),(.int .i64 r2.1)]) (x:=(⟨k0.1,e2.op,r2.1⟩:Edj)) rfl ⟨rfl,m3,b7,k7⟩),trivial⟩ (by decide) (by decide) rfl fun wA xA yA g1 p7=>?_
    have hZ:=g1.lst [] (fun _ h=>h.elim)
    refine Bt [(11,[9])] hZ (by kernel_rfl) ?_
    refine Bc (i:=11) (by kernel_rfl) rfl ?_
    obtain ⟨q7,h4,q0⟩:=bs q0
    obtain ⟨h4,r7,s7⟩:=Ce h4
    replace u1:=u1.st g1
    refine Dd rfl u1 (p7.rd) rfl rfl (by decide) r7 s7 rfl fun j5 k5 zA t7 m1 l5=>?_
    rw [← h4] at l5 ⊢
    have hZ:=m1.lst [9] (fun _ h=>by cases h;decide)
    refine Bt [] hZ (by kernel_rfl) ?_
    refine AU (fuel:=1) [] [(12,true),(13,true)] (by kernel_rfl) rfl ?_
    refine Cb rfl rfl rfl (AR rfl rfl rfl (AJ ?_))
    refine Bc (i:=14) (by kernel_rfl) rfl ?_
    replace e0:=(e0.st g1).st m1
    refine Bu e0 rfl rfl rfl (Ci rfl) (allOne rfl) fun u7 s1 e0=>?_
    replace e0:Lc 4 u7 t7 p2 87 [(.slice h2 g0.vars.length i2),(.slice j2 g0.init.length k2),(.slice l2 g0.goal.length m2),(.slice n2 g0.ops.length o2),(.pointer (some ⟨c2,0,none⟩)),(.slice j5 q7.length k5),(.slice r0.1 y1.length r0.2),(.slice none 0 0),(.slice none 0 0),(.slice none 0 0)]:=e0
    refine Dx (by kernel_rfl) ?_
    refine BW (by kernel_rfl) ?_
    obtain rfl:=sm q0
    exact show Exists _ from ⟨_,(j5,k5),rfl,⟨rfl,rfl,rfl,rfl,rfl,rfl,rfl,rfl,rfl,trivial⟩,_,((hB.st g1).st m1).st s1,((s0.st g1).st m1).st s1,((h8.st g1).st m1).st s1,((u0.st g1).st m1).st s1,((w0.st g1).st m1).st s1,((h1.st g1).st m1).st s1,((t1.st g1).st m1).st s1,((c3.st g1).st m1).st s1,e0,((z0.st g1).st m1).st s1,((a1.st g1).st m1).st s1,((b1.st g1).st m1).st s1,((c1.st g1).st m1).st s1,l5.st s1,((y0.st g1).st m1).st s1,((q1.st g1).st m1).st s1⟩
   replace hB:=hB.st o0
   replace h8:=h8.st o0
   replace u0:=u0.st o0
   replace w0:=w0.st o0
   replace h1:=h1.st o0
   replace s0:=s0.st o0
   replace t1:=t1.st o0
   replace z0:=z0.st o0
   replace a1:=a1.st o0
   replace b1:=b1.st o0
   replace c1:=c1.st o0
   replace e0:=e0.st o0
   replace y0:=y0.st o0
   rintro aB bB ⟨cB,m5,rfl,n5,dB,hB,s0,h8,u0,w0,h1,t1,q2,e0,z0,a1,b1,c1,u1,y0⟩
   replace h0:=Bh h0
   refine AO _ n5 ?_
   refine Aj (Am rfl rfl ?_)
   obtain ⟨eB,o5,h0⟩:=bs h0
   have w7:=(BE o5)
   refine ES (he:=o5) rfl rfl rfl ?_
   refine At rfl rfl (o_z ?_)
   obtain rfl:=sm h0
   exact show Exists _ from ⟨_,((m5.1,m5.2),(r0.1,r0.2)),rfl,⟨rfl,rfl,rfl,rfl,rfl,rfl,trivial⟩,_,hB,s0,h8,u0,w0,h1,t1,q2,e0,z0,a1,b1,c1,u1,y0,w7⟩
  replace h0:=im h0 t3
  refine o_z ?_
  refine Ae rfl (Cz ?_)
  obtain rfl:=sm h0
  exact show Exists _ from ⟨_,((m0.1.1,m0.1.2),(m0.2.1,m0.2.2)),n3 _ rfl,⟨rfl,trivial⟩,_,hB.st f0,e0.st f0,z0.st f0,a1.st f0,b1.st f0,c1.st f0,m4,n1.st f0,w1.st f0,m3⟩
 replace hB:=(((((hB.st i3).st e3).st f3).st k3).st l3).st d1
 replace z0:=z0.st d1
 replace a1:=a1.st d1
 replace b1:=b1.st d1
 replace c1:=c1.st d1
 rintro fB gB ⟨i4,iB,rfl,p5,jB,hB,e0,z0,a1,b1,c1,g3,n1,w1,m3⟩
 replace hm:=Bh hm
 refine AO _ p5 ?_
 refine Al (Aj (Am rfl rfl ?_))
 obtain ⟨kB,f2,n1⟩:=n1.freeze
 replace w1:=w1.st f2
 obtain ⟨lB,g2,w1⟩:=w1.freeze
 replace z0:=(z0.st f2).st g2
 replace a1:=(a1.st f2).st g2
 replace b1:=(b1.st f2).st g2
 replace c1:=(c1.st f2).st g2
 replace e0:=(e0.st f2).st g2
 replace n1:=n1.st g2
 replace g3:=(g3.st f2).st g2
 obtain ⟨x7,y7,i8,j8,z7⟩:=Spa.shut (x:=(⟨(⟨g0.vars,g0.init,g0.goal,g0.ops⟩:Tsk),i4.2.2.2,i4.2.1,i4.2.2.1,([]:List Int),([]:List Int),([]:List Int)⟩:Spa)) (l0:=4) (l1:=3) (by decide) e0 z0 a1 b1 c1 g3 n1 w1 (Vb.nil _ _) (Vb.nil _ _) (Vb.nil _ _)
 obtain ⟨mB,a8,hm⟩:=bs hm
 refine BV (O:=x7) (GG z7 a8) rfl rfl fun nB oB pB b8 c8=>?_
 refine o_z ?_
 refine Al (Aj (Am rfl rfl (At rfl rfl (At rfl rfl (o_z ?_)))))
 refine AL ?_
 obtain rfl:=sm hm
 replace hB:=(((hB.st f2).st g2).st y7).st b8
 obtain ⟨O',hS',hz,hl⟩:=hE.leave (fun q=>if q=4 then j0 else 0) rfl hB
 exact ret2 rfl (AA rfl) (AA rfl) ⟨O',hS',_,_,rfl,(Ob.leave c8 hz (hl 4 (by decide) (by decide)) hj0),(vErr (show inI64 0 from by decide))⟩
end
section
open Go Go.RowKit
attribute [local irreducible] ewp owp hwp hwq hws Ev Evg Fn retPost loud loudS Res1
attribute [local irreducible] hwx loudX
noncomputable def Ey (x0:Int) (x1:Int) (x2:Int):Option Int :=
  some (max x1 (min x0 x2))
theorem LK {w:World} {A:Nat→Prop} (hA:∀ k,A k→k < w.heap.size) {x0:Int} (rx0:inI64 x0) {x1:Int} (rx1:inI64 x1) {x2:Int} (rx2:inI64 x2) {r:Int} (hm:Ey x0 x1 x2=some r) :
    Fn Tryz.prog 52 [(.int .i64 x0),(.int .i64 x1),(.int .i64 x2)] w fun v w'=>Ext w w'∧Vb w' (upA A w w') v r:=by
 obtain ⟨O,hB,a0⟩:=enter hA
 refine AI Tryz.func52 rfl Tryz.ntmps52 rfl ?_
 unfold Ey at hm
 refine Al (Aj (At rfl rfl (o_z ?_)))
 refine Al (Aj (Am rfl rfl (Am rfl rfl (Am rfl rfl (Mo rfl rfl rfl ?_)))))
 refine Mp rfl rfl rfl ?_
 refine At rfl rfl (o_z ?_)
 refine AL ?_
 obtain rfl:=sm hm
 exact ret1v rfl (AA rfl) ⟨hB.ext,(vInt (rngMax rx1 (rngMin rx0 rx2)))⟩
noncomputable def Dh (x0:List (List Int)) (x1:List Int):Option Int :=
  bnd (rng (ρ:=Int) (fun (k13:Nat) (a14:List Int) (s11:Unit)=>bnd (Ex a14 x1) fun q35=>if q35=true then some (.ret (k13:Int)) else some (.next ())) x0 0 ()) fun res9=>fin res9 fun (s46:Unit)=>some (-1)
theorem Iq {w:World} {A:Nat→Prop} (hA:∀ k,A k→k < w.heap.size) {vx0:Value} {x0:List (List Int)} (b0:Vb w A vx0 x0) {vx1:Value} {x1:List Int} (c0:Vb w A vx1 x1) {r:Int} (hm:Dh x0 x1=some r) :
    Fn Tryz.prog 54 [vx0,vx1] w fun v w'=>Ext w w'∧Vb w' (upA A w w') v r:=by
 obtain ⟨O,hB,s0⟩:=enter hA
 replace b0:=b0.mono s0
 obtain ⟨A3,c4,rfl⟩:=b0.form
 replace c0:=c0.mono s0
 obtain ⟨A5,c6,rfl⟩:=c0.form
 refine AI Tryz.func54 rfl Tryz.ntmps54 rfl ?_
 unfold Dh at hm
 refine Al (Aj (At rfl rfl (o_z ?_)))
 refine Al (Al (Aj (Am rfl rfl (AQ rfl rfl ?_))))
 have l8:x0.length≤9223372036854775807:=Nat.le_trans b0.len.2.1 b0.len.2.2
 have r7:inI64 (x0.length:Int):=rngNat l8
 refine Am rfl rfl (o_z ?_)
 obtain ⟨j0,k0,hm⟩:=bs hm
 refine AM (aft j0 (fun (f0:Unit) (g0:Unit)=>[]) (fun f0 g0 w'=>∃ O':Lab,Bs w A w' O')) ?_ ?_
 ·
  refine AP (Ca (σ:=Unit) (X:=Unit) (x0.length) k0 rfl l8 (fun (f0:Unit) (g0:Unit)=>[(0,(.slice A3 x0.length c4)),(1,(.slice A5 x1.length c6))]) _ (fun f0 g0 w'=>∃ O':Lab,Bs w A w' O'∧Vb w' (Fr 0 w' O') (.slice A3 x0.length c4) x0∧Vb w' (Fr 0 w' O') (.slice A5 x1.length c6) x1) _ () ⟨O,hB,b0,c0⟩ ⟨rfl,rfl,rfl,rfl,trivial⟩ (fun _ _=>⟨rfl,rfl⟩) (fun _ _=>trivial) (fun _ _ _ ⟨O',hB,b0,c0⟩=>⟨O',hB⟩) ⟨rfl,rfl,rfl⟩ ⟨rfl,rfl⟩ ?_)
  rintro u0 a1 f0 g0 l0 v0 e0 ⟨m0,hB,b0,c0⟩ a0 d0 n0
  have rk13:inI64 (u0:Int):=rngK e0 l8
  refine Al (Aj (Am rfl rfl (At rfl rfl (o_z ?_))))
  refine Al (Aj (Am rfl rfl (Am rfl rfl ?_)))
  obtain ⟨b1,c1,w0,o0,p0,q0,d1,rfl,h0⟩:=b0.elem' e0
  replace h0:=Vb.of_slice h0
  obtain ⟨e1,f1,rfl⟩:=h0.form
  refine Br (hA:=o0) (hj:=rfl) (hlt:=p0) rfl rfl rfl ?_
  refine AD (hc:=cat0 q0) rfl rfl ?_
  refine Am rfl rfl ?_
  obtain ⟨t0,y0,a0⟩:=bs a0
  refine BU (O:=m0) (A:=All l0) (R:=fun w' F v=>Vb w' F v t0) (IZ (fun _ h=>h) (Vb.mono (F:=Fr 0 l0 m0) h0 Fr.lt) (Vb.mono (F:=Fr 0 l0 m0) c0 Fr.lt) y0) rfl rfl fun g1 h1 i1 i0 z0=>?_
  obtain rfl:=z0.bool
  cases t0
  case false =>
   replace a0:=iF a0
   refine o_z ?_
   refine Ae rfl (AK ?_)
   obtain rfl:=sm a0
   exact show Exists _ from ⟨_,(),rfl,⟨rfl,rfl,rfl,rfl,trivial⟩,_,hB.st i0,b0.st i0,c0.st i0⟩
  replace a0:=iT a0
  refine o_z ?_
  refine Ah rfl (Al (Aj (Am rfl rfl (At rfl rfl (o_z ?_)))))
  refine AL ?_
  obtain rfl:=sm a0
  obtain rfl:=d0 _ rfl
  obtain rfl:=sm (CG hm)
  replace hB:=hB.st i0
  exact ret1v rfl (AA rfl) ⟨hB.ext,(vInt rk13)⟩
 rintro j1 k1 ⟨l1,m1,rfl,r0,n1,hB⟩
 replace hm:=Bh hm
 refine AO _ r0 ?_
 refine Al (Aj (At rfl rfl (o_z ?_)))
 refine AL ?_
 obtain rfl:=sm hm
 exact ret1v rfl (AA rfl) ⟨hB.ext,(vInt (show inI64 (-1) from by decide))⟩
noncomputable def DB (x0:Tsk) (x1:Int):Option ((List (List Int))×Bool) :=
  bnd (Ey x1 0 65536) fun q25=>bnd (appI 8 ([]:List Int) x0.init) fun u39=>bnd (lop (ρ:=(List (List Int))×Bool) (fun (s60:(List (List Int))×Int)=>bnd (if s60.2 < (s60.1.length:Int) then (if (s60.1.length:Int)≤q25 then (some true) else (some false)) else (some false):Option Bool) fun y79=>if y79=true then (bnd (rng (ρ:=Ctl ((List (List Int))×Int) ((List (List Int))×Bool)) (fun (k100:Nat) (a101:Opr) (s98:(List (List Int)))=>bnd (atI s98 s60.2) fun a115=>bnd (CT x0 a115 (k100:Int)) fun q130=>bnd (if q130.2=true then (bnd (Dh s98 q130.1) fun q148=>if q148 < 0 then (some true) else (some false)) else (some false):Option Bool) fun y143=>if y143=true then (bnd (appI 24 s98 [q130.1]) fun u162=>some (.next u162)) else (some (.next s98))) x0.ops 0 s60.1) fun res96=>fin res96 fun (s178:(List (List Int)))=>bnd (chkI (s60.2 + 1)) fun n180=>some (.next (s178,n180))) else (some (.brk (s60.1,s60.2)))) ([u39],0)) fun res58=>fin res58 fun (s187:(List (List Int))×Int)=>bnd (if (s187.1.length:Int)≤q25 then (some true) else (some false):Option Bool) fun y189=>some (s187.1,y189)
theorem JW {w:World} {A:Nat→Prop} (hA:∀ k,A k→k < w.heap.size) {vx0:Value} {x0:Tsk} (r2:Vb w A vx0 x0) {x1:Int} (rx1:inI64 x1) {r:(List (List Int))×Bool} (hm:DB x0 x1=some r) :
    Fn Tryz.prog 13 [vx0,(.int .i64 x1)] w fun v w'=>Ext w w'∧T2 w' (upA A w w') v r:=by
 obtain ⟨O,hB,c4⟩:=enter hA
 replace r2:=r2.mono c4
 obtain ⟨d6,rfl,v4,v5,v6,v7,rfl,h8,h0,j0,i0⟩:=r2
 obtain ⟨A9,u0,rfl⟩:=h8.form
 obtain ⟨v0,w0,rfl⟩:=h0.form
 obtain ⟨y0,z0,rfl⟩:=j0.form
 obtain ⟨a1,b1,rfl⟩:=i0.form
 refine AI Tryz.func13 rfl Tryz.ntmps13 rfl ?_
 unfold DB at hm
 refine Al (Aj (DR 2 O rfl rfl fun c1 x3 y3 s1 f0=>?_))
 replace f0:Lc 2 x3 y3 c1 26 [(.slice A9 x0.vars.length u0),(.slice v0 x0.init.length w0),(.slice y0 x0.goal.length z0),(.slice a1 x0.ops.length b1)]:=f0
 refine At rfl rfl (At rfl rfl (o_z ?_))
 refine Al (Aj (Am rfl rfl ?_))
 obtain ⟨h1,d4,hm⟩:=bs hm
 refine BU (O:=y3) (A:=All x3) (R:=fun w' F v=>Vb w' F v h1) (LK (fun _ h=>h) rx1 (show inI64 (0) from by decide) (show inI64 (65536) from by decide) d4) rfl rfl fun e6 f6 e4 i1 f4=>?_
 obtain ⟨rfl,g6⟩:=f4.int
 refine At rfl rfl (o_z ?_)
 refine Al (Aj (Cl 3 (by decide) e4 (xs:=(([]:List Int):List Int)) rfl rfl rfl rfl trivial (by decide) (by decide) rfl fun h6 i6 j6 j1 g4=>?_))
 refine AG rfl rfl ?_
 replace f0:=(f0.st i1).st j1
 refine AD (hc:=Blk.cell (i:=1) (f0.1) rfl) rfl rfl ?_
 obtain ⟨h4,s2,hm⟩:=bs hm
 obtain ⟨s2,i4,j4⟩:=Ce s2
 replace h0:=((h0.st s1).st i1).st j1
 refine Dd rfl g4 (h0.rd) rfl rfl (by decide) i4 j4 rfl fun k6 l6 m6 n6 k1 o2=>?_
 rw [← s2] at o2 ⊢
 obtain ⟨k4,l1,o2⟩:=o2.freeze
 refine Cl 4 (by decide) k4 (xs:=([h4]:List (List Int))) rfl rfl rfl rfl ⟨o2,trivial⟩ (by decide) (by decide) rfl fun l4 o6 m4 m1 n4=>?_
 refine At rfl rfl (o_z ?_)
 refine Al (Al (Aj (At rfl rfl (o_z ?_))))
 obtain ⟨t1,t2,hm⟩:=bs hm
 refine AM (aft t1 (fun (k0:(List (List Int))×Int) (m0:(Option Addr×Nat))=>[(1,(.int .i64 h1)),(6,(.slice m0.1 k0.1.length m0.2))]) (fun k0 m0 w'=>∃ O':Lab,Bs w A w' O'∧Rw 4 w' O' 22 (.slice m0.1 k0.1.length m0.2) k0.1∧inI64 k0.2)) ?_ ?_
 ·
  refine AP ?_
  replace hB:=(((((hB.st s1).st i1).st j1).st k1).st l1).st m1
  replace h8:=(((((h8.st s1).st i1).st j1).st k1).st l1).st m1
  replace h0:=((h0.st k1).st l1).st m1
  replace j0:=(((((j0.st s1).st i1).st j1).st k1).st l1).st m1
  replace i0:=(((((i0.st s1).st i1).st j1).st k1).st l1).st m1
  replace f0:=((f0.st k1).st l1).st m1
  refine Eu (σ:=(List (List Int))×Int) (X:=(Option Addr×Nat)) t2 (fun (k0:(List (List Int))×Int) (m0:(Option Addr×Nat))=>[(1,(.int .i64 h1)),(2,(.pointer (some ⟨c1,0,none⟩))),(6,(.slice m0.1 k0.1.length m0.2)),(7,(.int .i64 k0.2))]) _ (fun k0 m0 w'=>∃ O':Lab,Bs w A w' O'∧Lc 2 w' O' c1 26 [(.slice A9 x0.vars.length u0),(.slice v0 x0.init.length w0),(.slice y0 x0.goal.length z0),(.slice a1 x0.ops.length b1)]∧Vb w' (Fr 0 w' O') (.slice A9 x0.vars.length u0) x0.vars∧Vb w' (Fr 0 w' O') (.slice v0 x0.init.length w0) x0.init∧Vb w' (Fr 0 w' O') (.slice y0 x0.goal.length z0) x0.goal∧Vb w' (Fr 0 w' O') (.slice a1 x0.ops.length b1) x0.ops∧Rw 4 w' O' 22 (.slice m0.1 k0.1.length m0.2) k0.1∧inI64 k0.2) _ ((some ⟨l4,0,none⟩),1) ⟨m4,hB,f0,h8,h0,j0,i0,n4,(show inI64 (0) from by decide)⟩ ⟨rfl,rfl,rfl,rfl,trivial⟩ ?_
  rintro k0 m0 p6 o4 ⟨q6,hB,f0,h8,h0,j0,i0,o0,z3⟩ g0 u2 n1
  refine Al (Al ?_)
  obtain ⟨p4,l0,g0⟩:=bs g0
  refine AM (fun l' w'=>∃ (q4:Unit) (O':Lab),subs l' [(1,(.int .i64 h1)),(2,(.pointer (some ⟨c1,0,none⟩))),(6,(.slice m0.1 k0.1.length m0.2)),(7,(.int .i64 k0.2)),(27,(.bool p4))]∧Bs w A w' O'∧Lc 2 w' O' c1 26 [(.slice A9 x0.vars.length u0),(.slice v0 x0.init.length w0),(.slice y0 x0.goal.length z0),(.slice a1 x0.ops.length b1)]∧Vb w' (Fr 0 w' O') (.slice A9 x0.vars.length u0) x0.vars∧Vb w' (Fr 0 w' O') (.slice v0 x0.init.length w0) x0.init∧Vb w' (Fr 0 w' O') (.slice y0 x0.goal.length z0) x0.goal∧Vb w' (Fr 0 w' O') (.slice a1 x0.ops.length b1) x0.ops∧Rw 4 w' O' 22 (.slice m0.1 k0.1.length m0.2) k0.1) ?_ ?_
  ·
   refine Aj (Am rfl rfl (Am rfl rfl (AQ rfl rfl ?_)))
   have r4:k0.1.length≤9223372036854775807:=Nat.le_trans o0.len.2.1 o0.len.2.2
   have r6:inI64 (k0.1.length:Int):=rngNat r4
   refine CU rfl rfl rfl (fun v2=>?_) fun v2=>?_
   ·
    replace l0:=ip l0 v2
    refine Am rfl rfl (Aw rfl rfl (Am rfl rfl (Aw rfl rfl (AQ rfl rfl ?_))))
    have s4:k0.1.length≤9223372036854775807:=Nat.le_trans o0.len.2.1 o0.len.2.2
    have s6:inI64 (k0.1.length:Int):=rngNat s4
    refine Aw rfl rfl (Am rfl rfl (Aw rfl rfl (KD rfl rfl rfl (fun w2=>?_) fun w2=>?_)))
    ·
     replace l0:=ip l0 w2
     refine Bo rfl rfl rfl (o_z ?_)
     obtain rfl:=sm l0
     exact ⟨(),_,⟨rfl,rfl,rfl,rfl,rfl,trivial⟩,hB,f0,h8,h0,j0,i0,o0⟩
    replace l0:=im l0 w2
    refine Bo rfl rfl rfl (o_z ?_)
    obtain rfl:=sm l0
    exact ⟨(),_,⟨rfl,rfl,rfl,rfl,rfl,trivial⟩,hB,f0,h8,h0,j0,i0,o0⟩
   replace l0:=im l0 v2
   refine Am rfl rfl (Ay rfl rfl rfl rfl (Ay rfl rfl rfl rfl (Ay rfl rfl rfl rfl (Ay rfl rfl rfl rfl (Bl rfl rfl rfl (o_z ?_))))))
   obtain rfl:=sm l0
   exact ⟨(),_,⟨rfl,rfl,rfl,rfl,rfl,trivial⟩,hB,f0,h8,h0,j0,i0,o0⟩
  rintro t6 u6 ⟨q4,t4,x2,hB,f0,h8,h0,j0,i0,o0⟩
  refine AO _ x2 ?_
  refine Cs rfl (fun y2=>?_) (fun y2=>?_)
  ·
   replace g0:=ip g0 y2
   refine AK (Al (AP (Al (Aj (AG rfl rfl (AD (hc:=Blk.cell (i:=3) (f0.1) rfl) rfl rfl ?_))))))
   refine AQ rfl rfl ?_
   have z2:x0.ops.length≤9223372036854775807:=Nat.le_trans i0.len.2.1 i0.len.2.2
   have w6:inI64 (x0.ops.length:Int):=rngNat z2
   refine Am rfl rfl (o_z ?_)
   obtain ⟨u1,a3,g0⟩:=bs g0
   refine AM (aft u1 (fun (r0:(List (List Int))) (p0:(Option Addr×Nat))=>[(1,(.int .i64 h1)),(2,(.pointer (some ⟨c1,0,none⟩))),(6,(.slice p0.1 r0.length p0.2)),(7,(.int .i64 k0.2))]) (fun r0 p0 w'=>∃ O':Lab,Bs w A w' O'∧Lc 2 w' O' c1 26 [(.slice A9 x0.vars.length u0),(.slice v0 x0.init.length w0),(.slice y0 x0.goal.length z0),(.slice a1 x0.ops.length b1)]∧Vb w' (Fr 0 w' O') (.slice A9 x0.vars.length u0) x0.vars∧Vb w' (Fr 0 w' O') (.slice v0 x0.init.length w0) x0.init∧Vb w' (Fr 0 w' O') (.slice y0 x0.goal.length z0) x0.goal∧Vb w' (Fr 0 w' O') (.slice a1 x0.ops.length b1) x0.ops∧Rw 4 w' O' 22 (.slice p0.1 r0.length p0.2) r0)) ?_ ?_
   ·
    refine AP (Ca (σ:=(List (List Int))) (X:=(Option Addr×Nat)) (x0.ops.length) a3 rfl z2 (fun (r0:(List (List Int))) (p0:(Option Addr×Nat))=>[(1,(.int .i64 h1)),(2,(.pointer (some ⟨c1,0,none⟩))),(6,(.slice p0.1 r0.length p0.2)),(7,(.int .i64 k0.2))]) _ (fun r0 p0 w'=>∃ O':Lab,Bs w A w' O'∧Lc 2 w' O' c1 26 [(.slice A9 x0.vars.length u0),(.slice v0 x0.init.length w0),(.slice y0 x0.goal.length z0),(.slice a1 x0.ops.length b1)]∧Vb w' (Fr 0 w' O') (.slice A9 x0.vars.length u0) x0.vars∧Vb w' (Fr 0 w' O') (.slice v0 x0.init.length w0) x0.init∧Vb w' (Fr 0 w' O') (.slice y0 x0.goal.length z0) x0.goal∧Vb w' (Fr 0 w' O') (.slice a1 x0.ops.length b1) x0.ops∧Rw 4 w' O' 22 (.slice p0.1 r0.length p0.2) r0) _ (m0.1,m0.2) ⟨t4,hB,f0,h8,h0,j0,i0,o0⟩ ⟨rfl,rfl,rfl,rfl,rfl,rfl,trivial⟩ (fun _ _=>⟨rfl,rfl⟩) (fun _ _=>⟨rfl,rfl,rfl,rfl,trivial⟩) (fun _ _ _ ⟨O',hB,f0,h8,h0,j0,i0,d0⟩=>⟨O',hB,f0,h8,h0,j0,i0,d0⟩) ⟨rfl,rfl,rfl⟩ ⟨rfl,rfl⟩ ?_)
    rintro v1 u4 r0 p0 w4 a4 w1 ⟨y1,hB,f0,h8,h0,j0,i0,d0⟩ b0 p2 q2
    have rk100:inI64 (v1:Int):=rngK w1 z2
    refine Al (Aj (Am rfl rfl (At rfl rfl (o_z ?_))))
    refine Al (Bv [] y1 ?_)
    refine AU (fuel:=6) [] [(0,true),(1,true),(2,true),(3,true),(4,true),(5,true)] (by kernel_rfl) rfl ?_
    refine EQ (hl:=rfl) (hb:=fun w' ⟨O',hq⟩=>((f0.st hq (by decide)).1).cellsAt) rfl rfl rfl ?_
    refine AF rfl rfl rfl (AF rfl rfl rfl ?_)
    obtain ⟨x4,b3,b0⟩:=bs b0
    obtain ⟨c3,d3⟩:=AH b3
    obtain ⟨y4,z4,b4,z1,a2,b2,c2,a5,rfl,f1⟩:=d0.elemF d3
    replace f1:=Vb.of_slice f1
    obtain ⟨b5,c5,rfl⟩:=f1.form
    refine BC (hA:=z1) (hj:=(Int.toNat_of_nonneg c3).symm) (hlt:=b2) rfl rfl rfl rfl ?_
    refine AV (hc:=fun w' ⟨O',hq⟩=>cat0 (Bd (hq.agree (i:=4) (by decide)) a2 c2)) rfl rfl rfl ?_
    refine AF rfl rfl rfl (AJ ?_)
    refine Bc (i:=6) (by kernel_rfl) rfl ?_
    obtain ⟨s0,e3,b0⟩:=bs b0
    refine Eg (O:=y1) (R:=fun w' F v=>T2 w' F v s0) (Ii Fr.lt (Vb.ofAgg (cs:=[(.slice A9 x0.vars.length u0),(.slice v0 x0.init.length w0),(.slice y0 x0.goal.length z0),(.slice a1 x0.ops.length b1)]) (x:=x0) rfl ⟨_,_,_,_,rfl,h8,h0,j0,i0⟩) f1 rk100 e3) rfl rfl fun d5 d2 e2 a0 f3=>?_
    obtain ⟨e5,f5,rfl,q0,g3⟩:=f3
    obtain ⟨f2,g2,rfl⟩:=q0.form
    obtain rfl:=g3.bool
    have hZ:=a0.lst [] (fun _ h=>h.elim)
    refine Bt [] hZ (by kernel_rfl) ?_
    refine AU (fuel:=0) [] [(7,true),(8,true),(9,true),(10,true),(11,true)] (by kernel_rfl) rfl ?_
    refine AF rfl rfl rfl (JQ rfl rfl rfl rfl (JQ rfl rfl rfl rfl (CB rfl rfl rfl (CB rfl rfl rfl (AJ ?_)))))
    refine BW (by kernel_rfl) ?_
    refine Al ?_
    obtain ⟨h3,c0,b0⟩:=bs b0
    refine AM (fun l' w'=>∃ (i3:Unit) (O':Lab),subs l' [(1,(.int .i64 h1)),(2,(.pointer (some ⟨c1,0,none⟩))),(6,(.slice p0.1 r0.length p0.2)),(7,(.int .i64 k0.2)),(9,(.slice f2 s0.1.length g2)),(32,(.int .i64 (x0.ops.length:Int))),(33,(.int .i64 (v1:Int))),(52,(.bool h3))]∧Bs w A w' O'∧Lc 2 w' O' c1 26 [(.slice A9 x0.vars.length u0),(.slice v0 x0.init.length w0),(.slice y0 x0.goal.length z0),(.slice a1 x0.ops.length b1)]∧Vb w' (Fr 0 w' O') (.slice A9 x0.vars.length u0) x0.vars∧Vb w' (Fr 0 w' O') (.slice v0 x0.init.length w0) x0.init∧Vb w' (Fr 0 w' O') (.slice y0 x0.goal.length z0) x0.goal∧Vb w' (Fr 0 w' O') (.slice a1 x0.ops.length b1) x0.ops∧Rw 4 w' O' 22 (.slice p0.1 r0.length p0.2) r0∧Vb w' (Fr 0 w' O') (.slice f2 s0.1.length g2) s0.1) ?_ ?_
    ·
     refine Aj (Am rfl rfl (Am rfl rfl ?_))
     rcases Bool.eq_false_or_eq_true s0.2 with d1|d1
     ·
      try simp only [d1]
      replace c0:=ip c0 d1
      refine Aw rfl rfl (Am rfl rfl (Aw rfl rfl (Am rfl rfl (Aw rfl rfl ?_))))
      obtain ⟨j3,k3,c0⟩:=bs c0
      replace d0:=d0.st a0
      refine BU (O:=e2) (A:=All d2) (R:=fun w' F v=>Vb w' F v j3) (Iq (fun _ h=>h) (d0).all (Vb.mono (F:=Fr 0 d2 e2) q0 Fr.lt) k3) rfl rfl fun g5 h5 i5 e0 l3=>?_
      obtain ⟨rfl,j5⟩:=l3.int
      refine Aw rfl rfl (CU rfl rfl rfl (fun o1=>?_) fun o1=>?_)
      ·
       replace c0:=ip c0 o1
       refine Bo rfl rfl rfl (o_z ?_)
       obtain rfl:=sm c0
       exact ⟨(),_,⟨rfl,rfl,rfl,rfl,rfl,rfl,rfl,rfl,trivial⟩,(hB.st a0).st e0,(f0.st a0).st e0,(h8.st a0).st e0,(h0.st a0).st e0,(j0.st a0).st e0,(i0.st a0).st e0,d0.st e0,q0.st e0⟩
      replace c0:=im c0 o1
      refine Bo rfl rfl rfl (o_z ?_)
      obtain rfl:=sm c0
      exact ⟨(),_,⟨rfl,rfl,rfl,rfl,rfl,rfl,rfl,rfl,trivial⟩,(hB.st a0).st e0,(f0.st a0).st e0,(h8.st a0).st e0,(h0.st a0).st e0,(j0.st a0).st e0,(i0.st a0).st e0,d0.st e0,q0.st e0⟩
     try simp only [d1]
     replace c0:=im' c0 d1
     refine Ay rfl rfl rfl rfl (Ay rfl rfl rfl rfl (Ay rfl rfl rfl rfl (Ay rfl rfl rfl rfl (Bl rfl rfl rfl (o_z ?_)))))
     obtain rfl:=sm c0
     exact ⟨(),_,⟨rfl,rfl,rfl,rfl,rfl,rfl,rfl,rfl,trivial⟩,hB.st a0,f0.st a0,h8.st a0,h0.st a0,j0.st a0,i0.st a0,d0.st a0,q0⟩
    replace hB:=hB.st a0
    replace h8:=h8.st a0
    replace h0:=h0.st a0
    replace j0:=j0.st a0
    replace i0:=i0.st a0
    replace f0:=f0.st a0
    replace d0:=d0.st a0
    rintro k5 l5 ⟨i3,m5,h2,hB,f0,h8,h0,j0,i0,d0,q0⟩
    refine AO _ h2 ?_
    refine Cs rfl (fun p1=>?_) (fun p1=>?_)
    ·
     replace b0:=ip b0 p1
     refine Aj (Am rfl rfl (Am rfl rfl ?_))
     obtain ⟨n5,q1,b0⟩:=bs b0
     obtain ⟨q1,m3,n3⟩:=Ce q1
     refine DS rfl (a:=s0.1) d0 q0 (fun _=>rfl) rfl (by decide) (by decide) m3 n3 ⟨rfl,rfl⟩ fun o5 o3 p3 p5 q5 t0 i2=>?_
     rw [← q1] at i2 ⊢
     refine At rfl rfl (o_z ?_)
     obtain rfl:=sm b0
     exact show Exists _ from ⟨_,(o3,p3),rfl,⟨rfl,rfl,rfl,rfl,rfl,rfl,trivial⟩,_,hB.st t0,f0.st t0,h8.st t0,h0.st t0,j0.st t0,i0.st t0,i2⟩
    replace b0:=im' b0 p1
    refine AK ?_
    obtain rfl:=sm b0
    exact show Exists _ from ⟨_,(p0.1,p0.2),rfl,⟨rfl,rfl,rfl,rfl,rfl,rfl,trivial⟩,_,hB,f0,h8,h0,j0,i0,d0⟩
   rintro r5 s5 ⟨t5,j2,rfl,k2,u5,hB,f0,h8,h0,j0,i0,d0⟩
   replace g0:=Bh g0
   refine AO _ k2 ?_
   refine Aj (Am rfl rfl ?_)
   obtain ⟨w5,l2,g0⟩:=bs g0
   have q3:=(BE l2)
   refine ES (he:=l2) rfl rfl rfl ?_
   refine At rfl rfl (o_z ?_)
   obtain rfl:=sm g0
   exact show Exists _ from ⟨_,(j2.1,j2.2),rfl,⟨rfl,rfl,rfl,rfl,trivial⟩,_,hB,f0,h8,h0,j0,i0,d0,q3⟩
  replace g0:=im' g0 y2
  refine Cz ?_
  obtain rfl:=sm g0
  exact show Exists _ from ⟨_,(m0.1,m0.2),n1 _ rfl,⟨rfl,rfl,trivial⟩,_,hB,o0,z3⟩
 replace hB:=(((((hB.st s1).st i1).st j1).st k1).st l1).st m1
 rintro x5 y5 ⟨e1,g1,rfl,m2,z5,hB,o0,z3⟩
 replace hm:=Bh hm
 refine AO _ m2 ?_
 refine Al ?_
 obtain ⟨r3,n0,hm⟩:=bs hm
 refine AM (fun l' w'=>∃ (s3:Unit) (O':Lab),subs l' [(4,(.slice g1.1 e1.1.length g1.2)),(5,(.bool r3))]∧Bs w A w' O'∧Rw 4 w' O' 22 (.slice g1.1 e1.1.length g1.2) e1.1) ?_ ?_
 ·
  refine Aj (Am rfl rfl (Am rfl rfl (AQ rfl rfl ?_)))
  have t3:e1.1.length≤9223372036854775807:=Nat.le_trans o0.len.2.1 o0.len.2.2
  have a6:inI64 (e1.1.length:Int):=rngNat t3
  refine Am rfl rfl (KD rfl rfl rfl (fun r1=>?_) fun r1=>?_)
  ·
   replace n0:=ip n0 r1
   refine At rfl rfl (At rfl rfl (o_z ?_))
   obtain rfl:=sm n0
   exact ⟨(),_,⟨rfl,rfl,trivial⟩,hB,o0⟩
  replace n0:=im n0 r1
  refine At rfl rfl (At rfl rfl (o_z ?_))
  obtain rfl:=sm n0
  exact ⟨(),_,⟨rfl,rfl,trivial⟩,hB,o0⟩
 rintro b6 u3 ⟨s3,c6,n2,hB,o0⟩
 refine AO _ n2 ?_
 refine AL ?_
 obtain ⟨v3,w3,o0⟩:=o0.freeze
 obtain rfl:=sm hm
 replace hB:=hB.st w3
 exact ret2 rfl (AA rfl) (AA rfl) ⟨hB.ext,_,_,rfl,(Vb.mono (F:=Fr 0 u3 v3) o0 hB.out),vBool⟩
noncomputable def Es (x0:Tsk) (x1:List (List Int)):Option (List Edj) :=
  bnd (rng (ρ:=(List Edj)) (fun (k33:Nat) (a34:List Int) (s31:(List Edj))=>bnd (rng (ρ:=Ctl (List Edj) (List Edj)) (fun (k54:Nat) (a55:Opr) (s52:(List Edj))=>bnd (CT x0 a34 (k54:Int)) fun q80=>if q80.2=true then (bnd (Dh x1 q80.1) fun q94=>bnd (appI 24 s52 [(⟨(k33:Int),(k54:Int),q94⟩:Edj)]) fun u102=>some (.next u102)) else (some (.next s52))) x0.ops 0 s31) fun res50=>fin res50 fun (s118:(List Edj))=>some (.next s118)) x1 0 ([]:List Edj)) fun res29=>fin res29 fun (s124:(List Edj))=>some s124
theorem Kz {w:World} {A:Nat→Prop} (hA:∀ k,A k→k < w.heap.size) {vx0:Value} {x0:Tsk} (o1:Vb w A vx0 x0) {vx1:Value} {x1:List (List Int)} (b0:Vb w A vx1 x1) {r:(List Edj)} (hm:Es x0 x1=some r) :
    Fn Tryz.prog 14 [vx0,vx1] w fun v w'=>Ext w w'∧Vb w' (upA A w w') v r:=by
 obtain ⟨O,hB,o2⟩:=enter hA
 replace o1:=o1.mono o2
 obtain ⟨q3,rfl,v4,v5,v6,v7,rfl,h8,f0,g0,c0⟩:=o1
 obtain ⟨A9,o0,rfl⟩:=h8.form
 obtain ⟨p0,q0,rfl⟩:=f0.form
 obtain ⟨r0,s0,rfl⟩:=g0.form
 obtain ⟨t0,u0,rfl⟩:=c0.form
 replace b0:=b0.mono o2
 obtain ⟨d1,e1,rfl⟩:=b0.form
 refine AI Tryz.func14 rfl Tryz.ntmps14 rfl ?_
 unfold Es at hm
 refine Al (Aj (DR 2 O rfl rfl fun y0 s2 p2 z0 h0=>?_))
 replace h0:Lc 2 s2 p2 y0 26 [(.slice A9 x0.vars.length o0),(.slice p0 x0.init.length q0),(.slice r0 x0.goal.length s0),(.slice t0 x0.ops.length u0)]:=h0
 refine At rfl rfl (o_z ?_)
 refine Al (Aj (At rfl rfl (o_z ?_)))
 refine Al (Al (Aj (Am rfl rfl (AQ rfl rfl ?_))))
 replace b0:=b0.st z0
 have p1:x1.length≤9223372036854775807:=Nat.le_trans b0.len.2.1 b0.len.2.2
 have r3:inI64 (x1.length:Int):=rngNat p1
 refine Am rfl rfl (o_z ?_)
 obtain ⟨f1,q1,hm⟩:=bs hm
 refine AM (aft f1 (fun (m0:(List Edj)) (j0:(Option Addr×Nat))=>[(5,(.slice j0.1 m0.length j0.2))]) (fun m0 j0 w'=>∃ O':Lab,Bs w A w' O'∧Rw 3 w' O' 94 (.slice j0.1 m0.length j0.2) m0)) ?_ ?_
 ·
  refine AP ?_
  replace hB:=hB.st z0
  replace h8:=h8.st z0
  replace f0:=f0.st z0
  replace g0:=g0.st z0
  replace c0:=c0.st z0
  refine Ca (σ:=(List Edj)) (X:=(Option Addr×Nat)) (x1.length) q1 rfl p1 (fun (m0:(List Edj)) (j0:(Option Addr×Nat))=>[(1,(.slice d1 x1.length e1)),(2,(.pointer (some ⟨y0,0,none⟩))),(5,(.slice j0.1 m0.length j0.2))]) _ (fun m0 j0 w'=>∃ O':Lab,Bs w A w' O'∧Vb w' (Fr 0 w' O') (.slice d1 x1.length e1) x1∧Lc 2 w' O' y0 26 [(.slice A9 x0.vars.length o0),(.slice p0 x0.init.length q0),(.slice r0 x0.goal.length s0),(.slice t0 x0.ops.length u0)]∧Vb w' (Fr 0 w' O') (.slice A9 x0.vars.length o0) x0.vars∧Vb w' (Fr 0 w' O') (.slice p0 x0.init.length q0) x0.init∧Vb w' (Fr 0 w' O') (.slice r0 x0.goal.length s0) x0.goal∧Vb w' (Fr 0 w' O') (.slice t0 x0.ops.length u0) x0.ops∧Rw 3 w' O' 94 (.slice j0.1 m0.length j0.2) m0) _ (none,0) ⟨p2,hB,b0,h0,h8,f0,g0,c0,(Rw.nil 3 (by decide))⟩ ⟨rfl,rfl,rfl,rfl,rfl,trivial⟩ (fun _ _=>⟨rfl,rfl⟩) (fun _ _=>⟨rfl,trivial⟩) (fun _ _ _ ⟨O',hB,b0,h0,h8,f0,g0,c0,a1⟩=>⟨O',hB,a1⟩) ⟨rfl,rfl,rfl⟩ ⟨rfl,rfl⟩ ?_
  rintro b1 s3 m0 j0 t3 t2 g1 ⟨u2,hB,b0,h0,h8,f0,g0,c0,a1⟩ l0 r1 s1
  have rk33:inI64 (b1:Int):=rngK g1 p1
  refine Al (Aj (Am rfl rfl (At rfl rfl (o_z ?_))))
  refine Al (Aj (AG rfl rfl (AD (hc:=Blk.cell (i:=3) (h0.1) rfl) rfl rfl ?_)))
  refine AQ rfl rfl ?_
  have t1:x0.ops.length≤9223372036854775807:=Nat.le_trans c0.len.2.1 c0.len.2.2
  have u3:inI64 (x0.ops.length:Int):=rngNat t1
  refine Am rfl rfl (o_z ?_)
  obtain ⟨h1,u1,l0⟩:=bs l0
  refine AM (aft h1 (fun (n0:(List Edj)) (k0:(Option Addr×Nat))=>[(1,(.slice d1 x1.length e1)),(2,(.pointer (some ⟨y0,0,none⟩))),(5,(.slice k0.1 n0.length k0.2)),(11,(.int .i64 (x1.length:Int))),(12,(.int .i64 (b1:Int)))]) (fun n0 k0 w'=>∃ O':Lab,Bs w A w' O'∧Vb w' (Fr 0 w' O') (.slice d1 x1.length e1) x1∧Lc 2 w' O' y0 26 [(.slice A9 x0.vars.length o0),(.slice p0 x0.init.length q0),(.slice r0 x0.goal.length s0),(.slice t0 x0.ops.length u0)]∧Vb w' (Fr 0 w' O') (.slice A9 x0.vars.length o0) x0.vars∧Vb w' (Fr 0 w' O') (.slice p0 x0.init.length q0) x0.init∧Vb w' (Fr 0 w' O') (.slice r0 x0.goal.length s0) x0.goal∧Vb w' (Fr 0 w' O') (.slice t0 x0.ops.length u0) x0.ops∧Rw 3 w' O' 94 (.slice k0.1 n0.length k0.2) n0)) ?_ ?_
  ·
   refine AP (Ca (σ:=(List Edj)) (X:=(Option Addr×Nat)) (x0.ops.length) u1 rfl t1 (fun (n0:(List Edj)) (k0:(Option Addr×Nat))=>[(1,(.slice d1 x1.length e1)),(2,(.pointer (some ⟨y0,0,none⟩))),(5,(.slice k0.1 n0.length k0.2)),(6,(.int .i64 (b1:Int))),(11,(.int .i64 (x1.length:Int))),(12,(.int .i64 (b1:Int)))]) _ (fun n0 k0 w'=>∃ O':Lab,Bs w A w' O'∧Vb w' (Fr 0 w' O') (.slice d1 x1.length e1) x1∧Lc 2 w' O' y0 26 [(.slice A9 x0.vars.length o0),(.slice p0 x0.init.length q0),(.slice r0 x0.goal.length s0),(.slice t0 x0.ops.length u0)]∧Vb w' (Fr 0 w' O') (.slice A9 x0.vars.length o0) x0.vars∧Vb w' (Fr 0 w' O') (.slice p0 x0.init.length q0) x0.init∧Vb w' (Fr 0 w' O') (.slice r0 x0.goal.length s0) x0.goal∧Vb w' (Fr 0 w' O') (.slice t0 x0.ops.length u0) x0.ops∧Rw 3 w' O' 94 (.slice k0.1 n0.length k0.2) n0) _ (j0.1,j0.2) ⟨u2,hB,b0,h0,h8,f0,g0,c0,a1⟩ ⟨rfl,rfl,rfl,rfl,rfl,rfl,rfl,rfl,trivial⟩ (fun _ _=>⟨rfl,rfl⟩) (fun _ _=>⟨rfl,rfl,rfl,rfl,rfl,trivial⟩) (fun _ _ _ ⟨O',hB,b0,h0,h8,f0,g0,c0,v0⟩=>⟨O',hB,b0,h0,h8,f0,g0,c0,v0⟩) ⟨rfl,rfl,rfl⟩ ⟨rfl,rfl⟩ ?_)
   rintro l1 v3 n0 k0 w3 v2 v1 ⟨q2,hB,b0,h0,h8,f0,g0,c0,v0⟩ a0 w1 y1
   have rk54:inI64 (l1:Int):=rngK v1 t1
   refine Al (Aj (Am rfl rfl (At rfl rfl (o_z ?_))))
   refine Al (Bv [] q2 ?_)
   refine AU (fuel:=6) [] [(0,true),(1,true),(2,true),(3,true),(4,true),(5,true)] (by kernel_rfl) rfl ?_
   refine EQ (hl:=rfl) (hb:=fun w' ⟨O',hq⟩=>((h0.st hq (by decide)).1).cellsAt) rfl rfl rfl ?_
   refine AF rfl rfl rfl (AF rfl rfl rfl ?_)
   obtain ⟨x3,y3,w2,z1,a2,b2,c2,z3,rfl,m1⟩:=b0.elem g1
   replace m1:=Vb.of_slice m1
   obtain ⟨a4,b4,rfl⟩:=m1.form
   refine BC (hA:=z1) (hj:=rfl) (hlt:=b2) rfl rfl rfl rfl ?_
   refine AV (hc:=fun w' ⟨O',hq⟩=>cat0 (Bd (hq.agree (i:=0) (by decide)) a2 c2)) rfl rfl rfl ?_
   refine AF rfl rfl rfl (AJ ?_)
   refine Bc (i:=6) (by kernel_rfl) rfl ?_
   obtain ⟨x2,y2,a0⟩:=bs a0
   refine Eg (O:=q2) (R:=fun w' F v=>T2 w' F v x2) (Ii Fr.lt (Vb.ofAgg (cs:=[(.slice A9 x0.vars.length o0),(.slice p0 x0.init.length q0),(.slice r0 x0.goal.length s0),(.slice t0 x0.ops.length u0)]) (x:=x0) rfl ⟨_,_,_,_,rfl,h8,f0,g0,c0⟩) m1 rk54 y2) rfl rfl fun c4 d2 e2 d0 z2=>?_
   obtain ⟨d4,e4,rfl,r2,a3⟩:=z2
   obtain ⟨f4,g4,rfl⟩:=r2.form
   obtain rfl:=a3.bool
   have hZ:=d0.lst [] (fun _ h=>h.elim)
   refine Bt [] hZ (by kernel_rfl) ?_
   refine AU (fuel:=0) [] [(7,true),(8,true),(9,true),(10,true),(11,true)] (by kernel_rfl) rfl ?_
   refine AF rfl rfl rfl (JQ rfl rfl rfl rfl (JQ rfl rfl rfl rfl (CB rfl rfl rfl (CB rfl rfl rfl (AJ ?_)))))
   refine BW (by kernel_rfl) ?_
   refine Al (Aj (Am rfl rfl (o_z ?_)))
   refine Cs rfl (fun f2=>?_) (fun f2=>?_)
   ·
    replace a0:=ip a0 f2
    refine Aj (Am rfl rfl (Am rfl rfl (Am rfl rfl (Am rfl rfl (Am rfl rfl ?_)))))
    obtain ⟨n1,b3,a0⟩:=bs a0
    replace b0:=b0.st d0
    refine BU (O:=e2) (A:=All d2) (R:=fun w' F v=>Vb w' F v n1) (Iq (fun _ h=>h) (Vb.mono (F:=Fr 0 d2 e2) b0 Fr.lt) (Vb.mono (F:=Fr 0 d2 e2) r2 Fr.lt) b3) rfl rfl fun c3 h4 i4 w0 d3=>?_
    obtain ⟨rfl,g2⟩:=d3.int
    refine ED rfl rfl rfl ?_
    obtain ⟨e3,c1,a0⟩:=bs a0
    obtain ⟨c1,h2,i2⟩:=Ce c1
    replace v0:=(v0.st d0).st w0
    refine DS rfl (a:=(⟨(b1:Int),(l1:Int),n1⟩:Edj)) v0 (Vb.ofAgg (cs:=[(.int .i64 (b1:Int)),(.int .i64 (l1:Int)),(.int .i64 n1)]) (x:=(⟨(b1:Int),(l1:Int),n1⟩:Edj)) rfl ⟨rfl,rk33,rk54,g2⟩) (fun _=>rfl) rfl (by decide) (by decide) h2 i2 ⟨rfl,rfl⟩ fun f3 j2 k2 g3 h3 i0 i1=>?_
    rw [← c1] at i1 ⊢
    refine At rfl rfl (o_z ?_)
    obtain rfl:=sm a0
    exact show Exists _ from ⟨_,(j2,k2),rfl,⟨rfl,rfl,rfl,rfl,rfl,rfl,rfl,rfl,trivial⟩,_,((hB.st d0).st w0).st i0,(b0.st w0).st i0,((h0.st d0).st w0).st i0,((h8.st d0).st w0).st i0,((f0.st d0).st w0).st i0,((g0.st d0).st w0).st i0,((c0.st d0).st w0).st i0,i1⟩
   replace a0:=im' a0 f2
   refine AK ?_
   obtain rfl:=sm a0
   exact show Exists _ from ⟨_,(k0.1,k0.2),rfl,⟨rfl,rfl,rfl,rfl,rfl,rfl,rfl,rfl,trivial⟩,_,hB.st d0,b0.st d0,h0.st d0,h8.st d0,f0.st d0,g0.st d0,c0.st d0,v0.st d0⟩
  rintro i3 j3 ⟨k3,j1,rfl,e0,l3,hB,b0,h0,h8,f0,g0,c0,v0⟩
  replace l0:=Bh l0
  obtain rfl:=sm l0
  exact show Exists _ from ⟨_,(j1.1,j1.2),rfl,⟨(Cp e0 _ _ rfl),(Cp e0 _ _ rfl),(Cp e0 _ _ rfl),(Cp e0 _ _ rfl),(Cp e0 _ _ rfl),trivial⟩,_,hB,b0,h0,h8,f0,g0,c0,v0⟩
 replace hB:=hB.st z0
 rintro m3 l2 ⟨n3,o3,rfl,k1,p3,hB,a1⟩
 replace hm:=Bh hm
 refine AO _ k1 ?_
 refine Al (Aj (Am rfl rfl (At rfl rfl (o_z ?_))))
 refine AL ?_
 obtain ⟨m2,n2,a1⟩:=a1.freeze
 obtain rfl:=sm hm
 replace hB:=hB.st n2
 exact ret1v rfl (AA rfl) ⟨hB.ext,(Vb.mono (F:=Fr 0 l2 m2) a1 hB.out)⟩
noncomputable def CL (x0:Tsk) (x1:List (List Int)) (x2:List Edj):Option ((List Int)×(List Int)) :=
  bnd (mkI 8 (0:Int) (x1.length:Int)) fun u30=>bnd (mkI 8 (0:Int) (x1.length:Int)) fun u32=>bnd (some (u30,u32):Option ((List Int)×(List Int))) fun y34=>bnd (rng (ρ:=(List Int)×(List Int)) (fun (k100:Nat) (a101:List Int) (s98:(List Int))=>bnd (CS x0.goal a101) fun q126=>if q126=true then some (.next s98) else bnd (s98[k100]?) fun a133=>some (.next (s98.set k100 1125899906842624))) x1 0 y34.1) fun res96=>fin res96 fun (s149:(List Int))=>bnd (lop (ρ:=(List Int)×(List Int)) (fun (s153:(List Int)×(List Int)×Bool)=>if s153.2.2=true then (bnd (rng (ρ:=Ctl ((List Int)×(List Int)×Bool) ((List Int)×(List Int))) (fun (k181:Nat) (a182:Edj) (s179:(List Int)×(List Int)×Bool)=>bnd (atI s179.1 a182.dst) fun a217=>if a217=1125899906842624 then (some (.next (s179.1,s179.2.1,s179.2.2))) else (bnd (atI s179.1 a182.dst) fun a230=>bnd (atI x0.ops a182.label) fun a242=>bnd (chkI (a230 + a242.cost)) fun n263=>bnd (atI s179.2.1 a182.dst) fun a266=>bnd (chkI (a266 + 1)) fun n278=>bnd (bnd (atI s179.1 a182.src) fun a285=>if n263 < a285 then (some true) else (bnd (atI s179.1 a182.src) fun a298=>if n263=a298 then (bnd (atI s179.2.1 a182.src) fun a311=>if n278 < a311 then (some true) else (some false)) else (some false)):Option Bool) fun y281=>if y281=true then (bnd (atI s179.1 a182.src) fun a329=>bnd (atI s179.2.1 a182.src) fun a343=>some (.next ((s179.1.set (a182.src:Int).toNat n263),(s179.2.1.set (a182.src:Int).toNat n278),true))) else (some (.next (s179.1,s179.2.1,s179.2.2))))) x2 0 (s153.1,s153.2.1,false)) fun res177=>fin res177 fun (s361:(List Int)×(List Int)×Bool)=>some (.next (s361.1,s361.2.1,s361.2.2))) else (some (.brk (s153.1,s153.2.1,s153.2.2)))) (s149,y34.2,true)) fun res151=>fin res151 fun (s367:(List Int)×(List Int)×Bool)=>some (s367.1,s367.2.1)
theorem Gd {w:World} {A:Nat→Prop} (hA:∀ k,A k→k < w.heap.size) {vx0:Value} {x0:Tsk} (c5:Vb w A vx0 x0) {vx1:Value} {x1:List (List Int)} (t0:Vb w A vx1 x1) {vx2:Value} {x2:List Edj} (j0:Vb w A vx2 x2) {r:(List Int)×(List Int)} (hm:CL x0 x1 x2=some r) :
    Fn Tryz.prog 15 [vx0,vx1,vx2] w fun v w'=>Ext w w'∧T2 w' (upA A w w') v r:=by
 obtain ⟨O,hB,d5⟩:=enter hA
 replace c5:=c5.mono d5
 obtain ⟨mC,rfl,v5,v6,v7,v8,rfl,h9,q0,l0,m0⟩:=c5
 obtain ⟨g1,h1,rfl⟩:=h9.form
 obtain ⟨i1,j1,rfl⟩:=q0.form
 obtain ⟨k1,l1,rfl⟩:=l0.form
 obtain ⟨m1,n1,rfl⟩:=m0.form
 replace t0:=t0.mono d5
 obtain ⟨t4,u4,rfl⟩:=t0.form
 replace j0:=j0.mono d5
 obtain ⟨e1,f1,rfl⟩:=j0.form
 refine AI Tryz.func15 rfl Tryz.ntmps15 rfl ?_
 unfold CL at hm
 refine Al (Aj (DR 2 O rfl rfl fun o1 x7 v4 u0 n0=>?_))
 replace n0:Lc 2 x7 v4 o1 26 [(.slice g1 x0.vars.length h1),(.slice i1 x0.init.length j1),(.slice k1 x0.goal.length l1),(.slice m1 x0.ops.length n1)]:=n0
 refine At rfl rfl (At rfl rfl (o_z ?_))
 refine Al ?_
 obtain ⟨nC,w6,hm⟩:=bs hm
 obtain ⟨oC,x6,hm⟩:=bs hm
 obtain ⟨k0,s2,hm⟩:=bs hm
 refine AM (fun l' w'=>∃ (e0:(Option Addr×Nat)×(Option Addr×Nat)) (O':Lab),subs l' [(1,(.slice t4 x1.length u4)),(2,(.slice e1 x2.length f1)),(3,(.pointer (some ⟨o1,0,none⟩))),(8,(.slice e0.1.1 k0.1.length e0.1.2)),(9,(.slice e0.2.1 k0.2.length e0.2.2))]∧Bs w A w' O'∧Vb w' (Fr 0 w' O') (.slice t4 x1.length u4) x1∧Vb w' (Fr 0 w' O') (.slice e1 x2.length f1) x2∧Lc 2 w' O' o1 26 [(.slice g1 x0.vars.length h1),(.slice i1 x0.init.length j1),(.slice k1 x0.goal.length l1),(.slice m1 x0.ops.length n1)]∧Vb w' (Fr 0 w' O') (.slice g1 x0.vars.length h1) x0.vars∧Vb w' (Fr 0 w' O') (.slice i1 x0.init.length j1) x0.init∧Vb w' (Fr 0 w' O') (.slice k1 x0.goal.length l1) x0.goal∧Vb w' (Fr 0 w' O') (.slice m1 x0.ops.length n1) x0.ops∧Rw 3 w' O' 3 (.slice e0.1.1 k0.1.length e0.1.2) k0.1∧Rw 4 w' O' 3 (.slice e0.2.1 k0.2.length e0.2.2) k0.2) ?_ ?_
 ·
  refine Bv [] v4 ?_
  refine AU (fuel:=4) [] [(0,true),(1,true),(3,true),(4,true)] (by kernel_rfl) rfl ?_
  refine AF rfl rfl rfl (Hk rfl rfl rfl ?_)
  replace t0:=t0.st u0
  have y7:x1.length≤9223372036854775807:=Nat.le_trans t0.len.2.1 t0.len.2.2
  have pC:inI64 (x1.length:Int):=rngNat y7
  refine AF rfl rfl rfl (Hk rfl rfl rfl ?_)
  have z7:x1.length≤9223372036854775807:=Nat.le_trans t0.len.2.1 t0.len.2.2
  have qC:inI64 (x1.length:Int):=rngNat z7
  refine AJ ?_
  refine IM (i:=2) (j:=5) (by kernel_rfl) rfl rfl ?_ ?_
  ·
   obtain ⟨a8,b8,c8,d8,e8⟩:=Df w6
   refine EE 3 (by decide) v4 (z0:=(0:Int)) rfl rfl rfl rfl rfl b8 (vInt (show inI64 0 from by decide)) c8 d8 rfl fun f8 rC g8 s1 y6=>?_
   rw [← e8] at y6 ⊢
   have hZ:=s1.lst [] (fun _ h=>h.elim)
   refine Bt [] hZ (by kernel_rfl) ?_
   refine AU (fuel:=2) [] [(6,true)] (by kernel_rfl) rfl ?_
   refine CB rfl rfl rfl (AJ ?_)
   refine Bc (i:=5) (by kernel_rfl) rfl ?_
   obtain ⟨h8,i8,j8,k8,l8⟩:=Df x6
   refine EE 4 (by decide) g8 (z0:=(0:Int)) rfl rfl rfl rfl rfl i8 (vInt (show inI64 0 from by decide)) j8 k8 rfl fun m8 sC tC q1 z6=>?_
   rw [← l8] at z6 ⊢
   have hZ:=q1.lst [] (fun _ h=>h.elim)
   refine Bt [] hZ (by kernel_rfl) ?_
   refine AU (fuel:=0) [] [(7,true)] (by kernel_rfl) rfl ?_
   refine CB rfl rfl rfl (AJ ?_)
   refine BW (by kernel_rfl) ?_
   obtain rfl:=sm s2
   exact ⟨(((some ⟨f8,0,none⟩),a8),((some ⟨m8,0,none⟩),h8)),_,⟨rfl,rfl,rfl,rfl,rfl,trivial⟩,((hB.st u0).st s1).st q1,(t0.st s1).st q1,((j0.st u0).st s1).st q1,(n0.st s1).st q1,((h9.st u0).st s1).st q1,((q0.st u0).st s1).st q1,((l0.st u0).st s1).st q1,((m0.st u0).st s1).st q1,y6.st q1,z6⟩
  obtain ⟨n8,o8,p8,q8,r8⟩:=Df x6
  refine EE 4 (by decide) v4 (z0:=(0:Int)) rfl rfl rfl rfl rfl o8 (vInt (show inI64 0 from by decide)) p8 q8 rfl fun s8 uC t8 t1 a7=>?_
  rw [← r8] at a7 ⊢
  have hZ:=t1.lst [] (fun _ h=>h.elim)
  refine Bt [] hZ (by kernel_rfl) ?_
  refine Bc (i:=2) (by kernel_rfl) rfl ?_
  obtain ⟨u8,w8,x8,y8,z8⟩:=Df w6
  refine EE 3 (by decide) t8 (z0:=(0:Int)) rfl rfl rfl rfl rfl w8 (vInt (show inI64 0 from by decide)) x8 y8 rfl fun a9 vC wC r1 b7=>?_
  rw [← z8] at b7 ⊢
  have hZ:=r1.lst [] (fun _ h=>h.elim)
  refine Bt [] hZ (by kernel_rfl) ?_
  refine AU (fuel:=0) [] [(6,true),(7,true)] (by kernel_rfl) rfl ?_
  refine CB rfl rfl rfl (CB rfl rfl rfl (AJ ?_))
  refine BW (by kernel_rfl) ?_
  obtain rfl:=sm s2
  exact ⟨(((some ⟨a9,0,none⟩),u8),((some ⟨s8,0,none⟩),n8)),_,⟨rfl,rfl,rfl,rfl,rfl,trivial⟩,((hB.st u0).st t1).st r1,(t0.st t1).st r1,((j0.st u0).st t1).st r1,(n0.st t1).st r1,((h9.st u0).st t1).st r1,((q0.st u0).st t1).st r1,((l0.st u0).st t1).st r1,((m0.st u0).st t1).st r1,b7,a7.st r1⟩
 replace hB:=hB.st u0
 replace t0:=t0.st u0
 replace j0:=j0.st u0
 replace h9:=h9.st u0
 replace q0:=q0.st u0
 replace l0:=l0.st u0
 replace m0:=m0.st u0
 rintro xC yC ⟨e0,b9,e5,hB,t0,j0,n0,h9,q0,l0,m0,c9,a2⟩
 refine AO _ e5 ?_
 refine Al (Al (Aj (Am rfl rfl (AQ rfl rfl ?_))))
 have f5:x1.length≤9223372036854775807:=Nat.le_trans t0.len.2.1 t0.len.2.2
 have zC:inI64 (x1.length:Int):=rngNat f5
 refine Am rfl rfl (o_z ?_)
 obtain ⟨t2,g5,hm⟩:=bs hm
 refine AM (aft t2 (fun (r2:(List Int)) (w4:Unit)=>[(2,(.slice e1 x2.length f1)),(3,(.pointer (some ⟨o1,0,none⟩))),(8,(.slice e0.1.1 k0.1.length e0.1.2)),(9,(.slice e0.2.1 k0.2.length e0.2.2))]) (fun r2 w4 w'=>∃ O':Lab,Bs w A w' O'∧Vb w' (Fr 0 w' O') (.slice e1 x2.length f1) x2∧Lc 2 w' O' o1 26 [(.slice g1 x0.vars.length h1),(.slice i1 x0.init.length j1),(.slice k1 x0.goal.length l1),(.slice m1 x0.ops.length n1)]∧Vb w' (Fr 0 w' O') (.slice g1 x0.vars.length h1) x0.vars∧Vb w' (Fr 0 w' O') (.slice i1 x0.init.length j1) x0.init∧Vb w' (Fr 0 w' O') (.slice k1 x0.goal.length l1) x0.goal∧Vb w' (Fr 0 w' O') (.slice m1 x0.ops.length n1) x0.ops∧Rw 3 w' O' 3 (.slice e0.1.1 k0.1.length e0.1.2) r2∧Rw 4 w' O' 3 (.slice e0.2.1 k0.2.length e0.2.2) k0.2)) ?_ ?_
 ·
  refine AP (Ca (σ:=(List Int)) (X:=Unit) (x1.length) g5 rfl f5 (fun (r2:(List Int)) (w4:Unit)=>[(1,(.slice t4 x1.length u4)),(2,(.slice e1 x2.length f1)),(3,(.pointer (some ⟨o1,0,none⟩))),(8,(.slice e0.1.1 k0.1.length e0.1.2)),(9,(.slice e0.2.1 k0.2.length e0.2.2))]) _ (fun r2 w4 w'=>∃ O':Lab,Bs w A w' O'∧Vb w' (Fr 0 w' O') (.slice t4 x1.length u4) x1∧Vb w' (Fr 0 w' O') (.slice e1 x2.length f1) x2∧Lc 2 w' O' o1 26 [(.slice g1 x0.vars.length h1),(.slice i1 x0.init.length j1),(.slice k1 x0.goal.length l1),(.slice m1 x0.ops.length n1)]∧Vb w' (Fr 0 w' O') (.slice g1 x0.vars.length h1) x0.vars∧Vb w' (Fr 0 w' O') (.slice i1 x0.init.length j1) x0.init∧Vb w' (Fr 0 w' O') (.slice k1 x0.goal.length l1) x0.goal∧Vb w' (Fr 0 w' O') (.slice m1 x0.ops.length n1) x0.ops∧Rw 3 w' O' 3 (.slice e0.1.1 k0.1.length e0.1.2) r2∧Rw 4 w' O' 3 (.slice e0.2.1 k0.2.length e0.2.2) k0.2) _ () ⟨b9,hB,t0,j0,n0,h9,q0,l0,m0,c9,a2⟩ ⟨rfl,rfl,rfl,rfl,rfl,rfl,rfl,trivial⟩ (fun _ _=>⟨rfl,rfl⟩) (fun _ _=>⟨rfl,rfl,rfl,rfl,trivial⟩) (fun _ _ _ ⟨O',hB,t0,j0,n0,h9,q0,l0,m0,s0,a2⟩=>⟨O',hB,j0,n0,h9,q0,l0,m0,s0,a2⟩) ⟨rfl,rfl,rfl⟩ ⟨rfl,rfl⟩ ?_)
  rintro h5 d9 r2 w4 g2 c7 b2 ⟨u1,hB,t0,j0,n0,h9,q0,l0,m0,s0,a2⟩ o0 x4 y4
  have rk100:inI64 (h5:Int):=rngK b2 f5
  refine Al (Aj (Am rfl rfl (At rfl rfl (o_z ?_))))
  refine Al (Bv [] u1 ?_)
  refine AU (fuel:=2) [] [(0,true),(1,true),(2,true),(3,true),(4,true),(5,true)] (by kernel_rfl) rfl ?_
  refine AR rfl rfl rfl (AV (hc:=fun w' ⟨O',hq⟩=>Blk.cell (i:=2) ((n0.st hq (by decide)).1) rfl) rfl rfl rfl ?_)
  refine AF rfl rfl rfl (AF rfl rfl rfl ?_)
  obtain ⟨e9,f9,d7,u2,v2,w2,y2,g9,rfl,v1⟩:=t0.elem b2
  replace v1:=Vb.of_slice v1
  obtain ⟨i9,j9,rfl⟩:=v1.form
  refine BC (hA:=u2) (hj:=rfl) (hlt:=w2) rfl rfl rfl rfl ?_
  refine AV (hc:=fun w' ⟨O',hq⟩=>cat0 (Bd (hq.agree (i:=0) (by decide)) v2 y2)) rfl rfl rfl ?_
  refine AJ ?_
  refine Bc (i:=6) (by kernel_rfl) rfl ?_
  obtain ⟨z2,i5,o0⟩:=bs o0
  refine BU (O:=u1) (A:=All g2) (R:=fun w' F v=>Vb w' F v z2) (Gt (fun _ h=>h) (Vb.mono (F:=Fr 0 g2 u1) l0 Fr.lt) (Vb.mono (F:=Fr 0 g2 u1) v1 Fr.lt) i5) rfl rfl fun k9 l9 m9 f0 j5=>?_
  obtain rfl:=j5.bool
  have hZ:=f0.lst [] (fun _ h=>h.elim)
  cases z2
  case false =>
   replace o0:=iF o0
   refine Bt [] hZ (by kernel_rfl) ?_
   refine AU (fuel:=0) [] [(7,true)] (by kernel_rfl) rfl ?_
   refine NI rfl rfl rfl (AJ ?_)
   refine BW (by kernel_rfl) ?_
   refine Ah rfl (Aj (Am rfl rfl (Am rfl rfl ?_)))
   obtain ⟨n9,a3,o0⟩:=bs o0
   replace s0:=s0.st f0
   obtain ⟨o9,p9,e7,c2,b3,f7,rfl,q9⟩:=s0.elem a3
   refine Br (hA:=c2) (hj:=rfl) (hlt:=b3) rfl rfl rfl ?_
   refine De rfl s0 (a:=1125899906842624) (vInt (show inI64 (1125899906842624) from by decide)) c2 rfl rfl (AC a3) fun r9 v0 s0=>?_
   refine o_z ?_
   obtain rfl:=sm o0
   exact show Exists _ from ⟨_,(),rfl,⟨rfl,rfl,rfl,rfl,rfl,rfl,rfl,trivial⟩,_,(hB.st f0).st v0,(t0.st f0).st v0,(j0.st f0).st v0,(n0.st f0).st v0,(h9.st f0).st v0,(q0.st f0).st v0,(l0.st f0).st v0,(m0.st f0).st v0,s0,(a2.st f0).st v0⟩
  replace o0:=iT o0
  refine Bt [] hZ (by kernel_rfl) ?_
  refine AU (fuel:=0) [] [(7,true)] (by kernel_rfl) rfl ?_
  refine NH rfl rfl rfl (AJ ?_)
  refine BW (by kernel_rfl) ?_
  refine Ae rfl (AK ?_)
  obtain rfl:=sm o0
  exact show Exists _ from ⟨_,(),rfl,⟨rfl,rfl,rfl,rfl,rfl,rfl,rfl,trivial⟩,_,hB.st f0,t0.st f0,j0.st f0,n0.st f0,h9.st f0,q0.st f0,l0.st f0,m0.st f0,s0.st f0,a2.st f0⟩
 rintro s9 t9 ⟨u9,v9,rfl,c3,k5,hB,j0,n0,h9,q0,l0,m0,s0,a2⟩
 replace hm:=Bh hm
 refine AO _ c3 ?_
 refine Al (Al (Aj (At rfl rfl (o_z ?_))))
 obtain ⟨h2,d3,hm⟩:=bs hm
 refine AM (aft h2 (fun (w0:(List Int)×(List Int)×Bool) (w1:Unit)=>[(8,(.slice e0.1.1 k0.1.length e0.1.2)),(9,(.slice e0.2.1 k0.2.length e0.2.2))]) (fun w0 w1 w'=>∃ O':Lab,Bs w A w' O'∧Rw 3 w' O' 3 (.slice e0.1.1 k0.1.length e0.1.2) w0.1∧Rw 4 w' O' 3 (.slice e0.2.1 k0.2.length e0.2.2) w0.2.1)) ?_ ?_
 ·
  refine AP (Eu (σ:=(List Int)×(List Int)×Bool) (X:=Unit) d3 (fun (w0:(List Int)×(List Int)×Bool) (w1:Unit)=>[(2,(.slice e1 x2.length f1)),(3,(.pointer (some ⟨o1,0,none⟩))),(8,(.slice e0.1.1 k0.1.length e0.1.2)),(9,(.slice e0.2.1 k0.2.length e0.2.2)),(11,(.bool w0.2.2))]) _ (fun w0 w1 w'=>∃ O':Lab,Bs w A w' O'∧Vb w' (Fr 0 w' O') (.slice e1 x2.length f1) x2∧Lc 2 w' O' o1 26 [(.slice g1 x0.vars.length h1),(.slice i1 x0.init.length j1),(.slice k1 x0.goal.length l1),(.slice m1 x0.ops.length n1)]∧Vb w' (Fr 0 w' O') (.slice g1 x0.vars.length h1) x0.vars∧Vb w' (Fr 0 w' O') (.slice i1 x0.init.length j1) x0.init∧Vb w' (Fr 0 w' O') (.slice k1 x0.goal.length l1) x0.goal∧Vb w' (Fr 0 w' O') (.slice m1 x0.ops.length n1) x0.ops∧Rw 3 w' O' 3 (.slice e0.1.1 k0.1.length e0.1.2) w0.1∧Rw 4 w' O' 3 (.slice e0.2.1 k0.2.length e0.2.2) w0.2.1) _ () ⟨k5,hB,j0,n0,h9,q0,l0,m0,s0,a2⟩ ⟨rfl,rfl,rfl,rfl,rfl,trivial⟩ ?_)
  rintro w0 w1 w9 g7 ⟨l5,hB,j0,n0,h9,q0,l0,m0,a1,b1⟩ p0 z4 y1
  refine Al (Al (Aj (Am rfl rfl (o_z ?_))))
  refine Cs rfl (fun i2=>?_) (fun i2=>?_)
  ·
   replace p0:=ip p0 i2
   refine AK (AP (Al (Aj (At rfl rfl (o_z ?_)))))
   refine Al (Aj (Am rfl rfl (AQ rfl rfl ?_)))
   have j2:x2.length≤9223372036854775807:=Nat.le_trans j0.len.2.1 j0.len.2.2
   have x9:inI64 (x2.length:Int):=rngNat j2
   refine Am rfl rfl (o_z ?_)
   obtain ⟨k2,e3,p0⟩:=bs p0
   refine AM (aft k2 (fun (r0:(List Int)×(List Int)×Bool) (z1:Unit)=>[(2,(.slice e1 x2.length f1)),(3,(.pointer (some ⟨o1,0,none⟩))),(8,(.slice e0.1.1 k0.1.length e0.1.2)),(9,(.slice e0.2.1 k0.2.length e0.2.2)),(11,(.bool r0.2.2))]) (fun r0 z1 w'=>∃ O':Lab,Bs w A w' O'∧Vb w' (Fr 0 w' O') (.slice e1 x2.length f1) x2∧Lc 2 w' O' o1 26 [(.slice g1 x0.vars.length h1),(.slice i1 x0.init.length j1),(.slice k1 x0.goal.length l1),(.slice m1 x0.ops.length n1)]∧Vb w' (Fr 0 w' O') (.slice g1 x0.vars.length h1) x0.vars∧Vb w' (Fr 0 w' O') (.slice i1 x0.init.length j1) x0.init∧Vb w' (Fr 0 w' O') (.slice k1 x0.goal.length l1) x0.goal∧Vb w' (Fr 0 w' O') (.slice m1 x0.ops.length n1) x0.ops∧Rw 3 w' O' 3 (.slice e0.1.1 k0.1.length e0.1.2) r0.1∧Rw 4 w' O' 3 (.slice e0.2.1 k0.2.length e0.2.2) r0.2.1)) ?_ ?_
   ·
    refine AP (Ca (σ:=(List Int)×(List Int)×Bool) (X:=Unit) (x2.length) e3 rfl j2 (fun (r0:(List Int)×(List Int)×Bool) (z1:Unit)=>[(2,(.slice e1 x2.length f1)),(3,(.pointer (some ⟨o1,0,none⟩))),(8,(.slice e0.1.1 k0.1.length e0.1.2)),(9,(.slice e0.2.1 k0.2.length e0.2.2)),(11,(.bool r0.2.2)),(40,(.slice e1 x2.length f1))]) _ (fun r0 z1 w'=>∃ O':Lab,Bs w A w' O'∧Vb w' (Fr 0 w' O') (.slice e1 x2.length f1) x2∧Lc 2 w' O' o1 26 [(.slice g1 x0.vars.length h1),(.slice i1 x0.init.length j1),(.slice k1 x0.goal.length l1),(.slice m1 x0.ops.length n1)]∧Vb w' (Fr 0 w' O') (.slice g1 x0.vars.length h1) x0.vars∧Vb w' (Fr 0 w' O') (.slice i1 x0.init.length j1) x0.init∧Vb w' (Fr 0 w' O') (.slice k1 x0.goal.length l1) x0.goal∧Vb w' (Fr 0 w' O') (.slice m1 x0.ops.length n1) x0.ops∧Rw 3 w' O' 3 (.slice e0.1.1 k0.1.length e0.1.2) r0.1∧Rw 4 w' O' 3 (.slice e0.2.1 k0.2.length e0.2.2) r0.2.1) _ () ⟨l5,hB,j0,n0,h9,q0,l0,m0,a1,b1⟩ ⟨rfl,rfl,rfl,rfl,rfl,rfl,rfl,rfl,trivial⟩ (fun _ _=>⟨rfl,rfl⟩) (fun _ _=>⟨rfl,rfl,rfl,rfl,rfl,trivial⟩) (fun _ _ _ ⟨O',hB,j0,n0,h9,q0,l0,m0,g0,h0⟩=>⟨O',hB,j0,n0,h9,q0,l0,m0,g0,h0⟩) ⟨rfl,rfl,rfl⟩ ⟨rfl,rfl⟩ ?_)
    rintro f3 p1 r0 z1 y9 h7 d2 ⟨m5,hB,j0,n0,h9,q0,l0,m0,g0,h0⟩ a0 a5 b5
    have rk181:inI64 (f3:Int):=rngK d2 j2
    refine Al (Aj ?_)
    obtain ⟨z9,aA,i7,g3,h3,i3,rfl,bA,cA,dA⟩:=j0.elem' d2
    refine Br (hA:=g3) (hj:=rfl) (hlt:=h3) rfl rfl rfl ?_
    refine BB (hl:=rfl) (hc:=i3) rfl rfl ?_
    refine CQ 5 m5 rfl fun l2 eA n5 b0 i0=>?_
    refine Bu i0 rfl rfl rfl (Ci rfl) (allOne rfl) fun j3 c0 i0=>?_
    replace i0:Lc 5 j3 n5 l2 94 [(.int .i64 p1.src),(.int .i64 p1.label),(.int .i64 p1.dst)]:=i0
    refine o_z ?_
    refine Al (Al (Aj (Am rfl rfl (AG rfl rfl (AD (hc:=Blk.cell (i:=2) (i0.1) rfl) rfl rfl ?_)))))
    obtain ⟨fA,o5,a0⟩:=bs a0
    obtain ⟨p5,q5⟩:=AH o5
    replace g0:=(g0.st b0).st c0
    obtain ⟨gA,iA,j7,k3,l3,m3,rfl,jA⟩:=g0.elem q5
    refine Br (hA:=k3) (hj:=(Int.toNat_of_nonneg p5).symm) (hlt:=l3) rfl rfl rfl ?_
    refine AD (hc:=cat0 m3) rfl rfl ?_
    refine EP rfl rfl rfl (fun m2=>?_) fun m2=>?_
    ·
     replace a0:=ip a0 m2
     refine o_z ?_
     refine Ah rfl (Cz ?_)
     obtain rfl:=sm a0
     exact show Exists _ from ⟨_,(),rfl,⟨rfl,rfl,rfl,rfl,rfl,rfl,rfl,rfl,trivial⟩,_,(hB.st b0).st c0,(j0.st b0).st c0,(n0.st b0).st c0,(h9.st b0).st c0,(q0.st b0).st c0,(l0.st b0).st c0,(m0.st b0).st c0,g0,(h0.st b0).st c0⟩
    replace a0:=im a0 m2
    refine o_z ?_
    refine Ae rfl (AK (Al (BQ (·=j3) [(0,true),(1,true),(2,true),(3,true),(4,true),(5,true),(6,true),(7,true),(8,true),(9,true),(10,true),(11,true),(12,true),(13,true),(14,true),(15,true),(16,true),(17,true),(18,true),(19,true),(20,true)] (by kernel_rfl) rfl (by kernel_rfl) rfl ?_)))
    refine AF rfl rfl rfl (AR rfl rfl rfl (Bp (hc:=Blk.cell (i:=2) (i0.1) rfl) rfl rfl rfl ?_))
    obtain ⟨kA,r5,a0⟩:=bs a0
    obtain ⟨s5,t5⟩:=AH r5
    obtain ⟨lA,mA,k7,n3,o3,p3,rfl,nA⟩:=g0.elem t5
    refine BC (hA:=n3) (hj:=(Int.toNat_of_nonneg s5).symm) (hlt:=o3) rfl rfl rfl rfl ?_
    refine Bp (hc:=cat0 p3) rfl rfl rfl ?_
    refine AR rfl rfl rfl ?_
    replace n0:=(n0.st b0).st c0
    refine Bp (hc:=Blk.cell (i:=3) (n0.1) rfl) rfl rfl rfl ?_
    refine AR rfl rfl rfl (Bp (hc:=Blk.cell (i:=1) (i0.1) rfl) rfl rfl rfl ?_)
    obtain ⟨oA,u5,a0⟩:=bs a0
    obtain ⟨w5,x5⟩:=AH u5
    replace m0:=(m0.st b0).st c0
    obtain ⟨pA,qA,l7,q3,r3,s3,rA,sA,rfl,y5,z5,tA,uA⟩:=m0.elem' x5
    obtain ⟨vA,wA,rfl⟩:=y5.form
    obtain ⟨xA,yA,rfl⟩:=z5.form
    refine BC (hA:=q3) (hj:=(Int.toNat_of_nonneg w5).symm) (hlt:=r3) rfl rfl rfl rfl ?_
    refine AR rfl rfl rfl (Bp (hc:=cat1 s3) rfl rfl rfl ?_)
    obtain ⟨t3,u3,a0⟩:=bs a0
    have a6:=(BE u3)
    refine KF (he:=u3) rfl rfl rfl rfl ?_
    refine AF rfl rfl rfl (AR rfl rfl rfl (Bp (hc:=Blk.cell (i:=2) (i0.1) rfl) rfl rfl rfl ?_))
    obtain ⟨zA,b6,a0⟩:=bs a0
    obtain ⟨c6,d6⟩:=AH b6
    replace h0:=(h0.st b0).st c0
    obtain ⟨aB,bB,m7,v3,w3,x3,rfl,cB⟩:=h0.elem d6
    refine BC (hA:=v3) (hj:=(Int.toNat_of_nonneg c6).symm) (hlt:=w3) rfl rfl rfl rfl ?_
    refine Bp (hc:=cat0 x3) rfl rfl rfl ?_
    obtain ⟨y3,z3,a0⟩:=bs a0
    have e6:=(BE z3)
    refine KF (he:=z3) rfl rfl rfl rfl ?_
    refine CB rfl rfl rfl (CB rfl rfl rfl (h_z ?_))
    refine Al ?_
    obtain ⟨f6,d0,a0⟩:=bs a0
    refine AM (fun l' w'=>∃ (g6:Unit) (O':Lab),subs l' [(2,(.slice e1 x2.length f1)),(3,(.pointer (some ⟨o1,0,none⟩))),(8,(.slice e0.1.1 k0.1.length e0.1.2)),(9,(.slice e0.2.1 k0.2.length e0.2.2)),(11,(.bool r0.2.2)),(13,(.pointer (some ⟨l2,0,none⟩))),(14,(.int .i64 t3)),(15,(.int .i64 y3)),(40,(.slice e1 x2.length f1)),(41,(.int .i64 (x2.length:Int))),(42,(.int .i64 (f3:Int))),(95,(.bool f6))]∧Bs w A w' O'∧Vb w' (Fr 0 w' O') (.slice e1 x2.length f1) x2∧Lc 2 w' O' o1 26 [(.slice g1 x0.vars.length h1),(.slice i1 x0.init.length j1),(.slice k1 x0.goal.length l1),(.slice m1 x0.ops.length n1)]∧Vb w' (Fr 0 w' O') (.slice g1 x0.vars.length h1) x0.vars∧Vb w' (Fr 0 w' O') (.slice i1 x0.init.length j1) x0.init∧Vb w' (Fr 0 w' O') (.slice k1 x0.goal.length l1) x0.goal∧Vb w' (Fr 0 w' O') (.slice m1 x0.ops.length n1) x0.ops∧Rw 3 w' O' 3 (.slice e0.1.1 k0.1.length e0.1.2) r0.1∧Rw 4 w' O' 3 (.slice e0.2.1 k0.2.length e0.2.2) r0.2.1∧Lc 5 w' O' l2 94 [(.int .i64 p1.src),(.int .i64 p1.label),(.int .i64 p1.dst)]) ?_ ?_
    ·
     refine Aj (Am rfl rfl (Am rfl rfl (AG rfl rfl (AD (hc:=Blk.cell (i:=0) (i0.1) rfl) rfl rfl ?_))))
     obtain ⟨dB,h6,d0⟩:=bs d0
     obtain ⟨i6,j6⟩:=AH h6
     obtain ⟨eB,fB,n7,a4,b4,c4,rfl,gB⟩:=g0.elem j6
     refine Br (hA:=a4) (hj:=(Int.toNat_of_nonneg i6).symm) (hlt:=b4) rfl rfl rfl ?_
     refine AD (hc:=cat0 c4) rfl rfl ?_
     refine CU rfl rfl rfl (fun n2=>?_) fun n2=>?_
     ·
      replace d0:=ip d0 n2
      refine Am rfl rfl (Ay rfl rfl rfl rfl (Ay rfl rfl rfl rfl (Ay rfl rfl rfl rfl (Ay rfl rfl rfl rfl (Ay rfl rfl rfl rfl (Ay rfl rfl rfl rfl (Ay rfl rfl rfl rfl (Ay rfl rfl rfl rfl (Ay rfl rfl rfl rfl (Ay rfl rfl rfl rfl (Ay rfl rfl rfl rfl (Ay rfl rfl rfl rfl (Ay rfl rfl rfl rfl (Ay rfl rfl rfl rfl ?_))))))))))))))
      refine Ay rfl rfl rfl rfl (Ay rfl rfl rfl rfl (Bo rfl rfl rfl (o_z ?_)))
      obtain rfl:=sm d0
      exact ⟨(),_,⟨rfl,rfl,rfl,rfl,rfl,rfl,rfl,rfl,rfl,rfl,rfl,rfl,trivial⟩,(hB.st b0).st c0,(j0.st b0).st c0,n0,(h9.st b0).st c0,(q0.st b0).st c0,(l0.st b0).st c0,m0,g0,h0,i0⟩
     replace d0:=im d0 n2
     refine Am rfl rfl (Aw rfl rfl (Am rfl rfl (Aw rfl rfl (Am rfl rfl (Aw rfl rfl (AG rfl rfl (Aw rfl rfl (AD (hc:=Blk.cell (i:=0) (i0.1) rfl) rfl rfl ?_))))))))
     refine Aw rfl rfl ?_
     obtain ⟨iB,k6,d0⟩:=bs d0
     obtain ⟨l6,m6⟩:=AH k6
     obtain ⟨jB,kB,o7,d4,e4,f4,rfl,lB⟩:=g0.elem m6
     refine Br (hA:=d4) (hj:=(Int.toNat_of_nonneg l6).symm) (hlt:=e4) rfl rfl rfl ?_
     refine Aw rfl rfl (AD (hc:=cat0 f4) rfl rfl ?_)
     refine Aw rfl rfl (EP rfl rfl rfl (fun o2=>?_) fun o2=>?_)
     ·
      replace d0:=ip d0 o2
      refine Aw rfl rfl (Am rfl rfl (Aw rfl rfl (Am rfl rfl (Aw rfl rfl (Am rfl rfl (Aw rfl rfl (AG rfl rfl (Aw rfl rfl (AD (hc:=Blk.cell (i:=0) (i0.1) rfl) rfl rfl ?_)))))))))
      refine Aw rfl rfl ?_
      obtain ⟨mB,n6,d0⟩:=bs d0
      obtain ⟨o6,p6⟩:=AH n6
      obtain ⟨nB,oB,p7,g4,h4,i4,rfl,pB⟩:=h0.elem p6
      refine Br (hA:=g4) (hj:=(Int.toNat_of_nonneg o6).symm) (hlt:=h4) rfl rfl rfl ?_
      refine Aw rfl rfl (AD (hc:=cat0 i4) rfl rfl ?_)
      refine Aw rfl rfl (CU rfl rfl rfl (fun p2=>?_) fun p2=>?_)
      ·
       replace d0:=ip d0 p2
       refine Aw rfl rfl (Bo rfl rfl rfl (Bl rfl rfl rfl (o_z ?_)))
       obtain rfl:=sm d0
       exact ⟨(),_,⟨rfl,rfl,rfl,rfl,rfl,rfl,rfl,rfl,rfl,rfl,rfl,rfl,trivial⟩,(hB.st b0).st c0,(j0.st b0).st c0,n0,(h9.st b0).st c0,(q0.st b0).st c0,(l0.st b0).st c0,m0,g0,h0,i0⟩
      replace d0:=im d0 p2
      refine Aw rfl rfl (Bo rfl rfl rfl (Bl rfl rfl rfl (o_z ?_)))
      obtain rfl:=sm d0
      exact ⟨(),_,⟨rfl,rfl,rfl,rfl,rfl,rfl,rfl,rfl,rfl,rfl,rfl,rfl,trivial⟩,(hB.st b0).st c0,(j0.st b0).st c0,n0,(h9.st b0).st c0,(q0.st b0).st c0,(l0.st b0).st c0,m0,g0,h0,i0⟩
     replace d0:=im d0 o2
     refine Aw rfl rfl (Am rfl rfl (Ay rfl rfl rfl rfl (Ay rfl rfl rfl rfl (Ay rfl rfl rfl rfl (Ay rfl rfl rfl rfl (Ay rfl rfl rfl rfl (Ay rfl rfl rfl rfl (Ay rfl rfl rfl rfl (Aw rfl rfl (Bl rfl rfl rfl (Bl rfl rfl rfl (o_z ?_))))))))))))
     obtain rfl:=sm d0
     exact ⟨(),_,⟨rfl,rfl,rfl,rfl,rfl,rfl,rfl,rfl,rfl,rfl,rfl,rfl,trivial⟩,(hB.st b0).st c0,(j0.st b0).st c0,n0,(h9.st b0).st c0,(q0.st b0).st c0,(l0.st b0).st c0,m0,g0,h0,i0⟩
    replace hB:=(hB.st b0).st c0
    replace j0:=(j0.st b0).st c0
    replace h9:=(h9.st b0).st c0
    replace q0:=(q0.st b0).st c0
    replace l0:=(l0.st b0).st c0
    rintro qB rB ⟨g6,q6,j4,hB,j0,n0,h9,q0,l0,m0,g0,h0,i0⟩
    refine AO _ j4 ?_
    refine Cs rfl (fun q2=>?_) (fun q2=>?_)
    ·
     replace a0:=ip a0 q2
     refine Al (Bv [(9,[3])] q6 ?_)
     refine AU (fuel:=7) [] [(0,true),(1,true),(2,true),(6,true),(8,true)] (by kernel_rfl) rfl ?_
     refine AF rfl rfl rfl (AR rfl rfl rfl (AV (hc:=fun w' ⟨O',hq⟩=>Blk.cell (i:=0) ((i0.st hq (by decide)).1) rfl) rfl rfl rfl ?_))
     refine AF rfl rfl rfl ?_
     obtain ⟨sB,r6,a0⟩:=bs a0
     obtain ⟨s6,k4⟩:=AH r6
     obtain ⟨tB,uB,q7,e2,r7,l4,s7,rfl,vB⟩:=g0.elemF k4
     refine BC (hA:=e2) (hj:=(Int.toNat_of_nonneg s6).symm) (hlt:=l4) rfl rfl rfl rfl ?_
     refine AJ ?_
     refine AU (fuel:=3) [3] [(3,true),(4,true),(5,true),(7,true)] (by kernel_rfl) rfl ?_
     refine AF rfl rfl rfl (AR rfl rfl rfl (AV (hc:=fun w' ⟨O',hq⟩=>Blk.cell (i:=0) ((i0.st hq (by decide)).1) rfl) rfl rfl rfl ?_))
     refine AF rfl rfl rfl (AJ ?_)
     refine Bc (i:=9) (by kernel_rfl) rfl ?_
     refine De rfl g0 (a:=t3) (vInt a6) e2 rfl rfl (AC k4) fun wB y0 g0=>?_
     have hZ:=y0.lst [3] (fun _ h=>by cases h;decide)
     refine Bt [] hZ (by kernel_rfl) ?_
     refine AU (fuel:=1) [] [(10,true)] (by kernel_rfl) rfl ?_
     obtain ⟨xB,t6,a0⟩:=bs a0
     obtain ⟨u6,m4⟩:=AH t6
     replace h0:=h0.st y0
     obtain ⟨yB,zB,t7,f2,u7,n4,w7,rfl,aC⟩:=h0.elemF m4
     refine BC (hA:=f2) (hj:=(Int.toNat_of_nonneg u6).symm) (hlt:=n4) rfl rfl rfl rfl ?_
     refine AJ ?_
     refine Bc (i:=11) (by kernel_rfl) rfl ?_
     refine De rfl h0 (a:=y3) (vInt e6) f2 rfl rfl (AC m4) fun bC c1 h0=>?_
     refine Dx (by kernel_rfl) ?_
     refine BW (by kernel_rfl) ?_
     refine Aj (At rfl rfl (o_z ?_))
     obtain rfl:=sm a0
     exact show Exists _ from ⟨_,(),rfl,⟨rfl,rfl,rfl,rfl,rfl,rfl,rfl,rfl,trivial⟩,_,(hB.st y0).st c1,(j0.st y0).st c1,(n0.st y0).st c1,(h9.st y0).st c1,(q0.st y0).st c1,(l0.st y0).st c1,(m0.st y0).st c1,g0.st c1,h0⟩
    replace a0:=im' a0 q2
    refine AK ?_
    obtain rfl:=sm a0
    exact show Exists _ from ⟨_,(),rfl,⟨rfl,rfl,rfl,rfl,rfl,rfl,rfl,rfl,trivial⟩,_,hB,j0,n0,h9,q0,l0,m0,g0,h0⟩
   rintro cC dC ⟨eC,fC,rfl,d1,gC,hB,j0,n0,h9,q0,l0,m0,g0,h0⟩
   replace p0:=Bh p0
   obtain rfl:=sm p0
   exact show Exists _ from ⟨_,(),rfl,⟨(Cp d1 _ _ rfl),(Cp d1 _ _ rfl),(Cp d1 _ _ rfl),(Cp d1 _ _ rfl),(Cp d1 _ _ rfl),trivial⟩,_,hB,j0,n0,h9,q0,l0,m0,g0,h0⟩
  replace p0:=im' p0 i2
  refine Cz ?_
  obtain rfl:=sm p0
  exact show Exists _ from ⟨_,(),y1 _ rfl,⟨rfl,rfl,trivial⟩,_,hB,a1,b1⟩
 rintro hC o4 ⟨iC,jC,rfl,p4,kC,hB,a1,b1⟩
 replace hm:=Bh hm
 refine AO _ p4 ?_
 refine Al (Aj (Am rfl rfl (Am rfl rfl (At rfl rfl (At rfl rfl (o_z ?_))))))
 refine AL ?_
 obtain ⟨lC,q4,a1⟩:=a1.freeze
 replace b1:=b1.st q4
 obtain ⟨r4,s4,b1⟩:=b1.freeze
 obtain rfl:=sm hm
 replace hB:=(hB.st q4).st s4
 replace a1:=a1.st s4
 exact ret2 rfl (AA rfl) (AA rfl) ⟨hB.ext,_,_,rfl,(Vb.mono (F:=Fr 0 o4 r4) a1 hB.out),(Vb.mono (F:=Fr 0 o4 r4) b1 hB.out)⟩
noncomputable def EG (x0:Tsk) (x1:List (List Int)) (x2:List Edj):Option (List Int) :=
  bnd (CL x0 x1 x2) fun q30=>bnd (atI q30.1 0) fun a45=>if a45=1125899906842624 then (some ([]:List Int)) else (bnd (lop (ρ:=(List Int)) (fun (s60:(List Int)×Int)=>bnd (atI q30.2 s60.2) fun a79=>if 0 < a79 then (bnd (rng (ρ:=Ctl ((List Int)×Int) (List Int)) (fun (k98:Nat) (a99:Edj) (s96:(List Int)×Int)=>bnd (if a99.src=s96.2 then (bnd (atI q30.1 a99.dst) fun a137=>bnd (atI x0.ops a99.label) fun a149=>bnd (chkI (a137 + a149.cost)) fun n170=>bnd (atI q30.1 s96.2) fun a173=>if n170=a173 then (bnd (atI q30.2 a99.dst) fun a186=>bnd (chkI (a186 + 1)) fun n198=>bnd (atI q30.2 s96.2) fun a201=>if n198=a201 then (some true) else (some false)) else (some false)) else (some false):Option Bool) fun y132=>if y132=true then (bnd (appI 8 s96.1 [a99.label]) fun u219=>some (.brk (u219,a99.dst))) else (some (.next (s96.1,s96.2)))) x2 0 (s60.1,s60.2)) fun res94=>fin res94 fun (s235:(List Int)×Int)=>some (.next (s235.1,s235.2))) else (some (.brk (s60.1,s60.2)))) (([]:List Int),0)) fun res58=>fin res58 fun (s241:(List Int)×Int)=>some s241.1)
theorem Lh {w:World} {A:Nat→Prop} (hA:∀ k,A k→k < w.heap.size) {vx0:Value} {x0:Tsk} (e3:Vb w A vx0 x0) {vx1:Value} {x1:List (List Int)} (z1:Vb w A vx1 x1) {vx2:Value} {x2:List Edj} (f0:Vb w A vx2 x2) {r:(List Int)} (hm:EG x0 x1 x2=some r) :
    Fn Tryz.prog 25 [vx0,vx1,vx2] w fun v w'=>Ext w w'∧Vb w' (upA A w w') v r:=by
 obtain ⟨O,hB,f3⟩:=enter hA
 replace e3:=e3.mono f3
 obtain ⟨x7,rfl,v5,v6,v7,v8,rfl,h9,l0,m0,h0⟩:=e3
 obtain ⟨w0,y0,rfl⟩:=h9.form
 obtain ⟨z0,a1,rfl⟩:=l0.form
 obtain ⟨b1,c1,rfl⟩:=m0.form
 obtain ⟨d1,e1,rfl⟩:=h0.form
 replace z1:=z1.mono f3
 obtain ⟨y7,z7,rfl⟩:=z1.form
 replace f0:=f0.mono f3
 obtain ⟨f1,g1,rfl⟩:=f0.form
 refine AI Tryz.func25 rfl Tryz.ntmps25 rfl ?_
 unfold EG at hm
 refine Al (Aj (DR 2 O rfl rfl fun h1 h5 x4 i1 i0=>?_))
 replace i0:Lc 2 h5 x4 h1 26 [(.slice w0 x0.vars.length y0),(.slice z0 x0.init.length a1),(.slice b1 x0.goal.length c1),(.slice d1 x0.ops.length e1)]:=i0
 refine At rfl rfl (o_z ?_)
 refine Al (Aj (BB (hl:=rfl) (hc:=(i0.1).cellsAt) rfl rfl ?_))
 refine Am rfl rfl (Am rfl rfl ?_)
 obtain ⟨j0,i5,hm⟩:=bs hm
 replace z1:=z1.st i1
 replace f0:=f0.st i1
 replace h9:=h9.st i1
 replace l0:=l0.st i1
 replace m0:=m0.st i1
 replace h0:=h0.st i1
 refine Eg (O:=x4) (R:=fun w' F v=>T2 w' F v j0) (Gd Fr.lt (Vb.ofAgg (cs:=[(.slice w0 x0.vars.length y0),(.slice z0 x0.init.length a1),(.slice b1 x0.goal.length c1),(.slice d1 x0.ops.length e1)]) (x:=x0) rfl ⟨_,_,_,_,rfl,h9,l0,m0,h0⟩) z1 f0 i5) rfl rfl fun a8 j5 y4 j1 k5=>?_
 obtain ⟨b8,c8,rfl,n0,o0⟩:=k5
 obtain ⟨l1,m1,rfl⟩:=n0.form
 obtain ⟨n1,o1,rfl⟩:=o0.form
 refine Am rfl rfl (Bn rfl rfl rfl (Bn rfl rfl rfl (At rfl rfl (At rfl rfl (o_z ?_)))))
 refine Al (Aj (At rfl rfl (o_z ?_)))
 refine Al (Al (Aj (Am rfl rfl ?_)))
 obtain ⟨d8,l5,hm⟩:=bs hm
 obtain ⟨m5,n5⟩:=AH l5
 obtain ⟨e8,f8,o5,g3,h3,i3,rfl,g8⟩:=n0.elem' n5
 refine Br (hA:=g3) (hj:=(Int.toNat_of_nonneg m5).symm) (hlt:=h3) rfl rfl rfl ?_
 refine AD (hc:=cat0 i3) rfl rfl ?_
 refine EP rfl rfl rfl (fun j3=>?_) fun j3=>?_
 ·
  replace hm:=ip hm j3
  refine o_z ?_
  refine Ah rfl (Al (Aj (At rfl rfl (o_z ?_))))
  refine AL ?_
  obtain rfl:=sm hm
  replace hB:=(hB.st i1).st j1
  exact ret1v rfl (AA rfl) ⟨hB.ext,(Vb.mono (F:=Fr 0 j5 y4) (Vb.nil _ _) hB.out)⟩
 replace hm:=im hm j3
 refine o_z ?_
 refine Ae rfl (AK (Al (Aj (At rfl rfl (o_z ?_)))))
 refine Al ?_
 obtain ⟨b2,k3,hm⟩:=bs hm
 refine AM (aft b2 (fun (u0:(List Int)×Int) (t0:(Option Addr×Nat))=>[(9,(.slice t0.1 u0.1.length t0.2))]) (fun u0 t0 w'=>∃ O':Lab,Bs w A w' O'∧Rw 4 w' O' 3 (.slice t0.1 u0.1.length t0.2) u0.1∧inI64 u0.2)) ?_ ?_
 ·
  refine AP ?_
  replace hB:=(hB.st i1).st j1
  replace f0:=f0.st j1
  replace h9:=h9.st j1
  replace l0:=l0.st j1
  replace m0:=m0.st j1
  replace h0:=h0.st j1
  replace i0:=i0.st j1
  refine Eu (σ:=(List Int)×Int) (X:=(Option Addr×Nat)) k3 (fun (u0:(List Int)×Int) (t0:(Option Addr×Nat))=>[(2,(.slice f1 x2.length g1)),(3,(.pointer (some ⟨h1,0,none⟩))),(7,(.slice l1 j0.1.length m1)),(8,(.slice n1 j0.2.length o1)),(9,(.slice t0.1 u0.1.length t0.2)),(10,(.int .i64 u0.2))]) _ (fun u0 t0 w'=>∃ O':Lab,Bs w A w' O'∧Vb w' (Fr 0 w' O') (.slice f1 x2.length g1) x2∧Lc 2 w' O' h1 26 [(.slice w0 x0.vars.length y0),(.slice z0 x0.init.length a1),(.slice b1 x0.goal.length c1),(.slice d1 x0.ops.length e1)]∧Vb w' (Fr 0 w' O') (.slice w0 x0.vars.length y0) x0.vars∧Vb w' (Fr 0 w' O') (.slice z0 x0.init.length a1) x0.init∧Vb w' (Fr 0 w' O') (.slice b1 x0.goal.length c1) x0.goal∧Vb w' (Fr 0 w' O') (.slice d1 x0.ops.length e1) x0.ops∧Vb w' (Fr 0 w' O') (.slice l1 j0.1.length m1) j0.1∧Vb w' (Fr 0 w' O') (.slice n1 j0.2.length o1) j0.2∧Rw 4 w' O' 3 (.slice t0.1 u0.1.length t0.2) u0.1∧inI64 u0.2) _ (none,0) ⟨y4,hB,f0,i0,h9,l0,m0,h0,n0,o0,(Rw.nil 4 (by decide)),(show inI64 (0) from by decide)⟩ ⟨rfl,rfl,rfl,rfl,rfl,rfl,trivial⟩ ?_
  rintro u0 t0 h8 p5 ⟨q5,hB,f0,i0,h9,l0,m0,h0,n0,o0,a2,l3⟩ k0 m3 q1
  refine Al (Al (Aj (Am rfl rfl (Am rfl rfl ?_))))
  obtain ⟨i8,r5,k0⟩:=bs k0
  obtain ⟨s5,t5⟩:=AH r5
  obtain ⟨j8,k8,u5,n3,o3,p3,rfl,l8⟩:=o0.elem' t5
  refine Br (hA:=n3) (hj:=(Int.toNat_of_nonneg s5).symm) (hlt:=o3) rfl rfl rfl ?_
  refine AD (hc:=cat0 p3) rfl rfl ?_
  refine CN rfl rfl rfl (fun q3=>?_) fun q3=>?_
  ·
   replace k0:=ip k0 q3
   refine o_z ?_
   refine Ah rfl (AK (AP (Al (Aj (Am rfl rfl (AQ rfl rfl ?_))))))
   have r3:x2.length≤9223372036854775807:=Nat.le_trans f0.len.2.1 f0.len.2.2
   have m8:inI64 (x2.length:Int):=rngNat r3
   refine Am rfl rfl (o_z ?_)
   obtain ⟨c2,s3,k0⟩:=bs k0
   refine AM (aft c2 (fun (r0:(List Int)×Int) (s0:(Option Addr×Nat))=>[(2,(.slice f1 x2.length g1)),(3,(.pointer (some ⟨h1,0,none⟩))),(7,(.slice l1 j0.1.length m1)),(8,(.slice n1 j0.2.length o1)),(9,(.slice s0.1 r0.1.length s0.2)),(10,(.int .i64 r0.2))]) (fun r0 s0 w'=>∃ O':Lab,Bs w A w' O'∧Vb w' (Fr 0 w' O') (.slice f1 x2.length g1) x2∧Lc 2 w' O' h1 26 [(.slice w0 x0.vars.length y0),(.slice z0 x0.init.length a1),(.slice b1 x0.goal.length c1),(.slice d1 x0.ops.length e1)]∧Vb w' (Fr 0 w' O') (.slice w0 x0.vars.length y0) x0.vars∧Vb w' (Fr 0 w' O') (.slice z0 x0.init.length a1) x0.init∧Vb w' (Fr 0 w' O') (.slice b1 x0.goal.length c1) x0.goal∧Vb w' (Fr 0 w' O') (.slice d1 x0.ops.length e1) x0.ops∧Vb w' (Fr 0 w' O') (.slice l1 j0.1.length m1) j0.1∧Vb w' (Fr 0 w' O') (.slice n1 j0.2.length o1) j0.2∧Rw 4 w' O' 3 (.slice s0.1 r0.1.length s0.2) r0.1∧inI64 r0.2)) ?_ ?_
   ·
    refine AP (Ca (σ:=(List Int)×Int) (X:=(Option Addr×Nat)) (x2.length) s3 rfl r3 (fun (r0:(List Int)×Int) (s0:(Option Addr×Nat))=>[(2,(.slice f1 x2.length g1)),(3,(.pointer (some ⟨h1,0,none⟩))),(7,(.slice l1 j0.1.length m1)),(8,(.slice n1 j0.2.length o1)),(9,(.slice s0.1 r0.1.length s0.2)),(10,(.int .i64 r0.2)),(29,(.slice f1 x2.length g1))]) _ (fun r0 s0 w'=>∃ O':Lab,Bs w A w' O'∧Vb w' (Fr 0 w' O') (.slice f1 x2.length g1) x2∧Lc 2 w' O' h1 26 [(.slice w0 x0.vars.length y0),(.slice z0 x0.init.length a1),(.slice b1 x0.goal.length c1),(.slice d1 x0.ops.length e1)]∧Vb w' (Fr 0 w' O') (.slice w0 x0.vars.length y0) x0.vars∧Vb w' (Fr 0 w' O') (.slice z0 x0.init.length a1) x0.init∧Vb w' (Fr 0 w' O') (.slice b1 x0.goal.length c1) x0.goal∧Vb w' (Fr 0 w' O') (.slice d1 x0.ops.length e1) x0.ops∧Vb w' (Fr 0 w' O') (.slice l1 j0.1.length m1) j0.1∧Vb w' (Fr 0 w' O') (.slice n1 j0.2.length o1) j0.2∧Rw 4 w' O' 3 (.slice s0.1 r0.1.length s0.2) r0.1∧inI64 r0.2) _ (t0.1,t0.2) ⟨q5,hB,f0,i0,h9,l0,m0,h0,n0,o0,a2,l3⟩ ⟨rfl,rfl,rfl,rfl,rfl,rfl,rfl,rfl,rfl,trivial⟩ (fun _ _=>⟨rfl,rfl⟩) (fun _ _=>⟨rfl,rfl,rfl,rfl,rfl,rfl,trivial⟩) (fun _ _ _ ⟨O',hB,f0,i0,h9,l0,m0,h0,n0,o0,g0,v0⟩=>⟨O',hB,f0,i0,h9,l0,m0,h0,n0,o0,g0,v0⟩) ⟨rfl,rfl,rfl⟩ ⟨rfl,rfl⟩ ?_)
    rintro z4 r1 r0 s0 w5 a5 p1 ⟨t3,hB,f0,i0,h9,l0,m0,h0,n0,o0,g0,v0⟩ e0 d3 k1
    have rk98:inI64 (z4:Int):=rngK p1 r3
    refine Al (Aj ?_)
    obtain ⟨x5,y5,b5,d2,e2,f2,rfl,z5,u3,v3⟩:=f0.elem' p1
    refine Br (hA:=d2) (hj:=rfl) (hlt:=e2) rfl rfl rfl ?_
    refine BB (hl:=rfl) (hc:=f2) rfl rfl ?_
    refine CQ 3 t3 rfl fun s1 a6 w3 b0 d0=>?_
    refine Bu d0 rfl rfl rfl (Ci rfl) (allOne rfl) fun g2 c0 d0=>?_
    replace d0:Lc 3 g2 w3 s1 94 [(.int .i64 r1.src),(.int .i64 r1.label),(.int .i64 r1.dst)]:=d0
    refine o_z ?_
    refine Al ?_
    obtain ⟨x3,a0,e0⟩:=bs e0
    refine AM (fun l' w'=>∃ (y3:Unit) (O':Lab),subs l' [(2,(.slice f1 x2.length g1)),(3,(.pointer (some ⟨h1,0,none⟩))),(7,(.slice l1 j0.1.length m1)),(8,(.slice n1 j0.2.length o1)),(9,(.slice s0.1 r0.1.length s0.2)),(10,(.int .i64 r0.2)),(12,(.pointer (some ⟨s1,0,none⟩))),(29,(.slice f1 x2.length g1)),(30,(.int .i64 (x2.length:Int))),(31,(.int .i64 (z4:Int))),(71,(.bool x3))]∧Bs w A w' O'∧Vb w' (Fr 0 w' O') (.slice f1 x2.length g1) x2∧Lc 2 w' O' h1 26 [(.slice w0 x0.vars.length y0),(.slice z0 x0.init.length a1),(.slice b1 x0.goal.length c1),(.slice d1 x0.ops.length e1)]∧Vb w' (Fr 0 w' O') (.slice w0 x0.vars.length y0) x0.vars∧Vb w' (Fr 0 w' O') (.slice z0 x0.init.length a1) x0.init∧Vb w' (Fr 0 w' O') (.slice b1 x0.goal.length c1) x0.goal∧Vb w' (Fr 0 w' O') (.slice d1 x0.ops.length e1) x0.ops∧Vb w' (Fr 0 w' O') (.slice l1 j0.1.length m1) j0.1∧Vb w' (Fr 0 w' O') (.slice n1 j0.2.length o1) j0.2∧Rw 4 w' O' 3 (.slice s0.1 r0.1.length s0.2) r0.1∧Lc 3 w' O' s1 94 [(.int .i64 r1.src),(.int .i64 r1.label),(.int .i64 r1.dst)]) ?_ ?_
    ·
     refine BQ (·=g2) [(0,true),(1,true),(2,true),(3,true),(4,true),(5,true),(6,true),(7,true),(8,true),(9,true),(10,true),(11,true),(12,true),(13,true),(14,true),(15,true),(16,true),(17,true),(18,true),(19,true),(20,true),(21,true),(22,true),(23,true),(24,true),(25,true),(26,true),(27,true),(28,true),(29,true),(30,true),(31,true),(32,true),(33,true),(34,true),(35,true),(36,true)] (by kernel_rfl) rfl (by kernel_rfl) rfl ?_
     refine AR rfl rfl rfl (Bp (hc:=Blk.cell (i:=0) (d0.1) rfl) rfl rfl rfl ?_)
     refine AF rfl rfl rfl (KE rfl rfl rfl rfl (fun t1=>?_) fun t1=>?_)
     ·
      replace a0:=ip a0 t1
      refine AF rfl rfl rfl (Az rfl (Au rfl rfl (BK rfl rfl (Az rfl (Au rfl rfl (BR rfl rfl (Az rfl (Au rfl rfl (Ba (hc:=Blk.cell (i:=2) (d0.1) rfl) rfl rfl ?_)))))))))
      refine Az rfl (Au rfl rfl ?_)
      obtain ⟨b6,z3,a0⟩:=bs a0
      obtain ⟨a4,b4⟩:=AH z3
      replace n0:=(n0.st b0).st c0
      obtain ⟨c6,d6,c5,h2,i2,j2,rfl,e6⟩:=n0.elem' b4
      refine FU (hA:=h2) (hj:=(Int.toNat_of_nonneg a4).symm) (hlt:=i2) rfl rfl rfl ?_
      refine Az rfl (Au rfl rfl (Ba (hc:=cat0 j2) rfl rfl ?_))
      refine Az rfl (Au rfl rfl (BR rfl rfl (Az rfl (Au rfl rfl ?_))))
      replace i0:=(i0.st b0).st c0
      refine Ba (hc:=Blk.cell (i:=3) (i0.1) rfl) rfl rfl ?_
      refine Az rfl (Au rfl rfl (BR rfl rfl (Az rfl (Au rfl rfl (Ba (hc:=Blk.cell (i:=1) (d0.1) rfl) rfl rfl ?_)))))
      refine Az rfl (Au rfl rfl ?_)
      obtain ⟨f6,c4,a0⟩:=bs a0
      obtain ⟨d4,e4⟩:=AH c4
      replace h0:=(h0.st b0).st c0
      obtain ⟨g6,h6,d5,k2,l2,m2,i6,j6,rfl,f4,g4,k6,l6⟩:=h0.elem' e4
      obtain ⟨m6,n6,rfl⟩:=f4.form
      obtain ⟨o6,p6,rfl⟩:=g4.form
      refine FU (hA:=k2) (hj:=(Int.toNat_of_nonneg d4).symm) (hlt:=l2) rfl rfl rfl ?_
      refine Az rfl (Au rfl rfl (BR rfl rfl (Az rfl (Au rfl rfl (Ba (hc:=cat1 m2) rfl rfl ?_)))))
      refine Az rfl (Au rfl rfl ?_)
      obtain ⟨q6,n2,a0⟩:=bs a0
      have r6:=(BE n2)
      refine KG (he:=n2) rfl rfl rfl ?_
      refine Az rfl (Au rfl rfl (BK rfl rfl (Az rfl (Au rfl rfl (BK rfl rfl (Az rfl (Au rfl rfl ?_)))))))
      obtain ⟨s6,h4,a0⟩:=bs a0
      obtain ⟨i4,j4⟩:=AH h4
      obtain ⟨t6,u6,e5,o2,p2,q2,rfl,w6⟩:=n0.elem' j4
      refine FU (hA:=o2) (hj:=(Int.toNat_of_nonneg i4).symm) (hlt:=p2) rfl rfl rfl ?_
      refine Az rfl (Au rfl rfl (Ba (hc:=cat0 q2) rfl rfl ?_))
      refine Az rfl (Au rfl rfl (AX (fun _ _=>Ft rfl rfl) rfl (fun u1=>?_) (fun u1=>?_)))
      ·
       replace a0:=ip a0 u1
       refine Ct rfl rfl rfl rfl (AF rfl rfl rfl (Az rfl (Au rfl rfl (BK rfl rfl (Az rfl (Au rfl rfl (BR rfl rfl (Az rfl (Au rfl rfl (Ba (hc:=Blk.cell (i:=2) (d0.1) rfl) rfl rfl ?_))))))))))
       refine Az rfl (Au rfl rfl ?_)
       obtain ⟨x6,k4,a0⟩:=bs a0
       obtain ⟨l4,m4⟩:=AH k4
       replace o0:=(o0.st b0).st c0
       obtain ⟨y6,z6,f5,r2,s2,t2,rfl,a7⟩:=o0.elem' m4
       refine FU (hA:=r2) (hj:=(Int.toNat_of_nonneg l4).symm) (hlt:=s2) rfl rfl rfl ?_
       refine Az rfl (Au rfl rfl (Ba (hc:=cat0 t2) rfl rfl ?_))
       refine Az rfl (Au rfl rfl ?_)
       obtain ⟨b7,u2,a0⟩:=bs a0
       have c7:=(BE u2)
       refine KG (he:=u2) rfl rfl rfl ?_
       refine Az rfl (Au rfl rfl (BK rfl rfl (Az rfl (Au rfl rfl (BK rfl rfl (Az rfl (Au rfl rfl ?_)))))))
       obtain ⟨d7,n4,a0⟩:=bs a0
       obtain ⟨o4,p4⟩:=AH n4
       obtain ⟨e7,f7,g5,v2,w2,y2,rfl,g7⟩:=o0.elem' p4
       refine FU (hA:=v2) (hj:=(Int.toNat_of_nonneg o4).symm) (hlt:=w2) rfl rfl rfl ?_
       refine Az rfl (Au rfl rfl (Ba (hc:=cat0 y2) rfl rfl ?_))
       refine Az rfl (Au rfl rfl (AX (fun _ _=>Ft rfl rfl) rfl (fun v1=>?_) (fun v1=>?_)))
       ·
        replace a0:=ip a0 v1
        refine Ct rfl rfl rfl rfl (h_z ?_)
        obtain rfl:=sm a0
        exact ⟨(),_,⟨rfl,rfl,rfl,rfl,rfl,rfl,rfl,rfl,rfl,rfl,rfl,trivial⟩,(hB.st b0).st c0,(f0.st b0).st c0,i0,(h9.st b0).st c0,(l0.st b0).st c0,(m0.st b0).st c0,h0,n0,o0,(g0.st b0).st c0,d0⟩
       replace a0:=im a0 v1
       refine Ct rfl rfl rfl rfl (h_z ?_)
       obtain rfl:=sm a0
       exact ⟨(),_,⟨rfl,rfl,rfl,rfl,rfl,rfl,rfl,rfl,rfl,rfl,rfl,trivial⟩,(hB.st b0).st c0,(f0.st b0).st c0,i0,(h9.st b0).st c0,(l0.st b0).st c0,(m0.st b0).st c0,h0,n0,o0,(g0.st b0).st c0,d0⟩
      replace a0:=im a0 u1
      refine Ct rfl rfl rfl rfl (AF rfl rfl rfl (Bb rfl rfl rfl rfl rfl (Bb rfl rfl rfl rfl rfl (Bb rfl rfl rfl rfl rfl (Bb rfl rfl rfl rfl rfl (Bb rfl rfl rfl rfl rfl (Bb rfl rfl rfl rfl rfl (Bb rfl rfl rfl rfl rfl (Bb rfl rfl rfl rfl rfl (Bb rfl rfl rfl rfl rfl (Bb rfl rfl rfl rfl rfl (Bb rfl rfl rfl rfl rfl (Cw rfl rfl rfl rfl (h_z ?_))))))))))))))
      obtain rfl:=sm a0
      exact ⟨(),_,⟨rfl,rfl,rfl,rfl,rfl,rfl,rfl,rfl,rfl,rfl,rfl,trivial⟩,(hB.st b0).st c0,(f0.st b0).st c0,i0,(h9.st b0).st c0,(l0.st b0).st c0,(m0.st b0).st c0,h0,n0,(o0.st b0).st c0,(g0.st b0).st c0,d0⟩
     replace a0:=im a0 t1
     refine AF rfl rfl rfl (Bb rfl rfl rfl rfl rfl (Bb rfl rfl rfl rfl rfl (Bb rfl rfl rfl rfl rfl (Bb rfl rfl rfl rfl rfl (Bb rfl rfl rfl rfl rfl (Bb rfl rfl rfl rfl rfl (Bb rfl rfl rfl rfl rfl (Bb rfl rfl rfl rfl rfl (Bb rfl rfl rfl rfl rfl (Bb rfl rfl rfl rfl rfl (Bb rfl rfl rfl rfl rfl (Bb rfl rfl rfl rfl rfl (Bb rfl rfl rfl rfl rfl (Bb rfl rfl rfl rfl rfl ?_))))))))))))))
     refine Bb rfl rfl rfl rfl rfl (Bb rfl rfl rfl rfl rfl (Bb rfl rfl rfl rfl rfl (Bb rfl rfl rfl rfl rfl (Cw rfl rfl rfl rfl (AF rfl rfl rfl (Bb rfl rfl rfl rfl rfl (Bb rfl rfl rfl rfl rfl (Bb rfl rfl rfl rfl rfl (Bb rfl rfl rfl rfl rfl (Bb rfl rfl rfl rfl rfl (Bb rfl rfl rfl rfl rfl (Bb rfl rfl rfl rfl rfl (Bb rfl rfl rfl rfl rfl (Bb rfl rfl rfl rfl rfl ?_))))))))))))))
     refine Bb rfl rfl rfl rfl rfl (Bb rfl rfl rfl rfl rfl (Cw rfl rfl rfl rfl (h_z ?_)))
     obtain rfl:=sm a0
     exact ⟨(),_,⟨rfl,rfl,rfl,rfl,rfl,rfl,rfl,rfl,rfl,rfl,rfl,trivial⟩,(hB.st b0).st c0,(f0.st b0).st c0,(i0.st b0).st c0,(h9.st b0).st c0,(l0.st b0).st c0,(m0.st b0).st c0,(h0.st b0).st c0,(n0.st b0).st c0,(o0.st b0).st c0,(g0.st b0).st c0,d0⟩
    replace hB:=(hB.st b0).st c0
    replace f0:=(f0.st b0).st c0
    replace h9:=(h9.st b0).st c0
    replace l0:=(l0.st b0).st c0
    replace m0:=(m0.st b0).st c0
    replace h0:=(h0.st b0).st c0
    replace i0:=(i0.st b0).st c0
    replace n0:=(n0.st b0).st c0
    replace o0:=(o0.st b0).st c0
    replace g0:=(g0.st b0).st c0
    rintro h7 i7 ⟨y3,j7,z2,hB,f0,i0,h9,l0,m0,h0,n0,o0,g0,d0⟩
    refine AO _ z2 ?_
    refine Cs rfl (fun w1=>?_) (fun w1=>?_)
    ·
     replace e0:=ip e0 w1
     refine Al (Aj (Am rfl rfl (AG rfl rfl (AD (hc:=Blk.cell (i:=1) (d0.1) rfl) rfl rfl ?_))))
     obtain ⟨k7,y1,e0⟩:=bs e0
     obtain ⟨y1,q4,r4⟩:=Ce y1
     refine DS rfl (a:=r1.label) g0 (vInt u3) (fun _=>rfl) rfl (by decide) (by decide) q4 r4 ⟨rfl,rfl⟩ fun l7 s4 t4 m7 n7 p0 a3=>?_
     rw [← y1] at a3 ⊢
     refine At rfl rfl (o_z ?_)
     refine Al (Aj (AG rfl rfl ?_))
     replace d0:=d0.st p0
     refine AD (hc:=Blk.cell (i:=2) (d0.1) rfl) rfl rfl ?_
     refine At rfl rfl (o_z ?_)
     refine Cz ?_
     obtain rfl:=sm e0
     exact show Exists _ from ⟨_,(s4,t4),k1 _ rfl,⟨rfl,rfl,rfl,rfl,rfl,rfl,trivial⟩,_,hB.st p0,f0.st p0,i0.st p0,h9.st p0,l0.st p0,m0.st p0,h0.st p0,n0.st p0,o0.st p0,a3,v3⟩
    replace e0:=im' e0 w1
    refine AK ?_
    obtain rfl:=sm e0
    exact show Exists _ from ⟨_,(s0.1,s0.2),rfl,⟨rfl,rfl,rfl,rfl,rfl,rfl,rfl,rfl,rfl,trivial⟩,_,hB,f0,i0,h9,l0,m0,h0,n0,o0,g0,v0⟩
   rintro o7 p7 ⟨q7,b3,rfl,q0,r7,hB,f0,i0,h9,l0,m0,h0,n0,o0,g0,v0⟩
   replace k0:=Bh k0
   obtain rfl:=sm k0
   exact show Exists _ from ⟨_,(b3.1,b3.2),rfl,⟨(Cp q0 _ _ rfl),(Cp q0 _ _ rfl),(Cp q0 _ _ rfl),(Cp q0 _ _ rfl),(Cp q0 _ _ rfl),(Cp q0 _ _ rfl),trivial⟩,_,hB,f0,i0,h9,l0,m0,h0,n0,o0,g0,v0⟩
  replace k0:=im k0 q3
  refine o_z ?_
  refine Ae rfl (Cz ?_)
  obtain rfl:=sm k0
  exact show Exists _ from ⟨_,(t0.1,t0.2),q1 _ rfl,⟨rfl,trivial⟩,_,hB,a2,l3⟩
 replace hB:=(hB.st i1).st j1
 rintro s7 u4 ⟨t7,u7,rfl,c3,w7,hB,a2,l3⟩
 replace hm:=Bh hm
 refine AO _ c3 ?_
 refine Al (Aj (Am rfl rfl (At rfl rfl (o_z ?_))))
 refine AL ?_
 obtain ⟨v4,w4,a2⟩:=a2.freeze
 obtain rfl:=sm hm
 replace hB:=hB.st w4
 exact ret1v rfl (AA rfl) ⟨hB.ext,(Vb.mono (F:=Fr 0 u4 v4) a2 hB.out)⟩
end
section
section
variable {α σ ρ β : Type}
theorem Pm {f:σ→Option (Ctl σ ρ)} (I:σ→Prop) (B:σ→Prop) (R:ρ→Prop) (μ:σ→Nat) (h:∀ s,I s→(∃ s',f s=some (.next s')∧I s'∧μ s' < μ s)∨(∃ s',f s=some (.brk s')∧B s')∨∃ r,f s=some (.ret r)∧R r) :
    ∀ s,I s→(∃ s',lop f s=some (.done s')∧B s')∨∃ r,lop f s=some (.ret r)∧R r:=by
  have key:∀ (n:Nat) s,I s→μ s < n→(∃ s',lop f s=some (.done s')∧B s')∨∃ r,lop f s=some (.ret r)∧R r:=by
    intro n
    induction n with
    | zero=>intro s _ hn;omega
    | succ n ih =>
      intro s hI hn
      rw [Eh]
      rcases h s hI with ⟨s',h1,h2,h3⟩|⟨s',h1,h2⟩|⟨r,h1,h2⟩
      · rw [h1];exact ih s' h2 (by omega)
      · rw [h1];exact .inl ⟨s',rfl,h2⟩
      · rw [h1];exact .inr ⟨r,rfl,h2⟩
  exact fun s hI=>key (μ s + 1) s hI (by omega)
theorem Li {f:σ→Option (Ctl σ ρ)} {s₀:σ} {k:Fin σ ρ→Option β} {P:β→Prop} (I:σ→Prop) (B:σ→Prop) (R:ρ→Prop) (μ:σ→Nat) (h0:I s₀)
    (h:∀ s,I s→(∃ s',f s=some (.next s')∧I s'∧μ s' < μ s)∨(∃ s',f s=some (.brk s')∧B s')∨∃ r,f s=some (.ret r)∧R r)
    (hb:∀ s,B s→∃ r,k (.done s)=some r∧P r) (hr:∀ q,R q→∃ r,k (.ret q)=some r∧P r):∃ r,bnd (lop f s₀) k=some r∧P r:=by
  rcases Pm I B R μ h s₀ h0 with ⟨s,h1,h2⟩|⟨q,h1,h2⟩
  · rw [h1,Ar];exact hb s h2
  · rw [h1,Ar];exact hr q h2
theorem Hb {f:Nat→α→σ→Option (Ctl σ ρ)} {xs:List α} {s₀:σ} {k:Fin σ ρ→Option β} {P:β→Prop} (I:Nat→σ→Prop) (R:ρ→Prop) (h0:I 0 s₀)
    (h:∀ i x s,xs[i]?=some x→I i s→(∃ s',f i x s=some (.next s')∧I (i + 1) s')∨∃ q,f i x s=some (.ret q)∧R q)
    (hb:∀ s,I xs.length s→∃ r,k (.done s)=some r∧P r) (hr:∀ q,R q→∃ r,k (.ret q)=some r∧P r):∃ r,bnd (rng f xs 0 s₀) k=some r∧P r:=by
  have key:∀ (ys:List α) (j:Nat) (s:σ),(∀ i,ys[i]?=xs[j + i]?)→j + ys.length=xs.length→I j s→∃ r,bnd (rng f ys j s) k=some r∧P r:=by
    intro ys
    induction ys with
    | nil=>intro j s _ hl hI;exact hb s (by simp at hl;rw [← hl];exact hI)
    | cons y ys ih =>
      intro j s hg hl hI
      have hy:xs[j]?=some y:=by have:=hg 0;simpa using this.symm
      simp only [rng]
      rcases h j y s hy hI with ⟨s',h1,h2⟩|⟨q,h1,h2⟩
      · rw [h1]
        exact ih (j + 1) s' (fun i=>by have:=hg (i + 1);rw [show j + 1 + i=j + (i + 1) from by omega,← this];simp) (by simp at hl;omega) h2
      · rw [h1,Ar];exact hr q h2
  exact key xs 0 s₀ (fun i=>by rw [Nat.zero_add]) (by omega) h0
theorem Ma {f:Nat→α→σ→Option (Ctl σ ρ)} {xs:List α} {s₀:σ} {k:Fin σ ρ→Option β} {r:Option β} (I:Nat→σ→Prop) (h0:I 0 s₀)
    (h:∀ i x s,xs[i]?=some x→I i s→∃ s',f i x s=some (.next s')∧I (i + 1) s') (hb:∀ s,I xs.length s→k (.done s)=r):bnd (rng f xs 0 s₀) k=r:=by
  obtain ⟨s,h1,h2⟩:=FK I h0 h
  rw [h1,Ar]
  exact hb s h2
end
end
section
open Go Go.RowKit
def Inf:Int:=1125899906842624
theorem Qn {σ ρ:Type} {f:σ→Option (Ctl σ ρ)} (I:σ→Prop) (B:σ→Prop) (μ:σ→Nat) (h:∀ s,I s→(∃ s',f s=some (.next s')∧I s'∧μ s' < μ s)∨(∃ s',f s=some (.brk s')∧B s')):∀ s,I s→∃ s',lop f s=some (.done s')∧B s':=by
  have key:∀ (n:Nat) s,I s→μ s < n→∃ s',itr f n s=some (.done s')∧B s':=by
    intro n
    induction n with
    | zero=>intro s _ h0;omega
    | succ n ih =>
      intro s hs hn
      rcases h s hs with ⟨s',h1,h2,h3⟩|⟨s',h1,h2⟩
      · obtain ⟨r,hr,hb⟩:=ih s' h2 (by omega)
        exact ⟨r,by simp only [itr,h1];exact hr,hb⟩
      · exact ⟨s',by simp only [itr,h1],h2⟩
  intro s hs
  obtain ⟨r,hr,hb⟩:=key (μ s + 1) s hs (by omega)
  exact ⟨r,Gs.2 ⟨_,hr⟩,hb⟩
theorem Gv {α:Type} {l:List α} {k:Nat} {x y:α} (h:l[k]?=some x):y∈l.take (k + 1)↔y∈l.take k∨y=x:=by
  rw [List.take_add_one,h,List.mem_append];simp
end
section
open Go Go.RowKit
theorem GN {α:Type} {l:List α} {m i:Nat} {x:α} (h:(l.take m)[i]?=some x):l[i]?=some x:=by
  by_cases hi:i < m
  · rwa [List.getElem?_take_of_lt hi] at h
  · rw [List.getElem?_take_eq_none (by omega)] at h;cases h
def bfr (x y:QEn):Prop:=x.key < y.key∨(x.key=y.key∧(x.tie < y.tie∨(x.tie=y.tie∧x.number < y.number)))
instance (x y:QEn):Decidable (bfr x y):=by unfold bfr;infer_instance
def nb (x y:QEn):Prop:=¬ bfr x y
theorem Ht {x y z:QEn} (h1:nb x y) (h2:nb y z):nb x z:=by unfold nb bfr at *;omega
theorem KH {x y:QEn} (h:bfr x y):nb y x:=by unfold nb bfr at *;omega
theorem JI (x:QEn):nb x x:=by unfold nb bfr;omega
def HeapOk (l:List QEn):Prop:=∀ (j:Nat) x y,0 < j→l[j]?=some x→l[(j - 1) / 2]?=some y→nb x y
def Over (l:List QEn) (i:Nat):Prop:=∀ (j:Nat) x y,0 < i→0 < j→(j - 1) / 2=i→l[j]?=some x→l[(i - 1) / 2]?=some y→nb x y
def UpI (l:List QEn) (i:Nat):Prop:=(∀ (j:Nat) x y,0 < j→j≠i→l[j]?=some x→l[(j - 1) / 2]?=some y→nb x y)∧Over l i
def DownI (l:List QEn) (i:Nat):Prop:=(∀ (j:Nat) x y,0 < j→(j - 1) / 2≠i→l[j]?=some x→l[(j - 1) / 2]?=some y→nb x y)∧Over l i
theorem Hc {l:List QEn} {i j:Nat} {a b:QEn} (hi:l[i]?=some a) (hj:l[j]?=some b) (hne:i≠j) (k:Nat):((l.set i b).set j a)[k]?=if k=j then some a else if k=i then some b else l[k]?:=by
  by_cases h1:k=j
  · subst h1;rw [if_pos rfl,List.getElem?_set_self (by simpa using AC hj)]
  · rw [if_neg h1,List.getElem?_set_ne (by omega)]
    by_cases h2:k=i
    · subst h2;rw [if_pos rfl,List.getElem?_set_self (AC hi)]
    · rw [if_neg h2,List.getElem?_set_ne (by omega)]
theorem Lj {l:List QEn} {i j:Nat} {a b:QEn} (hi:l[i]?=some a) (hj:l[j]?=some b):((l.set i b).set j a).Perm l:=by
  have h1:=AC hi
  have h2:=AC hj
  have e1:l[i]=a:=by rw [List.getElem?_eq_getElem h1] at hi;exact Option.some.inj hi
  have e2:l[j]=b:=by rw [List.getElem?_eq_getElem h2] at hj;exact Option.some.inj hj
  rw [← e1,← e2]
  exact List.set_set_perm h1 h2
theorem UpI.step {l:List QEn} {i:Nat} {a b:QEn} (h:UpI l i) (h0:0 < i) (hi:l[i]?=some a) (hj:l[(i - 1) / 2]?=some b) (hb:bfr a b):UpI ((l.set i b).set ((i - 1) / 2) a) ((i - 1) / 2):=by
  have hne:i≠(i - 1) / 2:=by omega
  constructor
  · intro j x y hj0 hjp hx hy
    rw [Hc hi hj hne,if_neg hjp] at hx
    rw [Hc hi hj hne] at hy
    by_cases e1:j=i
    · subst e1
      rw [if_pos rfl] at hx hy
      obtain rfl:=Option.some.inj hx
      obtain rfl:=Option.some.inj hy
      exact KH hb
    · rw [if_neg e1] at hx
      by_cases e2:(j - 1) / 2=(i - 1) / 2
      · rw [if_pos e2] at hy
        obtain rfl:=Option.some.inj hy
        have:=h.1 j x b hj0 e1 hx (by rw [e2];exact hj)
        exact Ht this (KH hb)
      · rw [if_neg e2] at hy
        by_cases e3:(j - 1) / 2=i
        · rw [if_pos e3] at hy
          obtain rfl:=Option.some.inj hy
          exact h.2 j x b h0 hj0 e3 hx hj
        · rw [if_neg e3] at hy
          exact h.1 j x y hj0 e1 hx hy
  · intro j x y hp0 hj0 hjp hx hy
    rw [Hc hi hj hne] at hx hy
    have n1:((i - 1) / 2 - 1) / 2≠(i - 1) / 2:=by omega
    have n2:((i - 1) / 2 - 1) / 2≠i:=by omega
    rw [if_neg n1,if_neg n2] at hy
    have hpp:=h.1 ((i - 1) / 2) b y hp0 (by omega) hj hy
    rw [if_neg (by omega)] at hx
    by_cases e1:j=i
    · subst e1
      rw [if_pos rfl] at hx
      obtain rfl:=Option.some.inj hx
      exact hpp
    · rw [if_neg e1] at hx
      exact Ht (h.1 j x b hj0 e1 hx (by rw [hjp];exact hj)) hpp
theorem UpI.heap {l:List QEn} {i:Nat} (h:UpI l i) (hi:i=0∨∀ x y,l[i]?=some x→l[(i - 1) / 2]?=some y→nb x y):HeapOk l:=fun j x y hj hx hy=>by
  by_cases e:j=i
  · subst e
    rcases hi with h0|h1
    · omega
    · exact h1 x y hx hy
  · exact h.1 j x y hj e hx hy
theorem DownI.step {l:List QEn} {i c:Nat} {a b:QEn} (h:DownI l i) (hc:c=2 * i + 1∨c=2 * i + 2) (hi:l[i]?=some a) (hj:l[c]?=some b) (hb:bfr b a) (hs:∀ (j:Nat) x,0 < j→(j - 1) / 2=i→l[j]?=some x→nb x b):DownI ((l.set i b).set c a) c:=by
  have hne:i≠c:=by omega
  have hcp:(c - 1) / 2=i:=by omega
  constructor
  · intro j x y hj0 hjp hx hy
    rw [Hc hi hj hne] at hx hy
    rw [if_neg hjp] at hy
    by_cases e1:j=c
    · subst e1
      rw [if_pos rfl] at hx
      rw [if_pos hcp] at hy
      obtain rfl:=Option.some.inj hx
      obtain rfl:=Option.some.inj hy
      exact KH hb
    · rw [if_neg e1] at hx
      by_cases e2:j=i
      · subst e2
        rw [if_pos rfl] at hx
        rw [if_neg (by omega)] at hy
        obtain rfl:=Option.some.inj hx
        exact h.2 c _ y hj0 (by omega) hcp hj hy
      · rw [if_neg e2] at hx
        by_cases e3:(j - 1) / 2=i
        · rw [if_pos e3] at hy
          obtain rfl:=Option.some.inj hy
          exact hs j x hj0 e3 hx
        · rw [if_neg e3] at hy
          exact h.1 j x y hj0 e3 hx hy
  · intro j x y hc0 hj0 hjc hx hy
    rw [Hc hi hj hne] at hx hy
    rw [if_neg (by omega),if_neg (by omega)] at hx
    rw [if_neg (by omega),if_pos hcp] at hy
    obtain rfl:=Option.some.inj hy
    exact h.1 j x _ hj0 (by omega) hx (by rw [hjc];exact hj)
theorem DownI.heap {l:List QEn} {i:Nat} (h:DownI l i) (hi:∀ (j:Nat) x y,0 < j→(j - 1) / 2=i→l[j]?=some x→l[i]?=some y→nb x y):HeapOk l:=fun j x y hj hx hy=>by
  by_cases e:(j - 1) / 2=i
  · exact hi j x y hj e hx (by rw [← e];exact hy)
  · exact h.1 j x y hj e hx hy
theorem Nl {l:List QEn} (h:HeapOk l) {e:QEn} (he:l[0]?=some e):∀ x∈l,nb x e:=by
  have key:∀ (n j:Nat) x,j≤n→l[j]?=some x→nb x e:=by
    intro n
    induction n with
    | zero =>
      intro j x hj hx
      have hj0:j=0:=by omega
      rw [hj0,he] at hx
      rw [← Option.some.inj hx]
      exact JI _
    | succ n ih =>
      intro j x hj hx
      by_cases h0:j=0
      · exact ih j x (by omega) hx
      · obtain ⟨y,hy⟩:=AE (l:=l) (k:=(j - 1) / 2) (by have:=AC hx;omega)
        exact Ht (h j x y (by omega) hx hy) (ih ((j - 1) / 2) y (by omega) hy)
  intro x hx
  obtain ⟨j,hj⟩:=List.getElem?_of_mem hx
  exact key j j x (by omega) hj
end
section
set_option linter.unusedVariables false
open Go Go.RowKit
def lle (c k c' k':Int):Prop:=c < c'∨(c=c'∧k≤k')
instance (c k c' k':Int):Decidable (lle c k c' k'):=by unfold lle;infer_instance
theorem Kt {a b c d e f:Int} (h1:lle a b c d) (h2:lle c d e f):lle a b e f:=by unfold lle at *;omega
theorem FL (a b:Int):lle a b a b:=by unfold lle;omega
def upd {α:Type} (f:Nat→α) (m:Nat) (x:α):Nat→α:=fun j=>if j=m then x else f j
theorem AS {α:Type} (f:Nat→α) (m:Nat) (x:α):upd f m x m=x:=if_pos rfl
theorem AT {α:Type} {f:Nat→α} {m:Nat} {x:α} {j:Nat} (h:j≠m):upd f m x j=f j:=if_neg h
inductive Lx (S:Nat→Prop) (A:Nat→List (Nat×Int)):Nat→Int→Int→Prop
  | src {i:Nat}:S i→Lx S A i 0 0
  | step {i:Nat} {c k:Int} {j:Nat} {w:Int}:Lx S A i c k→(j,w)∈A i→Lx S A j (c + w) (k + 1)
theorem Lx.mono {S S':Nat→Prop} {A:Nat→List (Nat×Int)} (hS:∀ i,S i→S' i) {i:Nat} {c k:Int} (h:Lx S A i c k):Lx S' A i c k:=by
  induction h with
  | src h=>exact .src (hS _ h)
  | step _ hm ih=>exact .step ih hm
structure ArcsOk (n:Nat) (A:Nat→List (Nat×Int)):Prop where
  to:∀ i p,p∈A i→i < n∧p.1 < n
  wt:∀ i p,p∈A i→0≤p.2∧p.2≤1048576
def sumF (g:Nat→Nat):Nat→Nat
  | 0=>0
  | n + 1=>sumF g n + g n
theorem Hu {g g':Nat→Nat}:∀ {n:Nat},(∀ j,j < n→g' j=g j)→sumF g' n=sumF g n
  | 0,_=>rfl
  | n + 1,h=>by
    have h1:=Hu (n:=n) fun j hj=>h j (by omega)
    have h2:=h n (by omega)
    simp only [sumF];omega
theorem Jo {g g':Nat→Nat} {i:Nat}:∀ {n:Nat},i < n→(∀ j,j≠i→g' j=g j)→sumF g' n + g i=sumF g n + g' i
  | 0,h,_=>by omega
  | n + 1,h,he=>by
    by_cases e:i=n
    · subst e
      have:=Hu (g:=g) (g':=g') (n:=i) fun j hj=>he j (by omega)
      simp only [sumF];omega
    · have h1:=Jo (n:=n) (by omega) he
      have h2:=he n (by omega)
      simp only [sumF];omega
theorem JX {g g':Nat→Nat}:∀ {n:Nat},(∀ j,j < n→g' j≤g j)→sumF g' n≤sumF g n
  | 0,_=>Nat.le_refl _
  | n + 1,h=>by
    have h1:=JX (n:=n) fun j hj=>h j (by omega)
    have h2:=h n (by omega)
    simp only [sumF];omega
theorem JY {g g':Nat→Nat} {i:Nat}:∀ {n:Nat},(∀ j,j < n→g' j≤g j)→i < n→g' i < g i→sumF g' n < sumF g n
  | 0,_,h,_=>by omega
  | n + 1,h,hi,hl=>by
    have h2:=h n (by omega)
    by_cases e:i=n
    · subst e
      have h1:=JX (g:=g) (g':=g') (n:=i) fun j hj=>h j (by omega)
      simp only [sumF];omega
    · have h1:=JY (g:=g) (g':=g') (n:=n) (fun j hj=>h j (by omega)) (by omega) hl
      simp only [sumF];omega
theorem Jp {g:Nat→Nat} {m:Nat}:∀ {n:Nat},(∀ j,j < n→g j≤m)→sumF g n≤n * m
  | 0,_=>by simp [sumF]
  | n + 1,h=>by
    have h1:=Jp (n:=n) fun j hj=>h j (by omega)
    have h2:=h n (by omega)
    simp only [sumF,Nat.succ_mul];omega
theorem Lk {g:Nat→Nat}:∀ {n:Nat},0 < sumF g n→∃ i,i < n∧0 < g i
  | 0,h=>by simp [sumF] at h
  | n + 1,h=>by
    by_cases h1:0 < sumF g n
    · obtain ⟨i,a,b⟩:=Lk h1
      exact ⟨i,by omega,b⟩
    · exact ⟨n,by omega,by simp only [sumF] at h;omega⟩
def nScan (f:Nat→Bool) (n:Nat):Nat:=sumF (fun i=>if f i=true then 1 else 0) n
def nRem (A:Nat→List (Nat×Int)) (f:Nat→Bool) (n:Nat):Nat:=sumF (fun i=>if f i=true then 0 else (A i).length) n
theorem Ll (f:Nat→Bool) (n:Nat):nScan f n≤n:=by
  have:=Jp (g:=fun i=>if f i=true then 1 else 0) (m:=1) (n:=n) fun j _=>by split<;>omega
  unfold nScan;omega
theorem Nm {f:Nat→Bool} {n i:Nat} (hi:i < n) (hf:f i=false):nScan (upd f i true) n=nScan f n + 1:=by
  have:=Jo (g:=fun i=>if f i=true then 1 else 0) (g':=fun j=>if upd f i true j=true then 1 else 0) hi fun j hj=>by rw [AT hj]
  rw [AS,if_pos rfl,hf,if_neg (by simp)] at this
  unfold nScan;omega
theorem Oj {A:Nat→List (Nat×Int)} {f:Nat→Bool} {n i:Nat} (hi:i < n) (hf:f i=false):nRem A (upd f i true) n + (A i).length=nRem A f n:=by
  have:=Jo (g:=fun i=>if f i=true then 0 else (A i).length) (g':=fun j=>if upd f i true j=true then 0 else (A j).length) hi fun j hj=>by rw [AT hj]
  rw [AS,if_pos rfl,hf,if_neg (by simp)] at this
  unfold nRem;omega
structure DjI (n:Nat) (A:Nat→List (Nat×Int)) (S:Nat→Prop) (D:Nat→Nat×Int→Prop) (d k:Nat→Int) (f:Nat→Bool) (hp:List QEn):Prop where
  src:∀ i,S i→i < n∧d i=0∧k i=0
  real:∀ i,d i≠Inf→Lx S A i (d i) (k i)
  bnd:∀ i,d i≠Inf→i < n∧0≤d i∧d i≤(nScan f n:Int) * 1048576∧0≤k i∧k i≤(nScan f n:Int)
  inf:∀ i,d i=Inf→k i=Inf
  ent:∀ e∈hp,∃ i:Nat,e.item=(i:Int)∧i < n∧d i≠Inf∧lle (d i) (k i) e.key e.tie
  opn:∀ i,f i=false→d i≠Inf→∃ e∈hp,e.key=d i∧e.tie=k i∧e.item=(i:Int)
  low:∀ j,f j=true→∀ e∈hp,lle (d j) (k j) e.key e.tie
  fin:∀ j,f j=true→d j≠Inf
  old:∀ (j:Nat) e,f j=true→e∈hp→e.item=(j:Int)→e.key=d j→e.tie=k j→False
  uni:hp.Pairwise (fun a b=>¬(a.key=b.key∧a.tie=b.tie∧a.item=b.item))
  rel:∀ j p,f j=true→p∈A j→D j p→d p.1≠Inf∧lle (d p.1) (k p.1) (d j + p.2) (k j + 1)
structure LexP (n:Nat) (A:Nat→List (Nat×Int)) (S:Nat→Prop) (d k:Nat→Int):Prop where
  real:∀ i,d i≠Inf→Lx S A i (d i) (k i)
  low:∀ i c q,Lx S A i c q→d i≠Inf∧lle (d i) (k i) c q
theorem Gw {hp hp':List QEn} (h:hp'.Perm hp) (hu:hp.Pairwise (fun a b=>¬(a.key=b.key∧a.tie=b.tie∧a.item=b.item))):hp'.Pairwise (fun a b=>¬(a.key=b.key∧a.tie=b.tie∧a.item=b.item)) :=
  (h.pairwise_iff fun {a b} hab hc=>hab ⟨hc.1.symm,hc.2.1.symm,hc.2.2.symm⟩).2 hu
section
variable {n : Nat} {A : Nat → List (Nat × Int)} {S : Nat → Prop} {D : Nat → Nat × Int → Prop} {d k : Nat → Int} {f : Nat → Bool} {hp hp' : List QEn} {e : QEn}
theorem Ol:DjI n A (fun _=>False) (fun _ _=>True) (fun _=>Inf) (fun _=>Inf) (fun _=>false) [] :=
  ⟨fun _ h=>h.elim,fun _ h=>(h rfl).elim,fun _ h=>(h rfl).elim,fun _ _=>rfl,fun _ h=>(by simp at h),fun _ _ h=>(h rfl).elim,fun _ h=>(by simp at h),fun _ h=>(by simp at h),fun _ _ h=>(by simp at h),List.Pairwise.nil,fun _ _ h=>(by simp at h)⟩
theorem DjI.source (h:DjI n A S D d k (fun _=>false) hp) {i:Nat} (hi:i < n) (hd:d i=Inf) (hh:hp'.Perm (e :: hp)) (e1:e.key=0) (e2:e.tie=0) (e3:e.item=(i:Int)):DjI n A (fun j=>S j∨j=i) D (upd d i 0) (upd k i 0) (fun _=>false) hp':=by
  have hI:Inf≠0:=by unfold Inf;omega
  refine ⟨?_,?_,?_,?_,?_,?_,fun _ h=>(by simp at h),fun _ h=>(by simp at h),fun _ _ h=>(by simp at h),Gw hh (List.pairwise_cons.2 ⟨fun x hx hc=>?_,h.uni⟩),fun _ _ h=>(by simp at h)⟩
  · intro j hj
    by_cases e:j=i
    · subst e;exact ⟨hi,AS ..,AS ..⟩
    · rw [AT e,AT e];exact h.src j (hj.resolve_right e)
  · intro j hj
    by_cases e:j=i
    · subst e;rw [AS,AS];exact .src (.inr rfl)
    · rw [AT e] at hj;rw [AT e,AT e];exact (h.real j hj).mono fun _=>.inl
  · intro j hj
    by_cases e:j=i
    · subst e;rw [AS,AS];exact ⟨hi,by omega,by omega,by omega,by omega⟩
    · rw [AT e] at hj;rw [AT e,AT e];exact h.bnd j hj
  · intro j hj
    by_cases e:j=i
    · subst e;rw [AS] at hj;exact (hI hj.symm).elim
    · rw [AT e] at hj;rw [AT e];exact h.inf j hj
  · intro x hx
    rcases List.mem_cons.1 (hh.mem_iff.1 hx) with rfl|hx
    · exact ⟨i,e3,hi,by rw [AS];exact hI.symm,by rw [AS,AS,e1,e2];exact FL _ _⟩
    · obtain ⟨j,a,b,c,g⟩:=h.ent x hx
      have e:j≠i:=fun e=>c (by rw [e];exact hd)
      exact ⟨j,a,b,by rw [AT e];exact c,by rw [AT e,AT e];exact g⟩
  · intro j _ hj
    by_cases e:j=i
    · subst e;exact ⟨_,hh.mem_iff.2 List.mem_cons_self,by rw [AS];exact e1,by rw [AS];exact e2,e3⟩
    · rw [AT e] at hj
      obtain ⟨x,m,r⟩:=h.opn j rfl hj
      exact ⟨x,hh.mem_iff.2 (List.mem_cons_of_mem _ m),by rw [AT e,AT e];exact r⟩
  · obtain ⟨j,a,_,c,_⟩:=h.ent x hx
    have:j=i:=by omega
    subst this
    exact c hd
theorem DjI.drop (h:DjI n A S D d k f hp) (hh:hp.Perm (e :: hp')) {i:Nat} (hi:e.item=(i:Int)) (hd:¬(e.key=d i∧e.tie=k i)):DjI n A S D d k f hp' :=
  { h with
    ent:=fun x hx=>h.ent x (hh.mem_iff.2 (List.mem_cons_of_mem _ hx))
    opn := fun j hj hc=>by
      obtain ⟨x,m,a,b,c⟩:=h.opn j hj hc
      rcases List.mem_cons.1 (hh.mem_iff.1 m) with rfl|m
      · have:j=i:=by omega
        subst this
        exact (hd ⟨a,b⟩).elim
      · exact ⟨x,m,a,b,c⟩
    low:=fun j hj x hx=>h.low j hj x (hh.mem_iff.2 (List.mem_cons_of_mem _ hx))
    old:=fun j x hj hx=>h.old j x hj (hh.mem_iff.2 (List.mem_cons_of_mem _ hx))
    uni:=(List.pairwise_cons.1 (Gw hh.symm h.uni)).2 }
theorem DjI.mark (h:DjI n A S (fun _ _=>True) d k f hp) (hh:hp.Perm (e :: hp')) (hmin:∀ x∈hp,nb x e) {i:Nat} (hi:e.item=(i:Int)) (h1:e.key=d i) (h2:e.tie=k i) :
    f i=false∧i < n∧d i≠Inf∧nScan (upd f i true) n=nScan f n + 1∧nRem A (upd f i true) n + (A i).length=nRem A f n∧(∀ j,upd f i true j=true→lle (d j) (k j) (d i) (k i))∧DjI n A S (fun j _=>j≠i) d k (upd f i true) hp':=by
  have he:e∈hp:=hh.mem_iff.2 List.mem_cons_self
  have hsub:∀ x,x∈hp'→x∈hp:=fun x hx=>hh.mem_iff.2 (List.mem_cons_of_mem _ hx)
  obtain ⟨i',a,b,c,_⟩:=h.ent e he
  have e0:i'=i:=by omega
  subst e0
  have hf:f i'=false:=by
    cases hb:f i' with
    | false=>rfl
    | true=>exact (h.old i' e hb he hi h1 h2).elim
  have hn:=Nm b hf
  have hl:∀ x∈hp,lle (d i') (k i') x.key x.tie:=fun x hx=>by
    have:=hmin x hx
    rw [← h1,← h2]
    unfold nb bfr at this
    unfold lle
    omega
  have hu:∀ j,upd f i' true j=true→j=i'∨f j=true:=fun j hj=>by
    by_cases e:j=i'
    · exact .inl e
    · rw [AT e] at hj;exact .inr hj
  refine ⟨hf,b,c,hn,Oj b hf,fun j hj=>?_,⟨h.src,h.real,fun j hj=>?_,h.inf,fun x hx=>h.ent x (hsub x hx),fun j hj hc=>?_,fun j hj x hx=>?_,fun j hj=>?_,fun j x hj hx e1 e2 e3=>?_,(List.pairwise_cons.1 (Gw hh.symm h.uni)).2,fun j p hj hp hne=>?_⟩⟩
  · rcases hu j hj with rfl|hj
    · exact FL _ _
    · have:=h.low j hj e he
      rwa [h1,h2] at this
  · have:=h.bnd j hj
    rw [hn]
    omega
  · have e:j≠i':=fun e=>by subst e;rw [AS] at hj;cases hj
    rw [AT e] at hj
    obtain ⟨x,m,r1,r2,r3⟩:=h.opn j hj hc
    rcases List.mem_cons.1 (hh.mem_iff.1 m) with rfl|m
    · omega
    · exact ⟨x,m,r1,r2,r3⟩
  · rcases hu j hj with rfl|hj
    · exact hl x (hsub x hx)
    · exact h.low j hj x (hsub x hx)
  · rcases hu j hj with rfl|hj
    · exact c
    · exact h.fin j hj
  · rcases hu j hj with rfl|hj
    · exact (List.pairwise_cons.1 (Gw hh.symm h.uni)).1 x hx ⟨by omega,by omega,by omega⟩
    · exact h.old j x hj (hsub x hx) e1 e2 e3
  · rcases hu j hj with rfl|hj
    · exact (hne rfl).elim
    · exact h.rel j p hj hp trivial
theorem DjI.keep (h:DjI n A S D d k f hp) {D':Nat→Nat×Int→Prop} {i:Nat} {p:Nat×Int} (hD:∀ j q,D' j q→D j q∨(j=i∧q=p)) (hm:d p.1≠Inf) (hl:lle (d p.1) (k p.1) (d i + p.2) (k i + 1)):DjI n A S D' d k f hp :=
  { h with
    rel:=fun j q hj hq hd=>by
      rcases hD j q hd with hd|⟨rfl,rfl⟩
      · exact h.rel j q hj hq hd
      · exact ⟨hm,hl⟩ }
theorem DjI.better (h:DjI n A S D d k f hp) (hA:ArcsOk n A) {D':Nat→Nat×Int→Prop} {i:Nat} {p:Nat×Int} (hD:∀ j q,D' j q→D j q∨(j=i∧q=p)) (hf:f i=true) (hcur:∀ j,f j=true→lle (d j) (k j) (d i) (k i)) (hb:d i + 1048576≤(nScan f n:Int) * 1048576) (hb2:k i + 1≤(nScan f n:Int)) (hp0:p∈A i)
    (hl:¬ lle (d p.1) (k p.1) (d i + p.2) (k i + 1)) (hh:hp'.Perm (e :: hp)) (e1:e.key=d i + p.2) (e2:e.tie=k i + 1) (e3:e.item=(p.1:Int)) (hx:d i + p.2≠Inf):p.1≠i∧DjI n A S D' (upd d p.1 (d i + p.2)) (upd k p.1 (k i + 1)) f hp':=by
  obtain ⟨m,w⟩:=p
  dsimp only at *
  have hw:=hA.wt i _ hp0
  have hmn:=(hA.to i _ hp0).2
  dsimp only at hw hmn
  have hdi:=h.fin i hf
  have hbi:=h.bnd i hdi
  have hmf:∀ j,f j=true→j≠m:=fun j hj e=>by
    subst e
    have:=hcur j hj
    unfold lle at this hl
    omega
  have hmi:=hmf i hf
  refine ⟨Ne.symm hmi,fun j hj=>?_,fun j hj=>?_,fun j hj=>?_,fun j hj=>?_,fun x hx'=>?_,fun j hj hc=>?_,fun j hj x hx'=>?_,fun j hj=>?_,fun j x hj hx' f1 f2 f3=>?_,Gw hh (List.pairwise_cons.2 ⟨fun x hx' hc=>?_,h.uni⟩),fun j q hj hq hd=>?_⟩
  · obtain ⟨a,b,c⟩:=h.src j hj
    have e:j≠m:=fun e=>by subst e;unfold lle at hl;omega
    rw [AT e,AT e];exact ⟨a,b,c⟩
  · by_cases e:j=m
    · subst e;rw [AS,AS];exact .step (h.real i hdi) hp0
    · rw [AT e] at hj;rw [AT e,AT e];exact h.real j hj
  · by_cases e:j=m
    · subst e;rw [AS,AS];exact ⟨hmn,by omega,by omega,by omega,by omega⟩
    · rw [AT e] at hj;rw [AT e,AT e];exact h.bnd j hj
  · by_cases e:j=m
    · subst e;rw [AS] at hj;exact (hx hj).elim
    · rw [AT e] at hj;rw [AT e];exact h.inf j hj
  · rcases List.mem_cons.1 (hh.mem_iff.1 hx') with rfl|hx'
    · exact ⟨m,e3,hmn,by rw [AS];exact hx,by rw [AS,AS,e1,e2];exact FL _ _⟩
    · obtain ⟨j,a,b,c,g⟩:=h.ent x hx'
      by_cases e:j=m
      · subst e
        exact ⟨j,a,b,by rw [AS];exact hx,by rw [AS,AS];unfold lle at *;omega⟩
      · exact ⟨j,a,b,by rw [AT e];exact c,by rw [AT e,AT e];exact g⟩
  · by_cases e:j=m
    · subst e;exact ⟨_,hh.mem_iff.2 List.mem_cons_self,by rw [AS];exact e1,by rw [AS];exact e2,e3⟩
    · rw [AT e] at hc
      obtain ⟨x,m,r⟩:=h.opn j hj hc
      exact ⟨x,hh.mem_iff.2 (List.mem_cons_of_mem _ m),by rw [AT e,AT e];exact r⟩
  · rw [AT (hmf j hj),AT (hmf j hj)]
    rcases List.mem_cons.1 (hh.mem_iff.1 hx') with rfl|hx'
    · have:=hcur j hj
      rw [e1,e2]
      unfold lle at *
      omega
    · exact h.low j hj x hx'
  · rw [AT (hmf j hj)];exact h.fin j hj
  · have e:=hmf j hj
    rw [AT e] at f2 f3
    rcases List.mem_cons.1 (hh.mem_iff.1 hx') with rfl|hx'
    · omega
    · exact h.old j x hj hx' f1 f2 f3
  · obtain ⟨j,a,_,c,g⟩:=h.ent x hx'
    have:j=m:=by omega
    subst this
    obtain ⟨c1,c2,c3⟩:=hc
    rw [← c1,← c2,e1,e2] at g
    exact hl g
  · have e:=hmf j hj
    rw [AT e,AT e]
    rcases hD j q hd with hd|⟨rfl,rfl⟩
    · obtain ⟨r1,r2⟩:=h.rel j q hj hq hd
      by_cases e:q.1=m
      · rw [e] at r1 r2 ⊢
        rw [AS,AS]
        exact ⟨hx,by unfold lle at *;omega⟩
      · rw [AT e,AT e];exact ⟨r1,r2⟩
    · dsimp only
      rw [AS,AS];exact ⟨hx,FL _ _⟩
theorem DjI.done (h:DjI n A S (fun _ _=>True) d k f []):LexP n A S d k:=by
  have hI:Inf≠0:=by unfold Inf;omega
  refine ⟨h.real,fun i c q hx=>?_⟩
  induction hx with
  | src hs=>obtain ⟨_,a,b⟩:=h.src _ hs;rw [a,b];exact ⟨hI.symm,FL _ _⟩
  | @step i c q j w _ hm ih =>
    have hf:f i=true:=by
      cases hb:f i with
      | true=>rfl
      | false=>obtain ⟨x,m,_⟩:=h.opn i hb ih.1;simp at m
    obtain ⟨r1,r2⟩:=h.rel i _ hf hm trivial
    refine ⟨r1,Kt r2 ?_⟩
    have:=ih.2
    unfold lle at *
    omega
end
section
variable {n : Nat} {A : Nat → List (Nat × Int)} {S : Nat → Prop} {d k d' k' : Nat → Int}
theorem LexP.same (h:LexP n A S d k) (h':LexP n A S d' k') (i:Nat):d i=d' i∧(d i≠Inf→k i=k' i):=by
  by_cases h1:d i=Inf
  · by_cases h2:d' i=Inf
    · exact ⟨by rw [h1,h2],fun hh=>(hh h1).elim⟩
    · exact ((h.low i _ _ (h'.real i h2)).1 h1).elim
  · have a:=h'.low i _ _ (h.real i h1)
    have b:=h.low i _ _ (h'.real i a.1)
    have a2:=a.2
    have b2:=b.2
    unfold lle at a2 b2
    exact ⟨by omega,fun _=>by omega⟩
theorem LexP.tight (h:LexP n A S d k) {i:Nat} (hi:d i≠Inf):(S i∧d i=0∧k i=0)∨∃ j w,(i,w)∈A j∧d j≠Inf∧d i=d j + w∧k i=k j + 1:=by
  have hr:=h.real i hi
  generalize hc:d i=c at hr
  generalize hk:k i=q at hr
  cases hr with
  | src hs=>exact .inl ⟨hs,rfl,rfl⟩
  | @step j c' q' _ w hx hm =>
    obtain ⟨a1,a2⟩:=h.low j _ _ hx
    have b:=(h.low i _ _ (.step (h.real j a1) hm)).2
    rw [hc,hk] at b
    unfold lle at a2 b
    exact .inr ⟨j,w,hm,a1,by omega,by omega⟩
end
end
section
set_option linter.unusedVariables false
open Go Go.RowKit
theorem Lx.pos {n:Nat} {S:Nat→Prop} {A:Nat→List (Nat×Int)} (hA:ArcsOk n A) {i:Nat} {c k:Int} (h:Lx S A i c k):0≤c∧0≤k∧c≤k * 1048576:=by
  induction h with
  | src _=>omega
  | step _ hm ih=>have:=hA.wt _ _ hm;dsimp only at this;omega
structure BfI (S:Nat→Prop) (A:Nat→List (Nat×Int)) (x y:Nat→Int) (B:Int):Prop where
  src:∀ i,S i→x i=0∧y i=0
  real:∀ i,x i≠Inf→Lx S A i (x i) (y i)
  bd:∀ i,x i≠Inf→y i≤B
structure PasI (S:Nat→Prop) (A:Nat→List (Nat×Int)) (Q:Nat→Nat×Int→Prop) (x0 y0 x y:Nat→Int) (b:Bool) (B:Int):Prop where
  bf:BfI S A x y B
  le:∀ i,x0 i≠Inf→x i≠Inf∧lle (x i) (y i) (x0 i) (y0 i)
  don:∀ j p,p∈A j→Q j p→x0 j≠Inf→x p.1≠Inf∧lle (x p.1) (y p.1) (x0 j + p.2) (y0 j + 1)
  ff:b=false→∀ i,x i=x0 i∧y i=y0 i
  tt:b=true→∃ i,x i≠Inf∧(x0 i=Inf∨¬ lle (x0 i) (y0 i) (x i) (y i))
section
variable {n : Nat} {A : Nat → List (Nat × Int)} {S : Nat → Prop} {Q Q' : Nat → Nat × Int → Prop} {d k x0 y0 x y : Nat → Int} {b : Bool} {B B' : Int}
theorem BfI.mono (h:BfI S A x y B) (hB:B≤B'):BfI S A x y B':={ h with bd:=fun i hi=>Int.le_trans (h.bd i hi) hB }
theorem Nn (h:BfI S A x y B):PasI S A (fun _ _=>False) x y x y false B :=
  ⟨h,fun _ hi=>⟨hi,FL _ _⟩,fun _ _ _ h=>h.elim,fun _ _=>⟨rfl,rfl⟩,fun h=>by simp at h⟩
theorem PasI.skip (h:PasI S A Q x0 y0 x y b B) {j:Nat} {p:Nat×Int} (hQ:∀ i q,Q' i q→Q i q∨(i=j∧q=p)) (hj:x j=Inf):PasI S A Q' x0 y0 x y b B :=
  { h with
    don:=fun i q hq hQq h0=>by
      rcases hQ i q hQq with hq'|⟨rfl,rfl⟩
      · exact h.don i q hq hq' h0
      · exact ((h.le _ h0).1 hj).elim }
theorem PasI.mono (h:PasI S A Q x0 y0 x y b B) (hB:B≤B'):PasI S A Q x0 y0 x y b B':={ h with bf:=h.bf.mono hB }
theorem PasI.keep (h:PasI S A Q x0 y0 x y b B) {j:Nat} {p:Nat×Int} (hQ:∀ i q,Q' i q→Q i q∨(i=j∧q=p)) (hm:x p.1≠Inf) (hl:lle (x p.1) (y p.1) (x j + p.2) (y j + 1)):PasI S A Q' x0 y0 x y b B :=
  { h with
    don := fun i q hq hQq h0=>by
      rcases hQ i q hQq with hq'|⟨rfl,rfl⟩
      · exact h.don i q hq hq' h0
      · have:=(h.le _ h0).2
        exact ⟨hm,by unfold lle at *;omega⟩ }
theorem PasI.better (h:PasI S A Q x0 y0 x y b B) (hA:ArcsOk n A) {j m:Nat} {w:Int} (hQ:∀ i q,Q' i q→Q i q∨(i=j∧q=(m,w))) (hp:(m,w)∈A j) (hj:x j≠Inf) (hX:x j + w≠Inf) (hl:x m=Inf∨¬ lle (x m) (y m) (x j + w) (y j + 1)):PasI S A Q' x0 y0 (upd x m (x j + w)) (upd y m (y j + 1)) true (B + 1):=by
  have hr:=h.bf.real j hj
  have hps:=hr.pos hA
  have hw:=hA.wt _ _ hp
  dsimp only at hw
  refine ⟨⟨fun i hi=>?_,fun i hi=>?_,fun i hi=>?_⟩,fun i hi=>?_,fun i q hq hQq h0=>?_,fun hh=>by simp at hh,fun _=>⟨m,by rw [AS];exact hX,?_⟩⟩
  · obtain ⟨a,c⟩:=h.bf.src i hi
    have hI:Inf≠0:=by unfold Inf;omega
    have e:i≠m:=fun e=>by
      subst e
      rcases hl with hl|hl
      · exact hI (by rw [← hl,a])
      · unfold lle at hl;omega
    rw [AT e,AT e];exact ⟨a,c⟩
  · by_cases e:i=m
    · subst e;rw [AS,AS];exact .step hr hp
    · rw [AT e] at hi;rw [AT e,AT e];exact h.bf.real i hi
  · by_cases e:i=m
    · subst e;rw [AS];have:=h.bf.bd j hj;omega
    · rw [AT e] at hi;rw [AT e];have:=h.bf.bd i hi;omega
  · obtain ⟨a,c⟩:=h.le i hi
    by_cases e:i=m
    · subst e
      rw [AS,AS]
      rcases hl with hl|hl
      · exact (a hl).elim
      · exact ⟨hX,by unfold lle at *;omega⟩
    · rw [AT e,AT e];exact ⟨a,c⟩
  · rcases hQ i q hQq with hq'|⟨rfl,rfl⟩
    · obtain ⟨a,c⟩:=h.don i q hq hq' h0
      by_cases e:q.1=m
      · rw [e] at a c ⊢
        rw [AS,AS]
        rcases hl with hl|hl
        · exact (a hl).elim
        · exact ⟨hX,by unfold lle at *;omega⟩
      · rw [AT e,AT e];exact ⟨a,c⟩
    · dsimp only
      rw [AS,AS]
      have:=(h.le _ h0).2
      exact ⟨hX,by unfold lle at *;omega⟩
  · rw [AS,AS]
    by_cases h0:x0 m=Inf
    · exact .inl h0
    · obtain ⟨a,c⟩:=h.le m h0
      rcases hl with hl|hl
      · exact (a hl).elim
      · exact .inr (by unfold lle at *;omega)
def nOpt (d k x y:Nat→Int) (n:Nat):Nat:=sumF (fun i=>if d i≠Inf∧¬ (x i=d i∧y i=k i) then 1 else 0) n
theorem PasI.less (h:PasI S A (fun _ _=>True) x0 y0 x y b B) (h0:BfI S A x0 y0 B') (hL:LexP n A S d k) (hn:∀ i,d i≠Inf→i < n) (hA:ArcsOk n A):nOpt d k x y n + (if b=true then 1 else 0) < nOpt d k x0 y0 n + 1:=by
  have good:∀ i,d i≠Inf→x i≠Inf→lle (x i) (y i) (d i) (k i)→x i=d i∧y i=k i:=fun i hi hx hl=>by
    have:=(hL.low i _ _ (h.bf.real i hx)).2
    unfold lle at *;omega
  have stay:∀ i,d i≠Inf→x0 i=d i→y0 i=k i→x i=d i∧y i=k i:=fun i hi e1 e2=>by
    obtain ⟨a,c⟩:=h.le i (by rw [e1];exact hi)
    rw [e1,e2] at c
    exact good i hi a c
  have hle:∀ j,j < n→(if d j≠Inf∧¬ (x j=d j∧y j=k j) then 1 else 0)≤(if d j≠Inf∧¬ (x0 j=d j∧y0 j=k j) then 1 else 0):=fun j _=>by
    by_cases h1:d j≠Inf∧¬ (x0 j=d j∧y0 j=k j)
    · rw [if_pos h1];split<;>omega
    · rw [if_neg h1,if_neg]
      · omega
      · rintro ⟨a,c⟩
        refine h1 ⟨a,fun hh=>c (stay j a hh.1 hh.2)⟩
  by_cases hz:nOpt d k x0 y0 n=0
  · have h2:nOpt d k x y n≤nOpt d k x0 y0 n:=JX hle
    cases b with
    | false=>simp;omega
    | true =>
      exfalso
      obtain ⟨i,hi,hl⟩:=h.tt rfl
      obtain ⟨a,c⟩:=hL.low i _ _ (h.bf.real i hi)
      have:x0 i=d i∧y0 i=k i:=by
        refine Classical.byContradiction fun hc=>?_
        have hlt:=JY (g:=fun i=>if d i≠Inf∧¬ (x0 i=d i∧y0 i=k i) then 1 else 0) (g':=fun _=>0) (n:=n) (i:=i) (fun _ _=>Nat.zero_le _) (hn i a) (by rw [if_pos ⟨a,hc⟩];omega)
        unfold nOpt at hz;omega
      rw [this.1,this.2] at hl
      rcases hl with hl|hl
      · exact a hl
      · exact hl c
  · have find:∀ (K:Nat) i,k i≤(K:Int)→d i≠Inf→¬ (x0 i=d i∧y0 i=k i)→∃ j,d j≠Inf∧¬ (x0 j=d j∧y0 j=k j)∧x j=d j∧y j=k j:=by
      intro K
      induction K with
      | zero =>
        intro i hk hd hb
        rcases hL.tight hd with ⟨hs,e1,e2⟩|⟨j,w,hm,hj,e1,e2⟩
        · have:=h0.src i hs;omega
        · have:=((hL.real j hj).pos hA).2.1;omega
      | succ K ih =>
        intro i hk hd hb
        rcases hL.tight hd with ⟨hs,e1,e2⟩|⟨j,w,hm,hj,e1,e2⟩
        · have:=h0.src i hs;omega
        · by_cases hb':x0 j=d j∧y0 j=k j
          · obtain ⟨a,c⟩:=h.don j _ hm trivial (by rw [hb'.1];exact hj)
            dsimp only at a c
            rw [hb'.1,hb'.2,← e1,← e2] at c
            exact ⟨i,hd,hb,good i hd a c⟩
          · exact ih j (by omega) hj hb'
    obtain ⟨i,_,hi⟩:=Lk (Nat.pos_of_ne_zero hz)
    have hi':d i≠Inf∧¬ (x0 i=d i∧y0 i=k i):=Classical.byContradiction fun hc=>by rw [if_neg hc] at hi;omega
    obtain ⟨j,j1,j2,j3⟩:=find (k i).toNat i (by have:=((hL.real i hi'.1).pos hA).2.1;omega) hi'.1 hi'.2
    have hlt:nOpt d k x y n < nOpt d k x0 y0 n:=JY (i:=j) hle (hn j j1) (by rw [if_neg (fun hh:d j≠Inf∧¬ (x j=d j∧y j=k j)=>hh.2 j3),if_pos ⟨j1,j2⟩];omega)
    split<;>omega
theorem PasI.done (h:PasI S A (fun _ _=>True) x0 y0 x y false B):LexP n A S x0 y0:=by
  have hI:Inf≠0:=by unfold Inf;omega
  have he:=h.ff rfl
  refine ⟨fun i hi=>?_,fun i c q hx=>?_⟩
  · have:=h.bf.real i (by rw [(he i).1];exact hi)
    rwa [(he i).1,(he i).2] at this
  · induction hx with
    | @src i hs =>
      obtain ⟨a,c⟩:=h.bf.src i hs
      rw [(he i).1] at a
      rw [(he i).2] at c
      rw [a,c];exact ⟨hI.symm,FL _ _⟩
    | @step i c q j w _ hm ih =>
      obtain ⟨r1,r2⟩:=h.don i _ hm trivial ih.1
      dsimp only at r1 r2
      rw [(he j).1] at r1 r2
      rw [(he j).2] at r2
      refine ⟨r1,Kt r2 ?_⟩
      have:=ih.2
      unfold lle at *
      omega
end
end
section
open Go Go.RowKit
theorem Ir (x y:QEn):BX x y=some (decide (bfr x y)):=by
  unfold BX bfr
  by_cases h1:x.key=y.key
  · by_cases h2:x.tie=y.tie
    · by_cases h3:x.number < y.number<;>simp [h1,h2,h3,bnd]
    · by_cases h3:x.tie < y.tie<;>simp [h1,h2,h3,bnd]
  · by_cases h3:x.key < y.key<;>simp [h1,h3,bnd]
theorem Re {q:Que} {i:Nat} (hi:i < q.heap.length) (hl:q.heap.length≤1000000) (h:UpI q.heap i):∃ r,CK q (i:Int)=some r∧HeapOk r.heap∧r.heap.Perm q.heap∧r.next=q.next:=by
  unfold CK
  refine Li (fun s=>∃ i:Nat,s.1=(i:Int)∧i < s.2.heap.length∧UpI s.2.heap i∧s.2.heap.Perm q.heap∧s.2.next=q.next) (fun s=>HeapOk s.2.heap∧s.2.heap.Perm q.heap∧s.2.next=q.next) (fun s=>HeapOk s.heap∧s.heap.Perm q.heap∧s.next=q.next) (fun s=>s.1.toNat) ⟨i,rfl,hi,h,List.Perm.refl _,rfl⟩ ?_ (fun s hs=>⟨_,rfl,hs⟩) (fun s hs=>⟨_,rfl,hs⟩)
  rintro ⟨c,s⟩ ⟨i,hc,hi,hu,hp,hn⟩
  dsimp only at hc hi hu hp hn ⊢
  subst hc
  have hlen:=hp.length_eq
  by_cases h0:0 < (i:Int)
  · rw [if_pos h0,Cq (by unfold inI64;omega),Ar]
    have hq:quoI ((i:Int) - 1) 2=some (((i - 1) / 2:Nat):Int):=by
      unfold quoI;rw [if_pos (by omega)];congr 1;omega
    obtain ⟨a,ha⟩:=AE (l:=s.heap) (k:=i) hi
    obtain ⟨b,hb⟩:=AE (l:=s.heap) (k:=(i - 1) / 2) (by omega)
    rw [hq,Ar,Cm,ha,Ar,Cm,hb,Ar,Ir,Ar]
    by_cases hab:bfr a b
    · rw [decide_eq_true hab,Ej,Ar,Ar,Ar,Cm,Int.toNat_natCast,List.getElem?_set_ne (by omega),hb,Ar,Int.toNat_natCast]
      refine .inl ⟨_,rfl,⟨(i - 1) / 2,rfl,by simp;omega,hu.step (by omega) ha hb hab,(Lj ha hb).trans hp,hn⟩,?_⟩
      dsimp only
      omega
    · rw [decide_eq_false hab,Dq]
      refine .inr (.inr ⟨_,rfl,hu.heap (.inr fun x y hx hy=>?_),hp,hn⟩)
      rw [ha] at hx
      rw [hb] at hy
      obtain rfl:=Option.some.inj hx
      obtain rfl:=Option.some.inj hy
      exact hab
  · rw [if_neg h0]
    exact .inr (.inl ⟨_,rfl,hu.heap (.inl (by omega)),hp,hn⟩)
theorem Mb {q:Que} (h:HeapOk q.heap) (hl:q.heap.length < 65536) (hn:0≤q.next∧q.next≤1000000000) (k t i:Int):∃ r,BI q k t i=some r∧r.1=⟨0⟩∧HeapOk r.2.heap∧r.2.heap.Perm (⟨k,t,i,q.next⟩ :: q.heap)∧r.2.next=q.next + 1:=by
  unfold BI
  rw [if_neg (by omega),Cy (by simp;omega) (by simp;omega),Ar,Cq (by unfold inI64;omega),Ar,Cq (by unfold inI64;simp;omega),Ar]
  have hlen:(((q.heap ++ [(⟨k,t,i,q.next⟩:QEn)]).length:Int) - 1)=((q.heap.length:Nat):Int):=by simp
  rw [hlen]
  obtain ⟨r,r1,r2,r3,r4⟩:=Re (q:=⟨q.heap ++ [⟨k,t,i,q.next⟩],q.next + 1⟩) (i:=q.heap.length) (by simp) (by simp;omega) ⟨fun j x y hj hji hx hy=>by
    dsimp only at hx hy
    have hjl:j < q.heap.length:=by have:=AC hx;simp at this;omega
    rw [List.getElem?_append_left hjl] at hx
    rw [List.getElem?_append_left (by omega)] at hy
    exact h j x y hj hx hy,fun j x y h1 h2 h3 hx hy=>by
    dsimp only at hx
    have:=AC hx
    simp at this
    omega⟩
  rw [r1,Ar]
  exact ⟨_,rfl,rfl,r2,r3.trans (List.perm_append_comm (l₁:=q.heap) (l₂:=[_])),r4⟩
theorem Pn {q:Que} (hl:q.heap.length≤1000000) (h:DownI q.heap 0):∃ r,Cx q 0=some r∧HeapOk r.heap∧r.heap.Perm q.heap∧r.next=q.next:=by
  unfold Cx
  refine Li (fun s=>∃ i:Nat,s.1=(i:Int)∧DownI s.2.heap i∧i≤s.2.heap.length∧s.2.heap.Perm q.heap∧s.2.next=q.next) (fun _=>False) (fun s=>HeapOk s.heap∧s.heap.Perm q.heap∧s.next=q.next) (fun s=>s.2.heap.length - s.1.toNat) ⟨0,rfl,h,by omega,List.Perm.refl _,rfl⟩ ?_ (fun s hs=>hs.elim) (fun s hs=>⟨_,rfl,hs⟩)
  rintro ⟨c,s⟩ ⟨i,hc,hd,hi,hp,hn⟩
  dsimp only at hc hd hi hp hn ⊢
  subst hc
  have hlen:=hp.length_eq
  rw [Cq (by unfold inI64;omega),Ar,Cq (by unfold inI64;omega),Ar]
  by_cases h1:(s.heap.length:Int)≤2 * (i:Int) + 1
  · rw [if_pos h1]
    refine .inr (.inr ⟨_,rfl,hd.heap fun j x y hj hji hx _=>?_,hp,hn⟩)
    have:=AC hx
    omega
  rw [if_neg h1]
  obtain ⟨a,ha⟩:=AE (l:=s.heap) (k:=i) (by omega)
  obtain ⟨b,hb⟩:=AE (l:=s.heap) (k:=2 * i + 1) (by omega)
  have cast1:2 * (i:Int) + 1=((2 * i + 1:Nat):Int):=by omega
  have cast2:2 * (i:Int) + 1 + 1=((2 * i + 2:Nat):Int):=by omega
  have rest:∀ (c:Nat) (d:QEn),(c=2 * i + 1∨c=2 * i + 2)→s.heap[c]?=some d→(∀ (j:Nat) x,0 < j→(j - 1) / 2=i→s.heap[j]?=some x→nb x d)→(∃ s',(bnd (atI s.heap (c:Int)) fun a138=>bnd (atI s.heap (i:Int)) fun a153=>bnd (BX a138 a153) fun q168=>if q168=true then bnd (atI s.heap (c:Int)) fun a180=>bnd (atI s.heap (i:Int)) fun a195=>bnd (atI s.heap (i:Int)) fun _=>bnd (atI (s.heap.set ((i:Int)).toNat a180) (c:Int)) fun _=>some (Ctl.next (ρ:=Que) ((c:Int),(⟨((s.heap.set ((i:Int)).toNat a180).set ((c:Int)).toNat a195),s.next⟩:Que))) else some (.ret s))=some (.next s')∧(∃ i:Nat,s'.1=(i:Int)∧DownI s'.2.heap i∧i≤s'.2.heap.length∧s'.2.heap.Perm q.heap∧s'.2.next=q.next)∧s'.2.heap.length - s'.1.toNat < s.heap.length - ((i:Int)).toNat)∨(∃ s',(bnd (atI s.heap (c:Int)) fun a138=>bnd (atI s.heap (i:Int)) fun a153=>bnd (BX a138 a153) fun q168=>if q168=true then bnd (atI s.heap (c:Int)) fun a180=>bnd (atI s.heap (i:Int)) fun a195=>bnd (atI s.heap (i:Int)) fun _=>bnd (atI (s.heap.set ((i:Int)).toNat a180) (c:Int)) fun _=>some (Ctl.next (ρ:=Que) ((c:Int),(⟨((s.heap.set ((i:Int)).toNat a180).set ((c:Int)).toNat a195),s.next⟩:Que))) else some (.ret s))=some (.brk s')∧False)∨∃ r,(bnd (atI s.heap (c:Int)) fun a138=>bnd (atI s.heap (i:Int)) fun a153=>bnd (BX a138 a153) fun q168=>if q168=true then bnd (atI s.heap (c:Int)) fun a180=>bnd (atI s.heap (i:Int)) fun a195=>bnd (atI s.heap (i:Int)) fun _=>bnd (atI (s.heap.set ((i:Int)).toNat a180) (c:Int)) fun _=>some (Ctl.next (ρ:=Que) ((c:Int),(⟨((s.heap.set ((i:Int)).toNat a180).set ((c:Int)).toNat a195),s.next⟩:Que))) else some (.ret s))=some (.ret r)∧HeapOk r.heap∧r.heap.Perm q.heap∧r.next=q.next:=by
    intro c d hc hd' hs
    have hcl:=AC hd'
    rw [Cm,hd',Ar,Cm,ha,Ar,Ir,Ar]
    by_cases hda:bfr d a
    · rw [decide_eq_true hda,Ej,Ar,Ar,Ar,Cm,Int.toNat_natCast,List.getElem?_set_ne (by omega),hd',Ar,Int.toNat_natCast]
      refine .inl ⟨_,rfl,⟨c,rfl,hd.step hc ha hd' hda hs,by simp;omega,(Lj ha hd').trans hp,hn⟩,?_⟩
      simp
      omega
    · rw [decide_eq_false hda,Dq]
      refine .inr (.inr ⟨_,rfl,hd.heap fun j x y hj hji hx hy=>?_,hp,hn⟩)
      rw [ha] at hy
      obtain rfl:=Option.some.inj hy
      exact Ht (hs j x hj hji hx) hda
  rw [Cq (by unfold inI64;omega),Ar]
  by_cases h2:2 * (i:Int) + 1 + 1 < (s.heap.length:Int)
  · obtain ⟨d,hd'⟩:=AE (l:=s.heap) (k:=2 * i + 2) (by omega)
    rw [if_pos h2,Ar,cast2,cast1,Cm,hd',Ar,Cm,hb,Ar,Ir,Ar]
    by_cases hdb:bfr d b
    · rw [decide_eq_true hdb,Ej,Ar,Ej,Ar,Ar]
      refine rest (2 * i + 2) d (.inr rfl) hd' fun j x hj hji hx=>?_
      have:j=2 * i + 1∨j=2 * i + 2:=by omega
      rcases this with rfl|rfl
      · rw [hb] at hx;obtain rfl:=Option.some.inj hx;exact KH hdb
      · rw [hd'] at hx;obtain rfl:=Option.some.inj hx;exact JI _
    · rw [decide_eq_false hdb,Dq,Ar,Dq,Ar]
      refine rest (2 * i + 1) b (.inl rfl) hb fun j x hj hji hx=>?_
      have:j=2 * i + 1∨j=2 * i + 2:=by omega
      rcases this with rfl|rfl
      · rw [hb] at hx;obtain rfl:=Option.some.inj hx;exact JI _
      · rw [hd'] at hx;obtain rfl:=Option.some.inj hx;exact hdb
  · rw [if_neg h2,Ar,Dq,Ar,cast1]
    refine rest (2 * i + 1) b (.inl rfl) hb fun j x hj hji hx=>?_
    have:j=2 * i + 1:=by have:=AC hx;omega
    subst this
    rw [hb] at hx;obtain rfl:=Option.some.inj hx;exact JI _
theorem Qp {q:Que} (h:HeapOk q.heap) (h0:0 < q.heap.length) (hl:q.heap.length≤1000000):∃ r,Co q=some r∧∃ (e:QEn) (q':Que),r=(e.key,e.tie,e.item,⟨0⟩,q')∧HeapOk q'.heap∧q.heap.Perm (e :: q'.heap)∧(∀ x∈q.heap,nb x e)∧q'.next=q.next:=by
  obtain ⟨e,he⟩:=AE (l:=q.heap) (k:=0) h0
  obtain ⟨z,hz⟩:=AE (l:=q.heap) (k:=q.heap.length - 1) (by omega)
  have at0:atI q.heap 0=some e:=by rw [show (0:Int)=((0:Nat):Int) from rfl,Cm];exact he
  have cz:((q.heap.length:Int) - 1)=((q.heap.length - 1:Nat):Int):=by omega
  unfold Co CR
  rw [if_neg (by omega),at0,Ar,Ar,if_neg (by simp),Cq (by unfold inI64;omega),Ar,cz,Cm,hz,Ar,Ar]
  unfold cutI
  rw [if_pos (by simp),Ar]
  simp only [Int.toNat_zero,List.drop_zero,Int.toNat_natCast]
  have hperm:q.heap.Perm (e :: (q.heap.set 0 z).take (q.heap.length - 1)):=by
    cases hq:q.heap with
    | nil=>rw [hq] at h0;simp at h0
    | cons a tl =>
      rw [hq] at he hz
      simp at he
      subst he
      cases htl:tl.reverse with
      | nil =>
        have:tl=[]:=by simpa using htl
        subst this
        simp
      | cons w r =>
        have htl':tl=r.reverse ++ [w]:=by have:=congrArg List.reverse htl;simpa using this
        subst htl'
        simp at hz
        subst hz
        simp
  obtain ⟨r,r1,r2,r3,r4⟩:=Pn (q:=⟨(q.heap.set 0 z).take (q.heap.length - 1),q.next⟩) (by simp;omega) ⟨fun j x y hj hjp hx hy=>by
    dsimp only at hx hy
    have hx':=GN hx
    have hy':=GN hy
    rw [List.getElem?_set_ne (by omega)] at hx' hy'
    exact h j x y hj hx' hy',fun j x y h1=>by omega⟩
  rw [r1,Ar]
  exact ⟨_,rfl,e,r,rfl,r2,hperm.trans (List.Perm.cons _ r3.symm),Nl h he,r4⟩
end
section
set_option linter.unusedVariables false
set_option linter.unusedSimpArgs false
open Go Go.RowKit
def gI (l:List Int) (i:Nat):Int:=(l[i]?).getD Inf
theorem JJ {l:List Int} {i:Nat} (h:i < l.length):l[i]?=some (gI l i):=by unfold gI;rw [List.getElem?_eq_getElem h];rfl
theorem Ek {l:List Int} {m:Nat} {x:Int} (h:m < l.length):gI (l.set m x)=upd (gI l) m x:=by
  funext j
  unfold gI upd
  by_cases e:j=m
  · subst e;rw [if_pos rfl,List.getElem?_set_self h];rfl
  · rw [if_neg e,List.getElem?_set_ne (Ne.symm e)]
theorem Do {l:List Int} {i:Nat} (h:i < l.length):atI l (i:Int)=some (gI l i):=by rw [Cm,JJ h]
theorem No (n:Nat):gI (List.replicate n Inf)=fun _=>Inf:=by
  funext j
  unfold gI
  rw [List.getElem?_replicate]
  split<;>rfl
def arcA (rows:List (List Arc)) (i:Nat):List (Nat×Int):=((rows[i]?).getD []).map fun a=>(a.dst.toNat,a.weight)
abbrev LQ:=List Int×List Int×Que
noncomputable def shIn (x0:List (List Arc)) (c k:Int):Arc→LQ→Option (Ctl LQ (Ctl LQ (List Int×List Int))):=fun a s=>bnd (chkI (c + a.weight)) fun n1=>bnd (chkI (k + 1)) fun n2=>bnd (bnd (atI s.1 a.dst) fun a385=>if a385 < n1 then (some true) else (bnd (atI s.1 a.dst) fun a398=>if n1=a398 then (bnd (atI s.2.1 a.dst) fun a411=>if a411≤n2 then (some true) else (some false)) else (some false)):Option Bool) fun y381=>if y381=true then (some (.next (s.1,s.2.1,s.2.2))) else (bnd (atI s.1 a.dst) fun _=>bnd (atI s.2.1 a.dst) fun _=>bnd (BI s.2.2 n1 n2 a.dst) fun q457=>if q457.1.n≠0 then (bnd (Dt x0 (s.1.set (a.dst:Int).toNat n1) (s.2.1.set (a.dst:Int).toNat n2)) fun q472=>some (.ret (.ret (q472.1,q472.2)))) else (some (.next ((s.1.set (a.dst:Int).toNat n1),(s.2.1.set (a.dst:Int).toNat n2),q457.2))))
noncomputable def shF (x0:List (List Arc)):LQ→Option (Ctl LQ (List Int×List Int)):=fun s226=>bnd (CD s226.2.2) fun q249=>if 0 < q249 then (bnd (Co s226.2.2) fun q260=>if q260.2.2.2.1.n≠0 then (some (.brk (s226.1,s226.2.1,q260.2.2.2.2))) else (bnd (bnd (atI s226.1 q260.2.2.1) fun a285=>if q260.1≠a285 then (some true) else (bnd (atI s226.2.1 q260.2.2.1) fun a298=>if q260.2.1≠a298 then (some true) else (some false)):Option Bool) fun y281=>if y281=true then (some (.next (s226.1,s226.2.1,q260.2.2.2.2))) else (bnd (atI x0 q260.2.2.1) fun a316=>bnd (rng (ρ:=Ctl LQ ((List Int)×(List Int))) (fun (_:Nat) (a338:Arc) (s335:LQ)=>shIn x0 q260.1 q260.2.1 a338 s335) a316 0 (s226.1,s226.2.1,q260.2.2.2.2)) fun res333=>fin res333 fun (s491:LQ)=>some (.next (s491.1,s491.2.1,s491.2.2))))) else (some (.brk (s226.1,s226.2.1,s226.2.2)))
noncomputable def shE:Fin LQ (List Int×List Int)→Option (List Int×List Int):=fun res224=>fin res224 fun (s497:LQ)=>some (s497.1,s497.2.1)
noncomputable def shS:Int→LQ→Option (Ctl LQ (List Int×List Int)):=fun a152 s149=>bnd (atI s149.1 a152) fun _=>bnd (atI s149.2.1 a152) fun _=>bnd (BI s149.2.2 0 0 a152) fun q208=>some (.next ((s149.1.set (a152:Int).toNat 0),(s149.2.1.set (a152:Int).toNat 0),q208.2))
theorem Qq (x0:List (List Arc)) (x1:List Int):BT x0 x1=bnd (mkI 8 (0:Int) (x0.length:Int)) fun u7=>bnd (mkI 8 (0:Int) (x0.length:Int)) fun u9=>bnd (some (u7,u9):Option ((List Int)×(List Int))) fun y11=>bnd (rngN (ρ:=(List Int)×(List Int)) (fun (k77:Nat) (s75:(List Int)×(List Int))=>bnd (s75.1[k77]?) fun a104=>bnd (s75.2[k77]?) fun a116=>some (.next ((s75.1.set k77 1125899906842624),(s75.2.set k77 1125899906842624)))) y11.1.length (y11.1,y11.2)) fun res73=>fin res73 fun (s132:(List Int)×(List Int))=>bnd (DF) fun q134=>bnd q134 fun o144=>bnd (rng (ρ:=(List Int)×(List Int)) (fun (_:Nat) (a152:Int) (s149:LQ)=>shS a152 s149) x1 0 (s132.1,s132.2,o144)) fun res147=>fin res147 fun (s222:LQ)=>bnd (lop (shF x0) (s222.1,s222.2.1,s222.2.2)) shE:=rfl
structure ShI (n:Nat) (A:Nat→List (Nat×Int)) (S:Nat→Prop) (D:Nat→Nat×Int→Prop) (f:Nat→Bool) (s:LQ):Prop where
  dj:DjI n A S D (gI s.1) (gI s.2.1) f s.2.2.heap
  l1:s.1.length=n
  l2:s.2.1.length=n
  hp:HeapOk s.2.2.heap
structure RowsOk (n:Nat) (rows:List (List Arc)):Prop where
  len:rows.length=n
  few:n≤600
  ok:∀ (i:Nat) r a,rows[i]?=some r→a∈r→0≤a.dst∧a.dst < (n:Int)∧0≤a.weight∧a.weight≤1048576
section
variable {n : Nat} {rows : List (List Arc)} {S : Nat → Prop} {D : Nat → Nat × Int → Prop} {f : Nat → Bool} {s : LQ}
theorem RowsOk.arcs (h:RowsOk n rows):ArcsOk n (arcA rows):=by
  have key:∀ i p,p∈arcA rows i→∃ r a,rows[i]?=some r∧a∈r∧p=(a.dst.toNat,a.weight):=fun i p hp=>by
    unfold arcA at hp
    cases hr:rows[i]? with
    | none=>rw [hr] at hp;simp at hp
    | some r =>
      rw [hr] at hp
      obtain ⟨a,ha,rfl⟩:=List.mem_map.1 hp
      exact ⟨r,a,rfl,ha,rfl⟩
  refine ⟨fun i p hp=>?_,fun i p hp=>?_⟩
  · obtain ⟨r,a,h1,h2,rfl⟩:=key i p hp
    have:=h.ok i r a h1 h2
    have hl:=AC h1
    rw [h.len] at hl
    exact ⟨hl,by dsimp only;omega⟩
  · obtain ⟨r,a,h1,h2,rfl⟩:=key i p hp
    have:=h.ok i r a h1 h2
    exact ⟨by dsimp only;omega,by dsimp only;omega⟩
theorem Qr (h:RowsOk n rows) {i:Nat} {row:List Arc} (hr:rows[i]?=some row) {m:Nat} {a:Arc} (ha:row[m]?=some a) (hI:ShI n (arcA rows) S (fun j p=>j≠i∨p∈(arcA rows i).take m) f s) {c k:Int} (hc:gI s.1 i=c) (hk:gI s.2.1 i=k) (hf:f i=true)
    (hcur:∀ j,f j=true→lle (gI s.1 j) (gI s.2.1 j) c k) (hb:c + 1048576≤(nScan f n:Int) * 1048576) (hb2:k + 1≤(nScan f n:Int)) (hl:s.2.2.heap.length < 65536) (hn:0≤s.2.2.next∧s.2.2.next≤1000000000) :
    ∃ s',shIn rows c k a s=some (.next s')∧ShI n (arcA rows) S (fun j p=>j≠i∨p∈(arcA rows i).take (m + 1)) f s'∧gI s'.1 i=c∧gI s'.2.1 i=k∧(∀ j,f j=true→lle (gI s'.1 j) (gI s'.2.1 j) c k)∧s'.2.2.heap.length≤s.2.2.heap.length + 1∧s.2.2.next≤s'.2.2.next∧s'.2.2.next≤s.2.2.next + 1:=by
  obtain ⟨dl,kl,q⟩:=s
  obtain ⟨hD,h1,h2,h3⟩:=hI
  dsimp only at *
  have hAm:(arcA rows i)[m]?=some (a.dst.toNat,a.weight):=by unfold arcA;rw [hr];simp [ha]
  have hmem:=List.mem_of_getElem? hAm
  have hok:=h.ok i row a hr (List.mem_of_getElem? ha)
  have hA:=h.arcs
  have hns:=Ll f n
  have hfew:=h.few
  have hdi:=hD.fin i hf
  have hbi:=hD.bnd i hdi
  rw [hc,hk] at hbi
  obtain ⟨j,hj⟩:∃ j:Nat,a.dst=(j:Int):=⟨a.dst.toNat,by omega⟩
  have hjn:j < n:=by omega
  have hDD:∀ u v,(u≠i∨v∈(arcA rows i).take (m + 1))→(u≠i∨v∈(arcA rows i).take m)∨(u=i∧v=(j,a.weight)):=fun u v hv=>by
    rcases hv with hv|hv
    · exact .inl (.inl hv)
    · rcases (Gv hAm).1 hv with hv|hv
      · exact .inl (.inr hv)
      · by_cases e:u=i
        · exact .inr ⟨e,by rw [hv,hj];rfl⟩
        · exact .inl (.inl e)
  have hmem':(j,a.weight)∈arcA rows i:=by rw [hj] at hmem;exact hmem
  unfold shIn
  dsimp only
  have hwc:c + a.weight < Inf:=by unfold Inf;omega
  have hr1:inI64 (c + a.weight):=by unfold inI64;unfold Inf at hwc;omega
  have hr2:inI64 (k + 1):=by unfold inI64;omega
  rw [Cq hr1,Ar,Cq hr2,Ar,hj,Do (by omega:j < dl.length),Ar,Ar,Do (by omega:j < kl.length),Ar]
  by_cases hle:lle (gI dl j) (gI kl j) (c + a.weight) (k + 1)
  · have e:(if gI dl j < c + a.weight then some true else if c + a.weight=gI dl j then if gI kl j≤k + 1 then some true else some false else some false)=some true:=by
      unfold lle at hle
      by_cases e1:gI dl j < c + a.weight
      · rw [if_pos e1]
      · rw [if_neg e1,if_pos (by omega),if_pos (by omega)]
    rw [e,Ar,Ej]
    refine ⟨_,rfl,⟨?_,h1,h2,h3⟩,hc,hk,hcur,by dsimp only;omega,by dsimp only;omega,by dsimp only;omega⟩
    exact hD.keep hDD (by unfold lle at hle;dsimp only;omega) (by rw [hc,hk];exact hle)
  · have e:(if gI dl j < c + a.weight then some true else if c + a.weight=gI dl j then if gI kl j≤k + 1 then some true else some false else some false)=some false:=by
      unfold lle at hle
      rw [if_neg (by omega)]
      by_cases e1:c + a.weight=gI dl j
      · rw [if_pos e1,if_neg (by omega)]
      · rw [if_neg e1]
    obtain ⟨r,p1,p2,p3,p4,p5⟩:=Mb h3 hl hn (c + a.weight) (k + 1) (j:Int)
    rw [e,Ar,Dq,p1,Ar,Ar,Ar,p2,if_neg (by decide),Int.toNat_natCast]
    obtain ⟨b1,b2⟩:=hD.better hA (D':=fun u v=>u≠i∨v∈(arcA rows i).take (m + 1)) hDD hf (by rw [hc,hk];exact hcur) (by rw [hc];exact hb) (by rw [hk];exact hb2) hmem' (by rw [hc,hk];exact hle) p4 (by dsimp only;rw [hc]) (by dsimp only;rw [hk]) rfl (by rw [hc];omega)
    dsimp only at b1 b2
    rw [hc,hk,← Ek (by omega),← Ek (by omega)] at b2
    have hij:i≠j:=fun e=>b1 e.symm
    refine ⟨_,rfl,⟨b2,by simp [h1],by simp [h2],p3⟩,?_,?_,?_,?_,?_,?_⟩
    · dsimp only;rw [Ek (by omega),AT hij];exact hc
    · dsimp only;rw [Ek (by omega),AT hij];exact hk
    · intro u hu
      dsimp only
      have hcu:=hcur u hu
      rw [Ek (by omega),Ek (by omega)]
      have hne:u≠j:=fun e=>by subst e;unfold lle at hcu hle;omega
      rw [AT hne,AT hne];exact hcu
    · have:=p4.length_eq;simp at this;dsimp only;omega
    · dsimp only;omega
    · dsimp only;omega
theorem JZ (h:RowsOk n rows):∀ (N:Nat) (s:LQ) (f:Nat→Bool),ShI n (arcA rows) S (fun _ _=>True) f s→s.2.2.heap.length + nRem (arcA rows) f n≤60000→0≤s.2.2.next→s.2.2.next + nRem (arcA rows) f n≤60000→s.2.2.heap.length + nRem (arcA rows) f n < N →
    ∃ s',lop (shF rows) s=some (.done s')∧s'.1.length=n∧s'.2.1.length=n∧LexP n (arcA rows) S (gI s'.1) (gI s'.2.1)∧(∀ i,gI s'.1 i=Inf→gI s'.2.1 i=Inf)∧∀ i,gI s'.1 i≠Inf→i < n∧0≤gI s'.1 i∧gI s'.1 i≤600 * 1048576∧0≤gI s'.2.1 i∧gI s'.2.1 i≤600
  | 0,_,_,_,_,_,_,h0=>absurd h0 (by omega)
  | N + 1,(dl,kl,q),f,hI,hm,hn0,hn1,h0=>by
    obtain ⟨hD,h1,h2,h3⟩:=hI
    dsimp only at *
    rw [Eh]
    unfold shF
    have hlen:CD q=some (q.heap.length:Int):=rfl
    dsimp only
    rw [hlen,Ar]
    by_cases hz:q.heap.length=0
    · rw [if_neg (by omega)]
      have hnil:q.heap=[]:=List.length_eq_zero_iff.1 hz
      rw [hnil] at hD
      refine ⟨_,rfl,h1,h2,hD.done,hD.inf,fun i hi=>?_⟩
      have:=hD.bnd i hi
      have hns:=Ll f n
      have:=h.few
      dsimp only at *
      omega
    · rw [if_pos (by omega)]
      obtain ⟨r,r1,e,q',rfl,q1,q2,q3,q4⟩:=Qp h3 (by omega) (by omega)
      rw [r1,Ar]
      dsimp only
      rw [if_neg (by decide)]
      obtain ⟨i,hi,hin,hdi,_⟩:=hD.ent e (q2.mem_iff.2 List.mem_cons_self)
      have hql:=q2.length_eq
      rw [List.length_cons] at hql
      rw [hi,Do (by omega),Ar,Do (by omega),Ar]
      by_cases hs:e.key=gI dl i∧e.tie=gI kl i
      · rw [if_neg (by simp [hs.1]),if_neg (by simp [hs.2]),Ar,Dq]
        obtain ⟨m1,m2,m3,m4,m5,m6,m7⟩:=hD.mark q2 q3 hi hs.1 hs.2
        obtain ⟨row,hrow⟩:=AE (l:=rows) (k:=i) (by rw [h.len];exact m2)
        rw [Cm,hrow,Ar]
        have hAl:(arcA rows i).length=row.length:=by unfold arcA;rw [hrow];simp
        have hbi:=hD.bnd i m3
        obtain ⟨s',s1,s2,s3,s4,s5,s6,s7,s8⟩:=FK (ρ:=Ctl LQ (List Int×List Int)) (f:=fun (_:Nat) (a338:Arc) (s335:LQ)=>shIn rows e.key e.tie a338 s335) (xs:=row) (s₀:=(dl,kl,q'))
          (fun m s=>ShI n (arcA rows) S (fun j p=>j≠i∨p∈(arcA rows i).take m) (upd f i true) s∧gI s.1 i=e.key∧gI s.2.1 i=e.tie∧(∀ j,upd f i true j=true→lle (gI s.1 j) (gI s.2.1 j) e.key e.tie)∧s.2.2.heap.length≤q'.heap.length + m∧q'.next≤s.2.2.next∧s.2.2.next≤q'.next + m)
          ⟨⟨{ m7 with rel:=fun j p hj hp hd=>m7.rel j p hj hp (hd.resolve_right (by simp)) },h1,h2,q1⟩,hs.1.symm,hs.2.symm,fun j hj=>by rw [hs.1,hs.2];exact m6 j hj,by simp,by simp,by simp⟩
          (fun m a s hma hI=>by
            obtain ⟨i1,i2,i3,i4,i5,i6,i7⟩:=hI
            have hml:=AC hma
            obtain ⟨s',t1,t2,t3,t4,t5,t6,t7,t8⟩:=Qr h hrow hma i1 i2 i3 (AS ..) i4 (by rw [m4,hs.1];omega) (by rw [m4,hs.2];omega) (by omega) ⟨by omega,by omega⟩
            exact ⟨s',t1,t2,t3,t4,t5,by omega,by omega,by omega⟩)
        rw [s1,Ar,CP]
        dsimp only at s2 s6 s7 s8 ⊢
        refine JZ h N (s'.1,s'.2.1,s'.2.2) (upd f i true) ⟨{ s2.dj with rel:=fun j p hj hp _=>s2.dj.rel j p hj hp ?_ },s2.l1,s2.l2,s2.hp⟩ ?_ ?_ ?_ ?_
        · by_cases ej:j=i
          · subst ej;exact .inr (by rw [List.take_of_length_le (by omega)];exact hp)
          · exact .inl ej
        all_goals dsimp only;omega
      · have e2:(if e.key≠gI dl i then some true else if e.tie≠gI kl i then some true else some false)=some true:=by
          by_cases e1:e.key=gI dl i
          · rw [if_neg (by simp [e1]),if_pos (fun hh=>hs ⟨e1,hh⟩)]
          · rw [if_pos e1]
        rw [e2,Ar,Ej]
        refine JZ h N (dl,kl,q') f ⟨hD.drop q2 hi hs,h1,h2,q1⟩ ?_ ?_ ?_ ?_
        all_goals dsimp only;omega
theorem Po {n:Nat} (hn:n≤1000000):rngN (ρ:=(List Int)×(List Int)) (fun (k77:Nat) (s75:(List Int)×(List Int))=>bnd (s75.1[k77]?) fun a104=>bnd (s75.2[k77]?) fun a116=>some (.next ((s75.1.set k77 1125899906842624),(s75.2.set k77 1125899906842624)))) n (List.replicate n (0:Int),List.replicate n (0:Int))=some (.done (List.replicate n Inf,List.replicate n Inf)):=by
  have key:∀ k,k < n→(List.replicate k Inf ++ List.replicate (n - k) 0)[k]?=some 0∧(List.replicate k Inf ++ List.replicate (n - k) 0).set k 1125899906842624=List.replicate (k + 1) Inf ++ List.replicate (n - (k + 1)) 0:=fun k hk=>by
    refine ⟨by rw [List.getElem?_append_right (by simp),List.getElem?_replicate,if_pos (by simp;omega)],?_⟩
    apply List.ext_getElem?
    intro j
    rcases Nat.lt_trichotomy j k with h|h|h
    · rw [List.getElem?_set_ne (by omega),List.getElem?_append_left (by simp;omega),List.getElem?_append_left (by simp;omega)]
      rw [List.getElem?_replicate,List.getElem?_replicate,if_pos (by omega),if_pos (by omega)]
    · subst h
      rw [List.getElem?_set_self (by simp;omega),List.getElem?_append_left (by simp)]
      simp [Inf]
    · rw [List.getElem?_set_ne (by omega),List.getElem?_append_right (by simp;omega),List.getElem?_append_right (by simp;omega)]
      simp only [List.length_replicate,List.getElem?_replicate]
      by_cases hj:j < n
      · rw [if_pos (by omega),if_pos (by omega)]
      · rw [if_neg (by omega),if_neg (by omega)]
  rw [Nd (fun k=>(List.replicate k Inf ++ List.replicate (n - k) 0,List.replicate k Inf ++ List.replicate (n - k) 0)) (by simp) (fun k hk=>?_)]
  · simp
  · obtain ⟨e1,e2⟩:=key k hk
    dsimp only
    rw [e1,Ar,Ar,e2]
theorem Jb (h:RowsOk n rows) (hT:nRem (arcA rows) (fun _=>false) n≤50000) {src:List Int} (hs:∀ x∈src,0≤x∧x < (n:Int)) (hsn:src.Nodup) (hsl:src.length≤1000) :
    ∃ d k,BT rows src=some (d,k)∧d.length=n∧k.length=n∧LexP n (arcA rows) (fun i=>(i:Int)∈src) (gI d) (gI k)∧(∀ i,gI d i=Inf→gI k i=Inf)∧∀ i,gI d i≠Inf→i < n∧0≤gI d i∧gI d i≤600 * 1048576∧0≤gI k i∧gI k i≤600:=by
  have hfew:=h.few
  rw [Qq,h.len,Id (by omega) (by omega),Ar,Ar,Ar]
  dsimp only
  rw [List.length_replicate,Po (by omega),Ar,CP]
  obtain ⟨q0,hq0,hh0,hn0⟩:∃ q0:Que,DF=some (some q0)∧q0.heap=[]∧q0.next=0:=⟨⟨[],0⟩,rfl,rfl,rfl⟩
  rw [hq0,Ar,Ar]
  obtain ⟨s1,e1,e2,e3,e4,e5⟩:=FK (ρ:=(List Int)×(List Int)) (f:=fun (_:Nat) (a152:Int) (s149:LQ)=>shS a152 s149) (xs:=src) (s₀:=((List.replicate n Inf,List.replicate n Inf).1,(List.replicate n Inf,List.replicate n Inf).2,q0))
    (fun m s=>ShI n (arcA rows) (fun j=>(j:Int)∈src.take m) (fun _ _=>True) (fun _=>false) s∧(∀ j:Nat,¬ (j:Int)∈src.take m→gI s.1 j=Inf)∧s.2.2.heap.length=m∧s.2.2.next=(m:Int))
    ⟨⟨by dsimp only;rw [No,hh0];simpa using Ol,by simp,by simp,by dsimp only;rw [hh0];intro j x y _ hx;simp at hx⟩,fun j _=>by dsimp only;rw [No],by dsimp only;rw [hh0];rfl,by dsimp only;rw [hn0];rfl⟩
    (fun m x s hx hI=>by
      obtain ⟨⟨hD,h1,h2,h3⟩,hinf,hl,hnx⟩:=hI
      obtain ⟨dl,kl,q⟩:=s
      dsimp only at *
      have hm:=AC hx
      obtain ⟨x0,x1⟩:=hs x (List.mem_of_getElem? hx)
      obtain ⟨j,rfl⟩:∃ j:Nat,x=(j:Int):=⟨x.toNat,by omega⟩
      have hnot:¬ (j:Int)∈src.take m:=fun hh=>by
        obtain ⟨i,hi⟩:=List.getElem?_of_mem hh
        have hi1:=AC hi
        rw [List.length_take] at hi1
        replace hi1:i < m:=by omega
        have hi2:=GN hi
        obtain ⟨b1,c1⟩:=List.getElem?_eq_some_iff.1 hi2
        obtain ⟨b2,c2⟩:=List.getElem?_eq_some_iff.1 hx
        have:=(List.pairwise_iff_getElem.1 hsn) i m b1 b2 hi1
        exact this (by rw [c1,c2])
      obtain ⟨r,p1,p2,p3,p4,p5⟩:=Mb (q:=q) h3 (by omega) (by omega) 0 0 (j:Int)
      unfold shS
      dsimp only
      rw [Do (by omega),Ar,Do (by omega),Ar,p1,Ar,Int.toNat_natCast]
      have hsrc:=hD.source (by omega) (hinf j hnot) p4 rfl rfl rfl
      rw [← Ek (by omega),← Ek (by omega)] at hsrc
      refine ⟨_,rfl,⟨?_,by simp [h1],by simp [h2],p3⟩,?_,?_,?_⟩
      · have e:(fun i:Nat=>(i:Int)∈src.take (m + 1))=fun i:Nat=>(i:Int)∈src.take m∨i=j:=by
          funext i
          rw [Gv hx]
          apply propext
          constructor<;>rintro (a|a)
          · exact .inl a
          · exact .inr (by omega)
          · exact .inl a
          · exact .inr (by omega)
        rw [e];exact hsrc
      · intro i hi
        rw [Gv hx] at hi
        dsimp only
        rw [Ek (by omega),AT (fun e=>hi (.inr (by omega)))]
        exact hinf i (fun hh=>hi (.inl hh))
      · have:=p4.length_eq;simp at this;dsimp only;omega
      · dsimp only;omega)
  rw [e1,Ar,CP]
  rw [List.take_length] at e2
  obtain ⟨s2,g1,g2,g3,g4,g5,g6⟩:=JZ h (s1.2.2.heap.length + nRem (arcA rows) (fun _=>false) n + 1) (s1.1,s1.2.1,s1.2.2) (fun _=>false) e2 (by dsimp only;omega) (by dsimp only;omega) (by dsimp only;omega) (by dsimp only;omega)
  rw [g1,Ar]
  exact ⟨s2.1,s2.2.1,rfl,g2,g3,g4,g5,g6⟩
end
end
section
set_option linter.unusedVariables false
set_option linter.unusedSimpArgs false
open Go Go.RowKit
def costE (t:Tsk) (e:Edj):Int:=match t.ops[e.label.toNat]? with|some o=>o.cost|none=>0
structure EdgesOk (t:Tsk) (n:Nat) (es:List Edj):Prop where
  ok:∀ e∈es,0≤e.src∧e.src < (n:Int)∧0≤e.dst∧e.dst < (n:Int)∧0≤e.label∧e.label < (t.ops.length:Int)
  few:es.length≤48000
def fwdR (t:Tsk) (es:List Edj) (i:Nat):List Arc:=(es.filter fun e=>decide (e.src=(i:Int))).map fun e=>⟨e.src,e.dst,costE t e⟩
def bwdR (t:Tsk) (es:List Edj) (i:Nat):List Arc:=(es.filter fun e=>decide (e.dst=(i:Int))).map fun e=>⟨e.dst,e.src,costE t e⟩
def fwdA (t:Tsk) (es:List Edj) (i:Nat):List (Nat×Int):=(es.filter fun e=>decide (e.src=(i:Int))).map fun e=>(e.dst.toNat,costE t e)
def bwdA (t:Tsk) (es:List Edj) (i:Nat):List (Nat×Int):=(es.filter fun e=>decide (e.dst=(i:Int))).map fun e=>(e.src.toNat,costE t e)
theorem Fi {t:Tsk} (hok:TaskOk t) {n:Nat} {es:List Edj} (h:EdgesOk t n es) {e:Edj} (he:e∈es):∃ o,atI t.ops e.label=some o∧costE t e=o.cost∧0≤costE t e∧costE t e≤1048576:=by
  obtain ⟨_,_,_,_,h1,h2⟩:=h.ok e he
  obtain ⟨j,hj⟩:∃ j:Nat,e.label=(j:Int):=⟨e.label.toNat,by omega⟩
  obtain ⟨o,ho⟩:=AE (l:=t.ops) (k:=j) (by omega)
  have hc:costE t e=o.cost:=by unfold costE;rw [hj,Int.toNat_natCast,ho]
  have:=hok.2.2.2.2.2 j o ho
  exact ⟨o,by rw [hj,Cm,ho],hc,by rw [hc];exact this.1,by rw [hc];exact this.2.1⟩
theorem Gx {t:Tsk} {es:List Edj} {i j:Nat} {w:Int}:(j,w)∈bwdA t es i↔∃ e∈es,e.dst=(i:Int)∧e.src.toNat=j∧costE t e=w:=by
  unfold bwdA
  rw [List.mem_map]
  constructor
  · rintro ⟨e,he,hp⟩
    obtain ⟨h1,h2⟩:=List.mem_filter.1 he
    injection hp with h3 h4
    exact ⟨e,h1,of_decide_eq_true h2,h3,h4⟩
  · rintro ⟨e,h1,h2,h3,h4⟩
    exact ⟨e,List.mem_filter.2 ⟨h1,decide_eq_true h2⟩,by rw [h3,h4]⟩
structure RowsAre (n:Nat) (rows:List (List Arc)) (g:Nat→List Arc):Prop where
  len:rows.length=n
  at_:∀ i,i < n→rows[i]?=some (g i)
theorem RowsAre.congr {n:Nat} {rows:List (List Arc)} {g g':Nat→List Arc} (h:RowsAre n rows g) (he:∀ i,i < n→g i=g' i):RowsAre n rows g':=⟨h.len,fun i hi=>by rw [h.at_ i hi,he i hi]⟩
theorem RowsAre.rep (n:Nat):RowsAre n (List.replicate n []) fun _=>[]:=⟨by simp,fun i hi=>by rw [List.getElem?_replicate,if_pos hi]⟩
theorem RowsAre.set {n:Nat} {rows:List (List Arc)} {g:Nat→List Arc} (h:RowsAre n rows g) {j:Nat} (hj:j < n) (r:List Arc):RowsAre n (rows.set j r) (upd g j r):=⟨by simp [h.len],fun i hi=>by
  by_cases e:i=j
  · subst e;rw [AS,List.getElem?_set_self (by rw [h.len];exact hi)]
  · rw [AT e,List.getElem?_set_ne (Ne.symm e)];exact h.at_ i hi⟩
theorem RowsAre.nRem_le {n:Nat} {rows:List (List Arc)} {g:Nat→List Arc} (h:RowsAre n rows g) {f:Nat→Nat} (hf:∀ i,i < n→(g i).length=f i):nRem (arcA rows) (fun _=>false) n=sumF f n:=by
  unfold nRem
  refine Hu fun j hj=>?_
  rw [if_neg (by simp)]
  unfold arcA
  rw [h.at_ j hj]
  simp [hf j hj]
theorem GU {α:Type} (key:α→Int) (n:Nat):∀ (l:List α),sumF (fun i=>(l.filter fun e=>decide (key e=(i:Int))).length) n≤l.length
  | []=>by
    have:∀ n,sumF (fun i=>(([]:List α).filter fun e=>decide (key e=(i:Int))).length) n=0:=fun n=>by
      induction n with
      | zero=>rfl
      | succ n ih=>simp [sumF] at ih ⊢;exact ih
    rw [this];exact Nat.zero_le _
  | e :: l=>by
    have h:=GU key n l
    have key2:∀ m,sumF (fun i=>((e :: l).filter fun e=>decide (key e=(i:Int))).length) m≤sumF (fun i=>(l.filter fun e=>decide (key e=(i:Int))).length) m + if 0≤key e∧key e < (m:Int) then 1 else 0:=fun m=>by
      induction m with
      | zero=>simp [sumF]
      | succ m ih =>
        simp only [sumF]
        rw [List.filter_cons]
        by_cases hk:key e=(m:Int)
        · rw [if_pos (decide_eq_true hk),List.length_cons,if_pos (by omega)]
          rw [if_neg (by omega)] at ih
          omega
        · rw [if_neg (by simp [hk])]
          by_cases hl:0≤key e∧key e < (m:Int)
          · rw [if_pos (by omega)];rw [if_pos hl] at ih;omega
          · rw [if_neg (by omega)];rw [if_neg hl] at ih;omega
    have:=key2 n
    rw [List.length_cons]
    split at this<;>omega
theorem RowsAre.ok {t:Tsk} (hok:TaskOk t) {n:Nat} (hn:n≤600) {es:List Edj} (he:EdgesOk t n es) {rows:List (List Arc)}:(RowsAre n rows (fwdR t es)→RowsOk n rows∧nRem (arcA rows) (fun _=>false) n≤es.length∧∀ i,i < n→arcA rows i=fwdA t es i) ∧
    (RowsAre n rows (bwdR t es)→RowsOk n rows∧nRem (arcA rows) (fun _=>false) n≤es.length∧∀ i,i < n→arcA rows i=bwdA t es i):=by
  refine ⟨fun h=>⟨⟨h.len,hn,fun i r a hr ha=>?_⟩,?_,fun i hi=>?_⟩,fun h=>⟨⟨h.len,hn,fun i r a hr ha=>?_⟩,?_,fun i hi=>?_⟩⟩
  · have hi:=AC hr
    rw [h.len] at hi
    rw [h.at_ i hi] at hr
    obtain rfl:=Option.some.inj hr
    obtain ⟨e,hm,rfl⟩:=List.mem_map.1 ha
    have hmem:=(List.mem_filter.1 hm).1
    obtain ⟨_,_,_,c1,c2⟩:=Fi hok he hmem
    have:=he.ok e hmem
    dsimp only;omega
  · rw [h.nRem_le (f:=fun i=>(es.filter fun e=>decide (e.src=(i:Int))).length) (fun i _=>by unfold fwdR;rw [List.length_map])]
    exact GU (fun e:Edj=>e.src) n es
  · unfold arcA fwdA;rw [h.at_ i hi];unfold fwdR;simp
  · have hi:=AC hr
    rw [h.len] at hi
    rw [h.at_ i hi] at hr
    obtain rfl:=Option.some.inj hr
    obtain ⟨e,hm,rfl⟩:=List.mem_map.1 ha
    have hmem:=(List.mem_filter.1 hm).1
    obtain ⟨_,_,_,c1,c2⟩:=Fi hok he hmem
    have:=he.ok e hmem
    dsimp only;omega
  · rw [h.nRem_le (f:=fun i=>(es.filter fun e=>decide (e.dst=(i:Int))).length) (fun i _=>by unfold bwdR;rw [List.length_map])]
    exact GU (fun e:Edj=>e.dst) n es
  · unfold arcA bwdA;rw [h.at_ i hi];unfold bwdR;simp
theorem Lm {t:Tsk} {n:Nat} {es:List Edj} (he:EdgesOk t n es) {i:Nat} (hi:¬ i < n):fwdA t es i=[]∧bwdA t es i=[]:=by
  unfold fwdA bwdA
  rw [List.filter_eq_nil_iff.2 fun e hm=>by have:=he.ok e hm;simp;omega,List.filter_eq_nil_iff.2 fun e hm=>by have:=he.ok e hm;simp;omega]
  exact ⟨rfl,rfl⟩
theorem Ln {n:Nat} {rows:List (List Arc)} (h:rows.length=n) {i:Nat} (hi:¬ i < n):arcA rows i=[]:=by
  unfold arcA;rw [List.getElem?_eq_none (by omega)];rfl
def goalIx (gs:List Bool):List Int:=(((List.range gs.length).filter fun i=>(gs[i]?).getD false).map fun i:Nat=>(i:Int))
theorem MH {ρ:Type} {gs:List Bool} (hl:gs.length≤1000000):rng (ρ:=ρ) (fun (k446:Nat) (a447:Bool) (s444:(List Int))=>if a447=true then (bnd (appI 8 s444 [(k446:Int)]) fun u469=>some (.next u469)) else (some (.next s444))) gs 0 ([]:List Int)=some (.done (goalIx gs)):=by
  refine EF (fun m=>((List.range m).filter fun i=>(gs[i]?).getD false).map fun i:Nat=>(i:Int)) (by simp) fun m b hb=>?_
  have hm:=AC hb
  have hlen:(((List.range m).filter fun i=>(gs[i]?).getD false).map fun i:Nat=>(i:Int)).length≤m:=by
    rw [List.length_map]
    exact Nat.le_trans (List.length_filter_le _ _) (by simp)
  rw [List.range_succ,List.filter_append]
  cases b with
  | true =>
    rw [if_pos rfl,Cy (by simp at hlen ⊢;omega) (by simp at hlen ⊢;omega),Ar]
    simp [hb]
  | false=>rw [if_neg (by simp)];simp [hb]
theorem Hv {gs:List Bool} {x:Int}:x∈goalIx gs↔∃ i:Nat,x=(i:Int)∧gs[i]?=some true:=by
  unfold goalIx
  rw [List.mem_map]
  constructor
  · rintro ⟨i,hi,rfl⟩
    obtain ⟨h1,h2⟩:=List.mem_filter.1 hi
    refine ⟨i,rfl,?_⟩
    cases hg:gs[i]? with
    | none=>rw [hg] at h2;simp at h2
    | some b=>rw [hg] at h2;simp at h2;rw [h2]
  · rintro ⟨i,rfl,hi⟩
    exact ⟨i,List.mem_filter.2 ⟨List.mem_range.2 (AC hi),by rw [hi];rfl⟩,rfl⟩
theorem Lo (gs:List Bool):(goalIx gs).Nodup:=by
  unfold goalIx
  unfold List.Nodup
  rw [List.pairwise_map]
  exact ((List.nodup_range).sublist List.filter_sublist).imp fun h e=>h (by omega)
theorem MI (gs:List Bool):(goalIx gs).length≤gs.length:=by
  unfold goalIx
  rw [List.length_map]
  exact Nat.le_trans (List.length_filter_le _ _) (by simp)
noncomputable def meaF (t:Tsk):Edj→(List (List Arc))×(List (List Arc))→Option (Ctl ((List (List Arc))×(List (List Arc))) Spa):=fun a180 s177=>bnd (atI t.ops a180.label) fun a258=>bnd (atI s177.1 a180.src) fun a279=>bnd (appI 24 a279 [(⟨a180.src,a180.dst,a258.cost⟩:Arc)]) fun u304=>bnd (atI s177.1 a180.src) fun a315=>bnd (atI s177.2 a180.dst) fun a330=>bnd (appI 24 a330 [(⟨a180.dst,a180.src,a258.cost⟩:Arc)]) fun u355=>bnd (atI s177.2 a180.dst) fun a366=>some (.next ((s177.1.set (a180.src:Int).toNat u304),(s177.2.set (a180.dst:Int).toNat u355)))
theorem Pp (x0:Spa):BN x0=bnd (Be x0.states) fun q45=>bnd (mkI 24 ([]:List Arc) q45) fun u55=>bnd (mkI 24 ([]:List Arc) q45) fun u57=>bnd (some (u55,u57):Option ((List (List Arc))×(List (List Arc)))) fun y59=>bnd (rng (ρ:=Spa) (fun (_:Nat) (a180:Edj) (s177:(List (List Arc))×(List (List Arc)))=>meaF x0.t a180 s177) x0.edges 0 (y59.1,y59.2)) fun res175=>fin res175 fun (s390:(List (List Arc))×(List (List Arc)))=>bnd (rng (ρ:=Spa) (fun (k446:Nat) (a447:Bool) (s444:(List Int))=>if a447=true then (bnd (appI 8 s444 [(k446:Int)]) fun u469=>some (.next u469)) else (some (.next s444))) x0.goals 0 ([]:List Int)) fun res442=>fin res442 fun (s485:(List Int))=>bnd (BT s390.1 ([0]:List Int)) fun q497=>bnd (BT s390.2 s485) fun q561=>some (⟨(⟨x0.t.vars,x0.t.init,x0.t.goal,x0.t.ops⟩:Tsk),x0.states,x0.edges,x0.goals,q497.1,q561.1,q561.2⟩:Spa):=rfl
theorem Np {t:Tsk} {es:List Edj} {m:Nat} {e:Edj} (he:es[m]?=some e) (i:Nat):fwdR t (es.take (m + 1)) i=fwdR t (es.take m) i ++ if e.src=(i:Int) then [⟨e.src,e.dst,costE t e⟩] else []:=by
  unfold fwdR
  rw [List.take_add_one,he,List.filter_append,List.map_append]
  by_cases h:e.src=(i:Int)
  · rw [if_pos h];simp [h]
  · rw [if_neg h];simp [h]
theorem Nq {t:Tsk} {es:List Edj} {m:Nat} {e:Edj} (he:es[m]?=some e) (i:Nat):bwdR t (es.take (m + 1)) i=bwdR t (es.take m) i ++ if e.dst=(i:Int) then [⟨e.dst,e.src,costE t e⟩] else []:=by
  unfold bwdR
  rw [List.take_add_one,he,List.filter_append,List.map_append]
  by_cases h:e.dst=(i:Int)
  · rw [if_pos h];simp [h]
  · rw [if_neg h];simp [h]
theorem Om (t:Tsk) (es:List Edj) (i:Nat):(fwdR t es i).length≤es.length:=by unfold fwdR;rw [List.length_map];exact List.length_filter_le _ _
theorem On (t:Tsk) (es:List Edj) (i:Nat):(bwdR t es i).length≤es.length:=by unfold bwdR;rw [List.length_map];exact List.length_filter_le _ _
structure SpaOk (t:Tsk) (n:Nat) (es:List Edj) (gs:List Bool) (x:Spa):Prop where
  t_:x.t=t
  ed:x.edges=es
  go:x.goals=gs
  cl:x.costs.length=n
  dl:x.distances.length=n
  sl:x.steps.length=n
  cost:∃ k,LexP n (fwdA t es) (fun i=>i=0) (gI x.costs) k∧∀ i,gI x.costs i≠Inf→i < n∧0≤gI x.costs i∧gI x.costs i≤600 * 1048576
  dist:LexP n (bwdA t es) (fun i=>gs[i]?=some true) (gI x.distances) (gI x.steps)
  inf:∀ i,gI x.distances i=Inf→gI x.steps i=Inf
  bnd:∀ i,gI x.distances i≠Inf→i < n∧0≤gI x.distances i∧gI x.distances i≤600 * 1048576∧0≤gI x.steps i∧gI x.steps i≤600
theorem LexP.arcs {n:Nat} {A A':Nat→List (Nat×Int)} {S S':Nat→Prop} {d k:Nat→Int} (h:LexP n A S d k) (hA:A=A') (hS:S=S'):LexP n A' S' d k:=by subst hA;subst hS;exact h
theorem MJ {t:Tsk} (hok:TaskOk t) {n:Nat} (hn:n≤600) (hn0:0 < n) {x:Spa} (ht:x.t=t) (hlen:x.states.entries.length=n) (he:EdgesOk t n x.edges) (hg:x.goals.length=n) :
    ∃ r,BN x=some r∧r.states=x.states∧SpaOk t n x.edges x.goals r:=by
  rw [Pp,show Be x.states=some (x.states.entries.length:Int) from rfl,Ar,hlen,Id (by omega) (by omega),Ar,Ar,Ar,ht]
  dsimp only
  obtain ⟨s,e1,e2,e3⟩:=FK (ρ:=Spa) (f:=fun (_:Nat) (a180:Edj) (s177:(List (List Arc))×(List (List Arc)))=>meaF t a180 s177) (xs:=x.edges) (s₀:=(List.replicate n [],List.replicate n []))
    (fun m s=>RowsAre n s.1 (fwdR t (x.edges.take m))∧RowsAre n s.2 (bwdR t (x.edges.take m))) ⟨(RowsAre.rep n).congr fun i _=>by simp [fwdR],(RowsAre.rep n).congr fun i _=>by simp [bwdR]⟩
    (fun m e s hm hI=>by
      obtain ⟨hF,hB⟩:=hI
      have hmem:=List.mem_of_getElem? hm
      obtain ⟨s1,s2,d1,d2,_,_⟩:=he.ok e hmem
      obtain ⟨o,o1,o2,_⟩:=Fi hok he hmem
      obtain ⟨i,hi⟩:∃ i:Nat,e.src=(i:Int):=⟨e.src.toNat,by omega⟩
      obtain ⟨j,hj⟩:∃ j:Nat,e.dst=(j:Int):=⟨e.dst.toNat,by omega⟩
      have hml:=AC hm
      have hfew:=he.few
      have fl:=Om t (x.edges.take m) i
      have bl:=On t (x.edges.take m) j
      rw [List.length_take] at fl bl
      unfold meaF
      rw [o1,Ar,hi,hj,Cm,hF.at_ i (by omega),Ar,Cy (by rw [List.length_singleton];omega) (by rw [List.length_singleton];omega),Ar,Ar,Cm,hB.at_ j (by omega),Ar,Cy (by rw [List.length_singleton];omega) (by rw [List.length_singleton];omega),Ar,Ar,Int.toNat_natCast,Int.toNat_natCast]
      refine ⟨_,rfl,(hF.set (by omega) _).congr fun u _=>?_,(hB.set (by omega) _).congr fun u _=>?_⟩
      · rw [Np hm]
        by_cases hu:u=i
        · subst hu;rw [AS,if_pos hi,o2,hi,hj]
        · rw [AT hu,if_neg (by omega),List.append_nil]
      · rw [Nq hm]
        by_cases hu:u=j
        · subst hu;rw [AS,if_pos hj,o2,hi,hj]
        · rw [AT hu,if_neg (by omega),List.append_nil])
  rw [List.take_length] at e2 e3
  rw [e1,Ar,CP,MH (by omega),Ar,CP]
  obtain ⟨f1,f2,f3⟩:=(RowsAre.ok hok hn he).1 e2
  obtain ⟨b1,b2,b3⟩:=(RowsAre.ok hok hn he).2 e3
  have hfew:=he.few
  obtain ⟨c,k,c1,c2,_,c3,_,c4⟩:=Jb f1 (by omega) (src:=[0]) (fun x hx=>by simp at hx;omega) (by simp) (by simp)
  obtain ⟨d,l,d1,d2,d3,d4,d5,d6⟩:=Jb b1 (by omega) (src:=goalIx x.goals) (fun y hy=>by
    obtain ⟨i,rfl,hi⟩:=Hv.1 hy
    have:=AC hi
    omega) (Lo _) (by have:=MI x.goals;omega)
  rw [c1,Ar,d1,Ar]
  have hfA:arcA s.1=fwdA t x.edges:=funext fun i=>by
    by_cases hi:i < n
    · exact f3 i hi
    · rw [Ln e2.len hi,(Lm he hi).1]
  have hbA:arcA s.2=bwdA t x.edges:=funext fun i=>by
    by_cases hi:i < n
    · exact b3 i hi
    · rw [Ln e3.len hi,(Lm he hi).2]
  refine ⟨_,rfl,rfl,rfl,rfl,rfl,c2,d2,d3,⟨gI k,c3.arcs hfA (funext fun i=>by simp),fun i hi=>?_⟩,d4.arcs hbA (funext fun i=>propext ⟨fun hh=>?_,fun hh=>Hv.2 ⟨i,rfl,hh⟩⟩),d5,d6⟩
  · have:=c4 i hi;exact ⟨this.1,this.2.1,this.2.2.1⟩
  · obtain ⟨j,hj,hg⟩:=Hv.1 hh
    obtain rfl:i=j:=by omega
    exact hg
end
end Go.Proofs.YtkbmbcblgdgjlaaGreat

/- Own text: what the proof of exploreSolves_holds uses, part 4: rules, models and their proofs, plain laws. -/
import Derived.Test.YtkbmbcblgdgjlaaGreatEVC
set_option linter.unusedVariables false
set_option linter.unusedSimpArgs false
namespace Go.Proofs.YtkbmbcblgdgjlaaGreat
open Go Go.RowKit
section
open Go Go.RowKit
attribute [local irreducible] ewp owp hwp hwq hws Ev Evg Fn retPost loud loudS Res1
attribute [local irreducible] hwx loudX
structure Arc where
  src:Int
  dst:Int
  weight:Int
instance:Rp Arc where
  isAgg:=true
  size:=3
  R w F cs x:=cs=[.int .i64 x.src,.int .i64 x.dst,.int .i64 x.weight]∧inI64 x.src∧inI64 x.dst∧inI64 x.weight
  len:=by rintro w F cs x ⟨rfl,h0,h1,h2⟩;rfl
  one:=by rintro w F cs x ⟨rfl,h0,h1,h2⟩ u hu;simp at hu;rcases hu with rfl|rfl|rfl<;>first|rfl|exact Vb.one rfl (by assumption)
  agree:=by rintro w w' F cs x ⟨rfl,h0,h1,h2⟩ ha;exact ⟨rfl,h0,h1,h2⟩
  mono:=by rintro w F G cs x ⟨rfl,h0,h1,h2⟩ ha;exact ⟨rfl,h0,h1,h2⟩
structure Edj where
  src:Int
  label:Int
  dst:Int
instance:Rp Edj where
  isAgg:=true
  size:=3
  R w F cs x:=cs=[.int .i64 x.src,.int .i64 x.label,.int .i64 x.dst]∧inI64 x.src∧inI64 x.label∧inI64 x.dst
  len:=by rintro w F cs x ⟨rfl,h0,h1,h2⟩;rfl
  one:=by rintro w F cs x ⟨rfl,h0,h1,h2⟩ u hu;simp at hu;rcases hu with rfl|rfl|rfl<;>first|rfl|exact Vb.one rfl (by assumption)
  agree:=by rintro w w' F cs x ⟨rfl,h0,h1,h2⟩ ha;exact ⟨rfl,h0,h1,h2⟩
  mono:=by rintro w F G cs x ⟨rfl,h0,h1,h2⟩ ha;exact ⟨rfl,h0,h1,h2⟩
structure Spa where
  t:Tsk
  states:Reg
  edges:List Edj
  goals:List Bool
  costs:List Int
  distances:List Int
  steps:List Int
instance:Ow Spa where
  R w F M v x:=∃ (g:Nat) (L:Lab) (c0 c1 c2 c3 c4 c5 c6 c7 c8 c9:Value),v=.pointer (some ⟨g,0,none⟩)∧Blk w g 87 [c0,c1,c2,c3,c4,c5,c6,c7,c8,c9]∧M g∧L g=0∧Vb w F c0 x.t.vars∧Vb w F c1 x.t.init∧Vb w F c2 x.t.goal∧Vb w F c3 x.t.ops∧Ow.R w F (fun k=>M k∧L k=1) c4 x.states∧Vb w F c5 x.edges∧Vb w F c6 x.goals∧Vb w F c7 x.costs∧Vb w F c8 x.distances∧Vb w F c9 x.steps
  agree:=by rintro w w' F M v x ⟨g,L,c0,c1,c2,c3,c4,c5,c6,c7,c8,c9,rfl,hb,hM,hL,h0,h1,h2,h3,h4,h5,h6,h7,h8,h9⟩ a1 a2;exact ⟨g,L,c0,c1,c2,c3,c4,c5,c6,c7,c8,c9,rfl,hb.keep (a2 g hM),hM,hL,h0.agree a1,h1.agree a1,h2.agree a1,h3.agree a1,Ow.agree h4 a1 fun k hk=>a2 k hk.1,h5.agree a1,h6.agree a1,h7.agree a1,h8.agree a1,h9.agree a1⟩
  mono:=by rintro w F M F' M' v x ⟨g,L,c0,c1,c2,c3,c4,c5,c6,c7,c8,c9,rfl,hb,hM,hL,h0,h1,h2,h3,h4,h5,h6,h7,h8,h9⟩ a1 a2 a3;exact ⟨g,L,c0,c1,c2,c3,c4,c5,c6,c7,c8,c9,rfl,hb,a2 g hM,hL,h0.mono a1,h1.mono a1,h2.mono a1,h3.mono a1,Ow.mono h4 a1 (fun k hk=>⟨a2 k hk.1,hk.2⟩) fun k hf hm=>a3 k hf hm.1,h5.mono a1,h6.mono a1,h7.mono a1,h8.mono a1,h9.mono a1⟩
instance:OwP Spa:=⟨by rintro w F M v x ⟨g,L,c0,c1,c2,c3,c4,c5,c6,c7,c8,c9,rfl,_⟩;exact ⟨g,rfl⟩⟩
theorem Spa.opn {i:Nat} {w:World} {O:Lab} {p:Nat} {x:Spa} (h:Ob i w O (.pointer (some ⟨p,0,none⟩)) x) (l0 l1:Nat) (hl:l0≠0∧l1≠0):∃ (O':Lab) (c0 c1 c2 c3 c4 c5 c6 c7 c8 c9:Value),St (eT i) w O w O'∧(∀ k,Fr i w O k→∃ q,q∈[l0,l1]∧Fr q w O' k)∧Lc l0 w O' p 87 [c0,c1,c2,c3,c4,c5,c6,c7,c8,c9]∧Vb w (Fr 0 w O') c0 x.t.vars∧Vb w (Fr 0 w O') c1 x.t.init∧Vb w (Fr 0 w O') c2 x.t.goal∧Vb w (Fr 0 w O') c3 x.t.ops∧Ob l1 w O' c4 x.states∧Vb w (Fr 0 w O') c5 x.edges∧Vb w (Fr 0 w O') c6 x.goals∧Vb w (Fr 0 w O') c7 x.costs∧Vb w (Fr 0 w O') c8 x.distances∧Vb w (Fr 0 w O') c9 x.steps:=by
  obtain ⟨⟨g,L,c0,c1,c2,c3,c4,c5,c6,c7,c8,c9,hv,hb,hM,hL,h0,h1,h2,h3,h4,h5,h6,h7,h8,h9⟩,hi⟩:=h
  obtain rfl:p=g:=by injection hv with hv;injection hv with hv;injection hv
  exact ⟨part O i L [l0,l1],c0,c1,c2,c3,c4,c5,c6,c7,c8,c9,II hi,Hq (by simp),⟨hb,(Es (j:=0) rfl p ⟨hM,hL⟩).2⟩,h0.mono (CQ hi),h1.mono (CQ hi),h2.mono (CQ hi),h3.mono (CQ hi),⟨Ow.mono h4 (CQ hi) (Es (j:=1) rfl) (frNe0 hl.2),hl.2⟩,h5.mono (CQ hi),h6.mono (CQ hi),h7.mono (CQ hi),h8.mono (CQ hi),h9.mono (CQ hi)⟩
theorem Spa.shut {w:World} {O:Lab} {p:Nat} {x:Spa} {l0 l1:Nat} {c0 c1 c2 c3 c4 c5 c6 c7 c8 c9:Value} (hd:¬ 0∈[l0,l1]∧[l0,l1].idxOf l0=0∧[l0,l1].idxOf l1=1) (hb:Lc l0 w O p 87 [c0,c1,c2,c3,c4,c5,c6,c7,c8,c9]) (h0:Vb w (Fr 0 w O) c0 x.t.vars) (h1:Vb w (Fr 0 w O) c1 x.t.init) (h2:Vb w (Fr 0 w O) c2 x.t.goal) (h3:Vb w (Fr 0 w O) c3 x.t.ops) (h4:Ob l1 w O c4 x.states) (h5:Vb w (Fr 0 w O) c5 x.edges) (h6:Vb w (Fr 0 w O) c6 x.goals) (h7:Vb w (Fr 0 w O) c7 x.costs) (h8:Vb w (Fr 0 w O) c8 x.distances) (h9:Vb w (Fr 0 w O) c9 x.steps):∃ O',St (·∈[l0,l1]) w O w O'∧(∀ k,Fr 0 w O k→Fr 0 w O' k)∧(∀ q,q∈[l0,l1]→∀ k,Fr q w O k→Fr l0 w O' k)∧Ob l0 w O' (.pointer (some ⟨p,0,none⟩)) x:=by
  have hb1:l0≠0:=fun e=>hd.1 (by simp [e])
  have hg:=DW (i:=l0) hd.2.1 (by simp) p ⟨hb.1.lt,hb.2⟩
  exact ⟨whole O l0 [l0,l1],Hr,Cb hd.1,GK,⟨p,fun k=>[l0,l1].idxOf (O k),c0,c1,c2,c3,c4,c5,c6,c7,c8,c9,rfl,hb.1,hg.1,hg.2,h0.mono (Cb hd.1),h1.mono (Cb hd.1),h2.mono (Cb hd.1),h3.mono (Cb hd.1),Ow.mono h4.1 (Cb hd.1) (DW hd.2.2 (by simp)) (fun k a b=>frNe0 hb1 k a b.1),h5.mono (Cb hd.1),h6.mono (Cb hd.1),h7.mono (Cb hd.1),h8.mono (Cb hd.1),h9.mono (Cb hd.1)⟩,hb1⟩
def DX (x y:Err):Option Bool:=if x.n=0∧y.n≠0 then some false else none
def Dt (_:List (List Arc)) (_ _:List Int):Option (List Int×List Int):=none
theorem IM {w:World} {A:Nat→Prop} (hA:∀ k,A k→k < w.heap.size) {vx0:Value} {x0:List (List Arc)} (a0:Vb w A vx0 x0) {vx1:Value} {x1:List Int} (b0:Vb w A vx1 x1) {vx2:Value} {x2:List Int} (c0:Vb w A vx2 x2) {r:List Int×List Int} (hm:Dt x0 x1 x2=some r) :
    Fn Tryz.prog 96 [vx0,vx1,vx2] w fun v w'=>Ext w w'∧T2 w' (upA A w w') v r:=by cases hm
noncomputable def Bb (x0:Reg):Option Int :=
  some (x0.entries.length:Int)
theorem DI {w:World} {O:Lab} {p0 i0:Nat} {x0:Reg} (a0:Ob i0 w O (.pointer (some ⟨p0,0,none⟩)) x0) {r:Int} (hm:Bb x0=some r) :
    Fn Tryz.prog 46 [(.pointer (some ⟨p0,0,none⟩))] w fun v w'=>∃ O',St (eT i0) w O w' O'∧Ob i0 w' O' (.pointer (some ⟨p0,0,none⟩)) x0∧Vb w' (Fr 0 w' O') v r:=by
 obtain ⟨O0,hE,d0,e0⟩:=ent1 (w:=w) (O:=O) a0.2
 have a0':=Ob.leave a0 d0 e0 (j:=2) (by decide)
 have hB:Bm w O0 w O0:=Bm.refl
 refine AI Tryz.func46 rfl Tryz.ntmps46 rfl ?_
 unfold Bb at hm
 refine Al (Aj (An rfl rfl (o_z ?_)))
 refine Al (Al (Aj (Am rfl rfl (Ek rfl rfl ?_))))
 refine o_z ?_
 refine Ae rfl (AH (Al (Aj (Am rfl rfl (BE rfl rfl ?_)))))
 obtain ⟨O2,v6,v9,n0,S3,o0,h4,h7,b0,c0⟩:=Reg.opn a0' 2 3 4 5 (by decide)
 obtain ⟨p8,rfl⟩:=h7.ptr
 obtain ⟨q0,r0,rfl⟩:=b0.form
 obtain ⟨s0,rfl⟩:=c0.mptr
 refine AG rfl rfl (AD (hc:=Blk.cell (i:=1) (h4.1) rfl) rfl rfl ?_)
 refine AQ rfl rfl ?_
 have f0:x0.entries.length≤9223372036854775807:=Nat.le_trans b0.len.2.1 b0.len.2.2
 have g0:inI64 (x0.entries.length:Int):=rngNat f0
 refine An rfl rfl (o_z ?_)
 refine AF ?_
 obtain ⟨t0,h0,j0,k0,m0⟩:=Reg.shut (x:=x0) (l0:=2) (l1:=3) (l2:=4) (l3:=5) (by decide) h4 h7 b0 c0
 obtain rfl:=sm hm
 replace hB:=(hB.st S3).st h0
 obtain ⟨O',hS',hz,hl⟩:=hE.leave (fun q=>if q=2 then i0 else 0) rfl hB
 exact ret1v rfl (Az rfl) ⟨O',hS',(Ob.leave m0 hz (hl 2 (by decide) (by decide)) a0.2),(vInt g0)⟩
noncomputable def CY (x0:Reg) (x1:List Int):Option (Int×Err) :=
  bnd (Bl x0 x1) fun q5=>if q5.2.2.2.n≠0 then (some (0,(⟨q5.2.2.2.n⟩:Err))) else (if q5.2.2.1 < 0 then (some (0,(⟨3⟩:Err))) else (some (q5.2.2.1,(⟨0⟩:Err))))
theorem Gt {w:World} {O:Lab} {p0 i0:Nat} {x0:Reg} (a0:Ob i0 w O (.pointer (some ⟨p0,0,none⟩)) x0) {vx1:Value} {x1:List Int} (b0:Vb w (Fr 0 w O) vx1 x1) {r:Int×Err} (hm:CY x0 x1=some r) :
    Fn Tryz.prog 56 [(.pointer (some ⟨p0,0,none⟩)),vx1] w fun v w'=>∃ O',St (eT i0) w O w' O'∧∃ v0 v1:Value,Ob i0 w' O' (.pointer (some ⟨p0,0,none⟩)) x0∧v=.tuple #[v0,v1]∧Vb w' (Fr 0 w' O') v0 r.1∧Vb w' (Fr 0 w' O') v1 r.2:=by
 obtain ⟨O0,hE,f0,g0⟩:=ent1 (w:=w) (O:=O) a0.2
 have a0':=Ob.leave a0 f0 g0 (j:=2) (by decide)
 have hB:Bm w O0 w O0:=Bm.refl
 replace b0:=b0.mono f0
 obtain ⟨A3,c4,rfl⟩:=b0.form
 refine AI Tryz.func56 rfl Tryz.ntmps56 rfl ?_
 unfold CY at hm
 refine Al (Aj (An rfl rfl (An rfl rfl (o_z ?_))))
 refine Al (Al (Aj (Am rfl rfl (Ek rfl rfl ?_))))
 refine o_z ?_
 refine Ae rfl (AH (Al (Aj (Am rfl rfl (Am rfl rfl ?_)))))
 obtain ⟨q5,e6,hm⟩:=bs hm
 refine BB (O:=O0) (EA a0' b0 e6) rfl rfl fun q0 w7 O8 S9 h0=>?_
 obtain ⟨r0,s0,t0,u0,c0,rfl,j0,k0,l0,m0⟩:=h0
 obtain ⟨w0,y0,rfl⟩:=j0.form
 obtain ⟨rfl,z0⟩:=k0.int
 obtain ⟨rfl,n0⟩:=l0.int
 obtain ⟨rfl,o0⟩:=m0.err
 refine Am rfl rfl (AY rfl rfl rfl (AY rfl rfl rfl (AY rfl rfl rfl (AY rfl rfl rfl (An rfl rfl (An rfl rfl (An rfl rfl (An rfl rfl (o_z ?_)))))))))
 refine Al (AR (Al (Aj (Am rfl rfl (Dd rfl rfl (fun d0=>?_) fun d0=>?_)))))
 ·
  replace hm:=ip hm d0
  refine An rfl rfl (o_z ?_)
  refine Ah rfl (Al (Aj (Am rfl rfl (An rfl rfl (An rfl rfl (o_z ?_))))))
  refine AF ?_
  obtain rfl:=sm hm
  replace hB:=hB.st S9
  obtain ⟨O',hS',hz,hl⟩:=hE.leave (fun q=>if q=2 then i0 else 0) rfl hB
  exact ret2 rfl (Az rfl) (Az rfl) ⟨O',hS',_,_,(Ob.leave c0 hz (hl 2 (by decide) (by decide)) a0.2),rfl,(vInt (show inI64 (0) from by decide)),(vErr o0)⟩
 replace hm:=im hm d0
 refine An rfl rfl (o_z ?_)
 refine Ae rfl (Al (Aj (Am rfl rfl (CT rfl rfl rfl (fun e0=>?_) fun e0=>?_))))
 ·
  replace hm:=ip hm e0
  refine An rfl rfl (o_z ?_)
  refine Ah rfl (Al (Aj (CU rfl rfl ?_)))
  refine An rfl rfl (An rfl rfl (o_z ?_))
  refine AF ?_
  obtain rfl:=sm hm
  replace hB:=hB.st S9
  obtain ⟨O',hS',hz,hl⟩:=hE.leave (fun q=>if q=2 then i0 else 0) rfl hB
  exact ret2 rfl (Az rfl) (Az rfl) ⟨O',hS',_,_,(Ob.leave c0 hz (hl 2 (by decide) (by decide)) a0.2),rfl,(vInt (show inI64 (0) from by decide)),(vErr (by decide))⟩
 replace hm:=im hm e0
 refine An rfl rfl (o_z ?_)
 refine Ae rfl (AH (Al (Aj (Am rfl rfl (An rfl rfl (An rfl rfl (o_z ?_)))))))
 refine AF ?_
 obtain rfl:=sm hm
 replace hB:=hB.st S9
 obtain ⟨O',hS',hz,hl⟩:=hE.leave (fun q=>if q=2 then i0 else 0) rfl hB
 exact ret2 rfl (Az rfl) (Az rfl) ⟨O',hS',_,_,(Ob.leave c0 hz (hl 2 (by decide) (by decide)) a0.2),rfl,(vInt n0),(vErr (show inI64 0 from by decide))⟩
noncomputable def CC (x0:Tsk):Option Tsk :=
  bnd (AW x0.vars) fun q29=>bnd (AW x0.init) fun q31=>bnd (Bc x0.goal) fun q33=>bnd (some (q29,q31,q33):Option ((List Int)×(List Int)×(List Fct))) fun y35=>bnd (rng (ρ:=Tsk) (fun (k156:Nat) (a157:Opr) (s154:(List Opr))=>bnd (Bc a157.pre) fun q195=>bnd (rng (ρ:=Ctl (List Opr) Tsk) (fun (k213:Nat) (a214:Eff) (s211:(List Eff))=>bnd (Bc a214.cond) fun q248=>bnd (appI 40 s211 [(⟨q248,a214.var,a214.val⟩:Eff)]) fun u262=>some (.next u262)) a157.effs 0 ([]:List Eff)) fun res209=>fin res209 fun (s278:(List Eff))=>bnd (appI 72 s154 [(⟨a157.name,a157.cost,q195,s278⟩:Opr)]) fun u286=>some (.next u286)) x0.ops 0 ([]:List Opr)) fun res152=>fin res152 fun (s304:(List Opr))=>some (⟨y35.1,y35.2.1,y35.2.2,s304⟩:Tsk)
theorem Jk {w:World} {A:Nat→Prop} (hA:∀ k,A k→k < w.heap.size) {vx0:Value} {x0:Tsk} (n5:Vb w A vx0 x0) {r:Tsk} (hm:CC x0=some r) :
    Fn Tryz.prog 45 [vx0] w fun v w'=>Ext w w'∧Vb w' (upA A w w') v r:=by
 obtain ⟨O,hB,h8⟩:=enter hA
 replace n5:=n5.mono h8
 obtain ⟨gA,rfl,v3,v4,v5,v6,rfl,h7,u1,q1,t0⟩:=n5
 obtain ⟨A8,c9,rfl⟩:=h7.form
 obtain ⟨o5,p5,rfl⟩:=u1.form
 obtain ⟨q5,r5,rfl⟩:=q1.form
 obtain ⟨w2,x2,rfl⟩:=t0.form
 refine AI Tryz.func45 rfl Tryz.ntmps45 rfl ?_
 unfold CC at hm
 refine Al (Aj (DZ 2 O rfl rfl fun s5 i8 r7 j1 y1=>?_))
 replace y1:Lc 2 i8 r7 s5 26 [(.slice A8 x0.vars.length c9),(.slice o5 x0.init.length p5),(.slice q5 x0.goal.length r5),(.slice w2 x0.ops.length x2)]:=y1
 refine Db 3 r7 rfl fun i2 iA t5 z0 n0=>?_
 refine o_z ?_
 refine Al ?_
 obtain ⟨d5,s7,hm⟩:=bs hm
 obtain ⟨e5,u5,hm⟩:=bs hm
 obtain ⟨f5,g5,hm⟩:=bs hm
 obtain ⟨b0,y2,hm⟩:=bs hm
 refine AN (fun l' w'=>∃ (a0:Nat×(Option Addr×Nat)×(Option Addr×Nat)×(Option Addr×Nat)) (O':Lab),subs l' [(1,(.pointer (some ⟨s5,0,none⟩))),(2,(.pointer (some ⟨i2,0,none⟩))),(3,(.pointer (some ⟨a0.1,0,none⟩)))]∧Bs w A w' O'∧Lc 2 w' O' s5 26 [(.slice A8 x0.vars.length c9),(.slice o5 x0.init.length p5),(.slice q5 x0.goal.length r5),(.slice w2 x0.ops.length x2)]∧Vb w' (Fr 0 w' O') (.slice A8 x0.vars.length c9) x0.vars∧Vb w' (Fr 0 w' O') (.slice o5 x0.init.length p5) x0.init∧Vb w' (Fr 0 w' O') (.slice q5 x0.goal.length r5) x0.goal∧Vb w' (Fr 0 w' O') (.slice w2 x0.ops.length x2) x0.ops∧Lc 3 w' O' i2 26 [(.slice none 0 0),(.slice none 0 0),(.slice none 0 0),(.slice none 0 0)]∧Lc 7 w' O' a0.1 26 [(.slice a0.2.1.1 b0.1.length a0.2.1.2),(.slice a0.2.2.1.1 b0.2.1.length a0.2.2.1.2),(.slice a0.2.2.2.1 b0.2.2.length a0.2.2.2.2),(.slice none 0 0)]∧Rw 4 w' O' 3 (.slice a0.2.1.1 b0.1.length a0.2.1.2) b0.1∧Rw 5 w' O' 3 (.slice a0.2.2.1.1 b0.2.1.length a0.2.2.1.2) b0.2.1∧Rw 6 w' O' 123 (.slice a0.2.2.2.1 b0.2.2.length a0.2.2.2.2) b0.2.2) ?_ ?_
 ·
  refine BK [] t5 ?_
  refine AZ (fuel:=6) [] [(0,true),(1,true),(3,true),(4,true),(6,true),(7,true)] (by kernel_rfl) rfl ?_
  refine AP rfl rfl rfl ?_
  replace y1:=y1.st z0
  refine AS (hc:=fun w' ⟨O',hq⟩=>Blk.cell (i:=0) ((y1.st hq (by decide)).1) rfl) rfl rfl rfl ?_
  refine AP rfl rfl rfl (AS (hc:=fun w' ⟨O',hq⟩=>Blk.cell (i:=1) ((y1.st hq (by decide)).1) rfl) rfl rfl rfl ?_)
  refine AP rfl rfl rfl (AS (hc:=fun w' ⟨O',hq⟩=>Blk.cell (i:=2) ((y1.st hq (by decide)).1) rfl) rfl rfl rfl ?_)
  refine AL ?_
  refine JH (i:=2) (j:=10) (by kernel_rfl) rfl rfl ?_ ?_
  ·
   replace h7:=(h7.st j1).st z0
   refine Ck 4 (by decide) (O:=t5) (Bv Fr.lt h7 s7) rfl rfl fun r3 s3 jA t7 k1 w5=>?_
   have hZ:=k1.lst [] (fun _ h=>h.elim)
   refine BF [] hZ (by kernel_rfl) ?_
   refine JH (i:=5) (j:=10) (by kernel_rfl) rfl rfl ?_ ?_
   ·
    replace u1:=((u1.st j1).st z0).st k1
    refine Ck 5 (by decide) (O:=t7) (Bv Fr.lt u1 u5) rfl rfl fun h5 i5 kA u7 v1 v7=>?_
    have hZ:=v1.lst [] (fun _ h=>h.elim)
    refine BF [] hZ (by kernel_rfl) ?_
    refine JH (i:=8) (j:=10) (by kernel_rfl) rfl rfl ?_ ?_
    ·
     replace q1:=(((q1.st j1).st z0).st k1).st v1
     refine Ck 6 (by decide) (O:=u7) (Bu Fr.lt q1 g5) rfl rfl fun w7 x7 lA j8 r2 k8=>?_
     have hZ:=r2.lst [] (fun _ h=>h.elim)
     refine BF [] hZ (by kernel_rfl) ?_
     refine AZ (fuel:=2) [] [(9,true)] (by kernel_rfl) rfl ?_
     refine GR rfl rfl rfl rfl ?_
     refine AL ?_
     refine Bg (i:=10) (by kernel_rfl) rfl ?_
     refine Db 7 j8 rfl fun y7 mA l8 j2 t3=>?_
     have hZ:=j2.lst [] (fun _ h=>h.elim)
     refine BF [] hZ (by kernel_rfl) ?_
     refine Bg (i:=11) (by kernel_rfl) rfl ?_
     refine Bt t3 rfl rfl rfl (Ci rfl) (allOne rfl) fun m8 s2 t3=>?_
     replace t3:Lc 7 m8 l8 y7 26 [(.slice r3 d5.length s3),(.slice h5 e5.length i5),(.slice w7 f5.length x7),(.slice none 0 0)]:=t3
     refine DG (by kernel_rfl) ?_
     refine Co (by kernel_rfl) ?_
     obtain rfl:=sm y2
     exact ⟨(y7,(r3,s3),(h5,i5),(w7,x7)),_,⟨rfl,rfl,rfl,trivial⟩,((((((hB.st j1).st z0).st k1).st v1).st r2).st j2).st s2,((((y1.st k1).st v1).st r2).st j2).st s2,((((h7.st k1).st v1).st r2).st j2).st s2,(((u1.st v1).st r2).st j2).st s2,((q1.st r2).st j2).st s2,((((((t0.st j1).st z0).st k1).st v1).st r2).st j2).st s2,((((n0.st k1).st v1).st r2).st j2).st s2,t3,(((w5.st v1).st r2).st j2).st s2,((v7.st r2).st j2).st s2,(k8.st j2).st s2⟩
    refine Db 7 u7 rfl fun z7 nA n8 t2 i3=>?_
    have hZ:=t2.lst [] (fun _ h=>h.elim)
    refine BF [] hZ (by kernel_rfl) ?_
    refine Bg (i:=8) (by kernel_rfl) rfl ?_
    replace q1:=((((q1.st j1).st z0).st k1).st v1).st t2
    refine Ck 6 (by decide) (O:=n8) (Bu Fr.lt q1 g5) rfl rfl fun a8 b8 oA o8 k2 p8=>?_
    have hZ:=k2.lst [] (fun _ h=>h.elim)
    refine BF [] hZ (by kernel_rfl) ?_
    refine AZ (fuel:=1) [] [(9,true)] (by kernel_rfl) rfl ?_
    refine GR rfl rfl rfl rfl ?_
    refine AL ?_
    refine Bg (i:=11) (by kernel_rfl) rfl ?_
    replace i3:=i3.st k2
    refine Bt i3 rfl rfl rfl (Ci rfl) (allOne rfl) fun q8 u2 i3=>?_
    replace i3:Lc 7 q8 o8 z7 26 [(.slice r3 d5.length s3),(.slice h5 e5.length i5),(.slice a8 f5.length b8),(.slice none 0 0)]:=i3
    refine DG (by kernel_rfl) ?_
    refine Co (by kernel_rfl) ?_
    obtain rfl:=sm y2
    exact ⟨(z7,(r3,s3),(h5,i5),(a8,b8)),_,⟨rfl,rfl,rfl,trivial⟩,((((((hB.st j1).st z0).st k1).st v1).st t2).st k2).st u2,((((y1.st k1).st v1).st t2).st k2).st u2,((((h7.st k1).st v1).st t2).st k2).st u2,(((u1.st v1).st t2).st k2).st u2,(q1.st k2).st u2,((((((t0.st j1).st z0).st k1).st v1).st t2).st k2).st u2,((((n0.st k1).st v1).st t2).st k2).st u2,i3,(((w5.st v1).st t2).st k2).st u2,((v7.st t2).st k2).st u2,p8.st u2⟩
   refine Db 7 t7 rfl fun c8 pA r8 z2 j3=>?_
   have hZ:=z2.lst [] (fun _ h=>h.elim)
   refine BF [] hZ (by kernel_rfl) ?_
   refine Bg (i:=5) (by kernel_rfl) rfl ?_
   replace u1:=(((u1.st j1).st z0).st k1).st z2
   refine Ck 5 (by decide) (O:=r8) (Bv Fr.lt u1 u5) rfl rfl fun u3 w3 qA s8 v2 x5=>?_
   have hZ:=v2.lst [] (fun _ h=>h.elim)
   refine BF [] hZ (by kernel_rfl) ?_
   refine Bg (i:=8) (by kernel_rfl) rfl ?_
   replace q1:=((((q1.st j1).st z0).st k1).st z2).st v2
   refine Ck 6 (by decide) (O:=s8) (Bu Fr.lt q1 g5) rfl rfl fun x3 y3 t8 y5 a1 z5=>?_
   have hZ:=a1.lst [] (fun _ h=>h.elim)
   refine BF [] hZ (by kernel_rfl) ?_
   refine AZ (fuel:=1) [] [(9,true)] (by kernel_rfl) rfl ?_
   refine GR rfl rfl rfl rfl ?_
   refine AL ?_
   refine Bg (i:=11) (by kernel_rfl) rfl ?_
   replace j3:=(j3.st v2).st a1
   refine Bt j3 rfl rfl rfl (Ci rfl) (allOne rfl) fun a6 l1 j3=>?_
   replace j3:Lc 7 a6 y5 c8 26 [(.slice r3 d5.length s3),(.slice u3 e5.length w3),(.slice x3 f5.length y3),(.slice none 0 0)]:=j3
   refine DG (by kernel_rfl) ?_
   refine Co (by kernel_rfl) ?_
   obtain rfl:=sm y2
   exact ⟨(c8,(r3,s3),(u3,w3),(x3,y3)),_,⟨rfl,rfl,rfl,trivial⟩,((((((hB.st j1).st z0).st k1).st z2).st v2).st a1).st l1,((((y1.st k1).st z2).st v2).st a1).st l1,((((h7.st k1).st z2).st v2).st a1).st l1,((u1.st v2).st a1).st l1,(q1.st a1).st l1,((((((t0.st j1).st z0).st k1).st z2).st v2).st a1).st l1,((((n0.st k1).st z2).st v2).st a1).st l1,j3,(((w5.st z2).st v2).st a1).st l1,(x5.st a1).st l1,z5.st l1⟩
  refine Db 7 t5 rfl fun z3 u8 b6 w1 z1=>?_
  have hZ:=w1.lst [] (fun _ h=>h.elim)
  refine BF [] hZ (by kernel_rfl) ?_
  refine Bg (i:=2) (by kernel_rfl) rfl ?_
  replace h7:=((h7.st j1).st z0).st w1
  refine Ck 4 (by decide) (O:=b6) (Bv Fr.lt h7 s7) rfl rfl fun a4 b4 v8 c6 r1 d6=>?_
  have hZ:=r1.lst [] (fun _ h=>h.elim)
  refine BF [] hZ (by kernel_rfl) ?_
  refine Bg (i:=5) (by kernel_rfl) rfl ?_
  replace u1:=(((u1.st j1).st z0).st w1).st r1
  refine Ck 5 (by decide) (O:=c6) (Bv Fr.lt u1 u5) rfl rfl fun c4 d4 w8 e6 m1 f6=>?_
  have hZ:=m1.lst [] (fun _ h=>h.elim)
  refine BF [] hZ (by kernel_rfl) ?_
  refine Bg (i:=8) (by kernel_rfl) rfl ?_
  replace q1:=((((q1.st j1).st z0).st w1).st r1).st m1
  refine Ck 6 (by decide) (O:=e6) (Bu Fr.lt q1 g5) rfl rfl fun e4 f4 x8 g6 b1 h6=>?_
  have hZ:=b1.lst [] (fun _ h=>h.elim)
  refine BF [] hZ (by kernel_rfl) ?_
  refine AZ (fuel:=1) [] [(9,true)] (by kernel_rfl) rfl ?_
  refine GR rfl rfl rfl rfl ?_
  refine AL ?_
  refine Bg (i:=11) (by kernel_rfl) rfl ?_
  replace z1:=((z1.st r1).st m1).st b1
  refine Bt z1 rfl rfl rfl (Ci rfl) (allOne rfl) fun i6 n1 z1=>?_
  replace z1:Lc 7 i6 g6 z3 26 [(.slice a4 d5.length b4),(.slice c4 e5.length d4),(.slice e4 f5.length f4),(.slice none 0 0)]:=z1
  refine DG (by kernel_rfl) ?_
  refine Co (by kernel_rfl) ?_
  obtain rfl:=sm y2
  exact ⟨(z3,(a4,b4),(c4,d4),(e4,f4)),_,⟨rfl,rfl,rfl,trivial⟩,((((((hB.st j1).st z0).st w1).st r1).st m1).st b1).st n1,((((y1.st w1).st r1).st m1).st b1).st n1,(((h7.st r1).st m1).st b1).st n1,((u1.st m1).st b1).st n1,(q1.st b1).st n1,((((((t0.st j1).st z0).st w1).st r1).st m1).st b1).st n1,((((n0.st w1).st r1).st m1).st b1).st n1,z1,((d6.st m1).st b1).st n1,(f6.st b1).st n1,h6.st n1⟩
 replace hB:=(hB.st j1).st z0
 replace h7:=(h7.st j1).st z0
 replace u1:=(u1.st j1).st z0
 replace q1:=(q1.st j1).st z0
 replace t0:=(t0.st j1).st z0
 replace y1:=y1.st z0
 rintro y8 z8 ⟨a0,j6,g4,hB,y1,h7,u1,q1,t0,n0,s0,c1,d1,e1⟩
 refine AO _ g4 ?_
 refine Al (Al (Aj (AG rfl rfl (AD (hc:=Blk.cell (i:=3) (y1.1) rfl) rfl rfl ?_))))
 refine AQ rfl rfl ?_
 have k3:x0.ops.length≤9223372036854775807:=Nat.le_trans t0.len.2.1 t0.len.2.2
 have a9:inI64 (x0.ops.length:Int):=rngNat k3
 refine Am rfl rfl (o_z ?_)
 obtain ⟨l3,h4,hm⟩:=bs hm
 refine AN (aft l3 (fun (l0:(List Opr)) (f0:(Option Addr×Nat))=>[(2,(.pointer (some ⟨i2,0,none⟩))),(3,(.pointer (some ⟨a0.1,0,none⟩)))]) (fun l0 f0 w'=>∃ O':Lab,Bs w A w' O'∧Lc 3 w' O' i2 26 [(.slice none 0 0),(.slice none 0 0),(.slice none 0 0),(.slice none 0 0)]∧Lc 7 w' O' a0.1 26 [(.slice a0.2.1.1 b0.1.length a0.2.1.2),(.slice a0.2.2.1.1 b0.2.1.length a0.2.2.1.2),(.slice a0.2.2.2.1 b0.2.2.length a0.2.2.2.2),(.slice f0.1 l0.length f0.2)]∧Rw 4 w' O' 3 (.slice a0.2.1.1 b0.1.length a0.2.1.2) b0.1∧Rw 5 w' O' 3 (.slice a0.2.2.1.1 b0.2.1.length a0.2.2.1.2) b0.2.1∧Rw 6 w' O' 123 (.slice a0.2.2.2.1 b0.2.2.length a0.2.2.2.2) b0.2.2∧Rw 13 w' O' 61 (.slice f0.1 l0.length f0.2) l0)) ?_ ?_
 ·
  refine AR (Ct (σ:=(List Opr)) (X:=(Option Addr×Nat)) (x0.ops.length) h4 rfl k3 (fun (l0:(List Opr)) (f0:(Option Addr×Nat))=>[(2,(.pointer (some ⟨i2,0,none⟩))),(3,(.pointer (some ⟨a0.1,0,none⟩))),(20,(.slice w2 x0.ops.length x2))]) _ (fun l0 f0 w'=>∃ O':Lab,Bs w A w' O'∧Lc 3 w' O' i2 26 [(.slice none 0 0),(.slice none 0 0),(.slice none 0 0),(.slice none 0 0)]∧Lc 7 w' O' a0.1 26 [(.slice a0.2.1.1 b0.1.length a0.2.1.2),(.slice a0.2.2.1.1 b0.2.1.length a0.2.2.1.2),(.slice a0.2.2.2.1 b0.2.2.length a0.2.2.2.2),(.slice f0.1 l0.length f0.2)]∧Rw 4 w' O' 3 (.slice a0.2.1.1 b0.1.length a0.2.1.2) b0.1∧Rw 5 w' O' 3 (.slice a0.2.2.1.1 b0.2.1.length a0.2.2.1.2) b0.2.1∧Rw 6 w' O' 123 (.slice a0.2.2.2.1 b0.2.2.length a0.2.2.2.2) b0.2.2∧Rw 13 w' O' 61 (.slice f0.1 l0.length f0.2) l0∧Vb w' (Fr 0 w' O') (.slice w2 x0.ops.length x2) x0.ops) _ (none,0) ⟨j6,hB,n0,s0,c1,d1,e1,(Rw.nil 13 (by decide)),t0⟩ ⟨rfl,rfl,rfl,rfl,rfl,trivial⟩ (fun _ _=>⟨rfl,rfl⟩) (fun _ _=>⟨rfl,rfl,trivial⟩) (fun _ _ _ ⟨O',hB,n0,s0,c1,d1,e1,e0,t0⟩=>⟨O',hB,n0,s0,c1,d1,e1,e0⟩) ⟨rfl,rfl,rfl⟩ ⟨rfl,rfl⟩ ?_)
  rintro m3 c0 l0 f0 b9 d8 g3 ⟨k6,hB,n0,s0,c1,d1,e1,e0,t0⟩ m0 j5 k5
  have rk156:inI64 (m3:Int):=rngK g3 k3
  refine Al (Aj ?_)
  obtain ⟨d9,e9,e8,i4,j4,k4,f9,g9,rfl,a3,u0,l6,m6⟩:=t0.elem' g3
  obtain ⟨n6,o6,rfl⟩:=a3.form
  obtain ⟨a2,b2,rfl⟩:=u0.form
  refine Bw (hA:=i4) (hj:=rfl) (hlt:=j4) rfl rfl rfl ?_
  refine Bz (hl:=rfl) (hc:=k4) rfl rfl ?_
  refine Db 8 k6 rfl fun c2 h9 l4 h0 d0=>?_
  refine Bt d0 rfl rfl rfl (Ci rfl) (allOne rfl) fun p6 i0 d0=>?_
  replace d0:Lc 8 p6 l4 c2 61 [(.string c0.name),(.int .i64 c0.cost),(.slice n6 c0.pre.length o6),(.slice a2 c0.effs.length b2)]:=d0
  refine o_z ?_
  refine Al (Aj (AG rfl rfl (AD (hc:=Blk.cell (i:=2) (d0.1) rfl) rfl rfl ?_)))
  obtain ⟨f1,q6,m0⟩:=bs m0
  replace a3:=(a3.st h0).st i0
  refine Ck 9 (by decide) (O:=l4) (Bu Fr.lt a3 q6) rfl rfl fun d2 e2 i9 m4 j0 k0=>?_
  refine AG rfl rfl ?_
  replace d0:=d0.st j0
  refine Bt d0 rfl rfl rfl (Ci rfl) (allOne rfl) fun r6 g0 d0=>?_
  replace d0:Lc 8 r6 m4 c2 61 [(.string c0.name),(.int .i64 c0.cost),(.slice d2 f1.length e2),(.slice a2 c0.effs.length b2)]:=d0
  refine o_z ?_
  refine Al (Aj (An rfl rfl (o_z ?_)))
  refine Al (Al (Aj (AG rfl rfl (AD (hc:=Blk.cell (i:=3) (d0.1) rfl) rfl rfl ?_))))
  refine AQ rfl rfl ?_
  replace u0:=(((u0.st h0).st i0).st j0).st g0
  have n3:c0.effs.length≤9223372036854775807:=Nat.le_trans u0.len.2.1 u0.len.2.2
  have j9:inI64 (c0.effs.length:Int):=rngNat n3
  refine Am rfl rfl (o_z ?_)
  obtain ⟨o3,n4,m0⟩:=bs m0
  refine AN (aft o3 (fun (o1:(List Eff)) (v0:(Option Addr×Nat))=>[(2,(.pointer (some ⟨i2,0,none⟩))),(3,(.pointer (some ⟨a0.1,0,none⟩))),(5,(.pointer (some ⟨c2,0,none⟩))),(6,(.slice v0.1 o1.length v0.2)),(20,(.slice w2 x0.ops.length x2)),(21,(.int .i64 (x0.ops.length:Int))),(22,(.int .i64 (m3:Int)))]) (fun o1 v0 w'=>∃ O':Lab,Bs w A w' O'∧Lc 3 w' O' i2 26 [(.slice none 0 0),(.slice none 0 0),(.slice none 0 0),(.slice none 0 0)]∧Lc 7 w' O' a0.1 26 [(.slice a0.2.1.1 b0.1.length a0.2.1.2),(.slice a0.2.2.1.1 b0.2.1.length a0.2.2.1.2),(.slice a0.2.2.2.1 b0.2.2.length a0.2.2.2.2),(.slice f0.1 l0.length f0.2)]∧Rw 4 w' O' 3 (.slice a0.2.1.1 b0.1.length a0.2.1.2) b0.1∧Rw 5 w' O' 3 (.slice a0.2.2.1.1 b0.2.1.length a0.2.2.1.2) b0.2.1∧Rw 6 w' O' 123 (.slice a0.2.2.2.1 b0.2.2.length a0.2.2.2.2) b0.2.2∧Rw 13 w' O' 61 (.slice f0.1 l0.length f0.2) l0∧Lc 8 w' O' c2 61 [(.string c0.name),(.int .i64 c0.cost),(.slice d2 f1.length e2),(.slice a2 c0.effs.length b2)]∧Rw 9 w' O' 123 (.slice d2 f1.length e2) f1∧Vb w' (Fr 0 w' O') (.slice a2 c0.effs.length b2) c0.effs∧Rw 12 w' O' 76 (.slice v0.1 o1.length v0.2) o1∧Vb w' (Fr 0 w' O') (.slice w2 x0.ops.length x2) x0.ops)) ?_ ?_
  ·
   refine AR ?_
   replace hB:=(((hB.st h0).st i0).st j0).st g0
   replace t0:=(((t0.st h0).st i0).st j0).st g0
   replace n0:=(((n0.st h0).st i0).st j0).st g0
   replace s0:=(((s0.st h0).st i0).st j0).st g0
   replace c1:=(((c1.st h0).st i0).st j0).st g0
   replace d1:=(((d1.st h0).st i0).st j0).st g0
   replace e1:=(((e1.st h0).st i0).st j0).st g0
   replace e0:=(((e0.st h0).st i0).st j0).st g0
   replace k0:=k0.st g0
   refine Ct (σ:=(List Eff)) (X:=(Option Addr×Nat)) (c0.effs.length) n4 rfl n3 (fun (o1:(List Eff)) (v0:(Option Addr×Nat))=>[(2,(.pointer (some ⟨i2,0,none⟩))),(3,(.pointer (some ⟨a0.1,0,none⟩))),(5,(.pointer (some ⟨c2,0,none⟩))),(6,(.slice v0.1 o1.length v0.2)),(20,(.slice w2 x0.ops.length x2)),(21,(.int .i64 (x0.ops.length:Int))),(22,(.int .i64 (m3:Int))),(31,(.slice a2 c0.effs.length b2))]) _ (fun o1 v0 w'=>∃ O':Lab,Bs w A w' O'∧Lc 3 w' O' i2 26 [(.slice none 0 0),(.slice none 0 0),(.slice none 0 0),(.slice none 0 0)]∧Lc 7 w' O' a0.1 26 [(.slice a0.2.1.1 b0.1.length a0.2.1.2),(.slice a0.2.2.1.1 b0.2.1.length a0.2.2.1.2),(.slice a0.2.2.2.1 b0.2.2.length a0.2.2.2.2),(.slice f0.1 l0.length f0.2)]∧Rw 4 w' O' 3 (.slice a0.2.1.1 b0.1.length a0.2.1.2) b0.1∧Rw 5 w' O' 3 (.slice a0.2.2.1.1 b0.2.1.length a0.2.2.1.2) b0.2.1∧Rw 6 w' O' 123 (.slice a0.2.2.2.1 b0.2.2.length a0.2.2.2.2) b0.2.2∧Rw 13 w' O' 61 (.slice f0.1 l0.length f0.2) l0∧Lc 8 w' O' c2 61 [(.string c0.name),(.int .i64 c0.cost),(.slice d2 f1.length e2),(.slice a2 c0.effs.length b2)]∧Rw 9 w' O' 123 (.slice d2 f1.length e2) f1∧Vb w' (Fr 0 w' O') (.slice a2 c0.effs.length b2) c0.effs∧Rw 12 w' O' 76 (.slice v0.1 o1.length v0.2) o1∧Vb w' (Fr 0 w' O') (.slice w2 x0.ops.length x2) x0.ops) _ (none,0) ⟨m4,hB,n0,s0,c1,d1,e1,e0,d0,k0,u0,(Rw.nil 12 (by decide)),t0⟩ ⟨rfl,rfl,rfl,rfl,rfl,rfl,rfl,rfl,rfl,rfl,trivial⟩ (fun _ _=>⟨rfl,rfl⟩) (fun _ _=>⟨rfl,rfl,rfl,rfl,rfl,rfl,rfl,trivial⟩) (fun _ _ _ ⟨O',hB,n0,s0,c1,d1,e1,e0,d0,k0,u0,g1,t0⟩=>⟨O',hB,n0,s0,c1,d1,e1,e0,d0,k0,u0,g1,t0⟩) ⟨rfl,rfl,rfl⟩ ⟨rfl,rfl⟩ ?_
   rintro s6 h1 o1 v0 k9 f8 h3 ⟨t6,hB,n0,s0,c1,d1,e1,e0,d0,k0,u0,g1,t0⟩ x1 l5 m5
   have rk213:inI64 (s6:Int):=rngK h3 n3
   refine Al (Aj ?_)
   obtain ⟨l9,m9,g8,o4,p4,q4,n9,rfl,b3,u6,w6⟩:=u0.elem' h3
   obtain ⟨x6,y6,rfl⟩:=b3.form
   refine Bw (hA:=o4) (hj:=rfl) (hlt:=p4) rfl rfl rfl ?_
   refine Bz (hl:=rfl) (hc:=q4) rfl rfl ?_
   refine Db 10 t6 rfl fun r4 o9 s4 o0 w0=>?_
   refine Bt w0 rfl rfl rfl (Ci rfl) (allOne rfl) fun z6 p0 w0=>?_
   replace w0:Lc 10 z6 s4 r4 76 [(.slice x6 h1.cond.length y6),(.int .i64 h1.var),(.int .i64 h1.val)]:=w0
   refine o_z ?_
   refine Al (Aj (AG rfl rfl (AD (hc:=Blk.cell (i:=0) (w0.1) rfl) rfl rfl ?_)))
   obtain ⟨c3,a7,x1⟩:=bs x1
   replace b3:=(b3.st o0).st p0
   refine Ck 11 (by decide) (O:=s4) (Bu Fr.lt b3 a7) rfl rfl fun t4 u4 p9 b7 q0 l2=>?_
   refine AG rfl rfl ?_
   replace w0:=w0.st q0
   refine Bt w0 rfl rfl rfl (Ci rfl) (allOne rfl) fun c7 r0 w0=>?_
   replace w0:Lc 10 c7 b7 r4 76 [(.slice t4 c3.length u4),(.int .i64 h1.var),(.int .i64 h1.val)]:=w0
   refine o_z ?_
   refine Aj (Am rfl rfl (Bz (hl:=rfl) (hc:=(w0.1).cellsAt) rfl rfl ?_))
   replace l2:=l2.st r0
   obtain ⟨q9,y0,l2⟩:=l2.freeze
   obtain ⟨r9,p3,x1⟩:=bs x1
   obtain ⟨p3,d7,e7⟩:=Cz p3
   replace g1:=((((g1.st o0).st p0).st q0).st r0).st y0
   refine Fg rfl (a:=(⟨c3,h1.var,h1.val⟩:Eff)) g1 (Vb.ofAgg (cs:=[(.slice t4 c3.length u4),(.int .i64 h1.var),(.int .i64 h1.val)]) (x:=(⟨c3,h1.var,h1.val⟩:Eff)) rfl ⟨_,rfl,l2,u6,w6⟩) (fun _=>rfl) rfl (by decide) (by decide) d7 e7 ⟨rfl,rfl⟩ fun s9 f7 g7 t9 u9 i1 w4=>?_
   rw [← p3] at w4 ⊢
   refine An rfl rfl (o_z ?_)
   obtain rfl:=sm x1
   exact show Exists _ from ⟨_,(f7,g7),rfl,⟨rfl,rfl,rfl,rfl,rfl,rfl,rfl,rfl,rfl,rfl,trivial⟩,_,(((((hB.st o0).st p0).st q0).st r0).st y0).st i1,(((((n0.st o0).st p0).st q0).st r0).st y0).st i1,(((((s0.st o0).st p0).st q0).st r0).st y0).st i1,(((((c1.st o0).st p0).st q0).st r0).st y0).st i1,(((((d1.st o0).st p0).st q0).st r0).st y0).st i1,(((((e1.st o0).st p0).st q0).st r0).st y0).st i1,(((((e0.st o0).st p0).st q0).st r0).st y0).st i1,(((((d0.st o0).st p0).st q0).st r0).st y0).st i1,(((((k0.st o0).st p0).st q0).st r0).st y0).st i1,(((((u0.st o0).st p0).st q0).st r0).st y0).st i1,w4,(((((t0.st o0).st p0).st q0).st r0).st y0).st i1⟩
  replace hB:=(((hB.st h0).st i0).st j0).st g0
  replace t0:=(((t0.st h0).st i0).st j0).st g0
  replace n0:=(((n0.st h0).st i0).st j0).st g0
  replace s0:=(((s0.st h0).st i0).st j0).st g0
  replace c1:=(((c1.st h0).st i0).st j0).st g0
  replace d1:=(((d1.st h0).st i0).st j0).st g0
  replace e1:=(((e1.st h0).st i0).st j0).st g0
  replace e0:=(((e0.st h0).st i0).st j0).st g0
  replace k0:=k0.st g0
  rintro v9 w9 ⟨d3,e3,rfl,x4,i7,hB,n0,s0,c1,d1,e1,e0,d0,k0,u0,g1,t0⟩
  replace m0:=BA m0
  refine AO _ x4 ?_
  refine Al (Aj (Am rfl rfl (AG rfl rfl (Bt d0 rfl rfl rfl (Ci rfl) (allOne rfl) fun j7 p1 d0=>?_))))
  replace d0:Lc 8 j7 i7 c2 61 [(.string c0.name),(.int .i64 c0.cost),(.slice d2 f1.length e2),(.slice e3.1 d3.length e3.2)]:=d0
  refine o_z ?_
  refine Aj (AG rfl rfl ?_)
  replace s0:=s0.st p1
  refine AD (hc:=Blk.cell (i:=3) (s0.1) rfl) rfl rfl ?_
  refine Bz (hl:=rfl) (hc:=(d0.1).cellsAt) rfl rfl ?_
  replace k0:=k0.st p1
  obtain ⟨x9,s1,k0⟩:=k0.freeze
  replace g1:=(g1.st p1).st s1
  obtain ⟨y9,t1,g1⟩:=g1.freeze
  obtain ⟨k7,q3,m0⟩:=bs m0
  obtain ⟨q3,l7,m7⟩:=Cz q3
  replace e0:=((e0.st p1).st s1).st t1
  replace k0:=k0.st t1
  refine Fg rfl (a:=(⟨c0.name,c0.cost,f1,d3⟩:Opr)) e0 (Vb.ofAgg (cs:=[(.string c0.name),(.int .i64 c0.cost),(.slice d2 f1.length e2),(.slice e3.1 d3.length e3.2)]) (x:=(⟨c0.name,c0.cost,f1,d3⟩:Opr)) rfl ⟨_,_,rfl,k0,g1,l6,m6⟩) (fun _=>rfl) rfl (by decide) (by decide) l7 m7 ⟨rfl,rfl⟩ fun z9 y4 z4 aA n7 f2 a5=>?_
  rw [← q3] at a5 ⊢
  refine AG rfl rfl ?_
  replace s0:=((s0.st s1).st t1).st f2
  refine Bt s0 rfl rfl rfl (Ci rfl) (allOne rfl) fun o7 g2 s0=>?_
  replace s0:Lc 7 o7 n7 a0.1 26 [(.slice a0.2.1.1 b0.1.length a0.2.1.2),(.slice a0.2.2.1.1 b0.2.1.length a0.2.2.1.2),(.slice a0.2.2.2.1 b0.2.2.length a0.2.2.2.2),(.slice y4 k7.length z4)]:=s0
  refine o_z ?_
  obtain rfl:=sm m0
  exact show Exists _ from ⟨_,(y4,z4),rfl,⟨rfl,rfl,rfl,rfl,rfl,trivial⟩,_,((((hB.st p1).st s1).st t1).st f2).st g2,((((n0.st p1).st s1).st t1).st f2).st g2,s0,((((c1.st p1).st s1).st t1).st f2).st g2,((((d1.st p1).st s1).st t1).st f2).st g2,((((e1.st p1).st s1).st t1).st f2).st g2,a5.st g2,((((t0.st p1).st s1).st t1).st f2).st g2⟩
 rintro bA cA ⟨f3,h2,rfl,b5,p7,hB,n0,s0,c1,d1,e1,e0⟩
 replace hm:=BA hm
 refine AO _ b5 ?_
 refine Al (Aj (Bz (hl:=rfl) (hc:=(s0.1).cellsAt) rfl rfl ?_))
 refine Bt n0 rfl rfl rfl (Ci rfl) (allOne rfl) fun c5 m2 n0=>?_
 replace n0:Lc 3 c5 p7 i2 26 [(.slice a0.2.1.1 b0.1.length a0.2.1.2),(.slice a0.2.2.1.1 b0.2.1.length a0.2.2.1.2),(.slice a0.2.2.2.1 b0.2.2.length a0.2.2.2.2),(.slice h2.1 f3.length h2.2)]:=n0
 refine o_z ?_
 refine AF ?_
 replace c1:=c1.st m2
 obtain ⟨dA,n2,c1⟩:=c1.freeze
 replace d1:=(d1.st m2).st n2
 obtain ⟨eA,o2,d1⟩:=d1.freeze
 replace e1:=((e1.st m2).st n2).st o2
 obtain ⟨fA,p2,e1⟩:=e1.freeze
 replace e0:=(((e0.st m2).st n2).st o2).st p2
 obtain ⟨q7,q2,e0⟩:=e0.freeze
 obtain rfl:=sm hm
 replace hB:=((((hB.st m2).st n2).st o2).st p2).st q2
 replace n0:=(((n0.st n2).st o2).st p2).st q2
 replace c1:=((c1.st o2).st p2).st q2
 replace d1:=(d1.st p2).st q2
 replace e1:=e1.st q2
 exact ret1v rfl (Hl (cs:=[(.slice a0.2.1.1 b0.1.length a0.2.1.2),(.slice a0.2.2.1.1 b0.2.1.length a0.2.2.1.2),(.slice a0.2.2.2.1 b0.2.2.length a0.2.2.2.2),(.slice h2.1 f3.length h2.2)]) rfl rfl n0.1.cellsAt) ⟨hB.ext,(Vb.mono (F:=Fr 0 c5 q7) (Vb.ofAgg (cs:=[(.slice a0.2.1.1 b0.1.length a0.2.1.2),(.slice a0.2.2.1.1 b0.2.1.length a0.2.2.1.2),(.slice a0.2.2.2.1 b0.2.2.length a0.2.2.2.2),(.slice h2.1 f3.length h2.2)]) (x:=(⟨b0.1,b0.2.1,b0.2.2,f3⟩:Tsk)) rfl ⟨_,_,_,_,rfl,c1,d1,e1,e0⟩) hB.out)⟩
noncomputable def BN (x0:List (List Arc)) (x1:List Int):Option ((List Int)×(List Int)) :=
  bnd (mkI 8 (0:Int) (x0.length:Int)) fun u7=>bnd (mkI 8 (0:Int) (x0.length:Int)) fun u9=>bnd (some (u7,u9):Option ((List Int)×(List Int))) fun y11=>bnd (rngN (ρ:=(List Int)×(List Int)) (fun (k77:Nat) (s75:(List Int)×(List Int))=>bnd (s75.1[k77]?) fun a104=>bnd (s75.2[k77]?) fun a116=>some (.next ((s75.1.set k77 1125899906842624),(s75.2.set k77 1125899906842624)))) y11.1.length (y11.1,y11.2)) fun res73=>fin res73 fun (s132:(List Int)×(List Int))=>bnd (DD) fun q134=>bnd q134 fun o144=>bnd (rng (ρ:=(List Int)×(List Int)) (fun (k151:Nat) (a152:Int) (s149:(List Int)×(List Int)×Que)=>bnd (atI s149.1 a152) fun a180=>bnd (atI s149.2.1 a152) fun a194=>bnd (BG s149.2.2 0 0 a152) fun q208=>some (.next ((s149.1.set (a152:Int).toNat 0),(s149.2.1.set (a152:Int).toNat 0),q208.2))) x1 0 (s132.1,s132.2,o144)) fun res147=>fin res147 fun (s222:(List Int)×(List Int)×Que)=>bnd (lop (ρ:=(List Int)×(List Int)) (fun (s226:(List Int)×(List Int)×Que)=>bnd (CB s226.2.2) fun q249=>if 0 < q249 then (bnd (Cl s226.2.2) fun q260=>if q260.2.2.2.1.n≠0 then (some (.brk (s226.1,s226.2.1,q260.2.2.2.2))) else (bnd (bnd (atI s226.1 q260.2.2.1) fun a285=>if q260.1≠a285 then (some true) else (bnd (atI s226.2.1 q260.2.2.1) fun a298=>if q260.2.1≠a298 then (some true) else (some false)):Option Bool) fun y281=>if y281=true then (some (.next (s226.1,s226.2.1,q260.2.2.2.2))) else (bnd (atI x0 q260.2.2.1) fun a316=>bnd (rng (ρ:=Ctl ((List Int)×(List Int)×Que) ((List Int)×(List Int))) (fun (k337:Nat) (a338:Arc) (s335:(List Int)×(List Int)×Que)=>bnd (chkI (q260.1 + a338.weight)) fun n375=>bnd (chkI (q260.2.1 + 1)) fun n378=>bnd (bnd (atI s335.1 a338.dst) fun a385=>if a385 < n375 then (some true) else (bnd (atI s335.1 a338.dst) fun a398=>if n375=a398 then (bnd (atI s335.2.1 a338.dst) fun a411=>if a411≤n378 then (some true) else (some false)) else (some false)):Option Bool) fun y381=>if y381=true then (some (.next (s335.1,s335.2.1,s335.2.2))) else (bnd (atI s335.1 a338.dst) fun a429=>bnd (atI s335.2.1 a338.dst) fun a443=>bnd (BG s335.2.2 n375 n378 a338.dst) fun q457=>if q457.1.n≠0 then (bnd (Dt x0 (s335.1.set (a338.dst:Int).toNat n375) (s335.2.1.set (a338.dst:Int).toNat n378)) fun q472=>some (.ret (.ret (q472.1,q472.2)))) else (some (.next ((s335.1.set (a338.dst:Int).toNat n375),(s335.2.1.set (a338.dst:Int).toNat n378),q457.2))))) a316 0 (s226.1,s226.2.1,q260.2.2.2.2)) fun res333=>fin res333 fun (s491:(List Int)×(List Int)×Que)=>some (.next (s491.1,s491.2.1,s491.2.2))))) else (some (.brk (s226.1,s226.2.1,s226.2.2)))) (s222.1,s222.2.1,s222.2.2)) fun res224=>fin res224 fun (s497:(List Int)×(List Int)×Que)=>some (s497.1,s497.2.1)
theorem FR {w:World} {A:Nat→Prop} (hA:∀ k,A k→k < w.heap.size) {vx0:Value} {x0:List (List Arc)} (f0:Vb w A vx0 x0) {vx1:Value} {x1:List Int} (y0:Vb w A vx1 x1) {r:(List Int)×(List Int)} (hm:BN x0 x1=some r) :
    Fn Tryz.prog 60 [vx0,vx1] w fun v w'=>Ext w w'∧T2 w' (upA A w w') v r:=by
 obtain ⟨O,hB,z8⟩:=enter hA
 replace f0:=f0.mono z8
 obtain ⟨A3,c4,rfl⟩:=f0.form
 replace y0:=y0.mono z8
 obtain ⟨A5,c6,rfl⟩:=y0.form
 refine AI Tryz.func60 rfl Tryz.ntmps60 rfl ?_
 unfold BN at hm
 refine Al (Aj (An rfl rfl (An rfl rfl (o_z ?_))))
 refine Al ?_
 obtain ⟨u7,e8,hm⟩:=bs hm
 obtain ⟨u9,a9,hm⟩:=bs hm
 obtain ⟨j0,f3,hm⟩:=bs hm
 refine AN (fun l' w'=>∃ (a0:(Option Addr×Nat)×(Option Addr×Nat)) (O':Lab),subs l' [(0,(.slice A3 x0.length c4)),(1,(.slice A5 x1.length c6)),(6,(.slice a0.1.1 j0.1.length a0.1.2)),(7,(.slice a0.2.1 j0.2.length a0.2.2))]∧Bs w A w' O'∧Vb w' (Fr 0 w' O') (.slice A3 x0.length c4) x0∧Vb w' (Fr 0 w' O') (.slice A5 x1.length c6) x1∧Rw 2 w' O' 3 (.slice a0.1.1 j0.1.length a0.1.2) j0.1∧Rw 3 w' O' 3 (.slice a0.2.1 j0.2.length a0.2.2) j0.2) ?_ ?_
 ·
  refine BK [] O ?_
  refine AZ (fuel:=4) [] [(0,true),(1,true),(3,true),(4,true)] (by kernel_rfl) rfl ?_
  refine AJ rfl rfl rfl (Jd rfl rfl rfl ?_)
  have fA:x0.length≤9223372036854775807:=Nat.le_trans f0.len.2.1 f0.len.2.2
  have iG:inI64 (x0.length:Int):=rngNat fA
  refine AJ rfl rfl rfl (Jd rfl rfl rfl ?_)
  have gA:x0.length≤9223372036854775807:=Nat.le_trans f0.len.2.1 f0.len.2.2
  have jG:inI64 (x0.length:Int):=rngNat gA
  refine AL ?_
  refine JH (i:=2) (j:=5) (by kernel_rfl) rfl rfl ?_ ?_
  ·
   obtain ⟨iA,jA,kA,lA,mA⟩:=DU e8
   refine Gr 2 (by decide) O (z0:=(0:Int)) rfl rfl rfl rfl rfl jA (vInt (show inI64 0 from by decide)) kA lA rfl fun nA kG oA s5 b9=>?_
   rw [← mA] at b9 ⊢
   have hZ:=s5.lst [] (fun _ h=>h.elim)
   refine BF [] hZ (by kernel_rfl) ?_
   refine AZ (fuel:=2) [] [(6,true)] (by kernel_rfl) rfl ?_
   refine CX rfl rfl rfl (AL ?_)
   refine Bg (i:=5) (by kernel_rfl) rfl ?_
   obtain ⟨pA,qA,rA,sA,tA⟩:=DU a9
   refine Gr 3 (by decide) oA (z0:=(0:Int)) rfl rfl rfl rfl rfl qA (vInt (show inI64 0 from by decide)) rA sA rfl fun uA lG mG g3 c9=>?_
   rw [← tA] at c9 ⊢
   have hZ:=g3.lst [] (fun _ h=>h.elim)
   refine BF [] hZ (by kernel_rfl) ?_
   refine AZ (fuel:=0) [] [(7,true)] (by kernel_rfl) rfl ?_
   refine CX rfl rfl rfl (AL ?_)
   refine Co (by kernel_rfl) ?_
   obtain rfl:=sm f3
   exact ⟨(((some ⟨nA,0,none⟩),iA),((some ⟨uA,0,none⟩),pA)),_,⟨rfl,rfl,rfl,rfl,trivial⟩,(hB.st s5).st g3,(f0.st s5).st g3,(y0.st s5).st g3,b9.st g3,c9⟩
  obtain ⟨vA,wA,xA,yA,zA⟩:=DU a9
  refine Gr 3 (by decide) O (z0:=(0:Int)) rfl rfl rfl rfl rfl wA (vInt (show inI64 0 from by decide)) xA yA rfl fun aB nG bB t5 d9=>?_
  rw [← zA] at d9 ⊢
  have hZ:=t5.lst [] (fun _ h=>h.elim)
  refine BF [] hZ (by kernel_rfl) ?_
  refine Bg (i:=2) (by kernel_rfl) rfl ?_
  obtain ⟨cB,dB,eB,fB,gB⟩:=DU e8
  refine Gr 2 (by decide) bB (z0:=(0:Int)) rfl rfl rfl rfl rfl dB (vInt (show inI64 0 from by decide)) eB fB rfl fun iB oG pG h3 e9=>?_
  rw [← gB] at e9 ⊢
  have hZ:=h3.lst [] (fun _ h=>h.elim)
  refine BF [] hZ (by kernel_rfl) ?_
  refine AZ (fuel:=0) [] [(6,true),(7,true)] (by kernel_rfl) rfl ?_
  refine CX rfl rfl rfl (CX rfl rfl rfl (AL ?_))
  refine Co (by kernel_rfl) ?_
  obtain rfl:=sm f3
  exact ⟨(((some ⟨iB,0,none⟩),cB),((some ⟨aB,0,none⟩),vA)),_,⟨rfl,rfl,rfl,rfl,trivial⟩,(hB.st t5).st h3,(f0.st t5).st h3,(y0.st t5).st h3,e9,d9.st h3⟩
 rintro qG rG ⟨a0,jB,y5,hB,f0,y0,z5,kB⟩
 refine AO _ y5 ?_
 refine Al (Al (Aj (Am rfl rfl (AQ rfl rfl ?_))))
 have a6:j0.1.length≤9223372036854775807:=Nat.le_trans z5.len.2.1 z5.len.2.2
 have sG:inI64 (j0.1.length:Int):=rngNat a6
 refine Am rfl rfl (o_z ?_)
 obtain ⟨i3,b6,hm⟩:=bs hm
 refine AN (aft i3 (fun (d2:(List Int)×(List Int)) (u5:Unit)=>[(0,(.slice A3 x0.length c4)),(1,(.slice A5 x1.length c6)),(6,(.slice a0.1.1 j0.1.length a0.1.2)),(7,(.slice a0.2.1 j0.2.length a0.2.2))]) (fun d2 u5 w'=>∃ O':Lab,Bs w A w' O'∧Vb w' (Fr 0 w' O') (.slice A3 x0.length c4) x0∧Vb w' (Fr 0 w' O') (.slice A5 x1.length c6) x1∧Rw 2 w' O' 3 (.slice a0.1.1 j0.1.length a0.1.2) d2.1∧Rw 3 w' O' 3 (.slice a0.2.1 j0.2.length a0.2.2) d2.2)) ?_ ?_
 ·
  refine AR (NF (σ:=(List Int)×(List Int)) (X:=Unit) (j0.1.length) b6 a6 (fun (d2:(List Int)×(List Int)) (u5:Unit)=>[(0,(.slice A3 x0.length c4)),(1,(.slice A5 x1.length c6)),(6,(.slice a0.1.1 j0.1.length a0.1.2)),(7,(.slice a0.2.1 j0.2.length a0.2.2))]) _ (fun d2 u5 w'=>∃ O':Lab,Bs w A w' O'∧Vb w' (Fr 0 w' O') (.slice A3 x0.length c4) x0∧Vb w' (Fr 0 w' O') (.slice A5 x1.length c6) x1∧Rw 2 w' O' 3 (.slice a0.1.1 j0.1.length a0.1.2) d2.1∧Rw 3 w' O' 3 (.slice a0.2.1 j0.2.length a0.2.2) d2.2) _ () ⟨jB,hB,f0,y0,z5,kB⟩ ⟨rfl,rfl,rfl,rfl,rfl,rfl,trivial⟩ (fun _ _=>⟨rfl,rfl⟩) (fun _ _=>⟨rfl,rfl,rfl,rfl,trivial⟩) (fun _ _ _ ⟨O',hB,f0,y0,a1,u0⟩=>⟨O',hB,f0,y0,a1,u0⟩) ⟨rfl,rfl,rfl⟩ ⟨rfl,rfl⟩ ?_)
  rintro lB d2 u5 tG mB d6 ⟨uG,hB,f0,y0,a1,u0⟩ p1 e6 f6
  have rk77:inI64 (lB:Int):=rngKN d6 a6
  refine Al (Aj (Am rfl rfl (An rfl rfl (o_z ?_))))
  refine Aj (Am rfl rfl (Am rfl rfl (Am rfl rfl (Am rfl rfl ?_))))
  obtain ⟨nB,j3,p1⟩:=bs p1
  obtain ⟨oB,pB,f9,e2,k3,g9,rfl,qB⟩:=a1.elem j3
  refine Bw (hA:=e2) (hj:=rfl) (hlt:=k3) rfl rfl rfl ?_
  refine Ds rfl a1 (a:=1125899906842624) (vInt (show inI64 (1125899906842624) from by decide)) e2 rfl rfl (AC j3) fun rB t1 a1=>?_
  obtain ⟨sB,l3,p1⟩:=bs p1
  replace u0:=u0.st t1
  obtain ⟨tB,uB,h9,f2,m3,i9,rfl,vB⟩:=u0.elem l3
  refine Bw (hA:=f2) (hj:=rfl) (hlt:=m3) rfl rfl rfl ?_
  refine Ds rfl u0 (a:=1125899906842624) (vInt (show inI64 (1125899906842624) from by decide)) f2 rfl rfl (AC l3) fun wB u1 u0=>?_
  refine o_z ?_
  obtain rfl:=sm p1
  exact show Exists _ from ⟨_,(),rfl,⟨rfl,rfl,rfl,rfl,rfl,rfl,trivial⟩,_,(hB.st t1).st u1,(f0.st t1).st u1,(y0.st t1).st u1,a1.st u1,u0⟩
 rintro xB yB ⟨zB,aC,rfl,n3,g6,hB,f0,y0,a1,u0⟩
 replace hm:=BA hm
 refine AO _ n3 ?_
 refine Al (Aj ?_)
 obtain ⟨bC,h6,hm⟩:=bs hm
 refine BB (O:=g6) (KZ 4 (by decide) h6) rfl rfl fun cC dC i6 j1 m2=>?_
 refine An rfl rfl (o_z ?_)
 refine Al (Al (Aj (Am rfl rfl (AQ rfl rfl ?_))))
 replace y0:=y0.st j1
 have n2:x1.length≤9223372036854775807:=Nat.le_trans y0.len.2.1 y0.len.2.2
 have eC:inI64 (x1.length:Int):=rngNat n2
 refine Am rfl rfl (o_z ?_)
 obtain ⟨fC,j6,hm⟩:=bs hm
 rw [j6] at m2
 obtain ⟨s0,rfl⟩:=Ob.ptr m2
 obtain ⟨o2,o3,hm⟩:=bs hm
 refine AN (aft o2 (fun (b1:(List Int)×(List Int)×Que) (v1:Unit)=>[(0,(.slice A3 x0.length c4)),(6,(.slice a0.1.1 j0.1.length a0.1.2)),(7,(.slice a0.2.1 j0.2.length a0.2.2)),(9,(.pointer (some ⟨s0,0,none⟩)))]) (fun b1 v1 w'=>∃ O':Lab,Bs w A w' O'∧Vb w' (Fr 0 w' O') (.slice A3 x0.length c4) x0∧Rw 2 w' O' 3 (.slice a0.1.1 j0.1.length a0.1.2) b1.1∧Rw 3 w' O' 3 (.slice a0.2.1 j0.2.length a0.2.2) b1.2.1∧Ob 4 w' O' (.pointer (some ⟨s0,0,none⟩)) b1.2.2)) ?_ ?_
 ·
  refine AR ?_
  replace hB:=hB.st j1
  replace f0:=f0.st j1
  replace a1:=a1.st j1
  replace u0:=u0.st j1
  refine Ct (σ:=(List Int)×(List Int)×Que) (X:=Unit) (x1.length) o3 rfl n2 (fun (b1:(List Int)×(List Int)×Que) (v1:Unit)=>[(0,(.slice A3 x0.length c4)),(6,(.slice a0.1.1 j0.1.length a0.1.2)),(7,(.slice a0.2.1 j0.2.length a0.2.2)),(9,(.pointer (some ⟨s0,0,none⟩))),(39,(.slice A5 x1.length c6))]) _ (fun b1 v1 w'=>∃ O':Lab,Bs w A w' O'∧Vb w' (Fr 0 w' O') (.slice A3 x0.length c4) x0∧Rw 2 w' O' 3 (.slice a0.1.1 j0.1.length a0.1.2) b1.1∧Rw 3 w' O' 3 (.slice a0.2.1 j0.2.length a0.2.2) b1.2.1∧Ob 4 w' O' (.pointer (some ⟨s0,0,none⟩)) b1.2.2∧Vb w' (Fr 0 w' O') (.slice A5 x1.length c6) x1) _ () ⟨i6,hB,f0,a1,u0,m2,y0⟩ ⟨rfl,rfl,rfl,rfl,rfl,rfl,rfl,trivial⟩ (fun _ _=>⟨rfl,rfl⟩) (fun _ _=>⟨rfl,rfl,rfl,rfl,trivial⟩) (fun _ _ _ ⟨O',hB,f0,h1,c1,k1,y0⟩=>⟨O',hB,f0,h1,c1,k1⟩) ⟨rfl,rfl,rfl⟩ ⟨rfl,rfl⟩ ?_
  rintro k6 gC b1 v1 hC j9 g2 ⟨l6,hB,f0,h1,c1,k1,y0⟩ v0 v5 w5
  have rk151:inI64 (k6:Int):=rngK g2 n2
  refine Al (Aj ?_)
  obtain ⟨iC,jC,k9,p3,q3,r3,rfl,m6⟩:=y0.elem' g2
  refine Bw (hA:=p3) (hj:=rfl) (hlt:=q3) rfl rfl rfl ?_
  refine AD (hc:=cat0 r3) rfl rfl ?_
  refine An rfl rfl (o_z ?_)
  refine Al (Aj (Am rfl rfl (Am rfl rfl (Am rfl rfl (Am rfl rfl ?_)))))
  obtain ⟨kC,n6,v0⟩:=bs v0
  obtain ⟨o6,s3⟩:=AK n6
  obtain ⟨lC,mC,l9,h2,t3,m9,rfl,nC⟩:=h1.elem s3
  refine Bw (hA:=h2) (hj:=(Int.toNat_of_nonneg o6).symm) (hlt:=t3) rfl rfl rfl ?_
  refine Ds rfl h1 (a:=0) (vInt (show inI64 (0) from by decide)) h2 rfl rfl (AC s3) fun oC q1 h1=>?_
  obtain ⟨pC,p6,v0⟩:=bs v0
  obtain ⟨q6,u3⟩:=AK p6
  replace c1:=c1.st q1
  obtain ⟨qC,rC,n9,i2,v3,o9,rfl,sC⟩:=c1.elem u3
  refine Bw (hA:=i2) (hj:=(Int.toNat_of_nonneg q6).symm) (hlt:=v3) rfl rfl rfl ?_
  refine Ds rfl c1 (a:=0) (vInt (show inI64 (0) from by decide)) i2 rfl rfl (AC u3) fun tC r1 c1=>?_
  refine o_z ?_
  refine Aj (Am rfl rfl (Am rfl rfl ?_))
  obtain ⟨uC,r6,v0⟩:=bs v0
  replace k1:=(k1.st q1).st r1
  refine BB (O:=l6) (FA k1 (show inI64 (0) from by decide) (show inI64 (0) from by decide) m6 r6) rfl rfl fun vC wC xC s1 s6=>?_
  obtain ⟨t6,u6⟩:=s6
  obtain ⟨rfl,yC⟩:=u6.err
  refine o_z ?_
  obtain rfl:=sm v0
  exact show Exists _ from ⟨_,(),rfl,⟨rfl,rfl,rfl,rfl,rfl,rfl,rfl,trivial⟩,_,((hB.st q1).st r1).st s1,((f0.st q1).st r1).st s1,(h1.st r1).st s1,c1.st s1,t6,((y0.st q1).st r1).st s1⟩
 replace hB:=hB.st j1
 replace f0:=f0.st j1
 rintro zC aD ⟨bD,cD,rfl,w3,v6,hB,f0,h1,c1,k1⟩
 replace hm:=BA hm
 refine AO _ w3 ?_
 refine Al ?_
 obtain ⟨p2,x3,hm⟩:=bs hm
 refine AN (aft p2 (fun (w0:(List Int)×(List Int)×Que) (w1:Unit)=>[(6,(.slice a0.1.1 j0.1.length a0.1.2)),(7,(.slice a0.2.1 j0.2.length a0.2.2))]) (fun w0 w1 w'=>∃ O':Lab,Bs w A w' O'∧Rw 2 w' O' 3 (.slice a0.1.1 j0.1.length a0.1.2) w0.1∧Rw 3 w' O' 3 (.slice a0.2.1 j0.2.length a0.2.2) w0.2.1)) ?_ ?_
 ·
  refine AR (FE (σ:=(List Int)×(List Int)×Que) (X:=Unit) x3 (fun (w0:(List Int)×(List Int)×Que) (w1:Unit)=>[(0,(.slice A3 x0.length c4)),(6,(.slice a0.1.1 j0.1.length a0.1.2)),(7,(.slice a0.2.1 j0.2.length a0.2.2)),(9,(.pointer (some ⟨s0,0,none⟩)))]) _ (fun w0 w1 w'=>∃ O':Lab,Bs w A w' O'∧Vb w' (Fr 0 w' O') (.slice A3 x0.length c4) x0∧Rw 2 w' O' 3 (.slice a0.1.1 j0.1.length a0.1.2) w0.1∧Rw 3 w' O' 3 (.slice a0.2.1 j0.2.length a0.2.2) w0.2.1∧Ob 4 w' O' (.pointer (some ⟨s0,0,none⟩)) w0.2.2) _ () ⟨v6,hB,f0,h1,c1,k1⟩ ⟨rfl,rfl,rfl,rfl,trivial⟩ ?_)
  rintro w0 w1 dD p9 ⟨w6,hB,f0,l0,m0,x6⟩ b0 y1 l1
  refine Al (Al (Aj (Am rfl rfl ?_)))
  obtain ⟨eD,y6,b0⟩:=bs b0
  refine BB (O:=w6) (Ij x6 y6) rfl rfl fun fD gD z6 n0 a7=>?_
  obtain ⟨b7,c7⟩:=a7
  obtain ⟨rfl,hD⟩:=c7.int
  refine CE rfl rfl rfl (fun q2=>?_) fun q2=>?_
  ·
   replace b0:=ip b0 q2
   refine o_z ?_
   refine Ah rfl (AH (AR (Al (Aj (Am rfl rfl ?_)))))
   obtain ⟨i1,d7,b0⟩:=bs b0
   refine BB (O:=z6) (Ik b7 d7) rfl rfl fun iD jD kD q0 e7=>?_
   obtain ⟨lD,mD,nD,oD,n1,rfl,f7,g7,h7,i7⟩:=e7
   obtain ⟨rfl,pD⟩:=f7.int
   obtain ⟨rfl,qD⟩:=g7.int
   obtain ⟨rfl,rD⟩:=h7.int
   obtain ⟨rfl,sD⟩:=i7.err
   refine Am rfl rfl (AY rfl rfl rfl (AY rfl rfl rfl (AY rfl rfl rfl (AY rfl rfl rfl (An rfl rfl (An rfl rfl (An rfl rfl (An rfl rfl (o_z ?_)))))))))
   refine Al (Al (Aj (Am rfl rfl (Dd rfl rfl (fun r2=>?_) fun r2=>?_))))
   ·
    replace b0:=ip b0 r2
    refine o_z ?_
    refine Ah rfl (Dq ?_)
    obtain rfl:=sm b0
    exact show Exists _ from ⟨_,(),l1 _ rfl,⟨rfl,rfl,trivial⟩,_,(hB.st n0).st q0,(l0.st n0).st q0,(m0.st n0).st q0⟩
   replace b0:=im b0 r2
   refine o_z ?_
   refine Ae rfl (AH (Al (Al ?_)))
   obtain ⟨j7,k0,b0⟩:=bs b0
   refine AN (fun l' w'=>∃ (k7:Unit) (O':Lab),subs l' [(0,(.slice A3 x0.length c4)),(6,(.slice a0.1.1 j0.1.length a0.1.2)),(7,(.slice a0.2.1 j0.2.length a0.2.2)),(9,(.pointer (some ⟨s0,0,none⟩))),(12,(.int .i64 i1.1)),(13,(.int .i64 i1.2.1)),(14,(.int .i64 i1.2.2.1)),(80,(.bool j7))]∧Bs w A w' O'∧Vb w' (Fr 0 w' O') (.slice A3 x0.length c4) x0∧Rw 2 w' O' 3 (.slice a0.1.1 j0.1.length a0.1.2) w0.1∧Rw 3 w' O' 3 (.slice a0.2.1 j0.2.length a0.2.2) w0.2.1∧Ob 4 w' O' (.pointer (some ⟨s0,0,none⟩)) i1.2.2.2.2) ?_ ?_
   ·
    refine Aj (Am rfl rfl (Am rfl rfl (Am rfl rfl ?_)))
    obtain ⟨tD,l7,k0⟩:=bs k0
    obtain ⟨m7,n7⟩:=AK l7
    replace l0:=(l0.st n0).st q0
    obtain ⟨uD,vD,q9,y3,z3,a4,rfl,wD⟩:=l0.elem n7
    refine Bw (hA:=y3) (hj:=(Int.toNat_of_nonneg m7).symm) (hlt:=z3) rfl rfl rfl ?_
    refine AD (hc:=cat0 a4) rfl rfl ?_
    refine EJ rfl rfl rfl (fun s2=>?_) fun s2=>?_
    ·
     replace k0:=ip k0 s2
     refine Am rfl rfl (Aw rfl rfl rfl rfl (Aw rfl rfl rfl rfl (Aw rfl rfl rfl rfl (Aw rfl rfl rfl rfl (Aw rfl rfl rfl rfl (Aw rfl rfl rfl rfl (Bk rfl rfl rfl (o_z ?_))))))))
     obtain rfl:=sm k0
     exact ⟨(),_,⟨rfl,rfl,rfl,rfl,rfl,rfl,rfl,rfl,trivial⟩,(hB.st n0).st q0,(f0.st n0).st q0,l0,(m0.st n0).st q0,n1⟩
    replace k0:=im k0 s2
    refine Am rfl rfl (Au rfl rfl (Am rfl rfl (Au rfl rfl (Am rfl rfl (Au rfl rfl (Am rfl rfl (Au rfl rfl ?_)))))))
    obtain ⟨xD,o7,k0⟩:=bs k0
    obtain ⟨p7,q7⟩:=AK o7
    replace m0:=(m0.st n0).st q0
    obtain ⟨yD,zD,r9,b4,d4,e4,rfl,aE⟩:=m0.elem q7
    refine Bw (hA:=b4) (hj:=(Int.toNat_of_nonneg p7).symm) (hlt:=d4) rfl rfl rfl ?_
    refine Au rfl rfl (AD (hc:=cat0 e4) rfl rfl ?_)
    refine Au rfl rfl (EJ rfl rfl rfl (fun t2=>?_) fun t2=>?_)
    ·
     replace k0:=ip k0 t2
     refine Bf rfl rfl rfl (o_z ?_)
     obtain rfl:=sm k0
     exact ⟨(),_,⟨rfl,rfl,rfl,rfl,rfl,rfl,rfl,rfl,trivial⟩,(hB.st n0).st q0,(f0.st n0).st q0,l0,m0,n1⟩
    replace k0:=im k0 t2
    refine Bf rfl rfl rfl (o_z ?_)
    obtain rfl:=sm k0
    exact ⟨(),_,⟨rfl,rfl,rfl,rfl,rfl,rfl,rfl,rfl,trivial⟩,(hB.st n0).st q0,(f0.st n0).st q0,l0,m0,n1⟩
   replace hB:=(hB.st n0).st q0
   replace f0:=(f0.st n0).st q0
   replace l0:=(l0.st n0).st q0
   replace m0:=(m0.st n0).st q0
   rintro bE cE ⟨k7,r7,f4,hB,f0,l0,m0,n1⟩
   refine AO _ f4 ?_
   refine CJ rfl (fun u2=>?_) (fun u2=>?_)
   ·
    replace b0:=ip b0 u2
    refine Dq ?_
    obtain rfl:=sm b0
    exact show Exists _ from ⟨_,(),rfl,⟨rfl,rfl,rfl,rfl,trivial⟩,_,hB,f0,l0,m0,n1⟩
   replace b0:=im' b0 u2
   refine AH (Al (Aj (Am rfl rfl (Am rfl rfl ?_))))
   obtain ⟨d1,s7,b0⟩:=bs b0
   obtain ⟨t7,v7⟩:=AK s7
   obtain ⟨dE,eE,s9,g4,h4,i4,fE,rfl,o0⟩:=f0.elem' v7
   replace o0:=Vb.of_slice o0
   obtain ⟨z1,a2,rfl⟩:=o0.form
   refine Bw (hA:=g4) (hj:=(Int.toNat_of_nonneg t7).symm) (hlt:=h4) rfl rfl rfl ?_
   refine AD (hc:=cat0 i4) rfl rfl ?_
   refine AQ rfl rfl ?_
   have v2:d1.length≤9223372036854775807:=Nat.le_trans o0.len.2.1 o0.len.2.2
   have gE:inI64 (d1.length:Int):=rngNat v2
   refine Am rfl rfl (o_z ?_)
   obtain ⟨w2,j4,b0⟩:=bs b0
   refine AN (aft w2 (fun (t0:(List Int)×(List Int)×Que) (b2:Unit)=>[(0,(.slice A3 x0.length c4)),(6,(.slice a0.1.1 j0.1.length a0.1.2)),(7,(.slice a0.2.1 j0.2.length a0.2.2)),(9,(.pointer (some ⟨s0,0,none⟩)))]) (fun t0 b2 w'=>∃ O':Lab,Bs w A w' O'∧Vb w' (Fr 0 w' O') (.slice A3 x0.length c4) x0∧Rw 2 w' O' 3 (.slice a0.1.1 j0.1.length a0.1.2) t0.1∧Rw 3 w' O' 3 (.slice a0.2.1 j0.2.length a0.2.2) t0.2.1∧Ob 4 w' O' (.pointer (some ⟨s0,0,none⟩)) t0.2.2)) ?_ ?_
   ·
    refine AR (Ct (σ:=(List Int)×(List Int)×Que) (X:=Unit) (d1.length) j4 rfl v2 (fun (t0:(List Int)×(List Int)×Que) (b2:Unit)=>[(0,(.slice A3 x0.length c4)),(6,(.slice a0.1.1 j0.1.length a0.1.2)),(7,(.slice a0.2.1 j0.2.length a0.2.2)),(9,(.pointer (some ⟨s0,0,none⟩))),(12,(.int .i64 i1.1)),(13,(.int .i64 i1.2.1)),(84,(.slice z1 d1.length a2))]) _ (fun t0 b2 w'=>∃ O':Lab,Bs w A w' O'∧Vb w' (Fr 0 w' O') (.slice A3 x0.length c4) x0∧Rw 2 w' O' 3 (.slice a0.1.1 j0.1.length a0.1.2) t0.1∧Rw 3 w' O' 3 (.slice a0.2.1 j0.2.length a0.2.2) t0.2.1∧Ob 4 w' O' (.pointer (some ⟨s0,0,none⟩)) t0.2.2∧Vb w' (Fr 0 w' O') (.slice z1 d1.length a2) d1) _ () ⟨r7,hB,f0,l0,m0,n1,o0⟩ ⟨rfl,rfl,rfl,rfl,rfl,rfl,rfl,rfl,rfl,trivial⟩ (fun _ _=>⟨rfl,rfl⟩) (fun _ _=>⟨rfl,rfl,rfl,rfl,trivial⟩) (fun _ _ _ ⟨O',hB,f0,e0,g0,r0,o0⟩=>⟨O',hB,f0,e0,g0,r0⟩) ⟨rfl,rfl,rfl⟩ ⟨rfl,rfl⟩ ?_)
    rintro k4 o1 t0 b2 hE t9 j2 ⟨w7,hB,f0,e0,g0,r0,o0⟩ c0 c2 x5
    have rk337:inI64 (k4:Int):=rngK j2 v2
    refine Al (Aj ?_)
    obtain ⟨iE,jE,v9,l4,m4,n4,rfl,kE,x7,lE⟩:=o0.elem' j2
    refine Bw (hA:=l4) (hj:=rfl) (hlt:=m4) rfl rfl rfl ?_
    refine Bz (hl:=rfl) (hc:=n4) rfl rfl ?_
    refine Db 5 w7 rfl fun x2 mE y7 h0 p0=>?_
    refine Bt p0 rfl rfl rfl (Ci rfl) (allOne rfl) fun z7 i0 p0=>?_
    replace p0:Lc 5 z7 y7 x2 106 [(.int .i64 o1.src),(.int .i64 o1.dst),(.int .i64 o1.weight)]:=p0
    refine o_z ?_
    refine Al (Aj (Am rfl rfl (AG rfl rfl (AD (hc:=Blk.cell (i:=2) (p0.1) rfl) rfl rfl ?_))))
    obtain ⟨o4,p4,c0⟩:=bs c0
    have q4:=(BR p4)
    refine EZ (he:=p4) rfl rfl rfl ?_
    refine Am rfl rfl ?_
    obtain ⟨r4,s4,c0⟩:=bs c0
    have t4:=(BR s4)
    refine EZ (he:=s4) rfl rfl rfl ?_
    refine An rfl rfl (An rfl rfl (o_z ?_))
    refine Al (Al ?_)
    obtain ⟨a8,d0,c0⟩:=bs c0
    refine AN (fun l' w'=>∃ (b8:Unit) (O':Lab),subs l' [(0,(.slice A3 x0.length c4)),(6,(.slice a0.1.1 j0.1.length a0.1.2)),(7,(.slice a0.2.1 j0.2.length a0.2.2)),(9,(.pointer (some ⟨s0,0,none⟩))),(12,(.int .i64 i1.1)),(13,(.int .i64 i1.2.1)),(17,(.pointer (some ⟨x2,0,none⟩))),(18,(.int .i64 o4)),(19,(.int .i64 r4)),(84,(.slice z1 d1.length a2)),(85,(.int .i64 (d1.length:Int))),(86,(.int .i64 (k4:Int))),(120,(.bool a8))]∧Bs w A w' O'∧Vb w' (Fr 0 w' O') (.slice A3 x0.length c4) x0∧Rw 2 w' O' 3 (.slice a0.1.1 j0.1.length a0.1.2) t0.1∧Rw 3 w' O' 3 (.slice a0.2.1 j0.2.length a0.2.2) t0.2.1∧Ob 4 w' O' (.pointer (some ⟨s0,0,none⟩)) t0.2.2∧Lc 5 w' O' x2 106 [(.int .i64 o1.src),(.int .i64 o1.dst),(.int .i64 o1.weight)]∧Vb w' (Fr 0 w' O') (.slice z1 d1.length a2) d1) ?_ ?_
    ·
     refine Aj (Am rfl rfl (Am rfl rfl (AG rfl rfl (AD (hc:=Blk.cell (i:=1) (p0.1) rfl) rfl rfl ?_))))
     obtain ⟨nE,c8,d0⟩:=bs d0
     obtain ⟨d8,f8⟩:=AK c8
     replace e0:=(e0.st h0).st i0
     obtain ⟨oE,pE,w9,u4,v4,w4,rfl,qE⟩:=e0.elem f8
     refine Bw (hA:=u4) (hj:=(Int.toNat_of_nonneg d8).symm) (hlt:=v4) rfl rfl rfl ?_
     refine AD (hc:=cat0 w4) rfl rfl ?_
     refine CE rfl rfl rfl (fun y2=>?_) fun y2=>?_
     ·
      replace d0:=ip d0 y2
      refine Am rfl rfl (Aw rfl rfl rfl rfl (Aw rfl rfl rfl rfl (Aw rfl rfl rfl rfl (Aw rfl rfl rfl rfl (Aw rfl rfl rfl rfl (Aw rfl rfl rfl rfl (Aw rfl rfl rfl rfl (Aw rfl rfl rfl rfl (Aw rfl rfl rfl rfl (Aw rfl rfl rfl rfl (Aw rfl rfl rfl rfl (Aw rfl rfl rfl rfl (Aw rfl rfl rfl rfl (Aw rfl rfl rfl rfl ?_))))))))))))))
      refine Aw rfl rfl rfl rfl (Aw rfl rfl rfl rfl (Bk rfl rfl rfl (o_z ?_)))
      obtain rfl:=sm d0
      exact ⟨(),_,⟨rfl,rfl,rfl,rfl,rfl,rfl,rfl,rfl,rfl,rfl,rfl,rfl,rfl,trivial⟩,(hB.st h0).st i0,(f0.st h0).st i0,e0,(g0.st h0).st i0,(r0.st h0).st i0,p0,(o0.st h0).st i0⟩
     replace d0:=im d0 y2
     refine Am rfl rfl (Au rfl rfl (Am rfl rfl (Au rfl rfl (Am rfl rfl (Au rfl rfl (AG rfl rfl (Au rfl rfl (AD (hc:=Blk.cell (i:=1) (p0.1) rfl) rfl rfl ?_))))))))
     refine Au rfl rfl ?_
     obtain ⟨rE,g8,d0⟩:=bs d0
     obtain ⟨h8,i8⟩:=AK g8
     obtain ⟨sE,tE,x9,x4,y4,z4,rfl,uE⟩:=e0.elem i8
     refine Bw (hA:=x4) (hj:=(Int.toNat_of_nonneg h8).symm) (hlt:=y4) rfl rfl rfl ?_
     refine Au rfl rfl (AD (hc:=cat0 z4) rfl rfl ?_)
     refine Au rfl rfl (GF rfl rfl rfl (fun z2=>?_) fun z2=>?_)
     ·
      replace d0:=ip d0 z2
      refine Au rfl rfl (Am rfl rfl (Au rfl rfl (Am rfl rfl (Au rfl rfl (Am rfl rfl (Au rfl rfl (AG rfl rfl (Au rfl rfl (AD (hc:=Blk.cell (i:=1) (p0.1) rfl) rfl rfl ?_)))))))))
      refine Au rfl rfl ?_
      obtain ⟨vE,j8,d0⟩:=bs d0
      obtain ⟨k8,l8⟩:=AK j8
      replace g0:=(g0.st h0).st i0
      obtain ⟨wE,xE,y9,a5,b5,c5,rfl,yE⟩:=g0.elem l8
      refine Bw (hA:=a5) (hj:=(Int.toNat_of_nonneg k8).symm) (hlt:=b5) rfl rfl rfl ?_
      refine Au rfl rfl (AD (hc:=cat0 c5) rfl rfl ?_)
      refine Au rfl rfl (EY rfl rfl rfl (fun a3=>?_) fun a3=>?_)
      ·
       replace d0:=ip d0 a3
       refine Au rfl rfl (Bk rfl rfl rfl (Bf rfl rfl rfl (o_z ?_)))
       obtain rfl:=sm d0
       exact ⟨(),_,⟨rfl,rfl,rfl,rfl,rfl,rfl,rfl,rfl,rfl,rfl,rfl,rfl,rfl,trivial⟩,(hB.st h0).st i0,(f0.st h0).st i0,e0,g0,(r0.st h0).st i0,p0,(o0.st h0).st i0⟩
      replace d0:=im d0 a3
      refine Au rfl rfl (Bk rfl rfl rfl (Bf rfl rfl rfl (o_z ?_)))
      obtain rfl:=sm d0
      exact ⟨(),_,⟨rfl,rfl,rfl,rfl,rfl,rfl,rfl,rfl,rfl,rfl,rfl,rfl,rfl,trivial⟩,(hB.st h0).st i0,(f0.st h0).st i0,e0,g0,(r0.st h0).st i0,p0,(o0.st h0).st i0⟩
     replace d0:=im d0 z2
     refine Au rfl rfl (Am rfl rfl (Aw rfl rfl rfl rfl (Aw rfl rfl rfl rfl (Aw rfl rfl rfl rfl (Aw rfl rfl rfl rfl (Aw rfl rfl rfl rfl (Aw rfl rfl rfl rfl (Aw rfl rfl rfl rfl (Au rfl rfl (Bf rfl rfl rfl (Bf rfl rfl rfl (o_z ?_))))))))))))
     obtain rfl:=sm d0
     exact ⟨(),_,⟨rfl,rfl,rfl,rfl,rfl,rfl,rfl,rfl,rfl,rfl,rfl,rfl,rfl,trivial⟩,(hB.st h0).st i0,(f0.st h0).st i0,e0,(g0.st h0).st i0,(r0.st h0).st i0,p0,(o0.st h0).st i0⟩
    replace f0:=(f0.st h0).st i0
    replace hB:=(hB.st h0).st i0
    replace o0:=(o0.st h0).st i0
    replace e0:=(e0.st h0).st i0
    replace g0:=(g0.st h0).st i0
    replace r0:=(r0.st h0).st i0
    rintro zE aF ⟨b8,d5,e5,hB,f0,e0,g0,r0,p0,o0⟩
    refine AO _ e5 ?_
    refine CJ rfl (fun b3=>?_) (fun b3=>?_)
    ·
     replace c0:=ip c0 b3
     refine Dq ?_
     obtain rfl:=sm c0
     exact show Exists _ from ⟨_,(),rfl,⟨rfl,rfl,rfl,rfl,rfl,rfl,rfl,rfl,rfl,trivial⟩,_,hB,f0,e0,g0,r0,o0⟩
    replace c0:=im' c0 b3
    refine AH (Al (BK [(9,[2])] d5 ?_))
    refine AZ (fuel:=7) [] [(0,true),(1,true),(2,true),(6,true),(8,true)] (by kernel_rfl) rfl ?_
    refine AJ rfl rfl rfl (AP rfl rfl rfl (AS (hc:=fun w' ⟨O',hq⟩=>Blk.cell (i:=1) ((p0.st hq (by decide)).1) rfl) rfl rfl rfl ?_))
    refine AJ rfl rfl rfl ?_
    obtain ⟨bF,m8,c0⟩:=bs c0
    obtain ⟨n8,f5⟩:=AK m8
    obtain ⟨cF,dF,z9,k2,aA,g5,bA,rfl,eF⟩:=e0.elemF f5
    refine BP (hA:=k2) (hj:=(Int.toNat_of_nonneg n8).symm) (hlt:=g5) rfl rfl rfl rfl ?_
    refine AL ?_
    refine AZ (fuel:=3) [2] [(3,true),(4,true),(5,true),(7,true)] (by kernel_rfl) rfl ?_
    refine AJ rfl rfl rfl (AP rfl rfl rfl (AS (hc:=fun w' ⟨O',hq⟩=>Blk.cell (i:=1) ((p0.st hq (by decide)).1) rfl) rfl rfl rfl ?_))
    refine AJ rfl rfl rfl (AL ?_)
    refine Bg (i:=9) (by kernel_rfl) rfl ?_
    refine Ds rfl e0 (a:=o4) (vInt q4) k2 rfl rfl (AC f5) fun fF e1 e0=>?_
    have hZ:=e1.lst [2] (fun _ h=>by cases h;decide)
    refine BF [] hZ (by kernel_rfl) ?_
    refine AZ (fuel:=1) [] [(10,true)] (by kernel_rfl) rfl ?_
    obtain ⟨gF,o8,c0⟩:=bs c0
    obtain ⟨p8,h5⟩:=AK o8
    replace g0:=g0.st e1
    obtain ⟨hF,iF,cA,l2,dA,i5,eA,rfl,jF⟩:=g0.elemF h5
    refine BP (hA:=l2) (hj:=(Int.toNat_of_nonneg p8).symm) (hlt:=i5) rfl rfl rfl rfl ?_
    refine AL ?_
    refine Bg (i:=11) (by kernel_rfl) rfl ?_
    refine Ds rfl g0 (a:=r4) (vInt t4) l2 rfl rfl (AC h5) fun kF f1 g0=>?_
    refine DG (by kernel_rfl) ?_
    refine Co (by kernel_rfl) ?_
    refine Al (Aj (Am rfl rfl (Am rfl rfl (Am rfl rfl (AG rfl rfl ?_)))))
    replace p0:=(p0.st e1).st f1
    refine AD (hc:=Blk.cell (i:=1) (p0.1) rfl) rfl rfl ?_
    obtain ⟨lF,q8,c0⟩:=bs c0
    replace r0:=(r0.st e1).st f1
    refine BB (O:=d5) (FA r0 q4 t4 x7 q8) rfl rfl fun mF nF oF g1 r8=>?_
    obtain ⟨s8,t8⟩:=r8
    obtain ⟨rfl,pF⟩:=t8.err
    refine Dd rfl rfl (fun c3=>?_) fun c3=>?_
    ·
     replace c0:=ip c0 c3
     refine o_z ?_
     refine Ah rfl (Al (Aj (Am rfl rfl (Am rfl rfl (Am rfl rfl ?_)))))
     replace e0:=(e0.st f1).st g1
     obtain ⟨qF,d3,e0⟩:=e0.freeze
     replace g0:=(g0.st g1).st d3
     obtain ⟨u8,e3,g0⟩:=g0.freeze
     obtain ⟨v8,w8,c0⟩:=bs c0
     replace f0:=((((f0.st e1).st f1).st g1).st d3).st e3
     replace e0:=e0.st e3
     refine EW (O:=u8) (R:=fun w' F v=>T2 w' F v v8) (IM Fr.lt f0 e0 g0 w8) rfl rfl fun rF j5 k5 x8 y8=>?_
     obtain ⟨sF,tF,rfl,l5,m5⟩:=y8
     obtain ⟨uF,vF,rfl⟩:=l5.form
     obtain ⟨wF,xF,rfl⟩:=m5.form
     refine AY rfl rfl rfl (AY rfl rfl rfl (An rfl rfl (An rfl rfl (o_z ?_))))
     refine AF ?_
     obtain rfl:=sm c0
     obtain rfl:=c2 _ rfl
     obtain rfl:=sm (Cs b0)
     obtain rfl:=y1 _ rfl
     obtain rfl:=sm (Cs hm)
     replace hB:=(((((hB.st e1).st f1).st g1).st d3).st e3).st x8
     exact ret2 rfl (Az rfl) (Az rfl) ⟨hB.ext,_,_,rfl,(Vb.mono (F:=Fr 0 j5 k5) l5 hB.out),(Vb.mono (F:=Fr 0 j5 k5) m5 hB.out)⟩
    replace c0:=im c0 c3
    refine o_z ?_
    refine Ae rfl (AH ?_)
    obtain rfl:=sm c0
    exact show Exists _ from ⟨_,(),rfl,⟨rfl,rfl,rfl,rfl,rfl,rfl,rfl,rfl,rfl,trivial⟩,_,((hB.st e1).st f1).st g1,((f0.st e1).st f1).st g1,(e0.st f1).st g1,g0.st g1,s8,((o0.st e1).st f1).st g1⟩
   rintro yF zF ⟨aG,bG,rfl,m1,cG,hB,f0,e0,g0,r0⟩
   replace b0:=BA b0
   obtain rfl:=sm b0
   exact show Exists _ from ⟨_,(),rfl,⟨(Gf m1 _ _ rfl),(Gf m1 _ _ rfl),(Gf m1 _ _ rfl),(Gf m1 _ _ rfl),trivial⟩,_,hB,f0,e0,g0,r0⟩
  replace b0:=im b0 q2
  refine o_z ?_
  refine Ae rfl (Dq ?_)
  obtain rfl:=sm b0
  exact show Exists _ from ⟨_,(),l1 _ rfl,⟨rfl,rfl,trivial⟩,_,hB.st n0,l0.st n0,m0.st n0⟩
 rintro dG n5 ⟨eG,fG,rfl,o5,gG,hB,l0,m0⟩
 replace hm:=BA hm
 refine AO _ o5 ?_
 refine Al (Aj (Am rfl rfl (Am rfl rfl (An rfl rfl (An rfl rfl (o_z ?_))))))
 refine AF ?_
 obtain ⟨hG,p5,l0⟩:=l0.freeze
 replace m0:=m0.st p5
 obtain ⟨q5,r5,m0⟩:=m0.freeze
 obtain rfl:=sm hm
 replace hB:=(hB.st p5).st r5
 replace l0:=l0.st r5
 exact ret2 rfl (Az rfl) (Az rfl) ⟨hB.ext,_,_,rfl,(Vb.mono (F:=Fr 0 n5 q5) l0 hB.out),(Vb.mono (F:=Fr 0 n5 q5) m0 hB.out)⟩
noncomputable def BI (x0:Spa):Option Spa :=
  bnd (Bb x0.states) fun q45=>bnd (mkI 24 ([]:List Arc) q45) fun u55=>bnd (mkI 24 ([]:List Arc) q45) fun u57=>bnd (some (u55,u57):Option ((List (List Arc))×(List (List Arc)))) fun y59=>bnd (rng (ρ:=Spa) (fun (k179:Nat) (a180:Edj) (s177:(List (List Arc))×(List (List Arc)))=>bnd (atI x0.t.ops a180.label) fun a258=>bnd (atI s177.1 a180.src) fun a279=>bnd (appI 24 a279 [(⟨a180.src,a180.dst,a258.cost⟩:Arc)]) fun u304=>bnd (atI s177.1 a180.src) fun a315=>bnd (atI s177.2 a180.dst) fun a330=>bnd (appI 24 a330 [(⟨a180.dst,a180.src,a258.cost⟩:Arc)]) fun u355=>bnd (atI s177.2 a180.dst) fun a366=>some (.next ((s177.1.set (a180.src:Int).toNat u304),(s177.2.set (a180.dst:Int).toNat u355)))) x0.edges 0 (y59.1,y59.2)) fun res175=>fin res175 fun (s390:(List (List Arc))×(List (List Arc)))=>bnd (rng (ρ:=Spa) (fun (k446:Nat) (a447:Bool) (s444:(List Int))=>if a447=true then (bnd (appI 8 s444 [(k446:Int)]) fun u469=>some (.next u469)) else (some (.next s444))) x0.goals 0 ([]:List Int)) fun res442=>fin res442 fun (s485:(List Int))=>bnd (BN s390.1 ([0]:List Int)) fun q497=>bnd (BN s390.2 s485) fun q561=>some (⟨(⟨x0.t.vars,x0.t.init,x0.t.goal,x0.t.ops⟩:Tsk),x0.states,x0.edges,x0.goals,q497.1,q561.1,q561.2⟩:Spa)
theorem GE {w:World} {O:Lab} {p0 i0:Nat} {x0:Spa} (k5:Ob i0 w O (.pointer (some ⟨p0,0,none⟩)) x0) {r:Spa} (hm:BI x0=some r) :
    Fn Tryz.prog 51 [(.pointer (some ⟨p0,0,none⟩))] w fun v w'=>∃ O',St (eT i0) w O w' O'∧Ob i0 w' O' (.pointer (some ⟨p0,0,none⟩)) r:=by
 obtain ⟨O0,hE,wB,xB⟩:=ent1 (w:=w) (O:=O) k5.2
 have k5':=Ob.leave k5 wB xB (j:=2) (by decide)
 have hB:Bm w O0 w O0:=Bm.refl
 refine AI Tryz.func51 rfl Tryz.ntmps51 rfl ?_
 unfold BI at hm
 refine Al (Aj (Am rfl rfl (BE rfl rfl ?_)))
 obtain ⟨O2,v6,sJ,tJ,uJ,vJ,wJ,xJ,yJ,zJ,aK,S3,bK,h4,h7,s3,t3,u3,xA,v3,w3,x3,y3,z3⟩:=Spa.opn k5' 2 3 (by decide)
 obtain ⟨A8,c9,rfl⟩:=h7.form
 obtain ⟨cK,dK,rfl⟩:=s3.form
 obtain ⟨eK,fK,rfl⟩:=t3.form
 obtain ⟨gK,hK,rfl⟩:=u3.form
 obtain ⟨iK,rfl⟩:=xA.ptr
 obtain ⟨jK,kK,rfl⟩:=v3.form
 obtain ⟨lK,mK,rfl⟩:=w3.form
 obtain ⟨nK,oK,rfl⟩:=x3.form
 obtain ⟨pK,qK,rfl⟩:=y3.form
 obtain ⟨rK,sK,rfl⟩:=z3.form
 refine AG rfl rfl (AD (hc:=Blk.cell (i:=4) (h4.1) rfl) rfl rfl ?_)
 obtain ⟨tK,yB,hm⟩:=bs hm
 refine BB (O:=O2) (DI xA yB) rfl rfl fun uK vK c8 z0 zB=>?_
 obtain ⟨j5,aC⟩:=zB
 obtain ⟨rfl,wK⟩:=aC.int
 refine An rfl rfl (o_z ?_)
 refine Al ?_
 obtain ⟨xK,yA,hm⟩:=bs hm
 obtain ⟨yK,zA,hm⟩:=bs hm
 obtain ⟨y0,l5,hm⟩:=bs hm
 refine AN (fun l' w'=>∃ (d0:(Option Addr×Nat)×(Option Addr×Nat)) (O':Lab),subs l' [(0,(.pointer (some ⟨p0,0,none⟩))),(3,(.slice d0.1.1 y0.1.length d0.1.2)),(4,(.slice d0.2.1 y0.2.length d0.2.2))]∧Bm w O0 w' O'∧Ob 2 w' O' (.pointer (some ⟨p0,0,none⟩)) x0∧NR Arc 4 w' O' 104 106 (.slice d0.1.1 y0.1.length d0.1.2) y0.1 none∧NR Arc 5 w' O' 104 106 (.slice d0.2.1 y0.2.length d0.2.2) y0.2 none) ?_ ?_
 ·
  refine BK [] c8 ?_
  refine AZ (fuel:=4) [] [(0,true),(2,true)] (by kernel_rfl) rfl ?_
  refine AJ rfl rfl rfl (AJ rfl rfl rfl (AL ?_))
  refine JH (i:=1) (j:=3) (by kernel_rfl) rfl rfl ?_ ?_
  ·
   obtain ⟨bC,cC,dC,eC,fC⟩:=DU yA
   refine IJ (β:=Arc) (e:=106) 4 (by decide) c8 rfl rfl rfl rfl cC dC eC rfl fun gC zK hC t1 aB=>?_
   rw [← fC] at aB ⊢
   have hZ:=t1.lst [] (fun _ h=>h.elim)
   refine BF [] hZ (by kernel_rfl) ?_
   refine AZ (fuel:=2) [] [(4,true)] (by kernel_rfl) rfl ?_
   refine CX rfl rfl rfl (AL ?_)
   refine Bg (i:=3) (by kernel_rfl) rfl ?_
   obtain ⟨iC,jC,kC,lC,mC⟩:=DU zA
   refine IJ (β:=Arc) (e:=106) 5 (by decide) hC rfl rfl rfl rfl jC kC lC rfl fun nC aL bL q1 bB=>?_
   rw [← mC] at bB ⊢
   have hZ:=q1.lst [] (fun _ h=>h.elim)
   refine BF [] hZ (by kernel_rfl) ?_
   refine AZ (fuel:=0) [] [(5,true)] (by kernel_rfl) rfl ?_
   refine CX rfl rfl rfl (AL ?_)
   refine Co (by kernel_rfl) ?_
   replace h4:=((h4.st z0).st t1).st q1
   replace h7:=((h7.st z0).st t1).st q1
   replace s3:=((s3.st z0).st t1).st q1
   replace t3:=((t3.st z0).st t1).st q1
   replace u3:=((u3.st z0).st t1).st q1
   replace v3:=((v3.st z0).st t1).st q1
   replace w3:=((w3.st z0).st t1).st q1
   replace x3:=((x3.st z0).st t1).st q1
   replace y3:=((y3.st z0).st t1).st q1
   replace z3:=((z3.st z0).st t1).st q1
   replace j5:=(j5.st t1).st q1
   obtain ⟨cL,d8,oC,pC,qC⟩:=Spa.shut (x:=x0) (l0:=2) (l1:=3) (by decide) h4 h7 s3 t3 u3 j5 v3 w3 x3 y3 z3
   obtain rfl:=sm l5
   exact ⟨(((some ⟨gC,0,none⟩),bC),((some ⟨nC,0,none⟩),iC)),_,⟨rfl,rfl,rfl,trivial⟩,((((hB.st S3).st z0).st t1).st q1).st d8,qC,(aB.st q1).st d8,bB.st d8⟩
  obtain ⟨rC,sC,tC,uC,vC⟩:=DU zA
  refine IJ (β:=Arc) (e:=106) 5 (by decide) c8 rfl rfl rfl rfl sC tC uC rfl fun wC xC e8 u0 m5=>?_
  rw [← vC] at m5 ⊢
  have hZ:=u0.lst [] (fun _ h=>h.elim)
  refine BF [] hZ (by kernel_rfl) ?_
  refine Bg (i:=1) (by kernel_rfl) rfl ?_
  obtain ⟨f8,g8,h8,i8,j8⟩:=DU yA
  refine IJ (β:=Arc) (e:=106) 4 (by decide) e8 rfl rfl rfl rfl g8 h8 i8 rfl fun k8 yC zC r0 n5=>?_
  rw [← j8] at n5 ⊢
  have hZ:=r0.lst [] (fun _ h=>h.elim)
  refine BF [] hZ (by kernel_rfl) ?_
  refine AZ (fuel:=0) [] [(4,true),(5,true)] (by kernel_rfl) rfl ?_
  refine CX rfl rfl rfl (CX rfl rfl rfl (AL ?_))
  refine Co (by kernel_rfl) ?_
  replace h4:=((h4.st z0).st u0).st r0
  replace h7:=((h7.st z0).st u0).st r0
  replace s3:=((s3.st z0).st u0).st r0
  replace t3:=((t3.st z0).st u0).st r0
  replace u3:=((u3.st z0).st u0).st r0
  replace v3:=((v3.st z0).st u0).st r0
  replace w3:=((w3.st z0).st u0).st r0
  replace x3:=((x3.st z0).st u0).st r0
  replace y3:=((y3.st z0).st u0).st r0
  replace z3:=((z3.st z0).st u0).st r0
  replace j5:=(j5.st u0).st r0
  obtain ⟨aD,a4,cB,dB,l8⟩:=Spa.shut (x:=x0) (l0:=2) (l1:=3) (by decide) h4 h7 s3 t3 u3 j5 v3 w3 x3 y3 z3
  obtain rfl:=sm l5
  exact ⟨(((some ⟨k8,0,none⟩),f8),((some ⟨wC,0,none⟩),rC)),_,⟨rfl,rfl,rfl,trivial⟩,((((hB.st S3).st z0).st u0).st r0).st a4,l8,n5.st a4,(m5.st r0).st a4⟩
 replace hB:=(hB.st S3).st z0
 rintro bD cD ⟨d0,dD,o5,hB,eD,m8,n8⟩
 refine AO _ o5 ?_
 refine Al (Al (Aj (Am rfl rfl (BE rfl rfl ?_))))
 obtain ⟨fD,gD,hD,iD,jD,kD,lD,mD,nD,oD,pD,i2,eB,p5,q5,r5,s5,t5,u5,a1,v5,w5,x5,y5⟩:=Spa.opn eD 2 3 (by decide)
 obtain ⟨qD,rD,rfl⟩:=q5.form
 obtain ⟨sD,tD,rfl⟩:=r5.form
 obtain ⟨uD,vD,rfl⟩:=s5.form
 obtain ⟨wD,xD,rfl⟩:=t5.form
 obtain ⟨yD,rfl⟩:=u5.ptr
 obtain ⟨z5,a6,rfl⟩:=a1.form
 obtain ⟨zD,aE,rfl⟩:=v5.form
 obtain ⟨bE,cE,rfl⟩:=w5.form
 obtain ⟨dE,eE,rfl⟩:=x5.form
 obtain ⟨fE,gE,rfl⟩:=y5.form
 refine AG rfl rfl (AD (hc:=Blk.cell (i:=5) (p5.1) rfl) rfl rfl ?_)
 refine AQ rfl rfl ?_
 have b4:x0.edges.length≤9223372036854775807:=Nat.le_trans a1.len.2.1 a1.len.2.2
 have iE:inI64 (x0.edges.length:Int):=rngNat b4
 refine Am rfl rfl (o_z ?_)
 obtain ⟨o8,x1,fB,gB,m1⟩:=Spa.shut (x:=x0) (l0:=2) (l1:=3) (by decide) p5 q5 r5 s5 t5 u5 a1 v5 w5 x5 y5
 obtain ⟨c4,b6,hm⟩:=bs hm
 refine AN (aft c4 (fun (g1:(List (List Arc))×(List (List Arc))) (j2:Unit)=>[(0,(.pointer (some ⟨p0,0,none⟩))),(3,(.slice d0.1.1 y0.1.length d0.1.2)),(4,(.slice d0.2.1 y0.2.length d0.2.2))]) (fun g1 j2 w'=>∃ O':Lab,Bm w O0 w' O'∧Ob 2 w' O' (.pointer (some ⟨p0,0,none⟩)) x0∧NR Arc 4 w' O' 104 106 (.slice d0.1.1 y0.1.length d0.1.2) g1.1 none∧NR Arc 5 w' O' 104 106 (.slice d0.2.1 y0.2.length d0.2.2) g1.2 none)) ?_ ?_
 ·
  refine AR ?_
  replace hB:=(hB.st i2).st x1
  replace m8:=(m8.st i2).st x1
  replace n8:=(n8.st i2).st x1
  replace a1:=a1.st x1
  refine Ct (σ:=(List (List Arc))×(List (List Arc))) (X:=Unit) (x0.edges.length) b6 rfl b4 (fun (g1:(List (List Arc))×(List (List Arc))) (j2:Unit)=>[(0,(.pointer (some ⟨p0,0,none⟩))),(3,(.slice d0.1.1 y0.1.length d0.1.2)),(4,(.slice d0.2.1 y0.2.length d0.2.2)),(23,(.slice z5 x0.edges.length a6))]) _ (fun g1 j2 w'=>∃ O':Lab,Bm w O0 w' O'∧Ob 2 w' O' (.pointer (some ⟨p0,0,none⟩)) x0∧NR Arc 4 w' O' 104 106 (.slice d0.1.1 y0.1.length d0.1.2) g1.1 none∧NR Arc 5 w' O' 104 106 (.slice d0.2.1 y0.2.length d0.2.2) g1.2 none∧Vb w' (Fr 0 w' O') (.slice z5 x0.edges.length a6) x0.edges) _ () ⟨o8,hB,m1,m8,n8,a1⟩ ⟨rfl,rfl,rfl,rfl,rfl,rfl,trivial⟩ (fun _ _=>⟨rfl,rfl⟩) (fun _ _=>⟨rfl,rfl,rfl,trivial⟩) (fun _ _ _ ⟨O',hB,m1,a0,b0,a1⟩=>⟨O',hB,m1,a0,b0⟩) ⟨rfl,rfl,rfl⟩ ⟨rfl,rfl⟩ ?_
  rintro p8 g0 g1 j2 jE iB o3 ⟨q8,hB,m1,a0,b0,a1⟩ c0 y7 z7
  have rk179:inI64 (p8:Int):=rngK o3 b4
  refine Al (Aj ?_)
  obtain ⟨kE,lE,jB,c6,d6,e6,rfl,f6,mE,g6⟩:=a1.elem' o3
  refine Bw (hA:=c6) (hj:=rfl) (hlt:=d6) rfl rfl rfl ?_
  refine Bz (hl:=rfl) (hc:=e6) rfl rfl ?_
  refine Db 6 q8 rfl fun r8 nE s8 y1 h0=>?_
  refine Bt h0 rfl rfl rfl (Ci rfl) (allOne rfl) fun k2 z1 h0=>?_
  replace h0:Lc 6 k2 s8 r8 94 [(.int .i64 g0.src),(.int .i64 g0.label),(.int .i64 g0.dst)]:=h0
  refine o_z ?_
  refine Al (BU (·=k2) [(0,true),(1,true),(2,true),(3,true),(4,true),(5,true),(6,true),(7,true),(8,true),(9,true),(10,true)] (by kernel_rfl) rfl (by kernel_rfl) rfl ?_)
  refine AJ rfl rfl rfl (BV rfl rfl rfl ?_)
  replace m1:=(m1.st y1).st z1
  obtain ⟨d4,oE,pE,qE,rE,sE,tE,uE,vE,wE,xE,a2,kB,l2,m2,n2,o2,b2,p2,q2,r2,s2,t2,u2⟩:=Spa.opn m1 2 3 (by decide)
  obtain ⟨yE,zE,rfl⟩:=m2.form
  obtain ⟨aF,bF,rfl⟩:=n2.form
  obtain ⟨cF,dF,rfl⟩:=o2.form
  obtain ⟨eF,fF,rfl⟩:=b2.form
  obtain ⟨gF,rfl⟩:=p2.ptr
  obtain ⟨hF,iF,rfl⟩:=q2.form
  obtain ⟨jF,kF,rfl⟩:=r2.form
  obtain ⟨lF,mF,rfl⟩:=s2.form
  obtain ⟨nF,oF,rfl⟩:=t2.form
  obtain ⟨pF,qF,rfl⟩:=u2.form
  refine AP rfl rfl rfl (AP rfl rfl rfl (BC (hc:=Blk.cell (i:=3) (l2.1) rfl) rfl rfl rfl ?_))
  refine AP rfl rfl rfl ?_
  replace h0:=h0.st a2
  refine BC (hc:=Blk.cell (i:=1) (h0.1) rfl) rfl rfl rfl ?_
  obtain ⟨u1,t8,c0⟩:=bs c0
  obtain ⟨u8,v8⟩:=AK t8
  obtain ⟨rF,sF,lB,h6,i6,j6,tF,uF,rfl,w8,x8,k6,vF⟩:=b2.elem' v8
  obtain ⟨wF,xF,rfl⟩:=w8.form
  obtain ⟨yF,zF,rfl⟩:=x8.form
  refine BP (hA:=h6) (hj:=(Int.toNat_of_nonneg u8).symm) (hlt:=i6) rfl rfl rfl rfl ?_
  refine AP rfl rfl rfl (BC (hc:=cat1 j6) rfl rfl rfl ?_)
  refine CX rfl rfl rfl (h_z ?_)
  refine Al (BK [(15,[4,13])] d4 ?_)
  refine AZ (fuel:=7) [] [(3,true),(4,true),(5,true),(6,true),(7,true),(8,true),(9,true),(10,true),(11,true),(12,true),(13,true)] (by kernel_rfl) rfl ?_
  refine AJ rfl rfl rfl (AP rfl rfl rfl (AS (hc:=fun w' ⟨O',hq⟩=>Blk.cell (i:=0) ((h0.st hq (by decide)).1) rfl) rfl rfl rfl ?_))
  obtain ⟨v2,y8,c0⟩:=bs c0
  obtain ⟨z8,e4⟩:=AK y8
  replace a0:=((a0.st y1).st z1).st a2
  obtain ⟨aG,bG,n1,l6⟩:=a0.at e4
  refine BP (hA:=n1) (hj:=(Int.toNat_of_nonneg z8).symm) (hlt:=l6) rfl rfl rfl rfl ?_
  obtain ⟨m6,n6,r1,w2⟩:=NR.peek a0 n1 e4
  replace w2:Vb k2 (FrS [4] k2 d4) (.slice m6 v2.length n6) v2:=w2
  refine AS (hc:=fun w' ⟨O',hq⟩=>NR.stay a0 n1 hq (by decide) r1) rfl rfl rfl ?_
  refine AP rfl rfl rfl (AS (hc:=fun w' ⟨O',hq⟩=>Blk.cell (i:=0) ((h0.st hq (by decide)).1) rfl) rfl rfl rfl ?_)
  refine AP rfl rfl rfl (AS (hc:=fun w' ⟨O',hq⟩=>Blk.cell (i:=2) ((h0.st hq (by decide)).1) rfl) rfl rfl rfl ?_)
  refine AJ rfl rfl rfl (GR rfl rfl rfl rfl ?_)
  refine AL ?_
  refine AZ (fuel:=4) [4,13] [(0,true),(1,true),(2,true)] (by kernel_rfl) rfl ?_
  refine AJ rfl rfl rfl (AP rfl rfl rfl (AS (hc:=fun w' ⟨O',hq⟩=>Blk.cell (i:=0) ((h0.st hq (by decide)).1) rfl) rfl rfl rfl ?_))
  refine AL ?_
  refine Bg (i:=14) (by kernel_rfl) rfl ?_
  refine Cv 7 (by decide) d4 (xs:=([(⟨g0.src,g0.dst,u1.cost⟩:Arc)]:List Arc)) rfl rfl rfl rfl ⟨(Vb.ofAgg (cs:=[(.int .i64 g0.src),(.int .i64 g0.dst),(.int .i64 u1.cost)]) (x:=(⟨g0.src,g0.dst,u1.cost⟩:Arc)) rfl ⟨rfl,f6,g6,k6⟩),trivial⟩ (by decide) (by decide) rfl fun cG a9 dG e0 f4=>?_
  have hZ:=e0.lst [] (fun _ h=>h.elim)
  replace r1:=NR.stay a0 n1 e0 id r1
  replace w2:=w2.stS e0 id (fun _ _=>id)
  refine BF [(15,[4,13])] hZ (by kernel_rfl) ?_
  refine Bg (i:=15) (by kernel_rfl) rfl ?_
  replace a0:=a0.st e0
  obtain ⟨b9,j0,a0,g4⟩:=NR.take' a0 n1 e4 r1 13 (by decide) (by decide)
  replace g4:Rw 13 a9 b9 106 (.slice m6 v2.length n6) v2:=g4
  have hZ:=j0.lst [4] (fun _ h=>by cases h;decide)
  obtain ⟨d9,i4,c0⟩:=bs c0
  obtain ⟨i4,e9,f9⟩:=Cz i4
  replace f4:=f4.st j0
  refine Dh rfl g4 (f4.rd) rfl rfl (by decide) e9 f9 rfl fun eG fG gG hG k0 o6=>?_
  rw [← i4] at o6 ⊢
  replace hZ:=hZ.cmp k0 [4,13] (fun _ h=>by cases h;decide) rfl
  refine BF [] hZ (by kernel_rfl) ?_
  refine AZ (fuel:=1) [] [(16,true)] (by kernel_rfl) rfl ?_
  obtain ⟨g9,h9,c0⟩:=bs c0
  obtain ⟨i9,p6⟩:=AK h9
  replace a0:=a0.st k0
  obtain ⟨iG,jG,p3,q6⟩:=a0.at p6
  refine BP (hA:=p3) (hj:=(Int.toNat_of_nonneg i9).symm) (hlt:=q6) rfl rfl rfl rfl ?_
  refine AL ?_
  refine Bg (i:=17) (by kernel_rfl) rfl ?_
  refine Nb (a:=g9) (off:=0) a0 o6 (by decide) p3 p6 rfl rfl rfl rfl (by decide) fun j4 x2 o0 k4=>?_
  replace k4:NR Arc 4 j4 x2 104 106 (.slice d0.1.1 y0.1.length d0.1.2) (g1.1.set (g0.src:Int).toNat d9) none:=k4
  refine DG (by kernel_rfl) ?_
  refine Co (by kernel_rfl) ?_
  refine BK [(15,[5,14])] x2 ?_
  refine AZ (fuel:=7) [] [(3,true),(4,true),(5,true),(6,true),(7,true),(8,true),(9,true),(10,true),(11,true),(12,true),(13,true)] (by kernel_rfl) rfl ?_
  refine AJ rfl rfl rfl (AP rfl rfl rfl ?_)
  replace h0:=(((h0.st e0).st j0).st k0).st o0
  refine AS (hc:=fun w' ⟨O',hq⟩=>Blk.cell (i:=2) ((h0.st hq (by decide)).1) rfl) rfl rfl rfl ?_
  obtain ⟨y2,j9,c0⟩:=bs c0
  obtain ⟨k9,l4⟩:=AK j9
  replace b0:=((((((b0.st y1).st z1).st a2).st e0).st j0).st k0).st o0
  obtain ⟨kG,lG,o1,r6⟩:=b0.at l4
  refine BP (hA:=o1) (hj:=(Int.toNat_of_nonneg k9).symm) (hlt:=r6) rfl rfl rfl rfl ?_
  obtain ⟨s6,t6,s1,z2⟩:=NR.peek b0 o1 l4
  replace z2:Vb j4 (FrS [5] j4 x2) (.slice s6 y2.length t6) y2:=z2
  refine AS (hc:=fun w' ⟨O',hq⟩=>NR.stay b0 o1 hq (by decide) s1) rfl rfl rfl ?_
  refine AP rfl rfl rfl (AS (hc:=fun w' ⟨O',hq⟩=>Blk.cell (i:=2) ((h0.st hq (by decide)).1) rfl) rfl rfl rfl ?_)
  refine AP rfl rfl rfl (AS (hc:=fun w' ⟨O',hq⟩=>Blk.cell (i:=0) ((h0.st hq (by decide)).1) rfl) rfl rfl rfl ?_)
  refine AJ rfl rfl rfl (GR rfl rfl rfl rfl ?_)
  refine AL ?_
  refine AZ (fuel:=4) [5,14] [(0,true),(1,true),(2,true)] (by kernel_rfl) rfl ?_
  refine AJ rfl rfl rfl (AP rfl rfl rfl (AS (hc:=fun w' ⟨O',hq⟩=>Blk.cell (i:=2) ((h0.st hq (by decide)).1) rfl) rfl rfl rfl ?_))
  refine AL ?_
  refine Bg (i:=14) (by kernel_rfl) rfl ?_
  refine Cv 9 (by decide) x2 (xs:=([(⟨g0.dst,g0.src,u1.cost⟩:Arc)]:List Arc)) rfl rfl rfl rfl ⟨(Vb.ofAgg (cs:=[(.int .i64 g0.dst),(.int .i64 g0.src),(.int .i64 u1.cost)]) (x:=(⟨g0.dst,g0.src,u1.cost⟩:Arc)) rfl ⟨rfl,g6,f6,k6⟩),trivial⟩ (by decide) (by decide) rfl fun mG l9 nG f0 m4=>?_
  have hZ:=f0.lst [] (fun _ h=>h.elim)
  replace s1:=NR.stay b0 o1 f0 id s1
  replace z2:=z2.stS f0 id (fun _ _=>id)
  refine BF [(15,[5,14])] hZ (by kernel_rfl) ?_
  refine Bg (i:=15) (by kernel_rfl) rfl ?_
  replace b0:=b0.st f0
  obtain ⟨m9,m0,b0,n4⟩:=NR.take' b0 o1 l4 s1 14 (by decide) (by decide)
  replace n4:Rw 14 l9 m9 106 (.slice s6 y2.length t6) y2:=n4
  have hZ:=m0.lst [5] (fun _ h=>by cases h;decide)
  obtain ⟨n9,o4,c0⟩:=bs c0
  obtain ⟨o4,o9,p9⟩:=Cz o4
  replace m4:=m4.st m0
  refine Dh rfl n4 (m4.rd) rfl rfl (by decide) o9 p9 rfl fun oG pG qG rG n0 u6=>?_
  rw [← o4] at u6 ⊢
  replace hZ:=hZ.cmp n0 [5,14] (fun _ h=>by cases h;decide) rfl
  refine BF [] hZ (by kernel_rfl) ?_
  refine AZ (fuel:=1) [] [(16,true)] (by kernel_rfl) rfl ?_
  obtain ⟨q9,r9,c0⟩:=bs c0
  obtain ⟨s9,w6⟩:=AK r9
  replace b0:=b0.st n0
  obtain ⟨sG,tG,q3,x6⟩:=b0.at w6
  refine BP (hA:=q3) (hj:=(Int.toNat_of_nonneg s9).symm) (hlt:=x6) rfl rfl rfl rfl ?_
  refine AL ?_
  refine Bg (i:=17) (by kernel_rfl) rfl ?_
  refine Nb (a:=q9) (off:=0) b0 u6 (by decide) q3 w6 rfl rfl rfl rfl (by decide) fun t9 u9 s0 p4=>?_
  replace p4:NR Arc 5 t9 u9 104 106 (.slice d0.2.1 y0.2.length d0.2.2) (g1.2.set (g0.dst:Int).toNat n9) none:=p4
  refine DG (by kernel_rfl) ?_
  refine Co (by kernel_rfl) ?_
  replace l2:=(((((((l2.st e0).st j0).st k0).st o0).st f0).st m0).st n0).st s0
  replace m2:=(((((((m2.st e0).st j0).st k0).st o0).st f0).st m0).st n0).st s0
  replace n2:=(((((((n2.st e0).st j0).st k0).st o0).st f0).st m0).st n0).st s0
  replace o2:=(((((((o2.st e0).st j0).st k0).st o0).st f0).st m0).st n0).st s0
  replace b2:=(((((((b2.st e0).st j0).st k0).st o0).st f0).st m0).st n0).st s0
  replace p2:=(((((((p2.st e0).st j0).st k0).st o0).st f0).st m0).st n0).st s0
  replace q2:=(((((((q2.st e0).st j0).st k0).st o0).st f0).st m0).st n0).st s0
  replace r2:=(((((((r2.st e0).st j0).st k0).st o0).st f0).st m0).st n0).st s0
  replace s2:=(((((((s2.st e0).st j0).st k0).st o0).st f0).st m0).st n0).st s0
  replace t2:=(((((((t2.st e0).st j0).st k0).st o0).st f0).st m0).st n0).st s0
  replace u2:=(((((((u2.st e0).st j0).st k0).st o0).st f0).st m0).st n0).st s0
  obtain ⟨uG,a3,mB,nB,v9⟩:=Spa.shut (x:=x0) (l0:=2) (l1:=3) (by decide) l2 m2 n2 o2 b2 p2 q2 r2 s2 t2 u2
  obtain rfl:=sm c0
  exact show Exists _ from ⟨_,(),rfl,⟨rfl,rfl,rfl,rfl,rfl,rfl,trivial⟩,_,(((((((((((hB.st y1).st z1).st a2).st e0).st j0).st k0).st o0).st f0).st m0).st n0).st s0).st a3,v9,((((k4.st f0).st m0).st n0).st s0).st a3,p4.st a3,(((((((((((a1.st y1).st z1).st a2).st e0).st j0).st k0).st o0).st f0).st m0).st n0).st s0).st a3⟩
 replace hB:=(hB.st i2).st x1
 rintro vG wG ⟨b3,xG,rfl,y6,yG,hB,m1,a0,b0⟩
 replace hm:=BA hm
 refine AO _ y6 ?_
 refine Al (Aj (An rfl rfl (o_z ?_)))
 refine Al (Al (Aj (Am rfl rfl (BE rfl rfl ?_))))
 obtain ⟨zG,aH,bH,cH,dH,eH,fH,gH,hH,iH,jH,v1,oB,z6,a7,b7,c7,d7,e7,f7,w0,g7,i7,j7⟩:=Spa.opn m1 2 3 (by decide)
 obtain ⟨kH,lH,rfl⟩:=a7.form
 obtain ⟨mH,nH,rfl⟩:=b7.form
 obtain ⟨oH,pH,rfl⟩:=c7.form
 obtain ⟨qH,rH,rfl⟩:=d7.form
 obtain ⟨sH,rfl⟩:=e7.ptr
 obtain ⟨tH,uH,rfl⟩:=f7.form
 obtain ⟨k7,l7,rfl⟩:=w0.form
 obtain ⟨vH,wH,rfl⟩:=g7.form
 obtain ⟨xH,yH,rfl⟩:=i7.form
 obtain ⟨zH,aI,rfl⟩:=j7.form
 refine AG rfl rfl (AD (hc:=Blk.cell (i:=6) (z6.1) rfl) rfl rfl ?_)
 refine AQ rfl rfl ?_
 have q4:x0.goals.length≤9223372036854775807:=Nat.le_trans w0.len.2.1 w0.len.2.2
 have bI:inI64 (x0.goals.length:Int):=rngNat q4
 refine Am rfl rfl (o_z ?_)
 obtain ⟨w9,p1,pB,qB,h1⟩:=Spa.shut (x:=x0) (l0:=2) (l1:=3) (by decide) z6 a7 b7 c7 d7 e7 f7 w0 g7 i7 j7
 obtain ⟨r4,m7,hm⟩:=bs hm
 refine AN (aft r4 (fun (i1:(List Int)) (t0:(Option Addr×Nat))=>[(0,(.pointer (some ⟨p0,0,none⟩))),(3,(.slice d0.1.1 y0.1.length d0.1.2)),(4,(.slice d0.2.1 y0.2.length d0.2.2)),(8,(.slice t0.1 i1.length t0.2))]) (fun i1 t0 w'=>∃ O':Lab,Bm w O0 w' O'∧Ob 2 w' O' (.pointer (some ⟨p0,0,none⟩)) x0∧NR Arc 4 w' O' 104 106 (.slice d0.1.1 y0.1.length d0.1.2) b3.1 none∧NR Arc 5 w' O' 104 106 (.slice d0.2.1 y0.2.length d0.2.2) b3.2 none∧Rw 15 w' O' 3 (.slice t0.1 i1.length t0.2) i1)) ?_ ?_
 ·
  refine AR ?_
  replace hB:=(hB.st v1).st p1
  replace a0:=(a0.st v1).st p1
  replace b0:=(b0.st v1).st p1
  replace w0:=w0.st p1
  refine Ct (σ:=(List Int)) (X:=(Option Addr×Nat)) (x0.goals.length) m7 rfl q4 (fun (i1:(List Int)) (t0:(Option Addr×Nat))=>[(0,(.pointer (some ⟨p0,0,none⟩))),(3,(.slice d0.1.1 y0.1.length d0.1.2)),(4,(.slice d0.2.1 y0.2.length d0.2.2)),(8,(.slice t0.1 i1.length t0.2)),(77,(.slice k7 x0.goals.length l7))]) _ (fun i1 t0 w'=>∃ O':Lab,Bm w O0 w' O'∧Ob 2 w' O' (.pointer (some ⟨p0,0,none⟩)) x0∧NR Arc 4 w' O' 104 106 (.slice d0.1.1 y0.1.length d0.1.2) b3.1 none∧NR Arc 5 w' O' 104 106 (.slice d0.2.1 y0.2.length d0.2.2) b3.2 none∧Rw 15 w' O' 3 (.slice t0.1 i1.length t0.2) i1∧Vb w' (Fr 0 w' O') (.slice k7 x0.goals.length l7) x0.goals) _ (none,0) ⟨w9,hB,h1,a0,b0,(Rw.nil 15 (by decide)),w0⟩ ⟨rfl,rfl,rfl,rfl,rfl,rfl,rfl,trivial⟩ (fun _ _=>⟨rfl,rfl⟩) (fun _ _=>⟨rfl,rfl,rfl,rfl,trivial⟩) (fun _ _ _ ⟨O',hB,h1,a0,b0,j1,w0⟩=>⟨O',hB,h1,a0,b0,j1⟩) ⟨rfl,rfl,rfl⟩ ⟨rfl,rfl⟩ ?_
  rintro n7 cI i1 t0 dI rB r3 ⟨eI,hB,h1,a0,b0,j1,w0⟩ v0 a8 b8
  have rk446:inI64 (n7:Int):=rngK r3 q4
  refine Al (Aj (Am rfl rfl ?_))
  obtain ⟨fI,gI,sB,o7,p7,q7,rfl⟩:=w0.elem' r3
  refine Bw (hA:=o7) (hj:=rfl) (hlt:=p7) rfl rfl rfl ?_
  refine AD (hc:=cat0 q7) rfl rfl ?_
  refine An rfl rfl (An rfl rfl (o_z ?_))
  refine Al (Aj (Am rfl rfl (o_z ?_)))
  refine CJ rfl (fun s4=>?_) (fun s4=>?_)
  ·
   replace v0:=ip v0 s4
   refine Aj (Am rfl rfl (Am rfl rfl ?_))
   obtain ⟨hI,t4,v0⟩:=bs v0
   obtain ⟨t4,x9,y9⟩:=Cz t4
   refine Fg rfl (a:=(n7:Int)) j1 (vInt rk446) (fun _=>rfl) rfl (by decide) (by decide) x9 y9 ⟨rfl,rfl⟩ fun iI z9 aA jI kI c2 r7=>?_
   rw [← t4] at r7 ⊢
   refine An rfl rfl (o_z ?_)
   obtain rfl:=sm v0
   exact show Exists _ from ⟨_,(z9,aA),rfl,⟨rfl,rfl,rfl,rfl,rfl,rfl,rfl,trivial⟩,_,hB.st c2,h1.st c2,a0.st c2,b0.st c2,r7,w0.st c2⟩
  replace v0:=im' v0 s4
  refine AH ?_
  obtain rfl:=sm v0
  exact show Exists _ from ⟨_,(t0.1,t0.2),rfl,⟨rfl,rfl,rfl,rfl,rfl,rfl,rfl,trivial⟩,_,hB,h1,a0,b0,j1,w0⟩
 replace hB:=(hB.st v1).st p1
 replace a0:=(a0.st v1).st p1
 replace b0:=(b0.st v1).st p1
 rintro lI mI ⟨nI,oI,rfl,s7,bA,hB,h1,a0,b0,j1⟩
 replace hm:=BA hm
 refine AO _ s7 ?_
 refine Al (Aj (Am rfl rfl (Am rfl rfl (Cv 16 (by decide) bA (xs:=(([0]:List Int):List Int)) rfl rfl rfl rfl ⟨(vInt (show inI64 (0) from by decide)),trivial⟩ (by decide) (by decide) rfl fun pI qI rI d2 e2=>?_))))
 replace a0:=a0.st d2
 obtain ⟨sI,f2,a0⟩:=a0.freeze
 replace e2:=e2.st f2
 obtain ⟨cA,g2,e2⟩:=e2.freeze
 obtain ⟨h2,dA,hm⟩:=bs hm
 replace a0:=a0.st g2
 refine EW (O:=cA) (R:=fun w' F v=>T2 w' F v h2) (FR Fr.lt a0 e2 dA) rfl rfl fun tI uI vI c3 eA=>?_
 obtain ⟨wI,xI,rfl,d3,fA⟩:=eA
 obtain ⟨u4,v4,rfl⟩:=d3.form
 obtain ⟨yI,zI,rfl⟩:=fA.form
 refine Am rfl rfl (AY rfl rfl rfl (AY rfl rfl rfl (BE rfl rfl ?_)))
 replace h1:=(((h1.st d2).st f2).st g2).st c3
 obtain ⟨gA,aJ,bJ,cJ,dJ,eJ,fJ,gJ,hJ,iJ,jJ,e3,tB,q0,f3,g3,h3,i3,j3,k3,l3,iA,jA,kA⟩:=Spa.opn h1 2 3 (by decide)
 obtain ⟨w4,x4,rfl⟩:=f3.form
 obtain ⟨y4,z4,rfl⟩:=g3.form
 obtain ⟨a5,b5,rfl⟩:=h3.form
 obtain ⟨c5,d5,rfl⟩:=i3.form
 obtain ⟨e5,rfl⟩:=j3.ptr
 obtain ⟨f5,g5,rfl⟩:=k3.form
 obtain ⟨h5,i5,rfl⟩:=l3.form
 obtain ⟨kJ,lJ,rfl⟩:=iA.form
 obtain ⟨lA,mA,rfl⟩:=jA.form
 obtain ⟨t7,u7,rfl⟩:=kA.form
 refine AG rfl rfl (Bt q0 rfl rfl rfl (Ci rfl) (allOne rfl) fun nA b1 q0=>?_)
 replace q0:Lc 2 nA gA p0 87 [(.slice w4 x0.t.vars.length x4),(.slice y4 x0.t.init.length z4),(.slice a5 x0.t.goal.length b5),(.slice c5 x0.t.ops.length d5),(.pointer (some ⟨e5,0,none⟩)),(.slice f5 x0.edges.length g5),(.slice h5 x0.goals.length i5),(.slice u4 h2.1.length v4),(.slice lA x0.distances.length mA),(.slice t7 x0.steps.length u7)]:=q0
 refine o_z ?_
 refine Aj (Am rfl rfl (Am rfl rfl (Am rfl rfl (Am rfl rfl ?_))))
 replace b0:=(((((b0.st d2).st f2).st g2).st c3).st e3).st b1
 obtain ⟨mJ,c1,b0⟩:=b0.freeze
 replace j1:=((((((j1.st d2).st f2).st g2).st c3).st e3).st b1).st c1
 obtain ⟨oA,d1,j1⟩:=j1.freeze
 obtain ⟨w1,pA,hm⟩:=bs hm
 replace b0:=b0.st d1
 refine EW (O:=oA) (R:=fun w' F v=>T2 w' F v w1) (FR Fr.lt b0 j1 pA) rfl rfl fun nJ oJ v7 k1 qA=>?_
 obtain ⟨pJ,qJ,rfl,m3,n3⟩:=qA
 obtain ⟨w7,x7,rfl⟩:=m3.form
 obtain ⟨rA,sA,rfl⟩:=n3.form
 refine Am rfl rfl (AY rfl rfl rfl (AY rfl rfl rfl (BE rfl rfl (AG rfl rfl ?_))))
 replace q0:=((q0.st c1).st d1).st k1
 refine Bt q0 rfl rfl rfl (Ci rfl) (allOne rfl) fun tA e1 q0=>?_
 replace q0:Lc 2 tA v7 p0 87 [(.slice w4 x0.t.vars.length x4),(.slice y4 x0.t.init.length z4),(.slice a5 x0.t.goal.length b5),(.slice c5 x0.t.ops.length d5),(.pointer (some ⟨e5,0,none⟩)),(.slice f5 x0.edges.length g5),(.slice h5 x0.goals.length i5),(.slice u4 h2.1.length v4),(.slice w7 w1.1.length x7),(.slice t7 x0.steps.length u7)]:=q0
 refine BE rfl rfl (AG rfl rfl (Bt q0 rfl rfl rfl (Ci rfl) (allOne rfl) fun uA f1 q0=>?_))
 replace q0:Lc 2 uA v7 p0 87 [(.slice w4 x0.t.vars.length x4),(.slice y4 x0.t.init.length z4),(.slice a5 x0.t.goal.length b5),(.slice c5 x0.t.ops.length d5),(.pointer (some ⟨e5,0,none⟩)),(.slice f5 x0.edges.length g5),(.slice h5 x0.goals.length i5),(.slice u4 h2.1.length v4),(.slice w7 w1.1.length x7),(.slice rA w1.2.length sA)]:=q0
 refine o_z ?_
 replace d3:=((((((d3.st e3).st b1).st c1).st d1).st k1).st e1).st f1
 replace f3:=(((((f3.st b1).st c1).st d1).st k1).st e1).st f1
 replace g3:=(((((g3.st b1).st c1).st d1).st k1).st e1).st f1
 replace h3:=(((((h3.st b1).st c1).st d1).st k1).st e1).st f1
 replace i3:=(((((i3.st b1).st c1).st d1).st k1).st e1).st f1
 replace j3:=(((((j3.st b1).st c1).st d1).st k1).st e1).st f1
 replace k3:=(((((k3.st b1).st c1).st d1).st k1).st e1).st f1
 replace l3:=(((((l3.st b1).st c1).st d1).st k1).st e1).st f1
 replace m3:=(m3.st e1).st f1
 replace n3:=(n3.st e1).st f1
 obtain ⟨rJ,vA,uB,vB,wA⟩:=Spa.shut (x:=(⟨(⟨x0.t.vars,x0.t.init,x0.t.goal,x0.t.ops⟩:Tsk),x0.states,x0.edges,x0.goals,h2.1,w1.1,w1.2⟩:Spa)) (l0:=2) (l1:=3) (by decide) q0 f3 g3 h3 i3 j3 k3 l3 d3 m3 n3
 obtain rfl:=sm hm
 replace hB:=(((((((((((hB.st d2).st f2).st g2).st c3).st e3).st b1).st c1).st d1).st k1).st e1).st f1).st vA
 obtain ⟨O',hS',hz,hl⟩:=hE.leave (fun q=>if q=2 then i0 else 0) rfl hB
 exact ret0n rfl  ⟨O',hS',(Ob.leave wA hz (hl 2 (by decide) (by decide)) k5.2)⟩
noncomputable def Dg (x0:Spa):Option Int :=
  bnd (Bb x0.states) fun q45=>some q45
theorem HU {w:World} {O:Lab} {p0 i0:Nat} {x0:Spa} (b0:Ob i0 w O (.pointer (some ⟨p0,0,none⟩)) x0) {r:Int} (hm:Dg x0=some r) :
    Fn Tryz.prog 21 [(.pointer (some ⟨p0,0,none⟩))] w fun v w'=>∃ O',St (eT i0) w O w' O'∧Ob i0 w' O' (.pointer (some ⟨p0,0,none⟩)) x0∧Vb w' (Fr 0 w' O') v r:=by
 obtain ⟨O0,hE,n0,o0⟩:=ent1 (w:=w) (O:=O) b0.2
 have b0':=Ob.leave b0 n0 o0 (j:=2) (by decide)
 have hB:Bm w O0 w O0:=Bm.refl
 refine AI Tryz.func21 rfl Tryz.ntmps21 rfl ?_
 unfold Dg at hm
 refine Al (Aj (An rfl rfl (o_z ?_)))
 refine Al (Al (Aj (Am rfl rfl (Ek rfl rfl ?_))))
 refine o_z ?_
 refine Ae rfl (AH (Al (Aj (Am rfl rfl (BE rfl rfl ?_)))))
 obtain ⟨O2,v6,a1,b1,c1,d1,e1,f1,g1,h1,i1,S3,j1,h4,h7,c0,d0,e0,m0,f0,g0,h0,j0,k0⟩:=Spa.opn b0' 2 3 (by decide)
 obtain ⟨A8,c9,rfl⟩:=h7.form
 obtain ⟨k1,m1,rfl⟩:=c0.form
 obtain ⟨n1,o1,rfl⟩:=d0.form
 obtain ⟨p1,q1,rfl⟩:=e0.form
 obtain ⟨r1,rfl⟩:=m0.ptr
 obtain ⟨s1,t1,rfl⟩:=f0.form
 obtain ⟨u1,v1,rfl⟩:=g0.form
 obtain ⟨w1,x1,rfl⟩:=h0.form
 obtain ⟨y1,z1,rfl⟩:=j0.form
 obtain ⟨a2,b2,rfl⟩:=k0.form
 refine AG rfl rfl (AD (hc:=Blk.cell (i:=4) (h4.1) rfl) rfl rfl ?_)
 obtain ⟨c2,q0,hm⟩:=bs hm
 refine BB (O:=O2) (DI m0 q0) rfl rfl fun d2 e2 f2 a0 r0=>?_
 obtain ⟨s0,t0⟩:=r0
 obtain ⟨rfl,u0⟩:=t0.int
 refine An rfl rfl (o_z ?_)
 refine AF ?_
 replace h4:=h4.st a0
 replace h7:=h7.st a0
 replace c0:=c0.st a0
 replace d0:=d0.st a0
 replace e0:=e0.st a0
 replace f0:=f0.st a0
 replace g0:=g0.st a0
 replace h0:=h0.st a0
 replace j0:=j0.st a0
 replace k0:=k0.st a0
 obtain ⟨g2,v0,w0,y0,z0⟩:=Spa.shut (x:=x0) (l0:=2) (l1:=3) (by decide) h4 h7 c0 d0 e0 s0 f0 g0 h0 j0 k0
 obtain rfl:=sm hm
 replace hB:=((hB.st S3).st a0).st v0
 obtain ⟨O',hS',hz,hl⟩:=hE.leave (fun q=>if q=2 then i0 else 0) rfl hB
 exact ret1v rfl (Az rfl) ⟨O',hS',(Ob.leave z0 hz (hl 2 (by decide) (by decide)) b0.2),(vInt u0)⟩
noncomputable def Cq (x0:Spa) (x1:List Int):Option (Int×Err) :=
  bnd (CY x0.states x1) fun q48=>some (q48.1,(⟨q48.2.n⟩:Err))
theorem Hu {w:World} {O:Lab} {p0 i0:Nat} {x0:Spa} (c0:Ob i0 w O (.pointer (some ⟨p0,0,none⟩)) x0) {vx1:Value} {x1:List Int} (b0:Vb w (Fr 0 w O) vx1 x1) {r:Int×Err} (hm:Cq x0 x1=some r) :
    Fn Tryz.prog 23 [(.pointer (some ⟨p0,0,none⟩)),vx1] w fun v w'=>∃ O',St (eT i0) w O w' O'∧∃ v0 v1:Value,Ob i0 w' O' (.pointer (some ⟨p0,0,none⟩)) x0∧v=.tuple #[v0,v1]∧Vb w' (Fr 0 w' O') v0 r.1∧Vb w' (Fr 0 w' O') v1 r.2:=by
 obtain ⟨O0,hE,o0,r0⟩:=ent1 (w:=w) (O:=O) c0.2
 have c0':=Ob.leave c0 o0 r0 (j:=2) (by decide)
 have hB:Bm w O0 w O0:=Bm.refl
 replace b0:=b0.mono o0
 obtain ⟨A3,c4,rfl⟩:=b0.form
 refine AI Tryz.func23 rfl Tryz.ntmps23 rfl ?_
 unfold Cq at hm
 refine Al (Aj (An rfl rfl (An rfl rfl (o_z ?_))))
 refine Al (Al (Aj (Am rfl rfl (Ek rfl rfl ?_))))
 refine o_z ?_
 refine Ae rfl (AH (Al (Aj (Am rfl rfl (BE rfl rfl ?_)))))
 obtain ⟨O5,v9,f1,g1,h1,i1,j1,k1,m1,n1,o1,S6,p1,h7,d0,e0,f0,g0,q0,h0,j0,k0,m0,n0⟩:=Spa.opn c0' 2 3 (by decide)
 obtain ⟨q1,r1,rfl⟩:=d0.form
 obtain ⟨s1,t1,rfl⟩:=e0.form
 obtain ⟨u1,w1,rfl⟩:=f0.form
 obtain ⟨y1,z1,rfl⟩:=g0.form
 obtain ⟨a2,rfl⟩:=q0.ptr
 obtain ⟨b2,c2,rfl⟩:=h0.form
 obtain ⟨d2,e2,rfl⟩:=j0.form
 obtain ⟨f2,g2,rfl⟩:=k0.form
 obtain ⟨h2,i2,rfl⟩:=m0.form
 obtain ⟨j2,k2,rfl⟩:=n0.form
 refine AG rfl rfl (AD (hc:=Blk.cell (i:=4) (h7.1) rfl) rfl rfl ?_)
 refine Am rfl rfl ?_
 obtain ⟨l2,s0,hm⟩:=bs hm
 replace b0:=b0.st S6
 refine BB (O:=O5) (Gt q0 b0 s0) rfl rfl fun m2 n2 o2 a0 t0=>?_
 obtain ⟨p2,q2,u0,rfl,w0,y0⟩:=t0
 obtain ⟨rfl,z0⟩:=w0.int
 obtain ⟨rfl,a1⟩:=y0.err
 refine AY rfl rfl rfl (AY rfl rfl rfl (An rfl rfl (An rfl rfl (o_z ?_))))
 refine AF ?_
 replace h7:=h7.st a0
 replace d0:=d0.st a0
 replace e0:=e0.st a0
 replace f0:=f0.st a0
 replace g0:=g0.st a0
 replace h0:=h0.st a0
 replace j0:=j0.st a0
 replace k0:=k0.st a0
 replace m0:=m0.st a0
 replace n0:=n0.st a0
 obtain ⟨r2,b1,c1,d1,e1⟩:=Spa.shut (x:=x0) (l0:=2) (l1:=3) (by decide) h7 d0 e0 f0 g0 u0 h0 j0 k0 m0 n0
 obtain rfl:=sm hm
 replace hB:=((hB.st S6).st a0).st b1
 obtain ⟨O',hS',hz,hl⟩:=hE.leave (fun q=>if q=2 then i0 else 0) rfl hB
 exact ret2 rfl (Az rfl) (Az rfl) ⟨O',hS',_,_,(Ob.leave e1 hz (hl 2 (by decide) (by decide)) c0.2),rfl,(vInt z0),(vErr a1)⟩
noncomputable def Cx (x0:Spa):Option (List Int) :=
  bnd (AW x0.distances) fun q45=>some q45
theorem Gc {w:World} {O:Lab} {p0 i0:Nat} {x0:Spa} (c0:Ob i0 w O (.pointer (some ⟨p0,0,none⟩)) x0) {r:(List Int)} (hm:Cx x0=some r) :
    Fn Tryz.prog 19 [(.pointer (some ⟨p0,0,none⟩))] w fun v w'=>∃ O',St (eT i0) w O w' O'∧Ob i0 w' O' (.pointer (some ⟨p0,0,none⟩)) x0∧Vb w' (Fr 0 w' O') v r:=by
 obtain ⟨O0,hE,r0,s0⟩:=ent1 (w:=w) (O:=O) c0.2
 have c0':=Ob.leave c0 r0 s0 (j:=2) (by decide)
 have hB:Bm w O0 w O0:=Bm.refl
 refine AI Tryz.func19 rfl Tryz.ntmps19 rfl ?_
 unfold Cx at hm
 refine Al (Aj (An rfl rfl (o_z ?_)))
 refine Al (Al (Aj (Am rfl rfl (Ek rfl rfl ?_))))
 refine o_z ?_
 refine Ae rfl (AH (Al (Aj (Am rfl rfl (BE rfl rfl ?_)))))
 obtain ⟨O2,v6,y0,z0,a1,b1,c1,d1,e1,f1,g1,S3,h1,h4,h7,f0,g0,h0,j0,k0,m0,n0,d0,o0⟩:=Spa.opn c0' 2 3 (by decide)
 obtain ⟨A8,c9,rfl⟩:=h7.form
 obtain ⟨i1,j1,rfl⟩:=f0.form
 obtain ⟨k1,m1,rfl⟩:=g0.form
 obtain ⟨n1,o1,rfl⟩:=h0.form
 obtain ⟨p1,rfl⟩:=j0.ptr
 obtain ⟨q1,r1,rfl⟩:=k0.form
 obtain ⟨s1,t1,rfl⟩:=m0.form
 obtain ⟨u1,v1,rfl⟩:=n0.form
 obtain ⟨w1,x1,rfl⟩:=d0.form
 obtain ⟨y1,z1,rfl⟩:=o0.form
 refine AG rfl rfl (AD (hc:=Blk.cell (i:=8) (h4.1) rfl) rfl rfl ?_)
 obtain ⟨a2,t0,hm⟩:=bs hm
 refine Ck 4 (by decide) (O:=O2) (Bv Fr.lt d0 t0) rfl rfl fun b2 c2 d2 e2 a0 e0=>?_
 refine An rfl rfl (o_z ?_)
 refine AF ?_
 obtain ⟨f2,b0,e0⟩:=e0.freeze
 replace h4:=(h4.st a0).st b0
 replace h7:=(h7.st a0).st b0
 replace f0:=(f0.st a0).st b0
 replace g0:=(g0.st a0).st b0
 replace h0:=(h0.st a0).st b0
 replace j0:=(j0.st a0).st b0
 replace k0:=(k0.st a0).st b0
 replace m0:=(m0.st a0).st b0
 replace n0:=(n0.st a0).st b0
 replace d0:=(d0.st a0).st b0
 replace o0:=(o0.st a0).st b0
 obtain ⟨g2,q0,u0,v0,w0⟩:=Spa.shut (x:=x0) (l0:=2) (l1:=3) (by decide) h4 h7 f0 g0 h0 j0 k0 m0 n0 d0 o0
 obtain rfl:=sm hm
 replace hB:=(((hB.st S3).st a0).st b0).st q0
 obtain ⟨O',hS',hz,hl⟩:=hE.leave (fun q=>if q=2 then i0 else 0) rfl hB
 replace e0:=e0.st q0
 exact ret1v rfl (Az rfl) ⟨O',hS',(Ob.leave w0 hz (hl 2 (by decide) (by decide)) c0.2),(Vb.mono e0 hz)⟩
end
section
open Go Go.RowKit
attribute [local irreducible] ewp owp hwp hwq hws Ev Evg Fn retPost loud loudS Res1
noncomputable def Dl (x0:Tsk) (x1:List Int) (x2:Int):Option ((List Int)×Err) :=
  bnd (if x2 < 0 then (some true) else (if (x0.ops.length:Int)≤x2 then (some true) else (some false)):Option Bool) fun y28=>if y28=true then (some (([]:List Int),(⟨1⟩:Err))) else (bnd (Eq x0.vars x1) fun q41=>if q41=true then bnd (atI x0.ops x2) fun a48=>bnd (Cc a48.pre x1) fun q69=>if q69=true then bnd (AW x1) fun q76=>bnd (atI x0.ops x2) fun a86=>bnd (rng (ρ:=(List Int)×Err) (fun (k113:Nat) (a114:Eff) (s111:(List Int))=>bnd (Cc a114.cond x1) fun q148=>if q148=true then bnd (atI s111 a114.var) fun a155=>some (.next (s111.set (a114.var:Int).toNat a114.val)) else some (.next s111)) a86.effs 0 q76) fun res109=>fin res109 fun (s173:(List Int))=>some (s173,(⟨0⟩:Err)) else some (([]:List Int),(⟨12⟩:Err)) else some (([]:List Int),(⟨2⟩:Err)))
theorem In {w:World} {A:Nat→Prop} (hA:∀ k,A k→k < w.heap.size) {vx0:Value} {x0:Tsk} (a2:Vb w A vx0 x0) {vx1:Value} {x1:List Int} (c0:Vb w A vx1 x1) {x2:Int} (rx2:inI64 x2) {r:(List Int)×Err} (hm:Dl x0 x1 x2=some r) :
    Fn Tryz.prog 67 [vx0,vx1,(.int .i64 x2)] w fun v w'=>Ext w w'∧T2 w' (upA A w w') v r:=by
 obtain ⟨O,hB,i3⟩:=enter hA
 replace a2:=a2.mono i3
 obtain ⟨l5,rfl,v5,v6,v7,v8,rfl,h9,u0,v0,i0⟩:=a2
 obtain ⟨b2,c2,rfl⟩:=h9.form
 obtain ⟨d2,e2,rfl⟩:=u0.form
 obtain ⟨f2,g2,rfl⟩:=v0.form
 obtain ⟨h2,i2,rfl⟩:=i0.form
 replace c0:=c0.mono i3
 obtain ⟨o1,p1,rfl⟩:=c0.form
 refine AI Tryz.func67 rfl Tryz.ntmps67 rfl ?_
 unfold Dl at hm
 refine Al (Aj (DZ 2 O rfl rfl fun j2 r3 s3 d0 l0=>?_))
 replace l0:Lc 2 r3 s3 j2 26 [(.slice b2 x0.vars.length c2),(.slice d2 x0.init.length e2),(.slice f2 x0.goal.length g2),(.slice h2 x0.ops.length i2)]:=l0
 refine An rfl rfl (An rfl rfl (o_z ?_))
 refine Al (AR (Al ?_))
 obtain ⟨t3,e0,hm⟩:=bs hm
 refine AN (fun l' w'=>∃ (u3:Unit) (O':Lab),subs l' [(1,(.slice o1 x1.length p1)),(2,(.int .i64 x2)),(3,(.pointer (some ⟨j2,0,none⟩))),(11,(.bool t3))]∧Bs w A w' O'∧Vb w' (Fr 0 w' O') (.slice o1 x1.length p1) x1∧Lc 2 w' O' j2 26 [(.slice b2 x0.vars.length c2),(.slice d2 x0.init.length e2),(.slice f2 x0.goal.length g2),(.slice h2 x0.ops.length i2)]∧Vb w' (Fr 0 w' O') (.slice b2 x0.vars.length c2) x0.vars∧Vb w' (Fr 0 w' O') (.slice d2 x0.init.length e2) x0.init∧Vb w' (Fr 0 w' O') (.slice f2 x0.goal.length g2) x0.goal∧Vb w' (Fr 0 w' O') (.slice h2 x0.ops.length i2) x0.ops) ?_ ?_
 ·
  refine Aj (Am rfl rfl (CT rfl rfl rfl (fun k2=>?_) fun k2=>?_))
  ·
   replace e0:=ip e0 k2
   refine Am rfl rfl (Aw rfl rfl rfl rfl (Aw rfl rfl rfl rfl (Aw rfl rfl rfl rfl (Aw rfl rfl rfl rfl (Aw rfl rfl rfl rfl (Bk rfl rfl rfl (An rfl rfl (o_z ?_))))))))
   obtain rfl:=sm e0
   exact ⟨(),_,⟨rfl,rfl,rfl,rfl,trivial⟩,hB.st d0,c0.st d0,l0,h9.st d0,u0.st d0,v0.st d0,i0.st d0⟩
  replace e0:=im e0 k2
  refine Am rfl rfl (Au rfl rfl (Am rfl rfl (Au rfl rfl (AG rfl rfl (Au rfl rfl (AD (hc:=Blk.cell (i:=3) (l0.1) rfl) rfl rfl ?_))))))
  refine Au rfl rfl (AQ rfl rfl ?_)
  replace i0:=i0.st d0
  have v3:x0.ops.length≤9223372036854775807:=Nat.le_trans i0.len.2.1 i0.len.2.2
  have m5:inI64 (x0.ops.length:Int):=rngNat v3
  refine Au rfl rfl (EY rfl rfl rfl (fun l2=>?_) fun l2=>?_)
  ·
   replace e0:=ip e0 l2
   refine Bf rfl rfl rfl (An rfl rfl (o_z ?_))
   obtain rfl:=sm e0
   exact ⟨(),_,⟨rfl,rfl,rfl,rfl,trivial⟩,hB.st d0,c0.st d0,l0,h9.st d0,u0.st d0,v0.st d0,i0⟩
  replace e0:=im e0 l2
  refine Bf rfl rfl rfl (An rfl rfl (o_z ?_))
  obtain rfl:=sm e0
  exact ⟨(),_,⟨rfl,rfl,rfl,rfl,trivial⟩,hB.st d0,c0.st d0,l0,h9.st d0,u0.st d0,v0.st d0,i0⟩
 replace hB:=hB.st d0
 replace c0:=c0.st d0
 replace h9:=h9.st d0
 replace u0:=u0.st d0
 replace v0:=v0.st d0
 replace i0:=i0.st d0
 rintro n5 q1 ⟨u3,r1,m2,hB,c0,l0,h9,u0,v0,i0⟩
 refine AO _ m2 ?_
 refine CJ rfl (fun n2=>?_) (fun n2=>?_)
 ·
  replace hm:=ip hm n2
  refine Al (Aj (CU rfl rfl ?_))
  refine An rfl rfl (An rfl rfl (o_z ?_))
  refine AF ?_
  obtain rfl:=sm hm
  exact ret2 rfl (Az rfl) (Az rfl) ⟨hB.ext,_,_,rfl,(Vb.mono (F:=Fr 0 q1 r1) (Vb.nil _ _) hB.out),(vErr (by decide))⟩
 replace hm:=im' hm n2
 refine Al (Aj (AG rfl rfl (AD (hc:=Blk.cell (i:=0) (l0.1) rfl) rfl rfl ?_)))
 refine Am rfl rfl ?_
 obtain ⟨j3,w3,hm⟩:=bs hm
 refine BO (O:=r1) (A:=All q1) (R:=fun w' F v=>Vb w' F v j3) (HN (fun _ h=>h) (Vb.mono (F:=Fr 0 q1 r1) h9 Fr.lt) (Vb.mono (F:=Fr 0 q1 r1) c0 Fr.lt) w3) rfl rfl fun o5 s1 t1 w0 x3=>?_
 obtain rfl:=x3.bool
 cases j3
 case false =>
  replace hm:=iF hm
  refine CL rfl rfl (An rfl rfl (o_z ?_))
  refine Ah rfl (Al (Aj (CU rfl rfl ?_)))
  refine An rfl rfl (An rfl rfl (o_z ?_))
  refine AF ?_
  obtain rfl:=sm hm
  replace hB:=hB.st w0
  exact ret2 rfl (Az rfl) (Az rfl) ⟨hB.ext,_,_,rfl,(Vb.mono (F:=Fr 0 s1 t1) (Vb.nil _ _) hB.out),(vErr (by decide))⟩
 replace hm:=iT hm
 refine CK rfl rfl (An rfl rfl (o_z ?_))
 refine Ae rfl (Al (Aj (AG rfl rfl ?_)))
 replace l0:=l0.st w0
 refine AD (hc:=Blk.cell (i:=3) (l0.1) rfl) rfl rfl ?_
 refine Am rfl rfl ?_
 obtain ⟨p5,y3,hm⟩:=bs hm
 obtain ⟨z3,a4⟩:=AK y3
 replace i0:=i0.st w0
 obtain ⟨q5,r5,b4,o2,p2,q2,s5,t5,rfl,k3,c4,u5,w5⟩:=i0.elem' a4
 obtain ⟨x5,y5,rfl⟩:=k3.form
 obtain ⟨z5,a6,rfl⟩:=c4.form
 refine Bw (hA:=o2) (hj:=(Int.toNat_of_nonneg z3).symm) (hlt:=p2) rfl rfl rfl ?_
 refine AG rfl rfl (AD (hc:=cat2 q2) rfl rfl ?_)
 refine Am rfl rfl ?_
 obtain ⟨l3,d4,hm⟩:=bs hm
 replace c0:=c0.st w0
 refine BO (O:=t1) (A:=All s1) (R:=fun w' F v=>Vb w' F v l3) (Ey (fun _ h=>h) (Vb.mono (F:=Fr 0 s1 t1) k3 Fr.lt) (Vb.mono (F:=Fr 0 s1 t1) c0 Fr.lt) d4) rfl rfl fun b6 e4 m3 b1 f4=>?_
 obtain rfl:=f4.bool
 cases l3
 case false =>
  replace hm:=iF hm
  refine CL rfl rfl (An rfl rfl (o_z ?_))
  refine Ah rfl (Al (Aj (CU rfl rfl ?_)))
  refine An rfl rfl (An rfl rfl (o_z ?_))
  refine AF ?_
  obtain rfl:=sm hm
  replace hB:=(hB.st w0).st b1
  exact ret2 rfl (Az rfl) (Az rfl) ⟨hB.ext,_,_,rfl,(Vb.mono (F:=Fr 0 e4 m3) (Vb.nil _ _) hB.out),(vErr (by decide))⟩
 replace hm:=iT hm
 refine CK rfl rfl (An rfl rfl (o_z ?_))
 refine Ae rfl (AH (Al (Aj (Am rfl rfl ?_))))
 obtain ⟨u1,g4,hm⟩:=bs hm
 replace c0:=c0.st b1
 refine Ck 3 (by decide) (O:=m3) (Bv Fr.lt c0 g4) rfl rfl fun v1 w1 c6 h4 d1 i4=>?_
 refine An rfl rfl (o_z ?_)
 refine Al (Al (Aj (AG rfl rfl ?_)))
 replace l0:=(l0.st b1).st d1
 refine AD (hc:=Blk.cell (i:=3) (l0.1) rfl) rfl rfl ?_
 refine Am rfl rfl ?_
 obtain ⟨c1,j4,hm⟩:=bs hm
 obtain ⟨k4,l4⟩:=AK j4
 replace i0:=(i0.st b1).st d1
 obtain ⟨d6,e6,m4,r2,s2,t2,f6,g6,rfl,n4,f0,o4,p4⟩:=i0.elem' l4
 obtain ⟨q4,r4,rfl⟩:=n4.form
 obtain ⟨e1,f1,rfl⟩:=f0.form
 refine Bw (hA:=r2) (hj:=(Int.toNat_of_nonneg k4).symm) (hlt:=s2) rfl rfl rfl ?_
 refine AG rfl rfl (AD (hc:=cat3 t2) rfl rfl ?_)
 refine AQ rfl rfl ?_
 have y0:c1.effs.length≤9223372036854775807:=Nat.le_trans f0.len.2.1 f0.len.2.2
 have s4:inI64 (c1.effs.length:Int):=rngNat y0
 refine Am rfl rfl (o_z ?_)
 obtain ⟨z0,g1,hm⟩:=bs hm
 refine AN (aft z0 (fun (m0:(List Int)) (n0:Unit)=>[(8,(.slice v1 u1.length w1))]) (fun m0 n0 w'=>∃ O':Lab,Bs w A w' O'∧Rw 3 w' O' 3 (.slice v1 u1.length w1) m0)) ?_ ?_
 ·
  refine AR ?_
  replace hB:=((hB.st w0).st b1).st d1
  replace c0:=c0.st d1
  refine Ct (σ:=(List Int)) (X:=Unit) (c1.effs.length) g1 rfl y0 (fun (m0:(List Int)) (n0:Unit)=>[(1,(.slice o1 x1.length p1)),(8,(.slice v1 u1.length w1)),(47,(.slice e1 c1.effs.length f1))]) _ (fun m0 n0 w'=>∃ O':Lab,Bs w A w' O'∧Vb w' (Fr 0 w' O') (.slice o1 x1.length p1) x1∧Rw 3 w' O' 3 (.slice v1 u1.length w1) m0∧Vb w' (Fr 0 w' O') (.slice e1 c1.effs.length f1) c1.effs) _ () ⟨h4,hB,c0,i4,f0⟩ ⟨rfl,rfl,rfl,rfl,rfl,trivial⟩ (fun _ _=>⟨rfl,rfl⟩) (fun _ _=>⟨rfl,trivial⟩) (fun _ _ _ ⟨O',hB,c0,b0,f0⟩=>⟨O',hB,b0⟩) ⟨rfl,rfl,rfl⟩ ⟨rfl,rfl⟩ ?_
  rintro u2 o0 m0 n0 t4 n3 s0 ⟨v2,hB,c0,b0,f0⟩ a0 y1 z1
  have rk113:inI64 (u2:Int):=rngK s0 y0
  refine Al (Aj ?_)
  obtain ⟨u4,v4,o3,h1,i1,j1,w4,rfl,p0,x4,w2⟩:=f0.elem' s0
  obtain ⟨y2,z2,rfl⟩:=p0.form
  refine Bw (hA:=h1) (hj:=rfl) (hlt:=i1) rfl rfl rfl ?_
  refine Bz (hl:=rfl) (hc:=j1) rfl rfl ?_
  refine Db 4 v2 rfl fun a3 y4 q0 j0 g0=>?_
  refine Bt g0 rfl rfl rfl (Ci rfl) (allOne rfl) fun r0 k0 g0=>?_
  replace g0:Lc 4 r0 q0 a3 76 [(.slice y2 o0.cond.length z2),(.int .i64 o0.var),(.int .i64 o0.val)]:=g0
  refine o_z ?_
  refine Al (Aj (AG rfl rfl (AD (hc:=Blk.cell (i:=0) (g0.1) rfl) rfl rfl ?_)))
  refine Am rfl rfl ?_
  obtain ⟨k1,b3,a0⟩:=bs a0
  replace c0:=(c0.st j0).st k0
  replace p0:=(p0.st j0).st k0
  refine BO (O:=q0) (A:=All r0) (R:=fun w' F v=>Vb w' F v k1) (Ey (fun _ h=>h) (Vb.mono (F:=Fr 0 r0 q0) p0 Fr.lt) (Vb.mono (F:=Fr 0 r0 q0) c0 Fr.lt) b3) rfl rfl fun z4 a5 b5 h0 c3=>?_
  obtain rfl:=c3.bool
  cases k1
  case false =>
   replace a0:=iF a0
   refine o_z ?_
   refine Ae rfl (AH ?_)
   obtain rfl:=sm a0
   exact show Exists _ from ⟨_,(),rfl,⟨rfl,rfl,rfl,rfl,rfl,trivial⟩,_,((hB.st j0).st k0).st h0,c0.st h0,((b0.st j0).st k0).st h0,((f0.st j0).st k0).st h0⟩
  replace a0:=iT a0
  refine o_z ?_
  refine Ah rfl (Aj (Am rfl rfl (AG rfl rfl ?_)))
  replace g0:=g0.st h0
  refine AD (hc:=Blk.cell (i:=1) (g0.1) rfl) rfl rfl ?_
  refine AG rfl rfl (AD (hc:=Blk.cell (i:=2) (g0.1) rfl) rfl rfl ?_)
  obtain ⟨c5,d3,a0⟩:=bs a0
  obtain ⟨e3,l1⟩:=AK d3
  replace b0:=((b0.st j0).st k0).st h0
  obtain ⟨d5,e5,p3,t0,m1,q3,rfl,f5⟩:=b0.elem l1
  refine Bw (hA:=t0) (hj:=(Int.toNat_of_nonneg e3).symm) (hlt:=m1) rfl rfl rfl ?_
  refine Ds rfl b0 (a:=o0.val) (vInt w2) t0 rfl rfl (AC l1) fun g5 a1 b0=>?_
  refine o_z ?_
  obtain rfl:=sm a0
  exact show Exists _ from ⟨_,(),rfl,⟨rfl,rfl,rfl,rfl,rfl,trivial⟩,_,(((hB.st j0).st k0).st h0).st a1,(c0.st h0).st a1,b0,(((f0.st j0).st k0).st h0).st a1⟩
 replace hB:=((hB.st w0).st b1).st d1
 rintro h5 f3 ⟨i5,j5,rfl,n1,k5,hB,b0⟩
 replace hm:=BA hm
 refine AO _ n1 ?_
 refine Al (Aj (Am rfl rfl (An rfl rfl (An rfl rfl (o_z ?_)))))
 refine AF ?_
 obtain ⟨g3,h3,b0⟩:=b0.freeze
 obtain rfl:=sm hm
 replace hB:=hB.st h3
 exact ret2 rfl (Az rfl) (Az rfl) ⟨hB.ext,_,_,rfl,(Vb.mono (F:=Fr 0 f3 g3) b0 hB.out),(vErr (show inI64 0 from by decide))⟩
end
section
open Go Go.RowKit
theorem Ip {P:Program} {t:TypeId} [h:TIface P t] (s:TypeId) (v:Value) (w:World):(Op.equal t .nilIface (.iface s v)).run P w=.ok false w:=by
  obtain ⟨ms,hm⟩:=h.eq
  have hd:∀ d:Nat,(Op.equalIn (d + 1) t .nilIface (.iface s v)).run P w=.ok false w:=fun d=>by
    simp [Op.equalIn,run_underlying hm]
  exact hd 9999
theorem Qg {P:Program} {l:Env} {w:World} {dst:Option Tmp} {ty:TypeId} {pos:String} {aft:Array Edge} {t u:TypeId} [TIface P t] {x y:Operand} {s:TypeId} {v:Value} (hx:opv l x=some .nilIface) (hy:opv l y=some (.iface s v)):Ev P ⟨dst,.binOp .eql t x y u,ty,pos,aft,none⟩ l w (.bool false):=fun _ a d ha=>by
  simp [execOp,ha.eval hx,ha.eval hy,eqGuard,binOp,Ip (P:=P) (t:=t)]
section
attribute [local irreducible] ewp owp hwp hwq hws Ev Evg Fn retPost loud loudS Res1
attribute [local irreducible] hwx loudX
theorem LD {w:World} {A:Nat→Prop} (hA:∀ k,A k→k < w.heap.size) {x0:Err} (rx0:inI64 x0.n) {x1:Err} (rx1:inI64 x1.n) {r:Bool} (hm:DX x0 x1=some r) :
    Fn Tryz.prog 50 [(errV x0.n),(errV x1.n)] w fun v w'=>Ext w w'∧Vb w' (upA A w w') v r:=by
  obtain ⟨⟨e0,e1⟩,rfl⟩:=Fa hm
  obtain ⟨O,hB,a0⟩:=enter hA
  refine AI Tryz.func50 rfl Tryz.ntmps50 rfl ?_
  rw [e0,Fh,FF e1]
  refine Al (Aj (An rfl rfl (o_z ?_)))
  refine Al (Al (Aj (Am rfl rfl (Nx rfl rfl ?_))))
  refine Am rfl rfl (Aw rfl rfl rfl rfl (Aw rfl rfl rfl rfl (Bk rfl rfl rfl (o_z ?_))))
  refine Ah rfl (Al (Aj (Am rfl rfl (Am rfl rfl (AT (Qg rfl rfl) rfl (An rfl rfl (o_z ?_)))))))
  refine AF ?_
  exact ret1v rfl (Az rfl) ⟨hB.ext,vBool⟩
end
end
section
open Go Go.RowKit
attribute [local irreducible] ewp owp hwp hwq hws Ev Evg Fn retPost loud loudS Res1
attribute [local irreducible] hwx loudX
noncomputable def Cf (x0:Tsk) (x1:Int):Option ((Option Spa)×Err) :=
  bnd (DL x0) fun q25=>if q25.2.n≠0 then (some (none,(⟨q25.2.n⟩:Err))) else (bnd (CS x0.vars) fun q40=>if q40.2.n≠0 then (some (none,(⟨q40.2.n⟩:Err))) else (if (max 0 (min x1 65536)) < 1 then (some (none,(⟨10⟩:Err))) else (bnd q40.1 fun o54=>bnd (Bh o54 x0.init) fun q57=>if q57.2.2.1.n≠0 then (some (none,(⟨q57.2.2.1.n⟩:Err))) else (bnd (CC x0) fun q74=>bnd (lop (ρ:=(Option Spa)×Err) (fun (s105:Int×(List Edj)×(List Bool)×Reg)=>bnd (Bb s105.2.2.2) fun q130=>if s105.1 < q130 then (bnd (By s105.2.2.2 s105.1) fun q141=>if q141.2.n≠0 then (some (.ret (none,(⟨q141.2.n⟩:Err)))) else (bnd (bnd (Cc x0.goal q141.1) fun q163=>if q163=true then bnd (appI 1 s105.2.2.1 [true]) fun u195=>some u195 else bnd (appI 1 s105.2.2.1 [false]) fun u176=>some u176:Option (List Bool)) fun y157=>bnd (Bj q25.1 q141.1) fun q212=>bnd (rng (ρ:=Ctl (Int×(List Edj)×(List Bool)×Reg) ((Option Spa)×Err)) (fun (k227:Nat) (a228:Suc) (s225:(List Edj)×Reg)=>bnd (Bh s225.2 a228.state) fun q263=>bnd (bnd (DX (⟨q263.2.2.1.n⟩:Err) (⟨10⟩:Err)) fun q283=>if q283=true then some true else if q263.2.1=true then (if (max 0 (min x1 65536))≤q263.1 then (some true) else (some false)) else (some false):Option Bool) fun y279=>if y279=true then (some (.ret (.ret (none,(⟨10⟩:Err))))) else (if q263.2.2.1.n≠0 then (some (.ret (.ret (none,(⟨q263.2.2.1.n⟩:Err))))) else (bnd (appI 24 s225.1 [(⟨s105.1,a228.op,q263.1⟩:Edj)]) fun u304=>some (.next (u304,q263.2.2.2))))) q212 0 (s105.2.1,s105.2.2.2)) fun res223=>fin res223 fun (s321:(List Edj)×Reg)=>bnd (chkI (s105.1 + 1)) fun n323=>some (.next (n323,s321.1,y157,s321.2)))) else (some (.brk (s105.1,s105.2.1,s105.2.2.1,s105.2.2.2)))) (0,([]:List Edj),([]:List Bool),q57.2.2.2)) fun res103=>fin res103 fun (s330:Int×(List Edj)×(List Bool)×Reg)=>bnd (BI (⟨(⟨q74.vars,q74.init,q74.goal,q74.ops⟩:Tsk),s330.2.2.2,s330.2.1,s330.2.2.1,([]:List Int),([]:List Int),([]:List Int)⟩:Spa)) fun q341=>some ((some q341),(⟨0⟩:Err))))))
theorem FX {w:World} {O:Lab} {vx0:Value} {x0:Tsk} (r5:Vb w (Fr 0 w O) vx0 x0) {x1:Int} (rx1:inI64 x1) (j0:Nat) (hj0:j0≠0) {r:(Option Spa)×Err} (hm:Cf x0 x1=some r) :
    Fn Tryz.prog 12 [vx0,(.int .i64 x1)] w fun v w'=>∃ O',St nT w O w' O'∧∃ v0 v1:Value,v=.tuple #[v0,v1]∧Obo j0 w' O' v0 r.1∧Vb w' (Fr 0 w' O') v1 r.2:=by
 obtain ⟨O0,hE,k8⟩:=ent0 (w:=w) (O:=O)
 have hB:Bm w O0 w O0:=Bm.refl
 replace r5:=r5.mono k8
 obtain ⟨qB,rfl,v4,v5,v6,v7,rfl,h8,u0,w0,h1⟩:=r5
 obtain ⟨A9,t2,rfl⟩:=h8.form
 obtain ⟨u2,v2,rfl⟩:=u0.form
 obtain ⟨w2,x2,rfl⟩:=w0.form
 obtain ⟨y2,z2,rfl⟩:=h1.form
 refine AI Tryz.func12 rfl Tryz.ntmps12 rfl ?_
 unfold Cf at hm
 refine Al (Aj (DZ 2 O0 rfl rfl fun d3 l8 d8 i3 s0=>?_))
 replace s0:Lc 2 l8 d8 d3 26 [(.slice A9 x0.vars.length t2),(.slice u2 x0.init.length v2),(.slice w2 x0.goal.length x2),(.slice y2 x0.ops.length z2)]:=s0
 refine An rfl rfl (An rfl rfl (o_z ?_))
 refine Al (Aj (Bz (hl:=rfl) (hc:=(s0.1).cellsAt) rfl rfl ?_))
 obtain ⟨j4,m8,hm⟩:=bs hm
 replace h8:=h8.st i3
 replace u0:=u0.st i3
 replace w0:=w0.st i3
 replace h1:=h1.st i3
 refine EW (O:=d8) (R:=fun w' F v=>T2 w' F v j4) (Kw Fr.lt (Vb.ofAgg (cs:=[(.slice A9 x0.vars.length t2),(.slice u2 x0.init.length v2),(.slice w2 x0.goal.length x2),(.slice y2 x0.ops.length z2)]) (x:=x0) rfl ⟨_,_,_,_,rfl,h8,u0,w0,h1⟩) m8) rfl rfl fun rB sB n8 e3 o8=>?_
 obtain ⟨tB,uB,rfl,t1,p8⟩:=o8
 obtain ⟨j3,rfl,q8⟩:=t1.ptr
 obtain ⟨rfl,r8⟩:=p8.err
 refine Am rfl rfl (AY rfl rfl rfl (AY rfl rfl rfl (An rfl rfl (An rfl rfl (o_z ?_)))))
 refine Al (Al (Aj (Am rfl rfl (Dd rfl rfl (fun s5=>?_) fun s5=>?_))))
 ·
  replace hm:=ip hm s5
  refine o_z ?_
  refine Ah rfl (Al (Aj (Am rfl rfl (An rfl rfl (An rfl rfl (o_z ?_))))))
  refine AF ?_
  obtain rfl:=sm hm
  replace hB:=(hB.st i3).st e3
  obtain ⟨O',hS',hz,hl⟩:=hE.leave (fun _=>0) rfl hB
  exact ret2 rfl (Az rfl) (Az rfl) ⟨O',hS',_,_,rfl,rfl,(vErr r8)⟩
 replace hm:=im hm s5
 refine o_z ?_
 refine Ae rfl (AH (Al (Aj (Am rfl rfl (Oq rfl rfl rfl ?_)))))
 refine Or rfl rfl rfl ?_
 refine An rfl rfl (o_z ?_)
 refine Al (Aj (AG rfl rfl ?_))
 replace s0:=s0.st e3
 refine AD (hc:=Blk.cell (i:=0) (s0.1) rfl) rfl rfl ?_
 obtain ⟨vB,s8,hm⟩:=bs hm
 replace h8:=h8.st e3
 refine BB (O:=n8) (JW h8 3 (by decide) s8) rfl rfl fun wB xB t8 f3 u8=>?_
 obtain ⟨yB,zB,rfl,t5,v8⟩:=u8
 obtain ⟨rfl,w8⟩:=v8.err
 refine Am rfl rfl (AY rfl rfl rfl (AY rfl rfl rfl (An rfl rfl (An rfl rfl (o_z ?_)))))
 refine Al (Al (Aj (Am rfl rfl (Dd rfl rfl (fun u5=>?_) fun u5=>?_))))
 ·
  replace hm:=ip hm u5
  refine o_z ?_
  refine Ah rfl (Al (Aj (Am rfl rfl (An rfl rfl (An rfl rfl (o_z ?_))))))
  refine AF ?_
  obtain rfl:=sm hm
  replace hB:=((hB.st i3).st e3).st f3
  obtain ⟨O',hS',hz,hl⟩:=hE.leave (fun _=>0) rfl hB
  exact ret2 rfl (Az rfl) (Az rfl) ⟨O',hS',_,_,rfl,rfl,(vErr w8)⟩
 replace hm:=im hm u5
 refine o_z ?_
 refine Ae rfl (AH (Al (Al (Aj (Am rfl rfl (CT rfl rfl rfl (fun w5=>?_) fun w5=>?_))))))
 ·
  replace hm:=ip hm w5
  refine o_z ?_
  refine Ah rfl (Al (Aj (CU rfl rfl ?_)))
  refine An rfl rfl (An rfl rfl (o_z ?_))
  refine AF ?_
  obtain rfl:=sm hm
  replace hB:=((hB.st i3).st e3).st f3
  obtain ⟨O',hS',hz,hl⟩:=hE.leave (fun _=>0) rfl hB
  exact ret2 rfl (Az rfl) (Az rfl) ⟨O',hS',_,_,rfl,rfl,(vErr (by decide))⟩
 replace hm:=im hm w5
 refine o_z ?_
 refine Ae rfl (AH (Al (Al (Aj (Am rfl rfl (AG rfl rfl ?_))))))
 replace s0:=s0.st f3
 refine AD (hc:=Blk.cell (i:=1) (s0.1) rfl) rfl rfl ?_
 obtain ⟨aC,x8,hm⟩:=bs hm
 rw [x8] at t5
 obtain ⟨c2,rfl⟩:=Ob.ptr t5
 obtain ⟨bC,y8,hm⟩:=bs hm
 replace u0:=(u0.st e3).st f3
 refine BB (O:=t8) (EM t5 u0 y8) rfl rfl fun cC dC z8 k3 a9=>?_
 obtain ⟨eC,fC,gC,x5,rfl,b9,c9,d9⟩:=a9
 obtain ⟨rfl,hC⟩:=b9.int
 obtain rfl:=c9.bool
 obtain ⟨rfl,e9⟩:=d9.err
 refine Am rfl rfl (AY rfl rfl rfl (AY rfl rfl rfl (AY rfl rfl rfl (An rfl rfl (An rfl rfl (An rfl rfl (o_z ?_)))))))
 refine Al (Aj (Am rfl rfl (Dd rfl rfl (fun y5=>?_) fun y5=>?_)))
 ·
  replace hm:=ip hm y5
  refine o_z ?_
  refine Ah rfl (Al (Aj (Am rfl rfl (An rfl rfl (An rfl rfl (o_z ?_))))))
  refine AF ?_
  obtain rfl:=sm hm
  replace hB:=(((hB.st i3).st e3).st f3).st k3
  obtain ⟨O',hS',hz,hl⟩:=hE.leave (fun _=>0) rfl hB
  exact ret2 rfl (Az rfl) (Az rfl) ⟨O',hS',_,_,rfl,rfl,(vErr e9)⟩
 replace hm:=im hm y5
 refine o_z ?_
 refine Ae rfl (AH (Al (Aj ?_)))
 replace s0:=s0.st k3
 refine Bz (hl:=rfl) (hc:=(s0.1).cellsAt) rfl rfl ?_
 obtain ⟨g0,f9,hm⟩:=bs hm
 replace h8:=(h8.st f3).st k3
 replace u0:=u0.st k3
 replace w0:=((w0.st e3).st f3).st k3
 replace h1:=((h1.st e3).st f3).st k3
 refine EW (O:=z8) (R:=fun w' F v=>Vb w' F v g0) (Jk Fr.lt (Vb.ofAgg (cs:=[(.slice A9 x0.vars.length t2),(.slice u2 x0.init.length v2),(.slice w2 x0.goal.length x2),(.slice y2 x0.ops.length z2)]) (x:=x0) rfl ⟨_,_,_,_,rfl,h8,u0,w0,h1⟩) f9) rfl rfl fun iC jC g9 l3 h9=>?_
 obtain ⟨i9,rfl,kC,lC,mC,nC,rfl,z0,a1,b1,c1⟩:=h9
 obtain ⟨h2,i2,rfl⟩:=z0.form
 obtain ⟨j2,k2,rfl⟩:=a1.form
 obtain ⟨l2,m2,rfl⟩:=b1.form
 obtain ⟨n2,o2,rfl⟩:=c1.form
 refine Am rfl rfl (EP rfl rfl rfl ?_)
 refine DZ 4 g9 rfl rfl fun p2 j9 k4 d1 e0=>?_
 replace e0:Lc 4 j9 k4 p2 87 [(.slice h2 g0.vars.length i2),(.slice j2 g0.init.length k2),(.slice l2 g0.goal.length m2),(.slice n2 g0.ops.length o2),(.pointer (some ⟨c2,0,none⟩)),(.slice none 0 0),(.slice none 0 0),(.slice none 0 0),(.slice none 0 0),(.slice none 0 0)]:=e0
 refine An rfl rfl (o_z ?_)
 refine Al (Al (Aj (An rfl rfl (o_z ?_))))
 obtain ⟨s3,l4,hm⟩:=bs hm
 refine AN (aft s3 (fun (k0:Int×(List Edj)×(List Bool)×Reg) (m0:(Option Addr×Nat)×(Option Addr×Nat))=>[(12,(.pointer (some ⟨p2,0,none⟩)))]) (fun k0 m0 w'=>∃ O':Lab,Bm w O0 w' O'∧Lc 4 w' O' p2 87 [(.slice h2 g0.vars.length i2),(.slice j2 g0.init.length k2),(.slice l2 g0.goal.length m2),(.slice n2 g0.ops.length o2),(.pointer (some ⟨c2,0,none⟩)),(.slice m0.1.1 k0.2.1.length m0.1.2),(.slice m0.2.1 k0.2.2.1.length m0.2.2),(.slice none 0 0),(.slice none 0 0),(.slice none 0 0)]∧Vb w' (Fr 0 w' O') (.slice h2 g0.vars.length i2) g0.vars∧Vb w' (Fr 0 w' O') (.slice j2 g0.init.length k2) g0.init∧Vb w' (Fr 0 w' O') (.slice l2 g0.goal.length m2) g0.goal∧Vb w' (Fr 0 w' O') (.slice n2 g0.ops.length o2) g0.ops∧Ob 3 w' O' (.pointer (some ⟨c2,0,none⟩)) k0.2.2.2∧Rw 9 w' O' 94 (.slice m0.1.1 k0.2.1.length m0.1.2) k0.2.1∧Rw 6 w' O' 4 (.slice m0.2.1 k0.2.2.1.length m0.2.2) k0.2.2.1∧inI64 k0.1)) ?_ ?_
 ·
  refine AR ?_
  replace hB:=(((((hB.st i3).st e3).st f3).st k3).st l3).st d1
  replace h8:=(h8.st l3).st d1
  replace u0:=(u0.st l3).st d1
  replace w0:=(w0.st l3).st d1
  replace h1:=(h1.st l3).st d1
  replace s0:=(s0.st l3).st d1
  replace t1:=(((t1.st f3).st k3).st l3).st d1
  replace x5:=(x5.st l3).st d1
  replace z0:=z0.st d1
  replace a1:=a1.st d1
  replace b1:=b1.st d1
  replace c1:=c1.st d1
  refine FE (σ:=Int×(List Edj)×(List Bool)×Reg) (X:=(Option Addr×Nat)×(Option Addr×Nat)) l4 (fun (k0:Int×(List Edj)×(List Bool)×Reg) (m0:(Option Addr×Nat)×(Option Addr×Nat))=>[(1,(.int .i64 (max 0 (min x1 65536)))),(2,(.pointer (some ⟨d3,0,none⟩))),(6,(.pointer j3)),(8,(.pointer (some ⟨c2,0,none⟩))),(12,(.pointer (some ⟨p2,0,none⟩))),(13,(.int .i64 k0.1))]) _ (fun k0 m0 w'=>∃ O':Lab,Bm w O0 w' O'∧Lc 2 w' O' d3 26 [(.slice A9 x0.vars.length t2),(.slice u2 x0.init.length v2),(.slice w2 x0.goal.length x2),(.slice y2 x0.ops.length z2)]∧Vb w' (Fr 0 w' O') (.slice A9 x0.vars.length t2) x0.vars∧Vb w' (Fr 0 w' O') (.slice u2 x0.init.length v2) x0.init∧Vb w' (Fr 0 w' O') (.slice w2 x0.goal.length x2) x0.goal∧Vb w' (Fr 0 w' O') (.slice y2 x0.ops.length z2) x0.ops∧Vb w' (Fr 0 w' O') (.pointer j3) j4.1∧Ob 3 w' O' (.pointer (some ⟨c2,0,none⟩)) k0.2.2.2∧Lc 4 w' O' p2 87 [(.slice h2 g0.vars.length i2),(.slice j2 g0.init.length k2),(.slice l2 g0.goal.length m2),(.slice n2 g0.ops.length o2),(.pointer (some ⟨c2,0,none⟩)),(.slice m0.1.1 k0.2.1.length m0.1.2),(.slice m0.2.1 k0.2.2.1.length m0.2.2),(.slice none 0 0),(.slice none 0 0),(.slice none 0 0)]∧Vb w' (Fr 0 w' O') (.slice h2 g0.vars.length i2) g0.vars∧Vb w' (Fr 0 w' O') (.slice j2 g0.init.length k2) g0.init∧Vb w' (Fr 0 w' O') (.slice l2 g0.goal.length m2) g0.goal∧Vb w' (Fr 0 w' O') (.slice n2 g0.ops.length o2) g0.ops∧Rw 9 w' O' 94 (.slice m0.1.1 k0.2.1.length m0.1.2) k0.2.1∧Rw 6 w' O' 4 (.slice m0.2.1 k0.2.2.1.length m0.2.2) k0.2.2.1∧inI64 k0.1) _ ((none,0),(none,0)) ⟨k4,hB,s0,h8,u0,w0,h1,t1,x5,e0,z0,a1,b1,c1,(Rw.nil 9 (by decide)),(Rw.nil 6 (by decide)),(show inI64 (0) from by decide)⟩ ⟨rfl,rfl,rfl,rfl,rfl,rfl,trivial⟩ ?_
  rintro k0 m0 k9 e8 ⟨z5,hB,s0,h8,u0,w0,h1,t1,g3,e0,z0,a1,b1,c1,n1,w1,m3⟩ h0 d2 n3
  refine Al (Al (Aj (Am rfl rfl (Am rfl rfl ?_))))
  obtain ⟨l9,a6,h0⟩:=bs h0
  refine BB (O:=z5) (DI g3 a6) rfl rfl fun m9 n9 b6 f0 c6=>?_
  obtain ⟨m4,d6⟩:=c6
  obtain ⟨rfl,o9⟩:=d6.int
  refine CT rfl rfl rfl (fun t3=>?_) fun t3=>?_
  ·
   replace h0:=ip h0 t3
   refine o_z ?_
   refine Ah rfl (AH (Al (AR (Al (Aj (Am rfl rfl (Am rfl rfl ?_)))))))
   obtain ⟨u3,e6,h0⟩:=bs h0
   refine BB (O:=b6) (Gb m4 m3 e6) rfl rfl fun p9 v3 o3 i0 f6=>?_
   obtain ⟨q9,r9,a3,rfl,b3,g6⟩:=f6
   obtain ⟨n4,o4,rfl⟩:=b3.form
   obtain ⟨rfl,h6⟩:=g6.err
   refine Am rfl rfl (AY rfl rfl rfl (AY rfl rfl rfl (An rfl rfl (An rfl rfl (o_z ?_)))))
   refine Al (Al (Aj (Am rfl rfl (Dd rfl rfl (fun w3=>?_) fun w3=>?_))))
   ·
    replace h0:=ip h0 w3
    refine o_z ?_
    refine Ah rfl (Al (Aj (Am rfl rfl (An rfl rfl (An rfl rfl (o_z ?_))))))
    refine AF ?_
    obtain rfl:=sm h0
    obtain rfl:=d2 _ rfl
    obtain rfl:=sm (Cs hm)
    replace hB:=(hB.st f0).st i0
    obtain ⟨O',hS',hz,hl⟩:=hE.leave (fun _=>0) rfl hB
    exact ret2 rfl (Az rfl) (Az rfl) ⟨O',hS',_,_,rfl,rfl,(vErr h6)⟩
   replace h0:=im h0 w3
   refine o_z ?_
   refine Ae rfl (AH (Al ?_))
   obtain ⟨y1,t0,h0⟩:=bs h0
   refine AN (fun l' w'=>∃ (r0:(Option Addr×Nat)) (O':Lab),subs l' [(1,(.int .i64 (max 0 (min x1 65536)))),(2,(.pointer (some ⟨d3,0,none⟩))),(6,(.pointer j3)),(8,(.pointer (some ⟨c2,0,none⟩))),(12,(.pointer (some ⟨p2,0,none⟩))),(13,(.int .i64 k0.1)),(14,(.slice n4 u3.1.length o4))]∧Bm w O0 w' O'∧Lc 2 w' O' d3 26 [(.slice A9 x0.vars.length t2),(.slice u2 x0.init.length v2),(.slice w2 x0.goal.length x2),(.slice y2 x0.ops.length z2)]∧Vb w' (Fr 0 w' O') (.slice A9 x0.vars.length t2) x0.vars∧Vb w' (Fr 0 w' O') (.slice u2 x0.init.length v2) x0.init∧Vb w' (Fr 0 w' O') (.slice w2 x0.goal.length x2) x0.goal∧Vb w' (Fr 0 w' O') (.slice y2 x0.ops.length z2) x0.ops∧Vb w' (Fr 0 w' O') (.pointer j3) j4.1∧Ob 3 w' O' (.pointer (some ⟨c2,0,none⟩)) k0.2.2.2∧Lc 4 w' O' p2 87 [(.slice h2 g0.vars.length i2),(.slice j2 g0.init.length k2),(.slice l2 g0.goal.length m2),(.slice n2 g0.ops.length o2),(.pointer (some ⟨c2,0,none⟩)),(.slice m0.1.1 k0.2.1.length m0.1.2),(.slice r0.1 y1.length r0.2),(.slice none 0 0),(.slice none 0 0),(.slice none 0 0)]∧Vb w' (Fr 0 w' O') (.slice h2 g0.vars.length i2) g0.vars∧Vb w' (Fr 0 w' O') (.slice j2 g0.init.length k2) g0.init∧Vb w' (Fr 0 w' O') (.slice l2 g0.goal.length m2) g0.goal∧Vb w' (Fr 0 w' O') (.slice n2 g0.ops.length o2) g0.ops∧Rw 9 w' O' 94 (.slice m0.1.1 k0.2.1.length m0.1.2) k0.2.1∧Rw 6 w' O' 4 (.slice r0.1 y1.length r0.2) y1∧Vb w' (Fr 0 w' O') (.slice n4 u3.1.length o4) u3.1) ?_ ?_
   ·
    refine BK [(10,[6])] o3 ?_
    refine AZ (fuel:=7) [] [(1,true),(2,true),(3,true),(4,true),(5,true),(6,true),(7,true)] (by kernel_rfl) rfl ?_
    refine AJ rfl rfl rfl (BV rfl rfl rfl (AP rfl rfl rfl ?_))
    replace e0:=(e0.st f0).st i0
    refine AS (hc:=fun w' ⟨O',hq⟩=>Blk.cell (i:=6) ((e0.st hq (by decide)).1) rfl) rfl rfl rfl ?_
    refine AP rfl rfl rfl ?_
    replace s0:=(s0.st f0).st i0
    refine AS (hc:=fun w' ⟨O',hq⟩=>Blk.cell (i:=2) ((s0.st hq (by decide)).1) rfl) rfl rfl rfl ?_
    refine AJ rfl rfl rfl (AL ?_)
    refine AZ (fuel:=6) [6] [(0,true)] (by kernel_rfl) rfl ?_
    refine AJ rfl rfl rfl (AL ?_)
    refine Bg (i:=8) (by kernel_rfl) rfl ?_
    obtain ⟨p4,i6,t0⟩:=bs t0
    replace w0:=(w0.st f0).st i0
    refine BO (O:=o3) (A:=All v3) (R:=fun w' F v=>Vb w' F v p4) (Ey (fun _ h=>h) (Vb.mono (F:=Fr 0 v3 o3) w0 Fr.lt) (Vb.mono (F:=Fr 0 v3 o3) b3 Fr.lt) i6) rfl rfl fun s9 t9 q4 n0 j6=>?_
    obtain rfl:=j6.bool
    have hZ:=n0.lst [] (fun _ h=>h.elim)
    cases p4
    case false =>
     replace t0:=iF t0
     refine BF [(10,[6])] hZ (by kernel_rfl) ?_
     refine Bg (i:=9) (by kernel_rfl) rfl ?_
     refine Cv 5 (by decide) q4 (xs:=([false]:List Bool)) rfl rfl rfl rfl ⟨vBool,trivial⟩ (by decide) (by decide) rfl fun u9 v9 w9 e1 k6=>?_
     have hZ:=e1.lst [] (fun _ h=>h.elim)
     refine BF [(10,[6])] hZ (by kernel_rfl) ?_
     refine Bg (i:=10) (by kernel_rfl) rfl ?_
     obtain ⟨l6,x3,t0⟩:=bs t0
     obtain ⟨x3,m6,n6⟩:=Cz x3
     replace w1:=(((w1.st f0).st i0).st n0).st e1
     refine Dh rfl w1 (k6.rd) rfl rfl (by decide) m6 n6 rfl fun r4 s4 x9 o6 i1 t4=>?_
     rw [← x3] at t4 ⊢
     have hZ:=i1.lst [6] (fun _ h=>by cases h;decide)
     refine BF [] hZ (by kernel_rfl) ?_
     refine AZ (fuel:=1) [] [(11,true),(12,true)] (by kernel_rfl) rfl ?_
     refine BV rfl rfl rfl (AP rfl rfl rfl (AL ?_))
     refine Bg (i:=13) (by kernel_rfl) rfl ?_
     replace e0:=((e0.st n0).st e1).st i1
     refine Bt e0 rfl rfl rfl (Ci rfl) (allOne rfl) fun p6 o1 e0=>?_
     replace e0:Lc 4 p6 o6 p2 87 [(.slice h2 g0.vars.length i2),(.slice j2 g0.init.length k2),(.slice l2 g0.goal.length m2),(.slice n2 g0.ops.length o2),(.pointer (some ⟨c2,0,none⟩)),(.slice m0.1.1 k0.2.1.length m0.1.2),(.slice r4 l6.length s4),(.slice none 0 0),(.slice none 0 0),(.slice none 0 0)]:=e0
     refine DG (by kernel_rfl) ?_
     refine Co (by kernel_rfl) ?_
     obtain rfl:=sm t0
     exact ⟨(r4,s4),_,⟨rfl,rfl,rfl,rfl,rfl,rfl,rfl,trivial⟩,(((((hB.st f0).st i0).st n0).st e1).st i1).st o1,(((s0.st n0).st e1).st i1).st o1,(((((h8.st f0).st i0).st n0).st e1).st i1).st o1,(((((u0.st f0).st i0).st n0).st e1).st i1).st o1,(((w0.st n0).st e1).st i1).st o1,(((((h1.st f0).st i0).st n0).st e1).st i1).st o1,(((((t1.st f0).st i0).st n0).st e1).st i1).st o1,(((a3.st n0).st e1).st i1).st o1,e0,(((((z0.st f0).st i0).st n0).st e1).st i1).st o1,(((((a1.st f0).st i0).st n0).st e1).st i1).st o1,(((((b1.st f0).st i0).st n0).st e1).st i1).st o1,(((((c1.st f0).st i0).st n0).st e1).st i1).st o1,(((((n1.st f0).st i0).st n0).st e1).st i1).st o1,t4.st o1,(((b3.st n0).st e1).st i1).st o1⟩
    replace t0:=iT t0
    refine BF [(10,[6])] hZ (by kernel_rfl) ?_
    refine Bg (i:=9) (by kernel_rfl) rfl ?_
    refine Cv 5 (by decide) q4 (xs:=([true]:List Bool)) rfl rfl rfl rfl ⟨vBool,trivial⟩ (by decide) (by decide) rfl fun y9 z9 aA f1 q6=>?_
    have hZ:=f1.lst [] (fun _ h=>h.elim)
    refine BF [(10,[6])] hZ (by kernel_rfl) ?_
    refine Bg (i:=10) (by kernel_rfl) rfl ?_
    obtain ⟨r6,y3,t0⟩:=bs t0
    obtain ⟨y3,s6,t6⟩:=Cz y3
    replace w1:=(((w1.st f0).st i0).st n0).st f1
    refine Dh rfl w1 (q6.rd) rfl rfl (by decide) s6 t6 rfl fun u4 w4 bA u6 j1 x4=>?_
    rw [← y3] at x4 ⊢
    have hZ:=j1.lst [6] (fun _ h=>by cases h;decide)
    refine BF [] hZ (by kernel_rfl) ?_
    refine AZ (fuel:=1) [] [(11,true),(12,true)] (by kernel_rfl) rfl ?_
    refine BV rfl rfl rfl (AP rfl rfl rfl (AL ?_))
    refine Bg (i:=13) (by kernel_rfl) rfl ?_
    replace e0:=((e0.st n0).st f1).st j1
    refine Bt e0 rfl rfl rfl (Ci rfl) (allOne rfl) fun w6 p1 e0=>?_
    replace e0:Lc 4 w6 u6 p2 87 [(.slice h2 g0.vars.length i2),(.slice j2 g0.init.length k2),(.slice l2 g0.goal.length m2),(.slice n2 g0.ops.length o2),(.pointer (some ⟨c2,0,none⟩)),(.slice m0.1.1 k0.2.1.length m0.1.2),(.slice u4 r6.length w4),(.slice none 0 0),(.slice none 0 0),(.slice none 0 0)]:=e0
    refine DG (by kernel_rfl) ?_
    refine Co (by kernel_rfl) ?_
    obtain rfl:=sm t0
    exact ⟨(u4,w4),_,⟨rfl,rfl,rfl,rfl,rfl,rfl,rfl,trivial⟩,(((((hB.st f0).st i0).st n0).st f1).st j1).st p1,(((s0.st n0).st f1).st j1).st p1,(((((h8.st f0).st i0).st n0).st f1).st j1).st p1,(((((u0.st f0).st i0).st n0).st f1).st j1).st p1,(((w0.st n0).st f1).st j1).st p1,(((((h1.st f0).st i0).st n0).st f1).st j1).st p1,(((((t1.st f0).st i0).st n0).st f1).st j1).st p1,(((a3.st n0).st f1).st j1).st p1,e0,(((((z0.st f0).st i0).st n0).st f1).st j1).st p1,(((((a1.st f0).st i0).st n0).st f1).st j1).st p1,(((((b1.st f0).st i0).st n0).st f1).st j1).st p1,(((((c1.st f0).st i0).st n0).st f1).st j1).st p1,(((((n1.st f0).st i0).st n0).st f1).st j1).st p1,x4.st p1,(((b3.st n0).st f1).st j1).st p1⟩
   replace hB:=(hB.st f0).st i0
   replace h8:=(h8.st f0).st i0
   replace u0:=(u0.st f0).st i0
   replace w0:=(w0.st f0).st i0
   replace h1:=(h1.st f0).st i0
   replace s0:=(s0.st f0).st i0
   replace t1:=(t1.st f0).st i0
   replace z0:=(z0.st f0).st i0
   replace a1:=(a1.st f0).st i0
   replace b1:=(b1.st f0).st i0
   replace c1:=(c1.st f0).st i0
   replace e0:=(e0.st f0).st i0
   replace n1:=(n1.st f0).st i0
   rintro cA dA ⟨r0,x6,y4,hB,s0,h8,u0,w0,h1,t1,a3,e0,z0,a1,b1,c1,n1,y0,b3⟩
   refine AO _ y4 ?_
   refine Al (Aj (Am rfl rfl (Am rfl rfl ?_)))
   obtain ⟨a2,y6,h0⟩:=bs h0
   refine EW (O:=x6) (R:=fun w' F v=>Vb w' F v a2) (Ft Fr.lt t1 b3 y6) rfl rfl fun eA fA z6 o0 q1=>?_
   obtain ⟨p3,q3,rfl⟩:=q1.form
   refine AQ rfl rfl ?_
   have z3:a2.length≤9223372036854775807:=Nat.le_trans q1.len.2.1 q1.len.2.2
   have gA:inI64 (a2.length:Int):=rngNat z3
   refine Am rfl rfl (o_z ?_)
   obtain ⟨a4,z4,h0⟩:=bs h0
   refine AN (aft a4 (fun (r1:(List Edj)×Reg) (k1:(Option Addr×Nat))=>[(1,(.int .i64 (max 0 (min x1 65536)))),(2,(.pointer (some ⟨d3,0,none⟩))),(6,(.pointer j3)),(8,(.pointer (some ⟨c2,0,none⟩))),(12,(.pointer (some ⟨p2,0,none⟩))),(13,(.int .i64 k0.1))]) (fun r1 k1 w'=>∃ O':Lab,Bm w O0 w' O'∧Lc 2 w' O' d3 26 [(.slice A9 x0.vars.length t2),(.slice u2 x0.init.length v2),(.slice w2 x0.goal.length x2),(.slice y2 x0.ops.length z2)]∧Vb w' (Fr 0 w' O') (.slice A9 x0.vars.length t2) x0.vars∧Vb w' (Fr 0 w' O') (.slice u2 x0.init.length v2) x0.init∧Vb w' (Fr 0 w' O') (.slice w2 x0.goal.length x2) x0.goal∧Vb w' (Fr 0 w' O') (.slice y2 x0.ops.length z2) x0.ops∧Vb w' (Fr 0 w' O') (.pointer j3) j4.1∧Ob 3 w' O' (.pointer (some ⟨c2,0,none⟩)) r1.2∧Lc 4 w' O' p2 87 [(.slice h2 g0.vars.length i2),(.slice j2 g0.init.length k2),(.slice l2 g0.goal.length m2),(.slice n2 g0.ops.length o2),(.pointer (some ⟨c2,0,none⟩)),(.slice k1.1 r1.1.length k1.2),(.slice r0.1 y1.length r0.2),(.slice none 0 0),(.slice none 0 0),(.slice none 0 0)]∧Vb w' (Fr 0 w' O') (.slice h2 g0.vars.length i2) g0.vars∧Vb w' (Fr 0 w' O') (.slice j2 g0.init.length k2) g0.init∧Vb w' (Fr 0 w' O') (.slice l2 g0.goal.length m2) g0.goal∧Vb w' (Fr 0 w' O') (.slice n2 g0.ops.length o2) g0.ops∧Rw 9 w' O' 94 (.slice k1.1 r1.1.length k1.2) r1.1∧Rw 6 w' O' 4 (.slice r0.1 y1.length r0.2) y1)) ?_ ?_
   ·
    refine AR ?_
    replace hB:=hB.st o0
    replace h8:=h8.st o0
    replace u0:=u0.st o0
    replace w0:=w0.st o0
    replace h1:=h1.st o0
    replace s0:=s0.st o0
    replace t1:=t1.st o0
    replace z0:=z0.st o0
    replace a1:=a1.st o0
    replace b1:=b1.st o0
    replace c1:=c1.st o0
    replace e0:=e0.st o0
    replace n1:=n1.st o0
    replace a3:=a3.st o0
    replace y0:=y0.st o0
    refine Ct (σ:=(List Edj)×Reg) (X:=(Option Addr×Nat)) (a2.length) z4 rfl z3 (fun (r1:(List Edj)×Reg) (k1:(Option Addr×Nat))=>[(1,(.int .i64 (max 0 (min x1 65536)))),(2,(.pointer (some ⟨d3,0,none⟩))),(6,(.pointer j3)),(8,(.pointer (some ⟨c2,0,none⟩))),(12,(.pointer (some ⟨p2,0,none⟩))),(13,(.int .i64 k0.1)),(90,(.slice p3 a2.length q3))]) _ (fun r1 k1 w'=>∃ O':Lab,Bm w O0 w' O'∧Lc 2 w' O' d3 26 [(.slice A9 x0.vars.length t2),(.slice u2 x0.init.length v2),(.slice w2 x0.goal.length x2),(.slice y2 x0.ops.length z2)]∧Vb w' (Fr 0 w' O') (.slice A9 x0.vars.length t2) x0.vars∧Vb w' (Fr 0 w' O') (.slice u2 x0.init.length v2) x0.init∧Vb w' (Fr 0 w' O') (.slice w2 x0.goal.length x2) x0.goal∧Vb w' (Fr 0 w' O') (.slice y2 x0.ops.length z2) x0.ops∧Vb w' (Fr 0 w' O') (.pointer j3) j4.1∧Ob 3 w' O' (.pointer (some ⟨c2,0,none⟩)) r1.2∧Lc 4 w' O' p2 87 [(.slice h2 g0.vars.length i2),(.slice j2 g0.init.length k2),(.slice l2 g0.goal.length m2),(.slice n2 g0.ops.length o2),(.pointer (some ⟨c2,0,none⟩)),(.slice k1.1 r1.1.length k1.2),(.slice r0.1 y1.length r0.2),(.slice none 0 0),(.slice none 0 0),(.slice none 0 0)]∧Vb w' (Fr 0 w' O') (.slice h2 g0.vars.length i2) g0.vars∧Vb w' (Fr 0 w' O') (.slice j2 g0.init.length k2) g0.init∧Vb w' (Fr 0 w' O') (.slice l2 g0.goal.length m2) g0.goal∧Vb w' (Fr 0 w' O') (.slice n2 g0.ops.length o2) g0.ops∧Rw 9 w' O' 94 (.slice k1.1 r1.1.length k1.2) r1.1∧Rw 6 w' O' 4 (.slice r0.1 y1.length r0.2) y1∧Vb w' (Fr 0 w' O') (.slice p3 a2.length q3) a2) _ (m0.1.1,m0.1.2) ⟨z6,hB,s0,h8,u0,w0,h1,t1,a3,e0,z0,a1,b1,c1,n1,y0,q1⟩ ⟨rfl,rfl,rfl,rfl,rfl,rfl,rfl,rfl,rfl,trivial⟩ (fun _ _=>⟨rfl,rfl⟩) (fun _ _=>⟨rfl,rfl,rfl,rfl,rfl,rfl,trivial⟩) (fun _ _ _ ⟨O',hB,s0,h8,u0,w0,h1,t1,q2,e0,z0,a1,b1,c1,u1,y0,q1⟩=>⟨O',hB,s0,h8,u0,w0,h1,t1,q2,e0,z0,a1,b1,c1,u1,y0⟩) ⟨rfl,rfl,rfl⟩ ⟨rfl,rfl⟩ ?_
    rintro a5 e2 r1 k1 iA f8 r3 ⟨a7,hB,s0,h8,u0,w0,h1,t1,q2,e0,z0,a1,b1,c1,u1,y0,q1⟩ q0 s2 q5
    have rk227:inI64 (a5:Int):=rngK r3 z3
    refine Al (Aj ?_)
    obtain ⟨jA,kA,g8,b5,c5,d5,lA,rfl,b2,b7⟩:=q1.elem' r3
    obtain ⟨b4,c4,rfl⟩:=b2.form
    refine Bw (hA:=b5) (hj:=rfl) (hlt:=c5) rfl rfl rfl ?_
    refine Bz (hl:=rfl) (hc:=d5) rfl rfl ?_
    refine Db 7 a7 rfl fun d4 mA e5 b0 z1=>?_
    refine Bt z1 rfl rfl rfl (Ci rfl) (allOne rfl) fun c7 c0 z1=>?_
    replace z1:Lc 7 c7 e5 d4 91 [(.int .i64 e2.op),(.slice b4 e2.state.length c4)]:=z1
    refine o_z ?_
    refine Al (Aj (Am rfl rfl (AG rfl rfl (AD (hc:=Blk.cell (i:=1) (z1.1) rfl) rfl rfl ?_))))
    obtain ⟨r2,d7,q0⟩:=bs q0
    replace q2:=(q2.st b0).st c0
    replace b2:=(b2.st b0).st c0
    refine BB (O:=e5) (EM q2 b2 d7) rfl rfl fun nA e7 f7 a0 g7=>?_
    obtain ⟨oA,pA,qA,c3,rfl,h7,i7,j7⟩:=g7
    obtain ⟨rfl,k7⟩:=h7.int
    obtain rfl:=i7.bool
    obtain ⟨rfl,f5⟩:=j7.err
    refine Am rfl rfl (AY rfl rfl rfl (AY rfl rfl rfl (AY rfl rfl rfl (An rfl rfl (An rfl rfl (An rfl rfl (o_z ?_)))))))
    refine Al (Al ?_)
    obtain ⟨l7,p0,q0⟩:=bs q0
    refine AN (fun l' w'=>∃ (m7:Unit) (O':Lab),subs l' [(1,(.int .i64 (max 0 (min x1 65536)))),(2,(.pointer (some ⟨d3,0,none⟩))),(6,(.pointer j3)),(8,(.pointer (some ⟨c2,0,none⟩))),(12,(.pointer (some ⟨p2,0,none⟩))),(13,(.int .i64 k0.1)),(17,(.pointer (some ⟨d4,0,none⟩))),(18,(.int .i64 r2.1)),(20,(errV r2.2.2.1.n)),(90,(.slice p3 a2.length q3)),(91,(.int .i64 (a2.length:Int))),(92,(.int .i64 (a5:Int))),(114,(.bool l7))]∧Bm w O0 w' O'∧Lc 2 w' O' d3 26 [(.slice A9 x0.vars.length t2),(.slice u2 x0.init.length v2),(.slice w2 x0.goal.length x2),(.slice y2 x0.ops.length z2)]∧Vb w' (Fr 0 w' O') (.slice A9 x0.vars.length t2) x0.vars∧Vb w' (Fr 0 w' O') (.slice u2 x0.init.length v2) x0.init∧Vb w' (Fr 0 w' O') (.slice w2 x0.goal.length x2) x0.goal∧Vb w' (Fr 0 w' O') (.slice y2 x0.ops.length z2) x0.ops∧Vb w' (Fr 0 w' O') (.pointer j3) j4.1∧Ob 3 w' O' (.pointer (some ⟨c2,0,none⟩)) r2.2.2.2∧Lc 4 w' O' p2 87 [(.slice h2 g0.vars.length i2),(.slice j2 g0.init.length k2),(.slice l2 g0.goal.length m2),(.slice n2 g0.ops.length o2),(.pointer (some ⟨c2,0,none⟩)),(.slice k1.1 r1.1.length k1.2),(.slice r0.1 y1.length r0.2),(.slice none 0 0),(.slice none 0 0),(.slice none 0 0)]∧Vb w' (Fr 0 w' O') (.slice h2 g0.vars.length i2) g0.vars∧Vb w' (Fr 0 w' O') (.slice j2 g0.init.length k2) g0.init∧Vb w' (Fr 0 w' O') (.slice l2 g0.goal.length m2) g0.goal∧Vb w' (Fr 0 w' O') (.slice n2 g0.ops.length o2) g0.ops∧Rw 9 w' O' 94 (.slice k1.1 r1.1.length k1.2) r1.1∧Rw 6 w' O' 4 (.slice r0.1 y1.length r0.2) y1∧Lc 7 w' O' d4 91 [(.int .i64 e2.op),(.slice b4 e2.state.length c4)]∧Vb w' (Fr 0 w' O') (.slice b4 e2.state.length c4) e2.state∧Vb w' (Fr 0 w' O') (.slice p3 a2.length q3) a2) ?_ ?_
    ·
     refine Aj (Am rfl rfl (CU rfl rfl ?_))
     obtain ⟨g5,n7,p0⟩:=bs p0
     refine BO (O:=f7) (A:=All e7) (R:=fun w' F v=>Vb w' F v g5) (LD (fun _ h=>h) f5 (by decide) n7) rfl rfl fun rA sA tA d0 o7=>?_
     obtain rfl:=o7.bool
     cases g5
     case false =>
      replace p0:=iF p0
      refine Am rfl rfl (Au rfl rfl (Am rfl rfl (Au rfl rfl (Am rfl rfl ?_))))
      rcases Bool.eq_false_or_eq_true r2.2.1 with h3|h3
      ·
       try simp only [h3]
       replace p0:=ip p0 h3
       refine Au rfl rfl (Am rfl rfl (Au rfl rfl (Am rfl rfl (Au rfl rfl (EY rfl rfl rfl (fun e4=>?_) fun e4=>?_)))))
       ·
        replace p0:=ip p0 e4
        refine Au rfl rfl (Bk rfl rfl rfl (Bf rfl rfl rfl (o_z ?_)))
        obtain rfl:=sm p0
        exact ⟨(),_,⟨rfl,rfl,rfl,rfl,rfl,rfl,rfl,rfl,rfl,rfl,rfl,rfl,rfl,trivial⟩,(((hB.st b0).st c0).st a0).st d0,(((s0.st b0).st c0).st a0).st d0,(((h8.st b0).st c0).st a0).st d0,(((u0.st b0).st c0).st a0).st d0,(((w0.st b0).st c0).st a0).st d0,(((h1.st b0).st c0).st a0).st d0,(((t1.st b0).st c0).st a0).st d0,c3.st d0,(((e0.st b0).st c0).st a0).st d0,(((z0.st b0).st c0).st a0).st d0,(((a1.st b0).st c0).st a0).st d0,(((b1.st b0).st c0).st a0).st d0,(((c1.st b0).st c0).st a0).st d0,(((u1.st b0).st c0).st a0).st d0,(((y0.st b0).st c0).st a0).st d0,(z1.st a0).st d0,(b2.st a0).st d0,(((q1.st b0).st c0).st a0).st d0⟩
       replace p0:=im p0 e4
       refine Au rfl rfl (Bk rfl rfl rfl (Bf rfl rfl rfl (o_z ?_)))
       obtain rfl:=sm p0
       exact ⟨(),_,⟨rfl,rfl,rfl,rfl,rfl,rfl,rfl,rfl,rfl,rfl,rfl,rfl,rfl,trivial⟩,(((hB.st b0).st c0).st a0).st d0,(((s0.st b0).st c0).st a0).st d0,(((h8.st b0).st c0).st a0).st d0,(((u0.st b0).st c0).st a0).st d0,(((w0.st b0).st c0).st a0).st d0,(((h1.st b0).st c0).st a0).st d0,(((t1.st b0).st c0).st a0).st d0,c3.st d0,(((e0.st b0).st c0).st a0).st d0,(((z0.st b0).st c0).st a0).st d0,(((a1.st b0).st c0).st a0).st d0,(((b1.st b0).st c0).st a0).st d0,(((c1.st b0).st c0).st a0).st d0,(((u1.st b0).st c0).st a0).st d0,(((y0.st b0).st c0).st a0).st d0,(z1.st a0).st d0,(b2.st a0).st d0,(((q1.st b0).st c0).st a0).st d0⟩
      try simp only [h3]
      replace p0:=im' p0 h3
      refine Aw rfl rfl rfl rfl (Aw rfl rfl rfl rfl (Aw rfl rfl rfl rfl (Au rfl rfl (Bf rfl rfl rfl (Bf rfl rfl rfl (o_z ?_))))))
      obtain rfl:=sm p0
      exact ⟨(),_,⟨rfl,rfl,rfl,rfl,rfl,rfl,rfl,rfl,rfl,rfl,rfl,rfl,rfl,trivial⟩,(((hB.st b0).st c0).st a0).st d0,(((s0.st b0).st c0).st a0).st d0,(((h8.st b0).st c0).st a0).st d0,(((u0.st b0).st c0).st a0).st d0,(((w0.st b0).st c0).st a0).st d0,(((h1.st b0).st c0).st a0).st d0,(((t1.st b0).st c0).st a0).st d0,c3.st d0,(((e0.st b0).st c0).st a0).st d0,(((z0.st b0).st c0).st a0).st d0,(((a1.st b0).st c0).st a0).st d0,(((b1.st b0).st c0).st a0).st d0,(((c1.st b0).st c0).st a0).st d0,(((u1.st b0).st c0).st a0).st d0,(((y0.st b0).st c0).st a0).st d0,(z1.st a0).st d0,(b2.st a0).st d0,(((q1.st b0).st c0).st a0).st d0⟩
     replace p0:=iT p0
     refine Am rfl rfl (Aw rfl rfl rfl rfl (Aw rfl rfl rfl rfl (Aw rfl rfl rfl rfl (Aw rfl rfl rfl rfl (Aw rfl rfl rfl rfl (Aw rfl rfl rfl rfl (Bk rfl rfl rfl (o_z ?_))))))))
     obtain rfl:=sm p0
     exact ⟨(),_,⟨rfl,rfl,rfl,rfl,rfl,rfl,rfl,rfl,rfl,rfl,rfl,rfl,rfl,trivial⟩,(((hB.st b0).st c0).st a0).st d0,(((s0.st b0).st c0).st a0).st d0,(((h8.st b0).st c0).st a0).st d0,(((u0.st b0).st c0).st a0).st d0,(((w0.st b0).st c0).st a0).st d0,(((h1.st b0).st c0).st a0).st d0,(((t1.st b0).st c0).st a0).st d0,c3.st d0,(((e0.st b0).st c0).st a0).st d0,(((z0.st b0).st c0).st a0).st d0,(((a1.st b0).st c0).st a0).st d0,(((b1.st b0).st c0).st a0).st d0,(((c1.st b0).st c0).st a0).st d0,(((u1.st b0).st c0).st a0).st d0,(((y0.st b0).st c0).st a0).st d0,(z1.st a0).st d0,(b2.st a0).st d0,(((q1.st b0).st c0).st a0).st d0⟩
    replace hB:=((hB.st b0).st c0).st a0
    replace h8:=((h8.st b0).st c0).st a0
    replace u0:=((u0.st b0).st c0).st a0
    replace w0:=((w0.st b0).st c0).st a0
    replace h1:=((h1.st b0).st c0).st a0
    replace s0:=((s0.st b0).st c0).st a0
    replace t1:=((t1.st b0).st c0).st a0
    replace z0:=((z0.st b0).st c0).st a0
    replace a1:=((a1.st b0).st c0).st a0
    replace b1:=((b1.st b0).st c0).st a0
    replace c1:=((c1.st b0).st c0).st a0
    replace e0:=((e0.st b0).st c0).st a0
    replace y0:=((y0.st b0).st c0).st a0
    replace q1:=((q1.st b0).st c0).st a0
    replace u1:=((u1.st b0).st c0).st a0
    replace b2:=b2.st a0
    replace z1:=z1.st a0
    rintro uA vA ⟨m7,h5,i5,hB,s0,h8,u0,w0,h1,t1,c3,e0,z0,a1,b1,c1,u1,y0,z1,b2,q1⟩
    refine AO _ i5 ?_
    refine CJ rfl (fun f4=>?_) (fun f4=>?_)
    ·
     replace q0:=ip q0 f4
     refine Al (Aj (CU rfl rfl ?_))
     refine An rfl rfl (An rfl rfl (o_z ?_))
     refine AF ?_
     obtain rfl:=sm q0
     obtain rfl:=s2 _ rfl
     obtain rfl:=sm (Cs h0)
     obtain rfl:=d2 _ rfl
     obtain rfl:=sm (Cs hm)
     obtain ⟨O',hS',hz,hl⟩:=hE.leave (fun _=>0) rfl hB
     exact ret2 rfl (Az rfl) (Az rfl) ⟨O',hS',_,_,rfl,rfl,(vErr (by decide))⟩
    replace q0:=im' q0 f4
    refine AH (Al (Al (Aj (Am rfl rfl (Dd rfl rfl (fun g4=>?_) fun g4=>?_)))))
    ·
     replace q0:=ip q0 g4
     refine o_z ?_
     refine Ah rfl (Al (Aj (Am rfl rfl (An rfl rfl (An rfl rfl (o_z ?_))))))
     refine AF ?_
     obtain rfl:=sm q0
     obtain rfl:=s2 _ rfl
     obtain rfl:=sm (Cs h0)
     obtain rfl:=d2 _ rfl
     obtain rfl:=sm (Cs hm)
     obtain ⟨O',hS',hz,hl⟩:=hE.leave (fun _=>0) rfl hB
     exact ret2 rfl (Az rfl) (Az rfl) ⟨O',hS',_,_,rfl,rfl,(vErr f5)⟩
    replace q0:=im q0 g4
    refine o_z ?_
    refine Ae rfl (AH (BK [(11,[9])] h5 ?_))
    refine AZ (fuel:=6) [] [(1,true),(2,true),(3,true),(4,true),(5,true),(6,true),(7,true),(8,true),(9,true)] (by kernel_rfl) rfl ?_
    refine AJ rfl rfl rfl (BV rfl rfl rfl (AP rfl rfl rfl (AS (hc:=fun w' ⟨O',hq⟩=>Blk.cell (i:=5) ((e0.st hq (by decide)).1) rfl) rfl rfl rfl ?_)))
    refine AJ rfl rfl rfl (AP rfl rfl rfl (AS (hc:=fun w' ⟨O',hq⟩=>Blk.cell (i:=0) ((z1.st hq (by decide)).1) rfl) rfl rfl rfl ?_))
    refine AJ rfl rfl rfl (GR rfl rfl rfl rfl ?_)
    refine AL ?_
    refine AZ (fuel:=5) [9] [(0,true)] (by kernel_rfl) rfl ?_
    refine AJ rfl rfl rfl (AL ?_)
    refine Bg (i:=10) (by kernel_rfl) rfl ?_
    refine Cv 8 (by decide) h5 (xs:=([(⟨k0.1,e2.op,r2.1⟩:Edj)]:List Edj)) rfl rfl rfl rfl ⟨(Vb.ofAgg (cs:=[(.int .i64 k0.1),(.int .i64 e2.op),(.int .i64 r2.1)]) (x:=(⟨k0.1,e2.op,r2.1⟩:Edj)) rfl ⟨rfl,m3,b7,k7⟩),trivial⟩ (by decide) (by decide) rfl fun wA xA yA g1 p7=>?_
    have hZ:=g1.lst [] (fun _ h=>h.elim)
    refine BF [(11,[9])] hZ (by kernel_rfl) ?_
    refine Bg (i:=11) (by kernel_rfl) rfl ?_
    obtain ⟨q7,h4,q0⟩:=bs q0
    obtain ⟨h4,r7,s7⟩:=Cz h4
    replace u1:=u1.st g1
    refine Dh rfl u1 (p7.rd) rfl rfl (by decide) r7 s7 rfl fun j5 k5 zA t7 m1 l5=>?_
    rw [← h4] at l5 ⊢
    have hZ:=m1.lst [9] (fun _ h=>by cases h;decide)
    refine BF [] hZ (by kernel_rfl) ?_
    refine AZ (fuel:=1) [] [(12,true),(13,true)] (by kernel_rfl) rfl ?_
    refine BV rfl rfl rfl (AP rfl rfl rfl (AL ?_))
    refine Bg (i:=14) (by kernel_rfl) rfl ?_
    replace e0:=(e0.st g1).st m1
    refine Bt e0 rfl rfl rfl (Ci rfl) (allOne rfl) fun u7 s1 e0=>?_
    replace e0:Lc 4 u7 t7 p2 87 [(.slice h2 g0.vars.length i2),(.slice j2 g0.init.length k2),(.slice l2 g0.goal.length m2),(.slice n2 g0.ops.length o2),(.pointer (some ⟨c2,0,none⟩)),(.slice j5 q7.length k5),(.slice r0.1 y1.length r0.2),(.slice none 0 0),(.slice none 0 0),(.slice none 0 0)]:=e0
    refine DG (by kernel_rfl) ?_
    refine Co (by kernel_rfl) ?_
    obtain rfl:=sm q0
    exact show Exists _ from ⟨_,(j5,k5),rfl,⟨rfl,rfl,rfl,rfl,rfl,rfl,rfl,rfl,rfl,trivial⟩,_,((hB.st g1).st m1).st s1,((s0.st g1).st m1).st s1,((h8.st g1).st m1).st s1,((u0.st g1).st m1).st s1,((w0.st g1).st m1).st s1,((h1.st g1).st m1).st s1,((t1.st g1).st m1).st s1,((c3.st g1).st m1).st s1,e0,((z0.st g1).st m1).st s1,((a1.st g1).st m1).st s1,((b1.st g1).st m1).st s1,((c1.st g1).st m1).st s1,l5.st s1,((y0.st g1).st m1).st s1,((q1.st g1).st m1).st s1⟩
   replace hB:=hB.st o0
   replace h8:=h8.st o0
   replace u0:=u0.st o0
   replace w0:=w0.st o0
   replace h1:=h1.st o0
   replace s0:=s0.st o0
   replace t1:=t1.st o0
   replace z0:=z0.st o0
   replace a1:=a1.st o0
   replace b1:=b1.st o0
   replace c1:=c1.st o0
   replace e0:=e0.st o0
   replace y0:=y0.st o0
   rintro aB bB ⟨cB,m5,rfl,n5,dB,hB,s0,h8,u0,w0,h1,t1,q2,e0,z0,a1,b1,c1,u1,y0⟩
   replace h0:=BA h0
   refine AO _ n5 ?_
   refine Aj (Am rfl rfl ?_)
   obtain ⟨eB,o5,h0⟩:=bs h0
   have w7:=(BR o5)
   refine EZ (he:=o5) rfl rfl rfl ?_
   refine An rfl rfl (o_z ?_)
   obtain rfl:=sm h0
   exact show Exists _ from ⟨_,((m5.1,m5.2),(r0.1,r0.2)),rfl,⟨rfl,rfl,rfl,rfl,rfl,rfl,trivial⟩,_,hB,s0,h8,u0,w0,h1,t1,q2,e0,z0,a1,b1,c1,u1,y0,w7⟩
  replace h0:=im h0 t3
  refine o_z ?_
  refine Ae rfl (Dq ?_)
  obtain rfl:=sm h0
  exact show Exists _ from ⟨_,((m0.1.1,m0.1.2),(m0.2.1,m0.2.2)),n3 _ rfl,⟨rfl,trivial⟩,_,hB.st f0,e0.st f0,z0.st f0,a1.st f0,b1.st f0,c1.st f0,m4,n1.st f0,w1.st f0,m3⟩
 replace hB:=(((((hB.st i3).st e3).st f3).st k3).st l3).st d1
 replace z0:=z0.st d1
 replace a1:=a1.st d1
 replace b1:=b1.st d1
 replace c1:=c1.st d1
 rintro fB gB ⟨i4,iB,rfl,p5,jB,hB,e0,z0,a1,b1,c1,g3,n1,w1,m3⟩
 replace hm:=BA hm
 refine AO _ p5 ?_
 refine Al (Aj (Am rfl rfl ?_))
 obtain ⟨kB,f2,n1⟩:=n1.freeze
 replace w1:=w1.st f2
 obtain ⟨lB,g2,w1⟩:=w1.freeze
 replace z0:=(z0.st f2).st g2
 replace a1:=(a1.st f2).st g2
 replace b1:=(b1.st f2).st g2
 replace c1:=(c1.st f2).st g2
 replace e0:=(e0.st f2).st g2
 replace n1:=n1.st g2
 replace g3:=(g3.st f2).st g2
 obtain ⟨x7,y7,i8,j8,z7⟩:=Spa.shut (x:=(⟨(⟨g0.vars,g0.init,g0.goal,g0.ops⟩:Tsk),i4.2.2.2,i4.2.1,i4.2.2.1,([]:List Int),([]:List Int),([]:List Int)⟩:Spa)) (l0:=4) (l1:=3) (by decide) e0 z0 a1 b1 c1 g3 n1 w1 (Vb.nil _ _) (Vb.nil _ _) (Vb.nil _ _)
 obtain ⟨mB,a8,hm⟩:=bs hm
 refine BB (O:=x7) (GE z7 a8) rfl rfl fun nB oB pB b8 c8=>?_
 refine o_z ?_
 refine Al (Aj (Am rfl rfl (An rfl rfl (An rfl rfl (o_z ?_)))))
 refine AF ?_
 obtain rfl:=sm hm
 replace hB:=(((hB.st f2).st g2).st y7).st b8
 obtain ⟨O',hS',hz,hl⟩:=hE.leave (fun q=>if q=4 then j0 else 0) rfl hB
 exact ret2 rfl (Az rfl) (Az rfl) ⟨O',hS',_,_,rfl,(Ob.leave c8 hz (hl 4 (by decide) (by decide)) hj0),(vErr (show inI64 0 from by decide))⟩
end
section
open Go Go.RowKit
attribute [local irreducible] ewp owp hwp hwq hws Ev Evg Fn retPost loud loudS Res1
attribute [local irreducible] hwx loudX
noncomputable def FP (x0:Int) (x1:Int) (x2:Int):Option Int :=
  some (max x1 (min x0 x2))
noncomputable def Eg (x0:List (List Int)) (x1:List Int):Option Int :=
  bnd (rng (ρ:=Int) (fun (k13:Nat) (a14:List Int) (s11:Unit)=>bnd (IU a14 x1) fun q35=>if q35=true then some (.ret (k13:Int)) else some (.next ())) x0 0 ()) fun res9=>fin res9 fun (s46:Unit)=>some (-1)
noncomputable def FI (x0:Tsk) (x1:Int):Option ((List (List Int))×Bool) :=
  bnd (FP x1 0 65536) fun q25=>bnd (appI 8 ([]:List Int) x0.init) fun u39=>bnd (lop (ρ:=(List (List Int))×Bool) (fun (s60:(List (List Int))×Int)=>bnd (if s60.2 < (s60.1.length:Int) then (if (s60.1.length:Int)≤q25 then (some true) else (some false)) else (some false):Option Bool) fun y79=>if y79=true then (bnd (rng (ρ:=Ctl ((List (List Int))×Int) ((List (List Int))×Bool)) (fun (k100:Nat) (a101:Opr) (s98:(List (List Int)))=>bnd (atI s98 s60.2) fun a115=>bnd (DC x0 a115 (k100:Int)) fun q130=>bnd (if q130.2=true then (bnd (Eg s98 q130.1) fun q148=>if q148 < 0 then (some true) else (some false)) else (some false):Option Bool) fun y143=>if y143=true then (bnd (appI 24 s98 [q130.1]) fun u162=>some (.next u162)) else (some (.next s98))) x0.ops 0 s60.1) fun res96=>fin res96 fun (s178:(List (List Int)))=>bnd (chkI (s60.2 + 1)) fun n180=>some (.next (s178,n180))) else (some (.brk (s60.1,s60.2)))) ([u39],0)) fun res58=>fin res58 fun (s187:(List (List Int))×Int)=>bnd (if (s187.1.length:Int)≤q25 then (some true) else (some false):Option Bool) fun y189=>some (s187.1,y189)
end
section
section
variable {α σ ρ β : Type}
theorem Pd {f:σ→Option (Ctl σ ρ)} (I:σ→Prop) (B:σ→Prop) (R:ρ→Prop) (μ:σ→Nat) (h:∀ s,I s→(∃ s',f s=some (.next s')∧I s'∧μ s' < μ s)∨(∃ s',f s=some (.brk s')∧B s')∨∃ r,f s=some (.ret r)∧R r) :
    ∀ s,I s→(∃ s',lop f s=some (.done s')∧B s')∨∃ r,lop f s=some (.ret r)∧R r:=by
  have key:∀ (n:Nat) s,I s→μ s < n→(∃ s',lop f s=some (.done s')∧B s')∨∃ r,lop f s=some (.ret r)∧R r:=by
    intro n
    induction n with
    | zero=>intro s _ hn;omega
    | succ n ih =>
      intro s hI hn
      rw [Fp]
      rcases h s hI with ⟨s',h1,h2,h3⟩|⟨s',h1,h2⟩|⟨r,h1,h2⟩
      · rw [h1];exact ih s' h2 (by omega)
      · rw [h1];exact .inl ⟨s',rfl,h2⟩
      · rw [h1];exact .inr ⟨r,rfl,h2⟩
  exact fun s hI=>key (μ s + 1) s hI (by omega)
theorem La {f:σ→Option (Ctl σ ρ)} {s₀:σ} {k:Fin σ ρ→Option β} {P:β→Prop} (I:σ→Prop) (B:σ→Prop) (R:ρ→Prop) (μ:σ→Nat) (h0:I s₀)
    (h:∀ s,I s→(∃ s',f s=some (.next s')∧I s'∧μ s' < μ s)∨(∃ s',f s=some (.brk s')∧B s')∨∃ r,f s=some (.ret r)∧R r)
    (hb:∀ s,B s→∃ r,k (.done s)=some r∧P r) (hr:∀ q,R q→∃ r,k (.ret q)=some r∧P r):∃ r,bnd (lop f s₀) k=some r∧P r:=by
  rcases Pd I B R μ h s₀ h0 with ⟨s,h1,h2⟩|⟨q,h1,h2⟩
  · rw [h1,Ar];exact hb s h2
  · rw [h1,Ar];exact hr q h2
theorem Hc {f:Nat→α→σ→Option (Ctl σ ρ)} {xs:List α} {s₀:σ} {k:Fin σ ρ→Option β} {P:β→Prop} (I:Nat→σ→Prop) (R:ρ→Prop) (h0:I 0 s₀)
    (h:∀ i x s,xs[i]?=some x→I i s→(∃ s',f i x s=some (.next s')∧I (i + 1) s')∨∃ q,f i x s=some (.ret q)∧R q)
    (hb:∀ s,I xs.length s→∃ r,k (.done s)=some r∧P r) (hr:∀ q,R q→∃ r,k (.ret q)=some r∧P r):∃ r,bnd (rng f xs 0 s₀) k=some r∧P r:=by
  have key:∀ (ys:List α) (j:Nat) (s:σ),(∀ i,ys[i]?=xs[j + i]?)→j + ys.length=xs.length→I j s→∃ r,bnd (rng f ys j s) k=some r∧P r:=by
    intro ys
    induction ys with
    | nil=>intro j s _ hl hI;exact hb s (by simp at hl;rw [← hl];exact hI)
    | cons y ys ih =>
      intro j s hg hl hI
      have hy:xs[j]?=some y:=by have:=hg 0;simpa using this.symm
      simp only [rng]
      rcases h j y s hy hI with ⟨s',h1,h2⟩|⟨q,h1,h2⟩
      · rw [h1]
        exact ih (j + 1) s' (fun i=>by have:=hg (i + 1);rw [show j + 1 + i=j + (i + 1) from by omega,← this];simp) (by simp at hl;omega) h2
      · rw [h1,Ar];exact hr q h2
  exact key xs 0 s₀ (fun i=>by rw [Nat.zero_add]) (by omega) h0
theorem LT {f:Nat→α→σ→Option (Ctl σ ρ)} {xs:List α} {s₀:σ} {k:Fin σ ρ→Option β} {r:Option β} (I:Nat→σ→Prop) (h0:I 0 s₀)
    (h:∀ i x s,xs[i]?=some x→I i s→∃ s',f i x s=some (.next s')∧I (i + 1) s') (hb:∀ s,I xs.length s→k (.done s)=r):bnd (rng f xs 0 s₀) k=r:=by
  obtain ⟨s,h1,h2⟩:=Hb I h0 h
  rw [h1,Ar]
  exact hb s h2
end
end
section
open Go Go.RowKit
def Inf:Int:=1125899906842624
theorem Qh {σ ρ:Type} {f:σ→Option (Ctl σ ρ)} (I:σ→Prop) (B:σ→Prop) (μ:σ→Nat) (h:∀ s,I s→(∃ s',f s=some (.next s')∧I s'∧μ s' < μ s)∨(∃ s',f s=some (.brk s')∧B s')):∀ s,I s→∃ s',lop f s=some (.done s')∧B s':=by
  have key:∀ (n:Nat) s,I s→μ s < n→∃ s',itr f n s=some (.done s')∧B s':=by
    intro n
    induction n with
    | zero=>intro s _ h0;omega
    | succ n ih =>
      intro s hs hn
      rcases h s hs with ⟨s',h1,h2,h3⟩|⟨s',h1,h2⟩
      · obtain ⟨r,hr,hb⟩:=ih s' h2 (by omega)
        exact ⟨r,by simp only [itr,h1];exact hr,hb⟩
      · exact ⟨s',by simp only [itr,h1],h2⟩
  intro s hs
  obtain ⟨r,hr,hb⟩:=key (μ s + 1) s hs (by omega)
  exact ⟨r,Gs.2 ⟨_,hr⟩,hb⟩
theorem Hv {α:Type} {l:List α} {k:Nat} {x y:α} (h:l[k]?=some x):y∈l.take (k + 1)↔y∈l.take k∨y=x:=by
  rw [List.take_add_one,h,List.mem_append];simp
end
section
open Go Go.RowKit
theorem GN {α:Type} {l:List α} {m i:Nat} {x:α} (h:(l.take m)[i]?=some x):l[i]?=some x:=by
  by_cases hi:i < m
  · rwa [List.getElem?_take_of_lt hi] at h
  · rw [List.getElem?_take_eq_none (by omega)] at h;cases h
def bfr (x y:QEn):Prop:=x.key < y.key∨(x.key=y.key∧(x.tie < y.tie∨(x.tie=y.tie∧x.number < y.number)))
instance (x y:QEn):Decidable (bfr x y):=by unfold bfr;infer_instance
def nb (x y:QEn):Prop:=¬ bfr x y
theorem Hw {x y z:QEn} (h1:nb x y) (h2:nb y z):nb x z:=by unfold nb bfr at *;omega
theorem KD {x y:QEn} (h:bfr x y):nb y x:=by unfold nb bfr at *;omega
theorem JK (x:QEn):nb x x:=by unfold nb bfr;omega
def HeapOk (l:List QEn):Prop:=∀ (j:Nat) x y,0 < j→l[j]?=some x→l[(j - 1) / 2]?=some y→nb x y
def Over (l:List QEn) (i:Nat):Prop:=∀ (j:Nat) x y,0 < i→0 < j→(j - 1) / 2=i→l[j]?=some x→l[(i - 1) / 2]?=some y→nb x y
def UpI (l:List QEn) (i:Nat):Prop:=(∀ (j:Nat) x y,0 < j→j≠i→l[j]?=some x→l[(j - 1) / 2]?=some y→nb x y)∧Over l i
def DownI (l:List QEn) (i:Nat):Prop:=(∀ (j:Nat) x y,0 < j→(j - 1) / 2≠i→l[j]?=some x→l[(j - 1) / 2]?=some y→nb x y)∧Over l i
theorem Hd {l:List QEn} {i j:Nat} {a b:QEn} (hi:l[i]?=some a) (hj:l[j]?=some b) (hne:i≠j) (k:Nat):((l.set i b).set j a)[k]?=if k=j then some a else if k=i then some b else l[k]?:=by
  by_cases h1:k=j
  · subst h1;rw [if_pos rfl,List.getElem?_set_self (by simpa using AC hj)]
  · rw [if_neg h1,List.getElem?_set_ne (by omega)]
    by_cases h2:k=i
    · subst h2;rw [if_pos rfl,List.getElem?_set_self (AC hi)]
    · rw [if_neg h2,List.getElem?_set_ne (by omega)]
theorem Lb {l:List QEn} {i j:Nat} {a b:QEn} (hi:l[i]?=some a) (hj:l[j]?=some b):((l.set i b).set j a).Perm l:=by
  have h1:=AC hi
  have h2:=AC hj
  have e1:l[i]=a:=by rw [List.getElem?_eq_getElem h1] at hi;exact Option.some.inj hi
  have e2:l[j]=b:=by rw [List.getElem?_eq_getElem h2] at hj;exact Option.some.inj hj
  rw [← e1,← e2]
  exact List.set_set_perm h1 h2
theorem UpI.step {l:List QEn} {i:Nat} {a b:QEn} (h:UpI l i) (h0:0 < i) (hi:l[i]?=some a) (hj:l[(i - 1) / 2]?=some b) (hb:bfr a b):UpI ((l.set i b).set ((i - 1) / 2) a) ((i - 1) / 2):=by
  have hne:i≠(i - 1) / 2:=by omega
  constructor
  · intro j x y hj0 hjp hx hy
    rw [Hd hi hj hne,if_neg hjp] at hx
    rw [Hd hi hj hne] at hy
    by_cases e1:j=i
    · subst e1
      rw [if_pos rfl] at hx hy
      obtain rfl:=Option.some.inj hx
      obtain rfl:=Option.some.inj hy
      exact KD hb
    · rw [if_neg e1] at hx
      by_cases e2:(j - 1) / 2=(i - 1) / 2
      · rw [if_pos e2] at hy
        obtain rfl:=Option.some.inj hy
        have:=h.1 j x b hj0 e1 hx (by rw [e2];exact hj)
        exact Hw this (KD hb)
      · rw [if_neg e2] at hy
        by_cases e3:(j - 1) / 2=i
        · rw [if_pos e3] at hy
          obtain rfl:=Option.some.inj hy
          exact h.2 j x b h0 hj0 e3 hx hj
        · rw [if_neg e3] at hy
          exact h.1 j x y hj0 e1 hx hy
  · intro j x y hp0 hj0 hjp hx hy
    rw [Hd hi hj hne] at hx hy
    have n1:((i - 1) / 2 - 1) / 2≠(i - 1) / 2:=by omega
    have n2:((i - 1) / 2 - 1) / 2≠i:=by omega
    rw [if_neg n1,if_neg n2] at hy
    have hpp:=h.1 ((i - 1) / 2) b y hp0 (by omega) hj hy
    rw [if_neg (by omega)] at hx
    by_cases e1:j=i
    · subst e1
      rw [if_pos rfl] at hx
      obtain rfl:=Option.some.inj hx
      exact hpp
    · rw [if_neg e1] at hx
      exact Hw (h.1 j x b hj0 e1 hx (by rw [hjp];exact hj)) hpp
theorem UpI.heap {l:List QEn} {i:Nat} (h:UpI l i) (hi:i=0∨∀ x y,l[i]?=some x→l[(i - 1) / 2]?=some y→nb x y):HeapOk l:=fun j x y hj hx hy=>by
  by_cases e:j=i
  · subst e
    rcases hi with h0|h1
    · omega
    · exact h1 x y hx hy
  · exact h.1 j x y hj e hx hy
theorem DownI.step {l:List QEn} {i c:Nat} {a b:QEn} (h:DownI l i) (hc:c=2 * i + 1∨c=2 * i + 2) (hi:l[i]?=some a) (hj:l[c]?=some b) (hb:bfr b a) (hs:∀ (j:Nat) x,0 < j→(j - 1) / 2=i→l[j]?=some x→nb x b):DownI ((l.set i b).set c a) c:=by
  have hne:i≠c:=by omega
  have hcp:(c - 1) / 2=i:=by omega
  constructor
  · intro j x y hj0 hjp hx hy
    rw [Hd hi hj hne] at hx hy
    rw [if_neg hjp] at hy
    by_cases e1:j=c
    · subst e1
      rw [if_pos rfl] at hx
      rw [if_pos hcp] at hy
      obtain rfl:=Option.some.inj hx
      obtain rfl:=Option.some.inj hy
      exact KD hb
    · rw [if_neg e1] at hx
      by_cases e2:j=i
      · subst e2
        rw [if_pos rfl] at hx
        rw [if_neg (by omega)] at hy
        obtain rfl:=Option.some.inj hx
        exact h.2 c _ y hj0 (by omega) hcp hj hy
      · rw [if_neg e2] at hx
        by_cases e3:(j - 1) / 2=i
        · rw [if_pos e3] at hy
          obtain rfl:=Option.some.inj hy
          exact hs j x hj0 e3 hx
        · rw [if_neg e3] at hy
          exact h.1 j x y hj0 e3 hx hy
  · intro j x y hc0 hj0 hjc hx hy
    rw [Hd hi hj hne] at hx hy
    rw [if_neg (by omega),if_neg (by omega)] at hx
    rw [if_neg (by omega),if_pos hcp] at hy
    obtain rfl:=Option.some.inj hy
    exact h.1 j x _ hj0 (by omega) hx (by rw [hjc];exact hj)
theorem DownI.heap {l:List QEn} {i:Nat} (h:DownI l i) (hi:∀ (j:Nat) x y,0 < j→(j - 1) / 2=i→l[j]?=some x→l[i]?=some y→nb x y):HeapOk l:=fun j x y hj hx hy=>by
  by_cases e:(j - 1) / 2=i
  · exact hi j x y hj e hx (by rw [← e];exact hy)
  · exact h.1 j x y hj e hx hy
theorem Nc {l:List QEn} (h:HeapOk l) {e:QEn} (he:l[0]?=some e):∀ x∈l,nb x e:=by
  have key:∀ (n j:Nat) x,j≤n→l[j]?=some x→nb x e:=by
    intro n
    induction n with
    | zero =>
      intro j x hj hx
      have hj0:j=0:=by omega
      rw [hj0,he] at hx
      rw [← Option.some.inj hx]
      exact JK _
    | succ n ih =>
      intro j x hj hx
      by_cases h0:j=0
      · exact ih j x (by omega) hx
      · obtain ⟨y,hy⟩:=AE (l:=l) (k:=(j - 1) / 2) (by have:=AC hx;omega)
        exact Hw (h j x y (by omega) hx hy) (ih ((j - 1) / 2) y (by omega) hy)
  intro x hx
  obtain ⟨j,hj⟩:=List.getElem?_of_mem hx
  exact key j j x (by omega) hj
end
section
set_option linter.unusedVariables false
open Go Go.RowKit
def lle (c k c' k':Int):Prop:=c < c'∨(c=c'∧k≤k')
instance (c k c' k':Int):Decidable (lle c k c' k'):=by unfold lle;infer_instance
theorem Nd {a b c d e f:Int} (h1:lle a b c d) (h2:lle c d e f):lle a b e f:=by unfold lle at *;omega
theorem He (a b:Int):lle a b a b:=by unfold lle;omega
def upd {α:Type} (f:Nat→α) (m:Nat) (x:α):Nat→α:=fun j=>if j=m then x else f j
theorem Bd {α:Type} (f:Nat→α) (m:Nat) (x:α):upd f m x m=x:=if_pos rfl
theorem AX {α:Type} {f:Nat→α} {m:Nat} {x:α} {j:Nat} (h:j≠m):upd f m x j=f j:=if_neg h
inductive Lx (S:Nat→Prop) (A:Nat→List (Nat×Int)):Nat→Int→Int→Prop
  | src {i:Nat}:S i→Lx S A i 0 0
  | step {i:Nat} {c k:Int} {j:Nat} {w:Int}:Lx S A i c k→(j,w)∈A i→Lx S A j (c + w) (k + 1)
theorem Lx.mono {S S':Nat→Prop} {A:Nat→List (Nat×Int)} (hS:∀ i,S i→S' i) {i:Nat} {c k:Int} (h:Lx S A i c k):Lx S' A i c k:=by
  induction h with
  | src h=>exact .src (hS _ h)
  | step _ hm ih=>exact .step ih hm
structure ArcsOk (n:Nat) (A:Nat→List (Nat×Int)):Prop where
  to:∀ i p,p∈A i→i < n∧p.1 < n
  wt:∀ i p,p∈A i→0≤p.2∧p.2≤1048576
def sumF (g:Nat→Nat):Nat→Nat
  | 0=>0
  | n + 1=>sumF g n + g n
theorem Hx {g g':Nat→Nat}:∀ {n:Nat},(∀ j,j < n→g' j=g j)→sumF g' n=sumF g n
  | 0,_=>rfl
  | n + 1,h=>by
    have h1:=Hx (n:=n) fun j hj=>h j (by omega)
    have h2:=h n (by omega)
    simp only [sumF];omega
theorem Jl {g g':Nat→Nat} {i:Nat}:∀ {n:Nat},i < n→(∀ j,j≠i→g' j=g j)→sumF g' n + g i=sumF g n + g' i
  | 0,h,_=>by omega
  | n + 1,h,he=>by
    by_cases e:i=n
    · subst e
      have:=Hx (g:=g) (g':=g') (n:=i) fun j hj=>he j (by omega)
      simp only [sumF];omega
    · have h1:=Jl (n:=n) (by omega) he
      have h2:=he n (by omega)
      simp only [sumF];omega
theorem Ld {g:Nat→Nat} {m:Nat}:∀ {n:Nat},(∀ j,j < n→g j≤m)→sumF g n≤n * m
  | 0,_=>by simp [sumF]
  | n + 1,h=>by
    have h1:=Ld (n:=n) fun j hj=>h j (by omega)
    have h2:=h n (by omega)
    simp only [sumF,Nat.succ_mul];omega
def nScan (f:Nat→Bool) (n:Nat):Nat:=sumF (fun i=>if f i=true then 1 else 0) n
def nRem (A:Nat→List (Nat×Int)) (f:Nat→Bool) (n:Nat):Nat:=sumF (fun i=>if f i=true then 0 else (A i).length) n
theorem Lf (f:Nat→Bool) (n:Nat):nScan f n≤n:=by
  have:=Ld (g:=fun i=>if f i=true then 1 else 0) (m:=1) (n:=n) fun j _=>by split<;>omega
  unfold nScan;omega
theorem Nf {f:Nat→Bool} {n i:Nat} (hi:i < n) (hf:f i=false):nScan (upd f i true) n=nScan f n + 1:=by
  have:=Jl (g:=fun i=>if f i=true then 1 else 0) (g':=fun j=>if upd f i true j=true then 1 else 0) hi fun j hj=>by rw [AX hj]
  rw [Bd,if_pos rfl,hf,if_neg (by simp)] at this
  unfold nScan;omega
theorem NX {A:Nat→List (Nat×Int)} {f:Nat→Bool} {n i:Nat} (hi:i < n) (hf:f i=false):nRem A (upd f i true) n + (A i).length=nRem A f n:=by
  have:=Jl (g:=fun i=>if f i=true then 0 else (A i).length) (g':=fun j=>if upd f i true j=true then 0 else (A j).length) hi fun j hj=>by rw [AX hj]
  rw [Bd,if_pos rfl,hf,if_neg (by simp)] at this
  unfold nRem;omega
structure DjI (n:Nat) (A:Nat→List (Nat×Int)) (S:Nat→Prop) (D:Nat→Nat×Int→Prop) (d k:Nat→Int) (f:Nat→Bool) (hp:List QEn):Prop where
  src:∀ i,S i→i < n∧d i=0∧k i=0
  real:∀ i,d i≠Inf→Lx S A i (d i) (k i)
  bnd:∀ i,d i≠Inf→i < n∧0≤d i∧d i≤(nScan f n:Int) * 1048576∧0≤k i∧k i≤(nScan f n:Int)
  inf:∀ i,d i=Inf→k i=Inf
  ent:∀ e∈hp,∃ i:Nat,e.item=(i:Int)∧i < n∧d i≠Inf∧lle (d i) (k i) e.key e.tie
  opn:∀ i,f i=false→d i≠Inf→∃ e∈hp,e.key=d i∧e.tie=k i∧e.item=(i:Int)
  low:∀ j,f j=true→∀ e∈hp,lle (d j) (k j) e.key e.tie
  fin:∀ j,f j=true→d j≠Inf
  old:∀ (j:Nat) e,f j=true→e∈hp→e.item=(j:Int)→e.key=d j→e.tie=k j→False
  uni:hp.Pairwise (fun a b=>¬(a.key=b.key∧a.tie=b.tie∧a.item=b.item))
  rel:∀ j p,f j=true→p∈A j→D j p→d p.1≠Inf∧lle (d p.1) (k p.1) (d j + p.2) (k j + 1)
structure LexP (n:Nat) (A:Nat→List (Nat×Int)) (S:Nat→Prop) (d k:Nat→Int):Prop where
  real:∀ i,d i≠Inf→Lx S A i (d i) (k i)
  low:∀ i c q,Lx S A i c q→d i≠Inf∧lle (d i) (k i) c q
theorem Gu {hp hp':List QEn} (h:hp'.Perm hp) (hu:hp.Pairwise (fun a b=>¬(a.key=b.key∧a.tie=b.tie∧a.item=b.item))):hp'.Pairwise (fun a b=>¬(a.key=b.key∧a.tie=b.tie∧a.item=b.item)) :=
  (h.pairwise_iff fun {a b} hab hc=>hab ⟨hc.1.symm,hc.2.1.symm,hc.2.2.symm⟩).2 hu
section
variable {n : Nat} {A : Nat → List (Nat × Int)} {S : Nat → Prop} {D : Nat → Nat × Int → Prop} {d k : Nat → Int} {f : Nat → Bool} {hp hp' : List QEn} {e : QEn}
theorem NY:DjI n A (fun _=>False) (fun _ _=>True) (fun _=>Inf) (fun _=>Inf) (fun _=>false) [] :=
  ⟨fun _ h=>h.elim,fun _ h=>(h rfl).elim,fun _ h=>(h rfl).elim,fun _ _=>rfl,fun _ h=>(by simp at h),fun _ _ h=>(h rfl).elim,fun _ h=>(by simp at h),fun _ h=>(by simp at h),fun _ _ h=>(by simp at h),List.Pairwise.nil,fun _ _ h=>(by simp at h)⟩
theorem DjI.source (h:DjI n A S D d k (fun _=>false) hp) {i:Nat} (hi:i < n) (hd:d i=Inf) (hh:hp'.Perm (e :: hp)) (e1:e.key=0) (e2:e.tie=0) (e3:e.item=(i:Int)):DjI n A (fun j=>S j∨j=i) D (upd d i 0) (upd k i 0) (fun _=>false) hp':=by
  have hI:Inf≠0:=by unfold Inf;omega
  refine ⟨?_,?_,?_,?_,?_,?_,fun _ h=>(by simp at h),fun _ h=>(by simp at h),fun _ _ h=>(by simp at h),Gu hh (List.pairwise_cons.2 ⟨fun x hx hc=>?_,h.uni⟩),fun _ _ h=>(by simp at h)⟩
  · intro j hj
    by_cases e:j=i
    · subst e;exact ⟨hi,Bd ..,Bd ..⟩
    · rw [AX e,AX e];exact h.src j (hj.resolve_right e)
  · intro j hj
    by_cases e:j=i
    · subst e;rw [Bd,Bd];exact .src (.inr rfl)
    · rw [AX e] at hj;rw [AX e,AX e];exact (h.real j hj).mono fun _=>.inl
  · intro j hj
    by_cases e:j=i
    · subst e;rw [Bd,Bd];exact ⟨hi,by omega,by omega,by omega,by omega⟩
    · rw [AX e] at hj;rw [AX e,AX e];exact h.bnd j hj
  · intro j hj
    by_cases e:j=i
    · subst e;rw [Bd] at hj;exact (hI hj.symm).elim
    · rw [AX e] at hj;rw [AX e];exact h.inf j hj
  · intro x hx
    rcases List.mem_cons.1 (hh.mem_iff.1 hx) with rfl|hx
    · exact ⟨i,e3,hi,by rw [Bd];exact hI.symm,by rw [Bd,Bd,e1,e2];exact He _ _⟩
    · obtain ⟨j,a,b,c,g⟩:=h.ent x hx
      have e:j≠i:=fun e=>c (by rw [e];exact hd)
      exact ⟨j,a,b,by rw [AX e];exact c,by rw [AX e,AX e];exact g⟩
  · intro j _ hj
    by_cases e:j=i
    · subst e;exact ⟨_,hh.mem_iff.2 List.mem_cons_self,by rw [Bd];exact e1,by rw [Bd];exact e2,e3⟩
    · rw [AX e] at hj
      obtain ⟨x,m,r⟩:=h.opn j rfl hj
      exact ⟨x,hh.mem_iff.2 (List.mem_cons_of_mem _ m),by rw [AX e,AX e];exact r⟩
  · obtain ⟨j,a,_,c,_⟩:=h.ent x hx
    have:j=i:=by omega
    subst this
    exact c hd
theorem DjI.drop (h:DjI n A S D d k f hp) (hh:hp.Perm (e :: hp')) {i:Nat} (hi:e.item=(i:Int)) (hd:¬(e.key=d i∧e.tie=k i)):DjI n A S D d k f hp' :=
  { h with
    ent:=fun x hx=>h.ent x (hh.mem_iff.2 (List.mem_cons_of_mem _ hx))
    opn := fun j hj hc=>by
      obtain ⟨x,m,a,b,c⟩:=h.opn j hj hc
      rcases List.mem_cons.1 (hh.mem_iff.1 m) with rfl|m
      · have:j=i:=by omega
        subst this
        exact (hd ⟨a,b⟩).elim
      · exact ⟨x,m,a,b,c⟩
    low:=fun j hj x hx=>h.low j hj x (hh.mem_iff.2 (List.mem_cons_of_mem _ hx))
    old:=fun j x hj hx=>h.old j x hj (hh.mem_iff.2 (List.mem_cons_of_mem _ hx))
    uni:=(List.pairwise_cons.1 (Gu hh.symm h.uni)).2 }
theorem DjI.mark (h:DjI n A S (fun _ _=>True) d k f hp) (hh:hp.Perm (e :: hp')) (hmin:∀ x∈hp,nb x e) {i:Nat} (hi:e.item=(i:Int)) (h1:e.key=d i) (h2:e.tie=k i) :
    f i=false∧i < n∧d i≠Inf∧nScan (upd f i true) n=nScan f n + 1∧nRem A (upd f i true) n + (A i).length=nRem A f n∧(∀ j,upd f i true j=true→lle (d j) (k j) (d i) (k i))∧DjI n A S (fun j _=>j≠i) d k (upd f i true) hp':=by
  have he:e∈hp:=hh.mem_iff.2 List.mem_cons_self
  have hsub:∀ x,x∈hp'→x∈hp:=fun x hx=>hh.mem_iff.2 (List.mem_cons_of_mem _ hx)
  obtain ⟨i',a,b,c,_⟩:=h.ent e he
  have e0:i'=i:=by omega
  subst e0
  have hf:f i'=false:=by
    cases hb:f i' with
    | false=>rfl
    | true=>exact (h.old i' e hb he hi h1 h2).elim
  have hn:=Nf b hf
  have hl:∀ x∈hp,lle (d i') (k i') x.key x.tie:=fun x hx=>by
    have:=hmin x hx
    rw [← h1,← h2]
    unfold nb bfr at this
    unfold lle
    omega
  have hu:∀ j,upd f i' true j=true→j=i'∨f j=true:=fun j hj=>by
    by_cases e:j=i'
    · exact .inl e
    · rw [AX e] at hj;exact .inr hj
  refine ⟨hf,b,c,hn,NX b hf,fun j hj=>?_,⟨h.src,h.real,fun j hj=>?_,h.inf,fun x hx=>h.ent x (hsub x hx),fun j hj hc=>?_,fun j hj x hx=>?_,fun j hj=>?_,fun j x hj hx e1 e2 e3=>?_,(List.pairwise_cons.1 (Gu hh.symm h.uni)).2,fun j p hj hp hne=>?_⟩⟩
  · rcases hu j hj with rfl|hj
    · exact He _ _
    · have:=h.low j hj e he
      rwa [h1,h2] at this
  · have:=h.bnd j hj
    rw [hn]
    omega
  · have e:j≠i':=fun e=>by subst e;rw [Bd] at hj;cases hj
    rw [AX e] at hj
    obtain ⟨x,m,r1,r2,r3⟩:=h.opn j hj hc
    rcases List.mem_cons.1 (hh.mem_iff.1 m) with rfl|m
    · omega
    · exact ⟨x,m,r1,r2,r3⟩
  · rcases hu j hj with rfl|hj
    · exact hl x (hsub x hx)
    · exact h.low j hj x (hsub x hx)
  · rcases hu j hj with rfl|hj
    · exact c
    · exact h.fin j hj
  · rcases hu j hj with rfl|hj
    · exact (List.pairwise_cons.1 (Gu hh.symm h.uni)).1 x hx ⟨by omega,by omega,by omega⟩
    · exact h.old j x hj (hsub x hx) e1 e2 e3
  · rcases hu j hj with rfl|hj
    · exact (hne rfl).elim
    · exact h.rel j p hj hp trivial
theorem DjI.keep (h:DjI n A S D d k f hp) {D':Nat→Nat×Int→Prop} {i:Nat} {p:Nat×Int} (hD:∀ j q,D' j q→D j q∨(j=i∧q=p)) (hm:d p.1≠Inf) (hl:lle (d p.1) (k p.1) (d i + p.2) (k i + 1)):DjI n A S D' d k f hp :=
  { h with
    rel:=fun j q hj hq hd=>by
      rcases hD j q hd with hd|⟨rfl,rfl⟩
      · exact h.rel j q hj hq hd
      · exact ⟨hm,hl⟩ }
theorem DjI.better (h:DjI n A S D d k f hp) (hA:ArcsOk n A) {D':Nat→Nat×Int→Prop} {i:Nat} {p:Nat×Int} (hD:∀ j q,D' j q→D j q∨(j=i∧q=p)) (hf:f i=true) (hcur:∀ j,f j=true→lle (d j) (k j) (d i) (k i)) (hb:d i + 1048576≤(nScan f n:Int) * 1048576) (hb2:k i + 1≤(nScan f n:Int)) (hp0:p∈A i)
    (hl:¬ lle (d p.1) (k p.1) (d i + p.2) (k i + 1)) (hh:hp'.Perm (e :: hp)) (e1:e.key=d i + p.2) (e2:e.tie=k i + 1) (e3:e.item=(p.1:Int)) (hx:d i + p.2≠Inf):p.1≠i∧DjI n A S D' (upd d p.1 (d i + p.2)) (upd k p.1 (k i + 1)) f hp':=by
  obtain ⟨m,w⟩:=p
  dsimp only at *
  have hw:=hA.wt i _ hp0
  have hmn:=(hA.to i _ hp0).2
  dsimp only at hw hmn
  have hdi:=h.fin i hf
  have hbi:=h.bnd i hdi
  have hmf:∀ j,f j=true→j≠m:=fun j hj e=>by
    subst e
    have:=hcur j hj
    unfold lle at this hl
    omega
  have hmi:=hmf i hf
  refine ⟨Ne.symm hmi,fun j hj=>?_,fun j hj=>?_,fun j hj=>?_,fun j hj=>?_,fun x hx'=>?_,fun j hj hc=>?_,fun j hj x hx'=>?_,fun j hj=>?_,fun j x hj hx' f1 f2 f3=>?_,Gu hh (List.pairwise_cons.2 ⟨fun x hx' hc=>?_,h.uni⟩),fun j q hj hq hd=>?_⟩
  · obtain ⟨a,b,c⟩:=h.src j hj
    have e:j≠m:=fun e=>by subst e;unfold lle at hl;omega
    rw [AX e,AX e];exact ⟨a,b,c⟩
  · by_cases e:j=m
    · subst e;rw [Bd,Bd];exact .step (h.real i hdi) hp0
    · rw [AX e] at hj;rw [AX e,AX e];exact h.real j hj
  · by_cases e:j=m
    · subst e;rw [Bd,Bd];exact ⟨hmn,by omega,by omega,by omega,by omega⟩
    · rw [AX e] at hj;rw [AX e,AX e];exact h.bnd j hj
  · by_cases e:j=m
    · subst e;rw [Bd] at hj;exact (hx hj).elim
    · rw [AX e] at hj;rw [AX e];exact h.inf j hj
  · rcases List.mem_cons.1 (hh.mem_iff.1 hx') with rfl|hx'
    · exact ⟨m,e3,hmn,by rw [Bd];exact hx,by rw [Bd,Bd,e1,e2];exact He _ _⟩
    · obtain ⟨j,a,b,c,g⟩:=h.ent x hx'
      by_cases e:j=m
      · subst e
        exact ⟨j,a,b,by rw [Bd];exact hx,by rw [Bd,Bd];unfold lle at *;omega⟩
      · exact ⟨j,a,b,by rw [AX e];exact c,by rw [AX e,AX e];exact g⟩
  · by_cases e:j=m
    · subst e;exact ⟨_,hh.mem_iff.2 List.mem_cons_self,by rw [Bd];exact e1,by rw [Bd];exact e2,e3⟩
    · rw [AX e] at hc
      obtain ⟨x,m,r⟩:=h.opn j hj hc
      exact ⟨x,hh.mem_iff.2 (List.mem_cons_of_mem _ m),by rw [AX e,AX e];exact r⟩
  · rw [AX (hmf j hj),AX (hmf j hj)]
    rcases List.mem_cons.1 (hh.mem_iff.1 hx') with rfl|hx'
    · have:=hcur j hj
      rw [e1,e2]
      unfold lle at *
      omega
    · exact h.low j hj x hx'
  · rw [AX (hmf j hj)];exact h.fin j hj
  · have e:=hmf j hj
    rw [AX e] at f2 f3
    rcases List.mem_cons.1 (hh.mem_iff.1 hx') with rfl|hx'
    · omega
    · exact h.old j x hj hx' f1 f2 f3
  · obtain ⟨j,a,_,c,g⟩:=h.ent x hx'
    have:j=m:=by omega
    subst this
    obtain ⟨c1,c2,c3⟩:=hc
    rw [← c1,← c2,e1,e2] at g
    exact hl g
  · have e:=hmf j hj
    rw [AX e,AX e]
    rcases hD j q hd with hd|⟨rfl,rfl⟩
    · obtain ⟨r1,r2⟩:=h.rel j q hj hq hd
      by_cases e:q.1=m
      · rw [e] at r1 r2 ⊢
        rw [Bd,Bd]
        exact ⟨hx,by unfold lle at *;omega⟩
      · rw [AX e,AX e];exact ⟨r1,r2⟩
    · dsimp only
      rw [Bd,Bd];exact ⟨hx,He _ _⟩
theorem DjI.done (h:DjI n A S (fun _ _=>True) d k f []):LexP n A S d k:=by
  have hI:Inf≠0:=by unfold Inf;omega
  refine ⟨h.real,fun i c q hx=>?_⟩
  induction hx with
  | src hs=>obtain ⟨_,a,b⟩:=h.src _ hs;rw [a,b];exact ⟨hI.symm,He _ _⟩
  | @step i c q j w _ hm ih =>
    have hf:f i=true:=by
      cases hb:f i with
      | true=>rfl
      | false=>obtain ⟨x,m,_⟩:=h.opn i hb ih.1;simp at m
    obtain ⟨r1,r2⟩:=h.rel i _ hf hm trivial
    refine ⟨r1,Nd r2 ?_⟩
    have:=ih.2
    unfold lle at *
    omega
end
section
variable {n : Nat} {A : Nat → List (Nat × Int)} {S : Nat → Prop} {d k d' k' : Nat → Int}
theorem LexP.tight (h:LexP n A S d k) {i:Nat} (hi:d i≠Inf):(S i∧d i=0∧k i=0)∨∃ j w,(i,w)∈A j∧d j≠Inf∧d i=d j + w∧k i=k j + 1:=by
  have hr:=h.real i hi
  generalize hc:d i=c at hr
  generalize hk:k i=q at hr
  cases hr with
  | src hs=>exact .inl ⟨hs,rfl,rfl⟩
  | @step j c' q' _ w hx hm =>
    obtain ⟨a1,a2⟩:=h.low j _ _ hx
    have b:=(h.low i _ _ (.step (h.real j a1) hm)).2
    rw [hc,hk] at b
    unfold lle at a2 b
    exact .inr ⟨j,w,hm,a1,by omega,by omega⟩
end
end
section
open Go Go.RowKit
theorem Iq (x y:QEn):BQ x y=some (decide (bfr x y)):=by
  unfold BQ bfr
  by_cases h1:x.key=y.key
  · by_cases h2:x.tie=y.tie
    · by_cases h3:x.number < y.number<;>simp [h1,h2,h3,bnd]
    · by_cases h3:x.tie < y.tie<;>simp [h1,h2,h3,bnd]
  · by_cases h3:x.key < y.key<;>simp [h1,h3,bnd]
theorem QU {q:Que} {i:Nat} (hi:i < q.heap.length) (hl:q.heap.length≤1000000) (h:UpI q.heap i):∃ r,CM q (i:Int)=some r∧HeapOk r.heap∧r.heap.Perm q.heap∧r.next=q.next:=by
  unfold CM
  refine La (fun s=>∃ i:Nat,s.1=(i:Int)∧i < s.2.heap.length∧UpI s.2.heap i∧s.2.heap.Perm q.heap∧s.2.next=q.next) (fun s=>HeapOk s.2.heap∧s.2.heap.Perm q.heap∧s.2.next=q.next) (fun s=>HeapOk s.heap∧s.heap.Perm q.heap∧s.next=q.next) (fun s=>s.1.toNat) ⟨i,rfl,hi,h,List.Perm.refl _,rfl⟩ ?_ (fun s hs=>⟨_,rfl,hs⟩) (fun s hs=>⟨_,rfl,hs⟩)
  rintro ⟨c,s⟩ ⟨i,hc,hi,hu,hp,hn⟩
  dsimp only at hc hi hu hp hn ⊢
  subst hc
  have hlen:=hp.length_eq
  by_cases h0:0 < (i:Int)
  · rw [if_pos h0,Cm (by unfold inI64;omega),Ar]
    have hq:quoI ((i:Int) - 1) 2=some (((i - 1) / 2:Nat):Int):=by
      unfold quoI;rw [if_pos (by omega)];congr 1;omega
    obtain ⟨a,ha⟩:=AE (l:=s.heap) (k:=i) hi
    obtain ⟨b,hb⟩:=AE (l:=s.heap) (k:=(i - 1) / 2) (by omega)
    rw [hq,Ar,BT,ha,Ar,BT,hb,Ar,Iq,Ar]
    by_cases hab:bfr a b
    · rw [decide_eq_true hab,Ef,Ar,Ar,Ar,BT,Int.toNat_natCast,List.getElem?_set_ne (by omega),hb,Ar,Int.toNat_natCast]
      refine .inl ⟨_,rfl,⟨(i - 1) / 2,rfl,by simp;omega,hu.step (by omega) ha hb hab,(Lb ha hb).trans hp,hn⟩,?_⟩
      dsimp only
      omega
    · rw [decide_eq_false hab,Di]
      refine .inr (.inr ⟨_,rfl,hu.heap (.inr fun x y hx hy=>?_),hp,hn⟩)
      rw [ha] at hx
      rw [hb] at hy
      obtain rfl:=Option.some.inj hx
      obtain rfl:=Option.some.inj hy
      exact hab
  · rw [if_neg h0]
    exact .inr (.inl ⟨_,rfl,hu.heap (.inl (by omega)),hp,hn⟩)
theorem LU {q:Que} (h:HeapOk q.heap) (hl:q.heap.length < 65536) (hn:0≤q.next∧q.next≤1000000000) (k t i:Int):∃ r,BG q k t i=some r∧r.1=⟨0⟩∧HeapOk r.2.heap∧r.2.heap.Perm (⟨k,t,i,q.next⟩ :: q.heap)∧r.2.next=q.next + 1:=by
  unfold BG
  rw [if_neg (by omega),CF (by simp;omega) (by simp;omega),Ar,Cm (by unfold inI64;omega),Ar,Cm (by unfold inI64;simp;omega),Ar]
  have hlen:(((q.heap ++ [(⟨k,t,i,q.next⟩:QEn)]).length:Int) - 1)=((q.heap.length:Nat):Int):=by simp
  rw [hlen]
  obtain ⟨r,r1,r2,r3,r4⟩:=QU (q:=⟨q.heap ++ [⟨k,t,i,q.next⟩],q.next + 1⟩) (i:=q.heap.length) (by simp) (by simp;omega) ⟨fun j x y hj hji hx hy=>by
    dsimp only at hx hy
    have hjl:j < q.heap.length:=by have:=AC hx;simp at this;omega
    rw [List.getElem?_append_left hjl] at hx
    rw [List.getElem?_append_left (by omega)] at hy
    exact h j x y hj hx hy,fun j x y h1 h2 h3 hx hy=>by
    dsimp only at hx
    have:=AC hx
    simp at this
    omega⟩
  rw [r1,Ar]
  exact ⟨_,rfl,rfl,r2,r3.trans (List.perm_append_comm (l₁:=q.heap) (l₂:=[_])),r4⟩
theorem Pe {q:Que} (hl:q.heap.length≤1000000) (h:DownI q.heap 0):∃ r,Cw q 0=some r∧HeapOk r.heap∧r.heap.Perm q.heap∧r.next=q.next:=by
  unfold Cw
  refine La (fun s=>∃ i:Nat,s.1=(i:Int)∧DownI s.2.heap i∧i≤s.2.heap.length∧s.2.heap.Perm q.heap∧s.2.next=q.next) (fun _=>False) (fun s=>HeapOk s.heap∧s.heap.Perm q.heap∧s.next=q.next) (fun s=>s.2.heap.length - s.1.toNat) ⟨0,rfl,h,by omega,List.Perm.refl _,rfl⟩ ?_ (fun s hs=>hs.elim) (fun s hs=>⟨_,rfl,hs⟩)
  rintro ⟨c,s⟩ ⟨i,hc,hd,hi,hp,hn⟩
  dsimp only at hc hd hi hp hn ⊢
  subst hc
  have hlen:=hp.length_eq
  rw [Cm (by unfold inI64;omega),Ar,Cm (by unfold inI64;omega),Ar]
  by_cases h1:(s.heap.length:Int)≤2 * (i:Int) + 1
  · rw [if_pos h1]
    refine .inr (.inr ⟨_,rfl,hd.heap fun j x y hj hji hx _=>?_,hp,hn⟩)
    have:=AC hx
    omega
  rw [if_neg h1]
  obtain ⟨a,ha⟩:=AE (l:=s.heap) (k:=i) (by omega)
  obtain ⟨b,hb⟩:=AE (l:=s.heap) (k:=2 * i + 1) (by omega)
  have cast1:2 * (i:Int) + 1=((2 * i + 1:Nat):Int):=by omega
  have cast2:2 * (i:Int) + 1 + 1=((2 * i + 2:Nat):Int):=by omega
  have rest:∀ (c:Nat) (d:QEn),(c=2 * i + 1∨c=2 * i + 2)→s.heap[c]?=some d→(∀ (j:Nat) x,0 < j→(j - 1) / 2=i→s.heap[j]?=some x→nb x d)→(∃ s',(bnd (atI s.heap (c:Int)) fun a138=>bnd (atI s.heap (i:Int)) fun a153=>bnd (BQ a138 a153) fun q168=>if q168=true then bnd (atI s.heap (c:Int)) fun a180=>bnd (atI s.heap (i:Int)) fun a195=>bnd (atI s.heap (i:Int)) fun _=>bnd (atI (s.heap.set ((i:Int)).toNat a180) (c:Int)) fun _=>some (Ctl.next (ρ:=Que) ((c:Int),(⟨((s.heap.set ((i:Int)).toNat a180).set ((c:Int)).toNat a195),s.next⟩:Que))) else some (.ret s))=some (.next s')∧(∃ i:Nat,s'.1=(i:Int)∧DownI s'.2.heap i∧i≤s'.2.heap.length∧s'.2.heap.Perm q.heap∧s'.2.next=q.next)∧s'.2.heap.length - s'.1.toNat < s.heap.length - ((i:Int)).toNat)∨(∃ s',(bnd (atI s.heap (c:Int)) fun a138=>bnd (atI s.heap (i:Int)) fun a153=>bnd (BQ a138 a153) fun q168=>if q168=true then bnd (atI s.heap (c:Int)) fun a180=>bnd (atI s.heap (i:Int)) fun a195=>bnd (atI s.heap (i:Int)) fun _=>bnd (atI (s.heap.set ((i:Int)).toNat a180) (c:Int)) fun _=>some (Ctl.next (ρ:=Que) ((c:Int),(⟨((s.heap.set ((i:Int)).toNat a180).set ((c:Int)).toNat a195),s.next⟩:Que))) else some (.ret s))=some (.brk s')∧False)∨∃ r,(bnd (atI s.heap (c:Int)) fun a138=>bnd (atI s.heap (i:Int)) fun a153=>bnd (BQ a138 a153) fun q168=>if q168=true then bnd (atI s.heap (c:Int)) fun a180=>bnd (atI s.heap (i:Int)) fun a195=>bnd (atI s.heap (i:Int)) fun _=>bnd (atI (s.heap.set ((i:Int)).toNat a180) (c:Int)) fun _=>some (Ctl.next (ρ:=Que) ((c:Int),(⟨((s.heap.set ((i:Int)).toNat a180).set ((c:Int)).toNat a195),s.next⟩:Que))) else some (.ret s))=some (.ret r)∧HeapOk r.heap∧r.heap.Perm q.heap∧r.next=q.next:=by
    intro c d hc hd' hs
    have hcl:=AC hd'
    rw [BT,hd',Ar,BT,ha,Ar,Iq,Ar]
    by_cases hda:bfr d a
    · rw [decide_eq_true hda,Ef,Ar,Ar,Ar,BT,Int.toNat_natCast,List.getElem?_set_ne (by omega),hd',Ar,Int.toNat_natCast]
      refine .inl ⟨_,rfl,⟨c,rfl,hd.step hc ha hd' hda hs,by simp;omega,(Lb ha hd').trans hp,hn⟩,?_⟩
      simp
      omega
    · rw [decide_eq_false hda,Di]
      refine .inr (.inr ⟨_,rfl,hd.heap fun j x y hj hji hx hy=>?_,hp,hn⟩)
      rw [ha] at hy
      obtain rfl:=Option.some.inj hy
      exact Hw (hs j x hj hji hx) hda
  rw [Cm (by unfold inI64;omega),Ar]
  by_cases h2:2 * (i:Int) + 1 + 1 < (s.heap.length:Int)
  · obtain ⟨d,hd'⟩:=AE (l:=s.heap) (k:=2 * i + 2) (by omega)
    rw [if_pos h2,Ar,cast2,cast1,BT,hd',Ar,BT,hb,Ar,Iq,Ar]
    by_cases hdb:bfr d b
    · rw [decide_eq_true hdb,Ef,Ar,Ef,Ar,Ar]
      refine rest (2 * i + 2) d (.inr rfl) hd' fun j x hj hji hx=>?_
      have:j=2 * i + 1∨j=2 * i + 2:=by omega
      rcases this with rfl|rfl
      · rw [hb] at hx;obtain rfl:=Option.some.inj hx;exact KD hdb
      · rw [hd'] at hx;obtain rfl:=Option.some.inj hx;exact JK _
    · rw [decide_eq_false hdb,Di,Ar,Di,Ar]
      refine rest (2 * i + 1) b (.inl rfl) hb fun j x hj hji hx=>?_
      have:j=2 * i + 1∨j=2 * i + 2:=by omega
      rcases this with rfl|rfl
      · rw [hb] at hx;obtain rfl:=Option.some.inj hx;exact JK _
      · rw [hd'] at hx;obtain rfl:=Option.some.inj hx;exact hdb
  · rw [if_neg h2,Ar,Di,Ar,cast1]
    refine rest (2 * i + 1) b (.inl rfl) hb fun j x hj hji hx=>?_
    have:j=2 * i + 1:=by have:=AC hx;omega
    subst this
    rw [hb] at hx;obtain rfl:=Option.some.inj hx;exact JK _
theorem Qi {q:Que} (h:HeapOk q.heap) (h0:0 < q.heap.length) (hl:q.heap.length≤1000000):∃ r,Cl q=some r∧∃ (e:QEn) (q':Que),r=(e.key,e.tie,e.item,⟨0⟩,q')∧HeapOk q'.heap∧q.heap.Perm (e :: q'.heap)∧(∀ x∈q.heap,nb x e)∧q'.next=q.next:=by
  obtain ⟨e,he⟩:=AE (l:=q.heap) (k:=0) h0
  obtain ⟨z,hz⟩:=AE (l:=q.heap) (k:=q.heap.length - 1) (by omega)
  have at0:atI q.heap 0=some e:=by rw [show (0:Int)=((0:Nat):Int) from rfl,BT];exact he
  have cz:((q.heap.length:Int) - 1)=((q.heap.length - 1:Nat):Int):=by omega
  unfold Cl CO
  rw [if_neg (by omega),at0,Ar,Ar,if_neg (by simp),Cm (by unfold inI64;omega),Ar,cz,BT,hz,Ar,Ar]
  unfold cutI
  rw [if_pos (by simp),Ar]
  simp only [Int.toNat_zero,List.drop_zero,Int.toNat_natCast]
  have hperm:q.heap.Perm (e :: (q.heap.set 0 z).take (q.heap.length - 1)):=by
    cases hq:q.heap with
    | nil=>rw [hq] at h0;simp at h0
    | cons a tl =>
      rw [hq] at he hz
      simp at he
      subst he
      cases htl:tl.reverse with
      | nil =>
        have:tl=[]:=by simpa using htl
        subst this
        simp
      | cons w r =>
        have htl':tl=r.reverse ++ [w]:=by have:=congrArg List.reverse htl;simpa using this
        subst htl'
        simp at hz
        subst hz
        simp
  obtain ⟨r,r1,r2,r3,r4⟩:=Pe (q:=⟨(q.heap.set 0 z).take (q.heap.length - 1),q.next⟩) (by simp;omega) ⟨fun j x y hj hjp hx hy=>by
    dsimp only at hx hy
    have hx':=GN hx
    have hy':=GN hy
    rw [List.getElem?_set_ne (by omega)] at hx' hy'
    exact h j x y hj hx' hy',fun j x y h1=>by omega⟩
  rw [r1,Ar]
  exact ⟨_,rfl,e,r,rfl,r2,hperm.trans (List.Perm.cons _ r3.symm),Nc h he,r4⟩
end
section
set_option linter.unusedVariables false
set_option linter.unusedSimpArgs false
open Go Go.RowKit
def gI (l:List Int) (i:Nat):Int:=(l[i]?).getD Inf
theorem Qj {l:List Int} {i:Nat} (h:i < l.length):l[i]?=some (gI l i):=by unfold gI;rw [List.getElem?_eq_getElem h];rfl
theorem Fv {l:List Int} {m:Nat} {x:Int} (h:m < l.length):gI (l.set m x)=upd (gI l) m x:=by
  funext j
  unfold gI upd
  by_cases e:j=m
  · subst e;rw [if_pos rfl,List.getElem?_set_self h];rfl
  · rw [if_neg e,List.getElem?_set_ne (Ne.symm e)]
theorem Ea {l:List Int} {i:Nat} (h:i < l.length):atI l (i:Int)=some (gI l i):=by rw [BT,Qj h]
theorem Ng (n:Nat):gI (List.replicate n Inf)=fun _=>Inf:=by
  funext j
  unfold gI
  rw [List.getElem?_replicate]
  split<;>rfl
def arcA (rows:List (List Arc)) (i:Nat):List (Nat×Int):=((rows[i]?).getD []).map fun a=>(a.dst.toNat,a.weight)
abbrev LQ:=List Int×List Int×Que
noncomputable def shIn (x0:List (List Arc)) (c k:Int):Arc→LQ→Option (Ctl LQ (Ctl LQ (List Int×List Int))):=fun a s=>bnd (chkI (c + a.weight)) fun n1=>bnd (chkI (k + 1)) fun n2=>bnd (bnd (atI s.1 a.dst) fun a385=>if a385 < n1 then (some true) else (bnd (atI s.1 a.dst) fun a398=>if n1=a398 then (bnd (atI s.2.1 a.dst) fun a411=>if a411≤n2 then (some true) else (some false)) else (some false)):Option Bool) fun y381=>if y381=true then (some (.next (s.1,s.2.1,s.2.2))) else (bnd (atI s.1 a.dst) fun _=>bnd (atI s.2.1 a.dst) fun _=>bnd (BG s.2.2 n1 n2 a.dst) fun q457=>if q457.1.n≠0 then (bnd (Dt x0 (s.1.set (a.dst:Int).toNat n1) (s.2.1.set (a.dst:Int).toNat n2)) fun q472=>some (.ret (.ret (q472.1,q472.2)))) else (some (.next ((s.1.set (a.dst:Int).toNat n1),(s.2.1.set (a.dst:Int).toNat n2),q457.2))))
noncomputable def shF (x0:List (List Arc)):LQ→Option (Ctl LQ (List Int×List Int)):=fun s226=>bnd (CB s226.2.2) fun q249=>if 0 < q249 then (bnd (Cl s226.2.2) fun q260=>if q260.2.2.2.1.n≠0 then (some (.brk (s226.1,s226.2.1,q260.2.2.2.2))) else (bnd (bnd (atI s226.1 q260.2.2.1) fun a285=>if q260.1≠a285 then (some true) else (bnd (atI s226.2.1 q260.2.2.1) fun a298=>if q260.2.1≠a298 then (some true) else (some false)):Option Bool) fun y281=>if y281=true then (some (.next (s226.1,s226.2.1,q260.2.2.2.2))) else (bnd (atI x0 q260.2.2.1) fun a316=>bnd (rng (ρ:=Ctl LQ ((List Int)×(List Int))) (fun (_:Nat) (a338:Arc) (s335:LQ)=>shIn x0 q260.1 q260.2.1 a338 s335) a316 0 (s226.1,s226.2.1,q260.2.2.2.2)) fun res333=>fin res333 fun (s491:LQ)=>some (.next (s491.1,s491.2.1,s491.2.2))))) else (some (.brk (s226.1,s226.2.1,s226.2.2)))
noncomputable def shE:Fin LQ (List Int×List Int)→Option (List Int×List Int):=fun res224=>fin res224 fun (s497:LQ)=>some (s497.1,s497.2.1)
noncomputable def shS:Int→LQ→Option (Ctl LQ (List Int×List Int)):=fun a152 s149=>bnd (atI s149.1 a152) fun _=>bnd (atI s149.2.1 a152) fun _=>bnd (BG s149.2.2 0 0 a152) fun q208=>some (.next ((s149.1.set (a152:Int).toNat 0),(s149.2.1.set (a152:Int).toNat 0),q208.2))
theorem Qk (x0:List (List Arc)) (x1:List Int):BN x0 x1=bnd (mkI 8 (0:Int) (x0.length:Int)) fun u7=>bnd (mkI 8 (0:Int) (x0.length:Int)) fun u9=>bnd (some (u7,u9):Option ((List Int)×(List Int))) fun y11=>bnd (rngN (ρ:=(List Int)×(List Int)) (fun (k77:Nat) (s75:(List Int)×(List Int))=>bnd (s75.1[k77]?) fun a104=>bnd (s75.2[k77]?) fun a116=>some (.next ((s75.1.set k77 1125899906842624),(s75.2.set k77 1125899906842624)))) y11.1.length (y11.1,y11.2)) fun res73=>fin res73 fun (s132:(List Int)×(List Int))=>bnd (DD) fun q134=>bnd q134 fun o144=>bnd (rng (ρ:=(List Int)×(List Int)) (fun (_:Nat) (a152:Int) (s149:LQ)=>shS a152 s149) x1 0 (s132.1,s132.2,o144)) fun res147=>fin res147 fun (s222:LQ)=>bnd (lop (shF x0) (s222.1,s222.2.1,s222.2.2)) shE:=rfl
structure ShI (n:Nat) (A:Nat→List (Nat×Int)) (S:Nat→Prop) (D:Nat→Nat×Int→Prop) (f:Nat→Bool) (s:LQ):Prop where
  dj:DjI n A S D (gI s.1) (gI s.2.1) f s.2.2.heap
  l1:s.1.length=n
  l2:s.2.1.length=n
  hp:HeapOk s.2.2.heap
structure RowsOk (n:Nat) (rows:List (List Arc)):Prop where
  len:rows.length=n
  few:n≤600
  ok:∀ (i:Nat) r a,rows[i]?=some r→a∈r→0≤a.dst∧a.dst < (n:Int)∧0≤a.weight∧a.weight≤1048576
section
variable {n : Nat} {rows : List (List Arc)} {S : Nat → Prop} {D : Nat → Nat × Int → Prop} {f : Nat → Bool} {s : LQ}
theorem RowsOk.arcs (h:RowsOk n rows):ArcsOk n (arcA rows):=by
  have key:∀ i p,p∈arcA rows i→∃ r a,rows[i]?=some r∧a∈r∧p=(a.dst.toNat,a.weight):=fun i p hp=>by
    unfold arcA at hp
    cases hr:rows[i]? with
    | none=>rw [hr] at hp;simp at hp
    | some r =>
      rw [hr] at hp
      obtain ⟨a,ha,rfl⟩:=List.mem_map.1 hp
      exact ⟨r,a,rfl,ha,rfl⟩
  refine ⟨fun i p hp=>?_,fun i p hp=>?_⟩
  · obtain ⟨r,a,h1,h2,rfl⟩:=key i p hp
    have:=h.ok i r a h1 h2
    have hl:=AC h1
    rw [h.len] at hl
    exact ⟨hl,by dsimp only;omega⟩
  · obtain ⟨r,a,h1,h2,rfl⟩:=key i p hp
    have:=h.ok i r a h1 h2
    exact ⟨by dsimp only;omega,by dsimp only;omega⟩
theorem Ql (h:RowsOk n rows) {i:Nat} {row:List Arc} (hr:rows[i]?=some row) {m:Nat} {a:Arc} (ha:row[m]?=some a) (hI:ShI n (arcA rows) S (fun j p=>j≠i∨p∈(arcA rows i).take m) f s) {c k:Int} (hc:gI s.1 i=c) (hk:gI s.2.1 i=k) (hf:f i=true)
    (hcur:∀ j,f j=true→lle (gI s.1 j) (gI s.2.1 j) c k) (hb:c + 1048576≤(nScan f n:Int) * 1048576) (hb2:k + 1≤(nScan f n:Int)) (hl:s.2.2.heap.length < 65536) (hn:0≤s.2.2.next∧s.2.2.next≤1000000000) :
    ∃ s',shIn rows c k a s=some (.next s')∧ShI n (arcA rows) S (fun j p=>j≠i∨p∈(arcA rows i).take (m + 1)) f s'∧gI s'.1 i=c∧gI s'.2.1 i=k∧(∀ j,f j=true→lle (gI s'.1 j) (gI s'.2.1 j) c k)∧s'.2.2.heap.length≤s.2.2.heap.length + 1∧s.2.2.next≤s'.2.2.next∧s'.2.2.next≤s.2.2.next + 1:=by
  obtain ⟨dl,kl,q⟩:=s
  obtain ⟨hD,h1,h2,h3⟩:=hI
  dsimp only at *
  have hAm:(arcA rows i)[m]?=some (a.dst.toNat,a.weight):=by unfold arcA;rw [hr];simp [ha]
  have hmem:=List.mem_of_getElem? hAm
  have hok:=h.ok i row a hr (List.mem_of_getElem? ha)
  have hA:=h.arcs
  have hns:=Lf f n
  have hfew:=h.few
  have hdi:=hD.fin i hf
  have hbi:=hD.bnd i hdi
  rw [hc,hk] at hbi
  obtain ⟨j,hj⟩:∃ j:Nat,a.dst=(j:Int):=⟨a.dst.toNat,by omega⟩
  have hjn:j < n:=by omega
  have hDD:∀ u v,(u≠i∨v∈(arcA rows i).take (m + 1))→(u≠i∨v∈(arcA rows i).take m)∨(u=i∧v=(j,a.weight)):=fun u v hv=>by
    rcases hv with hv|hv
    · exact .inl (.inl hv)
    · rcases (Hv hAm).1 hv with hv|hv
      · exact .inl (.inr hv)
      · by_cases e:u=i
        · exact .inr ⟨e,by rw [hv,hj];rfl⟩
        · exact .inl (.inl e)
  have hmem':(j,a.weight)∈arcA rows i:=by rw [hj] at hmem;exact hmem
  unfold shIn
  dsimp only
  have hwc:c + a.weight < Inf:=by unfold Inf;omega
  have hr1:inI64 (c + a.weight):=by unfold inI64;unfold Inf at hwc;omega
  have hr2:inI64 (k + 1):=by unfold inI64;omega
  rw [Cm hr1,Ar,Cm hr2,Ar,hj,Ea (by omega:j < dl.length),Ar,Ar,Ea (by omega:j < kl.length),Ar]
  by_cases hle:lle (gI dl j) (gI kl j) (c + a.weight) (k + 1)
  · have e:(if gI dl j < c + a.weight then some true else if c + a.weight=gI dl j then if gI kl j≤k + 1 then some true else some false else some false)=some true:=by
      unfold lle at hle
      by_cases e1:gI dl j < c + a.weight
      · rw [if_pos e1]
      · rw [if_neg e1,if_pos (by omega),if_pos (by omega)]
    rw [e,Ar,Ef]
    refine ⟨_,rfl,⟨?_,h1,h2,h3⟩,hc,hk,hcur,by dsimp only;omega,by dsimp only;omega,by dsimp only;omega⟩
    exact hD.keep hDD (by unfold lle at hle;dsimp only;omega) (by rw [hc,hk];exact hle)
  · have e:(if gI dl j < c + a.weight then some true else if c + a.weight=gI dl j then if gI kl j≤k + 1 then some true else some false else some false)=some false:=by
      unfold lle at hle
      rw [if_neg (by omega)]
      by_cases e1:c + a.weight=gI dl j
      · rw [if_pos e1,if_neg (by omega)]
      · rw [if_neg e1]
    obtain ⟨r,p1,p2,p3,p4,p5⟩:=LU h3 hl hn (c + a.weight) (k + 1) (j:Int)
    rw [e,Ar,Di,p1,Ar,Ar,Ar,p2,if_neg (by decide),Int.toNat_natCast]
    obtain ⟨b1,b2⟩:=hD.better hA (D':=fun u v=>u≠i∨v∈(arcA rows i).take (m + 1)) hDD hf (by rw [hc,hk];exact hcur) (by rw [hc];exact hb) (by rw [hk];exact hb2) hmem' (by rw [hc,hk];exact hle) p4 (by dsimp only;rw [hc]) (by dsimp only;rw [hk]) rfl (by rw [hc];omega)
    dsimp only at b1 b2
    rw [hc,hk,← Fv (by omega),← Fv (by omega)] at b2
    have hij:i≠j:=fun e=>b1 e.symm
    refine ⟨_,rfl,⟨b2,by simp [h1],by simp [h2],p3⟩,?_,?_,?_,?_,?_,?_⟩
    · dsimp only;rw [Fv (by omega),AX hij];exact hc
    · dsimp only;rw [Fv (by omega),AX hij];exact hk
    · intro u hu
      dsimp only
      have hcu:=hcur u hu
      rw [Fv (by omega),Fv (by omega)]
      have hne:u≠j:=fun e=>by subst e;unfold lle at hcu hle;omega
      rw [AX hne,AX hne];exact hcu
    · have:=p4.length_eq;simp at this;dsimp only;omega
    · dsimp only;omega
    · dsimp only;omega
theorem JX (h:RowsOk n rows):∀ (N:Nat) (s:LQ) (f:Nat→Bool),ShI n (arcA rows) S (fun _ _=>True) f s→s.2.2.heap.length + nRem (arcA rows) f n≤60000→0≤s.2.2.next→s.2.2.next + nRem (arcA rows) f n≤60000→s.2.2.heap.length + nRem (arcA rows) f n < N →
    ∃ s',lop (shF rows) s=some (.done s')∧s'.1.length=n∧s'.2.1.length=n∧LexP n (arcA rows) S (gI s'.1) (gI s'.2.1)∧(∀ i,gI s'.1 i=Inf→gI s'.2.1 i=Inf)∧∀ i,gI s'.1 i≠Inf→i < n∧0≤gI s'.1 i∧gI s'.1 i≤600 * 1048576∧0≤gI s'.2.1 i∧gI s'.2.1 i≤600
  | 0,_,_,_,_,_,_,h0=>absurd h0 (by omega)
  | N + 1,(dl,kl,q),f,hI,hm,hn0,hn1,h0=>by
    obtain ⟨hD,h1,h2,h3⟩:=hI
    dsimp only at *
    rw [Fp]
    unfold shF
    have hlen:CB q=some (q.heap.length:Int):=rfl
    dsimp only
    rw [hlen,Ar]
    by_cases hz:q.heap.length=0
    · rw [if_neg (by omega)]
      have hnil:q.heap=[]:=List.length_eq_zero_iff.1 hz
      rw [hnil] at hD
      refine ⟨_,rfl,h1,h2,hD.done,hD.inf,fun i hi=>?_⟩
      have:=hD.bnd i hi
      have hns:=Lf f n
      have:=h.few
      dsimp only at *
      omega
    · rw [if_pos (by omega)]
      obtain ⟨r,r1,e,q',rfl,q1,q2,q3,q4⟩:=Qi h3 (by omega) (by omega)
      rw [r1,Ar]
      dsimp only
      rw [if_neg (by decide)]
      obtain ⟨i,hi,hin,hdi,_⟩:=hD.ent e (q2.mem_iff.2 List.mem_cons_self)
      have hql:=q2.length_eq
      rw [List.length_cons] at hql
      rw [hi,Ea (by omega),Ar,Ea (by omega),Ar]
      by_cases hs:e.key=gI dl i∧e.tie=gI kl i
      · rw [if_neg (by simp [hs.1]),if_neg (by simp [hs.2]),Ar,Di]
        obtain ⟨m1,m2,m3,m4,m5,m6,m7⟩:=hD.mark q2 q3 hi hs.1 hs.2
        obtain ⟨row,hrow⟩:=AE (l:=rows) (k:=i) (by rw [h.len];exact m2)
        rw [BT,hrow,Ar]
        have hAl:(arcA rows i).length=row.length:=by unfold arcA;rw [hrow];simp
        have hbi:=hD.bnd i m3
        obtain ⟨s',s1,s2,s3,s4,s5,s6,s7,s8⟩:=Hb (ρ:=Ctl LQ (List Int×List Int)) (f:=fun (_:Nat) (a338:Arc) (s335:LQ)=>shIn rows e.key e.tie a338 s335) (xs:=row) (s₀:=(dl,kl,q'))
          (fun m s=>ShI n (arcA rows) S (fun j p=>j≠i∨p∈(arcA rows i).take m) (upd f i true) s∧gI s.1 i=e.key∧gI s.2.1 i=e.tie∧(∀ j,upd f i true j=true→lle (gI s.1 j) (gI s.2.1 j) e.key e.tie)∧s.2.2.heap.length≤q'.heap.length + m∧q'.next≤s.2.2.next∧s.2.2.next≤q'.next + m)
          ⟨⟨{ m7 with rel:=fun j p hj hp hd=>m7.rel j p hj hp (hd.resolve_right (by simp)) },h1,h2,q1⟩,hs.1.symm,hs.2.symm,fun j hj=>by rw [hs.1,hs.2];exact m6 j hj,by simp,by simp,by simp⟩
          (fun m a s hma hI=>by
            obtain ⟨i1,i2,i3,i4,i5,i6,i7⟩:=hI
            have hml:=AC hma
            obtain ⟨s',t1,t2,t3,t4,t5,t6,t7,t8⟩:=Ql h hrow hma i1 i2 i3 (Bd ..) i4 (by rw [m4,hs.1];omega) (by rw [m4,hs.2];omega) (by omega) ⟨by omega,by omega⟩
            exact ⟨s',t1,t2,t3,t4,t5,by omega,by omega,by omega⟩)
        rw [s1,Ar,Dj]
        dsimp only at s2 s6 s7 s8 ⊢
        refine JX h N (s'.1,s'.2.1,s'.2.2) (upd f i true) ⟨{ s2.dj with rel:=fun j p hj hp _=>s2.dj.rel j p hj hp ?_ },s2.l1,s2.l2,s2.hp⟩ ?_ ?_ ?_ ?_
        · by_cases ej:j=i
          · subst ej;exact .inr (by rw [List.take_of_length_le (by omega)];exact hp)
          · exact .inl ej
        all_goals dsimp only;omega
      · have e2:(if e.key≠gI dl i then some true else if e.tie≠gI kl i then some true else some false)=some true:=by
          by_cases e1:e.key=gI dl i
          · rw [if_neg (by simp [e1]),if_pos (fun hh=>hs ⟨e1,hh⟩)]
          · rw [if_pos e1]
        rw [e2,Ar,Ef]
        refine JX h N (dl,kl,q') f ⟨hD.drop q2 hi hs,h1,h2,q1⟩ ?_ ?_ ?_ ?_
        all_goals dsimp only;omega
theorem Pf {n:Nat} (hn:n≤1000000):rngN (ρ:=(List Int)×(List Int)) (fun (k77:Nat) (s75:(List Int)×(List Int))=>bnd (s75.1[k77]?) fun a104=>bnd (s75.2[k77]?) fun a116=>some (.next ((s75.1.set k77 1125899906842624),(s75.2.set k77 1125899906842624)))) n (List.replicate n (0:Int),List.replicate n (0:Int))=some (.done (List.replicate n Inf,List.replicate n Inf)):=by
  have key:∀ k,k < n→(List.replicate k Inf ++ List.replicate (n - k) 0)[k]?=some 0∧(List.replicate k Inf ++ List.replicate (n - k) 0).set k 1125899906842624=List.replicate (k + 1) Inf ++ List.replicate (n - (k + 1)) 0:=fun k hk=>by
    refine ⟨by rw [List.getElem?_append_right (by simp),List.getElem?_replicate,if_pos (by simp;omega)],?_⟩
    apply List.ext_getElem?
    intro j
    rcases Nat.lt_trichotomy j k with h|h|h
    · rw [List.getElem?_set_ne (by omega),List.getElem?_append_left (by simp;omega),List.getElem?_append_left (by simp;omega)]
      rw [List.getElem?_replicate,List.getElem?_replicate,if_pos (by omega),if_pos (by omega)]
    · subst h
      rw [List.getElem?_set_self (by simp;omega),List.getElem?_append_left (by simp)]
      simp [Inf]
    · rw [List.getElem?_set_ne (by omega),List.getElem?_append_right (by simp;omega),List.getElem?_append_right (by simp;omega)]
      simp only [List.length_replicate,List.getElem?_replicate]
      by_cases hj:j < n
      · rw [if_pos (by omega),if_pos (by omega)]
      · rw [if_neg (by omega),if_neg (by omega)]
  rw [MU (fun k=>(List.replicate k Inf ++ List.replicate (n - k) 0,List.replicate k Inf ++ List.replicate (n - k) 0)) (by simp) (fun k hk=>?_)]
  · simp
  · obtain ⟨e1,e2⟩:=key k hk
    dsimp only
    rw [e1,Ar,Ar,e2]
theorem IW (h:RowsOk n rows) (hT:nRem (arcA rows) (fun _=>false) n≤50000) {src:List Int} (hs:∀ x∈src,0≤x∧x < (n:Int)) (hsn:src.Nodup) (hsl:src.length≤1000) :
    ∃ d k,BN rows src=some (d,k)∧d.length=n∧k.length=n∧LexP n (arcA rows) (fun i=>(i:Int)∈src) (gI d) (gI k)∧(∀ i,gI d i=Inf→gI k i=Inf)∧∀ i,gI d i≠Inf→i < n∧0≤gI d i∧gI d i≤600 * 1048576∧0≤gI k i∧gI k i≤600:=by
  have hfew:=h.few
  rw [Qk,h.len,Jy (by omega) (by omega),Ar,Ar,Ar]
  dsimp only
  rw [List.length_replicate,Pf (by omega),Ar,Dj]
  obtain ⟨q0,hq0,hh0,hn0⟩:∃ q0:Que,DD=some (some q0)∧q0.heap=[]∧q0.next=0:=⟨⟨[],0⟩,rfl,rfl,rfl⟩
  rw [hq0,Ar,Ar]
  obtain ⟨s1,e1,e2,e3,e4,e5⟩:=Hb (ρ:=(List Int)×(List Int)) (f:=fun (_:Nat) (a152:Int) (s149:LQ)=>shS a152 s149) (xs:=src) (s₀:=((List.replicate n Inf,List.replicate n Inf).1,(List.replicate n Inf,List.replicate n Inf).2,q0))
    (fun m s=>ShI n (arcA rows) (fun j=>(j:Int)∈src.take m) (fun _ _=>True) (fun _=>false) s∧(∀ j:Nat,¬ (j:Int)∈src.take m→gI s.1 j=Inf)∧s.2.2.heap.length=m∧s.2.2.next=(m:Int))
    ⟨⟨by dsimp only;rw [Ng,hh0];simpa using NY,by simp,by simp,by dsimp only;rw [hh0];intro j x y _ hx;simp at hx⟩,fun j _=>by dsimp only;rw [Ng],by dsimp only;rw [hh0];rfl,by dsimp only;rw [hn0];rfl⟩
    (fun m x s hx hI=>by
      obtain ⟨⟨hD,h1,h2,h3⟩,hinf,hl,hnx⟩:=hI
      obtain ⟨dl,kl,q⟩:=s
      dsimp only at *
      have hm:=AC hx
      obtain ⟨x0,x1⟩:=hs x (List.mem_of_getElem? hx)
      obtain ⟨j,rfl⟩:∃ j:Nat,x=(j:Int):=⟨x.toNat,by omega⟩
      have hnot:¬ (j:Int)∈src.take m:=fun hh=>by
        obtain ⟨i,hi⟩:=List.getElem?_of_mem hh
        have hi1:=AC hi
        rw [List.length_take] at hi1
        replace hi1:i < m:=by omega
        have hi2:=GN hi
        obtain ⟨b1,c1⟩:=List.getElem?_eq_some_iff.1 hi2
        obtain ⟨b2,c2⟩:=List.getElem?_eq_some_iff.1 hx
        have:=(List.pairwise_iff_getElem.1 hsn) i m b1 b2 hi1
        exact this (by rw [c1,c2])
      obtain ⟨r,p1,p2,p3,p4,p5⟩:=LU (q:=q) h3 (by omega) (by omega) 0 0 (j:Int)
      unfold shS
      dsimp only
      rw [Ea (by omega),Ar,Ea (by omega),Ar,p1,Ar,Int.toNat_natCast]
      have hsrc:=hD.source (by omega) (hinf j hnot) p4 rfl rfl rfl
      rw [← Fv (by omega),← Fv (by omega)] at hsrc
      refine ⟨_,rfl,⟨?_,by simp [h1],by simp [h2],p3⟩,?_,?_,?_⟩
      · have e:(fun i:Nat=>(i:Int)∈src.take (m + 1))=fun i:Nat=>(i:Int)∈src.take m∨i=j:=by
          funext i
          rw [Hv hx]
          apply propext
          constructor<;>rintro (a|a)
          · exact .inl a
          · exact .inr (by omega)
          · exact .inl a
          · exact .inr (by omega)
        rw [e];exact hsrc
      · intro i hi
        rw [Hv hx] at hi
        dsimp only
        rw [Fv (by omega),AX (fun e=>hi (.inr (by omega)))]
        exact hinf i (fun hh=>hi (.inl hh))
      · have:=p4.length_eq;simp at this;dsimp only;omega
      · dsimp only;omega)
  rw [e1,Ar,Dj]
  rw [List.take_length] at e2
  obtain ⟨s2,g1,g2,g3,g4,g5,g6⟩:=JX h (s1.2.2.heap.length + nRem (arcA rows) (fun _=>false) n + 1) (s1.1,s1.2.1,s1.2.2) (fun _=>false) e2 (by dsimp only;omega) (by dsimp only;omega) (by dsimp only;omega) (by dsimp only;omega)
  rw [g1,Ar]
  exact ⟨s2.1,s2.2.1,rfl,g2,g3,g4,g5,g6⟩
end
end
section
set_option linter.unusedVariables false
set_option linter.unusedSimpArgs false
open Go Go.RowKit
def costE (t:Tsk) (e:Edj):Int:=match t.ops[e.label.toNat]? with|some o=>o.cost|none=>0
structure EdgesOk (t:Tsk) (n:Nat) (es:List Edj):Prop where
  ok:∀ e∈es,0≤e.src∧e.src < (n:Int)∧0≤e.dst∧e.dst < (n:Int)∧0≤e.label∧e.label < (t.ops.length:Int)
  few:es.length≤48000
def fwdR (t:Tsk) (es:List Edj) (i:Nat):List Arc:=(es.filter fun e=>decide (e.src=(i:Int))).map fun e=>⟨e.src,e.dst,costE t e⟩
def bwdR (t:Tsk) (es:List Edj) (i:Nat):List Arc:=(es.filter fun e=>decide (e.dst=(i:Int))).map fun e=>⟨e.dst,e.src,costE t e⟩
def fwdA (t:Tsk) (es:List Edj) (i:Nat):List (Nat×Int):=(es.filter fun e=>decide (e.src=(i:Int))).map fun e=>(e.dst.toNat,costE t e)
def bwdA (t:Tsk) (es:List Edj) (i:Nat):List (Nat×Int):=(es.filter fun e=>decide (e.dst=(i:Int))).map fun e=>(e.src.toNat,costE t e)
theorem Gv {t:Tsk} (hok:TaskOk t) {n:Nat} {es:List Edj} (h:EdgesOk t n es) {e:Edj} (he:e∈es):∃ o,atI t.ops e.label=some o∧costE t e=o.cost∧0≤costE t e∧costE t e≤1048576:=by
  obtain ⟨_,_,_,_,h1,h2⟩:=h.ok e he
  obtain ⟨j,hj⟩:∃ j:Nat,e.label=(j:Int):=⟨e.label.toNat,by omega⟩
  obtain ⟨o,ho⟩:=AE (l:=t.ops) (k:=j) (by omega)
  have hc:costE t e=o.cost:=by unfold costE;rw [hj,Int.toNat_natCast,ho]
  have:=hok.2.2.2.2.2 j o ho
  exact ⟨o,by rw [hj,BT,ho],hc,by rw [hc];exact this.1,by rw [hc];exact this.2.1⟩
theorem NZ {t:Tsk} {es:List Edj} {i j:Nat} {w:Int}:(j,w)∈bwdA t es i↔∃ e∈es,e.dst=(i:Int)∧e.src.toNat=j∧costE t e=w:=by
  unfold bwdA
  rw [List.mem_map]
  constructor
  · rintro ⟨e,he,hp⟩
    obtain ⟨h1,h2⟩:=List.mem_filter.1 he
    injection hp with h3 h4
    exact ⟨e,h1,of_decide_eq_true h2,h3,h4⟩
  · rintro ⟨e,h1,h2,h3,h4⟩
    exact ⟨e,List.mem_filter.2 ⟨h1,decide_eq_true h2⟩,by rw [h3,h4]⟩
structure RowsAre (n:Nat) (rows:List (List Arc)) (g:Nat→List Arc):Prop where
  len:rows.length=n
  at_:∀ i,i < n→rows[i]?=some (g i)
theorem RowsAre.congr {n:Nat} {rows:List (List Arc)} {g g':Nat→List Arc} (h:RowsAre n rows g) (he:∀ i,i < n→g i=g' i):RowsAre n rows g':=⟨h.len,fun i hi=>by rw [h.at_ i hi,he i hi]⟩
theorem RowsAre.rep (n:Nat):RowsAre n (List.replicate n []) fun _=>[]:=⟨by simp,fun i hi=>by rw [List.getElem?_replicate,if_pos hi]⟩
theorem RowsAre.set {n:Nat} {rows:List (List Arc)} {g:Nat→List Arc} (h:RowsAre n rows g) {j:Nat} (hj:j < n) (r:List Arc):RowsAre n (rows.set j r) (upd g j r):=⟨by simp [h.len],fun i hi=>by
  by_cases e:i=j
  · subst e;rw [Bd,List.getElem?_set_self (by rw [h.len];exact hi)]
  · rw [AX e,List.getElem?_set_ne (Ne.symm e)];exact h.at_ i hi⟩
theorem RowsAre.nRem_le {n:Nat} {rows:List (List Arc)} {g:Nat→List Arc} (h:RowsAre n rows g) {f:Nat→Nat} (hf:∀ i,i < n→(g i).length=f i):nRem (arcA rows) (fun _=>false) n=sumF f n:=by
  unfold nRem
  refine Hx fun j hj=>?_
  rw [if_neg (by simp)]
  unfold arcA
  rw [h.at_ j hj]
  simp [hf j hj]
theorem GU {α:Type} (key:α→Int) (n:Nat):∀ (l:List α),sumF (fun i=>(l.filter fun e=>decide (key e=(i:Int))).length) n≤l.length
  | []=>by
    have:∀ n,sumF (fun i=>(([]:List α).filter fun e=>decide (key e=(i:Int))).length) n=0:=fun n=>by
      induction n with
      | zero=>rfl
      | succ n ih=>simp [sumF] at ih ⊢;exact ih
    rw [this];exact Nat.zero_le _
  | e :: l=>by
    have h:=GU key n l
    have key2:∀ m,sumF (fun i=>((e :: l).filter fun e=>decide (key e=(i:Int))).length) m≤sumF (fun i=>(l.filter fun e=>decide (key e=(i:Int))).length) m + if 0≤key e∧key e < (m:Int) then 1 else 0:=fun m=>by
      induction m with
      | zero=>simp [sumF]
      | succ m ih =>
        simp only [sumF]
        rw [List.filter_cons]
        by_cases hk:key e=(m:Int)
        · rw [if_pos (decide_eq_true hk),List.length_cons,if_pos (by omega)]
          rw [if_neg (by omega)] at ih
          omega
        · rw [if_neg (by simp [hk])]
          by_cases hl:0≤key e∧key e < (m:Int)
          · rw [if_pos (by omega)];rw [if_pos hl] at ih;omega
          · rw [if_neg (by omega)];rw [if_neg hl] at ih;omega
    have:=key2 n
    rw [List.length_cons]
    split at this<;>omega
theorem RowsAre.ok {t:Tsk} (hok:TaskOk t) {n:Nat} (hn:n≤600) {es:List Edj} (he:EdgesOk t n es) {rows:List (List Arc)}:(RowsAre n rows (fwdR t es)→RowsOk n rows∧nRem (arcA rows) (fun _=>false) n≤es.length∧∀ i,i < n→arcA rows i=fwdA t es i) ∧
    (RowsAre n rows (bwdR t es)→RowsOk n rows∧nRem (arcA rows) (fun _=>false) n≤es.length∧∀ i,i < n→arcA rows i=bwdA t es i):=by
  refine ⟨fun h=>⟨⟨h.len,hn,fun i r a hr ha=>?_⟩,?_,fun i hi=>?_⟩,fun h=>⟨⟨h.len,hn,fun i r a hr ha=>?_⟩,?_,fun i hi=>?_⟩⟩
  · have hi:=AC hr
    rw [h.len] at hi
    rw [h.at_ i hi] at hr
    obtain rfl:=Option.some.inj hr
    obtain ⟨e,hm,rfl⟩:=List.mem_map.1 ha
    have hmem:=(List.mem_filter.1 hm).1
    obtain ⟨_,_,_,c1,c2⟩:=Gv hok he hmem
    have:=he.ok e hmem
    dsimp only;omega
  · rw [h.nRem_le (f:=fun i=>(es.filter fun e=>decide (e.src=(i:Int))).length) (fun i _=>by unfold fwdR;rw [List.length_map])]
    exact GU (fun e:Edj=>e.src) n es
  · unfold arcA fwdA;rw [h.at_ i hi];unfold fwdR;simp
  · have hi:=AC hr
    rw [h.len] at hi
    rw [h.at_ i hi] at hr
    obtain rfl:=Option.some.inj hr
    obtain ⟨e,hm,rfl⟩:=List.mem_map.1 ha
    have hmem:=(List.mem_filter.1 hm).1
    obtain ⟨_,_,_,c1,c2⟩:=Gv hok he hmem
    have:=he.ok e hmem
    dsimp only;omega
  · rw [h.nRem_le (f:=fun i=>(es.filter fun e=>decide (e.dst=(i:Int))).length) (fun i _=>by unfold bwdR;rw [List.length_map])]
    exact GU (fun e:Edj=>e.dst) n es
  · unfold arcA bwdA;rw [h.at_ i hi];unfold bwdR;simp
theorem Lg {t:Tsk} {n:Nat} {es:List Edj} (he:EdgesOk t n es) {i:Nat} (hi:¬ i < n):fwdA t es i=[]∧bwdA t es i=[]:=by
  unfold fwdA bwdA
  rw [List.filter_eq_nil_iff.2 fun e hm=>by have:=he.ok e hm;simp;omega,List.filter_eq_nil_iff.2 fun e hm=>by have:=he.ok e hm;simp;omega]
  exact ⟨rfl,rfl⟩
theorem Lh {n:Nat} {rows:List (List Arc)} (h:rows.length=n) {i:Nat} (hi:¬ i < n):arcA rows i=[]:=by
  unfold arcA;rw [List.getElem?_eq_none (by omega)];rfl
def goalIx (gs:List Bool):List Int:=(((List.range gs.length).filter fun i=>(gs[i]?).getD false).map fun i:Nat=>(i:Int))
theorem Mx {ρ:Type} {gs:List Bool} (hl:gs.length≤1000000):rng (ρ:=ρ) (fun (k446:Nat) (a447:Bool) (s444:(List Int))=>if a447=true then (bnd (appI 8 s444 [(k446:Int)]) fun u469=>some (.next u469)) else (some (.next s444))) gs 0 ([]:List Int)=some (.done (goalIx gs)):=by
  refine FH (fun m=>((List.range m).filter fun i=>(gs[i]?).getD false).map fun i:Nat=>(i:Int)) (by simp) fun m b hb=>?_
  have hm:=AC hb
  have hlen:(((List.range m).filter fun i=>(gs[i]?).getD false).map fun i:Nat=>(i:Int)).length≤m:=by
    rw [List.length_map]
    exact Nat.le_trans (List.length_filter_le _ _) (by simp)
  rw [List.range_succ,List.filter_append]
  cases b with
  | true =>
    rw [if_pos rfl,CF (by simp at hlen ⊢;omega) (by simp at hlen ⊢;omega),Ar]
    simp [hb]
  | false=>rw [if_neg (by simp)];simp [hb]
theorem Hy {gs:List Bool} {x:Int}:x∈goalIx gs↔∃ i:Nat,x=(i:Int)∧gs[i]?=some true:=by
  unfold goalIx
  rw [List.mem_map]
  constructor
  · rintro ⟨i,hi,rfl⟩
    obtain ⟨h1,h2⟩:=List.mem_filter.1 hi
    refine ⟨i,rfl,?_⟩
    cases hg:gs[i]? with
    | none=>rw [hg] at h2;simp at h2
    | some b=>rw [hg] at h2;simp at h2;rw [h2]
  · rintro ⟨i,rfl,hi⟩
    exact ⟨i,List.mem_filter.2 ⟨List.mem_range.2 (AC hi),by rw [hi];rfl⟩,rfl⟩
theorem Li (gs:List Bool):(goalIx gs).Nodup:=by
  unfold goalIx
  unfold List.Nodup
  rw [List.pairwise_map]
  exact ((List.nodup_range).sublist List.filter_sublist).imp fun h e=>h (by omega)
theorem My (gs:List Bool):(goalIx gs).length≤gs.length:=by
  unfold goalIx
  rw [List.length_map]
  exact Nat.le_trans (List.length_filter_le _ _) (by simp)
noncomputable def meaF (t:Tsk):Edj→(List (List Arc))×(List (List Arc))→Option (Ctl ((List (List Arc))×(List (List Arc))) Spa):=fun a180 s177=>bnd (atI t.ops a180.label) fun a258=>bnd (atI s177.1 a180.src) fun a279=>bnd (appI 24 a279 [(⟨a180.src,a180.dst,a258.cost⟩:Arc)]) fun u304=>bnd (atI s177.1 a180.src) fun a315=>bnd (atI s177.2 a180.dst) fun a330=>bnd (appI 24 a330 [(⟨a180.dst,a180.src,a258.cost⟩:Arc)]) fun u355=>bnd (atI s177.2 a180.dst) fun a366=>some (.next ((s177.1.set (a180.src:Int).toNat u304),(s177.2.set (a180.dst:Int).toNat u355)))
theorem Pg (x0:Spa):BI x0=bnd (Bb x0.states) fun q45=>bnd (mkI 24 ([]:List Arc) q45) fun u55=>bnd (mkI 24 ([]:List Arc) q45) fun u57=>bnd (some (u55,u57):Option ((List (List Arc))×(List (List Arc)))) fun y59=>bnd (rng (ρ:=Spa) (fun (_:Nat) (a180:Edj) (s177:(List (List Arc))×(List (List Arc)))=>meaF x0.t a180 s177) x0.edges 0 (y59.1,y59.2)) fun res175=>fin res175 fun (s390:(List (List Arc))×(List (List Arc)))=>bnd (rng (ρ:=Spa) (fun (k446:Nat) (a447:Bool) (s444:(List Int))=>if a447=true then (bnd (appI 8 s444 [(k446:Int)]) fun u469=>some (.next u469)) else (some (.next s444))) x0.goals 0 ([]:List Int)) fun res442=>fin res442 fun (s485:(List Int))=>bnd (BN s390.1 ([0]:List Int)) fun q497=>bnd (BN s390.2 s485) fun q561=>some (⟨(⟨x0.t.vars,x0.t.init,x0.t.goal,x0.t.ops⟩:Tsk),x0.states,x0.edges,x0.goals,q497.1,q561.1,q561.2⟩:Spa):=rfl
theorem Nh {t:Tsk} {es:List Edj} {m:Nat} {e:Edj} (he:es[m]?=some e) (i:Nat):fwdR t (es.take (m + 1)) i=fwdR t (es.take m) i ++ if e.src=(i:Int) then [⟨e.src,e.dst,costE t e⟩] else []:=by
  unfold fwdR
  rw [List.take_add_one,he,List.filter_append,List.map_append]
  by_cases h:e.src=(i:Int)
  · rw [if_pos h];simp [h]
  · rw [if_neg h];simp [h]
theorem Ni {t:Tsk} {es:List Edj} {m:Nat} {e:Edj} (he:es[m]?=some e) (i:Nat):bwdR t (es.take (m + 1)) i=bwdR t (es.take m) i ++ if e.dst=(i:Int) then [⟨e.dst,e.src,costE t e⟩] else []:=by
  unfold bwdR
  rw [List.take_add_one,he,List.filter_append,List.map_append]
  by_cases h:e.dst=(i:Int)
  · rw [if_pos h];simp [h]
  · rw [if_neg h];simp [h]
theorem Oa (t:Tsk) (es:List Edj) (i:Nat):(fwdR t es i).length≤es.length:=by unfold fwdR;rw [List.length_map];exact List.length_filter_le _ _
theorem Oc (t:Tsk) (es:List Edj) (i:Nat):(bwdR t es i).length≤es.length:=by unfold bwdR;rw [List.length_map];exact List.length_filter_le _ _
structure SpaOk (t:Tsk) (n:Nat) (es:List Edj) (gs:List Bool) (x:Spa):Prop where
  t_:x.t=t
  ed:x.edges=es
  go:x.goals=gs
  cl:x.costs.length=n
  dl:x.distances.length=n
  sl:x.steps.length=n
  cost:∃ k,LexP n (fwdA t es) (fun i=>i=0) (gI x.costs) k∧∀ i,gI x.costs i≠Inf→i < n∧0≤gI x.costs i∧gI x.costs i≤600 * 1048576
  dist:LexP n (bwdA t es) (fun i=>gs[i]?=some true) (gI x.distances) (gI x.steps)
  inf:∀ i,gI x.distances i=Inf→gI x.steps i=Inf
  bnd:∀ i,gI x.distances i≠Inf→i < n∧0≤gI x.distances i∧gI x.distances i≤600 * 1048576∧0≤gI x.steps i∧gI x.steps i≤600
theorem LexP.arcs {n:Nat} {A A':Nat→List (Nat×Int)} {S S':Nat→Prop} {d k:Nat→Int} (h:LexP n A S d k) (hA:A=A') (hS:S=S'):LexP n A' S' d k:=by subst hA;subst hS;exact h
theorem Mz {t:Tsk} (hok:TaskOk t) {n:Nat} (hn:n≤600) (hn0:0 < n) {x:Spa} (ht:x.t=t) (hlen:x.states.entries.length=n) (he:EdgesOk t n x.edges) (hg:x.goals.length=n) :
    ∃ r,BI x=some r∧r.states=x.states∧SpaOk t n x.edges x.goals r:=by
  rw [Pg,show Bb x.states=some (x.states.entries.length:Int) from rfl,Ar,hlen,Jy (by omega) (by omega),Ar,Ar,Ar,ht]
  dsimp only
  obtain ⟨s,e1,e2,e3⟩:=Hb (ρ:=Spa) (f:=fun (_:Nat) (a180:Edj) (s177:(List (List Arc))×(List (List Arc)))=>meaF t a180 s177) (xs:=x.edges) (s₀:=(List.replicate n [],List.replicate n []))
    (fun m s=>RowsAre n s.1 (fwdR t (x.edges.take m))∧RowsAre n s.2 (bwdR t (x.edges.take m))) ⟨(RowsAre.rep n).congr fun i _=>by simp [fwdR],(RowsAre.rep n).congr fun i _=>by simp [bwdR]⟩
    (fun m e s hm hI=>by
      obtain ⟨hF,hB⟩:=hI
      have hmem:=List.mem_of_getElem? hm
      obtain ⟨s1,s2,d1,d2,_,_⟩:=he.ok e hmem
      obtain ⟨o,o1,o2,_⟩:=Gv hok he hmem
      obtain ⟨i,hi⟩:∃ i:Nat,e.src=(i:Int):=⟨e.src.toNat,by omega⟩
      obtain ⟨j,hj⟩:∃ j:Nat,e.dst=(j:Int):=⟨e.dst.toNat,by omega⟩
      have hml:=AC hm
      have hfew:=he.few
      have fl:=Oa t (x.edges.take m) i
      have bl:=Oc t (x.edges.take m) j
      rw [List.length_take] at fl bl
      unfold meaF
      rw [o1,Ar,hi,hj,BT,hF.at_ i (by omega),Ar,CF (by rw [List.length_singleton];omega) (by rw [List.length_singleton];omega),Ar,Ar,BT,hB.at_ j (by omega),Ar,CF (by rw [List.length_singleton];omega) (by rw [List.length_singleton];omega),Ar,Ar,Int.toNat_natCast,Int.toNat_natCast]
      refine ⟨_,rfl,(hF.set (by omega) _).congr fun u _=>?_,(hB.set (by omega) _).congr fun u _=>?_⟩
      · rw [Nh hm]
        by_cases hu:u=i
        · subst hu;rw [Bd,if_pos hi,o2,hi,hj]
        · rw [AX hu,if_neg (by omega),List.append_nil]
      · rw [Ni hm]
        by_cases hu:u=j
        · subst hu;rw [Bd,if_pos hj,o2,hi,hj]
        · rw [AX hu,if_neg (by omega),List.append_nil])
  rw [List.take_length] at e2 e3
  rw [e1,Ar,Dj,Mx (by omega),Ar,Dj]
  obtain ⟨f1,f2,f3⟩:=(RowsAre.ok hok hn he).1 e2
  obtain ⟨b1,b2,b3⟩:=(RowsAre.ok hok hn he).2 e3
  have hfew:=he.few
  obtain ⟨c,k,c1,c2,_,c3,_,c4⟩:=IW f1 (by omega) (src:=[0]) (fun x hx=>by simp at hx;omega) (by simp) (by simp)
  obtain ⟨d,l,d1,d2,d3,d4,d5,d6⟩:=IW b1 (by omega) (src:=goalIx x.goals) (fun y hy=>by
    obtain ⟨i,rfl,hi⟩:=Hy.1 hy
    have:=AC hi
    omega) (Li _) (by have:=My x.goals;omega)
  rw [c1,Ar,d1,Ar]
  have hfA:arcA s.1=fwdA t x.edges:=funext fun i=>by
    by_cases hi:i < n
    · exact f3 i hi
    · rw [Lh e2.len hi,(Lg he hi).1]
  have hbA:arcA s.2=bwdA t x.edges:=funext fun i=>by
    by_cases hi:i < n
    · exact b3 i hi
    · rw [Lh e3.len hi,(Lg he hi).2]
  refine ⟨_,rfl,rfl,rfl,rfl,rfl,c2,d2,d3,⟨gI k,c3.arcs hfA (funext fun i=>by simp),fun i hi=>?_⟩,d4.arcs hbA (funext fun i=>propext ⟨fun hh=>?_,fun hh=>Hy.2 ⟨i,rfl,hh⟩⟩),d5,d6⟩
  · have:=c4 i hi;exact ⟨this.1,this.2.1,this.2.2.1⟩
  · obtain ⟨j,hj,hg⟩:=Hy.1 hh
    obtain rfl:i=j:=by omega
    exact hg
end
section
open Go Go.RowKit
inductive PlanR (t:Tsk):List Int→List Int→List Int→Int→Prop
  | nil {s:List Int}:PlanR t s [] s 0
  | cons {s rest s':List Int} {k:Nat} {o:Opr} {C:Int}:t.ops[k]?=some o→holdsB o.pre s=true→PlanR t (succ o s) rest s' C→PlanR t s ((k:Int) :: rest) s' (o.cost + C)
theorem Ir (f:List Fct) (s:List Int):Cc f s=some (holdsB f s):=rfl
end
section
open Go Go.RowKit
theorem LV {σ ρ:Type} {x:Option (Ctl σ ρ)} {I:σ→Prop} (h:∃ r,x=some r∧∃ s',r=Ctl.next s'∧I s'):∃ s',x=some (.next s')∧I s':=by
  obtain ⟨_,h1,s',rfl,h2⟩:=h
  exact ⟨s',h1,h2⟩
def FldOk (W:Nat) (f:PFd) (n:Int):Prop:=∃ k b w:Nat,f=⟨k,b,w,n⟩∧k < W∧b + w≤64∧w≤6∧n≤2 ^ w
def PkOk (vars:List Int) (p:Pkr):Prop:=p.fields.length=vars.length∧(∃ W:Nat,p.words=(W:Int)∧1≤W∧W≤vars.length + 1∧∀ (i:Nat) f n,p.fields[i]?=some f→vars[i]?=some n→FldOk W f n) ∧
  ∀ (i j:Nat) f g,i < j→p.fields[i]?=some f→p.fields[j]?=some g→f.word < g.word∨(f.word=g.word∧f.bit + f.width≤g.bit)
theorem Ph:∀ {w:Nat},w≤6→shlI 1 (w:Int)=some ((2 ^ w:Nat):Int):=by
  intro w h
  have:w=0∨w=1∨w=2∨w=3∨w=4∨w=5∨w=6:=by omega
  rcases this with rfl|rfl|rfl|rfl|rfl|rfl|rfl<;>rfl
theorem Pi {w:Nat} {n:Int} (hw:w≤6) (h:((2 ^ w:Nat):Int) < n) (hn:n≤64):w < 6:=by
  rcases Nat.lt_or_ge w 6 with hh|hh
  · exact hh
  · obtain rfl:w=6:=by omega
    simp at h;omega
def PkI (vars:List Int) (B W:Nat) (fs:List PFd):Prop:=(∀ (i:Nat) f n,fs[i]?=some f→vars[i]?=some n→FldOk W f n) ∧
  (∀ (i j:Nat) f g,i < j→fs[i]?=some f→fs[j]?=some g→f.word < g.word∨(f.word=g.word∧f.bit + f.width≤g.bit))∧∀ (i:Nat) f,fs[i]?=some f→f.word + 1 < (W:Int)∨(f.word + 1=(W:Int)∧f.bit + f.width≤(B:Int))
theorem PkI.over {vars:List Int} {B W:Nat} {fs:List PFd} (h:PkI vars B W fs):PkI vars 0 (W + 1) fs :=
  ⟨fun i f n hf hn=>by obtain ⟨k,b,w,e,e1,e2⟩:=h.1 i f n hf hn;exact ⟨k,b,w,e,by omega,e2⟩,h.2.1,fun i f hf=>by have:=h.2.2 i f hf;omega⟩
theorem Dz {α:Type} {l:List α} {x y:α} {i:Nat} (h:(l ++ [x])[i]?=some y):l[i]?=some y∨(i=l.length∧y=x):=by
  rcases Nat.lt_trichotomy i l.length with hi|hi|hi
  · rw [List.getElem?_append_left hi] at h;exact .inl h
  · subst hi;simp at h;exact .inr ⟨rfl,h.symm⟩
  · rw [List.getElem?_append_right (by omega)] at h
    rw [List.getElem?_eq_none (by simp;omega)] at h
    cases h
theorem PkI.add {vars:List Int} {B W w:Nat} {fs:List PFd} {n:Int} (h:PkI vars B W fs) (hW:1≤W) (hn:vars[fs.length]?=some n) (hB:B + w≤64) (hw:w≤6) (hnw:n≤2 ^ w):PkI vars (B + w) W (fs ++ [⟨(W:Int) - 1,(B:Int),(w:Int),n⟩]):=by
  refine ⟨fun i f n' hf hn'=>?_,fun i j f g hij hf hg=>?_,fun i f hf=>?_⟩
  · rcases Dz hf with hh|⟨rfl,rfl⟩
    · exact h.1 i f n' hh hn'
    · rw [hn] at hn'
      obtain rfl:=Option.some.inj hn'
      exact ⟨W - 1,B,w,by congr 1;omega,by omega,hB,hw,hnw⟩
  · rcases Dz hg with hh|⟨rfl,rfl⟩
    · rcases Dz hf with hk|⟨rfl,rfl⟩
      · exact h.2.1 i j f g hij hk hh
      · have:=AC hh;omega
    · rcases Dz hf with hk|⟨rfl,rfl⟩
      · have:=h.2.2 i f hk
        dsimp only
        omega
      · omega
  · rcases Dz hf with hh|⟨rfl,rfl⟩
    · have:=h.2.2 i f hh;omega
    · dsimp only;omega
theorem MA {vars:List Int} (hl:vars.length≤64) (hv:∀ (i:Nat) n,vars[i]?=some n→1≤n∧n≤64):∃ r,Em vars=some r∧∃ p,r=(some p,⟨0⟩)∧PkOk vars p:=by
  unfold Em
  rw [if_neg (by omega)]
  refine Hc (fun m s=>∃ B W:Nat,s.1=(B:Int)∧B≤64∧s.2.words=(W:Int)∧1≤W∧W≤m + 1∧s.2.fields.length=m∧PkI vars B W s.2.fields) (fun _=>False)
    ⟨0,1,rfl,by omega,rfl,by omega,by omega,rfl,fun i f n h=>by simp at h,fun i j f g _ h=>by simp at h,fun i f h=>by simp at h⟩ ?_ ?_ (fun q hq=>hq.elim)
  · rintro m n ⟨s1,s2⟩ hm ⟨B,W,hs1,hB,hW,hW1,hWm,hlen,hI⟩
    dsimp only at hs1 hW hlen hI
    subst hs1
    obtain ⟨hn1,hn2⟩:=hv m n hm
    have hml:=AC hm
    refine .inl (LV ?_)
    rw [if_neg (by omega),if_neg (by omega),Ar,Di]
    refine La (fun c=>∃ w:Nat,c=(w:Int)∧w≤6) (fun c=>∃ w:Nat,c=(w:Int)∧w≤6∧n≤2 ^ w) (fun _=>False) (fun c=>7 - c.toNat) ⟨0,rfl,by omega⟩ ?_ ?_ (fun q hq=>hq.elim)
    · rintro c ⟨w,rfl,hw⟩
      rw [Ph hw,Ar]
      by_cases hlt:((2 ^ w:Nat):Int) < n
      · have:=Pi hw hlt hn2
        rw [if_pos hlt,Cm (by unfold inI64;omega),Ar]
        exact .inl ⟨_,rfl,⟨w + 1,by omega,by omega⟩,by omega⟩
      · rw [if_neg hlt]
        refine .inr (.inl ⟨_,rfl,w,rfl,hw,?_⟩)
        have:((2 ^ w:Nat):Int)=(2:Int) ^ w:=by simp
        omega
    · rintro c ⟨w,rfl,hw,hnw⟩
      rw [Dj,Cm (by unfold inI64;omega),Ar]
      have fin':∀ (B' W':Nat) (q:Pkr),B' + w≤64→1≤W'→W'≤m + 2→q.words=(W':Int)→q.fields=s2.fields→PkI vars B' W' s2.fields→∃ r,(bnd (chkI (q.words - 1)) fun n133=>bnd (appI 32 q.fields [(⟨n133,(B':Int),(w:Int),n⟩:PFd)]) fun u142=>bnd (chkI ((B':Int) + (w:Int))) fun n155=>some (Ctl.next (ρ:=(Option Pkr)×Err) (n155,(⟨u142,q.words⟩:Pkr))))=some r∧∃ s',r=Ctl.next s'∧∃ B W:Nat,s'.1=(B:Int)∧B≤64∧s'.2.words=(W:Int)∧1≤W∧W≤m + 1 + 1∧s'.2.fields.length=m + 1∧PkI vars B W s'.2.fields:=by
        intro B' W' q hB' hW' hWm' hq1 hq2 hI'
        rw [hq1,hq2,Cm (by unfold inI64;omega),Ar,CF (by simp;omega) (by simp;omega),Ar,Cm (by unfold inI64;omega),Ar]
        exact ⟨_,rfl,_,rfl,B' + w,W',by simp,hB',rfl,hW',by omega,by simp [hlen],hI'.add hW' (by rw [hlen];exact hm) hB' hw hnw⟩
      by_cases hover:64 < (B:Int) + (w:Int)
      · rw [if_pos hover]
        dsimp only
        rw [hW,Cm (by unfold inI64;omega),Ar,Ar]
        exact fin' 0 (W + 1) ⟨s2.fields,(W:Int) + 1⟩ (by omega) (by omega) (by omega) (by simp) rfl hI.over
      · rw [if_neg hover,Ar]
        exact fin' B W s2 (by omega) hW1 (by omega) hW rfl hI
  · rintro ⟨s1,s2⟩ ⟨B,W,hs1,hB,hW,hW1,hWm,hlen,hI⟩
    exact ⟨_,rfl,s2,rfl,hlen,⟨W,hW,hW1,hWm,hI.1⟩,hI.2.1⟩
def InF (f:PFd) (x:Int) (k c:Nat):Prop:=f.word=(k:Int)∧f.bit≤(c:Int)∧(c:Int) < f.bit + f.width∧x.toNat.testBit (c - f.bit.toNat)=true
def Bits (fs:List PFd) (s:List Int) (p:Nat→Prop) (ws:List U64):Prop:=∀ (k c:Nat) a,ws[k]?=some a→c < 64→(a.getLsbD c=true↔∃ (i:Nat) (f:PFd) (x:Int),p i∧fs[i]?=some f∧s[i]?=some x∧InF f x k c)
theorem ones {w:Nat} (h:w≤6):((1:U64) <<< w) - (1:U64)=BitVec.ofNat 64 (2 ^ w - 1):=by
  have:w=0∨w=1∨w=2∨w=3∨w=4∨w=5∨w=6:=by omega
  rcases this with rfl|rfl|rfl|rfl|rfl|rfl|rfl<;>rfl
theorem Lj {w b c:Nat} (hw:w≤6) (hc:c < 64):((((1:U64) <<< w) - (1:U64)) <<< b).getLsbD c=(decide (b≤c) && decide (c < b + w)):=by
  rw [ones hw,BitVec.getLsbD_shiftLeft,BitVec.getLsbD_ofNat,Nat.testBit_two_pow_sub_one]
  by_cases h1:b≤c<;>by_cases h2:c < b + w<;>simp [h1,h2,hc]<;>omega
theorem JY {x:Int} {w j:Nat} (h0:0≤x) (h1:x < 2 ^ w) (ht:x.toNat.testBit j=true):j < w:=by
  rcases Nat.lt_or_ge j w with h|h
  · exact h
  · have h2:x.toNat < 2 ^ w:=by
      have:((2 ^ w:Nat):Int)=(2:Int) ^ w:=by simp
      omega
    rw [Nat.testBit_lt_two_pow (Nat.lt_of_lt_of_le h2 (Nat.pow_le_pow_right (by omega) h))] at ht
    cases ht
theorem PkOk.field {vars:List Int} {p:Pkr} (h:PkOk vars p) {s:List Int} (hs:StateOk vars s) {i:Nat} {f:PFd} (hf:p.fields[i]?=some f):∃ (k b w:Nat) (n x:Int),f=⟨k,b,w,n⟩∧(k:Int) < p.words∧b + w≤64∧w≤6∧s[i]?=some x∧0≤x∧x < n∧x < 2 ^ w:=by
  obtain ⟨h1,⟨W,hW,_,_,h2⟩,h3⟩:=h
  have hi:=AC hf
  obtain ⟨n,hn⟩:=AE (l:=vars) (k:=i) (by omega)
  obtain ⟨x,hx⟩:=AE (l:=s) (k:=i) (by have:=hs.1;omega)
  obtain ⟨k,b,w,e,e1,e2,e3,e4⟩:=h2 i f n hf hn
  have:=hs.2 i x n hx hn
  exact ⟨k,b,w,n,x,e,by omega,e2,e3,hx,this.1,this.2,by omega⟩
theorem PkOk.same {vars:List Int} {p:Pkr} (h:PkOk vars p) {i j:Nat} {f g:PFd} {k c:Nat} (hf:p.fields[i]?=some f) (hg:p.fields[j]?=some g) (h1:f.word=(k:Int)∧f.bit≤(c:Int)∧(c:Int) < f.bit + f.width) (h2:g.word=(k:Int)∧g.bit≤(c:Int)∧(c:Int) < g.bit + g.width):i=j:=by
  rcases Nat.lt_trichotomy i j with hh|hh|hh
  · have:=h.2.2 i j f g hh hf hg;omega
  · exact hh
  · have:=h.2.2 j i g f hh hg hf;omega
theorem IK {vars:List Int} {p:Pkr} (h:PkOk vars p) (hl:vars.length≤64) {s:List Int} (hs:StateOk vars s):∃ r,BD p s=some r∧r.2=⟨0⟩∧(r.1.length:Int)=p.words∧Bits p.fields s (fun _=>True) r.1:=by
  obtain ⟨W,hW,hW1,hW2,_⟩:=h.2.1
  unfold BD
  rw [if_neg (by have:=h.1;have:=hs.1;omega),hW,Jy (by omega) (by omega),Ar]
  refine Hc (fun m ws=>(ws.length:Int)=(W:Int)∧Bits p.fields s (fun i=>i < m) ws) (fun _=>False) ⟨by simp,?_⟩ ?_ ?_ (fun q hq=>hq.elim)
  · intro k c a ha _
    have:=List.eq_of_mem_replicate (List.mem_of_getElem? ha)
    subst this
    constructor
    · intro hh;simp at hh
    · rintro ⟨i,_,_,hi,_⟩;omega
  · rintro m f ws hm ⟨hwl,hb⟩
    refine .inl (LV ?_)
    obtain ⟨k,b,w,n,x,rfl,hk,hbw,hw,hx,hx0,hxn,hxw⟩:=h.field hs hm
    dsimp only
    obtain ⟨a,ha⟩:=AE (l:=ws) (k:=k) (by omega)
    rw [hx,Ar,if_neg (by omega),Ar,if_neg (by omega),Ar,Di,BT,ha,Ar,Ar]
    unfold shlU
    rw [if_pos (by omega),Ar,Ar]
    refine ⟨_,rfl,_,rfl,by simpa using hwl,?_⟩
    simp only [Int.toNat_natCast]
    have hxb:∀ c:Nat,c < 64→((a ||| (BitVec.ofInt 64 x <<< b)).getLsbD c=true↔a.getLsbD c=true∨(b≤c∧x.toNat.testBit (c - b)=true)):=by
      intro c hc
      have hofi:BitVec.ofInt 64 x=BitVec.ofNat 64 x.toNat:=by
        rw [← BitVec.ofInt_natCast,Int.toNat_of_nonneg hx0]
      rw [BitVec.getLsbD_or,BitVec.getLsbD_shiftLeft,hofi,BitVec.getLsbD_ofNat]
      by_cases h1:b≤c
      · have:c - b < 64:=by omega
        simp [hc,h1,this,Nat.not_lt.2 h1]
      · simp [hc,h1,Nat.lt_of_not_le h1]
    intro k' c a' ha' hc
    by_cases e:k=k'
    · subst e
      rw [List.getElem?_set_self (AC ha)] at ha'
      obtain rfl:=Option.some.inj ha'
      rw [hxb c hc,hb k c a ha hc]
      constructor
      · rintro (⟨i,f,y,hi,hr⟩|⟨h1,h2⟩)
        · exact ⟨i,f,y,by omega,hr⟩
        · have:=JY hx0 hxw h2
          exact ⟨m,_,x,by omega,hm,hx,rfl,by dsimp only;omega,by dsimp only;omega,by simpa using h2⟩
      · rintro ⟨i,f,y,hi,hf,hy,hin⟩
        by_cases he:i=m
        · subst he
          rw [hm] at hf
          obtain rfl:=Option.some.inj hf
          rw [hx] at hy
          obtain rfl:=Option.some.inj hy
          obtain ⟨_,i2,i3,i4⟩:=hin
          dsimp only at i2 i3 i4
          exact .inr ⟨by omega,by simpa using i4⟩
        · exact .inl ⟨i,f,y,by omega,hf,hy,hin⟩
    · rw [List.getElem?_set_ne e] at ha'
      rw [hb k' c a' ha' hc]
      constructor
      · rintro ⟨i,f,y,hi,hr⟩;exact ⟨i,f,y,by omega,hr⟩
      · rintro ⟨i,f,y,hi,hf,hy,hin⟩
        by_cases he:i=m
        · subst he
          rw [hm] at hf
          obtain rfl:=Option.some.inj hf
          have:=hin.1
          dsimp only at this
          omega
        · exact ⟨i,f,y,by omega,hf,hy,hin⟩
  · rintro ws ⟨hwl,hb⟩
    refine ⟨_,rfl,rfl,hwl,fun k c a ha hc=>?_⟩
    rw [hb k c a ha hc]
    constructor
    · rintro ⟨i,f,x,_,hr⟩;exact ⟨i,f,x,trivial,hr⟩
    · rintro ⟨i,f,x,_,hf,hr⟩;exact ⟨i,f,x,AC hf,hf,hr⟩
theorem LW {k b w:Nat} {n:Int}:Cu ⟨k,b,w,n⟩=some ((((1:U64) <<< w) - (1:U64)) <<< b):=by
  unfold Cu shlU
  dsimp only
  rw [if_pos (by omega),Ar,if_pos (by omega),Ar]
  simp
theorem Qm {vars:List Int} {p:Pkr} (h:PkOk vars p) {s:List Int} (hs:StateOk vars s) {ws:List U64} (hwl:(ws.length:Int)=p.words) (hb:Bits p.fields s (fun _=>True) ws) {i:Nat} {f:PFd} {x:Int} (hf:p.fields[i]?=some f) (hx:s[i]?=some x):CR f ws=some x:=by
  obtain ⟨k,b,w,n,x',rfl,hk,hbw,hw,hx',hx0,hxn,hxw⟩:=h.field hs hf
  rw [hx] at hx'
  obtain rfl:=Option.some.inj hx'
  obtain ⟨a,ha⟩:=AE (l:=ws) (k:=k) (by omega)
  unfold CR
  dsimp only
  rw [BT,ha,Ar,LW,Ar]
  unfold shrU
  rw [if_pos (by omega),Ar]
  have hval : (a &&& ((((1:U64) <<< w) - (1:U64)) <<< b)) >>> b=BitVec.ofNat 64 x.toNat:=by
    apply BitVec.eq_of_getLsbD_eq
    intro j hj
    rw [BitVec.getLsbD_ushiftRight,BitVec.getLsbD_and,BitVec.getLsbD_ofNat]
    by_cases hjb:b + j < 64
    · rw [Lj hw hjb]
      by_cases hjw:j < w
      · have h1:=hb k (b + j) a ha hjb
        have h2:a.getLsbD (b + j)=x.toNat.testBit j:=by
          cases ht:x.toNat.testBit j with
          | true=>exact h1.2 ⟨i,_,x,trivial,hf,hx,rfl,by dsimp only;omega,by dsimp only;omega,by simpa using ht⟩
          | false =>
            cases hg:a.getLsbD (b + j) with
            | false=>rfl
            | true =>
              obtain ⟨i',f',x',_,hf',hx',hin⟩:=h1.1 hg
              have hii:=h.same (k:=k) (c:=b + j) hf hf' ⟨rfl,by dsimp only;omega,by dsimp only;omega⟩ ⟨hin.1,hin.2.1,hin.2.2.1⟩
              subst hii
              rw [hf] at hf'
              obtain rfl:=Option.some.inj hf'
              rw [hx] at hx'
              obtain rfl:=Option.some.inj hx'
              have:=hin.2.2.2
              simp at this
              rw [this] at ht
              cases ht
        rw [h2]
        simp [hj,hjw]
      · have hf0:x.toNat.testBit j=false:=by
          cases ht:x.toNat.testBit j with
          | false=>rfl
          | true=>exact absurd (JY hx0 hxw ht) hjw
        simp [hf0,hjw]
    · have hf0:x.toNat.testBit j=false:=by
        cases ht:x.toNat.testBit j with
        | false=>rfl
        | true=>have:=JY hx0 hxw ht;omega
      rw [BitVec.getLsbD_of_ge _ _ (by omega)]
      simp [hf0]
  have h64:(2:Int) ^ w≤64:=by
    have:w=0∨w=1∨w=2∨w=3∨w=4∨w=5∨w=6:=by omega
    rcases this with rfl|rfl|rfl|rfl|rfl|rfl|rfl<;>decide
  simp only [Int.toNat_natCast]
  rw [hval]
  congr 1
  rw [BitVec.toInt_eq_toNat_of_lt (by rw [BitVec.toNat_ofNat];omega),BitVec.toNat_ofNat]
  omega
theorem Is {vars:List Int} {p:Pkr} (h:PkOk vars p) (hl:vars.length≤64) {s:List Int} (hs:StateOk vars s) {ws:List U64} (hwl:(ws.length:Int)=p.words) (hb:Bits p.fields s (fun _=>True) ws):Cp p ws=some (s,⟨0⟩):=by
  obtain ⟨W,hW,hW1,hW2,_⟩:=h.2.1
  have hsl:=hs.1
  have hfl:=h.1
  unfold Cp
  rw [if_neg (by omega),Jy (by omega) (by omega),Ar]
  unfold BJ
  rw [if_pos (by omega),Ar]
  refine LT (fun m st=>st.1.length=s.length∧(∀ (i:Nat) x,i < m→s[i]?=some x→st.1[i]?=some x)∧st.2.length=ws.length∧Bits p.fields s (fun i=>m≤i) st.2) ⟨by simp;omega,fun i x hi=>by omega,rfl,?_⟩ ?_ ?_
  · intro k c a ha hc
    rw [hb k c a ha hc]
    constructor
    · rintro ⟨i,f,x,_,hr⟩;exact ⟨i,f,x,by omega,hr⟩
    · rintro ⟨i,f,x,_,hr⟩;exact ⟨i,f,x,trivial,hr⟩
  · rintro m f ⟨out,rest⟩ hm ⟨i1,i2,i3,i4⟩
    dsimp only at i1 i2 i3 i4 ⊢
    obtain ⟨k,b,w,n,x,rfl,hk,hbw,hw,hx,hx0,hxn,hxw⟩:=h.field hs hm
    have hml:=AC hx
    obtain ⟨u,hu⟩:=AE (l:=out) (k:=m) (by omega)
    obtain ⟨a,ha⟩:=AE (l:=rest) (k:=k) (by omega)
    rw [Qm h hs hwl hb hm hx,Ar,hu,Ar,List.getElem?_set_self (by omega),Ar]
    dsimp only
    rw [if_neg (by omega),BT,ha,Ar,LW,Ar,Ar]
    refine ⟨_,rfl,by simpa using i1,fun i y hi hy=>?_,by simpa using i3,?_⟩
    · by_cases e:i=m
      · subst e
        rw [hx] at hy
        obtain rfl:=Option.some.inj hy
        exact List.getElem?_set_self (by omega)
      · show (out.set m x)[i]?=_
        rw [List.getElem?_set_ne (by omega)]
        exact i2 i y (by omega) hy
    · show Bits p.fields s _ (rest.set ((k:Int)).toNat _)
      simp only [Int.toNat_natCast]
      intro k' c a' ha' hc
      by_cases e:k=k'
      · subst e
        rw [List.getElem?_set_self (AC ha)] at ha'
        obtain rfl:=Option.some.inj ha'
        rw [BitVec.getLsbD_and,BitVec.getLsbD_not,Lj hw hc]
        have h1:=i4 k c a ha hc
        constructor
        · intro hh
          simp only [Bool.and_eq_true,Bool.not_eq_true',decide_eq_true_eq] at hh
          obtain ⟨i,f,y,hi,hf,hy,hin⟩:=h1.1 hh.1
          refine ⟨i,f,y,?_,hf,hy,hin⟩
          rcases Nat.lt_or_ge m i with hlt|hge
          · exact hlt
          · exfalso
            obtain rfl:i=m:=by omega
            rw [hm] at hf
            obtain rfl:=Option.some.inj hf
            obtain ⟨_,j2,j3,_⟩:=hin
            dsimp only at j2 j3
            have h2:=hh.2.2
            rw [show decide (b≤c)=true from by simp;omega,show decide (c < b + w)=true from by simp;omega] at h2
            cases h2
        · rintro ⟨i,f,y,hi,hf,hy,hin⟩
          have hg:=h1.2 ⟨i,f,y,by omega,hf,hy,hin⟩
          have hno:¬ (b≤c∧c < b + w):=fun hh=>by
            have:=h.same (k:=k) (c:=c) hm hf ⟨rfl,by dsimp only;omega,by dsimp only;omega⟩ ⟨hin.1,hin.2.1,hin.2.2.1⟩
            omega
          rw [hg]
          by_cases q1:b≤c
          · have q2:¬ c < b + w:=fun hh=>hno ⟨q1,hh⟩
            simp [hc,q1,q2]
          · simp [hc,q1]
      · rw [List.getElem?_set_ne e] at ha'
        rw [i4 k' c a' ha' hc]
        constructor
        · rintro ⟨i,f,y,hi,hf,hy,hin⟩
          refine ⟨i,f,y,?_,hf,hy,hin⟩
          rcases Nat.lt_or_ge m i with hlt|hge
          · exact hlt
          · exfalso
            obtain rfl:i=m:=by omega
            rw [hm] at hf
            obtain rfl:=Option.some.inj hf
            have:=hin.1
            dsimp only at this
            omega
        · rintro ⟨i,f,y,hi,hr⟩;exact ⟨i,f,y,by omega,hr⟩
  · rintro ⟨out,rest⟩ ⟨i1,i2,i3,i4⟩
    dsimp only at i1 i2 i3 i4
    rw [Dj]
    dsimp only
    have hout:out=s:=by
      apply List.ext_getElem?
      intro i
      rcases Nat.lt_or_ge i s.length with hi|hi
      · obtain ⟨x,hx⟩:=AE (l:=s) (k:=i) hi
        rw [hx];exact i2 i x (by omega) hx
      · rw [List.getElem?_eq_none hi,List.getElem?_eq_none (by omega)]
    subst hout
    refine LT (fun _ _=>True) trivial (fun k a _ hk _=>⟨(),?_,trivial⟩) (fun _ _=>rfl)
    obtain ⟨a',ha'⟩:=AE (l:=rest) (k:=k) (by have:=AC hk;omega)
    rw [ha',Ar]
    have hz:a'=0:=by
      apply BitVec.eq_of_getLsbD_eq
      intro c hc
      cases hg:a'.getLsbD c with
      | false=>simp
      | true =>
        obtain ⟨i,f,x,hi,hf,_⟩:=(i4 k c a' ha' hc).1 hg
        have:=AC hf
        omega
    subst hz
    rw [if_neg (by simp)]
theorem Od {vars:List Int} {p:Pkr} (h:PkOk vars p) (hl:vars.length≤64) {s s':List Int} (hs:StateOk vars s) (hs':StateOk vars s') {ws:List U64} (h1:BD p s=some (ws,⟨0⟩)) (h2:BD p s'=some (ws,⟨0⟩)):s=s':=by
  obtain ⟨r,r1,r2,r3,r4⟩:=IK h hl hs
  obtain ⟨q,q1,q2,q3,q4⟩:=IK h hl hs'
  rw [h1] at r1
  rw [h2] at q1
  obtain rfl:=Option.some.inj r1
  obtain rfl:=Option.some.inj q1
  have e1:=Is h hl hs r3 r4
  have e2:=Is h hl hs' q3 q4
  rw [e1] at e2
  have:=Option.some.inj e2
  exact congrArg Prod.fst this
end
section
open Go Go.RowKit
theorem Ks {K V:Type} [MKey K] (z:V) (k k':K) (v:V):∀ l:List (K×V),mget z (mput l k v) k'=if k=k' then v else mget z l k'
  | []=>by simp only [mput,mget]
  | p :: r=>by
    have ih:=Ks z k k' v r
    simp only [mput]
    by_cases h1:p.1=k
    · rw [if_pos h1]
      simp only [mget]
      by_cases h2:k=k'
      · rw [if_pos h2,if_pos h2]
      · rw [if_neg h2,if_neg h2,if_neg (by rw [h1];exact h2)]
    · rw [if_neg h1]
      simp only [mget,ih]
      by_cases h2:k=k'
      · rw [if_pos h2,if_pos h2,if_neg (by rw [← h2];exact h1)]
      · rw [if_neg h2,if_neg h2]
theorem Nj (p:Pkr) (ws:List U64):∃ h,BM p ws=some h:=by
  have:∃ r,BM p ws=some r∧True:=by
    unfold BM
    refine Hc (fun _ _=>True) (fun _=>False) trivial (fun i x s _ _=>.inl ?_) (fun s _=>?_) (fun q hq=>hq.elim)
    · exact ⟨_,rfl,trivial⟩
    · exact ⟨_,rfl,trivial⟩
  obtain ⟨h,h1,_⟩:=this
  exact ⟨h,h1⟩
theorem Qn (a b:List U64):Br a b=some (decide (a=b)):=by
  unfold Br
  by_cases hl:(a.length:Int)=(b.length:Int)
  · rw [if_neg (by omega)]
    have:∃ r,(bnd (rng (ρ:=Bool) (fun (k18:Nat) (a19:U64) (_:Unit)=>bnd (b[k18]?) fun a36=>if (a19.toNat:Int)≠(a36.toNat:Int) then (some (.ret false)) else (some (.next ()))) a 0 ()) fun res14=>fin res14 fun (_:Unit)=>some true)=some r∧r=decide (a=b):=by
      refine Hc (fun m _=>∀ (i:Nat),i < m→a[i]?=b[i]?) (fun r=>r=false∧a≠b) (fun i hi=>by omega) ?_ ?_ ?_
      · intro i x _ hx hI
        obtain ⟨y,hy⟩:=AE (l:=b) (k:=i) (by have:=AC hx;omega)
        rw [hy,Ar]
        by_cases he:x=y
        · subst he
          rw [if_neg (by simp)]
          refine .inl ⟨(),rfl,fun j hj=>?_⟩
          by_cases e:j=i
          · subst e;rw [hx,hy]
          · exact hI j (by omega)
        · rw [if_pos (fun h=>he (BitVec.eq_of_toNat_eq (by omega)))]
          refine .inr ⟨_,rfl,rfl,fun h=>he ?_⟩
          rw [h,hy] at hx
          exact (Option.some.inj hx).symm
      · intro _ hI
        refine ⟨_,rfl,?_⟩
        symm
        rw [decide_eq_true_eq]
        apply List.ext_getElem?
        intro i
        rcases Nat.lt_or_ge i a.length with h|h
        · exact hI i h
        · rw [List.getElem?_eq_none h,List.getElem?_eq_none (by omega)]
      · rintro q ⟨rfl,hne⟩
        exact ⟨_,rfl,by simp [hne]⟩
    obtain ⟨r,h1,h2⟩:=this
    rw [h1,h2]
  · rw [if_pos hl]
    congr 1
    symm
    rw [decide_eq_false_iff_not]
    exact fun h=>hl (by rw [h])
structure RegI (vars:List Int) (r:Reg) (L:List (List Int)):Prop where
  pk:PkOk vars r.packer
  len:r.entries.length=L.length
  st:∀ (i:Nat) s,L[i]?=some s→StateOk vars s
  words:∀ (i:Nat) s e,L[i]?=some s→r.entries[i]?=some e→BD r.packer s=some (e.words,⟨0⟩)
  nodup:∀ (i j:Nat) s,L[i]?=some s→L[j]?=some s→i=j
  tab:∀ (i:Nat) e,r.entries[i]?=some e→∃ h,BM r.packer e.words=some h∧(i:Int)∈mget ([]:List Int) r.table.l h
  val:∀ h a,a∈mget ([]:List Int) r.table.l h→∃ i:Nat,a=(i:Int)∧i < L.length
  few:∀ h,(mget ([]:List Int) r.table.l h).length≤L.length
def links (r:Reg):List RLk:=r.entries.map (·.link)
theorem Nk {vars:List Int} (hl:vars.length≤64) (hv:∀ (i:Nat) n,vars[i]?=some n→1≤n∧n≤64):∃ r,CS vars=some r∧∃ q,r=(some q,⟨0⟩)∧RegI vars q []∧links q=[]:=by
  obtain ⟨r,h1,p,rfl,hp⟩:=MA hl hv
  unfold CS
  rw [h1,Ar,if_neg (by simp),Ar]
  exact ⟨_,rfl,_,rfl,⟨hp,rfl,fun i s h=>by simp at h,fun i s e h=>by simp at h,fun i j s h=>by simp at h,fun i e h=>by simp at h,fun h a ha=>by simp [mget] at ha,fun h=>by simp [mget]⟩,rfl⟩
theorem JL {vars:List Int} (hl:vars.length≤64) {r:Reg} {L:List (List Int)} (h:RegI vars r L) {s:List Int} (hs:StateOk vars s):∃ (ws:List U64) (hh:Int),BD r.packer s=some (ws,⟨0⟩)∧BM r.packer ws=some hh ∧
    ((∃ i:Nat,L[i]?=some s∧Bl r s=some (ws,hh,(i:Int),⟨0⟩))∨((∀ i:Nat,L[i]?≠some s)∧Bl r s=some (ws,hh,-1,⟨0⟩))):=by
  obtain ⟨⟨ws,er⟩,p1,p2,p3,p4⟩:=IK h.pk hl hs
  dsimp only at p2 p3 p4
  subst p2
  obtain ⟨hh,hhe⟩:=Nj r.packer ws
  refine ⟨ws,hh,p1,hhe,?_⟩
  have key:∃ res,Bl r s=some res∧((∃ i:Nat,L[i]?=some s∧res=(ws,hh,(i:Int),⟨0⟩))∨((∀ i:Nat,L[i]?≠some s)∧res=(ws,hh,-1,⟨0⟩))):=by
    unfold Bl
    rw [p1,Ar,if_neg (by simp),hhe,Ar]
    refine Hc (fun m _=>∀ (j:Nat) (i:Nat),j < m→(mget ([]:List Int) r.table.l hh)[j]?=some (i:Int)→L[i]?≠some s) (fun res=>∃ i:Nat,L[i]?=some s∧res=(ws,hh,(i:Int),⟨0⟩)) (fun j i hj=>by omega) ?_ ?_ ?_
    · intro m a _ hm hI
      obtain ⟨i,rfl,hi⟩:=h.val hh a (List.mem_of_getElem? hm)
      obtain ⟨e,he⟩:=AE (l:=r.entries) (k:=i) (by rw [h.len];exact hi)
      obtain ⟨s',hs'⟩:=AE (l:=L) (k:=i) hi
      have hw:=h.words i s' e hs' he
      rw [BT,he,Ar,Qn,Ar]
      by_cases hew:e.words=ws
      · rw [decide_eq_true hew,Ef]
        rw [hew] at hw
        have:=Od h.pk hl (h.st i s' hs') hs hw p1
        subst this
        exact .inr ⟨_,rfl,i,hs',rfl⟩
      · rw [decide_eq_false hew,Di]
        refine .inl ⟨(),rfl,fun j i' hj hi'=>?_⟩
        by_cases e1:j=m
        · subst e1
          rw [hm] at hi'
          have e2:i=i':=by have:=Option.some.inj hi';omega
          subst e2
          intro hL
          rw [hL] at hs'
          obtain rfl:=Option.some.inj hs'
          rw [p1] at hw
          exact hew (congrArg Prod.fst (Option.some.inj hw)).symm
        · exact hI j i' (by omega) hi'
    · intro _ hI
      refine ⟨_,rfl,.inr ⟨fun i hL=>?_,rfl⟩⟩
      obtain ⟨e,he⟩:=AE (l:=r.entries) (k:=i) (by rw [h.len];exact AC hL)
      have hw:=h.words i s e hL he
      rw [p1] at hw
      have hwe:ws=e.words:=congrArg Prod.fst (Option.some.inj hw)
      obtain ⟨h',t1,t2⟩:=h.tab i e he
      rw [← hwe,hhe] at t1
      obtain rfl:=Option.some.inj t1
      obtain ⟨j,hj⟩:=List.getElem?_of_mem t2
      exact hI j i (AC hj) hj hL
    · rintro q ⟨i,hi,rfl⟩
      exact ⟨_,rfl,.inl ⟨i,hi,rfl⟩⟩
  obtain ⟨res,k1,k2⟩:=key
  rcases k2 with ⟨i,hi,rfl⟩|⟨hn,rfl⟩
  · exact .inl ⟨i,hi,k1⟩
  · exact .inr ⟨hn,k1⟩
theorem Kt {vars:List Int} (hl:vars.length≤64) {r:Reg} {L:List (List Int)} (h:RegI vars r L) {s:List Int} (hs:StateOk vars s) (hL:L.length < 65536) :
    (∃ i:Nat,L[i]?=some s∧Bh r s=some ((i:Int),false,⟨0⟩,r))∨((∀ i:Nat,L[i]?≠some s)∧∃ r',Bh r s=some ((L.length:Int),true,⟨0⟩,r')∧RegI vars r' (L ++ [s])∧links r'=links r ++ [⟨-1,-1,0⟩]):=by
  obtain ⟨ws,hh,p1,p2,hf⟩:=JL hl h hs
  unfold Bh
  have hlen:=h.len
  rcases hf with ⟨i,hi,hf⟩|⟨hno,hf⟩
  · refine .inl ⟨i,hi,?_⟩
    rw [hf,Ar,if_neg (by simp),if_pos (by dsimp only;omega)]
  · refine .inr ⟨hno,?_⟩
    have hfew:=h.few hh
    rw [hf,Ar,if_neg (by simp),if_neg (by dsimp only;omega),if_neg (by omega)]
    dsimp only
    rw [CF (by simp;omega) (by simp;omega),Ar,CF (by simp;omega) (by simp;omega),Ar,hlen]
    have hget:∀ k,mget ([]:List Int) (mput r.table.l hh (mget ([]:List Int) r.table.l hh ++ [(L.length:Int)])) k=if hh=k then mget ([]:List Int) r.table.l hh ++ [(L.length:Int)] else mget ([]:List Int) r.table.l k:=fun k=>Ks _ _ _ _ _
    refine ⟨_,rfl,⟨h.pk,by simp [hlen],?_,?_,?_,?_,?_,?_⟩,by simp [links]⟩
    · intro i s' hi
      rcases Dz hi with hi|⟨_,rfl⟩
      · exact h.st i s' hi
      · exact hs
    · intro i s' e hi he
      rcases Dz hi with hi|⟨hi,rfl⟩
      · rcases Dz he with he|⟨he,_⟩
        · exact h.words i s' e hi he
        · have:=AC hi;omega
      · rcases Dz he with he|⟨he,rfl⟩
        · have:=AC he;omega
        · exact p1
    · intro i j s' hi hj
      rcases Dz hi with hi2|⟨hi2,hs2⟩
      · rcases Dz hj with hj2|⟨hj2,hs2⟩
        · exact h.nodup i j s' hi2 hj2
        · exact absurd (hs2 ▸ hi2) (hno i)
      · rcases Dz hj with hj2|⟨hj2,_⟩
        · exact absurd (hs2 ▸ hj2) (hno j)
        · omega
    · intro i e he
      rcases Dz he with he|⟨hi,rfl⟩
      · obtain ⟨k,k1,k2⟩:=h.tab i e he
        refine ⟨k,k1,?_⟩
        dsimp only
        rw [hget]
        by_cases e1:hh=k
        · subst e1;rw [if_pos rfl];exact List.mem_append_left _ k2
        · rw [if_neg e1];exact k2
      · refine ⟨hh,p2,?_⟩
        dsimp only
        rw [hget,if_pos rfl,hi,hlen]
        simp
    · intro k a ha
      dsimp only at ha
      rw [hget] at ha
      simp only [List.length_append,List.length_singleton]
      by_cases e1:hh=k
      · rw [if_pos e1] at ha
        rcases List.mem_append.1 ha with ha|ha
        · obtain ⟨i,h1,h2⟩:=h.val hh a ha;exact ⟨i,h1,by omega⟩
        · exact ⟨L.length,by simpa using ha,by omega⟩
      · rw [if_neg e1] at ha
        obtain ⟨i,h1,h2⟩:=h.val k a ha;exact ⟨i,h1,by omega⟩
    · intro k
      dsimp only
      rw [hget]
      have:=h.few k
      simp only [List.length_append,List.length_singleton]
      by_cases e1:hh=k
      · rw [if_pos e1];simp;omega
      · rw [if_neg e1];omega
theorem Nl {vars:List Int} {r:Reg} {L:List (List Int)} (h:RegI vars r L) {i:Nat} (hi:i < L.length):BW r (i:Int)=some true:=by
  unfold BW
  rw [if_pos (by omega),if_pos (by rw [h.len];omega)]
  rfl
theorem LE {vars:List Int} (hl:vars.length≤64) {r:Reg} {L:List (List Int)} (h:RegI vars r L) {i:Nat} {s:List Int} (hi:L[i]?=some s):By r (i:Int)=some (s,⟨0⟩):=by
  obtain ⟨e,he⟩:=AE (l:=r.entries) (k:=i) (by rw [h.len];exact AC hi)
  have hs:=h.st i s hi
  obtain ⟨⟨ws,er⟩,p1,p2,p3,p4⟩:=IK h.pk hl hs
  have hw:=h.words i s e hi he
  rw [p1] at hw
  have hwe:ws=e.words:=congrArg Prod.fst (Option.some.inj hw)
  dsimp only at p3 p4
  rw [hwe] at p3 p4
  unfold By
  rw [Nl h (AC hi),Ar,Ef,BT,he,Ar,Is h.pk hl hs p3 p4,Ar]
end
section
open Go Go.RowKit
inductive Rch (t:Tsk):List Int→Prop
  | init:Rch t t.init
  | step {s:List Int} {k:Nat} {o:Opr}:Rch t s→t.ops[k]?=some o→holdsB o.pre s=true→Rch t (succ o s)
theorem Rch.ok {t:Tsk} (h:TaskOk t) {s:List Int} (hr:Rch t s):StateOk t.vars s:=by
  induction hr with
  | init=>exact h.2.2.2.1
  | step _ ho _ ih=>exact JV h ih ho
end
section
open Go Go.RowKit
attribute [local irreducible] ewp owp hwp hwq hws Ev Evg Fn retPost loud loudS Res1
noncomputable def It (x0:Err) (x1:Int):Option Bool :=
  bnd (if x0.n≠0 then (bnd (JJ (⟨x0.n⟩:Err)) fun q8=>if q8=x1 then (some true) else (some false)) else (some false):Option Bool) fun y3=>some y3
theorem Nm {w:World} {A:Nat→Prop} (hA:∀ k,A k→k < w.heap.size) {x0:Err} (rx0:inI64 x0.n) {x1:Int} (rx1:inI64 x1) {r:Bool} (hm:It x0 x1=some r) :
    Fn Tryz.prog 20 [(errV x0.n),(.int .i64 x1)] w fun v w'=>Ext w w'∧Vb w' (upA A w w') v r:=by
 obtain ⟨O,hB,f0⟩:=enter hA
 refine AI Tryz.func20 rfl Tryz.ntmps20 rfl ?_
 unfold It at hm
 refine Al (Aj (An rfl rfl (o_z ?_)))
 refine Al ?_
 obtain ⟨y3,a0,hm⟩:=bs hm
 refine AN (fun l' w'=>∃ (x6:Unit) (O':Lab),subs l' [(4,(.bool y3))]∧Bs w A w' O') ?_ ?_
 ·
  refine Aj (Am rfl rfl (Dd rfl rfl (fun c7=>?_) fun c7=>?_))
  ·
   replace a0:=ip a0 c7
   refine Am rfl rfl (Au rfl rfl (Am rfl rfl (Au rfl rfl ?_)))
   obtain ⟨q8,e9,a0⟩:=bs a0
   refine BO (O:=O) (A:=All w) (R:=fun w' F v=>Vb w' F v q8) (Ms (fun _ h=>h) rx0 e9) rfl rfl fun g0 h0 i0 d0 e0=>?_
   obtain ⟨rfl,j0⟩:=e0.int
   refine Au rfl rfl (Am rfl rfl (Au rfl rfl (GF rfl rfl rfl (fun b0=>?_) fun b0=>?_)))
   ·
    replace a0:=ip a0 b0
    refine Bk rfl rfl rfl (An rfl rfl (o_z ?_))
    obtain rfl:=sm a0
    exact ⟨(),_,⟨rfl,trivial⟩,hB.st d0⟩
   replace a0:=im a0 b0
   refine Bk rfl rfl rfl (An rfl rfl (o_z ?_))
   obtain rfl:=sm a0
   exact ⟨(),_,⟨rfl,trivial⟩,hB.st d0⟩
  replace a0:=im a0 c7
  refine Am rfl rfl (Aw rfl rfl rfl rfl (Aw rfl rfl rfl rfl (Aw rfl rfl rfl rfl (Aw rfl rfl rfl rfl (Bf rfl rfl rfl (An rfl rfl (o_z ?_)))))))
  obtain rfl:=sm a0
  exact ⟨(),_,⟨rfl,trivial⟩,hB⟩
 rintro k0 l0 ⟨x6,m0,c0,hB⟩
 refine AO _ c0 ?_
 refine AF ?_
 obtain rfl:=sm hm
 exact ret1v rfl (Az rfl) ⟨hB.ext,vBool⟩
end
section
open Go Go.RowKit
theorem Iu {α:Type} [DecidableEq α]:∀ {a b:List α},a.Nodup→(∀ x∈a,x∈b)→a.length≤b.length
  | [],_,_,_=>Nat.zero_le _
  | x :: a,b,hn,hs=>by
    have hx:=hs x List.mem_cons_self
    have h1:=Iu (a:=a) (b:=b.erase x) (List.nodup_cons.1 hn).2 fun y hy=>(List.mem_erase_of_ne (fun e=>(List.nodup_cons.1 hn).1 (by rw [← e];exact hy))).2 (hs y (List.mem_cons_of_mem _ hy))
    have h2:=List.length_erase_of_mem hx
    have h3:=List.length_pos_of_mem hx
    simp only [List.length_cons]
    omega
end
section
open Go Go.RowKit
def appB (t:Tsk) (s:List Int) (k:Nat):Bool:=match t.ops[k]? with|some o=>holdsB o.pre s|none=>false
def appN (t:Tsk) (s:List Int) (m:Nat):List Nat:=(List.range m).filter (appB t s)
def sucN (t:Tsk) (s:List Int) (k:Nat):List Int:=match t.ops[k]? with|some o=>succ o s|none=>s
theorem Qp (t:Tsk) (s:List Int):appl t s=(appN t s t.ops.length).map fun k:Nat=>(k:Int):=rfl
theorem Fj {t:Tsk} {s:List Int} {k:Nat} (h:appB t s k=true):∃ o,t.ops[k]?=some o∧holdsB o.pre s=true∧sucN t s k=succ o s:=by
  unfold appB at h
  cases ho:t.ops[k]? with
  | none=>rw [ho] at h;cases h
  | some o=>rw [ho] at h;exact ⟨o,rfl,h,by unfold sucN;rw [ho]⟩
theorem Pj {t:Tsk} {s:List Int} {k:Nat} {o:Opr} (ho:t.ops[k]?=some o):appB t s k=holdsB o.pre s∧sucN t s k=succ o s:=by unfold appB sucN;rw [ho];exact ⟨rfl,rfl⟩
end
section
set_option linter.unusedVariables false
set_option linter.unusedSimpArgs false
open Go Go.RowKit
def putL (L:List (List Int)) (s:List Int):List (List Int):=if s∈L then L else L ++ [s]
def foldP (t:Tsk) (s:List Int) (L:List (List Int)) (ks:List Nat):List (List Int):=ks.foldl (fun L k=>putL L (sucN t s k)) L
def expL (t:Tsk) (s:List Int) (L:List (List Int)) (m:Nat):List (List Int):=foldP t s L (appN t s m)
theorem Nn (t:Tsk) (s:List Int) (m:Nat):appN t s (m + 1)=appN t s m ++ if appB t s m=true then [m] else []:=by
  unfold appN
  rw [List.range_succ,List.filter_append]
  by_cases h:appB t s m=true<;>simp [h]
theorem No (t:Tsk) (s:List Int) (L:List (List Int)) (m:Nat):expL t s L (m + 1)=if appB t s m=true then putL (expL t s L m) (sucN t s m) else expL t s L m:=by
  unfold expL foldP
  rw [Nn,List.foldl_append]
  by_cases h:appB t s m=true
  · rw [if_pos h,if_pos h];rfl
  · rw [if_neg h,if_neg h];rfl
theorem Lk (L:List (List Int)) (s:List Int):∃ A,putL L s=L ++ A:=by
  unfold putL
  split
  · exact ⟨[],by simp⟩
  · exact ⟨[s],rfl⟩
theorem Oe (L:List (List Int)) (s:List Int):s∈putL L s:=by
  unfold putL
  split
  · assumption
  · simp
theorem Ej (t:Tsk) (s:List Int):∀ (ks:List Nat) (L:List (List Int)),∃ A,foldP t s L ks=L ++ A
  | [],L=>⟨[],by simp [foldP]⟩
  | k :: ks,L=>by
    obtain ⟨A,hA⟩:=Lk L (sucN t s k)
    obtain ⟨B,hB⟩:=Ej t s ks (putL L (sucN t s k))
    exact ⟨A ++ B,by rw [← List.append_assoc,← hA,← hB];rfl⟩
theorem JM (t:Tsk) (s:List Int) (L:List (List Int)) (ks:List Nat) (k:Nat):foldP t s L (ks ++ [k])=putL (foldP t s L ks) (sucN t s k):=by unfold foldP;rw [List.foldl_append];rfl
theorem Iv (t:Tsk) (s:List Int):∀ (ks:List Nat) (L:List (List Int)) (k:Nat),k∈ks→sucN t s k∈foldP t s L ks
  | [],_,_,h=>by simp at h
  | q :: ks,L,k,h=>by
    rcases List.mem_cons.1 h with rfl|h
    · obtain ⟨B,hB⟩:=Ej t s ks (putL L (sucN t s k))
      show _∈foldP t s (putL L (sucN t s k)) ks
      rw [hB];exact List.mem_append_left _ (Oe _ _)
    · exact Iv t s ks _ k h
structure BL (t:Tsk) (L:List (List Int)):Prop where
  root:L[0]?=some t.init
  nodup:L.Nodup
  rch:∀ s∈L,Rch t s
theorem Hf (t:Tsk):BL t [t.init]:=⟨rfl,by simp,fun s h=>by simp at h;rw [h];exact .init⟩
theorem BL.ok {t:Tsk} {L:List (List Int)} (h:BL t L) (hok:TaskOk t) {s:List Int} (hs:s∈L):StateOk t.vars s:=(h.rch s hs).ok hok
theorem BL.few {t:Tsk} {L:List (List Int)} (h:BL t L) (hs:Mid t):L.length≤600:=Nat.le_trans (Iu h.nodup fun s hm=>IV.2 (h.ok hs.ok hm)) hs.many
theorem BL.many {t:Tsk} {L:List (List Int)} (h:BL t L) (hok:TaskOk t):L.length≤(statesL t.vars).length:=Iu h.nodup fun s hm=>IV.2 (h.ok hok hm)
theorem BL.put {t:Tsk} {L:List (List Int)} (h:BL t L) {s:List Int} (hs:s∈L) {k:Nat} (hk:appB t s k=true):BL t (putL L (sucN t s k)):=by
  unfold putL
  by_cases hm:sucN t s k∈L
  · rw [if_pos hm];exact h
  · rw [if_neg hm]
    obtain ⟨o,ho,hp,hsu⟩:=Fj hk
    refine ⟨?_,?_,fun u hu=>?_⟩
    · rw [List.getElem?_append_left (AC h.root)];exact h.root
    · rw [List.nodup_append]
      refine ⟨h.nodup,by simp,fun a ha b hb=>?_⟩
      simp at hb
      rintro rfl
      exact hm (hb ▸ ha)
    · rcases List.mem_append.1 hu with hu|hu
      · exact h.rch u hu
      · simp at hu;rw [hu,hsu];exact (h.rch s hs).step ho hp
theorem BL.fold {t:Tsk} {s:List Int}:∀ {ks:List Nat} {L:List (List Int)},BL t L→s∈L→(∀ k∈ks,appB t s k=true)→BL t (foldP t s L ks)
  | [],_,h,_,_=>h
  | k :: ks,L,h,hs,hk=>by
    obtain ⟨A,hA⟩:=Lk L (sucN t s k)
    exact BL.fold (L:=putL L (sucN t s k)) (h.put hs (hk k List.mem_cons_self)) (by rw [hA];exact List.mem_append_left _ hs) fun q hq=>hk q (List.mem_cons_of_mem _ hq)
theorem Gw {t:Tsk} {s:List Int} {m k:Nat} (h:k∈appN t s m):appB t s k=true∧k < m:=by
  unfold appN at h
  obtain ⟨h1,h2⟩:=List.mem_filter.1 h
  exact ⟨h2,List.mem_range.1 h1⟩
theorem Ll {t:Tsk} {s:List Int} {m k:Nat} (h:appB t s k=true) (hk:k < m):k∈appN t s m:=List.mem_filter.2 ⟨List.mem_range.2 hk,h⟩
theorem BL.exp {t:Tsk} {s:List Int} {L:List (List Int)} (h:BL t L) (hs:s∈L) (m:Nat):BL t (expL t s L m):=h.fold hs fun k hk=>(Gw hk).1
def CloL (t:Tsk) (i:Nat) (L:List (List Int)):Prop:=∀ (j:Nat) s k,j < i→L[j]?=some s→appB t s k=true→sucN t s k∈L
theorem CloL.exp {t:Tsk} {i:Nat} {L:List (List Int)} (h:CloL t i L) {s:List Int} (hs:L[i]?=some s):CloL t (i + 1) (expL t s L t.ops.length):=fun j u k hj hu hk=>by
  obtain ⟨A,hA⟩:=Ej t s (appN t s t.ops.length) L
  have hi:=AC hs
  have e:expL t s L t.ops.length=L ++ A:=hA
  rw [e,List.getElem?_append_left (by omega)] at hu
  by_cases e2:j=i
  · subst e2
    rw [hs] at hu
    obtain rfl:=Option.some.inj hu
    obtain ⟨o,ho,_⟩:=Fj hk
    exact Iv t s _ _ k (Ll hk (AC ho))
  · rw [e];exact List.mem_append_left _ (h j u k (by omega) hu hk)
inductive Bx (t:Tsk) (lim:Int):Nat→List (List Int)→Option (List (List Int))→Prop
  | full {i:Nat} {L:List (List Int)}:lim < (L.length:Int)→Bx t lim i L none
  | done {i:Nat} {L:List (List Int)}:(L.length:Int)≤lim→L.length≤i→Bx t lim i L (some L)
  | step {i:Nat} {L:List (List Int)} {s:List Int} {r:Option (List (List Int))}:(L.length:Int)≤lim→L[i]?=some s→Bx t lim (i + 1) (expL t s L t.ops.length) r→Bx t lim i L r
theorem OJ {t:Tsk} (hs:Mid t) (lim:Int):∀ (n i:Nat) (L:List (List Int)),601 - i < n→BL t L→∃ r,Bx t lim i L r
  | 0,_,_,h,_=>absurd h (by omega)
  | n + 1,i,L,h,hL=>by
    by_cases h1:lim < (L.length:Int)
    · exact ⟨_,.full h1⟩
    · by_cases h2:L.length≤i
      · exact ⟨_,.done (by omega) h2⟩
      · have hf:=hL.few hs
        obtain ⟨s,hs'⟩:=AE (l:=L) (k:=i) (by omega)
        obtain ⟨r,hr⟩:=OJ hs lim n (i + 1) (expL t s L t.ops.length) (by omega) (hL.exp (List.mem_of_getElem? hs') _)
        exact ⟨r,.step (by omega) hs' hr⟩
structure EndL (t:Tsk) (lim:Int) (L:List (List Int)):Prop where
  bl:BL t L
  clo:CloL t L.length L
  few:(L.length:Int)≤lim
theorem Bx.ends {t:Tsk} {lim:Int} {i:Nat} {L:List (List Int)} {r:Option (List (List Int))} (h:Bx t lim i L r):BL t L→CloL t i L→∀ L',r=some L'→EndL t lim L':=by
  induction h with
  | full _=>intro _ _ _ h;cases h
  | done h1 h2=>intro hb hc L' h;cases h;exact ⟨hb,fun j s k hj hs hk=>hc j s k (by omega) hs hk,h1⟩
  | @step i L s r h1 h2 _ ih =>
    intro hb hc L' h
    exact ih (hb.exp (List.mem_of_getElem? h2) _) (hc.exp h2) L' h
def idxE (L:List (List Int)) (s:List Int):Int:=(L.idxOf s:Int)
def edgK (t:Tsk) (L:List (List Int)) (s:List Int) (i:Nat) (ks:List Nat):List Edj:=ks.map fun k:Nat=>(⟨(i:Int),(k:Int),idxE L (sucN t s k)⟩:Edj)
def edgL (t:Tsk) (L:List (List Int)) (i:Nat):List Edj:=(List.range i).flatMap fun j=>match L[j]? with|some s=>edgK t L s j (appN t s t.ops.length)|none=>[]
theorem Of {L A:List (List Int)} {s:List Int} (h:s∈L):idxE (L ++ A) s=idxE L s:=by unfold idxE;rw [List.idxOf_append,if_pos h]
theorem Og {L:List (List Int)} {s:List Int} (h:¬ s∈L):idxE (L ++ [s]) s=(L.length:Int):=by unfold idxE;rw [List.idxOf_append,if_neg h];simp
theorem JZ {L:List (List Int)} {s:List Int} (h:s∈L):∃ i:Nat,idxE L s=(i:Int)∧L[i]?=some s:=⟨L.idxOf s,rfl,by rw [List.getElem?_eq_getElem (List.idxOf_lt_length_of_mem h),List.getElem_idxOf]⟩
theorem Lm {α:Type} {L:List α} (hn:L.Nodup) {i j:Nat} {s:α} (h1:L[i]?=some s) (h2:L[j]?=some s):i=j:=by
  obtain ⟨a1,b1⟩:=List.getElem?_eq_some_iff.1 h1
  obtain ⟨a2,b2⟩:=List.getElem?_eq_some_iff.1 h2
  rcases Nat.lt_trichotomy i j with h|h|h
  · exact ((List.pairwise_iff_getElem.1 hn) i j a1 a2 h (by rw [b1,b2])).elim
  · exact h
  · exact ((List.pairwise_iff_getElem.1 hn) j i a2 a1 h (by rw [b1,b2])).elim
theorem Qq {L:List (List Int)} (hn:L.Nodup) {i:Nat} {s:List Int} (h:L[i]?=some s):idxE L s=(i:Int):=by
  obtain ⟨j,h1,h2⟩:=JZ (List.mem_of_getElem? h)
  rw [h1,Lm hn h2 h]
theorem Ln {t:Tsk} {L A:List (List Int)} {s:List Int} {i:Nat} {ks:List Nat} (h:∀ k∈ks,sucN t s k∈L):edgK t (L ++ A) s i ks=edgK t L s i ks:=by
  unfold edgK
  exact List.map_congr_left fun k hk=>by rw [Of (h k hk)]
theorem Ka {α β:Type} {l:List α} {f g:α→List β} (h:∀ a∈l,f a=g a):l.flatMap f=l.flatMap g:=by
  induction l with
  | nil=>rfl
  | cons a l ih=>rw [List.flatMap_cons,List.flatMap_cons,h a List.mem_cons_self,ih fun b hb=>h b (List.mem_cons_of_mem _ hb)]
theorem Oh {t:Tsk} {L A:List (List Int)} {i:Nat} (hi:i≤L.length) (h:CloL t i L):edgL t (L ++ A) i=edgL t L i:=by
  unfold edgL
  refine Ka fun j hj=>?_
  have hji:=List.mem_range.1 hj
  obtain ⟨s,hs⟩:=AE (l:=L) (k:=j) (by omega)
  rw [List.getElem?_append_left (by omega),hs]
  exact Ln fun k hk=>h j s k hji hs (Gw hk).1
theorem Ku {t:Tsk} {L:List (List Int)} {i:Nat} {s:List Int} (hs:L[i]?=some s):edgL t L (i + 1)=edgL t L i ++ edgK t L s i (appN t s t.ops.length):=by
  unfold edgL
  rw [List.range_succ,List.flatMap_append,List.flatMap_singleton,hs]
theorem Jm {t:Tsk} {L:List (List Int)} {i:Nat} {e:Edj}:e∈edgL t L i↔∃ (j k:Nat) (s:List Int),j < i∧L[j]?=some s∧appB t s k=true∧e=⟨(j:Int),(k:Int),idxE L (sucN t s k)⟩:=by
  unfold edgL
  rw [List.mem_flatMap]
  constructor
  · rintro ⟨j,hj,he⟩
    cases hs:L[j]? with
    | none=>rw [hs] at he;simp at he
    | some s =>
      rw [hs] at he
      obtain ⟨k,hk,rfl⟩:=List.mem_map.1 he
      exact ⟨j,k,s,List.mem_range.1 hj,hs,(Gw hk).1,rfl⟩
  · rintro ⟨j,k,s,hj,hs,hk,rfl⟩
    refine ⟨j,List.mem_range.2 hj,?_⟩
    rw [hs]
    obtain ⟨o,ho,_⟩:=Fj hk
    exact List.mem_map.2 ⟨k,Ll hk (AC ho),rfl⟩
theorem Lo (t:Tsk) (s:List Int) (m:Nat):(appN t s m).length≤m:=by
  unfold appN
  exact Nat.le_trans (List.length_filter_le _ _) (by simp)
theorem Jn (t:Tsk) (L:List (List Int)):∀ (i:Nat),(edgL t L i).length≤i * t.ops.length
  | 0=>by simp [edgL]
  | i + 1=>by
    have h:=Jn t L i
    unfold edgL at h ⊢
    rw [List.range_succ,List.flatMap_append,List.flatMap_singleton,List.length_append,Nat.succ_mul]
    have:(match L[i]? with|some s=>edgK t L s i (appN t s t.ops.length)|none=>[]).length≤t.ops.length:=by
      cases L[i]? with
      | none=>simp
      | some s=>dsimp only;unfold edgK;rw [List.length_map];exact Lo _ _ _
    omega
theorem EndL.edges {t:Tsk} {lim:Int} {L:List (List Int)} (h:EndL t lim L) (hs:Mid t):EdgesOk t L.length (edgL t L L.length):=by
  have hf:=h.bl.few hs
  refine ⟨fun e he=>?_,?_⟩
  · obtain ⟨j,k,s,hj,hsj,hk,rfl⟩:=Jm.1 he
    obtain ⟨i,h1,h2⟩:=JZ (h.clo j s k hj hsj hk)
    obtain ⟨o,ho,_⟩:=Fj hk
    have:=AC h2
    have:=AC ho
    rw [h1]
    dsimp only;omega
  · have h1:=Jn t L L.length
    have h2:=hs.ops
    have:L.length * t.ops.length≤600 * 80:=Nat.mul_le_mul hf h2
    omega
-- the document
theorem Oi (L:List (List Int)) (s:List Int):Eg L s=some (if s∈L then idxE L s else -1):=by
  have key:∃ r,Eg L s=some r∧r=(if s∈L then idxE L s else -1):=by
    unfold Eg
    refine Hc (fun k _=>¬ s∈L.take k) (fun r=>s∈L∧r=idxE L s) (by simp) (fun k a u hk hI=>?_) (fun u hI=>⟨_,rfl,?_⟩) (fun r hr=>⟨_,rfl,?_⟩)
    · unfold IU
      rw [Ar]
      by_cases e:a=s
      · rw [Ce e,Ef]
        subst e
        refine .inr ⟨_,rfl,List.mem_of_getElem? hk,?_⟩
        have hk2:=AC hk
        have:L=L.take k ++ (a :: L.drop (k + 1)):=by
          have h2:=List.drop_eq_getElem_cons hk2
          rw [(List.getElem?_eq_some_iff.1 hk).2] at h2
          rw [← h2,List.take_append_drop]
        unfold idxE
        rw [this,List.idxOf_append,if_neg hI]
        simp;omega
      · rw [Bn e,Di]
        refine .inl ⟨(),rfl,fun hm=>?_⟩
        rcases (Hv hk).1 hm with hm|rfl
        · exact hI hm
        · exact e rfl
    · rw [List.take_length] at hI;rw [if_neg hI]
    · rw [if_pos hr.1];exact hr.2
  obtain ⟨r,h1,h2⟩:=key
  rw [h1,h2]
theorem Oj (L:List (List Int)) (s:List Int):0≤idxE L s:=by unfold idxE;omega
abbrev LN:=List (List Int)×Int
noncomputable def rstF (x0:Tsk) (q25:Int):LN→Option (Ctl LN ((List (List Int))×Bool)):=fun s60=>bnd (if s60.2 < (s60.1.length:Int) then (if (s60.1.length:Int)≤q25 then (some true) else (some false)) else (some false):Option Bool) fun y79=>if y79=true then (bnd (rng (ρ:=Ctl LN ((List (List Int))×Bool)) (fun (k100:Nat) (a101:Opr) (s98:(List (List Int)))=>bnd (atI s98 s60.2) fun a115=>bnd (DC x0 a115 (k100:Int)) fun q130=>bnd (if q130.2=true then (bnd (Eg s98 q130.1) fun q148=>if q148 < 0 then (some true) else (some false)) else (some false):Option Bool) fun y143=>if y143=true then (bnd (appI 24 s98 [q130.1]) fun u162=>some (.next u162)) else (some (.next s98))) x0.ops 0 s60.1) fun res96=>fin res96 fun (s178:(List (List Int)))=>bnd (chkI (s60.2 + 1)) fun n180=>some (.next (s178,n180))) else (some (.brk (s60.1,s60.2)))
noncomputable def rstE (q25:Int):Fin LN ((List (List Int))×Bool)→Option ((List (List Int))×Bool):=fun res58=>fin res58 fun (s187:LN)=>bnd (if (s187.1.length:Int)≤q25 then (some true) else (some false):Option Bool) fun y189=>some (s187.1,y189)
theorem Pk (x0:Tsk) (x1:Int):FI x0 x1=bnd (FP x1 0 65536) fun q25=>bnd (appI 8 ([]:List Int) x0.init) fun u39=>bnd (lop (rstF x0 q25) ([u39],0)) (rstE q25):=rfl
theorem Pm {t:Tsk} (hs:Mid t) {ρ:Type} {i:Nat} {L:List (List Int)} {s:List Int} (hb:BL t L) (hi:L[i]?=some s):rng (ρ:=ρ) (fun (k100:Nat) (a101:Opr) (s98:(List (List Int)))=>bnd (atI s98 (i:Int)) fun a115=>bnd (DC t a115 (k100:Int)) fun q130=>bnd (if q130.2=true then (bnd (Eg s98 q130.1) fun q148=>if q148 < 0 then (some true) else (some false)) else (some false):Option Bool) fun y143=>if y143=true then (bnd (appI 24 s98 [q130.1]) fun u162=>some (.next u162)) else (some (.next s98))) t.ops 0 L=some (.done (expL t s L t.ops.length)):=by
  refine FH (fun m=>expL t s L m) (by simp [expL,appN,foldP]) fun k o ho=>?_
  have hmem:=List.mem_of_getElem? hi
  have hE:=hb.exp hmem k
  have hf:=hE.few hs
  obtain ⟨e1,e2⟩:=Pj (s:=s) ho
  have hsok:=hb.ok hs.ok hmem
  obtain ⟨A,hA⟩:=Ej t s (appN t s k) L
  have hget:(expL t s L k)[i]?=some s:=by
    show (foldP t s L (appN t s k))[i]?=some s
    rw [hA,List.getElem?_append_left (AC hi)];exact hi
  rw [No,e1,BT,hget,Ar,MV hs.ok hsok ho]
  by_cases hp:holdsB o.pre s=true
  · rw [if_pos hp,if_pos hp,Ar]
    dsimp only
    rw [Ef,Oi,Ar,e2]
    unfold putL
    by_cases hm:succ o s∈expL t s L k
    · rw [if_pos hm,if_neg (by have:=Oj (expL t s L k) (succ o s);omega),Ar,Di,if_pos hm]
    · rw [if_neg hm,if_pos (by omega),Ar,Ef,CF (by rw [List.length_singleton];omega) (by rw [List.length_singleton];omega),Ar,if_neg hm]
  · rw [if_neg hp,if_neg hp,Ar]
    dsimp only
    rw [Di,Ar,Di]
def outS (r:Option (List (List Int))) (x:List (List Int)×Bool):Prop:=match r with|none=>x.2=false|some L=>x=(L,true)
theorem Qr {t:Tsk} (hs:Mid t) {lim:Int} {i:Nat} {L:List (List Int)} {r:Option (List (List Int))} (h:Bx t lim i L r):BL t L→∃ x,bnd (lop (rstF t lim) (L,(i:Int))) (rstE lim)=some x∧outS r x:=by
  induction h with
  | @full i L h1 =>
    intro _
    rw [Fp]
    unfold rstF
    dsimp only
    have e:(if (i:Int) < (L.length:Int) then (if (L.length:Int)≤lim then some true else some false) else some false)=some false:=by
      split
      · rw [if_neg (by omega)]
      · rfl
    rw [e,Ar,Di]
    dsimp only
    rw [Ar]
    unfold rstE
    rw [Dj,if_neg (by dsimp only;omega),Ar]
    exact ⟨_,rfl,rfl⟩
  | @done i L h1 h2 =>
    intro _
    rw [Fp]
    unfold rstF
    dsimp only
    rw [if_neg (by omega),Ar,Di]
    dsimp only
    rw [Ar]
    unfold rstE
    rw [Dj,if_pos (by dsimp only;omega),Ar]
    exact ⟨_,rfl,rfl⟩
  | @step i L s r h1 h2 _ ih =>
    intro hb
    have hil:=AC h2
    have hf:=hb.few hs
    rw [Fp]
    unfold rstF
    dsimp only
    rw [if_pos (by omega),if_pos h1,Ar,Ef,Pm hs hb h2,Ar,Dj,Cm (by unfold inI64;omega),Ar]
    dsimp only
    exact ih (hb.exp (List.mem_of_getElem? h2) _)
def limE (x:Int):Int:=max 0 (min x 65536)
theorem Pn (x:Int):FP x 0 65536=some (limE x):=by
  unfold limE FP
  first|rfl|(congr 1;omega)|(split<;>(try split)<;>(congr 1;omega))
theorem Lp {t:Tsk} (hs:Mid t) (lim:Int):∃ r x,Bx t (limE lim) 0 [t.init] r∧FI t lim=some x∧outS r x:=by
  obtain ⟨r,hr⟩:=OJ hs (limE lim) 602 0 [t.init] (by omega) (Hf t)
  obtain ⟨x,h1,h2⟩:=Qr hs hr (Hf t)
  refine ⟨r,x,hr,?_,h2⟩
  have h3:=hs.ok.2.2.2.1.1
  have h4:=hs.ok.1
  rw [Pk,Pn,Ar,CF (by simp;omega) (by simp;omega),Ar,List.nil_append]
  exact h1
end
section
set_option linter.unusedVariables false
set_option linter.unusedSimpArgs false
open Go Go.RowKit
abbrev XI:=List Edj×Reg
abbrev XS:=Int×List Edj×List Bool×Reg
abbrev XR:=Option Spa×Err
theorem Iw {f:List Fct} (h:f.length≤1000):Bc f=some f:=if_pos ⟨by omega,by omega⟩
theorem Np {t:Tsk} (h:TaskOk t):CC t=some t:=by
  obtain ⟨h1,h2,h3,h4,h5,h6⟩:=h
  have hg:=DV h5
  unfold CC
  rw [Hs (by omega),Ar,Hs (by rw [h4.1];omega),Ar,Iw (by omega),Ar,Ar]
  rw [FH (fun k=>t.ops.take k) (by simp) (fun k o ho=>?_),Ar,Dj,List.take_length]
  have hk:=AC ho
  have hoo:=h6 k o ho
  have hp:=DV hoo.2.2.2.2.1
  rw [Iw (by omega),Ar]
  rw [FH (fun j=>o.effs.take j) (by simp) (fun j e he=>?_),Ar,Dj,List.take_length]
  · rw [CF (by rw [List.length_take,List.length_singleton];omega) (by rw [List.length_take,List.length_singleton];omega),Ar,List.take_add_one,ho];rfl
  · have hj:=AC he
    have hel:=hoo.2.2.1
    have hc:=DV (hoo.2.2.2.2.2 j e he).1
    rw [Iw (by omega),Ar,CF (by rw [List.length_take,List.length_singleton];omega) (by rw [List.length_take,List.length_singleton];omega),Ar,List.take_add_one,he];rfl
noncomputable def exIn (x1 i:Int):Suc→XI→Option (Ctl XI (Ctl XS XR)):=fun a228 s225=>bnd (Bh s225.2 a228.state) fun q263=>bnd (bnd (DX (⟨q263.2.2.1.n⟩:Err) (⟨10⟩:Err)) fun q283=>if q283=true then some true else if q263.2.1=true then (if (max 0 (min x1 65536))≤q263.1 then (some true) else (some false)) else (some false):Option Bool) fun y279=>if y279=true then (some (.ret (.ret (none,(⟨10⟩:Err))))) else (if q263.2.2.1.n≠0 then (some (.ret (.ret (none,(⟨q263.2.2.1.n⟩:Err))))) else (bnd (appI 24 s225.1 [(⟨i,a228.op,q263.1⟩:Edj)]) fun u304=>some (.next (u304,q263.2.2.2))))
noncomputable def exF (x0:Tsk) (x1:Int) (gen:Option Gnr):XS→Option (Ctl XS XR):=fun s105=>bnd (Bb s105.2.2.2) fun q130=>if s105.1 < q130 then (bnd (By s105.2.2.2 s105.1) fun q141=>if q141.2.n≠0 then (some (.ret (none,(⟨q141.2.n⟩:Err)))) else (bnd (bnd (Cc x0.goal q141.1) fun q163=>if q163=true then bnd (appI 1 s105.2.2.1 [true]) fun u195=>some u195 else bnd (appI 1 s105.2.2.1 [false]) fun u176=>some u176:Option (List Bool)) fun y157=>bnd (Bj gen q141.1) fun q212=>bnd (rng (ρ:=Ctl XS XR) (fun (_:Nat) (a228:Suc) (s225:XI)=>exIn x1 s105.1 a228 s225) q212 0 (s105.2.1,s105.2.2.2)) fun res223=>fin res223 fun (s321:XI)=>bnd (chkI (s105.1 + 1)) fun n323=>some (.next (n323,s321.1,y157,s321.2)))) else (some (.brk (s105.1,s105.2.1,s105.2.2.1,s105.2.2.2)))
noncomputable def exE (q74:Tsk):Fin XS XR→Option XR:=fun res103=>fin res103 fun (s330:XS)=>bnd (BI (⟨(⟨q74.vars,q74.init,q74.goal,q74.ops⟩:Tsk),s330.2.2.2,s330.2.1,s330.2.2.1,([]:List Int),([]:List Int),([]:List Int)⟩:Spa)) fun q341=>some ((some q341),(⟨0⟩:Err))
theorem Qs (x0:Tsk) (x1:Int):Cf x0 x1=bnd (DL x0) fun q25=>if q25.2.n≠0 then (some (none,(⟨q25.2.n⟩:Err))) else (bnd (CS x0.vars) fun q40=>if q40.2.n≠0 then (some (none,(⟨q40.2.n⟩:Err))) else (if (max 0 (min x1 65536)) < 1 then (some (none,(⟨10⟩:Err))) else (bnd q40.1 fun o54=>bnd (Bh o54 x0.init) fun q57=>if q57.2.2.1.n≠0 then (some (none,(⟨q57.2.2.1.n⟩:Err))) else (bnd (CC x0) fun q74=>bnd (lop (exF x0 x1 q25.1) (0,([]:List Edj),([]:List Bool),q57.2.2.2)) (exE q74))))):=rfl
def goalsL (t:Tsk) (L:List (List Int)):List Bool:=L.map (holdsB t.goal)
structure SpX (t:Tsk) (L:List (List Int)) (x:Spa):Prop where
  reg:RegI t.vars x.states L
  sp:SpaOk t L.length (edgL t L L.length) (goalsL t L) x
def outX (t:Tsk) (r:Option (List (List Int))) (x:XR):Prop:=match r with|none=>x=(none,⟨10⟩)|some L=>∃ s,x=(some s,⟨0⟩)∧SpX t L s
theorem Nq (t:Tsk) (s:List Int) (L:List (List Int)) (a b:List Nat):foldP t s L (a ++ b)=foldP t s (foldP t s L a) b:=by unfold foldP;rw [List.foldl_append]
theorem Kv (t:Tsk) (L:List (List Int)) (s:List Int) (i:Nat) (ks:List Nat) (k:Nat):edgK t L s i (ks ++ [k])=edgK t L s i ks ++ [⟨(i:Int),(k:Int),idxE L (sucN t s k)⟩]:=by unfold edgK;rw [List.map_append];rfl
theorem Qt {t:Tsk} (hs:Mid t) {x1:Int} {i:Nat} {L:List (List Int)} {s:List Int} (hb:BL t L) (hcl:CloL t i L) (hlim:(L.length:Int)≤limE x1) (hi:L[i]?=some s) {reg:Reg} (hr:RegI t.vars reg L) :
    (∃ st,rng (ρ:=Ctl XS XR) (fun (_:Nat) (a228:Suc) (s225:XI)=>exIn x1 (i:Int) a228 s225) ((appS t s).map (sucOf t s)) 0 (edgL t L i,reg)=some (.done st)∧st.1=edgL t (expL t s L t.ops.length) (i + 1)∧RegI t.vars st.2 (expL t s L t.ops.length)∧((expL t s L t.ops.length).length:Int)≤limE x1) ∨
    (rng (ρ:=Ctl XS XR) (fun (_:Nat) (a228:Suc) (s225:XI)=>exIn x1 (i:Int) a228 s225) ((appS t s).map (sucOf t s)) 0 (edgL t L i,reg)=some (.ret (.ret (none,⟨10⟩)))∧limE x1 < ((expL t s L t.ops.length).length:Int)):=by
  have hmem:=List.mem_of_getElem? hi
  have hsok:=hb.ok hs.ok hmem
  have hil:=AC hi
  have hf0:=hb.few hs
  have hap:(appS t s).map (sucOf t s)=(appN t s t.ops.length).map fun k:Nat=>(⟨(k:Int),sucN t s k⟩:Suc):=by
    rw [Ha hsok,Qp,List.map_map];rfl
  rw [hap]
  have hel:=Jn t L i
  have hib:i * t.ops.length≤600 * 80:=Nat.mul_le_mul (by omega) hs.ops
  rcases LR (ρ:=Ctl XS XR) (f:=fun (_:Nat) (a228:Suc) (s225:XI)=>exIn x1 (i:Int) a228 s225) (xs:=(appN t s t.ops.length).map fun k:Nat=>(⟨(k:Int),sucN t s k⟩:Suc)) (s₀:=(edgL t L i,reg))
    (fun j y=>y.1=edgL t L i ++ edgK t (foldP t s L ((appN t s t.ops.length).take j)) s i ((appN t s t.ops.length).take j)∧RegI t.vars y.2 (foldP t s L ((appN t s t.ops.length).take j))∧((foldP t s L ((appN t s t.ops.length).take j)).length:Int)≤limE x1)
    (fun r=>r=.ret (none,⟨10⟩)∧limE x1 < ((expL t s L t.ops.length).length:Int))
    ⟨by simp [edgK],by simpa [foldP] using hr,by simpa [foldP] using hlim⟩ (fun j a y hj hI=>by
      obtain ⟨y1,y2,y3⟩:=hI
      obtain ⟨es,reg'⟩:=y
      dsimp only at y1 y2 y3
      rw [List.getElem?_map] at hj
      obtain ⟨k,hk,rfl⟩:=Option.map_eq_some_iff.1 hj
      obtain ⟨hka,hkl⟩:=Gw (List.mem_of_getElem? hk)
      have hjl:=AC hk
      have hal:=Lo t s t.ops.length
      have hops:=hs.ops
      obtain ⟨A,hA⟩:=Ej t s ((appN t s t.ops.length).take j) L
      have hB:BL t (foldP t s L ((appN t s t.ops.length).take j)):=hb.fold hmem fun q hq=>(Gw (List.mem_of_mem_take hq)).1
      have hf:=hB.few hs
      obtain ⟨o,ho,hpre,hsu⟩:=Fj hka
      have hsk:StateOk t.vars (sucN t s k):=by rw [hsu];exact JV hs.ok hsok ho
      have hek:(edgK t (foldP t s L ((appN t s t.ops.length).take j)) s i ((appN t s t.ops.length).take j)).length≤j:=by unfold edgK;rw [List.length_map,List.length_take];omega
      have htk:(appN t s t.ops.length).take (j + 1)=(appN t s t.ops.length).take j ++ [k]:=by rw [List.take_add_one,hk];rfl
      have hlen:es.length≤60000:=by rw [y1,List.length_append];omega
      unfold exIn
      dsimp only
      rcases Kt hs.ok.1 y2 hsk (by omega) with ⟨q,hq,hadd⟩|⟨hno,r',hadd,hr',hlk⟩
      · have hq2:=List.mem_of_getElem? hq
        rw [hadd,Ar,show DX (⟨0⟩:Err) (⟨10⟩:Err)=some false from rfl,Ar]
        dsimp only
        rw [Di,Di,Ar,Di,if_neg (by simp),CF (by rw [List.length_singleton];omega) (by rw [List.length_singleton];omega),Ar]
        have hput:foldP t s L ((appN t s t.ops.length).take (j + 1))=foldP t s L ((appN t s t.ops.length).take j):=by
          rw [htk,JM];unfold putL;rw [if_pos hq2]
        refine .inl ⟨_,rfl,?_,?_,?_⟩
        · dsimp only
          rw [hput,htk,y1,List.append_assoc,Kv,Qq hB.nodup hq]
        · rw [hput];exact y2
        · rw [hput];exact y3
      · have hnm:¬ sucN t s k∈foldP t s L ((appN t s t.ops.length).take j):=fun hm=>by
          obtain ⟨q,hq⟩:=List.getElem?_of_mem hm
          exact hno q hq
        have hput:foldP t s L ((appN t s t.ops.length).take (j + 1))=foldP t s L ((appN t s t.ops.length).take j) ++ [sucN t s k]:=by
          rw [htk,JM];unfold putL;rw [if_neg hnm]
        rw [hadd,Ar,show DX (⟨0⟩:Err) (⟨10⟩:Err)=some false from rfl,Ar]
        dsimp only
        rw [Di,Ef]
        by_cases hfull:max 0 (min x1 65536)≤((foldP t s L ((appN t s t.ops.length).take j)).length:Int)
        · rw [if_pos hfull,Ar,Ef]
          refine .inr ⟨_,rfl,rfl,?_⟩
          have he:expL t s L t.ops.length=foldP t s (foldP t s L ((appN t s t.ops.length).take (j + 1))) ((appN t s t.ops.length).drop (j + 1)):=by
            rw [← Nq,List.take_append_drop];rfl
          obtain ⟨B,hB2⟩:=Ej t s ((appN t s t.ops.length).drop (j + 1)) (foldP t s L ((appN t s t.ops.length).take (j + 1)))
          rw [he,hB2,hput]
          unfold limE at *
          simp only [List.length_append,List.length_singleton]
          omega
        · rw [if_neg hfull,Ar,Di,if_neg (by simp),CF (by rw [List.length_singleton];omega) (by rw [List.length_singleton];omega),Ar]
          refine .inl ⟨_,rfl,?_,?_,?_⟩
          · dsimp only
            rw [hput,htk,y1,List.append_assoc,Kv,Og hnm,Ln fun q hq=>Iv t s _ L q hq]
          · rw [hput];exact hr'
          · rw [hput];unfold limE at *;simp only [List.length_append,List.length_singleton];omega) with ⟨st,h1,h2,h3,h4⟩|⟨r,h1,h2,h3⟩
  · rw [List.length_map,List.take_length] at h2 h3 h4
    refine .inl ⟨st,h1,?_,h3,h4⟩
    obtain ⟨A,hA⟩:=Ej t s (appN t s t.ops.length) L
    have e:expL t s L t.ops.length=L ++ A:=hA
    rw [h2,Ku (s:=s) (by rw [e,List.getElem?_append_left hil];exact hi),e,Oh (by omega) hcl,← hA]
  · rw [h2] at h1
    exact .inr ⟨h1,h3⟩
theorem Ol {α β:Type} (f:α→β) (L:List α) {i:Nat} {s:α} (h:L[i]?=some s):(L.take (i + 1)).map f=(L.take i).map f ++ [f s]:=by rw [List.take_add_one,h,List.map_append];rfl
theorem QV {t:Tsk} (hs:Mid t) {x1:Int} {i:Nat} {L:List (List Int)} {r:Option (List (List Int))} (h:Bx t (limE x1) i L r):BL t L→CloL t i L→i≤L.length→(L.length:Int)≤limE x1→∀ reg,RegI t.vars reg L→∃ x,bnd (lop (exF t x1 (some ⟨t⟩)) ((i:Int),edgL t L i,(L.take i).map (holdsB t.goal),reg)) (exE t)=some x∧outX t r x:=by
  induction h with
  | @full i L h1=>intro _ _ _ h2;omega
  | @done i L h1 h2 =>
    intro hb hc hil _ reg hr
    have hf:=hb.few hs
    obtain rfl:i=L.length:=by omega
    have hE:EndL t (limE x1) L:=⟨hb,hc,h1⟩
    have hlen:Bb reg=some (L.length:Int):=by rw [← hr.len];rfl
    rw [Fp]
    unfold exF
    dsimp only
    rw [hlen,Ar,if_neg (by omega)]
    dsimp only
    rw [Ar]
    unfold exE
    rw [Dj,List.take_length]
    have hl0:=AC hb.root
    obtain ⟨x,m1,m2,m3⟩:=Mz hs.ok hf hl0 (x:=⟨⟨t.vars,t.init,t.goal,t.ops⟩,reg,edgL t L L.length,L.map (holdsB t.goal),[],[],[]⟩) rfl hr.len (hE.edges hs) (by simp)
    rw [m1,Ar]
    exact ⟨_,rfl,x,rfl,by rw [m2];exact hr,m3⟩
  | @step i L s r h1 h2 hx ih =>
    intro hb hc hil hlim reg hr
    have hf:=hb.few hs
    have hlt:=AC h2
    have hmem:=List.mem_of_getElem? h2
    have hsok:=hb.ok hs.ok hmem
    have hlen:Bb reg=some (L.length:Int):=by rw [← hr.len];rfl
    have hg:(bnd (Cc t.goal s) fun q163=>if q163=true then bnd (appI 1 ((L.take i).map (holdsB t.goal)) [true]) fun u195=>some u195 else bnd (appI 1 ((L.take i).map (holdsB t.goal)) [false]) fun u176=>some u176)=some ((L.take (i + 1)).map (holdsB t.goal)):=by
      rw [show Cc t.goal s=some (holdsB t.goal s) from rfl,Ar,Ol _ L h2]
      cases holdsB t.goal s with
      | true=>rw [Ef,CF (by rw [List.length_map,List.length_take,List.length_singleton];omega) (by rw [List.length_map,List.length_take,List.length_singleton];omega),Ar]
      | false=>rw [Di,CF (by rw [List.length_map,List.length_take,List.length_singleton];omega) (by rw [List.length_map,List.length_take,List.length_singleton];omega),Ar]
    rw [Fp]
    unfold exF
    dsimp only
    rw [hlen,Ar,if_pos (by omega),LE hs.ok.1 hr h2,Ar,if_neg (by simp)]
    dsimp only
    rw [hg,Ar,Pb hs.ok (by rw [hsok.1];have:=hs.ok.1;omega),Ar]
    rcases Qt hs hb hc hlim h2 hr with ⟨st,e1,e2,e3,e4⟩|⟨e1,e2⟩
    · rw [e1,Ar,Dj,Cm (by unfold inI64;omega),Ar]
      dsimp only
      obtain ⟨A,hA⟩:=Ej t s (appN t s t.ops.length) L
      have e:expL t s L t.ops.length=L ++ A:=hA
      have hb2:=hb.exp hmem t.ops.length
      have hc2:=hc.exp h2
      have:=ih hb2 hc2 (by rw [e,List.length_append];omega) e4 st.2 e3
      rw [e2]
      rw [e,List.take_append_of_le_length (by omega)] at this
      rw [e]
      exact this
    · rw [e1,Ar,QJ]
      dsimp only
      rw [Ar]
      cases hx with
      | full _=>exact ⟨_,rfl,rfl⟩
      | done h3 _=>omega
      | step h3 _ _=>omega
theorem MB {t:Tsk} (hs:Mid t) (lim:Int) {r:Option (List (List Int))} (h:Bx t (limE lim) 0 [t.init] r):∃ x,Cf t lim=some x∧outX t r x:=by
  have hok:=hs.ok
  obtain ⟨q,hq,reg,rfl,hr,hlk⟩:=Nk hok.1 hok.2.2.1
  rw [Qs,MW hok,Ar,if_neg (by simp),hq,Ar,if_neg (by simp)]
  dsimp only
  by_cases hl:limE lim < 1
  · unfold limE at hl
    rw [if_pos hl]
    cases h with
    | full _=>exact ⟨_,rfl,rfl⟩
    | done h3 _=>unfold limE at h3;simp at h3;omega
    | step h3 _ _=>unfold limE at h3;simp at h3;omega
  · have hl':=hl
    unfold limE at hl
    rw [if_neg hl,Ar]
    rcases Kt hok.1 hr hok.2.2.2.1 (by simp) with ⟨i,hi,_⟩|⟨_,r',hadd,hr',_⟩
    · simp at hi
    · rw [hadd,Ar,if_neg (by simp),Np hok,Ar]
      exact QV hs h (Hf t) (fun j s k hj=>by omega) (by simp) (by simp;omega) r' hr'
theorem LF {t:Tsk} (hs:SmallOk t) {lim:Int} (hl:512≤limE lim):∃ L x,Cf t lim=some (some x,⟨0⟩)∧SpX t L x∧EndL t (limE lim) L∧FI t lim=some (L,true):=by
  obtain ⟨r,y,h1,h2,h3⟩:=Lp hs.mid lim
  obtain ⟨x,e1,e2⟩:=MB hs.mid lim h1
  have key:∀ {i:Nat} {L:List (List Int)} {r:Option (List (List Int))},Bx t (limE lim) i L r→BL t L→r≠none:=fun h=>by
    induction h with
    | @full i L h=>intro hb;have:=hb.many hs.ok;have:=hs.many;omega
    | done _ _=>intro _ h;cases h
    | @step i L s r _ h2 _ ih=>intro hb;exact ih (hb.exp (List.mem_of_getElem? h2) _)
  cases r with
  | none=>exact (key h1 (Hf t) rfl).elim
  | some L =>
    obtain ⟨s,rfl,hs2⟩:=e2
    refine ⟨L,s,e1,hs2,h1.ends (Hf t) (fun j s k hj=>by omega) L rfl,?_⟩
    rw [h2]
    exact congrArg some h3
end
end Go.Proofs.YtkbmbcblgdgjlaaGreat

/- Own text: what the proof of exploreEdges_holds uses, part 4: rules, models and their proofs, plain laws. -/
import Derived.Test.YtkbmbcblgdgjlaaGreatEEC
set_option linter.unusedVariables false
set_option linter.unusedSimpArgs false
namespace Go.Proofs.YtkbmbcblgdgjlaaGreat
open Go Go.RowKit
section
open Go Go.RowKit
attribute [local irreducible] ewp owp hwp hwq hws Ev Evg Fn retPost loud loudS Res1
attribute [local irreducible] hwx loudX
structure Arc where
  src:Int
  dst:Int
  weight:Int
instance:Rp Arc where
  isAgg:=true
  size:=3
  R w F cs x:=cs=[.int .i64 x.src,.int .i64 x.dst,.int .i64 x.weight]∧inI64 x.src∧inI64 x.dst∧inI64 x.weight
  len:=by rintro w F cs x ⟨rfl,h0,h1,h2⟩;rfl
  one:=by rintro w F cs x ⟨rfl,h0,h1,h2⟩ u hu;simp at hu;rcases hu with rfl|rfl|rfl<;>first|rfl|exact Vb.one rfl (by assumption)
  agree:=by rintro w w' F cs x ⟨rfl,h0,h1,h2⟩ ha;exact ⟨rfl,h0,h1,h2⟩
  mono:=by rintro w F G cs x ⟨rfl,h0,h1,h2⟩ ha;exact ⟨rfl,h0,h1,h2⟩
structure Edj where
  src:Int
  label:Int
  dst:Int
instance:Rp Edj where
  isAgg:=true
  size:=3
  R w F cs x:=cs=[.int .i64 x.src,.int .i64 x.label,.int .i64 x.dst]∧inI64 x.src∧inI64 x.label∧inI64 x.dst
  len:=by rintro w F cs x ⟨rfl,h0,h1,h2⟩;rfl
  one:=by rintro w F cs x ⟨rfl,h0,h1,h2⟩ u hu;simp at hu;rcases hu with rfl|rfl|rfl<;>first|rfl|exact Vb.one rfl (by assumption)
  agree:=by rintro w w' F cs x ⟨rfl,h0,h1,h2⟩ ha;exact ⟨rfl,h0,h1,h2⟩
  mono:=by rintro w F G cs x ⟨rfl,h0,h1,h2⟩ ha;exact ⟨rfl,h0,h1,h2⟩
def Cm (xs:List Edj):Option (List Edj):=if xs.length * 24≤140737488355328∧xs.length≤9223372036854775807 then some xs else none
theorem Cn {w:World} {A:Nat→Prop} (hA:∀ k,A k→k < w.heap.size) {v0:Value} {x0:List Edj} (h0:Vb w A v0 x0) {r:List Edj} (hm:Cm x0=some r) :
    Fn Tryz.prog 68 [v0] w fun v w'=>Ext w w'∧RowR w w' (upA A w w') 94 v r:=by
  obtain ⟨⟨hl,a0⟩,rfl⟩:=DX hm
  obtain ⟨O,hB,b0⟩:=enter hA
  replace h0:=h0.mono b0
  obtain ⟨Ad,c,rfl⟩:=h0.form
  refine AI Tryz.func68 rfl Tryz.ntmps68 rfl ?_
  cases Ad with
  | none =>
    have hx:x0=[]:=by
      cases x0 with
      | nil=>rfl
      | cons x xs=>obtain ⟨_,_,_,h,_⟩:=h0.elem (k:=0) (x:=x) rfl;cases h
    subst hx
    ((repeat (first|refine An ?_|refine Ah rfl ?_|refine Ae rfl ?_))<;>(refine Ar rfl rfl ?_<;>(refine o_z ?_))<;>(repeat (first|refine An ?_|refine Ah rfl ?_|refine Ae rfl ?_))<;>(refine Am rfl rfl ?_<;>refine Ft rfl rfl ?_<;>(refine o_z ?_))<;>(repeat (first|refine An ?_|refine Ah rfl ?_|refine Ae rfl ?_))<;>(refine Ar rfl rfl ?_<;>(refine o_z ?_))<;>(repeat (first|refine An ?_|refine Ah rfl ?_|refine Ae rfl ?_)))
    exact ret1 rfl rfl ⟨Below.refl _ _,RowR.nil⟩
  | some ad =>
    ((repeat (first|refine An ?_|refine Ah rfl ?_|refine Ae rfl ?_))<;>(refine Ar rfl rfl ?_<;>(refine o_z ?_))<;>(repeat (first|refine An ?_|refine Ah rfl ?_|refine Ae rfl ?_))<;>(refine Am rfl rfl ?_<;>refine Ft rfl rfl ?_<;>(refine o_z ?_))<;>(repeat (first|refine An ?_|refine Ah rfl ?_|refine Ae rfl ?_)))
    refine BX 2 (by decide) O (xs:=([]:List Edj)) rfl rfl rfl rfl trivial (by decide) (by decide) rfl fun g w1 O1 S1 h1=>?_
    replace hB:=hB.st S1 (fun h=>h) (fun h=>h)
    replace h0:=h0.st S1 (fun h=>h)
    (refine Am rfl rfl ?_)
    refine CH rfl h1 h0.rd rfl rfl (by decide) (by simpa using hl) (by simpa using a0) rfl fun A2 c2 w2 O2 S2 h2=>?_
    replace hB:=hB.st S2 (by decide) (by decide)
    rw [List.nil_append] at h2 ⊢
    (refine Ar rfl rfl ?_<;>(refine o_z ?_))
    repeat (first|refine An ?_|refine Ah rfl ?_|refine Ae rfl ?_)
    exact ret1 rfl rfl ⟨hB.ext,h2.out hB (by decide)⟩
def Dx (xs:List Bool):Option (List Bool):=if xs.length * 1≤140737488355328∧xs.length≤9223372036854775807 then some xs else none
theorem CW {w:World} {A:Nat→Prop} (hA:∀ k,A k→k < w.heap.size) {v0:Value} {x0:List Bool} (h0:Vb w A v0 x0) {r:List Bool} (hm:Dx x0=some r) :
    Fn Tryz.prog 69 [v0] w fun v w'=>Ext w w'∧RowR w w' (upA A w w') 4 v r:=by
  obtain ⟨⟨hl,a0⟩,rfl⟩:=DX hm
  obtain ⟨O,hB,b0⟩:=enter hA
  replace h0:=h0.mono b0
  obtain ⟨Ad,c,rfl⟩:=h0.form
  refine AI Tryz.func69 rfl Tryz.ntmps69 rfl ?_
  cases Ad with
  | none =>
    have hx:x0=[]:=by
      cases x0 with
      | nil=>rfl
      | cons x xs=>obtain ⟨_,_,_,h,_⟩:=h0.elem (k:=0) (x:=x) rfl;cases h
    subst hx
    ((repeat (first|refine An ?_|refine Ah rfl ?_|refine Ae rfl ?_))<;>(refine Ar rfl rfl ?_<;>(refine o_z ?_))<;>(repeat (first|refine An ?_|refine Ah rfl ?_|refine Ae rfl ?_))<;>(refine Am rfl rfl ?_<;>refine Ft rfl rfl ?_<;>(refine o_z ?_))<;>(repeat (first|refine An ?_|refine Ah rfl ?_|refine Ae rfl ?_))<;>(refine Ar rfl rfl ?_<;>(refine o_z ?_))<;>(repeat (first|refine An ?_|refine Ah rfl ?_|refine Ae rfl ?_)))
    exact ret1 rfl rfl ⟨Below.refl _ _,RowR.nil⟩
  | some ad =>
    ((repeat (first|refine An ?_|refine Ah rfl ?_|refine Ae rfl ?_))<;>(refine Ar rfl rfl ?_<;>(refine o_z ?_))<;>(repeat (first|refine An ?_|refine Ah rfl ?_|refine Ae rfl ?_))<;>(refine Am rfl rfl ?_<;>refine Ft rfl rfl ?_<;>(refine o_z ?_))<;>(repeat (first|refine An ?_|refine Ah rfl ?_|refine Ae rfl ?_)))
    refine BX 2 (by decide) O (xs:=([]:List Bool)) rfl rfl rfl rfl trivial (by decide) (by decide) rfl fun g w1 O1 S1 h1=>?_
    replace hB:=hB.st S1 (fun h=>h) (fun h=>h)
    replace h0:=h0.st S1 (fun h=>h)
    (refine Am rfl rfl ?_)
    refine CH rfl h1 h0.rd rfl rfl (by decide) (by simpa using hl) (by simpa using a0) rfl fun A2 c2 w2 O2 S2 h2=>?_
    replace hB:=hB.st S2 (by decide) (by decide)
    rw [List.nil_append] at h2 ⊢
    (refine Ar rfl rfl ?_<;>(refine o_z ?_))
    repeat (first|refine An ?_|refine Ah rfl ?_|refine Ae rfl ?_)
    exact ret1 rfl rfl ⟨hB.ext,h2.out hB (by decide)⟩
structure Spa where
  t:Tsk
  states:Reg
  edges:List Edj
  goals:List Bool
  costs:List Int
  distances:List Int
  steps:List Int
instance:Ow Spa where
  R w F M v x:=∃ (g:Nat) (L:Lab) (c0 c1 c2 c3 c4 c5 c6 c7 c8 c9:Value),v=.pointer (some ⟨g,0,none⟩)∧Blk w g 87 [c0,c1,c2,c3,c4,c5,c6,c7,c8,c9]∧M g∧L g=0∧Vb w F c0 x.t.vars∧Vb w F c1 x.t.init∧Vb w F c2 x.t.goal∧Vb w F c3 x.t.ops∧Ow.R w F (fun k=>M k∧L k=1) c4 x.states∧Vb w F c5 x.edges∧Vb w F c6 x.goals∧Vb w F c7 x.costs∧Vb w F c8 x.distances∧Vb w F c9 x.steps
  agree:=by rintro w w' F M v x ⟨g,L,c0,c1,c2,c3,c4,c5,c6,c7,c8,c9,rfl,hb,hM,hL,h0,h1,h2,h3,h4,h5,h6,h7,h8,h9⟩ a1 a2;exact ⟨g,L,c0,c1,c2,c3,c4,c5,c6,c7,c8,c9,rfl,hb.keep (a2 g hM),hM,hL,h0.agree a1,h1.agree a1,h2.agree a1,h3.agree a1,Ow.agree h4 a1 fun k hk=>a2 k hk.1,h5.agree a1,h6.agree a1,h7.agree a1,h8.agree a1,h9.agree a1⟩
  mono:=by rintro w F M F' M' v x ⟨g,L,c0,c1,c2,c3,c4,c5,c6,c7,c8,c9,rfl,hb,hM,hL,h0,h1,h2,h3,h4,h5,h6,h7,h8,h9⟩ a1 a2 a3;exact ⟨g,L,c0,c1,c2,c3,c4,c5,c6,c7,c8,c9,rfl,hb,a2 g hM,hL,h0.mono a1,h1.mono a1,h2.mono a1,h3.mono a1,Ow.mono h4 a1 (fun k hk=>⟨a2 k hk.1,hk.2⟩) fun k hf hm=>a3 k hf hm.1,h5.mono a1,h6.mono a1,h7.mono a1,h8.mono a1,h9.mono a1⟩
instance:OwP Spa:=⟨by rintro w F M v x ⟨g,L,c0,c1,c2,c3,c4,c5,c6,c7,c8,c9,rfl,_⟩;exact ⟨g,rfl⟩⟩
theorem Spa.opn {i:Nat} {w:World} {O:Lab} {p:Nat} {x:Spa} (h:Ob i w O (.pointer (some ⟨p,0,none⟩)) x) (l0 l1:Nat) (hl:l0≠0∧l1≠0):∃ (O':Lab) (c0 c1 c2 c3 c4 c5 c6 c7 c8 c9:Value),St (eT i) w O w O'∧(∀ k,Fr i w O k→∃ q,q∈[l0,l1]∧Fr q w O' k)∧Lc l0 w O' p 87 [c0,c1,c2,c3,c4,c5,c6,c7,c8,c9]∧Vb w (Fr 0 w O') c0 x.t.vars∧Vb w (Fr 0 w O') c1 x.t.init∧Vb w (Fr 0 w O') c2 x.t.goal∧Vb w (Fr 0 w O') c3 x.t.ops∧Ob l1 w O' c4 x.states∧Vb w (Fr 0 w O') c5 x.edges∧Vb w (Fr 0 w O') c6 x.goals∧Vb w (Fr 0 w O') c7 x.costs∧Vb w (Fr 0 w O') c8 x.distances∧Vb w (Fr 0 w O') c9 x.steps:=by
  obtain ⟨⟨g,L,c0,c1,c2,c3,c4,c5,c6,c7,c8,c9,hv,hb,hM,hL,h0,h1,h2,h3,h4,h5,h6,h7,h8,h9⟩,hi⟩:=h
  obtain rfl:p=g:=by injection hv with hv;injection hv with hv;injection hv
  exact ⟨part O i L [l0,l1],c0,c1,c2,c3,c4,c5,c6,c7,c8,c9,IQ hi,Hv (by simp),⟨hb,(ED (j:=0) rfl p ⟨hM,hL⟩).2⟩,h0.mono (CQ hi),h1.mono (CQ hi),h2.mono (CQ hi),h3.mono (CQ hi),⟨Ow.mono h4 (CQ hi) (ED (j:=1) rfl) (frNe0 hl.2),hl.2⟩,h5.mono (CQ hi),h6.mono (CQ hi),h7.mono (CQ hi),h8.mono (CQ hi),h9.mono (CQ hi)⟩
theorem Spa.shut {w:World} {O:Lab} {p:Nat} {x:Spa} {l0 l1:Nat} {c0 c1 c2 c3 c4 c5 c6 c7 c8 c9:Value} (hd:¬ 0∈[l0,l1]∧[l0,l1].idxOf l0=0∧[l0,l1].idxOf l1=1) (hb:Lc l0 w O p 87 [c0,c1,c2,c3,c4,c5,c6,c7,c8,c9]) (h0:Vb w (Fr 0 w O) c0 x.t.vars) (h1:Vb w (Fr 0 w O) c1 x.t.init) (h2:Vb w (Fr 0 w O) c2 x.t.goal) (h3:Vb w (Fr 0 w O) c3 x.t.ops) (h4:Ob l1 w O c4 x.states) (h5:Vb w (Fr 0 w O) c5 x.edges) (h6:Vb w (Fr 0 w O) c6 x.goals) (h7:Vb w (Fr 0 w O) c7 x.costs) (h8:Vb w (Fr 0 w O) c8 x.distances) (h9:Vb w (Fr 0 w O) c9 x.steps):∃ O',St (·∈[l0,l1]) w O w O'∧(∀ k,Fr 0 w O k→Fr 0 w O' k)∧(∀ q,q∈[l0,l1]→∀ k,Fr q w O k→Fr l0 w O' k)∧Ob l0 w O' (.pointer (some ⟨p,0,none⟩)) x:=by
  have hb1:l0≠0:=fun e=>hd.1 (by simp [e])
  have hg:=Ea (i:=l0) hd.2.1 (by simp) p ⟨hb.1.lt,hb.2⟩
  exact ⟨whole O l0 [l0,l1],Hw,Ca hd.1,GQ,⟨p,fun k=>[l0,l1].idxOf (O k),c0,c1,c2,c3,c4,c5,c6,c7,c8,c9,rfl,hb.1,hg.1,hg.2,h0.mono (Ca hd.1),h1.mono (Ca hd.1),h2.mono (Ca hd.1),h3.mono (Ca hd.1),Ow.mono h4.1 (Ca hd.1) (Ea hd.2.2 (by simp)) (fun k a b=>frNe0 hb1 k a b.1),h5.mono (Ca hd.1),h6.mono (Ca hd.1),h7.mono (Ca hd.1),h8.mono (Ca hd.1),h9.mono (Ca hd.1)⟩,hb1⟩
def Eb (x y:Err):Option Bool:=if x.n=0∧y.n≠0 then some false else none
def Dr (_:List (List Arc)) (_ _:List Int):Option (List Int×List Int):=none
theorem IV {w:World} {A:Nat→Prop} (hA:∀ k,A k→k < w.heap.size) {vx0:Value} {x0:List (List Arc)} (a0:Vb w A vx0 x0) {vx1:Value} {x1:List Int} (b0:Vb w A vx1 x1) {vx2:Value} {x2:List Int} (c0:Vb w A vx2 x2) {r:List Int×List Int} (hm:Dr x0 x1 x2=some r) :
    Fn Tryz.prog 96 [vx0,vx1,vx2] w fun v w'=>Ext w w'∧T2 w' (upA A w w') v r:=by cases hm
noncomputable def AW (x0:Reg):Option Int :=
  some (x0.entries.length:Int)
theorem DM {w:World} {O:Lab} {p0 i0:Nat} {x0:Reg} (a0:Ob i0 w O (.pointer (some ⟨p0,0,none⟩)) x0) {r:Int} (hm:AW x0=some r) :
    Fn Tryz.prog 46 [(.pointer (some ⟨p0,0,none⟩))] w fun v w'=>∃ O',St (eT i0) w O w' O'∧Ob i0 w' O' (.pointer (some ⟨p0,0,none⟩)) x0∧Vb w' (Fr 0 w' O') v r:=by
 obtain ⟨O0,hE,d0,e0⟩:=ent1 (w:=w) (O:=O) a0.2
 have a0':=Ob.leave a0 d0 e0 (j:=2) (by decide)
 have hB:Bm w O0 w O0:=Bm.refl
 refine AI Tryz.func46 rfl Tryz.ntmps46 rfl ?_
 unfold AW at hm
 refine Al (Aj (Ar rfl rfl (o_z ?_)))
 refine Al (Al (Aj (Am rfl rfl (Ep rfl rfl ?_))))
 refine o_z ?_
 refine Ae rfl (AJ (Al (Aj (Am rfl rfl (BK rfl rfl ?_)))))
 obtain ⟨O2,v6,v9,n0,S3,o0,h4,h7,b0,c0⟩:=Reg.opn a0' 2 3 4 5 (by decide)
 obtain ⟨p8,rfl⟩:=h7.ptr
 obtain ⟨q0,r0,rfl⟩:=b0.form
 obtain ⟨s0,rfl⟩:=c0.mptr
 refine AF rfl rfl (AE (hc:=Blk.cell (i:=1) (h4.1) rfl) rfl rfl ?_)
 refine AN rfl rfl ?_
 have f0:x0.entries.length≤9223372036854775807:=Nat.le_trans b0.len.2.1 b0.len.2.2
 have g0:inI64 (x0.entries.length:Int):=rngNat f0
 refine Ar rfl rfl (o_z ?_)
 refine AK ?_
 obtain ⟨t0,h0,j0,k0,m0⟩:=Reg.shut (x:=x0) (l0:=2) (l1:=3) (l2:=4) (l3:=5) (by decide) h4 h7 b0 c0
 obtain rfl:=sm hm
 replace hB:=(hB.st S3).st h0
 obtain ⟨O',hS',hz,hl⟩:=hE.leave (fun q=>if q=2 then i0 else 0) rfl hB
 exact ret1v rfl (AB rfl) ⟨O',hS',(Ob.leave m0 hz (hl 2 (by decide) (by decide)) a0.2),(vInt g0)⟩
noncomputable def CC (x0:Tsk):Option Tsk :=
  bnd (BH x0.vars) fun q29=>bnd (BH x0.init) fun q31=>bnd (Bd x0.goal) fun q33=>bnd (some (q29,q31,q33):Option ((List Int)×(List Int)×(List Fct))) fun y35=>bnd (rng (ρ:=Tsk) (fun (k156:Nat) (a157:Opr) (s154:(List Opr))=>bnd (Bd a157.pre) fun q195=>bnd (rng (ρ:=Ctl (List Opr) Tsk) (fun (k213:Nat) (a214:Eff) (s211:(List Eff))=>bnd (Bd a214.cond) fun q248=>bnd (appI 40 s211 [(⟨q248,a214.var,a214.val⟩:Eff)]) fun u262=>some (.next u262)) a157.effs 0 ([]:List Eff)) fun res209=>fin res209 fun (s278:(List Eff))=>bnd (appI 72 s154 [(⟨a157.name,a157.cost,q195,s278⟩:Opr)]) fun u286=>some (.next u286)) x0.ops 0 ([]:List Opr)) fun res152=>fin res152 fun (s304:(List Opr))=>some (⟨y35.1,y35.2.1,y35.2.2,s304⟩:Tsk)
theorem Jw {w:World} {A:Nat→Prop} (hA:∀ k,A k→k < w.heap.size) {vx0:Value} {x0:Tsk} (n5:Vb w A vx0 x0) {r:Tsk} (hm:CC x0=some r) :
    Fn Tryz.prog 45 [vx0] w fun v w'=>Ext w w'∧Vb w' (upA A w w') v r:=by
 obtain ⟨O,hB,h8⟩:=enter hA
 replace n5:=n5.mono h8
 obtain ⟨gA,rfl,v3,v4,v5,v6,rfl,h7,u1,q1,t0⟩:=n5
 obtain ⟨A8,c9,rfl⟩:=h7.form
 obtain ⟨o5,p5,rfl⟩:=u1.form
 obtain ⟨q5,r5,rfl⟩:=q1.form
 obtain ⟨w2,x2,rfl⟩:=t0.form
 refine AI Tryz.func45 rfl Tryz.ntmps45 rfl ?_
 unfold CC at hm
 refine Al (Aj (EJ 2 O rfl rfl fun s5 i8 r7 j1 y1=>?_))
 replace y1:Lc 2 i8 r7 s5 26 [(.slice A8 x0.vars.length c9),(.slice o5 x0.init.length p5),(.slice q5 x0.goal.length r5),(.slice w2 x0.ops.length x2)]:=y1
 refine Cq 3 r7 rfl fun i2 iA t5 z0 n0=>?_
 refine o_z ?_
 refine Al ?_
 obtain ⟨d5,s7,hm⟩:=bs hm
 obtain ⟨e5,u5,hm⟩:=bs hm
 obtain ⟨f5,g5,hm⟩:=bs hm
 obtain ⟨b0,y2,hm⟩:=bs hm
 refine AM (fun l' w'=>∃ (a0:Nat×(Option Addr×Nat)×(Option Addr×Nat)×(Option Addr×Nat)) (O':Lab),subs l' [(1,(.pointer (some ⟨s5,0,none⟩))),(2,(.pointer (some ⟨i2,0,none⟩))),(3,(.pointer (some ⟨a0.1,0,none⟩)))]∧Bs w A w' O'∧Lc 2 w' O' s5 26 [(.slice A8 x0.vars.length c9),(.slice o5 x0.init.length p5),(.slice q5 x0.goal.length r5),(.slice w2 x0.ops.length x2)]∧Vb w' (Fr 0 w' O') (.slice A8 x0.vars.length c9) x0.vars∧Vb w' (Fr 0 w' O') (.slice o5 x0.init.length p5) x0.init∧Vb w' (Fr 0 w' O') (.slice q5 x0.goal.length r5) x0.goal∧Vb w' (Fr 0 w' O') (.slice w2 x0.ops.length x2) x0.ops∧Lc 3 w' O' i2 26 [(.slice none 0 0),(.slice none 0 0),(.slice none 0 0),(.slice none 0 0)]∧Lc 7 w' O' a0.1 26 [(.slice a0.2.1.1 b0.1.length a0.2.1.2),(.slice a0.2.2.1.1 b0.2.1.length a0.2.2.1.2),(.slice a0.2.2.2.1 b0.2.2.length a0.2.2.2.2),(.slice none 0 0)]∧Rw 4 w' O' 3 (.slice a0.2.1.1 b0.1.length a0.2.1.2) b0.1∧Rw 5 w' O' 3 (.slice a0.2.2.1.1 b0.2.1.length a0.2.2.1.2) b0.2.1∧Rw 6 w' O' 123 (.slice a0.2.2.2.1 b0.2.2.length a0.2.2.2.2) b0.2.2) ?_ ?_
 ·
  refine Bt [] t5 ?_
  refine AT (fuel:=6) [] [(0,true),(1,true),(3,true),(4,true),(6,true),(7,true)] (by kernel_rfl) rfl ?_
  refine AR rfl rfl rfl ?_
  replace y1:=y1.st z0
  refine AS (hc:=fun w' ⟨O',hq⟩=>Blk.cell (i:=0) ((y1.st hq (by decide)).1) rfl) rfl rfl rfl ?_
  refine AR rfl rfl rfl (AS (hc:=fun w' ⟨O',hq⟩=>Blk.cell (i:=1) ((y1.st hq (by decide)).1) rfl) rfl rfl rfl ?_)
  refine AR rfl rfl rfl (AS (hc:=fun w' ⟨O',hq⟩=>Blk.cell (i:=2) ((y1.st hq (by decide)).1) rfl) rfl rfl rfl ?_)
  refine AG ?_
  refine GR (i:=2) (j:=10) (by kernel_rfl) rfl rfl ?_ ?_
  ·
   replace h7:=(h7.st j1).st z0
   refine BG 4 (by decide) (O:=t5) (Cr Fr.lt h7 s7) rfl rfl fun r3 s3 jA t7 k1 w5=>?_
   have hZ:=k1.lst [] (fun _ h=>h.elim)
   refine Bg [] hZ (by kernel_rfl) ?_
   refine GR (i:=5) (j:=10) (by kernel_rfl) rfl rfl ?_ ?_
   ·
    replace u1:=((u1.st j1).st z0).st k1
    refine BG 5 (by decide) (O:=t7) (Cr Fr.lt u1 u5) rfl rfl fun h5 i5 kA u7 v1 v7=>?_
    have hZ:=v1.lst [] (fun _ h=>h.elim)
    refine Bg [] hZ (by kernel_rfl) ?_
    refine GR (i:=8) (j:=10) (by kernel_rfl) rfl rfl ?_ ?_
    ·
     replace q1:=(((q1.st j1).st z0).st k1).st v1
     refine BG 6 (by decide) (O:=u7) (Bv Fr.lt q1 g5) rfl rfl fun w7 x7 lA j8 r2 k8=>?_
     have hZ:=r2.lst [] (fun _ h=>h.elim)
     refine Bg [] hZ (by kernel_rfl) ?_
     refine AT (fuel:=2) [] [(9,true)] (by kernel_rfl) rfl ?_
     refine Fu rfl rfl rfl rfl ?_
     refine AG ?_
     refine AV (i:=10) (by kernel_rfl) rfl ?_
     refine Cq 7 j8 rfl fun y7 mA l8 j2 t3=>?_
     have hZ:=j2.lst [] (fun _ h=>h.elim)
     refine Bg [] hZ (by kernel_rfl) ?_
     refine AV (i:=11) (by kernel_rfl) rfl ?_
     refine Bf t3 rfl rfl rfl (BO rfl) (allOne rfl) fun m8 s2 t3=>?_
     replace t3:Lc 7 m8 l8 y7 26 [(.slice r3 d5.length s3),(.slice h5 e5.length i5),(.slice w7 f5.length x7),(.slice none 0 0)]:=t3
     refine Di (by kernel_rfl) ?_
     refine BC (by kernel_rfl) ?_
     obtain rfl:=sm y2
     exact ⟨(y7,(r3,s3),(h5,i5),(w7,x7)),_,⟨rfl,rfl,rfl,trivial⟩,((((((hB.st j1).st z0).st k1).st v1).st r2).st j2).st s2,((((y1.st k1).st v1).st r2).st j2).st s2,((((h7.st k1).st v1).st r2).st j2).st s2,(((u1.st v1).st r2).st j2).st s2,((q1.st r2).st j2).st s2,((((((t0.st j1).st z0).st k1).st v1).st r2).st j2).st s2,((((n0.st k1).st v1).st r2).st j2).st s2,t3,(((w5.st v1).st r2).st j2).st s2,((v7.st r2).st j2).st s2,(k8.st j2).st s2⟩
    refine Cq 7 u7 rfl fun z7 nA n8 t2 i3=>?_
    have hZ:=t2.lst [] (fun _ h=>h.elim)
    refine Bg [] hZ (by kernel_rfl) ?_
    refine AV (i:=8) (by kernel_rfl) rfl ?_
    replace q1:=((((q1.st j1).st z0).st k1).st v1).st t2
    refine BG 6 (by decide) (O:=n8) (Bv Fr.lt q1 g5) rfl rfl fun a8 b8 oA o8 k2 p8=>?_
    have hZ:=k2.lst [] (fun _ h=>h.elim)
    refine Bg [] hZ (by kernel_rfl) ?_
    refine AT (fuel:=1) [] [(9,true)] (by kernel_rfl) rfl ?_
    refine Fu rfl rfl rfl rfl ?_
    refine AG ?_
    refine AV (i:=11) (by kernel_rfl) rfl ?_
    replace i3:=i3.st k2
    refine Bf i3 rfl rfl rfl (BO rfl) (allOne rfl) fun q8 u2 i3=>?_
    replace i3:Lc 7 q8 o8 z7 26 [(.slice r3 d5.length s3),(.slice h5 e5.length i5),(.slice a8 f5.length b8),(.slice none 0 0)]:=i3
    refine Di (by kernel_rfl) ?_
    refine BC (by kernel_rfl) ?_
    obtain rfl:=sm y2
    exact ⟨(z7,(r3,s3),(h5,i5),(a8,b8)),_,⟨rfl,rfl,rfl,trivial⟩,((((((hB.st j1).st z0).st k1).st v1).st t2).st k2).st u2,((((y1.st k1).st v1).st t2).st k2).st u2,((((h7.st k1).st v1).st t2).st k2).st u2,(((u1.st v1).st t2).st k2).st u2,(q1.st k2).st u2,((((((t0.st j1).st z0).st k1).st v1).st t2).st k2).st u2,((((n0.st k1).st v1).st t2).st k2).st u2,i3,(((w5.st v1).st t2).st k2).st u2,((v7.st t2).st k2).st u2,p8.st u2⟩
   refine Cq 7 t7 rfl fun c8 pA r8 z2 j3=>?_
   have hZ:=z2.lst [] (fun _ h=>h.elim)
   refine Bg [] hZ (by kernel_rfl) ?_
   refine AV (i:=5) (by kernel_rfl) rfl ?_
   replace u1:=(((u1.st j1).st z0).st k1).st z2
   refine BG 5 (by decide) (O:=r8) (Cr Fr.lt u1 u5) rfl rfl fun u3 w3 qA s8 v2 x5=>?_
   have hZ:=v2.lst [] (fun _ h=>h.elim)
   refine Bg [] hZ (by kernel_rfl) ?_
   refine AV (i:=8) (by kernel_rfl) rfl ?_
   replace q1:=((((q1.st j1).st z0).st k1).st z2).st v2
   refine BG 6 (by decide) (O:=s8) (Bv Fr.lt q1 g5) rfl rfl fun x3 y3 t8 y5 a1 z5=>?_
   have hZ:=a1.lst [] (fun _ h=>h.elim)
   refine Bg [] hZ (by kernel_rfl) ?_
   refine AT (fuel:=1) [] [(9,true)] (by kernel_rfl) rfl ?_
   refine Fu rfl rfl rfl rfl ?_
   refine AG ?_
   refine AV (i:=11) (by kernel_rfl) rfl ?_
   replace j3:=(j3.st v2).st a1
   refine Bf j3 rfl rfl rfl (BO rfl) (allOne rfl) fun a6 l1 j3=>?_
   replace j3:Lc 7 a6 y5 c8 26 [(.slice r3 d5.length s3),(.slice u3 e5.length w3),(.slice x3 f5.length y3),(.slice none 0 0)]:=j3
   refine Di (by kernel_rfl) ?_
   refine BC (by kernel_rfl) ?_
   obtain rfl:=sm y2
   exact ⟨(c8,(r3,s3),(u3,w3),(x3,y3)),_,⟨rfl,rfl,rfl,trivial⟩,((((((hB.st j1).st z0).st k1).st z2).st v2).st a1).st l1,((((y1.st k1).st z2).st v2).st a1).st l1,((((h7.st k1).st z2).st v2).st a1).st l1,((u1.st v2).st a1).st l1,(q1.st a1).st l1,((((((t0.st j1).st z0).st k1).st z2).st v2).st a1).st l1,((((n0.st k1).st z2).st v2).st a1).st l1,j3,(((w5.st z2).st v2).st a1).st l1,(x5.st a1).st l1,z5.st l1⟩
  refine Cq 7 t5 rfl fun z3 u8 b6 w1 z1=>?_
  have hZ:=w1.lst [] (fun _ h=>h.elim)
  refine Bg [] hZ (by kernel_rfl) ?_
  refine AV (i:=2) (by kernel_rfl) rfl ?_
  replace h7:=((h7.st j1).st z0).st w1
  refine BG 4 (by decide) (O:=b6) (Cr Fr.lt h7 s7) rfl rfl fun a4 b4 v8 c6 r1 d6=>?_
  have hZ:=r1.lst [] (fun _ h=>h.elim)
  refine Bg [] hZ (by kernel_rfl) ?_
  refine AV (i:=5) (by kernel_rfl) rfl ?_
  replace u1:=(((u1.st j1).st z0).st w1).st r1
  refine BG 5 (by decide) (O:=c6) (Cr Fr.lt u1 u5) rfl rfl fun c4 d4 w8 e6 m1 f6=>?_
  have hZ:=m1.lst [] (fun _ h=>h.elim)
  refine Bg [] hZ (by kernel_rfl) ?_
  refine AV (i:=8) (by kernel_rfl) rfl ?_
  replace q1:=((((q1.st j1).st z0).st w1).st r1).st m1
  refine BG 6 (by decide) (O:=e6) (Bv Fr.lt q1 g5) rfl rfl fun e4 f4 x8 g6 b1 h6=>?_
  have hZ:=b1.lst [] (fun _ h=>h.elim)
  refine Bg [] hZ (by kernel_rfl) ?_
  refine AT (fuel:=1) [] [(9,true)] (by kernel_rfl) rfl ?_
  refine Fu rfl rfl rfl rfl ?_
  refine AG ?_
  refine AV (i:=11) (by kernel_rfl) rfl ?_
  replace z1:=((z1.st r1).st m1).st b1
  refine Bf z1 rfl rfl rfl (BO rfl) (allOne rfl) fun i6 n1 z1=>?_
  replace z1:Lc 7 i6 g6 z3 26 [(.slice a4 d5.length b4),(.slice c4 e5.length d4),(.slice e4 f5.length f4),(.slice none 0 0)]:=z1
  refine Di (by kernel_rfl) ?_
  refine BC (by kernel_rfl) ?_
  obtain rfl:=sm y2
  exact ⟨(z3,(a4,b4),(c4,d4),(e4,f4)),_,⟨rfl,rfl,rfl,trivial⟩,((((((hB.st j1).st z0).st w1).st r1).st m1).st b1).st n1,((((y1.st w1).st r1).st m1).st b1).st n1,(((h7.st r1).st m1).st b1).st n1,((u1.st m1).st b1).st n1,(q1.st b1).st n1,((((((t0.st j1).st z0).st w1).st r1).st m1).st b1).st n1,((((n0.st w1).st r1).st m1).st b1).st n1,z1,((d6.st m1).st b1).st n1,(f6.st b1).st n1,h6.st n1⟩
 replace hB:=(hB.st j1).st z0
 replace h7:=(h7.st j1).st z0
 replace u1:=(u1.st j1).st z0
 replace q1:=(q1.st j1).st z0
 replace t0:=(t0.st j1).st z0
 replace y1:=y1.st z0
 rintro y8 z8 ⟨a0,j6,g4,hB,y1,h7,u1,q1,t0,n0,s0,c1,d1,e1⟩
 refine AP _ g4 ?_
 refine Al (Al (Aj (AF rfl rfl (AE (hc:=Blk.cell (i:=3) (y1.1) rfl) rfl rfl ?_))))
 refine AN rfl rfl ?_
 have k3:x0.ops.length≤9223372036854775807:=Nat.le_trans t0.len.2.1 t0.len.2.2
 have a9:inI64 (x0.ops.length:Int):=rngNat k3
 refine Am rfl rfl (o_z ?_)
 obtain ⟨l3,h4,hm⟩:=bs hm
 refine AM (aft l3 (fun (l0:(List Opr)) (f0:(Option Addr×Nat))=>[(2,(.pointer (some ⟨i2,0,none⟩))),(3,(.pointer (some ⟨a0.1,0,none⟩)))]) (fun l0 f0 w'=>∃ O':Lab,Bs w A w' O'∧Lc 3 w' O' i2 26 [(.slice none 0 0),(.slice none 0 0),(.slice none 0 0),(.slice none 0 0)]∧Lc 7 w' O' a0.1 26 [(.slice a0.2.1.1 b0.1.length a0.2.1.2),(.slice a0.2.2.1.1 b0.2.1.length a0.2.2.1.2),(.slice a0.2.2.2.1 b0.2.2.length a0.2.2.2.2),(.slice f0.1 l0.length f0.2)]∧Rw 4 w' O' 3 (.slice a0.2.1.1 b0.1.length a0.2.1.2) b0.1∧Rw 5 w' O' 3 (.slice a0.2.2.1.1 b0.2.1.length a0.2.2.1.2) b0.2.1∧Rw 6 w' O' 123 (.slice a0.2.2.2.1 b0.2.2.length a0.2.2.2.2) b0.2.2∧Rw 13 w' O' 61 (.slice f0.1 l0.length f0.2) l0)) ?_ ?_
 ·
  refine AQ (BV (σ:=(List Opr)) (X:=(Option Addr×Nat)) (x0.ops.length) h4 rfl k3 (fun (l0:(List Opr)) (f0:(Option Addr×Nat))=>[(2,(.pointer (some ⟨i2,0,none⟩))),(3,(.pointer (some ⟨a0.1,0,none⟩))),(20,(.slice w2 x0.ops.length x2))]) _ (fun l0 f0 w'=>∃ O':Lab,Bs w A w' O'∧Lc 3 w' O' i2 26 [(.slice none 0 0),(.slice none 0 0),(.slice none 0 0),(.slice none 0 0)]∧Lc 7 w' O' a0.1 26 [(.slice a0.2.1.1 b0.1.length a0.2.1.2),(.slice a0.2.2.1.1 b0.2.1.length a0.2.2.1.2),(.slice a0.2.2.2.1 b0.2.2.length a0.2.2.2.2),(.slice f0.1 l0.length f0.2)]∧Rw 4 w' O' 3 (.slice a0.2.1.1 b0.1.length a0.2.1.2) b0.1∧Rw 5 w' O' 3 (.slice a0.2.2.1.1 b0.2.1.length a0.2.2.1.2) b0.2.1∧Rw 6 w' O' 123 (.slice a0.2.2.2.1 b0.2.2.length a0.2.2.2.2) b0.2.2∧Rw 13 w' O' 61 (.slice f0.1 l0.length f0.2) l0∧Vb w' (Fr 0 w' O') (.slice w2 x0.ops.length x2) x0.ops) _ (none,0) ⟨j6,hB,n0,s0,c1,d1,e1,(Rw.nil 13 (by decide)),t0⟩ ⟨rfl,rfl,rfl,rfl,rfl,trivial⟩ (fun _ _=>⟨rfl,rfl⟩) (fun _ _=>⟨rfl,rfl,trivial⟩) (fun _ _ _ ⟨O',hB,n0,s0,c1,d1,e1,e0,t0⟩=>⟨O',hB,n0,s0,c1,d1,e1,e0⟩) ⟨rfl,rfl,rfl⟩ ⟨rfl,rfl⟩ ?_)
  rintro m3 c0 l0 f0 b9 d8 g3 ⟨k6,hB,n0,s0,c1,d1,e1,e0,t0⟩ m0 j5 k5
  have rk156:inI64 (m3:Int):=rngK g3 k3
  refine Al (Aj ?_)
  obtain ⟨d9,e9,e8,i4,j4,k4,f9,g9,rfl,a3,u0,l6,m6⟩:=t0.elem' g3
  obtain ⟨n6,o6,rfl⟩:=a3.form
  obtain ⟨a2,b2,rfl⟩:=u0.form
  refine BW (hA:=i4) (hj:=rfl) (hlt:=j4) rfl rfl rfl ?_
  refine BM (hl:=rfl) (hc:=k4) rfl rfl ?_
  refine Cq 8 k6 rfl fun c2 h9 l4 h0 d0=>?_
  refine Bf d0 rfl rfl rfl (BO rfl) (allOne rfl) fun p6 i0 d0=>?_
  replace d0:Lc 8 p6 l4 c2 61 [(.string c0.name),(.int .i64 c0.cost),(.slice n6 c0.pre.length o6),(.slice a2 c0.effs.length b2)]:=d0
  refine o_z ?_
  refine Al (Aj (AF rfl rfl (AE (hc:=Blk.cell (i:=2) (d0.1) rfl) rfl rfl ?_)))
  obtain ⟨f1,q6,m0⟩:=bs m0
  replace a3:=(a3.st h0).st i0
  refine BG 9 (by decide) (O:=l4) (Bv Fr.lt a3 q6) rfl rfl fun d2 e2 i9 m4 j0 k0=>?_
  refine AF rfl rfl ?_
  replace d0:=d0.st j0
  refine Bf d0 rfl rfl rfl (BO rfl) (allOne rfl) fun r6 g0 d0=>?_
  replace d0:Lc 8 r6 m4 c2 61 [(.string c0.name),(.int .i64 c0.cost),(.slice d2 f1.length e2),(.slice a2 c0.effs.length b2)]:=d0
  refine o_z ?_
  refine Al (Aj (Ar rfl rfl (o_z ?_)))
  refine Al (Al (Aj (AF rfl rfl (AE (hc:=Blk.cell (i:=3) (d0.1) rfl) rfl rfl ?_))))
  refine AN rfl rfl ?_
  replace u0:=(((u0.st h0).st i0).st j0).st g0
  have n3:c0.effs.length≤9223372036854775807:=Nat.le_trans u0.len.2.1 u0.len.2.2
  have j9:inI64 (c0.effs.length:Int):=rngNat n3
  refine Am rfl rfl (o_z ?_)
  obtain ⟨o3,n4,m0⟩:=bs m0
  refine AM (aft o3 (fun (o1:(List Eff)) (v0:(Option Addr×Nat))=>[(2,(.pointer (some ⟨i2,0,none⟩))),(3,(.pointer (some ⟨a0.1,0,none⟩))),(5,(.pointer (some ⟨c2,0,none⟩))),(6,(.slice v0.1 o1.length v0.2)),(20,(.slice w2 x0.ops.length x2)),(21,(.int .i64 (x0.ops.length:Int))),(22,(.int .i64 (m3:Int)))]) (fun o1 v0 w'=>∃ O':Lab,Bs w A w' O'∧Lc 3 w' O' i2 26 [(.slice none 0 0),(.slice none 0 0),(.slice none 0 0),(.slice none 0 0)]∧Lc 7 w' O' a0.1 26 [(.slice a0.2.1.1 b0.1.length a0.2.1.2),(.slice a0.2.2.1.1 b0.2.1.length a0.2.2.1.2),(.slice a0.2.2.2.1 b0.2.2.length a0.2.2.2.2),(.slice f0.1 l0.length f0.2)]∧Rw 4 w' O' 3 (.slice a0.2.1.1 b0.1.length a0.2.1.2) b0.1∧Rw 5 w' O' 3 (.slice a0.2.2.1.1 b0.2.1.length a0.2.2.1.2) b0.2.1∧Rw 6 w' O' 123 (.slice a0.2.2.2.1 b0.2.2.length a0.2.2.2.2) b0.2.2∧Rw 13 w' O' 61 (.slice f0.1 l0.length f0.2) l0∧Lc 8 w' O' c2 61 [(.string c0.name),(.int .i64 c0.cost),(.slice d2 f1.length e2),(.slice a2 c0.effs.length b2)]∧Rw 9 w' O' 123 (.slice d2 f1.length e2) f1∧Vb w' (Fr 0 w' O') (.slice a2 c0.effs.length b2) c0.effs∧Rw 12 w' O' 76 (.slice v0.1 o1.length v0.2) o1∧Vb w' (Fr 0 w' O') (.slice w2 x0.ops.length x2) x0.ops)) ?_ ?_
  ·
   refine AQ ?_
   replace hB:=(((hB.st h0).st i0).st j0).st g0
   replace t0:=(((t0.st h0).st i0).st j0).st g0
   replace n0:=(((n0.st h0).st i0).st j0).st g0
   replace s0:=(((s0.st h0).st i0).st j0).st g0
   replace c1:=(((c1.st h0).st i0).st j0).st g0
   replace d1:=(((d1.st h0).st i0).st j0).st g0
   replace e1:=(((e1.st h0).st i0).st j0).st g0
   replace e0:=(((e0.st h0).st i0).st j0).st g0
   replace k0:=k0.st g0
   refine BV (σ:=(List Eff)) (X:=(Option Addr×Nat)) (c0.effs.length) n4 rfl n3 (fun (o1:(List Eff)) (v0:(Option Addr×Nat))=>[(2,(.pointer (some ⟨i2,0,none⟩))),(3,(.pointer (some ⟨a0.1,0,none⟩))),(5,(.pointer (some ⟨c2,0,none⟩))),(6,(.slice v0.1 o1.length v0.2)),(20,(.slice w2 x0.ops.length x2)),(21,(.int .i64 (x0.ops.length:Int))),(22,(.int .i64 (m3:Int))),(31,(.slice a2 c0.effs.length b2))]) _ (fun o1 v0 w'=>∃ O':Lab,Bs w A w' O'∧Lc 3 w' O' i2 26 [(.slice none 0 0),(.slice none 0 0),(.slice none 0 0),(.slice none 0 0)]∧Lc 7 w' O' a0.1 26 [(.slice a0.2.1.1 b0.1.length a0.2.1.2),(.slice a0.2.2.1.1 b0.2.1.length a0.2.2.1.2),(.slice a0.2.2.2.1 b0.2.2.length a0.2.2.2.2),(.slice f0.1 l0.length f0.2)]∧Rw 4 w' O' 3 (.slice a0.2.1.1 b0.1.length a0.2.1.2) b0.1∧Rw 5 w' O' 3 (.slice a0.2.2.1.1 b0.2.1.length a0.2.2.1.2) b0.2.1∧Rw 6 w' O' 123 (.slice a0.2.2.2.1 b0.2.2.length a0.2.2.2.2) b0.2.2∧Rw 13 w' O' 61 (.slice f0.1 l0.length f0.2) l0∧Lc 8 w' O' c2 61 [(.string c0.name),(.int .i64 c0.cost),(.slice d2 f1.length e2),(.slice a2 c0.effs.length b2)]∧Rw 9 w' O' 123 (.slice d2 f1.length e2) f1∧Vb w' (Fr 0 w' O') (.slice a2 c0.effs.length b2) c0.effs∧Rw 12 w' O' 76 (.slice v0.1 o1.length v0.2) o1∧Vb w' (Fr 0 w' O') (.slice w2 x0.ops.length x2) x0.ops) _ (none,0) ⟨m4,hB,n0,s0,c1,d1,e1,e0,d0,k0,u0,(Rw.nil 12 (by decide)),t0⟩ ⟨rfl,rfl,rfl,rfl,rfl,rfl,rfl,rfl,rfl,rfl,trivial⟩ (fun _ _=>⟨rfl,rfl⟩) (fun _ _=>⟨rfl,rfl,rfl,rfl,rfl,rfl,rfl,trivial⟩) (fun _ _ _ ⟨O',hB,n0,s0,c1,d1,e1,e0,d0,k0,u0,g1,t0⟩=>⟨O',hB,n0,s0,c1,d1,e1,e0,d0,k0,u0,g1,t0⟩) ⟨rfl,rfl,rfl⟩ ⟨rfl,rfl⟩ ?_
   rintro s6 h1 o1 v0 k9 f8 h3 ⟨t6,hB,n0,s0,c1,d1,e1,e0,d0,k0,u0,g1,t0⟩ x1 l5 m5
   have rk213:inI64 (s6:Int):=rngK h3 n3
   refine Al (Aj ?_)
   obtain ⟨l9,m9,g8,o4,p4,q4,n9,rfl,b3,u6,w6⟩:=u0.elem' h3
   obtain ⟨x6,y6,rfl⟩:=b3.form
   refine BW (hA:=o4) (hj:=rfl) (hlt:=p4) rfl rfl rfl ?_
   refine BM (hl:=rfl) (hc:=q4) rfl rfl ?_
   refine Cq 10 t6 rfl fun r4 o9 s4 o0 w0=>?_
   refine Bf w0 rfl rfl rfl (BO rfl) (allOne rfl) fun z6 p0 w0=>?_
   replace w0:Lc 10 z6 s4 r4 76 [(.slice x6 h1.cond.length y6),(.int .i64 h1.var),(.int .i64 h1.val)]:=w0
   refine o_z ?_
   refine Al (Aj (AF rfl rfl (AE (hc:=Blk.cell (i:=0) (w0.1) rfl) rfl rfl ?_)))
   obtain ⟨c3,a7,x1⟩:=bs x1
   replace b3:=(b3.st o0).st p0
   refine BG 11 (by decide) (O:=s4) (Bv Fr.lt b3 a7) rfl rfl fun t4 u4 p9 b7 q0 l2=>?_
   refine AF rfl rfl ?_
   replace w0:=w0.st q0
   refine Bf w0 rfl rfl rfl (BO rfl) (allOne rfl) fun c7 r0 w0=>?_
   replace w0:Lc 10 c7 b7 r4 76 [(.slice t4 c3.length u4),(.int .i64 h1.var),(.int .i64 h1.val)]:=w0
   refine o_z ?_
   refine Aj (Am rfl rfl (BM (hl:=rfl) (hc:=(w0.1).cellsAt) rfl rfl ?_))
   replace l2:=l2.st r0
   obtain ⟨q9,y0,l2⟩:=l2.freeze
   obtain ⟨r9,p3,x1⟩:=bs x1
   obtain ⟨p3,d7,e7⟩:=Cg p3
   replace g1:=((((g1.st o0).st p0).st q0).st r0).st y0
   refine Ej rfl (a:=(⟨c3,h1.var,h1.val⟩:Eff)) g1 (Vb.ofAgg (cs:=[(.slice t4 c3.length u4),(.int .i64 h1.var),(.int .i64 h1.val)]) (x:=(⟨c3,h1.var,h1.val⟩:Eff)) rfl ⟨_,rfl,l2,u6,w6⟩) (fun _=>rfl) rfl (by decide) (by decide) d7 e7 ⟨rfl,rfl⟩ fun s9 f7 g7 t9 u9 i1 w4=>?_
   rw [← p3] at w4 ⊢
   refine Ar rfl rfl (o_z ?_)
   obtain rfl:=sm x1
   exact show Exists _ from ⟨_,(f7,g7),rfl,⟨rfl,rfl,rfl,rfl,rfl,rfl,rfl,rfl,rfl,rfl,trivial⟩,_,(((((hB.st o0).st p0).st q0).st r0).st y0).st i1,(((((n0.st o0).st p0).st q0).st r0).st y0).st i1,(((((s0.st o0).st p0).st q0).st r0).st y0).st i1,(((((c1.st o0).st p0).st q0).st r0).st y0).st i1,(((((d1.st o0).st p0).st q0).st r0).st y0).st i1,(((((e1.st o0).st p0).st q0).st r0).st y0).st i1,(((((e0.st o0).st p0).st q0).st r0).st y0).st i1,(((((d0.st o0).st p0).st q0).st r0).st y0).st i1,(((((k0.st o0).st p0).st q0).st r0).st y0).st i1,(((((u0.st o0).st p0).st q0).st r0).st y0).st i1,w4,(((((t0.st o0).st p0).st q0).st r0).st y0).st i1⟩
  replace hB:=(((hB.st h0).st i0).st j0).st g0
  replace t0:=(((t0.st h0).st i0).st j0).st g0
  replace n0:=(((n0.st h0).st i0).st j0).st g0
  replace s0:=(((s0.st h0).st i0).st j0).st g0
  replace c1:=(((c1.st h0).st i0).st j0).st g0
  replace d1:=(((d1.st h0).st i0).st j0).st g0
  replace e1:=(((e1.st h0).st i0).st j0).st g0
  replace e0:=(((e0.st h0).st i0).st j0).st g0
  replace k0:=k0.st g0
  rintro v9 w9 ⟨d3,e3,rfl,x4,i7,hB,n0,s0,c1,d1,e1,e0,d0,k0,u0,g1,t0⟩
  replace m0:=Bo m0
  refine AP _ x4 ?_
  refine Al (Aj (Am rfl rfl (AF rfl rfl (Bf d0 rfl rfl rfl (BO rfl) (allOne rfl) fun j7 p1 d0=>?_))))
  replace d0:Lc 8 j7 i7 c2 61 [(.string c0.name),(.int .i64 c0.cost),(.slice d2 f1.length e2),(.slice e3.1 d3.length e3.2)]:=d0
  refine o_z ?_
  refine Aj (AF rfl rfl ?_)
  replace s0:=s0.st p1
  refine AE (hc:=Blk.cell (i:=3) (s0.1) rfl) rfl rfl ?_
  refine BM (hl:=rfl) (hc:=(d0.1).cellsAt) rfl rfl ?_
  replace k0:=k0.st p1
  obtain ⟨x9,s1,k0⟩:=k0.freeze
  replace g1:=(g1.st p1).st s1
  obtain ⟨y9,t1,g1⟩:=g1.freeze
  obtain ⟨k7,q3,m0⟩:=bs m0
  obtain ⟨q3,l7,m7⟩:=Cg q3
  replace e0:=((e0.st p1).st s1).st t1
  replace k0:=k0.st t1
  refine Ej rfl (a:=(⟨c0.name,c0.cost,f1,d3⟩:Opr)) e0 (Vb.ofAgg (cs:=[(.string c0.name),(.int .i64 c0.cost),(.slice d2 f1.length e2),(.slice e3.1 d3.length e3.2)]) (x:=(⟨c0.name,c0.cost,f1,d3⟩:Opr)) rfl ⟨_,_,rfl,k0,g1,l6,m6⟩) (fun _=>rfl) rfl (by decide) (by decide) l7 m7 ⟨rfl,rfl⟩ fun z9 y4 z4 aA n7 f2 a5=>?_
  rw [← q3] at a5 ⊢
  refine AF rfl rfl ?_
  replace s0:=((s0.st s1).st t1).st f2
  refine Bf s0 rfl rfl rfl (BO rfl) (allOne rfl) fun o7 g2 s0=>?_
  replace s0:Lc 7 o7 n7 a0.1 26 [(.slice a0.2.1.1 b0.1.length a0.2.1.2),(.slice a0.2.2.1.1 b0.2.1.length a0.2.2.1.2),(.slice a0.2.2.2.1 b0.2.2.length a0.2.2.2.2),(.slice y4 k7.length z4)]:=s0
  refine o_z ?_
  obtain rfl:=sm m0
  exact show Exists _ from ⟨_,(y4,z4),rfl,⟨rfl,rfl,rfl,rfl,rfl,trivial⟩,_,((((hB.st p1).st s1).st t1).st f2).st g2,((((n0.st p1).st s1).st t1).st f2).st g2,s0,((((c1.st p1).st s1).st t1).st f2).st g2,((((d1.st p1).st s1).st t1).st f2).st g2,((((e1.st p1).st s1).st t1).st f2).st g2,a5.st g2,((((t0.st p1).st s1).st t1).st f2).st g2⟩
 rintro bA cA ⟨f3,h2,rfl,b5,p7,hB,n0,s0,c1,d1,e1,e0⟩
 replace hm:=Bo hm
 refine AP _ b5 ?_
 refine Al (Aj (BM (hl:=rfl) (hc:=(s0.1).cellsAt) rfl rfl ?_))
 refine Bf n0 rfl rfl rfl (BO rfl) (allOne rfl) fun c5 m2 n0=>?_
 replace n0:Lc 3 c5 p7 i2 26 [(.slice a0.2.1.1 b0.1.length a0.2.1.2),(.slice a0.2.2.1.1 b0.2.1.length a0.2.2.1.2),(.slice a0.2.2.2.1 b0.2.2.length a0.2.2.2.2),(.slice h2.1 f3.length h2.2)]:=n0
 refine o_z ?_
 refine AK ?_
 replace c1:=c1.st m2
 obtain ⟨dA,n2,c1⟩:=c1.freeze
 replace d1:=(d1.st m2).st n2
 obtain ⟨eA,o2,d1⟩:=d1.freeze
 replace e1:=((e1.st m2).st n2).st o2
 obtain ⟨fA,p2,e1⟩:=e1.freeze
 replace e0:=(((e0.st m2).st n2).st o2).st p2
 obtain ⟨q7,q2,e0⟩:=e0.freeze
 obtain rfl:=sm hm
 replace hB:=((((hB.st m2).st n2).st o2).st p2).st q2
 replace n0:=(((n0.st n2).st o2).st p2).st q2
 replace c1:=((c1.st o2).st p2).st q2
 replace d1:=(d1.st p2).st q2
 replace e1:=e1.st q2
 exact ret1v rfl (Gu (cs:=[(.slice a0.2.1.1 b0.1.length a0.2.1.2),(.slice a0.2.2.1.1 b0.2.1.length a0.2.2.1.2),(.slice a0.2.2.2.1 b0.2.2.length a0.2.2.2.2),(.slice h2.1 f3.length h2.2)]) rfl rfl n0.1.cellsAt) ⟨hB.ext,(Vb.mono (F:=Fr 0 c5 q7) (Vb.ofAgg (cs:=[(.slice a0.2.1.1 b0.1.length a0.2.1.2),(.slice a0.2.2.1.1 b0.2.1.length a0.2.2.1.2),(.slice a0.2.2.2.1 b0.2.2.length a0.2.2.2.2),(.slice h2.1 f3.length h2.2)]) (x:=(⟨b0.1,b0.2.1,b0.2.2,f3⟩:Tsk)) rfl ⟨_,_,_,_,rfl,c1,d1,e1,e0⟩) hB.out)⟩
noncomputable def BQ (x0:List (List Arc)) (x1:List Int):Option ((List Int)×(List Int)) :=
  bnd (mkI 8 (0:Int) (x0.length:Int)) fun u7=>bnd (mkI 8 (0:Int) (x0.length:Int)) fun u9=>bnd (some (u7,u9):Option ((List Int)×(List Int))) fun y11=>bnd (rngN (ρ:=(List Int)×(List Int)) (fun (k77:Nat) (s75:(List Int)×(List Int))=>bnd (s75.1[k77]?) fun a104=>bnd (s75.2[k77]?) fun a116=>some (.next ((s75.1.set k77 1125899906842624),(s75.2.set k77 1125899906842624)))) y11.1.length (y11.1,y11.2)) fun res73=>fin res73 fun (s132:(List Int)×(List Int))=>bnd (DG) fun q134=>bnd q134 fun o144=>bnd (rng (ρ:=(List Int)×(List Int)) (fun (k151:Nat) (a152:Int) (s149:(List Int)×(List Int)×Que)=>bnd (atI s149.1 a152) fun a180=>bnd (atI s149.2.1 a152) fun a194=>bnd (BD s149.2.2 0 0 a152) fun q208=>some (.next ((s149.1.set (a152:Int).toNat 0),(s149.2.1.set (a152:Int).toNat 0),q208.2))) x1 0 (s132.1,s132.2,o144)) fun res147=>fin res147 fun (s222:(List Int)×(List Int)×Que)=>bnd (lop (ρ:=(List Int)×(List Int)) (fun (s226:(List Int)×(List Int)×Que)=>bnd (CB s226.2.2) fun q249=>if 0 < q249 then (bnd (Cp s226.2.2) fun q260=>if q260.2.2.2.1.n≠0 then (some (.brk (s226.1,s226.2.1,q260.2.2.2.2))) else (bnd (bnd (atI s226.1 q260.2.2.1) fun a285=>if q260.1≠a285 then (some true) else (bnd (atI s226.2.1 q260.2.2.1) fun a298=>if q260.2.1≠a298 then (some true) else (some false)):Option Bool) fun y281=>if y281=true then (some (.next (s226.1,s226.2.1,q260.2.2.2.2))) else (bnd (atI x0 q260.2.2.1) fun a316=>bnd (rng (ρ:=Ctl ((List Int)×(List Int)×Que) ((List Int)×(List Int))) (fun (k337:Nat) (a338:Arc) (s335:(List Int)×(List Int)×Que)=>bnd (chkI (q260.1 + a338.weight)) fun n375=>bnd (chkI (q260.2.1 + 1)) fun n378=>bnd (bnd (atI s335.1 a338.dst) fun a385=>if a385 < n375 then (some true) else (bnd (atI s335.1 a338.dst) fun a398=>if n375=a398 then (bnd (atI s335.2.1 a338.dst) fun a411=>if a411≤n378 then (some true) else (some false)) else (some false)):Option Bool) fun y381=>if y381=true then (some (.next (s335.1,s335.2.1,s335.2.2))) else (bnd (atI s335.1 a338.dst) fun a429=>bnd (atI s335.2.1 a338.dst) fun a443=>bnd (BD s335.2.2 n375 n378 a338.dst) fun q457=>if q457.1.n≠0 then (bnd (Dr x0 (s335.1.set (a338.dst:Int).toNat n375) (s335.2.1.set (a338.dst:Int).toNat n378)) fun q472=>some (.ret (.ret (q472.1,q472.2)))) else (some (.next ((s335.1.set (a338.dst:Int).toNat n375),(s335.2.1.set (a338.dst:Int).toNat n378),q457.2))))) a316 0 (s226.1,s226.2.1,q260.2.2.2.2)) fun res333=>fin res333 fun (s491:(List Int)×(List Int)×Que)=>some (.next (s491.1,s491.2.1,s491.2.2))))) else (some (.brk (s226.1,s226.2.1,s226.2.2)))) (s222.1,s222.2.1,s222.2.2)) fun res224=>fin res224 fun (s497:(List Int)×(List Int)×Que)=>some (s497.1,s497.2.1)
theorem FU {w:World} {A:Nat→Prop} (hA:∀ k,A k→k < w.heap.size) {vx0:Value} {x0:List (List Arc)} (f0:Vb w A vx0 x0) {vx1:Value} {x1:List Int} (y0:Vb w A vx1 x1) {r:(List Int)×(List Int)} (hm:BQ x0 x1=some r) :
    Fn Tryz.prog 60 [vx0,vx1] w fun v w'=>Ext w w'∧T2 w' (upA A w w') v r:=by
 obtain ⟨O,hB,z8⟩:=enter hA
 replace f0:=f0.mono z8
 obtain ⟨A3,c4,rfl⟩:=f0.form
 replace y0:=y0.mono z8
 obtain ⟨A5,c6,rfl⟩:=y0.form
 refine AI Tryz.func60 rfl Tryz.ntmps60 rfl ?_
 unfold BQ at hm
 refine Al (Aj (Ar rfl rfl (Ar rfl rfl (o_z ?_))))
 refine Al ?_
 obtain ⟨u7,e8,hm⟩:=bs hm
 obtain ⟨u9,a9,hm⟩:=bs hm
 obtain ⟨j0,f3,hm⟩:=bs hm
 refine AM (fun l' w'=>∃ (a0:(Option Addr×Nat)×(Option Addr×Nat)) (O':Lab),subs l' [(0,(.slice A3 x0.length c4)),(1,(.slice A5 x1.length c6)),(6,(.slice a0.1.1 j0.1.length a0.1.2)),(7,(.slice a0.2.1 j0.2.length a0.2.2))]∧Bs w A w' O'∧Vb w' (Fr 0 w' O') (.slice A3 x0.length c4) x0∧Vb w' (Fr 0 w' O') (.slice A5 x1.length c6) x1∧Rw 2 w' O' 3 (.slice a0.1.1 j0.1.length a0.1.2) j0.1∧Rw 3 w' O' 3 (.slice a0.2.1 j0.2.length a0.2.2) j0.2) ?_ ?_
 ·
  refine Bt [] O ?_
  refine AT (fuel:=4) [] [(0,true),(1,true),(3,true),(4,true)] (by kernel_rfl) rfl ?_
  refine AH rfl rfl rfl (Jp rfl rfl rfl ?_)
  have fA:x0.length≤9223372036854775807:=Nat.le_trans f0.len.2.1 f0.len.2.2
  have iG:inI64 (x0.length:Int):=rngNat fA
  refine AH rfl rfl rfl (Jp rfl rfl rfl ?_)
  have gA:x0.length≤9223372036854775807:=Nat.le_trans f0.len.2.1 f0.len.2.2
  have jG:inI64 (x0.length:Int):=rngNat gA
  refine AG ?_
  refine GR (i:=2) (j:=5) (by kernel_rfl) rfl rfl ?_ ?_
  ·
   obtain ⟨iA,jA,kA,lA,mA⟩:=DY e8
   refine Gx 2 (by decide) O (z0:=(0:Int)) rfl rfl rfl rfl rfl jA (vInt (show inI64 0 from by decide)) kA lA rfl fun nA kG oA s5 b9=>?_
   rw [← mA] at b9 ⊢
   have hZ:=s5.lst [] (fun _ h=>h.elim)
   refine Bg [] hZ (by kernel_rfl) ?_
   refine AT (fuel:=2) [] [(6,true)] (by kernel_rfl) rfl ?_
   refine Dv rfl rfl rfl (AG ?_)
   refine AV (i:=5) (by kernel_rfl) rfl ?_
   obtain ⟨pA,qA,rA,sA,tA⟩:=DY a9
   refine Gx 3 (by decide) oA (z0:=(0:Int)) rfl rfl rfl rfl rfl qA (vInt (show inI64 0 from by decide)) rA sA rfl fun uA lG mG g3 c9=>?_
   rw [← tA] at c9 ⊢
   have hZ:=g3.lst [] (fun _ h=>h.elim)
   refine Bg [] hZ (by kernel_rfl) ?_
   refine AT (fuel:=0) [] [(7,true)] (by kernel_rfl) rfl ?_
   refine Dv rfl rfl rfl (AG ?_)
   refine BC (by kernel_rfl) ?_
   obtain rfl:=sm f3
   exact ⟨(((some ⟨nA,0,none⟩),iA),((some ⟨uA,0,none⟩),pA)),_,⟨rfl,rfl,rfl,rfl,trivial⟩,(hB.st s5).st g3,(f0.st s5).st g3,(y0.st s5).st g3,b9.st g3,c9⟩
  obtain ⟨vA,wA,xA,yA,zA⟩:=DY a9
  refine Gx 3 (by decide) O (z0:=(0:Int)) rfl rfl rfl rfl rfl wA (vInt (show inI64 0 from by decide)) xA yA rfl fun aB nG bB t5 d9=>?_
  rw [← zA] at d9 ⊢
  have hZ:=t5.lst [] (fun _ h=>h.elim)
  refine Bg [] hZ (by kernel_rfl) ?_
  refine AV (i:=2) (by kernel_rfl) rfl ?_
  obtain ⟨cB,dB,eB,fB,gB⟩:=DY e8
  refine Gx 2 (by decide) bB (z0:=(0:Int)) rfl rfl rfl rfl rfl dB (vInt (show inI64 0 from by decide)) eB fB rfl fun iB oG pG h3 e9=>?_
  rw [← gB] at e9 ⊢
  have hZ:=h3.lst [] (fun _ h=>h.elim)
  refine Bg [] hZ (by kernel_rfl) ?_
  refine AT (fuel:=0) [] [(6,true),(7,true)] (by kernel_rfl) rfl ?_
  refine Dv rfl rfl rfl (Dv rfl rfl rfl (AG ?_))
  refine BC (by kernel_rfl) ?_
  obtain rfl:=sm f3
  exact ⟨(((some ⟨iB,0,none⟩),cB),((some ⟨aB,0,none⟩),vA)),_,⟨rfl,rfl,rfl,rfl,trivial⟩,(hB.st t5).st h3,(f0.st t5).st h3,(y0.st t5).st h3,e9,d9.st h3⟩
 rintro qG rG ⟨a0,jB,y5,hB,f0,y0,z5,kB⟩
 refine AP _ y5 ?_
 refine Al (Al (Aj (Am rfl rfl (AN rfl rfl ?_))))
 have a6:j0.1.length≤9223372036854775807:=Nat.le_trans z5.len.2.1 z5.len.2.2
 have sG:inI64 (j0.1.length:Int):=rngNat a6
 refine Am rfl rfl (o_z ?_)
 obtain ⟨i3,b6,hm⟩:=bs hm
 refine AM (aft i3 (fun (d2:(List Int)×(List Int)) (u5:Unit)=>[(0,(.slice A3 x0.length c4)),(1,(.slice A5 x1.length c6)),(6,(.slice a0.1.1 j0.1.length a0.1.2)),(7,(.slice a0.2.1 j0.2.length a0.2.2))]) (fun d2 u5 w'=>∃ O':Lab,Bs w A w' O'∧Vb w' (Fr 0 w' O') (.slice A3 x0.length c4) x0∧Vb w' (Fr 0 w' O') (.slice A5 x1.length c6) x1∧Rw 2 w' O' 3 (.slice a0.1.1 j0.1.length a0.1.2) d2.1∧Rw 3 w' O' 3 (.slice a0.2.1 j0.2.length a0.2.2) d2.2)) ?_ ?_
 ·
  refine AQ (NT (σ:=(List Int)×(List Int)) (X:=Unit) (j0.1.length) b6 a6 (fun (d2:(List Int)×(List Int)) (u5:Unit)=>[(0,(.slice A3 x0.length c4)),(1,(.slice A5 x1.length c6)),(6,(.slice a0.1.1 j0.1.length a0.1.2)),(7,(.slice a0.2.1 j0.2.length a0.2.2))]) _ (fun d2 u5 w'=>∃ O':Lab,Bs w A w' O'∧Vb w' (Fr 0 w' O') (.slice A3 x0.length c4) x0∧Vb w' (Fr 0 w' O') (.slice A5 x1.length c6) x1∧Rw 2 w' O' 3 (.slice a0.1.1 j0.1.length a0.1.2) d2.1∧Rw 3 w' O' 3 (.slice a0.2.1 j0.2.length a0.2.2) d2.2) _ () ⟨jB,hB,f0,y0,z5,kB⟩ ⟨rfl,rfl,rfl,rfl,rfl,rfl,trivial⟩ (fun _ _=>⟨rfl,rfl⟩) (fun _ _=>⟨rfl,rfl,rfl,rfl,trivial⟩) (fun _ _ _ ⟨O',hB,f0,y0,a1,u0⟩=>⟨O',hB,f0,y0,a1,u0⟩) ⟨rfl,rfl,rfl⟩ ⟨rfl,rfl⟩ ?_)
  rintro lB d2 u5 tG mB d6 ⟨uG,hB,f0,y0,a1,u0⟩ p1 e6 f6
  have rk77:inI64 (lB:Int):=rngKN d6 a6
  refine Al (Aj (Am rfl rfl (Ar rfl rfl (o_z ?_))))
  refine Aj (Am rfl rfl (Am rfl rfl (Am rfl rfl (Am rfl rfl ?_))))
  obtain ⟨nB,j3,p1⟩:=bs p1
  obtain ⟨oB,pB,f9,e2,k3,g9,rfl,qB⟩:=a1.elem j3
  refine BW (hA:=e2) (hj:=rfl) (hlt:=k3) rfl rfl rfl ?_
  refine Dq rfl a1 (a:=1125899906842624) (vInt (show inI64 (1125899906842624) from by decide)) e2 rfl rfl (AC j3) fun rB t1 a1=>?_
  obtain ⟨sB,l3,p1⟩:=bs p1
  replace u0:=u0.st t1
  obtain ⟨tB,uB,h9,f2,m3,i9,rfl,vB⟩:=u0.elem l3
  refine BW (hA:=f2) (hj:=rfl) (hlt:=m3) rfl rfl rfl ?_
  refine Dq rfl u0 (a:=1125899906842624) (vInt (show inI64 (1125899906842624) from by decide)) f2 rfl rfl (AC l3) fun wB u1 u0=>?_
  refine o_z ?_
  obtain rfl:=sm p1
  exact show Exists _ from ⟨_,(),rfl,⟨rfl,rfl,rfl,rfl,rfl,rfl,trivial⟩,_,(hB.st t1).st u1,(f0.st t1).st u1,(y0.st t1).st u1,a1.st u1,u0⟩
 rintro xB yB ⟨zB,aC,rfl,n3,g6,hB,f0,y0,a1,u0⟩
 replace hm:=Bo hm
 refine AP _ n3 ?_
 refine Al (Aj ?_)
 obtain ⟨bC,h6,hm⟩:=bs hm
 refine BR (O:=g6) (Ll 4 (by decide) h6) rfl rfl fun cC dC i6 j1 m2=>?_
 refine Ar rfl rfl (o_z ?_)
 refine Al (Al (Aj (Am rfl rfl (AN rfl rfl ?_))))
 replace y0:=y0.st j1
 have n2:x1.length≤9223372036854775807:=Nat.le_trans y0.len.2.1 y0.len.2.2
 have eC:inI64 (x1.length:Int):=rngNat n2
 refine Am rfl rfl (o_z ?_)
 obtain ⟨fC,j6,hm⟩:=bs hm
 rw [j6] at m2
 obtain ⟨s0,rfl⟩:=Ob.ptr m2
 obtain ⟨o2,o3,hm⟩:=bs hm
 refine AM (aft o2 (fun (b1:(List Int)×(List Int)×Que) (v1:Unit)=>[(0,(.slice A3 x0.length c4)),(6,(.slice a0.1.1 j0.1.length a0.1.2)),(7,(.slice a0.2.1 j0.2.length a0.2.2)),(9,(.pointer (some ⟨s0,0,none⟩)))]) (fun b1 v1 w'=>∃ O':Lab,Bs w A w' O'∧Vb w' (Fr 0 w' O') (.slice A3 x0.length c4) x0∧Rw 2 w' O' 3 (.slice a0.1.1 j0.1.length a0.1.2) b1.1∧Rw 3 w' O' 3 (.slice a0.2.1 j0.2.length a0.2.2) b1.2.1∧Ob 4 w' O' (.pointer (some ⟨s0,0,none⟩)) b1.2.2)) ?_ ?_
 ·
  refine AQ ?_
  replace hB:=hB.st j1
  replace f0:=f0.st j1
  replace a1:=a1.st j1
  replace u0:=u0.st j1
  refine BV (σ:=(List Int)×(List Int)×Que) (X:=Unit) (x1.length) o3 rfl n2 (fun (b1:(List Int)×(List Int)×Que) (v1:Unit)=>[(0,(.slice A3 x0.length c4)),(6,(.slice a0.1.1 j0.1.length a0.1.2)),(7,(.slice a0.2.1 j0.2.length a0.2.2)),(9,(.pointer (some ⟨s0,0,none⟩))),(39,(.slice A5 x1.length c6))]) _ (fun b1 v1 w'=>∃ O':Lab,Bs w A w' O'∧Vb w' (Fr 0 w' O') (.slice A3 x0.length c4) x0∧Rw 2 w' O' 3 (.slice a0.1.1 j0.1.length a0.1.2) b1.1∧Rw 3 w' O' 3 (.slice a0.2.1 j0.2.length a0.2.2) b1.2.1∧Ob 4 w' O' (.pointer (some ⟨s0,0,none⟩)) b1.2.2∧Vb w' (Fr 0 w' O') (.slice A5 x1.length c6) x1) _ () ⟨i6,hB,f0,a1,u0,m2,y0⟩ ⟨rfl,rfl,rfl,rfl,rfl,rfl,rfl,trivial⟩ (fun _ _=>⟨rfl,rfl⟩) (fun _ _=>⟨rfl,rfl,rfl,rfl,trivial⟩) (fun _ _ _ ⟨O',hB,f0,h1,c1,k1,y0⟩=>⟨O',hB,f0,h1,c1,k1⟩) ⟨rfl,rfl,rfl⟩ ⟨rfl,rfl⟩ ?_
  rintro k6 gC b1 v1 hC j9 g2 ⟨l6,hB,f0,h1,c1,k1,y0⟩ v0 v5 w5
  have rk151:inI64 (k6:Int):=rngK g2 n2
  refine Al (Aj ?_)
  obtain ⟨iC,jC,k9,p3,q3,r3,rfl,m6⟩:=y0.elem' g2
  refine BW (hA:=p3) (hj:=rfl) (hlt:=q3) rfl rfl rfl ?_
  refine AE (hc:=cat0 r3) rfl rfl ?_
  refine Ar rfl rfl (o_z ?_)
  refine Al (Aj (Am rfl rfl (Am rfl rfl (Am rfl rfl (Am rfl rfl ?_)))))
  obtain ⟨kC,n6,v0⟩:=bs v0
  obtain ⟨o6,s3⟩:=AO n6
  obtain ⟨lC,mC,l9,h2,t3,m9,rfl,nC⟩:=h1.elem s3
  refine BW (hA:=h2) (hj:=(Int.toNat_of_nonneg o6).symm) (hlt:=t3) rfl rfl rfl ?_
  refine Dq rfl h1 (a:=0) (vInt (show inI64 (0) from by decide)) h2 rfl rfl (AC s3) fun oC q1 h1=>?_
  obtain ⟨pC,p6,v0⟩:=bs v0
  obtain ⟨q6,u3⟩:=AO p6
  replace c1:=c1.st q1
  obtain ⟨qC,rC,n9,i2,v3,o9,rfl,sC⟩:=c1.elem u3
  refine BW (hA:=i2) (hj:=(Int.toNat_of_nonneg q6).symm) (hlt:=v3) rfl rfl rfl ?_
  refine Dq rfl c1 (a:=0) (vInt (show inI64 (0) from by decide)) i2 rfl rfl (AC u3) fun tC r1 c1=>?_
  refine o_z ?_
  refine Aj (Am rfl rfl (Am rfl rfl ?_))
  obtain ⟨uC,r6,v0⟩:=bs v0
  replace k1:=(k1.st q1).st r1
  refine BR (O:=l6) (FF k1 (show inI64 (0) from by decide) (show inI64 (0) from by decide) m6 r6) rfl rfl fun vC wC xC s1 s6=>?_
  obtain ⟨t6,u6⟩:=s6
  obtain ⟨rfl,yC⟩:=u6.err
  refine o_z ?_
  obtain rfl:=sm v0
  exact show Exists _ from ⟨_,(),rfl,⟨rfl,rfl,rfl,rfl,rfl,rfl,rfl,trivial⟩,_,((hB.st q1).st r1).st s1,((f0.st q1).st r1).st s1,(h1.st r1).st s1,c1.st s1,t6,((y0.st q1).st r1).st s1⟩
 replace f0:=f0.st j1
 replace hB:=hB.st j1
 rintro zC aD ⟨bD,cD,rfl,w3,v6,hB,f0,h1,c1,k1⟩
 replace hm:=Bo hm
 refine AP _ w3 ?_
 refine Al ?_
 obtain ⟨p2,x3,hm⟩:=bs hm
 refine AM (aft p2 (fun (w0:(List Int)×(List Int)×Que) (w1:Unit)=>[(6,(.slice a0.1.1 j0.1.length a0.1.2)),(7,(.slice a0.2.1 j0.2.length a0.2.2))]) (fun w0 w1 w'=>∃ O':Lab,Bs w A w' O'∧Rw 2 w' O' 3 (.slice a0.1.1 j0.1.length a0.1.2) w0.1∧Rw 3 w' O' 3 (.slice a0.2.1 j0.2.length a0.2.2) w0.2.1)) ?_ ?_
 ·
  refine AQ (Gn (σ:=(List Int)×(List Int)×Que) (X:=Unit) x3 (fun (w0:(List Int)×(List Int)×Que) (w1:Unit)=>[(0,(.slice A3 x0.length c4)),(6,(.slice a0.1.1 j0.1.length a0.1.2)),(7,(.slice a0.2.1 j0.2.length a0.2.2)),(9,(.pointer (some ⟨s0,0,none⟩)))]) _ (fun w0 w1 w'=>∃ O':Lab,Bs w A w' O'∧Vb w' (Fr 0 w' O') (.slice A3 x0.length c4) x0∧Rw 2 w' O' 3 (.slice a0.1.1 j0.1.length a0.1.2) w0.1∧Rw 3 w' O' 3 (.slice a0.2.1 j0.2.length a0.2.2) w0.2.1∧Ob 4 w' O' (.pointer (some ⟨s0,0,none⟩)) w0.2.2) _ () ⟨v6,hB,f0,h1,c1,k1⟩ ⟨rfl,rfl,rfl,rfl,trivial⟩ ?_)
  rintro w0 w1 dD p9 ⟨w6,hB,f0,l0,m0,x6⟩ b0 y1 l1
  refine Al (Al (Aj (Am rfl rfl ?_)))
  obtain ⟨eD,y6,b0⟩:=bs b0
  refine BR (O:=w6) (Iq x6 y6) rfl rfl fun fD gD z6 n0 a7=>?_
  obtain ⟨b7,c7⟩:=a7
  obtain ⟨rfl,hD⟩:=c7.int
  refine CZ rfl rfl rfl (fun q2=>?_) fun q2=>?_
  ·
   replace b0:=ip b0 q2
   refine o_z ?_
   refine Ah rfl (AJ (AQ (Al (Aj (Am rfl rfl ?_)))))
   obtain ⟨i1,d7,b0⟩:=bs b0
   refine BR (O:=z6) (Ir b7 d7) rfl rfl fun iD jD kD q0 e7=>?_
   obtain ⟨lD,mD,nD,oD,n1,rfl,f7,g7,h7,i7⟩:=e7
   obtain ⟨rfl,pD⟩:=f7.int
   obtain ⟨rfl,qD⟩:=g7.int
   obtain ⟨rfl,rD⟩:=h7.int
   obtain ⟨rfl,sD⟩:=i7.err
   refine Am rfl rfl (Bz rfl rfl rfl (Bz rfl rfl rfl (Bz rfl rfl rfl (Bz rfl rfl rfl (Ar rfl rfl (Ar rfl rfl (Ar rfl rfl (Ar rfl rfl (o_z ?_)))))))))
   refine Al (Al (Aj (Am rfl rfl (Fg rfl rfl (fun r2=>?_) fun r2=>?_))))
   ·
    replace b0:=ip b0 r2
    refine o_z ?_
    refine Ah rfl (DW ?_)
    obtain rfl:=sm b0
    exact show Exists _ from ⟨_,(),l1 _ rfl,⟨rfl,rfl,trivial⟩,_,(hB.st n0).st q0,(l0.st n0).st q0,(m0.st n0).st q0⟩
   replace b0:=im b0 r2
   refine o_z ?_
   refine Ae rfl (AJ (Al (Al ?_)))
   obtain ⟨j7,k0,b0⟩:=bs b0
   refine AM (fun l' w'=>∃ (k7:Unit) (O':Lab),subs l' [(0,(.slice A3 x0.length c4)),(6,(.slice a0.1.1 j0.1.length a0.1.2)),(7,(.slice a0.2.1 j0.2.length a0.2.2)),(9,(.pointer (some ⟨s0,0,none⟩))),(12,(.int .i64 i1.1)),(13,(.int .i64 i1.2.1)),(14,(.int .i64 i1.2.2.1)),(80,(.bool j7))]∧Bs w A w' O'∧Vb w' (Fr 0 w' O') (.slice A3 x0.length c4) x0∧Rw 2 w' O' 3 (.slice a0.1.1 j0.1.length a0.1.2) w0.1∧Rw 3 w' O' 3 (.slice a0.2.1 j0.2.length a0.2.2) w0.2.1∧Ob 4 w' O' (.pointer (some ⟨s0,0,none⟩)) i1.2.2.2.2) ?_ ?_
   ·
    refine Aj (Am rfl rfl (Am rfl rfl (Am rfl rfl ?_)))
    obtain ⟨tD,l7,k0⟩:=bs k0
    obtain ⟨m7,n7⟩:=AO l7
    replace l0:=(l0.st n0).st q0
    obtain ⟨uD,vD,q9,y3,z3,a4,rfl,wD⟩:=l0.elem n7
    refine BW (hA:=y3) (hj:=(Int.toNat_of_nonneg m7).symm) (hlt:=z3) rfl rfl rfl ?_
    refine AE (hc:=cat0 a4) rfl rfl ?_
    refine ES rfl rfl rfl (fun s2=>?_) fun s2=>?_
    ·
     replace k0:=ip k0 s2
     refine Am rfl rfl (Au rfl rfl rfl rfl (Au rfl rfl rfl rfl (Au rfl rfl rfl rfl (Au rfl rfl rfl rfl (Au rfl rfl rfl rfl (Au rfl rfl rfl rfl (Bk rfl rfl rfl (o_z ?_))))))))
     obtain rfl:=sm k0
     exact ⟨(),_,⟨rfl,rfl,rfl,rfl,rfl,rfl,rfl,rfl,trivial⟩,(hB.st n0).st q0,(f0.st n0).st q0,l0,(m0.st n0).st q0,n1⟩
    replace k0:=im k0 s2
    refine Am rfl rfl (Aw rfl rfl (Am rfl rfl (Aw rfl rfl (Am rfl rfl (Aw rfl rfl (Am rfl rfl (Aw rfl rfl ?_)))))))
    obtain ⟨xD,o7,k0⟩:=bs k0
    obtain ⟨p7,q7⟩:=AO o7
    replace m0:=(m0.st n0).st q0
    obtain ⟨yD,zD,r9,b4,d4,e4,rfl,aE⟩:=m0.elem q7
    refine BW (hA:=b4) (hj:=(Int.toNat_of_nonneg p7).symm) (hlt:=d4) rfl rfl rfl ?_
    refine Aw rfl rfl (AE (hc:=cat0 e4) rfl rfl ?_)
    refine Aw rfl rfl (ES rfl rfl rfl (fun t2=>?_) fun t2=>?_)
    ·
     replace k0:=ip k0 t2
     refine Bp rfl rfl rfl (o_z ?_)
     obtain rfl:=sm k0
     exact ⟨(),_,⟨rfl,rfl,rfl,rfl,rfl,rfl,rfl,rfl,trivial⟩,(hB.st n0).st q0,(f0.st n0).st q0,l0,m0,n1⟩
    replace k0:=im k0 t2
    refine Bp rfl rfl rfl (o_z ?_)
    obtain rfl:=sm k0
    exact ⟨(),_,⟨rfl,rfl,rfl,rfl,rfl,rfl,rfl,rfl,trivial⟩,(hB.st n0).st q0,(f0.st n0).st q0,l0,m0,n1⟩
   replace f0:=(f0.st n0).st q0
   replace hB:=(hB.st n0).st q0
   replace l0:=(l0.st n0).st q0
   replace m0:=(m0.st n0).st q0
   rintro bE cE ⟨k7,r7,f4,hB,f0,l0,m0,n1⟩
   refine AP _ f4 ?_
   refine CY rfl (fun u2=>?_) (fun u2=>?_)
   ·
    replace b0:=ip b0 u2
    refine DW ?_
    obtain rfl:=sm b0
    exact show Exists _ from ⟨_,(),rfl,⟨rfl,rfl,rfl,rfl,trivial⟩,_,hB,f0,l0,m0,n1⟩
   replace b0:=im' b0 u2
   refine AJ (Al (Aj (Am rfl rfl (Am rfl rfl ?_))))
   obtain ⟨d1,s7,b0⟩:=bs b0
   obtain ⟨t7,v7⟩:=AO s7
   obtain ⟨dE,eE,s9,g4,h4,i4,fE,rfl,o0⟩:=f0.elem' v7
   replace o0:=Vb.of_slice o0
   obtain ⟨z1,a2,rfl⟩:=o0.form
   refine BW (hA:=g4) (hj:=(Int.toNat_of_nonneg t7).symm) (hlt:=h4) rfl rfl rfl ?_
   refine AE (hc:=cat0 i4) rfl rfl ?_
   refine AN rfl rfl ?_
   have v2:d1.length≤9223372036854775807:=Nat.le_trans o0.len.2.1 o0.len.2.2
   have gE:inI64 (d1.length:Int):=rngNat v2
   refine Am rfl rfl (o_z ?_)
   obtain ⟨w2,j4,b0⟩:=bs b0
   refine AM (aft w2 (fun (t0:(List Int)×(List Int)×Que) (b2:Unit)=>[(0,(.slice A3 x0.length c4)),(6,(.slice a0.1.1 j0.1.length a0.1.2)),(7,(.slice a0.2.1 j0.2.length a0.2.2)),(9,(.pointer (some ⟨s0,0,none⟩)))]) (fun t0 b2 w'=>∃ O':Lab,Bs w A w' O'∧Vb w' (Fr 0 w' O') (.slice A3 x0.length c4) x0∧Rw 2 w' O' 3 (.slice a0.1.1 j0.1.length a0.1.2) t0.1∧Rw 3 w' O' 3 (.slice a0.2.1 j0.2.length a0.2.2) t0.2.1∧Ob 4 w' O' (.pointer (some ⟨s0,0,none⟩)) t0.2.2)) ?_ ?_
   ·
    refine AQ (BV (σ:=(List Int)×(List Int)×Que) (X:=Unit) (d1.length) j4 rfl v2 (fun (t0:(List Int)×(List Int)×Que) (b2:Unit)=>[(0,(.slice A3 x0.length c4)),(6,(.slice a0.1.1 j0.1.length a0.1.2)),(7,(.slice a0.2.1 j0.2.length a0.2.2)),(9,(.pointer (some ⟨s0,0,none⟩))),(12,(.int .i64 i1.1)),(13,(.int .i64 i1.2.1)),(84,(.slice z1 d1.length a2))]) _ (fun t0 b2 w'=>∃ O':Lab,Bs w A w' O'∧Vb w' (Fr 0 w' O') (.slice A3 x0.length c4) x0∧Rw 2 w' O' 3 (.slice a0.1.1 j0.1.length a0.1.2) t0.1∧Rw 3 w' O' 3 (.slice a0.2.1 j0.2.length a0.2.2) t0.2.1∧Ob 4 w' O' (.pointer (some ⟨s0,0,none⟩)) t0.2.2∧Vb w' (Fr 0 w' O') (.slice z1 d1.length a2) d1) _ () ⟨r7,hB,f0,l0,m0,n1,o0⟩ ⟨rfl,rfl,rfl,rfl,rfl,rfl,rfl,rfl,rfl,trivial⟩ (fun _ _=>⟨rfl,rfl⟩) (fun _ _=>⟨rfl,rfl,rfl,rfl,trivial⟩) (fun _ _ _ ⟨O',hB,f0,e0,g0,r0,o0⟩=>⟨O',hB,f0,e0,g0,r0⟩) ⟨rfl,rfl,rfl⟩ ⟨rfl,rfl⟩ ?_)
    rintro k4 o1 t0 b2 hE t9 j2 ⟨w7,hB,f0,e0,g0,r0,o0⟩ c0 c2 x5
    have rk337:inI64 (k4:Int):=rngK j2 v2
    refine Al (Aj ?_)
    obtain ⟨iE,jE,v9,l4,m4,n4,rfl,kE,x7,lE⟩:=o0.elem' j2
    refine BW (hA:=l4) (hj:=rfl) (hlt:=m4) rfl rfl rfl ?_
    refine BM (hl:=rfl) (hc:=n4) rfl rfl ?_
    refine Cq 5 w7 rfl fun x2 mE y7 h0 p0=>?_
    refine Bf p0 rfl rfl rfl (BO rfl) (allOne rfl) fun z7 i0 p0=>?_
    replace p0:Lc 5 z7 y7 x2 106 [(.int .i64 o1.src),(.int .i64 o1.dst),(.int .i64 o1.weight)]:=p0
    refine o_z ?_
    refine Al (Aj (Am rfl rfl (AF rfl rfl (AE (hc:=Blk.cell (i:=2) (p0.1) rfl) rfl rfl ?_))))
    obtain ⟨o4,p4,c0⟩:=bs c0
    have q4:=(Cv p4)
    refine Fw (he:=p4) rfl rfl rfl ?_
    refine Am rfl rfl ?_
    obtain ⟨r4,s4,c0⟩:=bs c0
    have t4:=(Cv s4)
    refine Fw (he:=s4) rfl rfl rfl ?_
    refine Ar rfl rfl (Ar rfl rfl (o_z ?_))
    refine Al (Al ?_)
    obtain ⟨a8,d0,c0⟩:=bs c0
    refine AM (fun l' w'=>∃ (b8:Unit) (O':Lab),subs l' [(0,(.slice A3 x0.length c4)),(6,(.slice a0.1.1 j0.1.length a0.1.2)),(7,(.slice a0.2.1 j0.2.length a0.2.2)),(9,(.pointer (some ⟨s0,0,none⟩))),(12,(.int .i64 i1.1)),(13,(.int .i64 i1.2.1)),(17,(.pointer (some ⟨x2,0,none⟩))),(18,(.int .i64 o4)),(19,(.int .i64 r4)),(84,(.slice z1 d1.length a2)),(85,(.int .i64 (d1.length:Int))),(86,(.int .i64 (k4:Int))),(120,(.bool a8))]∧Bs w A w' O'∧Vb w' (Fr 0 w' O') (.slice A3 x0.length c4) x0∧Rw 2 w' O' 3 (.slice a0.1.1 j0.1.length a0.1.2) t0.1∧Rw 3 w' O' 3 (.slice a0.2.1 j0.2.length a0.2.2) t0.2.1∧Ob 4 w' O' (.pointer (some ⟨s0,0,none⟩)) t0.2.2∧Lc 5 w' O' x2 106 [(.int .i64 o1.src),(.int .i64 o1.dst),(.int .i64 o1.weight)]∧Vb w' (Fr 0 w' O') (.slice z1 d1.length a2) d1) ?_ ?_
    ·
     refine Aj (Am rfl rfl (Am rfl rfl (AF rfl rfl (AE (hc:=Blk.cell (i:=1) (p0.1) rfl) rfl rfl ?_))))
     obtain ⟨nE,c8,d0⟩:=bs d0
     obtain ⟨d8,f8⟩:=AO c8
     replace e0:=(e0.st h0).st i0
     obtain ⟨oE,pE,w9,u4,v4,w4,rfl,qE⟩:=e0.elem f8
     refine BW (hA:=u4) (hj:=(Int.toNat_of_nonneg d8).symm) (hlt:=v4) rfl rfl rfl ?_
     refine AE (hc:=cat0 w4) rfl rfl ?_
     refine CZ rfl rfl rfl (fun y2=>?_) fun y2=>?_
     ·
      replace d0:=ip d0 y2
      refine Am rfl rfl (Au rfl rfl rfl rfl (Au rfl rfl rfl rfl (Au rfl rfl rfl rfl (Au rfl rfl rfl rfl (Au rfl rfl rfl rfl (Au rfl rfl rfl rfl (Au rfl rfl rfl rfl (Au rfl rfl rfl rfl (Au rfl rfl rfl rfl (Au rfl rfl rfl rfl (Au rfl rfl rfl rfl (Au rfl rfl rfl rfl (Au rfl rfl rfl rfl (Au rfl rfl rfl rfl ?_))))))))))))))
      refine Au rfl rfl rfl rfl (Au rfl rfl rfl rfl (Bk rfl rfl rfl (o_z ?_)))
      obtain rfl:=sm d0
      exact ⟨(),_,⟨rfl,rfl,rfl,rfl,rfl,rfl,rfl,rfl,rfl,rfl,rfl,rfl,rfl,trivial⟩,(hB.st h0).st i0,(f0.st h0).st i0,e0,(g0.st h0).st i0,(r0.st h0).st i0,p0,(o0.st h0).st i0⟩
     replace d0:=im d0 y2
     refine Am rfl rfl (Aw rfl rfl (Am rfl rfl (Aw rfl rfl (Am rfl rfl (Aw rfl rfl (AF rfl rfl (Aw rfl rfl (AE (hc:=Blk.cell (i:=1) (p0.1) rfl) rfl rfl ?_))))))))
     refine Aw rfl rfl ?_
     obtain ⟨rE,g8,d0⟩:=bs d0
     obtain ⟨h8,i8⟩:=AO g8
     obtain ⟨sE,tE,x9,x4,y4,z4,rfl,uE⟩:=e0.elem i8
     refine BW (hA:=x4) (hj:=(Int.toNat_of_nonneg h8).symm) (hlt:=y4) rfl rfl rfl ?_
     refine Aw rfl rfl (AE (hc:=cat0 z4) rfl rfl ?_)
     refine Aw rfl rfl (KT rfl rfl rfl (fun z2=>?_) fun z2=>?_)
     ·
      replace d0:=ip d0 z2
      refine Aw rfl rfl (Am rfl rfl (Aw rfl rfl (Am rfl rfl (Aw rfl rfl (Am rfl rfl (Aw rfl rfl (AF rfl rfl (Aw rfl rfl (AE (hc:=Blk.cell (i:=1) (p0.1) rfl) rfl rfl ?_)))))))))
      refine Aw rfl rfl ?_
      obtain ⟨vE,j8,d0⟩:=bs d0
      obtain ⟨k8,l8⟩:=AO j8
      replace g0:=(g0.st h0).st i0
      obtain ⟨wE,xE,y9,a5,b5,c5,rfl,yE⟩:=g0.elem l8
      refine BW (hA:=a5) (hj:=(Int.toNat_of_nonneg k8).symm) (hlt:=b5) rfl rfl rfl ?_
      refine Aw rfl rfl (AE (hc:=cat0 c5) rfl rfl ?_)
      refine Aw rfl rfl (Gg rfl rfl rfl (fun a3=>?_) fun a3=>?_)
      ·
       replace d0:=ip d0 a3
       refine Aw rfl rfl (Bk rfl rfl rfl (Bp rfl rfl rfl (o_z ?_)))
       obtain rfl:=sm d0
       exact ⟨(),_,⟨rfl,rfl,rfl,rfl,rfl,rfl,rfl,rfl,rfl,rfl,rfl,rfl,rfl,trivial⟩,(hB.st h0).st i0,(f0.st h0).st i0,e0,g0,(r0.st h0).st i0,p0,(o0.st h0).st i0⟩
      replace d0:=im d0 a3
      refine Aw rfl rfl (Bk rfl rfl rfl (Bp rfl rfl rfl (o_z ?_)))
      obtain rfl:=sm d0
      exact ⟨(),_,⟨rfl,rfl,rfl,rfl,rfl,rfl,rfl,rfl,rfl,rfl,rfl,rfl,rfl,trivial⟩,(hB.st h0).st i0,(f0.st h0).st i0,e0,g0,(r0.st h0).st i0,p0,(o0.st h0).st i0⟩
     replace d0:=im d0 z2
     refine Aw rfl rfl (Am rfl rfl (Au rfl rfl rfl rfl (Au rfl rfl rfl rfl (Au rfl rfl rfl rfl (Au rfl rfl rfl rfl (Au rfl rfl rfl rfl (Au rfl rfl rfl rfl (Au rfl rfl rfl rfl (Aw rfl rfl (Bp rfl rfl rfl (Bp rfl rfl rfl (o_z ?_))))))))))))
     obtain rfl:=sm d0
     exact ⟨(),_,⟨rfl,rfl,rfl,rfl,rfl,rfl,rfl,rfl,rfl,rfl,rfl,rfl,rfl,trivial⟩,(hB.st h0).st i0,(f0.st h0).st i0,e0,(g0.st h0).st i0,(r0.st h0).st i0,p0,(o0.st h0).st i0⟩
    replace f0:=(f0.st h0).st i0
    replace hB:=(hB.st h0).st i0
    replace o0:=(o0.st h0).st i0
    replace e0:=(e0.st h0).st i0
    replace g0:=(g0.st h0).st i0
    replace r0:=(r0.st h0).st i0
    rintro zE aF ⟨b8,d5,e5,hB,f0,e0,g0,r0,p0,o0⟩
    refine AP _ e5 ?_
    refine CY rfl (fun b3=>?_) (fun b3=>?_)
    ·
     replace c0:=ip c0 b3
     refine DW ?_
     obtain rfl:=sm c0
     exact show Exists _ from ⟨_,(),rfl,⟨rfl,rfl,rfl,rfl,rfl,rfl,rfl,rfl,rfl,trivial⟩,_,hB,f0,e0,g0,r0,o0⟩
    replace c0:=im' c0 b3
    refine AJ (Al (Bt [(9,[2])] d5 ?_))
    refine AT (fuel:=7) [] [(0,true),(1,true),(2,true),(6,true),(8,true)] (by kernel_rfl) rfl ?_
    refine AH rfl rfl rfl (AR rfl rfl rfl (AS (hc:=fun w' ⟨O',hq⟩=>Blk.cell (i:=1) ((p0.st hq (by decide)).1) rfl) rfl rfl rfl ?_))
    refine AH rfl rfl rfl ?_
    obtain ⟨bF,m8,c0⟩:=bs c0
    obtain ⟨n8,f5⟩:=AO m8
    obtain ⟨cF,dF,z9,k2,aA,g5,bA,rfl,eF⟩:=e0.elemF f5
    refine BJ (hA:=k2) (hj:=(Int.toNat_of_nonneg n8).symm) (hlt:=g5) rfl rfl rfl rfl ?_
    refine AG ?_
    refine AT (fuel:=3) [2] [(3,true),(4,true),(5,true),(7,true)] (by kernel_rfl) rfl ?_
    refine AH rfl rfl rfl (AR rfl rfl rfl (AS (hc:=fun w' ⟨O',hq⟩=>Blk.cell (i:=1) ((p0.st hq (by decide)).1) rfl) rfl rfl rfl ?_))
    refine AH rfl rfl rfl (AG ?_)
    refine AV (i:=9) (by kernel_rfl) rfl ?_
    refine Dq rfl e0 (a:=o4) (vInt q4) k2 rfl rfl (AC f5) fun fF e1 e0=>?_
    have hZ:=e1.lst [2] (fun _ h=>by cases h;decide)
    refine Bg [] hZ (by kernel_rfl) ?_
    refine AT (fuel:=1) [] [(10,true)] (by kernel_rfl) rfl ?_
    obtain ⟨gF,o8,c0⟩:=bs c0
    obtain ⟨p8,h5⟩:=AO o8
    replace g0:=g0.st e1
    obtain ⟨hF,iF,cA,l2,dA,i5,eA,rfl,jF⟩:=g0.elemF h5
    refine BJ (hA:=l2) (hj:=(Int.toNat_of_nonneg p8).symm) (hlt:=i5) rfl rfl rfl rfl ?_
    refine AG ?_
    refine AV (i:=11) (by kernel_rfl) rfl ?_
    refine Dq rfl g0 (a:=r4) (vInt t4) l2 rfl rfl (AC h5) fun kF f1 g0=>?_
    refine Di (by kernel_rfl) ?_
    refine BC (by kernel_rfl) ?_
    refine Al (Aj (Am rfl rfl (Am rfl rfl (Am rfl rfl (AF rfl rfl ?_)))))
    replace p0:=(p0.st e1).st f1
    refine AE (hc:=Blk.cell (i:=1) (p0.1) rfl) rfl rfl ?_
    obtain ⟨lF,q8,c0⟩:=bs c0
    replace r0:=(r0.st e1).st f1
    refine BR (O:=d5) (FF r0 q4 t4 x7 q8) rfl rfl fun mF nF oF g1 r8=>?_
    obtain ⟨s8,t8⟩:=r8
    obtain ⟨rfl,pF⟩:=t8.err
    refine Fg rfl rfl (fun c3=>?_) fun c3=>?_
    ·
     replace c0:=ip c0 c3
     refine o_z ?_
     refine Ah rfl (Al (Aj (Am rfl rfl (Am rfl rfl (Am rfl rfl ?_)))))
     replace e0:=(e0.st f1).st g1
     obtain ⟨qF,d3,e0⟩:=e0.freeze
     replace g0:=(g0.st g1).st d3
     obtain ⟨u8,e3,g0⟩:=g0.freeze
     obtain ⟨v8,w8,c0⟩:=bs c0
     replace f0:=((((f0.st e1).st f1).st g1).st d3).st e3
     replace e0:=e0.st e3
     refine Fd (O:=u8) (R:=fun w' F v=>T2 w' F v v8) (IV Fr.lt f0 e0 g0 w8) rfl rfl fun rF j5 k5 x8 y8=>?_
     obtain ⟨sF,tF,rfl,l5,m5⟩:=y8
     obtain ⟨uF,vF,rfl⟩:=l5.form
     obtain ⟨wF,xF,rfl⟩:=m5.form
     refine Bz rfl rfl rfl (Bz rfl rfl rfl (Ar rfl rfl (Ar rfl rfl (o_z ?_))))
     refine AK ?_
     obtain rfl:=sm c0
     obtain rfl:=c2 _ rfl
     obtain rfl:=sm (Cy b0)
     obtain rfl:=y1 _ rfl
     obtain rfl:=sm (Cy hm)
     replace hB:=(((((hB.st e1).st f1).st g1).st d3).st e3).st x8
     exact ret2 rfl (AB rfl) (AB rfl) ⟨hB.ext,_,_,rfl,(Vb.mono (F:=Fr 0 j5 k5) l5 hB.out),(Vb.mono (F:=Fr 0 j5 k5) m5 hB.out)⟩
    replace c0:=im c0 c3
    refine o_z ?_
    refine Ae rfl (AJ ?_)
    obtain rfl:=sm c0
    exact show Exists _ from ⟨_,(),rfl,⟨rfl,rfl,rfl,rfl,rfl,rfl,rfl,rfl,rfl,trivial⟩,_,((hB.st e1).st f1).st g1,((f0.st e1).st f1).st g1,(e0.st f1).st g1,g0.st g1,s8,((o0.st e1).st f1).st g1⟩
   rintro yF zF ⟨aG,bG,rfl,m1,cG,hB,f0,e0,g0,r0⟩
   replace b0:=Bo b0
   obtain rfl:=sm b0
   exact show Exists _ from ⟨_,(),rfl,⟨(Ee m1 _ _ rfl),(Ee m1 _ _ rfl),(Ee m1 _ _ rfl),(Ee m1 _ _ rfl),trivial⟩,_,hB,f0,e0,g0,r0⟩
  replace b0:=im b0 q2
  refine o_z ?_
  refine Ae rfl (DW ?_)
  obtain rfl:=sm b0
  exact show Exists _ from ⟨_,(),l1 _ rfl,⟨rfl,rfl,trivial⟩,_,hB.st n0,l0.st n0,m0.st n0⟩
 rintro dG n5 ⟨eG,fG,rfl,o5,gG,hB,l0,m0⟩
 replace hm:=Bo hm
 refine AP _ o5 ?_
 refine Al (Aj (Am rfl rfl (Am rfl rfl (Ar rfl rfl (Ar rfl rfl (o_z ?_))))))
 refine AK ?_
 obtain ⟨hG,p5,l0⟩:=l0.freeze
 replace m0:=m0.st p5
 obtain ⟨q5,r5,m0⟩:=m0.freeze
 obtain rfl:=sm hm
 replace hB:=(hB.st p5).st r5
 replace l0:=l0.st r5
 exact ret2 rfl (AB rfl) (AB rfl) ⟨hB.ext,_,_,rfl,(Vb.mono (F:=Fr 0 n5 q5) l0 hB.out),(Vb.mono (F:=Fr 0 n5 q5) m0 hB.out)⟩
noncomputable def BI (x0:Spa):Option Spa :=
  bnd (AW x0.states) fun q45=>bnd (mkI 24 ([]:List Arc) q45) fun u55=>bnd (mkI 24 ([]:List Arc) q45) fun u57=>bnd (some (u55,u57):Option ((List (List Arc))×(List (List Arc)))) fun y59=>bnd (rng (ρ:=Spa) (fun (k179:Nat) (a180:Edj) (s177:(List (List Arc))×(List (List Arc)))=>bnd (atI x0.t.ops a180.label) fun a258=>bnd (atI s177.1 a180.src) fun a279=>bnd (appI 24 a279 [(⟨a180.src,a180.dst,a258.cost⟩:Arc)]) fun u304=>bnd (atI s177.1 a180.src) fun a315=>bnd (atI s177.2 a180.dst) fun a330=>bnd (appI 24 a330 [(⟨a180.dst,a180.src,a258.cost⟩:Arc)]) fun u355=>bnd (atI s177.2 a180.dst) fun a366=>some (.next ((s177.1.set (a180.src:Int).toNat u304),(s177.2.set (a180.dst:Int).toNat u355)))) x0.edges 0 (y59.1,y59.2)) fun res175=>fin res175 fun (s390:(List (List Arc))×(List (List Arc)))=>bnd (rng (ρ:=Spa) (fun (k446:Nat) (a447:Bool) (s444:(List Int))=>if a447=true then (bnd (appI 8 s444 [(k446:Int)]) fun u469=>some (.next u469)) else (some (.next s444))) x0.goals 0 ([]:List Int)) fun res442=>fin res442 fun (s485:(List Int))=>bnd (BQ s390.1 ([0]:List Int)) fun q497=>bnd (BQ s390.2 s485) fun q561=>some (⟨(⟨x0.t.vars,x0.t.init,x0.t.goal,x0.t.ops⟩:Tsk),x0.states,x0.edges,x0.goals,q497.1,q561.1,q561.2⟩:Spa)
theorem GM {w:World} {O:Lab} {p0 i0:Nat} {x0:Spa} (k5:Ob i0 w O (.pointer (some ⟨p0,0,none⟩)) x0) {r:Spa} (hm:BI x0=some r) :
    Fn Tryz.prog 51 [(.pointer (some ⟨p0,0,none⟩))] w fun v w'=>∃ O',St (eT i0) w O w' O'∧Ob i0 w' O' (.pointer (some ⟨p0,0,none⟩)) r:=by
 obtain ⟨O0,hE,wB,xB⟩:=ent1 (w:=w) (O:=O) k5.2
 have k5':=Ob.leave k5 wB xB (j:=2) (by decide)
 have hB:Bm w O0 w O0:=Bm.refl
 refine AI Tryz.func51 rfl Tryz.ntmps51 rfl ?_
 unfold BI at hm
 refine Al (Aj (Am rfl rfl (BK rfl rfl ?_)))
 obtain ⟨O2,v6,sJ,tJ,uJ,vJ,wJ,xJ,yJ,zJ,aK,S3,bK,h4,h7,s3,t3,u3,xA,v3,w3,x3,y3,z3⟩:=Spa.opn k5' 2 3 (by decide)
 obtain ⟨A8,c9,rfl⟩:=h7.form
 obtain ⟨cK,dK,rfl⟩:=s3.form
 obtain ⟨eK,fK,rfl⟩:=t3.form
 obtain ⟨gK,hK,rfl⟩:=u3.form
 obtain ⟨iK,rfl⟩:=xA.ptr
 obtain ⟨jK,kK,rfl⟩:=v3.form
 obtain ⟨lK,mK,rfl⟩:=w3.form
 obtain ⟨nK,oK,rfl⟩:=x3.form
 obtain ⟨pK,qK,rfl⟩:=y3.form
 obtain ⟨rK,sK,rfl⟩:=z3.form
 refine AF rfl rfl (AE (hc:=Blk.cell (i:=4) (h4.1) rfl) rfl rfl ?_)
 obtain ⟨tK,yB,hm⟩:=bs hm
 refine BR (O:=O2) (DM xA yB) rfl rfl fun uK vK c8 z0 zB=>?_
 obtain ⟨j5,aC⟩:=zB
 obtain ⟨rfl,wK⟩:=aC.int
 refine Ar rfl rfl (o_z ?_)
 refine Al ?_
 obtain ⟨xK,yA,hm⟩:=bs hm
 obtain ⟨yK,zA,hm⟩:=bs hm
 obtain ⟨y0,l5,hm⟩:=bs hm
 refine AM (fun l' w'=>∃ (d0:(Option Addr×Nat)×(Option Addr×Nat)) (O':Lab),subs l' [(0,(.pointer (some ⟨p0,0,none⟩))),(3,(.slice d0.1.1 y0.1.length d0.1.2)),(4,(.slice d0.2.1 y0.2.length d0.2.2))]∧Bm w O0 w' O'∧Ob 2 w' O' (.pointer (some ⟨p0,0,none⟩)) x0∧NR Arc 4 w' O' 104 106 (.slice d0.1.1 y0.1.length d0.1.2) y0.1 none∧NR Arc 5 w' O' 104 106 (.slice d0.2.1 y0.2.length d0.2.2) y0.2 none) ?_ ?_
 ·
  refine Bt [] c8 ?_
  refine AT (fuel:=4) [] [(0,true),(2,true)] (by kernel_rfl) rfl ?_
  refine AH rfl rfl rfl (AH rfl rfl rfl (AG ?_))
  refine GR (i:=1) (j:=3) (by kernel_rfl) rfl rfl ?_ ?_
  ·
   obtain ⟨bC,cC,dC,eC,fC⟩:=DY yA
   refine IR (β:=Arc) (e:=106) 4 (by decide) c8 rfl rfl rfl rfl cC dC eC rfl fun gC zK hC t1 aB=>?_
   rw [← fC] at aB ⊢
   have hZ:=t1.lst [] (fun _ h=>h.elim)
   refine Bg [] hZ (by kernel_rfl) ?_
   refine AT (fuel:=2) [] [(4,true)] (by kernel_rfl) rfl ?_
   refine Dv rfl rfl rfl (AG ?_)
   refine AV (i:=3) (by kernel_rfl) rfl ?_
   obtain ⟨iC,jC,kC,lC,mC⟩:=DY zA
   refine IR (β:=Arc) (e:=106) 5 (by decide) hC rfl rfl rfl rfl jC kC lC rfl fun nC aL bL q1 bB=>?_
   rw [← mC] at bB ⊢
   have hZ:=q1.lst [] (fun _ h=>h.elim)
   refine Bg [] hZ (by kernel_rfl) ?_
   refine AT (fuel:=0) [] [(5,true)] (by kernel_rfl) rfl ?_
   refine Dv rfl rfl rfl (AG ?_)
   refine BC (by kernel_rfl) ?_
   replace h4:=((h4.st z0).st t1).st q1
   replace h7:=((h7.st z0).st t1).st q1
   replace s3:=((s3.st z0).st t1).st q1
   replace t3:=((t3.st z0).st t1).st q1
   replace u3:=((u3.st z0).st t1).st q1
   replace v3:=((v3.st z0).st t1).st q1
   replace w3:=((w3.st z0).st t1).st q1
   replace x3:=((x3.st z0).st t1).st q1
   replace y3:=((y3.st z0).st t1).st q1
   replace z3:=((z3.st z0).st t1).st q1
   replace j5:=(j5.st t1).st q1
   obtain ⟨cL,d8,oC,pC,qC⟩:=Spa.shut (x:=x0) (l0:=2) (l1:=3) (by decide) h4 h7 s3 t3 u3 j5 v3 w3 x3 y3 z3
   obtain rfl:=sm l5
   exact ⟨(((some ⟨gC,0,none⟩),bC),((some ⟨nC,0,none⟩),iC)),_,⟨rfl,rfl,rfl,trivial⟩,((((hB.st S3).st z0).st t1).st q1).st d8,qC,(aB.st q1).st d8,bB.st d8⟩
  obtain ⟨rC,sC,tC,uC,vC⟩:=DY zA
  refine IR (β:=Arc) (e:=106) 5 (by decide) c8 rfl rfl rfl rfl sC tC uC rfl fun wC xC e8 u0 m5=>?_
  rw [← vC] at m5 ⊢
  have hZ:=u0.lst [] (fun _ h=>h.elim)
  refine Bg [] hZ (by kernel_rfl) ?_
  refine AV (i:=1) (by kernel_rfl) rfl ?_
  obtain ⟨f8,g8,h8,i8,j8⟩:=DY yA
  refine IR (β:=Arc) (e:=106) 4 (by decide) e8 rfl rfl rfl rfl g8 h8 i8 rfl fun k8 yC zC r0 n5=>?_
  rw [← j8] at n5 ⊢
  have hZ:=r0.lst [] (fun _ h=>h.elim)
  refine Bg [] hZ (by kernel_rfl) ?_
  refine AT (fuel:=0) [] [(4,true),(5,true)] (by kernel_rfl) rfl ?_
  refine Dv rfl rfl rfl (Dv rfl rfl rfl (AG ?_))
  refine BC (by kernel_rfl) ?_
  replace h4:=((h4.st z0).st u0).st r0
  replace h7:=((h7.st z0).st u0).st r0
  replace s3:=((s3.st z0).st u0).st r0
  replace t3:=((t3.st z0).st u0).st r0
  replace u3:=((u3.st z0).st u0).st r0
  replace v3:=((v3.st z0).st u0).st r0
  replace w3:=((w3.st z0).st u0).st r0
  replace x3:=((x3.st z0).st u0).st r0
  replace y3:=((y3.st z0).st u0).st r0
  replace z3:=((z3.st z0).st u0).st r0
  replace j5:=(j5.st u0).st r0
  obtain ⟨aD,a4,cB,dB,l8⟩:=Spa.shut (x:=x0) (l0:=2) (l1:=3) (by decide) h4 h7 s3 t3 u3 j5 v3 w3 x3 y3 z3
  obtain rfl:=sm l5
  exact ⟨(((some ⟨k8,0,none⟩),f8),((some ⟨wC,0,none⟩),rC)),_,⟨rfl,rfl,rfl,trivial⟩,((((hB.st S3).st z0).st u0).st r0).st a4,l8,n5.st a4,(m5.st r0).st a4⟩
 replace hB:=(hB.st S3).st z0
 rintro bD cD ⟨d0,dD,o5,hB,eD,m8,n8⟩
 refine AP _ o5 ?_
 refine Al (Al (Aj (Am rfl rfl (BK rfl rfl ?_))))
 obtain ⟨fD,gD,hD,iD,jD,kD,lD,mD,nD,oD,pD,i2,eB,p5,q5,r5,s5,t5,u5,a1,v5,w5,x5,y5⟩:=Spa.opn eD 2 3 (by decide)
 obtain ⟨qD,rD,rfl⟩:=q5.form
 obtain ⟨sD,tD,rfl⟩:=r5.form
 obtain ⟨uD,vD,rfl⟩:=s5.form
 obtain ⟨wD,xD,rfl⟩:=t5.form
 obtain ⟨yD,rfl⟩:=u5.ptr
 obtain ⟨z5,a6,rfl⟩:=a1.form
 obtain ⟨zD,aE,rfl⟩:=v5.form
 obtain ⟨bE,cE,rfl⟩:=w5.form
 obtain ⟨dE,eE,rfl⟩:=x5.form
 obtain ⟨fE,gE,rfl⟩:=y5.form
 refine AF rfl rfl (AE (hc:=Blk.cell (i:=5) (p5.1) rfl) rfl rfl ?_)
 refine AN rfl rfl ?_
 have b4:x0.edges.length≤9223372036854775807:=Nat.le_trans a1.len.2.1 a1.len.2.2
 have iE:inI64 (x0.edges.length:Int):=rngNat b4
 refine Am rfl rfl (o_z ?_)
 obtain ⟨o8,x1,fB,gB,m1⟩:=Spa.shut (x:=x0) (l0:=2) (l1:=3) (by decide) p5 q5 r5 s5 t5 u5 a1 v5 w5 x5 y5
 obtain ⟨c4,b6,hm⟩:=bs hm
 refine AM (aft c4 (fun (g1:(List (List Arc))×(List (List Arc))) (j2:Unit)=>[(0,(.pointer (some ⟨p0,0,none⟩))),(3,(.slice d0.1.1 y0.1.length d0.1.2)),(4,(.slice d0.2.1 y0.2.length d0.2.2))]) (fun g1 j2 w'=>∃ O':Lab,Bm w O0 w' O'∧Ob 2 w' O' (.pointer (some ⟨p0,0,none⟩)) x0∧NR Arc 4 w' O' 104 106 (.slice d0.1.1 y0.1.length d0.1.2) g1.1 none∧NR Arc 5 w' O' 104 106 (.slice d0.2.1 y0.2.length d0.2.2) g1.2 none)) ?_ ?_
 ·
  refine AQ ?_
  replace hB:=(hB.st i2).st x1
  replace m8:=(m8.st i2).st x1
  replace n8:=(n8.st i2).st x1
  replace a1:=a1.st x1
  refine BV (σ:=(List (List Arc))×(List (List Arc))) (X:=Unit) (x0.edges.length) b6 rfl b4 (fun (g1:(List (List Arc))×(List (List Arc))) (j2:Unit)=>[(0,(.pointer (some ⟨p0,0,none⟩))),(3,(.slice d0.1.1 y0.1.length d0.1.2)),(4,(.slice d0.2.1 y0.2.length d0.2.2)),(23,(.slice z5 x0.edges.length a6))]) _ (fun g1 j2 w'=>∃ O':Lab,Bm w O0 w' O'∧Ob 2 w' O' (.pointer (some ⟨p0,0,none⟩)) x0∧NR Arc 4 w' O' 104 106 (.slice d0.1.1 y0.1.length d0.1.2) g1.1 none∧NR Arc 5 w' O' 104 106 (.slice d0.2.1 y0.2.length d0.2.2) g1.2 none∧Vb w' (Fr 0 w' O') (.slice z5 x0.edges.length a6) x0.edges) _ () ⟨o8,hB,m1,m8,n8,a1⟩ ⟨rfl,rfl,rfl,rfl,rfl,rfl,trivial⟩ (fun _ _=>⟨rfl,rfl⟩) (fun _ _=>⟨rfl,rfl,rfl,trivial⟩) (fun _ _ _ ⟨O',hB,m1,a0,b0,a1⟩=>⟨O',hB,m1,a0,b0⟩) ⟨rfl,rfl,rfl⟩ ⟨rfl,rfl⟩ ?_
  rintro p8 g0 g1 j2 jE iB o3 ⟨q8,hB,m1,a0,b0,a1⟩ c0 y7 z7
  have rk179:inI64 (p8:Int):=rngK o3 b4
  refine Al (Aj ?_)
  obtain ⟨kE,lE,jB,c6,d6,e6,rfl,f6,mE,g6⟩:=a1.elem' o3
  refine BW (hA:=c6) (hj:=rfl) (hlt:=d6) rfl rfl rfl ?_
  refine BM (hl:=rfl) (hc:=e6) rfl rfl ?_
  refine Cq 6 q8 rfl fun r8 nE s8 y1 h0=>?_
  refine Bf h0 rfl rfl rfl (BO rfl) (allOne rfl) fun k2 z1 h0=>?_
  replace h0:Lc 6 k2 s8 r8 94 [(.int .i64 g0.src),(.int .i64 g0.label),(.int .i64 g0.dst)]:=h0
  refine o_z ?_
  refine Al (Cc (·=k2) [(0,true),(1,true),(2,true),(3,true),(4,true),(5,true),(6,true),(7,true),(8,true),(9,true),(10,true)] (by kernel_rfl) rfl (by kernel_rfl) rfl ?_)
  refine AH rfl rfl rfl (Cd rfl rfl rfl ?_)
  replace m1:=(m1.st y1).st z1
  obtain ⟨d4,oE,pE,qE,rE,sE,tE,uE,vE,wE,xE,a2,kB,l2,m2,n2,o2,b2,p2,q2,r2,s2,t2,u2⟩:=Spa.opn m1 2 3 (by decide)
  obtain ⟨yE,zE,rfl⟩:=m2.form
  obtain ⟨aF,bF,rfl⟩:=n2.form
  obtain ⟨cF,dF,rfl⟩:=o2.form
  obtain ⟨eF,fF,rfl⟩:=b2.form
  obtain ⟨gF,rfl⟩:=p2.ptr
  obtain ⟨hF,iF,rfl⟩:=q2.form
  obtain ⟨jF,kF,rfl⟩:=r2.form
  obtain ⟨lF,mF,rfl⟩:=s2.form
  obtain ⟨nF,oF,rfl⟩:=t2.form
  obtain ⟨pF,qF,rfl⟩:=u2.form
  refine AR rfl rfl rfl (AR rfl rfl rfl (BZ (hc:=Blk.cell (i:=3) (l2.1) rfl) rfl rfl rfl ?_))
  refine AR rfl rfl rfl ?_
  replace h0:=h0.st a2
  refine BZ (hc:=Blk.cell (i:=1) (h0.1) rfl) rfl rfl rfl ?_
  obtain ⟨u1,t8,c0⟩:=bs c0
  obtain ⟨u8,v8⟩:=AO t8
  obtain ⟨rF,sF,lB,h6,i6,j6,tF,uF,rfl,w8,x8,k6,vF⟩:=b2.elem' v8
  obtain ⟨wF,xF,rfl⟩:=w8.form
  obtain ⟨yF,zF,rfl⟩:=x8.form
  refine BJ (hA:=h6) (hj:=(Int.toNat_of_nonneg u8).symm) (hlt:=i6) rfl rfl rfl rfl ?_
  refine AR rfl rfl rfl (BZ (hc:=cat1 j6) rfl rfl rfl ?_)
  refine Dv rfl rfl rfl (h_z ?_)
  refine Al (Bt [(15,[4,13])] d4 ?_)
  refine AT (fuel:=7) [] [(3,true),(4,true),(5,true),(6,true),(7,true),(8,true),(9,true),(10,true),(11,true),(12,true),(13,true)] (by kernel_rfl) rfl ?_
  refine AH rfl rfl rfl (AR rfl rfl rfl (AS (hc:=fun w' ⟨O',hq⟩=>Blk.cell (i:=0) ((h0.st hq (by decide)).1) rfl) rfl rfl rfl ?_))
  obtain ⟨v2,y8,c0⟩:=bs c0
  obtain ⟨z8,e4⟩:=AO y8
  replace a0:=((a0.st y1).st z1).st a2
  obtain ⟨aG,bG,n1,l6⟩:=a0.at e4
  refine BJ (hA:=n1) (hj:=(Int.toNat_of_nonneg z8).symm) (hlt:=l6) rfl rfl rfl rfl ?_
  obtain ⟨m6,n6,r1,w2⟩:=NR.peek a0 n1 e4
  replace w2:Vb k2 (FrS [4] k2 d4) (.slice m6 v2.length n6) v2:=w2
  refine AS (hc:=fun w' ⟨O',hq⟩=>NR.stay a0 n1 hq (by decide) r1) rfl rfl rfl ?_
  refine AR rfl rfl rfl (AS (hc:=fun w' ⟨O',hq⟩=>Blk.cell (i:=0) ((h0.st hq (by decide)).1) rfl) rfl rfl rfl ?_)
  refine AR rfl rfl rfl (AS (hc:=fun w' ⟨O',hq⟩=>Blk.cell (i:=2) ((h0.st hq (by decide)).1) rfl) rfl rfl rfl ?_)
  refine AH rfl rfl rfl (Fu rfl rfl rfl rfl ?_)
  refine AG ?_
  refine AT (fuel:=4) [4,13] [(0,true),(1,true),(2,true)] (by kernel_rfl) rfl ?_
  refine AH rfl rfl rfl (AR rfl rfl rfl (AS (hc:=fun w' ⟨O',hq⟩=>Blk.cell (i:=0) ((h0.st hq (by decide)).1) rfl) rfl rfl rfl ?_))
  refine AG ?_
  refine AV (i:=14) (by kernel_rfl) rfl ?_
  refine BX 7 (by decide) d4 (xs:=([(⟨g0.src,g0.dst,u1.cost⟩:Arc)]:List Arc)) rfl rfl rfl rfl ⟨(Vb.ofAgg (cs:=[(.int .i64 g0.src),(.int .i64 g0.dst),(.int .i64 u1.cost)]) (x:=(⟨g0.src,g0.dst,u1.cost⟩:Arc)) rfl ⟨rfl,f6,g6,k6⟩),trivial⟩ (by decide) (by decide) rfl fun cG a9 dG e0 f4=>?_
  have hZ:=e0.lst [] (fun _ h=>h.elim)
  replace r1:=NR.stay a0 n1 e0 id r1
  replace w2:=w2.stS e0 id (fun _ _=>id)
  refine Bg [(15,[4,13])] hZ (by kernel_rfl) ?_
  refine AV (i:=15) (by kernel_rfl) rfl ?_
  replace a0:=a0.st e0
  obtain ⟨b9,j0,a0,g4⟩:=NR.take' a0 n1 e4 r1 13 (by decide) (by decide)
  replace g4:Rw 13 a9 b9 106 (.slice m6 v2.length n6) v2:=g4
  have hZ:=j0.lst [4] (fun _ h=>by cases h;decide)
  obtain ⟨d9,i4,c0⟩:=bs c0
  obtain ⟨i4,e9,f9⟩:=Cg i4
  replace f4:=f4.st j0
  refine CH rfl g4 (f4.rd) rfl rfl (by decide) e9 f9 rfl fun eG fG gG hG k0 o6=>?_
  rw [← i4] at o6 ⊢
  replace hZ:=hZ.cmp k0 [4,13] (fun _ h=>by cases h;decide) rfl
  refine Bg [] hZ (by kernel_rfl) ?_
  refine AT (fuel:=1) [] [(16,true)] (by kernel_rfl) rfl ?_
  obtain ⟨g9,h9,c0⟩:=bs c0
  obtain ⟨i9,p6⟩:=AO h9
  replace a0:=a0.st k0
  obtain ⟨iG,jG,p3,q6⟩:=a0.at p6
  refine BJ (hA:=p3) (hj:=(Int.toNat_of_nonneg i9).symm) (hlt:=q6) rfl rfl rfl rfl ?_
  refine AG ?_
  refine AV (i:=17) (by kernel_rfl) rfl ?_
  refine Ns (a:=g9) (off:=0) a0 o6 (by decide) p3 p6 rfl rfl rfl rfl (by decide) fun j4 x2 o0 k4=>?_
  replace k4:NR Arc 4 j4 x2 104 106 (.slice d0.1.1 y0.1.length d0.1.2) (g1.1.set (g0.src:Int).toNat d9) none:=k4
  refine Di (by kernel_rfl) ?_
  refine BC (by kernel_rfl) ?_
  refine Bt [(15,[5,14])] x2 ?_
  refine AT (fuel:=7) [] [(3,true),(4,true),(5,true),(6,true),(7,true),(8,true),(9,true),(10,true),(11,true),(12,true),(13,true)] (by kernel_rfl) rfl ?_
  refine AH rfl rfl rfl (AR rfl rfl rfl ?_)
  replace h0:=(((h0.st e0).st j0).st k0).st o0
  refine AS (hc:=fun w' ⟨O',hq⟩=>Blk.cell (i:=2) ((h0.st hq (by decide)).1) rfl) rfl rfl rfl ?_
  obtain ⟨y2,j9,c0⟩:=bs c0
  obtain ⟨k9,l4⟩:=AO j9
  replace b0:=((((((b0.st y1).st z1).st a2).st e0).st j0).st k0).st o0
  obtain ⟨kG,lG,o1,r6⟩:=b0.at l4
  refine BJ (hA:=o1) (hj:=(Int.toNat_of_nonneg k9).symm) (hlt:=r6) rfl rfl rfl rfl ?_
  obtain ⟨s6,t6,s1,z2⟩:=NR.peek b0 o1 l4
  replace z2:Vb j4 (FrS [5] j4 x2) (.slice s6 y2.length t6) y2:=z2
  refine AS (hc:=fun w' ⟨O',hq⟩=>NR.stay b0 o1 hq (by decide) s1) rfl rfl rfl ?_
  refine AR rfl rfl rfl (AS (hc:=fun w' ⟨O',hq⟩=>Blk.cell (i:=2) ((h0.st hq (by decide)).1) rfl) rfl rfl rfl ?_)
  refine AR rfl rfl rfl (AS (hc:=fun w' ⟨O',hq⟩=>Blk.cell (i:=0) ((h0.st hq (by decide)).1) rfl) rfl rfl rfl ?_)
  refine AH rfl rfl rfl (Fu rfl rfl rfl rfl ?_)
  refine AG ?_
  refine AT (fuel:=4) [5,14] [(0,true),(1,true),(2,true)] (by kernel_rfl) rfl ?_
  refine AH rfl rfl rfl (AR rfl rfl rfl (AS (hc:=fun w' ⟨O',hq⟩=>Blk.cell (i:=2) ((h0.st hq (by decide)).1) rfl) rfl rfl rfl ?_))
  refine AG ?_
  refine AV (i:=14) (by kernel_rfl) rfl ?_
  refine BX 9 (by decide) x2 (xs:=([(⟨g0.dst,g0.src,u1.cost⟩:Arc)]:List Arc)) rfl rfl rfl rfl ⟨(Vb.ofAgg (cs:=[(.int .i64 g0.dst),(.int .i64 g0.src),(.int .i64 u1.cost)]) (x:=(⟨g0.dst,g0.src,u1.cost⟩:Arc)) rfl ⟨rfl,g6,f6,k6⟩),trivial⟩ (by decide) (by decide) rfl fun mG l9 nG f0 m4=>?_
  have hZ:=f0.lst [] (fun _ h=>h.elim)
  replace s1:=NR.stay b0 o1 f0 id s1
  replace z2:=z2.stS f0 id (fun _ _=>id)
  refine Bg [(15,[5,14])] hZ (by kernel_rfl) ?_
  refine AV (i:=15) (by kernel_rfl) rfl ?_
  replace b0:=b0.st f0
  obtain ⟨m9,m0,b0,n4⟩:=NR.take' b0 o1 l4 s1 14 (by decide) (by decide)
  replace n4:Rw 14 l9 m9 106 (.slice s6 y2.length t6) y2:=n4
  have hZ:=m0.lst [5] (fun _ h=>by cases h;decide)
  obtain ⟨n9,o4,c0⟩:=bs c0
  obtain ⟨o4,o9,p9⟩:=Cg o4
  replace m4:=m4.st m0
  refine CH rfl n4 (m4.rd) rfl rfl (by decide) o9 p9 rfl fun oG pG qG rG n0 u6=>?_
  rw [← o4] at u6 ⊢
  replace hZ:=hZ.cmp n0 [5,14] (fun _ h=>by cases h;decide) rfl
  refine Bg [] hZ (by kernel_rfl) ?_
  refine AT (fuel:=1) [] [(16,true)] (by kernel_rfl) rfl ?_
  obtain ⟨q9,r9,c0⟩:=bs c0
  obtain ⟨s9,w6⟩:=AO r9
  replace b0:=b0.st n0
  obtain ⟨sG,tG,q3,x6⟩:=b0.at w6
  refine BJ (hA:=q3) (hj:=(Int.toNat_of_nonneg s9).symm) (hlt:=x6) rfl rfl rfl rfl ?_
  refine AG ?_
  refine AV (i:=17) (by kernel_rfl) rfl ?_
  refine Ns (a:=q9) (off:=0) b0 u6 (by decide) q3 w6 rfl rfl rfl rfl (by decide) fun t9 u9 s0 p4=>?_
  replace p4:NR Arc 5 t9 u9 104 106 (.slice d0.2.1 y0.2.length d0.2.2) (g1.2.set (g0.dst:Int).toNat n9) none:=p4
  refine Di (by kernel_rfl) ?_
  refine BC (by kernel_rfl) ?_
  replace l2:=(((((((l2.st e0).st j0).st k0).st o0).st f0).st m0).st n0).st s0
  replace m2:=(((((((m2.st e0).st j0).st k0).st o0).st f0).st m0).st n0).st s0
  replace n2:=(((((((n2.st e0).st j0).st k0).st o0).st f0).st m0).st n0).st s0
  replace o2:=(((((((o2.st e0).st j0).st k0).st o0).st f0).st m0).st n0).st s0
  replace b2:=(((((((b2.st e0).st j0).st k0).st o0).st f0).st m0).st n0).st s0
  replace p2:=(((((((p2.st e0).st j0).st k0).st o0).st f0).st m0).st n0).st s0
  replace q2:=(((((((q2.st e0).st j0).st k0).st o0).st f0).st m0).st n0).st s0
  replace r2:=(((((((r2.st e0).st j0).st k0).st o0).st f0).st m0).st n0).st s0
  replace s2:=(((((((s2.st e0).st j0).st k0).st o0).st f0).st m0).st n0).st s0
  replace t2:=(((((((t2.st e0).st j0).st k0).st o0).st f0).st m0).st n0).st s0
  replace u2:=(((((((u2.st e0).st j0).st k0).st o0).st f0).st m0).st n0).st s0
  obtain ⟨uG,a3,mB,nB,v9⟩:=Spa.shut (x:=x0) (l0:=2) (l1:=3) (by decide) l2 m2 n2 o2 b2 p2 q2 r2 s2 t2 u2
  obtain rfl:=sm c0
  exact show Exists _ from ⟨_,(),rfl,⟨rfl,rfl,rfl,rfl,rfl,rfl,trivial⟩,_,(((((((((((hB.st y1).st z1).st a2).st e0).st j0).st k0).st o0).st f0).st m0).st n0).st s0).st a3,v9,((((k4.st f0).st m0).st n0).st s0).st a3,p4.st a3,(((((((((((a1.st y1).st z1).st a2).st e0).st j0).st k0).st o0).st f0).st m0).st n0).st s0).st a3⟩
 replace hB:=(hB.st i2).st x1
 rintro vG wG ⟨b3,xG,rfl,y6,yG,hB,m1,a0,b0⟩
 replace hm:=Bo hm
 refine AP _ y6 ?_
 refine Al (Aj (Ar rfl rfl (o_z ?_)))
 refine Al (Al (Aj (Am rfl rfl (BK rfl rfl ?_))))
 obtain ⟨zG,aH,bH,cH,dH,eH,fH,gH,hH,iH,jH,v1,oB,z6,a7,b7,c7,d7,e7,f7,w0,g7,i7,j7⟩:=Spa.opn m1 2 3 (by decide)
 obtain ⟨kH,lH,rfl⟩:=a7.form
 obtain ⟨mH,nH,rfl⟩:=b7.form
 obtain ⟨oH,pH,rfl⟩:=c7.form
 obtain ⟨qH,rH,rfl⟩:=d7.form
 obtain ⟨sH,rfl⟩:=e7.ptr
 obtain ⟨tH,uH,rfl⟩:=f7.form
 obtain ⟨k7,l7,rfl⟩:=w0.form
 obtain ⟨vH,wH,rfl⟩:=g7.form
 obtain ⟨xH,yH,rfl⟩:=i7.form
 obtain ⟨zH,aI,rfl⟩:=j7.form
 refine AF rfl rfl (AE (hc:=Blk.cell (i:=6) (z6.1) rfl) rfl rfl ?_)
 refine AN rfl rfl ?_
 have q4:x0.goals.length≤9223372036854775807:=Nat.le_trans w0.len.2.1 w0.len.2.2
 have bI:inI64 (x0.goals.length:Int):=rngNat q4
 refine Am rfl rfl (o_z ?_)
 obtain ⟨w9,p1,pB,qB,h1⟩:=Spa.shut (x:=x0) (l0:=2) (l1:=3) (by decide) z6 a7 b7 c7 d7 e7 f7 w0 g7 i7 j7
 obtain ⟨r4,m7,hm⟩:=bs hm
 refine AM (aft r4 (fun (i1:(List Int)) (t0:(Option Addr×Nat))=>[(0,(.pointer (some ⟨p0,0,none⟩))),(3,(.slice d0.1.1 y0.1.length d0.1.2)),(4,(.slice d0.2.1 y0.2.length d0.2.2)),(8,(.slice t0.1 i1.length t0.2))]) (fun i1 t0 w'=>∃ O':Lab,Bm w O0 w' O'∧Ob 2 w' O' (.pointer (some ⟨p0,0,none⟩)) x0∧NR Arc 4 w' O' 104 106 (.slice d0.1.1 y0.1.length d0.1.2) b3.1 none∧NR Arc 5 w' O' 104 106 (.slice d0.2.1 y0.2.length d0.2.2) b3.2 none∧Rw 15 w' O' 3 (.slice t0.1 i1.length t0.2) i1)) ?_ ?_
 ·
  refine AQ ?_
  replace hB:=(hB.st v1).st p1
  replace a0:=(a0.st v1).st p1
  replace b0:=(b0.st v1).st p1
  replace w0:=w0.st p1
  refine BV (σ:=(List Int)) (X:=(Option Addr×Nat)) (x0.goals.length) m7 rfl q4 (fun (i1:(List Int)) (t0:(Option Addr×Nat))=>[(0,(.pointer (some ⟨p0,0,none⟩))),(3,(.slice d0.1.1 y0.1.length d0.1.2)),(4,(.slice d0.2.1 y0.2.length d0.2.2)),(8,(.slice t0.1 i1.length t0.2)),(77,(.slice k7 x0.goals.length l7))]) _ (fun i1 t0 w'=>∃ O':Lab,Bm w O0 w' O'∧Ob 2 w' O' (.pointer (some ⟨p0,0,none⟩)) x0∧NR Arc 4 w' O' 104 106 (.slice d0.1.1 y0.1.length d0.1.2) b3.1 none∧NR Arc 5 w' O' 104 106 (.slice d0.2.1 y0.2.length d0.2.2) b3.2 none∧Rw 15 w' O' 3 (.slice t0.1 i1.length t0.2) i1∧Vb w' (Fr 0 w' O') (.slice k7 x0.goals.length l7) x0.goals) _ (none,0) ⟨w9,hB,h1,a0,b0,(Rw.nil 15 (by decide)),w0⟩ ⟨rfl,rfl,rfl,rfl,rfl,rfl,rfl,trivial⟩ (fun _ _=>⟨rfl,rfl⟩) (fun _ _=>⟨rfl,rfl,rfl,rfl,trivial⟩) (fun _ _ _ ⟨O',hB,h1,a0,b0,j1,w0⟩=>⟨O',hB,h1,a0,b0,j1⟩) ⟨rfl,rfl,rfl⟩ ⟨rfl,rfl⟩ ?_
  rintro n7 cI i1 t0 dI rB r3 ⟨eI,hB,h1,a0,b0,j1,w0⟩ v0 a8 b8
  have rk446:inI64 (n7:Int):=rngK r3 q4
  refine Al (Aj (Am rfl rfl ?_))
  obtain ⟨fI,gI,sB,o7,p7,q7,rfl⟩:=w0.elem' r3
  refine BW (hA:=o7) (hj:=rfl) (hlt:=p7) rfl rfl rfl ?_
  refine AE (hc:=cat0 q7) rfl rfl ?_
  refine Ar rfl rfl (Ar rfl rfl (o_z ?_))
  refine Al (Aj (Am rfl rfl (o_z ?_)))
  refine CY rfl (fun s4=>?_) (fun s4=>?_)
  ·
   replace v0:=ip v0 s4
   refine Aj (Am rfl rfl (Am rfl rfl ?_))
   obtain ⟨hI,t4,v0⟩:=bs v0
   obtain ⟨t4,x9,y9⟩:=Cg t4
   refine Ej rfl (a:=(n7:Int)) j1 (vInt rk446) (fun _=>rfl) rfl (by decide) (by decide) x9 y9 ⟨rfl,rfl⟩ fun iI z9 aA jI kI c2 r7=>?_
   rw [← t4] at r7 ⊢
   refine Ar rfl rfl (o_z ?_)
   obtain rfl:=sm v0
   exact show Exists _ from ⟨_,(z9,aA),rfl,⟨rfl,rfl,rfl,rfl,rfl,rfl,rfl,trivial⟩,_,hB.st c2,h1.st c2,a0.st c2,b0.st c2,r7,w0.st c2⟩
  replace v0:=im' v0 s4
  refine AJ ?_
  obtain rfl:=sm v0
  exact show Exists _ from ⟨_,(t0.1,t0.2),rfl,⟨rfl,rfl,rfl,rfl,rfl,rfl,rfl,trivial⟩,_,hB,h1,a0,b0,j1,w0⟩
 replace hB:=(hB.st v1).st p1
 replace a0:=(a0.st v1).st p1
 replace b0:=(b0.st v1).st p1
 rintro lI mI ⟨nI,oI,rfl,s7,bA,hB,h1,a0,b0,j1⟩
 replace hm:=Bo hm
 refine AP _ s7 ?_
 refine Al (Aj (Am rfl rfl (Am rfl rfl (BX 16 (by decide) bA (xs:=(([0]:List Int):List Int)) rfl rfl rfl rfl ⟨(vInt (show inI64 (0) from by decide)),trivial⟩ (by decide) (by decide) rfl fun pI qI rI d2 e2=>?_))))
 replace a0:=a0.st d2
 obtain ⟨sI,f2,a0⟩:=a0.freeze
 replace e2:=e2.st f2
 obtain ⟨cA,g2,e2⟩:=e2.freeze
 obtain ⟨h2,dA,hm⟩:=bs hm
 replace a0:=a0.st g2
 refine Fd (O:=cA) (R:=fun w' F v=>T2 w' F v h2) (FU Fr.lt a0 e2 dA) rfl rfl fun tI uI vI c3 eA=>?_
 obtain ⟨wI,xI,rfl,d3,fA⟩:=eA
 obtain ⟨u4,v4,rfl⟩:=d3.form
 obtain ⟨yI,zI,rfl⟩:=fA.form
 refine Am rfl rfl (Bz rfl rfl rfl (Bz rfl rfl rfl (BK rfl rfl ?_)))
 replace h1:=(((h1.st d2).st f2).st g2).st c3
 obtain ⟨gA,aJ,bJ,cJ,dJ,eJ,fJ,gJ,hJ,iJ,jJ,e3,tB,q0,f3,g3,h3,i3,j3,k3,l3,iA,jA,kA⟩:=Spa.opn h1 2 3 (by decide)
 obtain ⟨w4,x4,rfl⟩:=f3.form
 obtain ⟨y4,z4,rfl⟩:=g3.form
 obtain ⟨a5,b5,rfl⟩:=h3.form
 obtain ⟨c5,d5,rfl⟩:=i3.form
 obtain ⟨e5,rfl⟩:=j3.ptr
 obtain ⟨f5,g5,rfl⟩:=k3.form
 obtain ⟨h5,i5,rfl⟩:=l3.form
 obtain ⟨kJ,lJ,rfl⟩:=iA.form
 obtain ⟨lA,mA,rfl⟩:=jA.form
 obtain ⟨t7,u7,rfl⟩:=kA.form
 refine AF rfl rfl (Bf q0 rfl rfl rfl (BO rfl) (allOne rfl) fun nA b1 q0=>?_)
 replace q0:Lc 2 nA gA p0 87 [(.slice w4 x0.t.vars.length x4),(.slice y4 x0.t.init.length z4),(.slice a5 x0.t.goal.length b5),(.slice c5 x0.t.ops.length d5),(.pointer (some ⟨e5,0,none⟩)),(.slice f5 x0.edges.length g5),(.slice h5 x0.goals.length i5),(.slice u4 h2.1.length v4),(.slice lA x0.distances.length mA),(.slice t7 x0.steps.length u7)]:=q0
 refine o_z ?_
 refine Aj (Am rfl rfl (Am rfl rfl (Am rfl rfl (Am rfl rfl ?_))))
 replace b0:=(((((b0.st d2).st f2).st g2).st c3).st e3).st b1
 obtain ⟨mJ,c1,b0⟩:=b0.freeze
 replace j1:=((((((j1.st d2).st f2).st g2).st c3).st e3).st b1).st c1
 obtain ⟨oA,d1,j1⟩:=j1.freeze
 obtain ⟨w1,pA,hm⟩:=bs hm
 replace b0:=b0.st d1
 refine Fd (O:=oA) (R:=fun w' F v=>T2 w' F v w1) (FU Fr.lt b0 j1 pA) rfl rfl fun nJ oJ v7 k1 qA=>?_
 obtain ⟨pJ,qJ,rfl,m3,n3⟩:=qA
 obtain ⟨w7,x7,rfl⟩:=m3.form
 obtain ⟨rA,sA,rfl⟩:=n3.form
 refine Am rfl rfl (Bz rfl rfl rfl (Bz rfl rfl rfl (BK rfl rfl (AF rfl rfl ?_))))
 replace q0:=((q0.st c1).st d1).st k1
 refine Bf q0 rfl rfl rfl (BO rfl) (allOne rfl) fun tA e1 q0=>?_
 replace q0:Lc 2 tA v7 p0 87 [(.slice w4 x0.t.vars.length x4),(.slice y4 x0.t.init.length z4),(.slice a5 x0.t.goal.length b5),(.slice c5 x0.t.ops.length d5),(.pointer (some ⟨e5,0,none⟩)),(.slice f5 x0.edges.length g5),(.slice h5 x0.goals.length i5),(.slice u4 h2.1.length v4),(.slice w7 w1.1.length x7),(.slice t7 x0.steps.length u7)]:=q0
 refine BK rfl rfl (AF rfl rfl (Bf q0 rfl rfl rfl (BO rfl) (allOne rfl) fun uA f1 q0=>?_))
 replace q0:Lc 2 uA v7 p0 87 [(.slice w4 x0.t.vars.length x4),(.slice y4 x0.t.init.length z4),(.slice a5 x0.t.goal.length b5),(.slice c5 x0.t.ops.length d5),(.pointer (some ⟨e5,0,none⟩)),(.slice f5 x0.edges.length g5),(.slice h5 x0.goals.length i5),(.slice u4 h2.1.length v4),(.slice w7 w1.1.length x7),(.slice rA w1.2.length sA)]:=q0
 refine o_z ?_
 replace d3:=((((((d3.st e3).st b1).st c1).st d1).st k1).st e1).st f1
 replace f3:=(((((f3.st b1).st c1).st d1).st k1).st e1).st f1
 replace g3:=(((((g3.st b1).st c1).st d1).st k1).st e1).st f1
 replace h3:=(((((h3.st b1).st c1).st d1).st k1).st e1).st f1
 replace i3:=(((((i3.st b1).st c1).st d1).st k1).st e1).st f1
 replace j3:=(((((j3.st b1).st c1).st d1).st k1).st e1).st f1
 replace k3:=(((((k3.st b1).st c1).st d1).st k1).st e1).st f1
 replace l3:=(((((l3.st b1).st c1).st d1).st k1).st e1).st f1
 replace m3:=(m3.st e1).st f1
 replace n3:=(n3.st e1).st f1
 obtain ⟨rJ,vA,uB,vB,wA⟩:=Spa.shut (x:=(⟨(⟨x0.t.vars,x0.t.init,x0.t.goal,x0.t.ops⟩:Tsk),x0.states,x0.edges,x0.goals,h2.1,w1.1,w1.2⟩:Spa)) (l0:=2) (l1:=3) (by decide) q0 f3 g3 h3 i3 j3 k3 l3 d3 m3 n3
 obtain rfl:=sm hm
 replace hB:=(((((((((((hB.st d2).st f2).st g2).st c3).st e3).st b1).st c1).st d1).st k1).st e1).st f1).st vA
 obtain ⟨O',hS',hz,hl⟩:=hE.leave (fun q=>if q=2 then i0 else 0) rfl hB
 exact ret0n rfl  ⟨O',hS',(Ob.leave wA hz (hl 2 (by decide) (by decide)) k5.2)⟩
noncomputable def BE (x0:Spa):Option Int :=
  bnd (AW x0.states) fun q45=>some q45
theorem HW {w:World} {O:Lab} {p0 i0:Nat} {x0:Spa} (b0:Ob i0 w O (.pointer (some ⟨p0,0,none⟩)) x0) {r:Int} (hm:BE x0=some r) :
    Fn Tryz.prog 21 [(.pointer (some ⟨p0,0,none⟩))] w fun v w'=>∃ O',St (eT i0) w O w' O'∧Ob i0 w' O' (.pointer (some ⟨p0,0,none⟩)) x0∧Vb w' (Fr 0 w' O') v r:=by
 obtain ⟨O0,hE,n0,o0⟩:=ent1 (w:=w) (O:=O) b0.2
 have b0':=Ob.leave b0 n0 o0 (j:=2) (by decide)
 have hB:Bm w O0 w O0:=Bm.refl
 refine AI Tryz.func21 rfl Tryz.ntmps21 rfl ?_
 unfold BE at hm
 refine Al (Aj (Ar rfl rfl (o_z ?_)))
 refine Al (Al (Aj (Am rfl rfl (Ep rfl rfl ?_))))
 refine o_z ?_
 refine Ae rfl (AJ (Al (Aj (Am rfl rfl (BK rfl rfl ?_)))))
 obtain ⟨O2,v6,a1,b1,c1,d1,e1,f1,g1,h1,i1,S3,j1,h4,h7,c0,d0,e0,m0,f0,g0,h0,j0,k0⟩:=Spa.opn b0' 2 3 (by decide)
 obtain ⟨A8,c9,rfl⟩:=h7.form
 obtain ⟨k1,m1,rfl⟩:=c0.form
 obtain ⟨n1,o1,rfl⟩:=d0.form
 obtain ⟨p1,q1,rfl⟩:=e0.form
 obtain ⟨r1,rfl⟩:=m0.ptr
 obtain ⟨s1,t1,rfl⟩:=f0.form
 obtain ⟨u1,v1,rfl⟩:=g0.form
 obtain ⟨w1,x1,rfl⟩:=h0.form
 obtain ⟨y1,z1,rfl⟩:=j0.form
 obtain ⟨a2,b2,rfl⟩:=k0.form
 refine AF rfl rfl (AE (hc:=Blk.cell (i:=4) (h4.1) rfl) rfl rfl ?_)
 obtain ⟨c2,q0,hm⟩:=bs hm
 refine BR (O:=O2) (DM m0 q0) rfl rfl fun d2 e2 f2 a0 r0=>?_
 obtain ⟨s0,t0⟩:=r0
 obtain ⟨rfl,u0⟩:=t0.int
 refine Ar rfl rfl (o_z ?_)
 refine AK ?_
 replace h4:=h4.st a0
 replace h7:=h7.st a0
 replace c0:=c0.st a0
 replace d0:=d0.st a0
 replace e0:=e0.st a0
 replace f0:=f0.st a0
 replace g0:=g0.st a0
 replace h0:=h0.st a0
 replace j0:=j0.st a0
 replace k0:=k0.st a0
 obtain ⟨g2,v0,w0,y0,z0⟩:=Spa.shut (x:=x0) (l0:=2) (l1:=3) (by decide) h4 h7 c0 d0 e0 s0 f0 g0 h0 j0 k0
 obtain rfl:=sm hm
 replace hB:=((hB.st S3).st a0).st v0
 obtain ⟨O',hS',hz,hl⟩:=hE.leave (fun q=>if q=2 then i0 else 0) rfl hB
 exact ret1v rfl (AB rfl) ⟨O',hS',(Ob.leave z0 hz (hl 2 (by decide) (by decide)) b0.2),(vInt u0)⟩
noncomputable def CT (x0:Spa):Option (List Edj) :=
  bnd (Cm x0.edges) fun q45=>some q45
theorem Hh {w:World} {O:Lab} {p0 i0:Nat} {x0:Spa} (c0:Ob i0 w O (.pointer (some ⟨p0,0,none⟩)) x0) {r:(List Edj)} (hm:CT x0=some r) :
    Fn Tryz.prog 33 [(.pointer (some ⟨p0,0,none⟩))] w fun v w'=>∃ O',St (eT i0) w O w' O'∧Ob i0 w' O' (.pointer (some ⟨p0,0,none⟩)) x0∧Vb w' (Fr 0 w' O') v r:=by
 obtain ⟨O0,hE,r0,s0⟩:=ent1 (w:=w) (O:=O) c0.2
 have c0':=Ob.leave c0 r0 s0 (j:=2) (by decide)
 have hB:Bm w O0 w O0:=Bm.refl
 refine AI Tryz.func33 rfl Tryz.ntmps33 rfl ?_
 unfold CT at hm
 refine Al (Aj (Ar rfl rfl (o_z ?_)))
 refine Al (Al (Aj (Am rfl rfl (Ep rfl rfl ?_))))
 refine o_z ?_
 refine Ae rfl (AJ (Al (Aj (Am rfl rfl (BK rfl rfl ?_)))))
 obtain ⟨O2,v6,y0,z0,a1,b1,c1,d1,e1,f1,g1,S3,h1,h4,h7,f0,g0,h0,j0,d0,k0,m0,n0,o0⟩:=Spa.opn c0' 2 3 (by decide)
 obtain ⟨A8,c9,rfl⟩:=h7.form
 obtain ⟨i1,j1,rfl⟩:=f0.form
 obtain ⟨k1,m1,rfl⟩:=g0.form
 obtain ⟨n1,o1,rfl⟩:=h0.form
 obtain ⟨p1,rfl⟩:=j0.ptr
 obtain ⟨q1,r1,rfl⟩:=d0.form
 obtain ⟨s1,t1,rfl⟩:=k0.form
 obtain ⟨u1,v1,rfl⟩:=m0.form
 obtain ⟨w1,x1,rfl⟩:=n0.form
 obtain ⟨y1,z1,rfl⟩:=o0.form
 refine AF rfl rfl (AE (hc:=Blk.cell (i:=5) (h4.1) rfl) rfl rfl ?_)
 obtain ⟨a2,t0,hm⟩:=bs hm
 refine BG 4 (by decide) (O:=O2) (Cn Fr.lt d0 t0) rfl rfl fun b2 c2 d2 e2 a0 e0=>?_
 refine Ar rfl rfl (o_z ?_)
 refine AK ?_
 obtain ⟨f2,b0,e0⟩:=e0.freeze
 replace h4:=(h4.st a0).st b0
 replace h7:=(h7.st a0).st b0
 replace f0:=(f0.st a0).st b0
 replace g0:=(g0.st a0).st b0
 replace h0:=(h0.st a0).st b0
 replace j0:=(j0.st a0).st b0
 replace d0:=(d0.st a0).st b0
 replace k0:=(k0.st a0).st b0
 replace m0:=(m0.st a0).st b0
 replace n0:=(n0.st a0).st b0
 replace o0:=(o0.st a0).st b0
 obtain ⟨g2,q0,u0,v0,w0⟩:=Spa.shut (x:=x0) (l0:=2) (l1:=3) (by decide) h4 h7 f0 g0 h0 j0 d0 k0 m0 n0 o0
 obtain rfl:=sm hm
 replace hB:=(((hB.st S3).st a0).st b0).st q0
 obtain ⟨O',hS',hz,hl⟩:=hE.leave (fun q=>if q=2 then i0 else 0) rfl hB
 replace e0:=e0.st q0
 exact ret1v rfl (AB rfl) ⟨O',hS',(Ob.leave w0 hz (hl 2 (by decide) (by decide)) c0.2),(Vb.mono e0 hz)⟩
end
section
open Go Go.RowKit
theorem Iu {P:Program} {t:TypeId} [h:TIface P t] (s:TypeId) (v:Value) (w:World):(Op.equal t .nilIface (.iface s v)).run P w=.ok false w:=by
  obtain ⟨ms,hm⟩:=h.eq
  have hd:∀ d:Nat,(Op.equalIn (d + 1) t .nilIface (.iface s v)).run P w=.ok false w:=fun d=>by
    simp [Op.equalIn,run_underlying hm]
  exact hd 9999
theorem Qk {P:Program} {l:Env} {w:World} {dst:Option Tmp} {ty:TypeId} {pos:String} {aft:Array Edge} {t u:TypeId} [TIface P t] {x y:Operand} {s:TypeId} {v:Value} (hx:opv l x=some .nilIface) (hy:opv l y=some (.iface s v)):Ev P ⟨dst,.binOp .eql t x y u,ty,pos,aft,none⟩ l w (.bool false):=fun _ a d ha=>by
  simp [execOp,ha.eval hx,ha.eval hy,eqGuard,binOp,Iu (P:=P) (t:=t)]
section
attribute [local irreducible] ewp owp hwp hwq hws Ev Evg Fn retPost loud loudS Res1
attribute [local irreducible] hwx loudX
theorem LR {w:World} {A:Nat→Prop} (hA:∀ k,A k→k < w.heap.size) {x0:Err} (rx0:inI64 x0.n) {x1:Err} (rx1:inI64 x1.n) {r:Bool} (hm:Eb x0 x1=some r) :
    Fn Tryz.prog 50 [(errV x0.n),(errV x1.n)] w fun v w'=>Ext w w'∧Vb w' (upA A w w') v r:=by
  obtain ⟨⟨e0,e1⟩,rfl⟩:=DX hm
  obtain ⟨O,hB,a0⟩:=enter hA
  refine AI Tryz.func50 rfl Tryz.ntmps50 rfl ?_
  rw [e0,FT,Gz e1]
  refine Al (Aj (Ar rfl rfl (o_z ?_)))
  refine Al (Al (Aj (Am rfl rfl (Ri rfl rfl ?_))))
  refine Am rfl rfl (Au rfl rfl rfl rfl (Au rfl rfl rfl rfl (Bk rfl rfl rfl (o_z ?_))))
  refine Ah rfl (Al (Aj (Am rfl rfl (Am rfl rfl (Ba (Qk rfl rfl) rfl (Ar rfl rfl (o_z ?_)))))))
  refine AK ?_
  exact ret1v rfl (AB rfl) ⟨hB.ext,vBool⟩
end
end
section
open Go Go.RowKit
attribute [local irreducible] ewp owp hwp hwq hws Ev Evg Fn retPost loud loudS Res1
attribute [local irreducible] hwx loudX
noncomputable def Ci (x0:Tsk) (x1:Int):Option ((Option Spa)×Err) :=
  bnd (DP x0) fun q25=>if q25.2.n≠0 then (some (none,(⟨q25.2.n⟩:Err))) else (bnd (CS x0.vars) fun q40=>if q40.2.n≠0 then (some (none,(⟨q40.2.n⟩:Err))) else (if (max 0 (min x1 65536)) < 1 then (some (none,(⟨10⟩:Err))) else (bnd q40.1 fun o54=>bnd (Bh o54 x0.init) fun q57=>if q57.2.2.1.n≠0 then (some (none,(⟨q57.2.2.1.n⟩:Err))) else (bnd (CC x0) fun q74=>bnd (lop (ρ:=(Option Spa)×Err) (fun (s105:Int×(List Edj)×(List Bool)×Reg)=>bnd (AW s105.2.2.2) fun q130=>if s105.1 < q130 then (bnd (Bw s105.2.2.2 s105.1) fun q141=>if q141.2.n≠0 then (some (.ret (none,(⟨q141.2.n⟩:Err)))) else (bnd (bnd (Da x0.goal q141.1) fun q163=>if q163=true then bnd (appI 1 s105.2.2.1 [true]) fun u195=>some u195 else bnd (appI 1 s105.2.2.1 [false]) fun u176=>some u176:Option (List Bool)) fun y157=>bnd (Bj q25.1 q141.1) fun q212=>bnd (rng (ρ:=Ctl (Int×(List Edj)×(List Bool)×Reg) ((Option Spa)×Err)) (fun (k227:Nat) (a228:Suc) (s225:(List Edj)×Reg)=>bnd (Bh s225.2 a228.state) fun q263=>bnd (bnd (Eb (⟨q263.2.2.1.n⟩:Err) (⟨10⟩:Err)) fun q283=>if q283=true then some true else if q263.2.1=true then (if (max 0 (min x1 65536))≤q263.1 then (some true) else (some false)) else (some false):Option Bool) fun y279=>if y279=true then (some (.ret (.ret (none,(⟨10⟩:Err))))) else (if q263.2.2.1.n≠0 then (some (.ret (.ret (none,(⟨q263.2.2.1.n⟩:Err))))) else (bnd (appI 24 s225.1 [(⟨s105.1,a228.op,q263.1⟩:Edj)]) fun u304=>some (.next (u304,q263.2.2.2))))) q212 0 (s105.2.1,s105.2.2.2)) fun res223=>fin res223 fun (s321:(List Edj)×Reg)=>bnd (chkI (s105.1 + 1)) fun n323=>some (.next (n323,s321.1,y157,s321.2)))) else (some (.brk (s105.1,s105.2.1,s105.2.2.1,s105.2.2.2)))) (0,([]:List Edj),([]:List Bool),q57.2.2.2)) fun res103=>fin res103 fun (s330:Int×(List Edj)×(List Bool)×Reg)=>bnd (BI (⟨(⟨q74.vars,q74.init,q74.goal,q74.ops⟩:Tsk),s330.2.2.2,s330.2.1,s330.2.2.1,([]:List Int),([]:List Int),([]:List Int)⟩:Spa)) fun q341=>some ((some q341),(⟨0⟩:Err))))))
theorem Gb {w:World} {O:Lab} {vx0:Value} {x0:Tsk} (r5:Vb w (Fr 0 w O) vx0 x0) {x1:Int} (rx1:inI64 x1) (j0:Nat) (hj0:j0≠0) {r:(Option Spa)×Err} (hm:Ci x0 x1=some r) :
    Fn Tryz.prog 12 [vx0,(.int .i64 x1)] w fun v w'=>∃ O',St nT w O w' O'∧∃ v0 v1:Value,v=.tuple #[v0,v1]∧Obo j0 w' O' v0 r.1∧Vb w' (Fr 0 w' O') v1 r.2:=by
 obtain ⟨O0,hE,k8⟩:=ent0 (w:=w) (O:=O)
 have hB:Bm w O0 w O0:=Bm.refl
 replace r5:=r5.mono k8
 obtain ⟨qB,rfl,v4,v5,v6,v7,rfl,h8,u0,w0,h1⟩:=r5
 obtain ⟨A9,t2,rfl⟩:=h8.form
 obtain ⟨u2,v2,rfl⟩:=u0.form
 obtain ⟨w2,x2,rfl⟩:=w0.form
 obtain ⟨y2,z2,rfl⟩:=h1.form
 refine AI Tryz.func12 rfl Tryz.ntmps12 rfl ?_
 unfold Ci at hm
 refine Al (Aj (EJ 2 O0 rfl rfl fun d3 l8 d8 i3 s0=>?_))
 replace s0:Lc 2 l8 d8 d3 26 [(.slice A9 x0.vars.length t2),(.slice u2 x0.init.length v2),(.slice w2 x0.goal.length x2),(.slice y2 x0.ops.length z2)]:=s0
 refine Ar rfl rfl (Ar rfl rfl (o_z ?_))
 refine Al (Aj (BM (hl:=rfl) (hc:=(s0.1).cellsAt) rfl rfl ?_))
 obtain ⟨j4,m8,hm⟩:=bs hm
 replace h8:=h8.st i3
 replace u0:=u0.st i3
 replace w0:=w0.st i3
 replace h1:=h1.st i3
 refine Fd (O:=d8) (R:=fun w' F v=>T2 w' F v j4) (KM Fr.lt (Vb.ofAgg (cs:=[(.slice A9 x0.vars.length t2),(.slice u2 x0.init.length v2),(.slice w2 x0.goal.length x2),(.slice y2 x0.ops.length z2)]) (x:=x0) rfl ⟨_,_,_,_,rfl,h8,u0,w0,h1⟩) m8) rfl rfl fun rB sB n8 e3 o8=>?_
 obtain ⟨tB,uB,rfl,t1,p8⟩:=o8
 obtain ⟨j3,rfl,q8⟩:=t1.ptr
 obtain ⟨rfl,r8⟩:=p8.err
 refine Am rfl rfl (Bz rfl rfl rfl (Bz rfl rfl rfl (Ar rfl rfl (Ar rfl rfl (o_z ?_)))))
 refine Al (Al (Aj (Am rfl rfl (Fg rfl rfl (fun s5=>?_) fun s5=>?_))))
 ·
  replace hm:=ip hm s5
  refine o_z ?_
  refine Ah rfl (Al (Aj (Am rfl rfl (Ar rfl rfl (Ar rfl rfl (o_z ?_))))))
  refine AK ?_
  obtain rfl:=sm hm
  replace hB:=(hB.st i3).st e3
  obtain ⟨O',hS',hz,hl⟩:=hE.leave (fun _=>0) rfl hB
  exact ret2 rfl (AB rfl) (AB rfl) ⟨O',hS',_,_,rfl,rfl,(vErr r8)⟩
 replace hm:=im hm s5
 refine o_z ?_
 refine Ae rfl (AJ (Al (Aj (Am rfl rfl (Mu rfl rfl rfl ?_)))))
 refine Mv rfl rfl rfl ?_
 refine Ar rfl rfl (o_z ?_)
 refine Al (Aj (AF rfl rfl ?_))
 replace s0:=s0.st e3
 refine AE (hc:=Blk.cell (i:=0) (s0.1) rfl) rfl rfl ?_
 obtain ⟨vB,s8,hm⟩:=bs hm
 replace h8:=h8.st e3
 refine BR (O:=n8) (Ki h8 3 (by decide) s8) rfl rfl fun wB xB t8 f3 u8=>?_
 obtain ⟨yB,zB,rfl,t5,v8⟩:=u8
 obtain ⟨rfl,w8⟩:=v8.err
 refine Am rfl rfl (Bz rfl rfl rfl (Bz rfl rfl rfl (Ar rfl rfl (Ar rfl rfl (o_z ?_)))))
 refine Al (Al (Aj (Am rfl rfl (Fg rfl rfl (fun u5=>?_) fun u5=>?_))))
 ·
  replace hm:=ip hm u5
  refine o_z ?_
  refine Ah rfl (Al (Aj (Am rfl rfl (Ar rfl rfl (Ar rfl rfl (o_z ?_))))))
  refine AK ?_
  obtain rfl:=sm hm
  replace hB:=((hB.st i3).st e3).st f3
  obtain ⟨O',hS',hz,hl⟩:=hE.leave (fun _=>0) rfl hB
  exact ret2 rfl (AB rfl) (AB rfl) ⟨O',hS',_,_,rfl,rfl,(vErr w8)⟩
 replace hm:=im hm u5
 refine o_z ?_
 refine Ae rfl (AJ (Al (Al (Aj (Am rfl rfl (DJ rfl rfl rfl (fun w5=>?_) fun w5=>?_))))))
 ·
  replace hm:=ip hm w5
  refine o_z ?_
  refine Ah rfl (Al (Aj (Er rfl rfl ?_)))
  refine Ar rfl rfl (Ar rfl rfl (o_z ?_))
  refine AK ?_
  obtain rfl:=sm hm
  replace hB:=((hB.st i3).st e3).st f3
  obtain ⟨O',hS',hz,hl⟩:=hE.leave (fun _=>0) rfl hB
  exact ret2 rfl (AB rfl) (AB rfl) ⟨O',hS',_,_,rfl,rfl,(vErr (by decide))⟩
 replace hm:=im hm w5
 refine o_z ?_
 refine Ae rfl (AJ (Al (Al (Aj (Am rfl rfl (AF rfl rfl ?_))))))
 replace s0:=s0.st f3
 refine AE (hc:=Blk.cell (i:=1) (s0.1) rfl) rfl rfl ?_
 obtain ⟨aC,x8,hm⟩:=bs hm
 rw [x8] at t5
 obtain ⟨c2,rfl⟩:=Ob.ptr t5
 obtain ⟨bC,y8,hm⟩:=bs hm
 replace u0:=(u0.st e3).st f3
 refine BR (O:=t8) (EW t5 u0 y8) rfl rfl fun cC dC z8 k3 a9=>?_
 obtain ⟨eC,fC,gC,x5,rfl,b9,c9,d9⟩:=a9
 obtain ⟨rfl,hC⟩:=b9.int
 obtain rfl:=c9.bool
 obtain ⟨rfl,e9⟩:=d9.err
 refine Am rfl rfl (Bz rfl rfl rfl (Bz rfl rfl rfl (Bz rfl rfl rfl (Ar rfl rfl (Ar rfl rfl (Ar rfl rfl (o_z ?_)))))))
 refine Al (Aj (Am rfl rfl (Fg rfl rfl (fun y5=>?_) fun y5=>?_)))
 ·
  replace hm:=ip hm y5
  refine o_z ?_
  refine Ah rfl (Al (Aj (Am rfl rfl (Ar rfl rfl (Ar rfl rfl (o_z ?_))))))
  refine AK ?_
  obtain rfl:=sm hm
  replace hB:=(((hB.st i3).st e3).st f3).st k3
  obtain ⟨O',hS',hz,hl⟩:=hE.leave (fun _=>0) rfl hB
  exact ret2 rfl (AB rfl) (AB rfl) ⟨O',hS',_,_,rfl,rfl,(vErr e9)⟩
 replace hm:=im hm y5
 refine o_z ?_
 refine Ae rfl (AJ (Al (Aj ?_)))
 replace s0:=s0.st k3
 refine BM (hl:=rfl) (hc:=(s0.1).cellsAt) rfl rfl ?_
 obtain ⟨g0,f9,hm⟩:=bs hm
 replace h8:=(h8.st f3).st k3
 replace u0:=u0.st k3
 replace w0:=((w0.st e3).st f3).st k3
 replace h1:=((h1.st e3).st f3).st k3
 refine Fd (O:=z8) (R:=fun w' F v=>Vb w' F v g0) (Jw Fr.lt (Vb.ofAgg (cs:=[(.slice A9 x0.vars.length t2),(.slice u2 x0.init.length v2),(.slice w2 x0.goal.length x2),(.slice y2 x0.ops.length z2)]) (x:=x0) rfl ⟨_,_,_,_,rfl,h8,u0,w0,h1⟩) f9) rfl rfl fun iC jC g9 l3 h9=>?_
 obtain ⟨i9,rfl,kC,lC,mC,nC,rfl,z0,a1,b1,c1⟩:=h9
 obtain ⟨h2,i2,rfl⟩:=z0.form
 obtain ⟨j2,k2,rfl⟩:=a1.form
 obtain ⟨l2,m2,rfl⟩:=b1.form
 obtain ⟨n2,o2,rfl⟩:=c1.form
 refine Am rfl rfl (EK rfl rfl rfl ?_)
 refine EJ 4 g9 rfl rfl fun p2 j9 k4 d1 e0=>?_
 replace e0:Lc 4 j9 k4 p2 87 [(.slice h2 g0.vars.length i2),(.slice j2 g0.init.length k2),(.slice l2 g0.goal.length m2),(.slice n2 g0.ops.length o2),(.pointer (some ⟨c2,0,none⟩)),(.slice none 0 0),(.slice none 0 0),(.slice none 0 0),(.slice none 0 0),(.slice none 0 0)]:=e0
 refine Ar rfl rfl (o_z ?_)
 refine Al (Al (Aj (Ar rfl rfl (o_z ?_))))
 obtain ⟨s3,l4,hm⟩:=bs hm
 refine AM (aft s3 (fun (k0:Int×(List Edj)×(List Bool)×Reg) (m0:(Option Addr×Nat)×(Option Addr×Nat))=>[(12,(.pointer (some ⟨p2,0,none⟩)))]) (fun k0 m0 w'=>∃ O':Lab,Bm w O0 w' O'∧Lc 4 w' O' p2 87 [(.slice h2 g0.vars.length i2),(.slice j2 g0.init.length k2),(.slice l2 g0.goal.length m2),(.slice n2 g0.ops.length o2),(.pointer (some ⟨c2,0,none⟩)),(.slice m0.1.1 k0.2.1.length m0.1.2),(.slice m0.2.1 k0.2.2.1.length m0.2.2),(.slice none 0 0),(.slice none 0 0),(.slice none 0 0)]∧Vb w' (Fr 0 w' O') (.slice h2 g0.vars.length i2) g0.vars∧Vb w' (Fr 0 w' O') (.slice j2 g0.init.length k2) g0.init∧Vb w' (Fr 0 w' O') (.slice l2 g0.goal.length m2) g0.goal∧Vb w' (Fr 0 w' O') (.slice n2 g0.ops.length o2) g0.ops∧Ob 3 w' O' (.pointer (some ⟨c2,0,none⟩)) k0.2.2.2∧Rw 9 w' O' 94 (.slice m0.1.1 k0.2.1.length m0.1.2) k0.2.1∧Rw 6 w' O' 4 (.slice m0.2.1 k0.2.2.1.length m0.2.2) k0.2.2.1∧inI64 k0.1)) ?_ ?_
 ·
  refine AQ ?_
  replace hB:=(((((hB.st i3).st e3).st f3).st k3).st l3).st d1
  replace h8:=(h8.st l3).st d1
  replace u0:=(u0.st l3).st d1
  replace w0:=(w0.st l3).st d1
  replace h1:=(h1.st l3).st d1
  replace s0:=(s0.st l3).st d1
  replace t1:=(((t1.st f3).st k3).st l3).st d1
  replace x5:=(x5.st l3).st d1
  replace z0:=z0.st d1
  replace a1:=a1.st d1
  replace b1:=b1.st d1
  replace c1:=c1.st d1
  refine Gn (σ:=Int×(List Edj)×(List Bool)×Reg) (X:=(Option Addr×Nat)×(Option Addr×Nat)) l4 (fun (k0:Int×(List Edj)×(List Bool)×Reg) (m0:(Option Addr×Nat)×(Option Addr×Nat))=>[(1,(.int .i64 (max 0 (min x1 65536)))),(2,(.pointer (some ⟨d3,0,none⟩))),(6,(.pointer j3)),(8,(.pointer (some ⟨c2,0,none⟩))),(12,(.pointer (some ⟨p2,0,none⟩))),(13,(.int .i64 k0.1))]) _ (fun k0 m0 w'=>∃ O':Lab,Bm w O0 w' O'∧Lc 2 w' O' d3 26 [(.slice A9 x0.vars.length t2),(.slice u2 x0.init.length v2),(.slice w2 x0.goal.length x2),(.slice y2 x0.ops.length z2)]∧Vb w' (Fr 0 w' O') (.slice A9 x0.vars.length t2) x0.vars∧Vb w' (Fr 0 w' O') (.slice u2 x0.init.length v2) x0.init∧Vb w' (Fr 0 w' O') (.slice w2 x0.goal.length x2) x0.goal∧Vb w' (Fr 0 w' O') (.slice y2 x0.ops.length z2) x0.ops∧Vb w' (Fr 0 w' O') (.pointer j3) j4.1∧Ob 3 w' O' (.pointer (some ⟨c2,0,none⟩)) k0.2.2.2∧Lc 4 w' O' p2 87 [(.slice h2 g0.vars.length i2),(.slice j2 g0.init.length k2),(.slice l2 g0.goal.length m2),(.slice n2 g0.ops.length o2),(.pointer (some ⟨c2,0,none⟩)),(.slice m0.1.1 k0.2.1.length m0.1.2),(.slice m0.2.1 k0.2.2.1.length m0.2.2),(.slice none 0 0),(.slice none 0 0),(.slice none 0 0)]∧Vb w' (Fr 0 w' O') (.slice h2 g0.vars.length i2) g0.vars∧Vb w' (Fr 0 w' O') (.slice j2 g0.init.length k2) g0.init∧Vb w' (Fr 0 w' O') (.slice l2 g0.goal.length m2) g0.goal∧Vb w' (Fr 0 w' O') (.slice n2 g0.ops.length o2) g0.ops∧Rw 9 w' O' 94 (.slice m0.1.1 k0.2.1.length m0.1.2) k0.2.1∧Rw 6 w' O' 4 (.slice m0.2.1 k0.2.2.1.length m0.2.2) k0.2.2.1∧inI64 k0.1) _ ((none,0),(none,0)) ⟨k4,hB,s0,h8,u0,w0,h1,t1,x5,e0,z0,a1,b1,c1,(Rw.nil 9 (by decide)),(Rw.nil 6 (by decide)),(show inI64 (0) from by decide)⟩ ⟨rfl,rfl,rfl,rfl,rfl,rfl,trivial⟩ ?_
  rintro k0 m0 k9 e8 ⟨z5,hB,s0,h8,u0,w0,h1,t1,g3,e0,z0,a1,b1,c1,n1,w1,m3⟩ h0 d2 n3
  refine Al (Al (Aj (Am rfl rfl (Am rfl rfl ?_))))
  obtain ⟨l9,a6,h0⟩:=bs h0
  refine BR (O:=z5) (DM g3 a6) rfl rfl fun m9 n9 b6 f0 c6=>?_
  obtain ⟨m4,d6⟩:=c6
  obtain ⟨rfl,o9⟩:=d6.int
  refine DJ rfl rfl rfl (fun t3=>?_) fun t3=>?_
  ·
   replace h0:=ip h0 t3
   refine o_z ?_
   refine Ah rfl (AJ (Al (AQ (Al (Aj (Am rfl rfl (Am rfl rfl ?_)))))))
   obtain ⟨u3,e6,h0⟩:=bs h0
   refine BR (O:=b6) (Gi m4 m3 e6) rfl rfl fun p9 v3 o3 i0 f6=>?_
   obtain ⟨q9,r9,a3,rfl,b3,g6⟩:=f6
   obtain ⟨n4,o4,rfl⟩:=b3.form
   obtain ⟨rfl,h6⟩:=g6.err
   refine Am rfl rfl (Bz rfl rfl rfl (Bz rfl rfl rfl (Ar rfl rfl (Ar rfl rfl (o_z ?_)))))
   refine Al (Al (Aj (Am rfl rfl (Fg rfl rfl (fun w3=>?_) fun w3=>?_))))
   ·
    replace h0:=ip h0 w3
    refine o_z ?_
    refine Ah rfl (Al (Aj (Am rfl rfl (Ar rfl rfl (Ar rfl rfl (o_z ?_))))))
    refine AK ?_
    obtain rfl:=sm h0
    obtain rfl:=d2 _ rfl
    obtain rfl:=sm (Cy hm)
    replace hB:=(hB.st f0).st i0
    obtain ⟨O',hS',hz,hl⟩:=hE.leave (fun _=>0) rfl hB
    exact ret2 rfl (AB rfl) (AB rfl) ⟨O',hS',_,_,rfl,rfl,(vErr h6)⟩
   replace h0:=im h0 w3
   refine o_z ?_
   refine Ae rfl (AJ (Al ?_))
   obtain ⟨y1,t0,h0⟩:=bs h0
   refine AM (fun l' w'=>∃ (r0:(Option Addr×Nat)) (O':Lab),subs l' [(1,(.int .i64 (max 0 (min x1 65536)))),(2,(.pointer (some ⟨d3,0,none⟩))),(6,(.pointer j3)),(8,(.pointer (some ⟨c2,0,none⟩))),(12,(.pointer (some ⟨p2,0,none⟩))),(13,(.int .i64 k0.1)),(14,(.slice n4 u3.1.length o4))]∧Bm w O0 w' O'∧Lc 2 w' O' d3 26 [(.slice A9 x0.vars.length t2),(.slice u2 x0.init.length v2),(.slice w2 x0.goal.length x2),(.slice y2 x0.ops.length z2)]∧Vb w' (Fr 0 w' O') (.slice A9 x0.vars.length t2) x0.vars∧Vb w' (Fr 0 w' O') (.slice u2 x0.init.length v2) x0.init∧Vb w' (Fr 0 w' O') (.slice w2 x0.goal.length x2) x0.goal∧Vb w' (Fr 0 w' O') (.slice y2 x0.ops.length z2) x0.ops∧Vb w' (Fr 0 w' O') (.pointer j3) j4.1∧Ob 3 w' O' (.pointer (some ⟨c2,0,none⟩)) k0.2.2.2∧Lc 4 w' O' p2 87 [(.slice h2 g0.vars.length i2),(.slice j2 g0.init.length k2),(.slice l2 g0.goal.length m2),(.slice n2 g0.ops.length o2),(.pointer (some ⟨c2,0,none⟩)),(.slice m0.1.1 k0.2.1.length m0.1.2),(.slice r0.1 y1.length r0.2),(.slice none 0 0),(.slice none 0 0),(.slice none 0 0)]∧Vb w' (Fr 0 w' O') (.slice h2 g0.vars.length i2) g0.vars∧Vb w' (Fr 0 w' O') (.slice j2 g0.init.length k2) g0.init∧Vb w' (Fr 0 w' O') (.slice l2 g0.goal.length m2) g0.goal∧Vb w' (Fr 0 w' O') (.slice n2 g0.ops.length o2) g0.ops∧Rw 9 w' O' 94 (.slice m0.1.1 k0.2.1.length m0.1.2) k0.2.1∧Rw 6 w' O' 4 (.slice r0.1 y1.length r0.2) y1∧Vb w' (Fr 0 w' O') (.slice n4 u3.1.length o4) u3.1) ?_ ?_
   ·
    refine Bt [(10,[6])] o3 ?_
    refine AT (fuel:=7) [] [(1,true),(2,true),(3,true),(4,true),(5,true),(6,true),(7,true)] (by kernel_rfl) rfl ?_
    refine AH rfl rfl rfl (Cd rfl rfl rfl (AR rfl rfl rfl ?_))
    replace e0:=(e0.st f0).st i0
    refine AS (hc:=fun w' ⟨O',hq⟩=>Blk.cell (i:=6) ((e0.st hq (by decide)).1) rfl) rfl rfl rfl ?_
    refine AR rfl rfl rfl ?_
    replace s0:=(s0.st f0).st i0
    refine AS (hc:=fun w' ⟨O',hq⟩=>Blk.cell (i:=2) ((s0.st hq (by decide)).1) rfl) rfl rfl rfl ?_
    refine AH rfl rfl rfl (AG ?_)
    refine AT (fuel:=6) [6] [(0,true)] (by kernel_rfl) rfl ?_
    refine AH rfl rfl rfl (AG ?_)
    refine AV (i:=8) (by kernel_rfl) rfl ?_
    obtain ⟨p4,i6,t0⟩:=bs t0
    replace w0:=(w0.st f0).st i0
    refine Ce (O:=o3) (A:=All v3) (R:=fun w' F v=>Vb w' F v p4) (Il (fun _ h=>h) (Vb.mono (F:=Fr 0 v3 o3) w0 Fr.lt) (Vb.mono (F:=Fr 0 v3 o3) b3 Fr.lt) i6) rfl rfl fun s9 t9 q4 n0 j6=>?_
    obtain rfl:=j6.bool
    have hZ:=n0.lst [] (fun _ h=>h.elim)
    cases p4
    case false =>
     replace t0:=iF t0
     refine Bg [(10,[6])] hZ (by kernel_rfl) ?_
     refine AV (i:=9) (by kernel_rfl) rfl ?_
     refine BX 5 (by decide) q4 (xs:=([false]:List Bool)) rfl rfl rfl rfl ⟨vBool,trivial⟩ (by decide) (by decide) rfl fun u9 v9 w9 e1 k6=>?_
     have hZ:=e1.lst [] (fun _ h=>h.elim)
     refine Bg [(10,[6])] hZ (by kernel_rfl) ?_
     refine AV (i:=10) (by kernel_rfl) rfl ?_
     obtain ⟨l6,x3,t0⟩:=bs t0
     obtain ⟨x3,m6,n6⟩:=Cg x3
     replace w1:=(((w1.st f0).st i0).st n0).st e1
     refine CH rfl w1 (k6.rd) rfl rfl (by decide) m6 n6 rfl fun r4 s4 x9 o6 i1 t4=>?_
     rw [← x3] at t4 ⊢
     have hZ:=i1.lst [6] (fun _ h=>by cases h;decide)
     refine Bg [] hZ (by kernel_rfl) ?_
     refine AT (fuel:=1) [] [(11,true),(12,true)] (by kernel_rfl) rfl ?_
     refine Cd rfl rfl rfl (AR rfl rfl rfl (AG ?_))
     refine AV (i:=13) (by kernel_rfl) rfl ?_
     replace e0:=((e0.st n0).st e1).st i1
     refine Bf e0 rfl rfl rfl (BO rfl) (allOne rfl) fun p6 o1 e0=>?_
     replace e0:Lc 4 p6 o6 p2 87 [(.slice h2 g0.vars.length i2),(.slice j2 g0.init.length k2),(.slice l2 g0.goal.length m2),(.slice n2 g0.ops.length o2),(.pointer (some ⟨c2,0,none⟩)),(.slice m0.1.1 k0.2.1.length m0.1.2),(.slice r4 l6.length s4),(.slice none 0 0),(.slice none 0 0),(.slice none 0 0)]:=e0
     refine Di (by kernel_rfl) ?_
     refine BC (by kernel_rfl) ?_
     obtain rfl:=sm t0
     exact ⟨(r4,s4),_,⟨rfl,rfl,rfl,rfl,rfl,rfl,rfl,trivial⟩,(((((hB.st f0).st i0).st n0).st e1).st i1).st o1,(((s0.st n0).st e1).st i1).st o1,(((((h8.st f0).st i0).st n0).st e1).st i1).st o1,(((((u0.st f0).st i0).st n0).st e1).st i1).st o1,(((w0.st n0).st e1).st i1).st o1,(((((h1.st f0).st i0).st n0).st e1).st i1).st o1,(((((t1.st f0).st i0).st n0).st e1).st i1).st o1,(((a3.st n0).st e1).st i1).st o1,e0,(((((z0.st f0).st i0).st n0).st e1).st i1).st o1,(((((a1.st f0).st i0).st n0).st e1).st i1).st o1,(((((b1.st f0).st i0).st n0).st e1).st i1).st o1,(((((c1.st f0).st i0).st n0).st e1).st i1).st o1,(((((n1.st f0).st i0).st n0).st e1).st i1).st o1,t4.st o1,(((b3.st n0).st e1).st i1).st o1⟩
    replace t0:=iT t0
    refine Bg [(10,[6])] hZ (by kernel_rfl) ?_
    refine AV (i:=9) (by kernel_rfl) rfl ?_
    refine BX 5 (by decide) q4 (xs:=([true]:List Bool)) rfl rfl rfl rfl ⟨vBool,trivial⟩ (by decide) (by decide) rfl fun y9 z9 aA f1 q6=>?_
    have hZ:=f1.lst [] (fun _ h=>h.elim)
    refine Bg [(10,[6])] hZ (by kernel_rfl) ?_
    refine AV (i:=10) (by kernel_rfl) rfl ?_
    obtain ⟨r6,y3,t0⟩:=bs t0
    obtain ⟨y3,s6,t6⟩:=Cg y3
    replace w1:=(((w1.st f0).st i0).st n0).st f1
    refine CH rfl w1 (q6.rd) rfl rfl (by decide) s6 t6 rfl fun u4 w4 bA u6 j1 x4=>?_
    rw [← y3] at x4 ⊢
    have hZ:=j1.lst [6] (fun _ h=>by cases h;decide)
    refine Bg [] hZ (by kernel_rfl) ?_
    refine AT (fuel:=1) [] [(11,true),(12,true)] (by kernel_rfl) rfl ?_
    refine Cd rfl rfl rfl (AR rfl rfl rfl (AG ?_))
    refine AV (i:=13) (by kernel_rfl) rfl ?_
    replace e0:=((e0.st n0).st f1).st j1
    refine Bf e0 rfl rfl rfl (BO rfl) (allOne rfl) fun w6 p1 e0=>?_
    replace e0:Lc 4 w6 u6 p2 87 [(.slice h2 g0.vars.length i2),(.slice j2 g0.init.length k2),(.slice l2 g0.goal.length m2),(.slice n2 g0.ops.length o2),(.pointer (some ⟨c2,0,none⟩)),(.slice m0.1.1 k0.2.1.length m0.1.2),(.slice u4 r6.length w4),(.slice none 0 0),(.slice none 0 0),(.slice none 0 0)]:=e0
    refine Di (by kernel_rfl) ?_
    refine BC (by kernel_rfl) ?_
    obtain rfl:=sm t0
    exact ⟨(u4,w4),_,⟨rfl,rfl,rfl,rfl,rfl,rfl,rfl,trivial⟩,(((((hB.st f0).st i0).st n0).st f1).st j1).st p1,(((s0.st n0).st f1).st j1).st p1,(((((h8.st f0).st i0).st n0).st f1).st j1).st p1,(((((u0.st f0).st i0).st n0).st f1).st j1).st p1,(((w0.st n0).st f1).st j1).st p1,(((((h1.st f0).st i0).st n0).st f1).st j1).st p1,(((((t1.st f0).st i0).st n0).st f1).st j1).st p1,(((a3.st n0).st f1).st j1).st p1,e0,(((((z0.st f0).st i0).st n0).st f1).st j1).st p1,(((((a1.st f0).st i0).st n0).st f1).st j1).st p1,(((((b1.st f0).st i0).st n0).st f1).st j1).st p1,(((((c1.st f0).st i0).st n0).st f1).st j1).st p1,(((((n1.st f0).st i0).st n0).st f1).st j1).st p1,x4.st p1,(((b3.st n0).st f1).st j1).st p1⟩
   replace hB:=(hB.st f0).st i0
   replace h8:=(h8.st f0).st i0
   replace u0:=(u0.st f0).st i0
   replace w0:=(w0.st f0).st i0
   replace h1:=(h1.st f0).st i0
   replace s0:=(s0.st f0).st i0
   replace t1:=(t1.st f0).st i0
   replace z0:=(z0.st f0).st i0
   replace a1:=(a1.st f0).st i0
   replace b1:=(b1.st f0).st i0
   replace c1:=(c1.st f0).st i0
   replace e0:=(e0.st f0).st i0
   replace n1:=(n1.st f0).st i0
   rintro cA dA ⟨r0,x6,y4,hB,s0,h8,u0,w0,h1,t1,a3,e0,z0,a1,b1,c1,n1,y0,b3⟩
   refine AP _ y4 ?_
   refine Al (Aj (Am rfl rfl (Am rfl rfl ?_)))
   obtain ⟨a2,y6,h0⟩:=bs h0
   refine Fd (O:=x6) (R:=fun w' F v=>Vb w' F v a2) (Fy Fr.lt t1 b3 y6) rfl rfl fun eA fA z6 o0 q1=>?_
   obtain ⟨p3,q3,rfl⟩:=q1.form
   refine AN rfl rfl ?_
   have z3:a2.length≤9223372036854775807:=Nat.le_trans q1.len.2.1 q1.len.2.2
   have gA:inI64 (a2.length:Int):=rngNat z3
   refine Am rfl rfl (o_z ?_)
   obtain ⟨a4,z4,h0⟩:=bs h0
   refine AM (aft a4 (fun (r1:(List Edj)×Reg) (k1:(Option Addr×Nat))=>[(1,(.int .i64 (max 0 (min x1 65536)))),(2,(.pointer (some ⟨d3,0,none⟩))),(6,(.pointer j3)),(8,(.pointer (some ⟨c2,0,none⟩))),(12,(.pointer (some ⟨p2,0,none⟩))),(13,(.int .i64 k0.1))]) (fun r1 k1 w'=>∃ O':Lab,Bm w O0 w' O'∧Lc 2 w' O' d3 26 [(.slice A9 x0.vars.length t2),(.slice u2 x0.init.length v2),(.slice w2 x0.goal.length x2),(.slice y2 x0.ops.length z2)]∧Vb w' (Fr 0 w' O') (.slice A9 x0.vars.length t2) x0.vars∧Vb w' (Fr 0 w' O') (.slice u2 x0.init.length v2) x0.init∧Vb w' (Fr 0 w' O') (.slice w2 x0.goal.length x2) x0.goal∧Vb w' (Fr 0 w' O') (.slice y2 x0.ops.length z2) x0.ops∧Vb w' (Fr 0 w' O') (.pointer j3) j4.1∧Ob 3 w' O' (.pointer (some ⟨c2,0,none⟩)) r1.2∧Lc 4 w' O' p2 87 [(.slice h2 g0.vars.length i2),(.slice j2 g0.init.length k2),(.slice l2 g0.goal.length m2),(.slice n2 g0.ops.length o2),(.pointer (some ⟨c2,0,none⟩)),(.slice k1.1 r1.1.length k1.2),(.slice r0.1 y1.length r0.2),(.slice none 0 0),(.slice none 0 0),(.slice none 0 0)]∧Vb w' (Fr 0 w' O') (.slice h2 g0.vars.length i2) g0.vars∧Vb w' (Fr 0 w' O') (.slice j2 g0.init.length k2) g0.init∧Vb w' (Fr 0 w' O') (.slice l2 g0.goal.length m2) g0.goal∧Vb w' (Fr 0 w' O') (.slice n2 g0.ops.length o2) g0.ops∧Rw 9 w' O' 94 (.slice k1.1 r1.1.length k1.2) r1.1∧Rw 6 w' O' 4 (.slice r0.1 y1.length r0.2) y1)) ?_ ?_
   ·
    refine AQ ?_
    replace hB:=hB.st o0
    replace h8:=h8.st o0
    replace u0:=u0.st o0
    replace w0:=w0.st o0
    replace h1:=h1.st o0
    replace s0:=s0.st o0
    replace t1:=t1.st o0
    replace z0:=z0.st o0
    replace a1:=a1.st o0
    replace b1:=b1.st o0
    replace c1:=c1.st o0
    replace e0:=e0.st o0
    replace n1:=n1.st o0
    replace a3:=a3.st o0
    replace y0:=y0.st o0
    refine BV (σ:=(List Edj)×Reg) (X:=(Option Addr×Nat)) (a2.length) z4 rfl z3 (fun (r1:(List Edj)×Reg) (k1:(Option Addr×Nat))=>[(1,(.int .i64 (max 0 (min x1 65536)))),(2,(.pointer (some ⟨d3,0,none⟩))),(6,(.pointer j3)),(8,(.pointer (some ⟨c2,0,none⟩))),(12,(.pointer (some ⟨p2,0,none⟩))),(13,(.int .i64 k0.1)),(90,(.slice p3 a2.length q3))]) _ (fun r1 k1 w'=>∃ O':Lab,Bm w O0 w' O'∧Lc 2 w' O' d3 26 [(.slice A9 x0.vars.length t2),(.slice u2 x0.init.length v2),(.slice w2 x0.goal.length x2),(.slice y2 x0.ops.length z2)]∧Vb w' (Fr 0 w' O') (.slice A9 x0.vars.length t2) x0.vars∧Vb w' (Fr 0 w' O') (.slice u2 x0.init.length v2) x0.init∧Vb w' (Fr 0 w' O') (.slice w2 x0.goal.length x2) x0.goal∧Vb w' (Fr 0 w' O') (.slice y2 x0.ops.length z2) x0.ops∧Vb w' (Fr 0 w' O') (.pointer j3) j4.1∧Ob 3 w' O' (.pointer (some ⟨c2,0,none⟩)) r1.2∧Lc 4 w' O' p2 87 [(.slice h2 g0.vars.length i2),(.slice j2 g0.init.length k2),(.slice l2 g0.goal.length m2),(.slice n2 g0.ops.length o2),(.pointer (some ⟨c2,0,none⟩)),(.slice k1.1 r1.1.length k1.2),(.slice r0.1 y1.length r0.2),(.slice none 0 0),(.slice none 0 0),(.slice none 0 0)]∧Vb w' (Fr 0 w' O') (.slice h2 g0.vars.length i2) g0.vars∧Vb w' (Fr 0 w' O') (.slice j2 g0.init.length k2) g0.init∧Vb w' (Fr 0 w' O') (.slice l2 g0.goal.length m2) g0.goal∧Vb w' (Fr 0 w' O') (.slice n2 g0.ops.length o2) g0.ops∧Rw 9 w' O' 94 (.slice k1.1 r1.1.length k1.2) r1.1∧Rw 6 w' O' 4 (.slice r0.1 y1.length r0.2) y1∧Vb w' (Fr 0 w' O') (.slice p3 a2.length q3) a2) _ (m0.1.1,m0.1.2) ⟨z6,hB,s0,h8,u0,w0,h1,t1,a3,e0,z0,a1,b1,c1,n1,y0,q1⟩ ⟨rfl,rfl,rfl,rfl,rfl,rfl,rfl,rfl,rfl,trivial⟩ (fun _ _=>⟨rfl,rfl⟩) (fun _ _=>⟨rfl,rfl,rfl,rfl,rfl,rfl,trivial⟩) (fun _ _ _ ⟨O',hB,s0,h8,u0,w0,h1,t1,q2,e0,z0,a1,b1,c1,u1,y0,q1⟩=>⟨O',hB,s0,h8,u0,w0,h1,t1,q2,e0,z0,a1,b1,c1,u1,y0⟩) ⟨rfl,rfl,rfl⟩ ⟨rfl,rfl⟩ ?_
    rintro a5 e2 r1 k1 iA f8 r3 ⟨a7,hB,s0,h8,u0,w0,h1,t1,q2,e0,z0,a1,b1,c1,u1,y0,q1⟩ q0 s2 q5
    have rk227:inI64 (a5:Int):=rngK r3 z3
    refine Al (Aj ?_)
    obtain ⟨jA,kA,g8,b5,c5,d5,lA,rfl,b2,b7⟩:=q1.elem' r3
    obtain ⟨b4,c4,rfl⟩:=b2.form
    refine BW (hA:=b5) (hj:=rfl) (hlt:=c5) rfl rfl rfl ?_
    refine BM (hl:=rfl) (hc:=d5) rfl rfl ?_
    refine Cq 7 a7 rfl fun d4 mA e5 b0 z1=>?_
    refine Bf z1 rfl rfl rfl (BO rfl) (allOne rfl) fun c7 c0 z1=>?_
    replace z1:Lc 7 c7 e5 d4 91 [(.int .i64 e2.op),(.slice b4 e2.state.length c4)]:=z1
    refine o_z ?_
    refine Al (Aj (Am rfl rfl (AF rfl rfl (AE (hc:=Blk.cell (i:=1) (z1.1) rfl) rfl rfl ?_))))
    obtain ⟨r2,d7,q0⟩:=bs q0
    replace q2:=(q2.st b0).st c0
    replace b2:=(b2.st b0).st c0
    refine BR (O:=e5) (EW q2 b2 d7) rfl rfl fun nA e7 f7 a0 g7=>?_
    obtain ⟨oA,pA,qA,c3,rfl,h7,i7,j7⟩:=g7
    obtain ⟨rfl,k7⟩:=h7.int
    obtain rfl:=i7.bool
    obtain ⟨rfl,f5⟩:=j7.err
    refine Am rfl rfl (Bz rfl rfl rfl (Bz rfl rfl rfl (Bz rfl rfl rfl (Ar rfl rfl (Ar rfl rfl (Ar rfl rfl (o_z ?_)))))))
    refine Al (Al ?_)
    obtain ⟨l7,p0,q0⟩:=bs q0
    refine AM (fun l' w'=>∃ (m7:Unit) (O':Lab),subs l' [(1,(.int .i64 (max 0 (min x1 65536)))),(2,(.pointer (some ⟨d3,0,none⟩))),(6,(.pointer j3)),(8,(.pointer (some ⟨c2,0,none⟩))),(12,(.pointer (some ⟨p2,0,none⟩))),(13,(.int .i64 k0.1)),(17,(.pointer (some ⟨d4,0,none⟩))),(18,(.int .i64 r2.1)),(20,(errV r2.2.2.1.n)),(90,(.slice p3 a2.length q3)),(91,(.int .i64 (a2.length:Int))),(92,(.int .i64 (a5:Int))),(114,(.bool l7))]∧Bm w O0 w' O'∧Lc 2 w' O' d3 26 [(.slice A9 x0.vars.length t2),(.slice u2 x0.init.length v2),(.slice w2 x0.goal.length x2),(.slice y2 x0.ops.length z2)]∧Vb w' (Fr 0 w' O') (.slice A9 x0.vars.length t2) x0.vars∧Vb w' (Fr 0 w' O') (.slice u2 x0.init.length v2) x0.init∧Vb w' (Fr 0 w' O') (.slice w2 x0.goal.length x2) x0.goal∧Vb w' (Fr 0 w' O') (.slice y2 x0.ops.length z2) x0.ops∧Vb w' (Fr 0 w' O') (.pointer j3) j4.1∧Ob 3 w' O' (.pointer (some ⟨c2,0,none⟩)) r2.2.2.2∧Lc 4 w' O' p2 87 [(.slice h2 g0.vars.length i2),(.slice j2 g0.init.length k2),(.slice l2 g0.goal.length m2),(.slice n2 g0.ops.length o2),(.pointer (some ⟨c2,0,none⟩)),(.slice k1.1 r1.1.length k1.2),(.slice r0.1 y1.length r0.2),(.slice none 0 0),(.slice none 0 0),(.slice none 0 0)]∧Vb w' (Fr 0 w' O') (.slice h2 g0.vars.length i2) g0.vars∧Vb w' (Fr 0 w' O') (.slice j2 g0.init.length k2) g0.init∧Vb w' (Fr 0 w' O') (.slice l2 g0.goal.length m2) g0.goal∧Vb w' (Fr 0 w' O') (.slice n2 g0.ops.length o2) g0.ops∧Rw 9 w' O' 94 (.slice k1.1 r1.1.length k1.2) r1.1∧Rw 6 w' O' 4 (.slice r0.1 y1.length r0.2) y1∧Lc 7 w' O' d4 91 [(.int .i64 e2.op),(.slice b4 e2.state.length c4)]∧Vb w' (Fr 0 w' O') (.slice b4 e2.state.length c4) e2.state∧Vb w' (Fr 0 w' O') (.slice p3 a2.length q3) a2) ?_ ?_
    ·
     refine Aj (Am rfl rfl (Er rfl rfl ?_))
     obtain ⟨g5,n7,p0⟩:=bs p0
     refine Ce (O:=f7) (A:=All e7) (R:=fun w' F v=>Vb w' F v g5) (LR (fun _ h=>h) f5 (by decide) n7) rfl rfl fun rA sA tA d0 o7=>?_
     obtain rfl:=o7.bool
     cases g5
     case false =>
      replace p0:=iF p0
      refine Am rfl rfl (Aw rfl rfl (Am rfl rfl (Aw rfl rfl (Am rfl rfl ?_))))
      rcases Bool.eq_false_or_eq_true r2.2.1 with h3|h3
      ·
       try simp only [h3]
       replace p0:=ip p0 h3
       refine Aw rfl rfl (Am rfl rfl (Aw rfl rfl (Am rfl rfl (Aw rfl rfl (Gg rfl rfl rfl (fun e4=>?_) fun e4=>?_)))))
       ·
        replace p0:=ip p0 e4
        refine Aw rfl rfl (Bk rfl rfl rfl (Bp rfl rfl rfl (o_z ?_)))
        obtain rfl:=sm p0
        exact ⟨(),_,⟨rfl,rfl,rfl,rfl,rfl,rfl,rfl,rfl,rfl,rfl,rfl,rfl,rfl,trivial⟩,(((hB.st b0).st c0).st a0).st d0,(((s0.st b0).st c0).st a0).st d0,(((h8.st b0).st c0).st a0).st d0,(((u0.st b0).st c0).st a0).st d0,(((w0.st b0).st c0).st a0).st d0,(((h1.st b0).st c0).st a0).st d0,(((t1.st b0).st c0).st a0).st d0,c3.st d0,(((e0.st b0).st c0).st a0).st d0,(((z0.st b0).st c0).st a0).st d0,(((a1.st b0).st c0).st a0).st d0,(((b1.st b0).st c0).st a0).st d0,(((c1.st b0).st c0).st a0).st d0,(((u1.st b0).st c0).st a0).st d0,(((y0.st b0).st c0).st a0).st d0,(z1.st a0).st d0,(b2.st a0).st d0,(((q1.st b0).st c0).st a0).st d0⟩
       replace p0:=im p0 e4
       refine Aw rfl rfl (Bk rfl rfl rfl (Bp rfl rfl rfl (o_z ?_)))
       obtain rfl:=sm p0
       exact ⟨(),_,⟨rfl,rfl,rfl,rfl,rfl,rfl,rfl,rfl,rfl,rfl,rfl,rfl,rfl,trivial⟩,(((hB.st b0).st c0).st a0).st d0,(((s0.st b0).st c0).st a0).st d0,(((h8.st b0).st c0).st a0).st d0,(((u0.st b0).st c0).st a0).st d0,(((w0.st b0).st c0).st a0).st d0,(((h1.st b0).st c0).st a0).st d0,(((t1.st b0).st c0).st a0).st d0,c3.st d0,(((e0.st b0).st c0).st a0).st d0,(((z0.st b0).st c0).st a0).st d0,(((a1.st b0).st c0).st a0).st d0,(((b1.st b0).st c0).st a0).st d0,(((c1.st b0).st c0).st a0).st d0,(((u1.st b0).st c0).st a0).st d0,(((y0.st b0).st c0).st a0).st d0,(z1.st a0).st d0,(b2.st a0).st d0,(((q1.st b0).st c0).st a0).st d0⟩
      try simp only [h3]
      replace p0:=im' p0 h3
      refine Au rfl rfl rfl rfl (Au rfl rfl rfl rfl (Au rfl rfl rfl rfl (Aw rfl rfl (Bp rfl rfl rfl (Bp rfl rfl rfl (o_z ?_))))))
      obtain rfl:=sm p0
      exact ⟨(),_,⟨rfl,rfl,rfl,rfl,rfl,rfl,rfl,rfl,rfl,rfl,rfl,rfl,rfl,trivial⟩,(((hB.st b0).st c0).st a0).st d0,(((s0.st b0).st c0).st a0).st d0,(((h8.st b0).st c0).st a0).st d0,(((u0.st b0).st c0).st a0).st d0,(((w0.st b0).st c0).st a0).st d0,(((h1.st b0).st c0).st a0).st d0,(((t1.st b0).st c0).st a0).st d0,c3.st d0,(((e0.st b0).st c0).st a0).st d0,(((z0.st b0).st c0).st a0).st d0,(((a1.st b0).st c0).st a0).st d0,(((b1.st b0).st c0).st a0).st d0,(((c1.st b0).st c0).st a0).st d0,(((u1.st b0).st c0).st a0).st d0,(((y0.st b0).st c0).st a0).st d0,(z1.st a0).st d0,(b2.st a0).st d0,(((q1.st b0).st c0).st a0).st d0⟩
     replace p0:=iT p0
     refine Am rfl rfl (Au rfl rfl rfl rfl (Au rfl rfl rfl rfl (Au rfl rfl rfl rfl (Au rfl rfl rfl rfl (Au rfl rfl rfl rfl (Au rfl rfl rfl rfl (Bk rfl rfl rfl (o_z ?_))))))))
     obtain rfl:=sm p0
     exact ⟨(),_,⟨rfl,rfl,rfl,rfl,rfl,rfl,rfl,rfl,rfl,rfl,rfl,rfl,rfl,trivial⟩,(((hB.st b0).st c0).st a0).st d0,(((s0.st b0).st c0).st a0).st d0,(((h8.st b0).st c0).st a0).st d0,(((u0.st b0).st c0).st a0).st d0,(((w0.st b0).st c0).st a0).st d0,(((h1.st b0).st c0).st a0).st d0,(((t1.st b0).st c0).st a0).st d0,c3.st d0,(((e0.st b0).st c0).st a0).st d0,(((z0.st b0).st c0).st a0).st d0,(((a1.st b0).st c0).st a0).st d0,(((b1.st b0).st c0).st a0).st d0,(((c1.st b0).st c0).st a0).st d0,(((u1.st b0).st c0).st a0).st d0,(((y0.st b0).st c0).st a0).st d0,(z1.st a0).st d0,(b2.st a0).st d0,(((q1.st b0).st c0).st a0).st d0⟩
    replace hB:=((hB.st b0).st c0).st a0
    replace h8:=((h8.st b0).st c0).st a0
    replace u0:=((u0.st b0).st c0).st a0
    replace w0:=((w0.st b0).st c0).st a0
    replace h1:=((h1.st b0).st c0).st a0
    replace s0:=((s0.st b0).st c0).st a0
    replace t1:=((t1.st b0).st c0).st a0
    replace z0:=((z0.st b0).st c0).st a0
    replace a1:=((a1.st b0).st c0).st a0
    replace b1:=((b1.st b0).st c0).st a0
    replace c1:=((c1.st b0).st c0).st a0
    replace e0:=((e0.st b0).st c0).st a0
    replace y0:=((y0.st b0).st c0).st a0
    replace q1:=((q1.st b0).st c0).st a0
    replace u1:=((u1.st b0).st c0).st a0
    replace b2:=b2.st a0
    replace z1:=z1.st a0
    rintro uA vA ⟨m7,h5,i5,hB,s0,h8,u0,w0,h1,t1,c3,e0,z0,a1,b1,c1,u1,y0,z1,b2,q1⟩
    refine AP _ i5 ?_
    refine CY rfl (fun f4=>?_) (fun f4=>?_)
    ·
     replace q0:=ip q0 f4
     refine Al (Aj (Er rfl rfl ?_))
     refine Ar rfl rfl (Ar rfl rfl (o_z ?_))
     refine AK ?_
     obtain rfl:=sm q0
     obtain rfl:=s2 _ rfl
     obtain rfl:=sm (Cy h0)
     obtain rfl:=d2 _ rfl
     obtain rfl:=sm (Cy hm)
     obtain ⟨O',hS',hz,hl⟩:=hE.leave (fun _=>0) rfl hB
     exact ret2 rfl (AB rfl) (AB rfl) ⟨O',hS',_,_,rfl,rfl,(vErr (by decide))⟩
    replace q0:=im' q0 f4
    refine AJ (Al (Al (Aj (Am rfl rfl (Fg rfl rfl (fun g4=>?_) fun g4=>?_)))))
    ·
     replace q0:=ip q0 g4
     refine o_z ?_
     refine Ah rfl (Al (Aj (Am rfl rfl (Ar rfl rfl (Ar rfl rfl (o_z ?_))))))
     refine AK ?_
     obtain rfl:=sm q0
     obtain rfl:=s2 _ rfl
     obtain rfl:=sm (Cy h0)
     obtain rfl:=d2 _ rfl
     obtain rfl:=sm (Cy hm)
     obtain ⟨O',hS',hz,hl⟩:=hE.leave (fun _=>0) rfl hB
     exact ret2 rfl (AB rfl) (AB rfl) ⟨O',hS',_,_,rfl,rfl,(vErr f5)⟩
    replace q0:=im q0 g4
    refine o_z ?_
    refine Ae rfl (AJ (Bt [(11,[9])] h5 ?_))
    refine AT (fuel:=6) [] [(1,true),(2,true),(3,true),(4,true),(5,true),(6,true),(7,true),(8,true),(9,true)] (by kernel_rfl) rfl ?_
    refine AH rfl rfl rfl (Cd rfl rfl rfl (AR rfl rfl rfl (AS (hc:=fun w' ⟨O',hq⟩=>Blk.cell (i:=5) ((e0.st hq (by decide)).1) rfl) rfl rfl rfl ?_)))
    refine AH rfl rfl rfl (AR rfl rfl rfl (AS (hc:=fun w' ⟨O',hq⟩=>Blk.cell (i:=0) ((z1.st hq (by decide)).1) rfl) rfl rfl rfl ?_))
    refine AH rfl rfl rfl (Fu rfl rfl rfl rfl ?_)
    refine AG ?_
    refine AT (fuel:=5) [9] [(0,true)] (by kernel_rfl) rfl ?_
    refine AH rfl rfl rfl (AG ?_)
    refine AV (i:=10) (by kernel_rfl) rfl ?_
    refine BX 8 (by decide) h5 (xs:=([(⟨k0.1,e2.op,r2.1⟩:Edj)]:List Edj)) rfl rfl rfl rfl ⟨(Vb.ofAgg (cs:=[(.int .i64 k0.1),(.int .i64 e2.op),(.int .i64 r2.1)]) (x:=(⟨k0.1,e2.op,r2.1⟩:Edj)) rfl ⟨rfl,m3,b7,k7⟩),trivial⟩ (by decide) (by decide) rfl fun wA xA yA g1 p7=>?_
    have hZ:=g1.lst [] (fun _ h=>h.elim)
    refine Bg [(11,[9])] hZ (by kernel_rfl) ?_
    refine AV (i:=11) (by kernel_rfl) rfl ?_
    obtain ⟨q7,h4,q0⟩:=bs q0
    obtain ⟨h4,r7,s7⟩:=Cg h4
    replace u1:=u1.st g1
    refine CH rfl u1 (p7.rd) rfl rfl (by decide) r7 s7 rfl fun j5 k5 zA t7 m1 l5=>?_
    rw [← h4] at l5 ⊢
    have hZ:=m1.lst [9] (fun _ h=>by cases h;decide)
    refine Bg [] hZ (by kernel_rfl) ?_
    refine AT (fuel:=1) [] [(12,true),(13,true)] (by kernel_rfl) rfl ?_
    refine Cd rfl rfl rfl (AR rfl rfl rfl (AG ?_))
    refine AV (i:=14) (by kernel_rfl) rfl ?_
    replace e0:=(e0.st g1).st m1
    refine Bf e0 rfl rfl rfl (BO rfl) (allOne rfl) fun u7 s1 e0=>?_
    replace e0:Lc 4 u7 t7 p2 87 [(.slice h2 g0.vars.length i2),(.slice j2 g0.init.length k2),(.slice l2 g0.goal.length m2),(.slice n2 g0.ops.length o2),(.pointer (some ⟨c2,0,none⟩)),(.slice j5 q7.length k5),(.slice r0.1 y1.length r0.2),(.slice none 0 0),(.slice none 0 0),(.slice none 0 0)]:=e0
    refine Di (by kernel_rfl) ?_
    refine BC (by kernel_rfl) ?_
    obtain rfl:=sm q0
    exact show Exists _ from ⟨_,(j5,k5),rfl,⟨rfl,rfl,rfl,rfl,rfl,rfl,rfl,rfl,rfl,trivial⟩,_,((hB.st g1).st m1).st s1,((s0.st g1).st m1).st s1,((h8.st g1).st m1).st s1,((u0.st g1).st m1).st s1,((w0.st g1).st m1).st s1,((h1.st g1).st m1).st s1,((t1.st g1).st m1).st s1,((c3.st g1).st m1).st s1,e0,((z0.st g1).st m1).st s1,((a1.st g1).st m1).st s1,((b1.st g1).st m1).st s1,((c1.st g1).st m1).st s1,l5.st s1,((y0.st g1).st m1).st s1,((q1.st g1).st m1).st s1⟩
   replace hB:=hB.st o0
   replace h8:=h8.st o0
   replace u0:=u0.st o0
   replace w0:=w0.st o0
   replace h1:=h1.st o0
   replace s0:=s0.st o0
   replace t1:=t1.st o0
   replace z0:=z0.st o0
   replace a1:=a1.st o0
   replace b1:=b1.st o0
   replace c1:=c1.st o0
   replace e0:=e0.st o0
   replace y0:=y0.st o0
   rintro aB bB ⟨cB,m5,rfl,n5,dB,hB,s0,h8,u0,w0,h1,t1,q2,e0,z0,a1,b1,c1,u1,y0⟩
   replace h0:=Bo h0
   refine AP _ n5 ?_
   refine Aj (Am rfl rfl ?_)
   obtain ⟨eB,o5,h0⟩:=bs h0
   have w7:=(Cv o5)
   refine Fw (he:=o5) rfl rfl rfl ?_
   refine Ar rfl rfl (o_z ?_)
   obtain rfl:=sm h0
   exact show Exists _ from ⟨_,((m5.1,m5.2),(r0.1,r0.2)),rfl,⟨rfl,rfl,rfl,rfl,rfl,rfl,trivial⟩,_,hB,s0,h8,u0,w0,h1,t1,q2,e0,z0,a1,b1,c1,u1,y0,w7⟩
  replace h0:=im h0 t3
  refine o_z ?_
  refine Ae rfl (DW ?_)
  obtain rfl:=sm h0
  exact show Exists _ from ⟨_,((m0.1.1,m0.1.2),(m0.2.1,m0.2.2)),n3 _ rfl,⟨rfl,trivial⟩,_,hB.st f0,e0.st f0,z0.st f0,a1.st f0,b1.st f0,c1.st f0,m4,n1.st f0,w1.st f0,m3⟩
 replace hB:=(((((hB.st i3).st e3).st f3).st k3).st l3).st d1
 replace z0:=z0.st d1
 replace a1:=a1.st d1
 replace b1:=b1.st d1
 replace c1:=c1.st d1
 rintro fB gB ⟨i4,iB,rfl,p5,jB,hB,e0,z0,a1,b1,c1,g3,n1,w1,m3⟩
 replace hm:=Bo hm
 refine AP _ p5 ?_
 refine Al (Aj (Am rfl rfl ?_))
 obtain ⟨kB,f2,n1⟩:=n1.freeze
 replace w1:=w1.st f2
 obtain ⟨lB,g2,w1⟩:=w1.freeze
 replace z0:=(z0.st f2).st g2
 replace a1:=(a1.st f2).st g2
 replace b1:=(b1.st f2).st g2
 replace c1:=(c1.st f2).st g2
 replace e0:=(e0.st f2).st g2
 replace n1:=n1.st g2
 replace g3:=(g3.st f2).st g2
 obtain ⟨x7,y7,i8,j8,z7⟩:=Spa.shut (x:=(⟨(⟨g0.vars,g0.init,g0.goal,g0.ops⟩:Tsk),i4.2.2.2,i4.2.1,i4.2.2.1,([]:List Int),([]:List Int),([]:List Int)⟩:Spa)) (l0:=4) (l1:=3) (by decide) e0 z0 a1 b1 c1 g3 n1 w1 (Vb.nil _ _) (Vb.nil _ _) (Vb.nil _ _)
 obtain ⟨mB,a8,hm⟩:=bs hm
 refine BR (O:=x7) (GM z7 a8) rfl rfl fun nB oB pB b8 c8=>?_
 refine o_z ?_
 refine Al (Aj (Am rfl rfl (Ar rfl rfl (Ar rfl rfl (o_z ?_)))))
 refine AK ?_
 obtain rfl:=sm hm
 replace hB:=(((hB.st f2).st g2).st y7).st b8
 obtain ⟨O',hS',hz,hl⟩:=hE.leave (fun q=>if q=4 then j0 else 0) rfl hB
 exact ret2 rfl (AB rfl) (AB rfl) ⟨O',hS',_,_,rfl,(Ob.leave c8 hz (hl 4 (by decide) (by decide)) hj0),(vErr (show inI64 0 from by decide))⟩
end
section
open Go Go.RowKit
attribute [local irreducible] ewp owp hwp hwq hws Ev Evg Fn retPost loud loudS Res1
attribute [local irreducible] hwx loudX
noncomputable def EE (x0:Int) (x1:Int) (x2:Int):Option Int :=
  some (max x1 (min x0 x2))
theorem LS {w:World} {A:Nat→Prop} (hA:∀ k,A k→k < w.heap.size) {x0:Int} (rx0:inI64 x0) {x1:Int} (rx1:inI64 x1) {x2:Int} (rx2:inI64 x2) {r:Int} (hm:EE x0 x1 x2=some r) :
    Fn Tryz.prog 52 [(.int .i64 x0),(.int .i64 x1),(.int .i64 x2)] w fun v w'=>Ext w w'∧Vb w' (upA A w w') v r:=by
 obtain ⟨O,hB,a0⟩:=enter hA
 refine AI Tryz.func52 rfl Tryz.ntmps52 rfl ?_
 unfold EE at hm
 refine Al (Aj (Ar rfl rfl (o_z ?_)))
 refine Al (Aj (Am rfl rfl (Am rfl rfl (Am rfl rfl (Mu rfl rfl rfl ?_)))))
 refine Mv rfl rfl rfl ?_
 refine Ar rfl rfl (o_z ?_)
 refine AK ?_
 obtain rfl:=sm hm
 exact ret1v rfl (AB rfl) ⟨hB.ext,(vInt (rngMax rx1 (rngMin rx0 rx2)))⟩
noncomputable def Dc (x0:List (List Int)) (x1:List Int):Option Int :=
  bnd (rng (ρ:=Int) (fun (k13:Nat) (a14:List Int) (s11:Unit)=>bnd (GX a14 x1) fun q35=>if q35=true then some (.ret (k13:Int)) else some (.next ())) x0 0 ()) fun res9=>fin res9 fun (s46:Unit)=>some (-1)
theorem Iv {w:World} {A:Nat→Prop} (hA:∀ k,A k→k < w.heap.size) {vx0:Value} {x0:List (List Int)} (b0:Vb w A vx0 x0) {vx1:Value} {x1:List Int} (c0:Vb w A vx1 x1) {r:Int} (hm:Dc x0 x1=some r) :
    Fn Tryz.prog 54 [vx0,vx1] w fun v w'=>Ext w w'∧Vb w' (upA A w w') v r:=by
 obtain ⟨O,hB,s0⟩:=enter hA
 replace b0:=b0.mono s0
 obtain ⟨A3,c4,rfl⟩:=b0.form
 replace c0:=c0.mono s0
 obtain ⟨A5,c6,rfl⟩:=c0.form
 refine AI Tryz.func54 rfl Tryz.ntmps54 rfl ?_
 unfold Dc at hm
 refine Al (Aj (Ar rfl rfl (o_z ?_)))
 refine Al (Al (Aj (Am rfl rfl (AN rfl rfl ?_))))
 have l8:x0.length≤9223372036854775807:=Nat.le_trans b0.len.2.1 b0.len.2.2
 have r7:inI64 (x0.length:Int):=rngNat l8
 refine Am rfl rfl (o_z ?_)
 obtain ⟨j0,k0,hm⟩:=bs hm
 refine AM (aft j0 (fun (f0:Unit) (g0:Unit)=>[]) (fun f0 g0 w'=>∃ O':Lab,Bs w A w' O')) ?_ ?_
 ·
  refine AQ (BV (σ:=Unit) (X:=Unit) (x0.length) k0 rfl l8 (fun (f0:Unit) (g0:Unit)=>[(0,(.slice A3 x0.length c4)),(1,(.slice A5 x1.length c6))]) _ (fun f0 g0 w'=>∃ O':Lab,Bs w A w' O'∧Vb w' (Fr 0 w' O') (.slice A3 x0.length c4) x0∧Vb w' (Fr 0 w' O') (.slice A5 x1.length c6) x1) _ () ⟨O,hB,b0,c0⟩ ⟨rfl,rfl,rfl,rfl,trivial⟩ (fun _ _=>⟨rfl,rfl⟩) (fun _ _=>trivial) (fun _ _ _ ⟨O',hB,b0,c0⟩=>⟨O',hB⟩) ⟨rfl,rfl,rfl⟩ ⟨rfl,rfl⟩ ?_)
  rintro u0 a1 f0 g0 l0 v0 e0 ⟨m0,hB,b0,c0⟩ a0 d0 n0
  have rk13:inI64 (u0:Int):=rngK e0 l8
  refine Al (Aj (Am rfl rfl (Ar rfl rfl (o_z ?_))))
  refine Al (Aj (Am rfl rfl (Am rfl rfl ?_)))
  obtain ⟨b1,c1,w0,o0,p0,q0,d1,rfl,h0⟩:=b0.elem' e0
  replace h0:=Vb.of_slice h0
  obtain ⟨e1,f1,rfl⟩:=h0.form
  refine BW (hA:=o0) (hj:=rfl) (hlt:=p0) rfl rfl rfl ?_
  refine AE (hc:=cat0 q0) rfl rfl ?_
  refine Am rfl rfl ?_
  obtain ⟨t0,y0,a0⟩:=bs a0
  refine Ce (O:=m0) (A:=All l0) (R:=fun w' F v=>Vb w' F v t0) (LM (fun _ h=>h) (Vb.mono (F:=Fr 0 l0 m0) h0 Fr.lt) (Vb.mono (F:=Fr 0 l0 m0) c0 Fr.lt) y0) rfl rfl fun g1 h1 i1 i0 z0=>?_
  obtain rfl:=z0.bool
  cases t0
  case false =>
   replace a0:=iF a0
   refine o_z ?_
   refine Ae rfl (AJ ?_)
   obtain rfl:=sm a0
   exact show Exists _ from ⟨_,(),rfl,⟨rfl,rfl,rfl,rfl,trivial⟩,_,hB.st i0,b0.st i0,c0.st i0⟩
  replace a0:=iT a0
  refine o_z ?_
  refine Ah rfl (Al (Aj (Am rfl rfl (Ar rfl rfl (o_z ?_)))))
  refine AK ?_
  obtain rfl:=sm a0
  obtain rfl:=d0 _ rfl
  obtain rfl:=sm (Cy hm)
  replace hB:=hB.st i0
  exact ret1v rfl (AB rfl) ⟨hB.ext,(vInt rk13)⟩
 rintro j1 k1 ⟨l1,m1,rfl,r0,n1,hB⟩
 replace hm:=Bo hm
 refine AP _ r0 ?_
 refine Al (Aj (Ar rfl rfl (o_z ?_)))
 refine AK ?_
 obtain rfl:=sm hm
 exact ret1v rfl (AB rfl) ⟨hB.ext,(vInt (show inI64 (-1) from by decide))⟩
noncomputable def DB (x0:Tsk) (x1:Int):Option ((List (List Int))×Bool) :=
  bnd (EE x1 0 65536) fun q25=>bnd (appI 8 ([]:List Int) x0.init) fun u39=>bnd (lop (ρ:=(List (List Int))×Bool) (fun (s60:(List (List Int))×Int)=>bnd (if s60.2 < (s60.1.length:Int) then (if (s60.1.length:Int)≤q25 then (some true) else (some false)) else (some false):Option Bool) fun y79=>if y79=true then (bnd (rng (ρ:=Ctl ((List (List Int))×Int) ((List (List Int))×Bool)) (fun (k100:Nat) (a101:Opr) (s98:(List (List Int)))=>bnd (atI s98 s60.2) fun a115=>bnd (CN x0 a115 (k100:Int)) fun q130=>bnd (if q130.2=true then (bnd (Dc s98 q130.1) fun q148=>if q148 < 0 then (some true) else (some false)) else (some false):Option Bool) fun y143=>if y143=true then (bnd (appI 24 s98 [q130.1]) fun u162=>some (.next u162)) else (some (.next s98))) x0.ops 0 s60.1) fun res96=>fin res96 fun (s178:(List (List Int)))=>bnd (chkI (s60.2 + 1)) fun n180=>some (.next (s178,n180))) else (some (.brk (s60.1,s60.2)))) ([u39],0)) fun res58=>fin res58 fun (s187:(List (List Int))×Int)=>bnd (if (s187.1.length:Int)≤q25 then (some true) else (some false):Option Bool) fun y189=>some (s187.1,y189)
theorem Kj {w:World} {A:Nat→Prop} (hA:∀ k,A k→k < w.heap.size) {vx0:Value} {x0:Tsk} (r2:Vb w A vx0 x0) {x1:Int} (rx1:inI64 x1) {r:(List (List Int))×Bool} (hm:DB x0 x1=some r) :
    Fn Tryz.prog 13 [vx0,(.int .i64 x1)] w fun v w'=>Ext w w'∧T2 w' (upA A w w') v r:=by
 obtain ⟨O,hB,c4⟩:=enter hA
 replace r2:=r2.mono c4
 obtain ⟨d6,rfl,v4,v5,v6,v7,rfl,h8,h0,j0,i0⟩:=r2
 obtain ⟨A9,u0,rfl⟩:=h8.form
 obtain ⟨v0,w0,rfl⟩:=h0.form
 obtain ⟨y0,z0,rfl⟩:=j0.form
 obtain ⟨a1,b1,rfl⟩:=i0.form
 refine AI Tryz.func13 rfl Tryz.ntmps13 rfl ?_
 unfold DB at hm
 refine Al (Aj (EJ 2 O rfl rfl fun c1 x3 y3 s1 f0=>?_))
 replace f0:Lc 2 x3 y3 c1 26 [(.slice A9 x0.vars.length u0),(.slice v0 x0.init.length w0),(.slice y0 x0.goal.length z0),(.slice a1 x0.ops.length b1)]:=f0
 refine Ar rfl rfl (Ar rfl rfl (o_z ?_))
 refine Al (Aj (Am rfl rfl ?_))
 obtain ⟨h1,d4,hm⟩:=bs hm
 refine Ce (O:=y3) (A:=All x3) (R:=fun w' F v=>Vb w' F v h1) (LS (fun _ h=>h) rx1 (show inI64 (0) from by decide) (show inI64 (65536) from by decide) d4) rfl rfl fun e6 f6 e4 i1 f4=>?_
 obtain ⟨rfl,g6⟩:=f4.int
 refine Ar rfl rfl (o_z ?_)
 refine Al (Aj (BX 3 (by decide) e4 (xs:=(([]:List Int):List Int)) rfl rfl rfl rfl trivial (by decide) (by decide) rfl fun h6 i6 j6 j1 g4=>?_))
 refine AF rfl rfl ?_
 replace f0:=(f0.st i1).st j1
 refine AE (hc:=Blk.cell (i:=1) (f0.1) rfl) rfl rfl ?_
 obtain ⟨h4,s2,hm⟩:=bs hm
 obtain ⟨s2,i4,j4⟩:=Cg s2
 replace h0:=((h0.st s1).st i1).st j1
 refine CH rfl g4 (h0.rd) rfl rfl (by decide) i4 j4 rfl fun k6 l6 m6 n6 k1 o2=>?_
 rw [← s2] at o2 ⊢
 obtain ⟨k4,l1,o2⟩:=o2.freeze
 refine BX 4 (by decide) k4 (xs:=([h4]:List (List Int))) rfl rfl rfl rfl ⟨o2,trivial⟩ (by decide) (by decide) rfl fun l4 o6 m4 m1 n4=>?_
 refine Ar rfl rfl (o_z ?_)
 refine Al (Al (Aj (Ar rfl rfl (o_z ?_))))
 obtain ⟨t1,t2,hm⟩:=bs hm
 refine AM (aft t1 (fun (k0:(List (List Int))×Int) (m0:(Option Addr×Nat))=>[(1,(.int .i64 h1)),(6,(.slice m0.1 k0.1.length m0.2))]) (fun k0 m0 w'=>∃ O':Lab,Bs w A w' O'∧Rw 4 w' O' 22 (.slice m0.1 k0.1.length m0.2) k0.1∧inI64 k0.2)) ?_ ?_
 ·
  refine AQ ?_
  replace hB:=(((((hB.st s1).st i1).st j1).st k1).st l1).st m1
  replace h8:=(((((h8.st s1).st i1).st j1).st k1).st l1).st m1
  replace h0:=((h0.st k1).st l1).st m1
  replace j0:=(((((j0.st s1).st i1).st j1).st k1).st l1).st m1
  replace i0:=(((((i0.st s1).st i1).st j1).st k1).st l1).st m1
  replace f0:=((f0.st k1).st l1).st m1
  refine Gn (σ:=(List (List Int))×Int) (X:=(Option Addr×Nat)) t2 (fun (k0:(List (List Int))×Int) (m0:(Option Addr×Nat))=>[(1,(.int .i64 h1)),(2,(.pointer (some ⟨c1,0,none⟩))),(6,(.slice m0.1 k0.1.length m0.2)),(7,(.int .i64 k0.2))]) _ (fun k0 m0 w'=>∃ O':Lab,Bs w A w' O'∧Lc 2 w' O' c1 26 [(.slice A9 x0.vars.length u0),(.slice v0 x0.init.length w0),(.slice y0 x0.goal.length z0),(.slice a1 x0.ops.length b1)]∧Vb w' (Fr 0 w' O') (.slice A9 x0.vars.length u0) x0.vars∧Vb w' (Fr 0 w' O') (.slice v0 x0.init.length w0) x0.init∧Vb w' (Fr 0 w' O') (.slice y0 x0.goal.length z0) x0.goal∧Vb w' (Fr 0 w' O') (.slice a1 x0.ops.length b1) x0.ops∧Rw 4 w' O' 22 (.slice m0.1 k0.1.length m0.2) k0.1∧inI64 k0.2) _ ((some ⟨l4,0,none⟩),1) ⟨m4,hB,f0,h8,h0,j0,i0,n4,(show inI64 (0) from by decide)⟩ ⟨rfl,rfl,rfl,rfl,trivial⟩ ?_
  rintro k0 m0 p6 o4 ⟨q6,hB,f0,h8,h0,j0,i0,o0,z3⟩ g0 u2 n1
  refine Al (Al ?_)
  obtain ⟨p4,l0,g0⟩:=bs g0
  refine AM (fun l' w'=>∃ (q4:Unit) (O':Lab),subs l' [(1,(.int .i64 h1)),(2,(.pointer (some ⟨c1,0,none⟩))),(6,(.slice m0.1 k0.1.length m0.2)),(7,(.int .i64 k0.2)),(27,(.bool p4))]∧Bs w A w' O'∧Lc 2 w' O' c1 26 [(.slice A9 x0.vars.length u0),(.slice v0 x0.init.length w0),(.slice y0 x0.goal.length z0),(.slice a1 x0.ops.length b1)]∧Vb w' (Fr 0 w' O') (.slice A9 x0.vars.length u0) x0.vars∧Vb w' (Fr 0 w' O') (.slice v0 x0.init.length w0) x0.init∧Vb w' (Fr 0 w' O') (.slice y0 x0.goal.length z0) x0.goal∧Vb w' (Fr 0 w' O') (.slice a1 x0.ops.length b1) x0.ops∧Rw 4 w' O' 22 (.slice m0.1 k0.1.length m0.2) k0.1) ?_ ?_
  ·
   refine Aj (Am rfl rfl (Am rfl rfl (AN rfl rfl ?_)))
   have r4:k0.1.length≤9223372036854775807:=Nat.le_trans o0.len.2.1 o0.len.2.2
   have r6:inI64 (k0.1.length:Int):=rngNat r4
   refine DJ rfl rfl rfl (fun v2=>?_) fun v2=>?_
   ·
    replace l0:=ip l0 v2
    refine Am rfl rfl (Aw rfl rfl (Am rfl rfl (Aw rfl rfl (AN rfl rfl ?_))))
    have s4:k0.1.length≤9223372036854775807:=Nat.le_trans o0.len.2.1 o0.len.2.2
    have s6:inI64 (k0.1.length:Int):=rngNat s4
    refine Aw rfl rfl (Am rfl rfl (Aw rfl rfl (KS rfl rfl rfl (fun w2=>?_) fun w2=>?_)))
    ·
     replace l0:=ip l0 w2
     refine Bk rfl rfl rfl (o_z ?_)
     obtain rfl:=sm l0
     exact ⟨(),_,⟨rfl,rfl,rfl,rfl,rfl,trivial⟩,hB,f0,h8,h0,j0,i0,o0⟩
    replace l0:=im l0 w2
    refine Bk rfl rfl rfl (o_z ?_)
    obtain rfl:=sm l0
    exact ⟨(),_,⟨rfl,rfl,rfl,rfl,rfl,trivial⟩,hB,f0,h8,h0,j0,i0,o0⟩
   replace l0:=im l0 v2
   refine Am rfl rfl (Au rfl rfl rfl rfl (Au rfl rfl rfl rfl (Au rfl rfl rfl rfl (Au rfl rfl rfl rfl (Bp rfl rfl rfl (o_z ?_))))))
   obtain rfl:=sm l0
   exact ⟨(),_,⟨rfl,rfl,rfl,rfl,rfl,trivial⟩,hB,f0,h8,h0,j0,i0,o0⟩
  rintro t6 u6 ⟨q4,t4,x2,hB,f0,h8,h0,j0,i0,o0⟩
  refine AP _ x2 ?_
  refine CY rfl (fun y2=>?_) (fun y2=>?_)
  ·
   replace g0:=ip g0 y2
   refine AJ (Al (AQ (Al (Aj (AF rfl rfl (AE (hc:=Blk.cell (i:=3) (f0.1) rfl) rfl rfl ?_))))))
   refine AN rfl rfl ?_
   have z2:x0.ops.length≤9223372036854775807:=Nat.le_trans i0.len.2.1 i0.len.2.2
   have w6:inI64 (x0.ops.length:Int):=rngNat z2
   refine Am rfl rfl (o_z ?_)
   obtain ⟨u1,a3,g0⟩:=bs g0
   refine AM (aft u1 (fun (r0:(List (List Int))) (p0:(Option Addr×Nat))=>[(1,(.int .i64 h1)),(2,(.pointer (some ⟨c1,0,none⟩))),(6,(.slice p0.1 r0.length p0.2)),(7,(.int .i64 k0.2))]) (fun r0 p0 w'=>∃ O':Lab,Bs w A w' O'∧Lc 2 w' O' c1 26 [(.slice A9 x0.vars.length u0),(.slice v0 x0.init.length w0),(.slice y0 x0.goal.length z0),(.slice a1 x0.ops.length b1)]∧Vb w' (Fr 0 w' O') (.slice A9 x0.vars.length u0) x0.vars∧Vb w' (Fr 0 w' O') (.slice v0 x0.init.length w0) x0.init∧Vb w' (Fr 0 w' O') (.slice y0 x0.goal.length z0) x0.goal∧Vb w' (Fr 0 w' O') (.slice a1 x0.ops.length b1) x0.ops∧Rw 4 w' O' 22 (.slice p0.1 r0.length p0.2) r0)) ?_ ?_
   ·
    refine AQ (BV (σ:=(List (List Int))) (X:=(Option Addr×Nat)) (x0.ops.length) a3 rfl z2 (fun (r0:(List (List Int))) (p0:(Option Addr×Nat))=>[(1,(.int .i64 h1)),(2,(.pointer (some ⟨c1,0,none⟩))),(6,(.slice p0.1 r0.length p0.2)),(7,(.int .i64 k0.2))]) _ (fun r0 p0 w'=>∃ O':Lab,Bs w A w' O'∧Lc 2 w' O' c1 26 [(.slice A9 x0.vars.length u0),(.slice v0 x0.init.length w0),(.slice y0 x0.goal.length z0),(.slice a1 x0.ops.length b1)]∧Vb w' (Fr 0 w' O') (.slice A9 x0.vars.length u0) x0.vars∧Vb w' (Fr 0 w' O') (.slice v0 x0.init.length w0) x0.init∧Vb w' (Fr 0 w' O') (.slice y0 x0.goal.length z0) x0.goal∧Vb w' (Fr 0 w' O') (.slice a1 x0.ops.length b1) x0.ops∧Rw 4 w' O' 22 (.slice p0.1 r0.length p0.2) r0) _ (m0.1,m0.2) ⟨t4,hB,f0,h8,h0,j0,i0,o0⟩ ⟨rfl,rfl,rfl,rfl,rfl,rfl,trivial⟩ (fun _ _=>⟨rfl,rfl⟩) (fun _ _=>⟨rfl,rfl,rfl,rfl,trivial⟩) (fun _ _ _ ⟨O',hB,f0,h8,h0,j0,i0,d0⟩=>⟨O',hB,f0,h8,h0,j0,i0,d0⟩) ⟨rfl,rfl,rfl⟩ ⟨rfl,rfl⟩ ?_)
    rintro v1 u4 r0 p0 w4 a4 w1 ⟨y1,hB,f0,h8,h0,j0,i0,d0⟩ b0 p2 q2
    have rk100:inI64 (v1:Int):=rngK w1 z2
    refine Al (Aj (Am rfl rfl (Ar rfl rfl (o_z ?_))))
    refine Al (Bt [] y1 ?_)
    refine AT (fuel:=6) [] [(0,true),(1,true),(2,true),(3,true),(4,true),(5,true)] (by kernel_rfl) rfl ?_
    refine ET (hl:=rfl) (hb:=fun w' ⟨O',hq⟩=>((f0.st hq (by decide)).1).cellsAt) rfl rfl rfl ?_
    refine AH rfl rfl rfl (AH rfl rfl rfl ?_)
    obtain ⟨x4,b3,b0⟩:=bs b0
    obtain ⟨c3,d3⟩:=AO b3
    obtain ⟨y4,z4,b4,z1,a2,b2,c2,a5,rfl,f1⟩:=d0.elemF d3
    replace f1:=Vb.of_slice f1
    obtain ⟨b5,c5,rfl⟩:=f1.form
    refine BJ (hA:=z1) (hj:=(Int.toNat_of_nonneg c3).symm) (hlt:=b2) rfl rfl rfl rfl ?_
    refine AS (hc:=fun w' ⟨O',hq⟩=>cat0 (AZ (hq.agree (i:=4) (by decide)) a2 c2)) rfl rfl rfl ?_
    refine AH rfl rfl rfl (AG ?_)
    refine AV (i:=6) (by kernel_rfl) rfl ?_
    obtain ⟨s0,e3,b0⟩:=bs b0
    refine Fd (O:=y1) (R:=fun w' F v=>T2 w' F v s0) (In Fr.lt (Vb.ofAgg (cs:=[(.slice A9 x0.vars.length u0),(.slice v0 x0.init.length w0),(.slice y0 x0.goal.length z0),(.slice a1 x0.ops.length b1)]) (x:=x0) rfl ⟨_,_,_,_,rfl,h8,h0,j0,i0⟩) f1 rk100 e3) rfl rfl fun d5 d2 e2 a0 f3=>?_
    obtain ⟨e5,f5,rfl,q0,g3⟩:=f3
    obtain ⟨f2,g2,rfl⟩:=q0.form
    obtain rfl:=g3.bool
    have hZ:=a0.lst [] (fun _ h=>h.elim)
    refine Bg [] hZ (by kernel_rfl) ?_
    refine AT (fuel:=0) [] [(7,true),(8,true),(9,true),(10,true),(11,true)] (by kernel_rfl) rfl ?_
    refine AH rfl rfl rfl (Kc rfl rfl rfl rfl (Kc rfl rfl rfl rfl (Dv rfl rfl rfl (Dv rfl rfl rfl (AG ?_)))))
    refine BC (by kernel_rfl) ?_
    refine Al ?_
    obtain ⟨h3,c0,b0⟩:=bs b0
    refine AM (fun l' w'=>∃ (i3:Unit) (O':Lab),subs l' [(1,(.int .i64 h1)),(2,(.pointer (some ⟨c1,0,none⟩))),(6,(.slice p0.1 r0.length p0.2)),(7,(.int .i64 k0.2)),(9,(.slice f2 s0.1.length g2)),(32,(.int .i64 (x0.ops.length:Int))),(33,(.int .i64 (v1:Int))),(52,(.bool h3))]∧Bs w A w' O'∧Lc 2 w' O' c1 26 [(.slice A9 x0.vars.length u0),(.slice v0 x0.init.length w0),(.slice y0 x0.goal.length z0),(.slice a1 x0.ops.length b1)]∧Vb w' (Fr 0 w' O') (.slice A9 x0.vars.length u0) x0.vars∧Vb w' (Fr 0 w' O') (.slice v0 x0.init.length w0) x0.init∧Vb w' (Fr 0 w' O') (.slice y0 x0.goal.length z0) x0.goal∧Vb w' (Fr 0 w' O') (.slice a1 x0.ops.length b1) x0.ops∧Rw 4 w' O' 22 (.slice p0.1 r0.length p0.2) r0∧Vb w' (Fr 0 w' O') (.slice f2 s0.1.length g2) s0.1) ?_ ?_
    ·
     refine Aj (Am rfl rfl (Am rfl rfl ?_))
     rcases Bool.eq_false_or_eq_true s0.2 with d1|d1
     ·
      try simp only [d1]
      replace c0:=ip c0 d1
      refine Aw rfl rfl (Am rfl rfl (Aw rfl rfl (Am rfl rfl (Aw rfl rfl ?_))))
      obtain ⟨j3,k3,c0⟩:=bs c0
      replace d0:=d0.st a0
      refine Ce (O:=e2) (A:=All d2) (R:=fun w' F v=>Vb w' F v j3) (Iv (fun _ h=>h) (d0).all (Vb.mono (F:=Fr 0 d2 e2) q0 Fr.lt) k3) rfl rfl fun g5 h5 i5 e0 l3=>?_
      obtain ⟨rfl,j5⟩:=l3.int
      refine Aw rfl rfl (DJ rfl rfl rfl (fun o1=>?_) fun o1=>?_)
      ·
       replace c0:=ip c0 o1
       refine Bk rfl rfl rfl (o_z ?_)
       obtain rfl:=sm c0
       exact ⟨(),_,⟨rfl,rfl,rfl,rfl,rfl,rfl,rfl,rfl,trivial⟩,(hB.st a0).st e0,(f0.st a0).st e0,(h8.st a0).st e0,(h0.st a0).st e0,(j0.st a0).st e0,(i0.st a0).st e0,d0.st e0,q0.st e0⟩
      replace c0:=im c0 o1
      refine Bk rfl rfl rfl (o_z ?_)
      obtain rfl:=sm c0
      exact ⟨(),_,⟨rfl,rfl,rfl,rfl,rfl,rfl,rfl,rfl,trivial⟩,(hB.st a0).st e0,(f0.st a0).st e0,(h8.st a0).st e0,(h0.st a0).st e0,(j0.st a0).st e0,(i0.st a0).st e0,d0.st e0,q0.st e0⟩
     try simp only [d1]
     replace c0:=im' c0 d1
     refine Au rfl rfl rfl rfl (Au rfl rfl rfl rfl (Au rfl rfl rfl rfl (Au rfl rfl rfl rfl (Bp rfl rfl rfl (o_z ?_)))))
     obtain rfl:=sm c0
     exact ⟨(),_,⟨rfl,rfl,rfl,rfl,rfl,rfl,rfl,rfl,trivial⟩,hB.st a0,f0.st a0,h8.st a0,h0.st a0,j0.st a0,i0.st a0,d0.st a0,q0⟩
    replace hB:=hB.st a0
    replace h8:=h8.st a0
    replace h0:=h0.st a0
    replace j0:=j0.st a0
    replace i0:=i0.st a0
    replace f0:=f0.st a0
    replace d0:=d0.st a0
    rintro k5 l5 ⟨i3,m5,h2,hB,f0,h8,h0,j0,i0,d0,q0⟩
    refine AP _ h2 ?_
    refine CY rfl (fun p1=>?_) (fun p1=>?_)
    ·
     replace b0:=ip b0 p1
     refine Aj (Am rfl rfl (Am rfl rfl ?_))
     obtain ⟨n5,q1,b0⟩:=bs b0
     obtain ⟨q1,m3,n3⟩:=Cg q1
     refine Ej rfl (a:=s0.1) d0 q0 (fun _=>rfl) rfl (by decide) (by decide) m3 n3 ⟨rfl,rfl⟩ fun o5 o3 p3 p5 q5 t0 i2=>?_
     rw [← q1] at i2 ⊢
     refine Ar rfl rfl (o_z ?_)
     obtain rfl:=sm b0
     exact show Exists _ from ⟨_,(o3,p3),rfl,⟨rfl,rfl,rfl,rfl,rfl,rfl,trivial⟩,_,hB.st t0,f0.st t0,h8.st t0,h0.st t0,j0.st t0,i0.st t0,i2⟩
    replace b0:=im' b0 p1
    refine AJ ?_
    obtain rfl:=sm b0
    exact show Exists _ from ⟨_,(p0.1,p0.2),rfl,⟨rfl,rfl,rfl,rfl,rfl,rfl,trivial⟩,_,hB,f0,h8,h0,j0,i0,d0⟩
   rintro r5 s5 ⟨t5,j2,rfl,k2,u5,hB,f0,h8,h0,j0,i0,d0⟩
   replace g0:=Bo g0
   refine AP _ k2 ?_
   refine Aj (Am rfl rfl ?_)
   obtain ⟨w5,l2,g0⟩:=bs g0
   have q3:=(Cv l2)
   refine Fw (he:=l2) rfl rfl rfl ?_
   refine Ar rfl rfl (o_z ?_)
   obtain rfl:=sm g0
   exact show Exists _ from ⟨_,(j2.1,j2.2),rfl,⟨rfl,rfl,rfl,rfl,trivial⟩,_,hB,f0,h8,h0,j0,i0,d0,q3⟩
  replace g0:=im' g0 y2
  refine DW ?_
  obtain rfl:=sm g0
  exact show Exists _ from ⟨_,(m0.1,m0.2),n1 _ rfl,⟨rfl,rfl,trivial⟩,_,hB,o0,z3⟩
 replace hB:=(((((hB.st s1).st i1).st j1).st k1).st l1).st m1
 rintro x5 y5 ⟨e1,g1,rfl,m2,z5,hB,o0,z3⟩
 replace hm:=Bo hm
 refine AP _ m2 ?_
 refine Al ?_
 obtain ⟨r3,n0,hm⟩:=bs hm
 refine AM (fun l' w'=>∃ (s3:Unit) (O':Lab),subs l' [(4,(.slice g1.1 e1.1.length g1.2)),(5,(.bool r3))]∧Bs w A w' O'∧Rw 4 w' O' 22 (.slice g1.1 e1.1.length g1.2) e1.1) ?_ ?_
 ·
  refine Aj (Am rfl rfl (Am rfl rfl (AN rfl rfl ?_)))
  have t3:e1.1.length≤9223372036854775807:=Nat.le_trans o0.len.2.1 o0.len.2.2
  have a6:inI64 (e1.1.length:Int):=rngNat t3
  refine Am rfl rfl (KS rfl rfl rfl (fun r1=>?_) fun r1=>?_)
  ·
   replace n0:=ip n0 r1
   refine Ar rfl rfl (Ar rfl rfl (o_z ?_))
   obtain rfl:=sm n0
   exact ⟨(),_,⟨rfl,rfl,trivial⟩,hB,o0⟩
  replace n0:=im n0 r1
  refine Ar rfl rfl (Ar rfl rfl (o_z ?_))
  obtain rfl:=sm n0
  exact ⟨(),_,⟨rfl,rfl,trivial⟩,hB,o0⟩
 rintro b6 u3 ⟨s3,c6,n2,hB,o0⟩
 refine AP _ n2 ?_
 refine AK ?_
 obtain ⟨v3,w3,o0⟩:=o0.freeze
 obtain rfl:=sm hm
 replace hB:=hB.st w3
 exact ret2 rfl (AB rfl) (AB rfl) ⟨hB.ext,_,_,rfl,(Vb.mono (F:=Fr 0 u3 v3) o0 hB.out),vBool⟩
noncomputable def Ey (x0:Tsk) (x1:List (List Int)):Option (List Edj) :=
  bnd (rng (ρ:=(List Edj)) (fun (k33:Nat) (a34:List Int) (s31:(List Edj))=>bnd (rng (ρ:=Ctl (List Edj) (List Edj)) (fun (k54:Nat) (a55:Opr) (s52:(List Edj))=>bnd (CN x0 a34 (k54:Int)) fun q80=>if q80.2=true then (bnd (Dc x1 q80.1) fun q94=>bnd (appI 24 s52 [(⟨(k33:Int),(k54:Int),q94⟩:Edj)]) fun u102=>some (.next u102)) else (some (.next s52))) x0.ops 0 s31) fun res50=>fin res50 fun (s118:(List Edj))=>some (.next s118)) x1 0 ([]:List Edj)) fun res29=>fin res29 fun (s124:(List Edj))=>some s124
theorem KN {w:World} {A:Nat→Prop} (hA:∀ k,A k→k < w.heap.size) {vx0:Value} {x0:Tsk} (o1:Vb w A vx0 x0) {vx1:Value} {x1:List (List Int)} (b0:Vb w A vx1 x1) {r:(List Edj)} (hm:Ey x0 x1=some r) :
    Fn Tryz.prog 14 [vx0,vx1] w fun v w'=>Ext w w'∧Vb w' (upA A w w') v r:=by
 obtain ⟨O,hB,o2⟩:=enter hA
 replace o1:=o1.mono o2
 obtain ⟨q3,rfl,v4,v5,v6,v7,rfl,h8,f0,g0,c0⟩:=o1
 obtain ⟨A9,o0,rfl⟩:=h8.form
 obtain ⟨p0,q0,rfl⟩:=f0.form
 obtain ⟨r0,s0,rfl⟩:=g0.form
 obtain ⟨t0,u0,rfl⟩:=c0.form
 replace b0:=b0.mono o2
 obtain ⟨d1,e1,rfl⟩:=b0.form
 refine AI Tryz.func14 rfl Tryz.ntmps14 rfl ?_
 unfold Ey at hm
 refine Al (Aj (EJ 2 O rfl rfl fun y0 s2 p2 z0 h0=>?_))
 replace h0:Lc 2 s2 p2 y0 26 [(.slice A9 x0.vars.length o0),(.slice p0 x0.init.length q0),(.slice r0 x0.goal.length s0),(.slice t0 x0.ops.length u0)]:=h0
 refine Ar rfl rfl (o_z ?_)
 refine Al (Aj (Ar rfl rfl (o_z ?_)))
 refine Al (Al (Aj (Am rfl rfl (AN rfl rfl ?_))))
 replace b0:=b0.st z0
 have p1:x1.length≤9223372036854775807:=Nat.le_trans b0.len.2.1 b0.len.2.2
 have r3:inI64 (x1.length:Int):=rngNat p1
 refine Am rfl rfl (o_z ?_)
 obtain ⟨f1,q1,hm⟩:=bs hm
 refine AM (aft f1 (fun (m0:(List Edj)) (j0:(Option Addr×Nat))=>[(5,(.slice j0.1 m0.length j0.2))]) (fun m0 j0 w'=>∃ O':Lab,Bs w A w' O'∧Rw 3 w' O' 94 (.slice j0.1 m0.length j0.2) m0)) ?_ ?_
 ·
  refine AQ ?_
  replace hB:=hB.st z0
  replace h8:=h8.st z0
  replace f0:=f0.st z0
  replace g0:=g0.st z0
  replace c0:=c0.st z0
  refine BV (σ:=(List Edj)) (X:=(Option Addr×Nat)) (x1.length) q1 rfl p1 (fun (m0:(List Edj)) (j0:(Option Addr×Nat))=>[(1,(.slice d1 x1.length e1)),(2,(.pointer (some ⟨y0,0,none⟩))),(5,(.slice j0.1 m0.length j0.2))]) _ (fun m0 j0 w'=>∃ O':Lab,Bs w A w' O'∧Vb w' (Fr 0 w' O') (.slice d1 x1.length e1) x1∧Lc 2 w' O' y0 26 [(.slice A9 x0.vars.length o0),(.slice p0 x0.init.length q0),(.slice r0 x0.goal.length s0),(.slice t0 x0.ops.length u0)]∧Vb w' (Fr 0 w' O') (.slice A9 x0.vars.length o0) x0.vars∧Vb w' (Fr 0 w' O') (.slice p0 x0.init.length q0) x0.init∧Vb w' (Fr 0 w' O') (.slice r0 x0.goal.length s0) x0.goal∧Vb w' (Fr 0 w' O') (.slice t0 x0.ops.length u0) x0.ops∧Rw 3 w' O' 94 (.slice j0.1 m0.length j0.2) m0) _ (none,0) ⟨p2,hB,b0,h0,h8,f0,g0,c0,(Rw.nil 3 (by decide))⟩ ⟨rfl,rfl,rfl,rfl,rfl,trivial⟩ (fun _ _=>⟨rfl,rfl⟩) (fun _ _=>⟨rfl,trivial⟩) (fun _ _ _ ⟨O',hB,b0,h0,h8,f0,g0,c0,a1⟩=>⟨O',hB,a1⟩) ⟨rfl,rfl,rfl⟩ ⟨rfl,rfl⟩ ?_
  rintro b1 s3 m0 j0 t3 t2 g1 ⟨u2,hB,b0,h0,h8,f0,g0,c0,a1⟩ l0 r1 s1
  have rk33:inI64 (b1:Int):=rngK g1 p1
  refine Al (Aj (Am rfl rfl (Ar rfl rfl (o_z ?_))))
  refine Al (Aj (AF rfl rfl (AE (hc:=Blk.cell (i:=3) (h0.1) rfl) rfl rfl ?_)))
  refine AN rfl rfl ?_
  have t1:x0.ops.length≤9223372036854775807:=Nat.le_trans c0.len.2.1 c0.len.2.2
  have u3:inI64 (x0.ops.length:Int):=rngNat t1
  refine Am rfl rfl (o_z ?_)
  obtain ⟨h1,u1,l0⟩:=bs l0
  refine AM (aft h1 (fun (n0:(List Edj)) (k0:(Option Addr×Nat))=>[(1,(.slice d1 x1.length e1)),(2,(.pointer (some ⟨y0,0,none⟩))),(5,(.slice k0.1 n0.length k0.2)),(11,(.int .i64 (x1.length:Int))),(12,(.int .i64 (b1:Int)))]) (fun n0 k0 w'=>∃ O':Lab,Bs w A w' O'∧Vb w' (Fr 0 w' O') (.slice d1 x1.length e1) x1∧Lc 2 w' O' y0 26 [(.slice A9 x0.vars.length o0),(.slice p0 x0.init.length q0),(.slice r0 x0.goal.length s0),(.slice t0 x0.ops.length u0)]∧Vb w' (Fr 0 w' O') (.slice A9 x0.vars.length o0) x0.vars∧Vb w' (Fr 0 w' O') (.slice p0 x0.init.length q0) x0.init∧Vb w' (Fr 0 w' O') (.slice r0 x0.goal.length s0) x0.goal∧Vb w' (Fr 0 w' O') (.slice t0 x0.ops.length u0) x0.ops∧Rw 3 w' O' 94 (.slice k0.1 n0.length k0.2) n0)) ?_ ?_
  ·
   refine AQ (BV (σ:=(List Edj)) (X:=(Option Addr×Nat)) (x0.ops.length) u1 rfl t1 (fun (n0:(List Edj)) (k0:(Option Addr×Nat))=>[(1,(.slice d1 x1.length e1)),(2,(.pointer (some ⟨y0,0,none⟩))),(5,(.slice k0.1 n0.length k0.2)),(6,(.int .i64 (b1:Int))),(11,(.int .i64 (x1.length:Int))),(12,(.int .i64 (b1:Int)))]) _ (fun n0 k0 w'=>∃ O':Lab,Bs w A w' O'∧Vb w' (Fr 0 w' O') (.slice d1 x1.length e1) x1∧Lc 2 w' O' y0 26 [(.slice A9 x0.vars.length o0),(.slice p0 x0.init.length q0),(.slice r0 x0.goal.length s0),(.slice t0 x0.ops.length u0)]∧Vb w' (Fr 0 w' O') (.slice A9 x0.vars.length o0) x0.vars∧Vb w' (Fr 0 w' O') (.slice p0 x0.init.length q0) x0.init∧Vb w' (Fr 0 w' O') (.slice r0 x0.goal.length s0) x0.goal∧Vb w' (Fr 0 w' O') (.slice t0 x0.ops.length u0) x0.ops∧Rw 3 w' O' 94 (.slice k0.1 n0.length k0.2) n0) _ (j0.1,j0.2) ⟨u2,hB,b0,h0,h8,f0,g0,c0,a1⟩ ⟨rfl,rfl,rfl,rfl,rfl,rfl,rfl,rfl,trivial⟩ (fun _ _=>⟨rfl,rfl⟩) (fun _ _=>⟨rfl,rfl,rfl,rfl,rfl,trivial⟩) (fun _ _ _ ⟨O',hB,b0,h0,h8,f0,g0,c0,v0⟩=>⟨O',hB,b0,h0,h8,f0,g0,c0,v0⟩) ⟨rfl,rfl,rfl⟩ ⟨rfl,rfl⟩ ?_)
   rintro l1 v3 n0 k0 w3 v2 v1 ⟨q2,hB,b0,h0,h8,f0,g0,c0,v0⟩ a0 w1 y1
   have rk54:inI64 (l1:Int):=rngK v1 t1
   refine Al (Aj (Am rfl rfl (Ar rfl rfl (o_z ?_))))
   refine Al (Bt [] q2 ?_)
   refine AT (fuel:=6) [] [(0,true),(1,true),(2,true),(3,true),(4,true),(5,true)] (by kernel_rfl) rfl ?_
   refine ET (hl:=rfl) (hb:=fun w' ⟨O',hq⟩=>((h0.st hq (by decide)).1).cellsAt) rfl rfl rfl ?_
   refine AH rfl rfl rfl (AH rfl rfl rfl ?_)
   obtain ⟨x3,y3,w2,z1,a2,b2,c2,z3,rfl,m1⟩:=b0.elem g1
   replace m1:=Vb.of_slice m1
   obtain ⟨a4,b4,rfl⟩:=m1.form
   refine BJ (hA:=z1) (hj:=rfl) (hlt:=b2) rfl rfl rfl rfl ?_
   refine AS (hc:=fun w' ⟨O',hq⟩=>cat0 (AZ (hq.agree (i:=0) (by decide)) a2 c2)) rfl rfl rfl ?_
   refine AH rfl rfl rfl (AG ?_)
   refine AV (i:=6) (by kernel_rfl) rfl ?_
   obtain ⟨x2,y2,a0⟩:=bs a0
   refine Fd (O:=q2) (R:=fun w' F v=>T2 w' F v x2) (In Fr.lt (Vb.ofAgg (cs:=[(.slice A9 x0.vars.length o0),(.slice p0 x0.init.length q0),(.slice r0 x0.goal.length s0),(.slice t0 x0.ops.length u0)]) (x:=x0) rfl ⟨_,_,_,_,rfl,h8,f0,g0,c0⟩) m1 rk54 y2) rfl rfl fun c4 d2 e2 d0 z2=>?_
   obtain ⟨d4,e4,rfl,r2,a3⟩:=z2
   obtain ⟨f4,g4,rfl⟩:=r2.form
   obtain rfl:=a3.bool
   have hZ:=d0.lst [] (fun _ h=>h.elim)
   refine Bg [] hZ (by kernel_rfl) ?_
   refine AT (fuel:=0) [] [(7,true),(8,true),(9,true),(10,true),(11,true)] (by kernel_rfl) rfl ?_
   refine AH rfl rfl rfl (Kc rfl rfl rfl rfl (Kc rfl rfl rfl rfl (Dv rfl rfl rfl (Dv rfl rfl rfl (AG ?_)))))
   refine BC (by kernel_rfl) ?_
   refine Al (Aj (Am rfl rfl (o_z ?_)))
   refine CY rfl (fun f2=>?_) (fun f2=>?_)
   ·
    replace a0:=ip a0 f2
    refine Aj (Am rfl rfl (Am rfl rfl (Am rfl rfl (Am rfl rfl (Am rfl rfl ?_)))))
    obtain ⟨n1,b3,a0⟩:=bs a0
    replace b0:=b0.st d0
    refine Ce (O:=e2) (A:=All d2) (R:=fun w' F v=>Vb w' F v n1) (Iv (fun _ h=>h) (Vb.mono (F:=Fr 0 d2 e2) b0 Fr.lt) (Vb.mono (F:=Fr 0 d2 e2) r2 Fr.lt) b3) rfl rfl fun c3 h4 i4 w0 d3=>?_
    obtain ⟨rfl,g2⟩:=d3.int
    refine EK rfl rfl rfl ?_
    obtain ⟨e3,c1,a0⟩:=bs a0
    obtain ⟨c1,h2,i2⟩:=Cg c1
    replace v0:=(v0.st d0).st w0
    refine Ej rfl (a:=(⟨(b1:Int),(l1:Int),n1⟩:Edj)) v0 (Vb.ofAgg (cs:=[(.int .i64 (b1:Int)),(.int .i64 (l1:Int)),(.int .i64 n1)]) (x:=(⟨(b1:Int),(l1:Int),n1⟩:Edj)) rfl ⟨rfl,rk33,rk54,g2⟩) (fun _=>rfl) rfl (by decide) (by decide) h2 i2 ⟨rfl,rfl⟩ fun f3 j2 k2 g3 h3 i0 i1=>?_
    rw [← c1] at i1 ⊢
    refine Ar rfl rfl (o_z ?_)
    obtain rfl:=sm a0
    exact show Exists _ from ⟨_,(j2,k2),rfl,⟨rfl,rfl,rfl,rfl,rfl,rfl,rfl,rfl,trivial⟩,_,((hB.st d0).st w0).st i0,(b0.st w0).st i0,((h0.st d0).st w0).st i0,((h8.st d0).st w0).st i0,((f0.st d0).st w0).st i0,((g0.st d0).st w0).st i0,((c0.st d0).st w0).st i0,i1⟩
   replace a0:=im' a0 f2
   refine AJ ?_
   obtain rfl:=sm a0
   exact show Exists _ from ⟨_,(k0.1,k0.2),rfl,⟨rfl,rfl,rfl,rfl,rfl,rfl,rfl,rfl,trivial⟩,_,hB.st d0,b0.st d0,h0.st d0,h8.st d0,f0.st d0,g0.st d0,c0.st d0,v0.st d0⟩
  rintro i3 j3 ⟨k3,j1,rfl,e0,l3,hB,b0,h0,h8,f0,g0,c0,v0⟩
  replace l0:=Bo l0
  obtain rfl:=sm l0
  exact show Exists _ from ⟨_,(j1.1,j1.2),rfl,⟨(Ee e0 _ _ rfl),(Ee e0 _ _ rfl),(Ee e0 _ _ rfl),(Ee e0 _ _ rfl),(Ee e0 _ _ rfl),trivial⟩,_,hB,b0,h0,h8,f0,g0,c0,v0⟩
 replace hB:=hB.st z0
 rintro m3 l2 ⟨n3,o3,rfl,k1,p3,hB,a1⟩
 replace hm:=Bo hm
 refine AP _ k1 ?_
 refine Al (Aj (Am rfl rfl (Ar rfl rfl (o_z ?_))))
 refine AK ?_
 obtain ⟨m2,n2,a1⟩:=a1.freeze
 obtain rfl:=sm hm
 replace hB:=hB.st n2
 exact ret1v rfl (AB rfl) ⟨hB.ext,(Vb.mono (F:=Fr 0 l2 m2) a1 hB.out)⟩
end
section
open Go Go.RowKit
section
variable {P : Program} {l : Env} {w : World} {dst : Option Tmp} {ty : TypeId} {pos : String} {aft : Array Edge}
theorem KO (a b c a' b' c':Int) (w:World):(Op.equal 94 (.agg #[.int .i64 a,.int .i64 b,.int .i64 c]) (.agg #[.int .i64 a',.int .i64 b',.int .i64 c'])).run Tryz.prog w=.ok (decide (a=a'∧b=b'∧c=c')) w:=by
  have h1:∀ (n:Nat) (x y:Int) (w:World),(Op.equalIn (n + 1) 3 (.int .i64 x) (.int .i64 y)).run Tryz.prog w=.ok (x == y) w:=fun n x y w=>by simp [Op.equalIn,run_underlying Tryz.underlying3]
  have hs:Tryz.prog.stoodInHeld 94=false:=by kernel_rfl
  have hd:∀ n:Nat,(Op.equalIn (n + 2) 94 (.agg #[.int .i64 a,.int .i64 b,.int .i64 c]) (.agg #[.int .i64 a',.int .i64 b',.int .i64 c'])).run Tryz.prog w=.ok (decide (a=a'∧b=b'∧c=c')) w:=fun n=>by
    rw [Op.equalIn]
    simp [run_underlying Tryz.underlying94,hs,Go.part,Ie (P:=Tryz.prog) (t:=3),h1]
    by_cases hx:a=a'<;>by_cases hy:b=b'<;>by_cases hz:c=c'<;>simp [hx,hy,hz]
  exact hd 9998
theorem Re {u:TypeId} {x y:Operand} {a b c a' b' c':Int} (hx:opv l x=some (.agg #[.int .i64 a,.int .i64 b,.int .i64 c])) (hy:opv l y=some (.agg #[.int .i64 a',.int .i64 b',.int .i64 c'])):Ev Tryz.prog ⟨dst,.binOp .neq 94 x y u,ty,pos,aft,none⟩ l w (.bool (decide (¬ (a=a'∧b=b'∧c=c')))):=fun _ _ e ha=>by
  simp [execOp,ha.eval hx,ha.eval hy,eqGuard,binOp,KO]
variable {n : Nat} {ops : Array Oper} {Q : Post} {rest : List Oper} {d : Tmp} {S : World → Prop} {r : List (Nat × Bool)} {i : Nat}
theorem Rf {u:TypeId} {x y:Operand} {a b c a' b' c':Int} (hi:ops[i]?=some ⟨some d,.binOp .neq 94 x y u,ty,pos,aft,none⟩) (hx:opv l x=some (.agg #[.int .i64 a,.int .i64 b,.int .i64 c])) (hy:opv l y=some (.agg #[.int .i64 a',.int .i64 b',.int .i64 c'])) (hd:Nat.blt d n=true) (ht:(¬ (a=a'∧b=b'∧c=c'))→hwp Tryz.prog n ops Q S r ((d,.bool true) :: l) w) (hf:¬ (¬ (a=a'∧b=b'∧c=c'))→hwp Tryz.prog n ops Q S r ((d,.bool false) :: l) w):hwp Tryz.prog n ops Q S ((i,true) :: r) l w:=Az hi (AX (fun _ _=>Re hx hy) hd ht hf)
end
end
section
set_option linter.unusedVariables false
set_option linter.unusedSimpArgs false
open Go Go.RowKit
attribute [local irreducible] ewp owp hwp hwq hws Ev Evg Fn retPost loud loudS Res1
attribute [local irreducible] hwx loudX
noncomputable def Dp  : Option Bool :=
  bnd (Ci (⟨([2]:List Int),([0]:List Int),([]:List Fct),[(⟨(⟨#[]⟩:ByteArray),0,([]:List Fct),[(⟨([]:List Fct),0,1⟩:Eff)]⟩:Opr)]⟩:Tsk) 5) fun q33=>bnd (if q33.2.n=0 then (if q33.1.isNone=false then (bnd q33.1 fun o53=>bnd (BE o53) fun q57=>if q57=2 then (some true) else (some false)) else (some false)) else (some false):Option Bool) fun y47=>some y47
theorem HP {w:World} {A:Nat→Prop} (hA:∀ k,A k→k < w.heap.size)  {r:Bool} (hm:Dp  = some r) :
    Fn Tryz.prog 11 [] w fun v w'=>Ext w w'∧Vb w' (upA A w w') v r:=by
 obtain ⟨O,hB,j1⟩:=enter hA
 refine AI Tryz.func11 rfl Tryz.ntmps11 rfl ?_
 unfold Dp at hm
 refine Al (Aj (Ar rfl rfl (o_z ?_)))
 refine Al (Aj (BX 2 (by decide) O (xs:=(([2]:List Int):List Int)) rfl rfl rfl rfl ⟨(vInt (show inI64 (2) from by decide)),trivial⟩ (by decide) (by decide) rfl fun g1 w2 O3 S4 h5=>?_))
 refine BX 3 (by decide) O3 (xs:=(([0]:List Int):List Int)) rfl rfl rfl rfl ⟨(vInt (show inI64 (0) from by decide)),trivial⟩ (by decide) (by decide) rfl fun g7 w8 O9 i0 b0=>?_
 refine EK rfl rfl rfl ?_
 refine BX 4 (by decide) O9 (xs:=([(⟨([]:List Fct),0,1⟩:Eff)]:List Eff)) rfl rfl rfl rfl ⟨(Vb.ofAgg (cs:=[(.slice none 0 0),(.int .i64 0),(.int .i64 1)]) (x:=(⟨([]:List Fct),0,1⟩:Eff)) rfl ⟨_,rfl,(Vb.nil _ _),(show inI64 (0) from by decide),(show inI64 (1) from by decide)⟩),trivial⟩ (by decide) (by decide) rfl fun t0 k1 l1 c0 m0=>?_
 refine EK rfl rfl rfl ?_
 obtain ⟨u0,d0,m0⟩:=m0.freeze
 refine BX 5 (by decide) u0 (xs:=([(⟨(⟨#[]⟩:ByteArray),0,([]:List Fct),[(⟨([]:List Fct),0,1⟩:Eff)]⟩:Opr)]:List Opr)) rfl rfl rfl rfl ⟨(Vb.ofAgg (cs:=[(.string (⟨#[]⟩:ByteArray)),(.int .i64 0),(.slice none 0 0),(.slice (some ⟨t0,0,none⟩) [(⟨([]:List Fct),0,1⟩:Eff)].length 1)]) (x:=(⟨(⟨#[]⟩:ByteArray),0,([]:List Fct),[(⟨([]:List Fct),0,1⟩:Eff)]⟩:Opr)) rfl ⟨_,_,rfl,(Vb.nil _ _),m0,(show inI64 0 from by decide),(show (⟨#[]⟩:ByteArray).size≤9223372036854775807 from by decide)⟩),trivial⟩ (by decide) (by decide) rfl fun v0 m1 n1 e0 j0=>?_
 refine EK rfl rfl rfl ?_
 replace h5:=(((h5.st i0).st c0).st d0).st e0
 obtain ⟨o1,f0,h5⟩:=h5.freeze
 replace b0:=(((b0.st c0).st d0).st e0).st f0
 obtain ⟨p1,g0,b0⟩:=b0.freeze
 replace j0:=(j0.st f0).st g0
 obtain ⟨w0,h0,j0⟩:=j0.freeze
 obtain ⟨q1,x0,hm⟩:=bs hm
 replace h5:=(h5.st g0).st h0
 replace b0:=b0.st h0
 refine BR (O:=w0) (Gb (Vb.ofAgg (cs:=[(.slice (some ⟨g1,0,none⟩) ([2]:List Int).length 1),(.slice (some ⟨g7,0,none⟩) ([0]:List Int).length 1),(.slice none 0 0),(.slice (some ⟨v0,0,none⟩) [(⟨(⟨#[]⟩:ByteArray),0,([]:List Fct),[(⟨([]:List Fct),0,1⟩:Eff)]⟩:Opr)].length 1)]) (x:=(⟨([2]:List Int),([0]:List Int),([]:List Fct),[(⟨(⟨#[]⟩:ByteArray),0,([]:List Fct),[(⟨([]:List Fct),0,1⟩:Eff)]⟩:Opr)]⟩:Tsk)) rfl ⟨_,_,_,_,rfl,h5,b0,(Vb.nil _ _),j0⟩) (show inI64 (5) from by decide) 6 (by decide) x0) rfl rfl fun r1 s1 y0 k0 z0=>?_
 obtain ⟨t1,u1,rfl,l0,a1⟩:=z0
 obtain ⟨v1,rfl,n0⟩:=Obo.ptrq l0
 obtain ⟨rfl,w1⟩:=a1.err
 refine Am rfl rfl (Bz rfl rfl rfl (Bz rfl rfl rfl (Ar rfl rfl (Ar rfl rfl (o_z ?_)))))
 refine Al ?_
 obtain ⟨b1,a0,hm⟩:=bs hm
 refine AM (fun l' w'=>∃ (c1:Unit) (O':Lab),subs l' [(0,(.bool b1))]∧Bs w A w' O') ?_ ?_
 ·
  refine Aj (Am rfl rfl (QL rfl rfl (fun o0=>?_) fun o0=>?_))
  ·
   replace a0:=ip a0 o0
   refine Am rfl rfl (Aw rfl rfl (Am rfl rfl (Aw rfl rfl (QM n0 rfl rfl (fun p0=>?_) fun p0=>?_))))
   ·
    replace a0:=ip a0 p0
    refine Bk rfl rfl rfl (Am rfl rfl (Aw rfl rfl (Am rfl rfl (Aw rfl rfl ?_))))
    obtain ⟨x1,d1,a0⟩:=bs a0
    rw [d1] at l0
    obtain ⟨y1,e1⟩:=Ob.ptr l0
    obtain rfl:=Mc e1
    obtain ⟨z1,f1,a0⟩:=bs a0
    refine BR (O:=y0) (HW l0 f1) rfl rfl fun a2 b2 c2 s0 h1=>?_
    obtain ⟨d2,i1⟩:=h1
    obtain ⟨rfl,e2⟩:=i1.int
    refine Aw rfl rfl (KT rfl rfl rfl (fun q0=>?_) fun q0=>?_)
    ·
     replace a0:=ip a0 q0
     refine Bk rfl rfl rfl (Ar rfl rfl (o_z ?_))
     obtain rfl:=sm a0
     exact ⟨(),_,⟨rfl,trivial⟩,(((((((((hB.st S4).st i0).st c0).st d0).st e0).st f0).st g0).st h0).st k0).st s0⟩
    replace a0:=im a0 q0
    refine Bk rfl rfl rfl (Ar rfl rfl (o_z ?_))
    obtain rfl:=sm a0
    exact ⟨(),_,⟨rfl,trivial⟩,(((((((((hB.st S4).st i0).st c0).st d0).st e0).st f0).st g0).st h0).st k0).st s0⟩
   replace a0:=im a0 p0
   refine Bk rfl rfl rfl (Am rfl rfl (Au rfl rfl rfl rfl (Au rfl rfl rfl rfl (Au rfl rfl rfl rfl (Bp rfl rfl rfl (Ar rfl rfl (o_z ?_)))))))
   obtain rfl:=sm a0
   exact ⟨(),_,⟨rfl,trivial⟩,((((((((hB.st S4).st i0).st c0).st d0).st e0).st f0).st g0).st h0).st k0⟩
  replace a0:=im a0 o0
  refine Am rfl rfl (Au rfl rfl rfl rfl (Au rfl rfl rfl rfl (Bp rfl rfl rfl (Am rfl rfl (Au rfl rfl rfl rfl (Au rfl rfl rfl rfl (Au rfl rfl rfl rfl (Bp rfl rfl rfl (Ar rfl rfl (o_z ?_))))))))))
  obtain rfl:=sm a0
  exact ⟨(),_,⟨rfl,trivial⟩,((((((((hB.st S4).st i0).st c0).st d0).st e0).st f0).st g0).st h0).st k0⟩
 replace hB:=((((((((hB.st S4).st i0).st c0).st d0).st e0).st f0).st g0).st h0).st k0
 rintro f2 g2 ⟨c1,h2,r0,hB⟩
 refine AP _ r0 ?_
 refine AK ?_
 obtain rfl:=sm hm
 exact ret1v rfl (AB rfl) ⟨hB.ext,vBool⟩
end
section
set_option linter.unusedVariables false
set_option linter.unusedSimpArgs false
open Go Go.RowKit
attribute [local irreducible] ewp owp hwp hwq hws Ev Evg Fn retPost loud loudS Res1
attribute [local irreducible] hwx loudX
structure Sys where
  states:Int
  init:Int
  costs:List Int
  edges:List Edj
  goals:List Bool
instance:Rp Sys where
  isAgg:=true
  size:=5
  R w F cs x:=∃ v0 v1 v2,cs=[.int .i64 x.states,.int .i64 x.init,v0,v1,v2]∧Vb w F v0 x.costs∧Vb w F v1 x.edges∧Vb w F v2 x.goals∧inI64 x.states∧inI64 x.init
  len:=by rintro w F cs x ⟨v0,v1,v2,rfl,h0,h1,h2,h3,h4⟩;rfl
  one:=by rintro w F cs x ⟨v0,v1,v2,rfl,h0,h1,h2,h3,h4⟩ u hu;simp at hu;rcases hu with rfl|rfl|rfl|rfl|rfl<;>first|rfl|exact Vb.one rfl (by assumption)
  agree:=by rintro w w' F cs x ⟨v0,v1,v2,rfl,h0,h1,h2,h3,h4⟩ ha;exact ⟨v0,v1,v2,rfl,h0.agree ha,h1.agree ha,h2.agree ha,h3,h4⟩
  mono:=by rintro w F G cs x ⟨v0,v1,v2,rfl,h0,h1,h2,h3,h4⟩ ha;exact ⟨v0,v1,v2,rfl,h0.mono ha,h1.mono ha,h2.mono ha,h3,h4⟩
end
section
open Go Go.RowKit
def lift1 (n:Nat) (Q:Post) (e:Exit) (a:Act) (w:World):Prop:=noPanic e∧∃ l,Ok n a l∧Q e l w
def ewp1 (P:Program) (n:Nat) (c:Code) (Q:Post) (l:Env) (w:World):Prop:=∀ a,Ok n a l→c.wp P (lift1 n Q) a w
def owp1 (P:Program) (n:Nat) (ops:Array Oper) (Q:Post) (rest:List Oper) (l:Env) (w:World):Prop:=∀ a,Ok n a l→wpList P ops (lift1 n Q) rest a w
section
variable {P : Program} {n : Nat} {Q : Post} {l : Env} {w : World}
theorem DC {x y:Code} (h:ewp1 P n x (thn (ewp1 P n y Q) Q) l w):ewp1 P n (.seq x y) Q l w:=fun a ha =>
  wp_seq (Code.wp_mono (fun e a w hl=>by
    obtain ⟨hn,l',ho,hq⟩:=hl
    cases e with
    | normal=>exact hq a ho
    | panic c=>exact hn.elim
    | outgrown=>exact hn.elim
    | exit i=>exact ⟨trivial,l',ho,hq⟩
    | goto i=>exact ⟨trivial,l',ho,hq⟩
    | ret=>exact ⟨trivial,l',ho,hq⟩) (h a ha))
theorem Lm (h:Q .normal l w):ewp1 P n .skip Q l w:=fun _ ha=>wp_skip ⟨trivial,l,ha,h⟩
theorem Om {i:Nat} (h:Q (.exit i) l w):ewp1 P n (.exit i) Q l w:=fun _ ha=>wp_exit ⟨trivial,l,ha,h⟩
theorem Kk (h:Q .ret l w):ewp1 P n .ret Q l w:=fun _ ha=>wp_ret ⟨trivial,l,ha,h⟩
theorem Ln {c:Operand} {x y:Code} (hc:opv l c=some (.bool true)) (h:ewp1 P n x Q l w):ewp1 P n (.cond c x y) Q l w:=fun a ha=>wp_cond_true (ha.eval hc) (h a ha)
theorem KF {c:Operand} {x y:Code} (hc:opv l c=some (.bool false)) (h:ewp1 P n y Q l w):ewp1 P n (.cond c x y) Q l w:=fun a ha=>wp_cond_false (ha.eval hc) (h a ha)
theorem KG {id:Nat} {c:Code} (h:ewp1 P n c (inBlk id Q) l w):ewp1 P n (.block id c) Q l w:=fun a ha =>
  wp_block (Code.wp_mono (fun e a w hl=>by
    obtain ⟨hn,l',ho,hq⟩:=hl
    cases e with
    | exit i =>
      simp only [Exit.inBlock]
      simp only [inBlk] at hq
      by_cases hi:i=id
      · subst hi
        have hb:Nat.beq i i=true:=Nat.beq_refl i
        rw [hb] at hq
        rw [if_pos rfl]
        exact ⟨trivial,l',ho,hq⟩
      · have hb:Nat.beq i id=false:=by
          cases hx:Nat.beq i id
          · rfl
          · exact absurd (Nat.eq_of_beq_eq_true hx) hi
        rw [hb] at hq
        rw [if_neg hi]
        exact ⟨trivial,l',ho,hq⟩
    | panic c=>exact hn.elim
    | outgrown=>exact hn.elim
    | normal=>exact ⟨trivial,l',ho,hq⟩
    | goto i=>exact ⟨trivial,l',ho,hq⟩
    | ret=>exact ⟨trivial,l',ho,hq⟩) (h a ha))
theorem Dm {id:Nat} {L:List Oper} (h:owp1 P n L.toArray Q L l w):ewp1 P n (.region id L.toArray false) Q l w:=fun a ha=>wp_region_lit (h a ha)
theorem On {c:Code} (E:Nat→Env) (I:Nat→Prop) (N k₀:Nat) (hs:subs l (E k₀)) (h₀:I k₀)
    (round:∀ k,I k→k≤N∧ewp1 P n c (thn (fun l' w'=>w'=w∧subs l' (E (k + 1))∧I (k + 1)) Q) (E k) w):ewp1 P n (.loop c) Q l w:=by
  intro a ha
  have hex:∀ a' w',(∃ k,w'=w∧Ok n a' (E k)∧I k)→∃ m,(∃ k,w'=w∧Ok n a' (E k)∧I k∧N - k=m)∧∀ k,Ok n a' (E k)→I k→m≤N - k:=by
    intro a' w' ⟨k,h1,h2,h3⟩
    have:∀ (q k:Nat),N - k≤q→Ok n a' (E k)→I k→∃ m,(∃ k,w'=w∧Ok n a' (E k)∧I k∧N - k=m)∧∀ k,Ok n a' (E k)→I k→m≤N - k:=by
      intro q
      induction q with
      | zero=>intro k hq ho hI;exact ⟨N - k,⟨k,h1,ho,hI,rfl⟩,fun _ _ _=>by omega⟩
      | succ q ih =>
        intro k hq ho hI
        by_cases hx:∃ k',Ok n a' (E k')∧I k'∧N - k'≤q
        · obtain ⟨k',g1,g2,g3⟩:=hx
          exact ih k' g3 g1 g2
        · refine ⟨N - k,⟨k,h1,ho,hI,rfl⟩,fun k' g1 g2=>?_⟩
          rcases Nat.lt_or_ge (N - k') (N - k) with h|h
          · exact absurd ⟨k',g1,g2,by omega⟩ hx
          · exact h
    exact this _ k (Nat.le_refl _) h2 h3
  refine wp_loop (fun a' w'=>∃ k,w'=w∧Ok n a' (E k)∧I k) (fun a' w'=>Classical.epsilon fun m=>(∃ k,w'=w∧Ok n a' (E k)∧I k∧N - k=m)∧∀ k,Ok n a' (E k)→I k→m≤N - k) ⟨k₀,rfl,ha.sub hs,h₀⟩ ?_
  intro a' w' hinv
  obtain ⟨⟨k,rfl,ho,hI,hk⟩,_⟩:=Classical.epsilon_spec (hex a' w' hinv)
  obtain ⟨hkN,hr⟩:=round k hI
  refine Code.wp_mono (fun e a'' w'' hl=>?_) (hr a' ho)
  obtain ⟨hn,l',ho',hq⟩:=hl
  cases e with
  | normal =>
    obtain ⟨rfl,hs₂,hI₂⟩:=hq
    have ho₂:=ho'.sub hs₂
    refine ⟨⟨k + 1,rfl,ho₂,hI₂⟩,?_⟩
    obtain ⟨_,hmin⟩:=Classical.epsilon_spec (hex a'' w'' ⟨k + 1,rfl,ho₂,hI₂⟩)
    have h1:=hmin (k + 1) ho₂ hI₂
    have h2:=(round (k + 1) hI₂).1
    exact Nat.lt_of_le_of_lt h1 (Nat.lt_of_lt_of_eq (by omega) hk)
  | panic c=>exact hn.elim
  | outgrown=>exact hn.elim
  | exit i=>exact ⟨trivial,l',ho',hq⟩
  | goto i=>exact ⟨trivial,l',ho',hq⟩
  | ret=>exact ⟨trivial,l',ho',hq⟩
variable {ops : Array Oper} {rest : List Oper} {d : Tmp} {ty : TypeId} {pos : String} {aft : Array Edge}
theorem FR {K:Env→World→Prop} [h:NilQ Q K] (hk:K l w):owp1 P n ops Q [] l w:=fun _ ha=>wpList_nil ⟨trivial,l,ha,h.of l w hk⟩
theorem Dd {op:Op} {v:Value} (he:Ev P ⟨some d,op,ty,pos,aft,none⟩ l w v) (hd:Nat.blt d n=true) (h:owp1 P n ops Q rest ((d,v) :: l) w):owp1 P n ops Q (⟨some d,op,ty,pos,aft,none⟩ :: rest) l w :=
  fun a ha=>wpList_plain rfl fun K hK=>by
    unfold Oper.wp
    have:=he n a w.drawn ha
    rw [FG] at this
    rw [this]
    exact hK _ _ (h _ (ha.put hd v))
theorem Hy {f:FuncId} [hf:Callable P f] {xs:List Operand} {vs:List Value} {ts:Array TypeId} {v:Value} (hx:opvs l xs=some vs) (hd:Nat.blt d n=true) (hc:Calls P f vs.toArray w fun e w'=>e=.returned v∧w'=w)
    (h:owp1 P n ops Q rest ((d,v) :: l) w):owp1 P n ops Q (⟨some d,.call { callee:=.value (.func f),args:=xs.toArray,argTypes:=ts },ty,pos,aft,none⟩ :: rest) l w :=
  fun a ha=>wpList_plain rfl fun K hK=>by
    obtain ⟨fn,h1,h2,h3⟩:=hf.eq
    have h2':¬ fn.body=none:=fun e=>by rw [e] at h2;simp at h2
    have h3' : ¬ fn.name = "runtime.NumGoroutine" := fun e => by rw [e] at h3; simp at h3
    unfold Oper.wp
    have hev:a.eval (.func f)=.func (.func f) #[] #[]:=rfl
    have:(execOp a.eval ⟨some d,.call { callee:=.value (.func f),args:=xs.toArray,argTypes:=ts },ty,pos,aft,none⟩).run P w=.ok (.enter f vs.toArray) w:=by
      simp [execOp,resolve,hev,Deferred.ofValue,invoke,callFunc,h1,h2',h3',ha.evals hx]
    rw [this]
    exact hc.mono fun _ _ ⟨he,hw⟩=>by subst he;subst hw;exact hK _ _ (h _ (ha.put hd v))
end
theorem Nt {P:Program} {f:FuncId} {fn:Func} {c:Code} {vs:List Value} {w:World} {v:Value} {n:Nat} (hf:P.funcs[f]?=some fn) (hb:fn.body=some c) (hn:fn.ntmps=n) (hl:Nat.ble vs.length n=true)
    (h:ewp1 P n c (retPost P fn fun u w'=>u=v∧w'=w) (ent 0 vs) w):Calls P f vs.toArray w fun e w'=>e=.returned v∧w'=w:=by
  have hl':vs.length≤n:=by simpa using hl
  refine calls_of_wp hf hb (Code.wp_mono (fun e a w' hq=>?_) (h _ (?_:Ok n { tmps:=vs.toArray ++ Array.replicate (fn.ntmps - vs.toArray.size) undef,defers:=[] } (ent 0 vs))))
  · obtain ⟨hp,l,ho,q⟩:=hq
    cases e with
    | normal=>obtain ⟨v',hr,hv,hw⟩:=q;subst hv hw;have:=hr n a w'.drawn ho;rw [FG] at this;exact ⟨ho.defers,v',this,rfl,rfl⟩
    | ret=>obtain ⟨v',hr,hv,hw⟩:=q;subst hv hw;have:=hr n a w'.drawn ho;rw [FG] at this;exact ⟨ho.defers,v',this,rfl,rfl⟩
    | panic c=>exact hp.elim
    | outgrown=>exact hp.elim
    | exit i=>exact q.elim
    | goto i=>exact q.elim
  · refine ⟨by simp [hn];omega,rfl,fun i v hv=>?_⟩
    obtain ⟨_,h2⟩:=JG vs 0 i v hv
    simp only [Nat.sub_zero] at h2
    have hi:i < vs.length:=(List.getElem?_eq_some_iff.1 h2).1
    simp only [Array.getD_eq_getD_getElem?]
    rw [Array.getElem?_append_left (by simpa using hi)]
    simp [h2]
end
section
open Go Go.RowKit
section
variable {P : Program} {n : Nat} {Q : Post} {ops : Array Oper} {rest : List Oper} {l : Env} {w : World} {d : Tmp} {ty : TypeId} {pos : String} {aft : Array Edge} {S : World → Prop}
theorem Hi (h:Q .normal l w):owp1 P n ops Q [] l w:=fun _ ha=>wpList_nil ⟨trivial,l,ha,h⟩
theorem Mg {op:Op} {v:Value} {w':World} (he:∀ a,Ok n a l→(execOp a.eval ⟨some d,op,ty,pos,aft,none⟩).run P w=.ok (.value v) w') (hd:Nat.blt d n=true) (h:owp1 P n ops Q rest ((d,v) :: l) w'):owp1 P n ops Q (⟨some d,op,ty,pos,aft,none⟩ :: rest) l w :=
  fun a ha=>wpList_plain rfl fun K hK=>by
    unfold Oper.wp
    rw [he a ha]
    exact hK _ _ (h _ (ha.put hd v))
theorem Mh {t:TypeId} {x:Operand} {v:Value} (hx:opv l x=some v) (hd:Nat.blt d n=true) (h:owp1 P n ops Q rest ((d,.pointer (some ⟨w.heap.size,0,none⟩)) :: l) (w.alloc (.cells v.cells t))):owp1 P n ops Q (⟨some d,.box t x,ty,pos,aft,none⟩ :: rest) l w :=
  Mg (fun a ha=>by simp [execOp,Instr.box,ha.eval hx,newVar,En]) hd h
theorem MN {t e:TypeId} [hs:TSlice P t e] {z:Value} {size bytes len:Nat} [TInfo P e z size bytes] {ps:List (Nat×Operand)} {vs:List Value} (hk:idxOk 0 ps=true) (hx:opvs l (ps.map (·.2))=some vs) (hlen:vs.length=len) (hv:∀ v∈vs,v.cells.toList.length=size) (hz:len * size≤16777216) (hd:Nat.blt d n=true)
    (h:owp1 P n ops Q rest ((d,.slice (some ⟨w.heap.size,0,none⟩) len len) :: l) (w.alloc (.cells (vs.flatMap fun v=>v.cells.toList).toArray e))):owp1 P n ops Q (⟨some d,.buildSlice t len ps.toArray,ty,pos,aft,none⟩ :: rest) l w :=
  Mg (fun a ha=>by
    have hps:(ps.map fun p=>(p.1,a.eval p.2))=idxs 0 vs:=by
      rw [Jj ps 0 hk,Jk,ha.evals hx]
    have hv':∀ v∈vs,v.cells.size=size:=fun v hm=>by simpa using hv v hm
    have h24:¬ 16777216 < len * size:=by omega
    have hf:∀ acc:Array Value,acc.size=len * size→Instr.fill (fun i=>some (i * size,size)) acc (idxs 0 vs)=some (vs.flatMap fun v=>v.cells.toList).toArray:=fun acc hacc=>by
      obtain ⟨out,ho1,ho2⟩:=Jl (size:=size) vs 0 acc [] acc.toList (by simp) (by simp) (by simp [hacc,hlen]) hv'
      rw [ho1]
      congr 1
      apply Array.toList_inj.1
      rw [ho2];simp
    simp only [execOp,Instr.buildSlice]
    by_cases h0:len * size=0
    · simp [run_underlying hs.eq,Dl (P:=P) (t:=e),h0]
      rw [hps,hf _ (by simp [h0])]
      simp [En]
    · simp [run_underlying hs.eq,Dl (P:=P) (t:=e),Gq (P:=P) (t:=e),h0,h24]
      rw [hps,hf _ (by simp)]
      simp [En]) hd h
def hwp1 (P:Program) (n:Nat) (ops:Array Oper) (Q:Post) (S:World→Prop) (ord:List (Nat×Bool)) (l:Env) (w:World):Prop:=∀ a,Ok n a l→wpOrd P ops (lift1 n Q) S ord a w
theorem Po (h:Q .normal l w):hwp1 P n ops Q S [] l w:=fun _ ha=>⟨trivial,l,ha,h⟩
theorem EV {i:Nat} {op:Op} {r:List (Nat×Bool)} {v:Value} (hi:ops[i]?=some ⟨some d,op,ty,pos,aft,none⟩) (he:∀ w',S w'→Ev P ⟨some d,op,ty,pos,aft,none⟩ l w' v) (hn:Nat.blt d n=true) (h:hwp1 P n ops Q S r ((d,v) :: l) w):hwp1 P n ops Q S ((i,true) :: r) l w:=fun a ha =>
  ⟨_,v,hi,.inl ⟨by simp [Region.wanted],fun w' hS=>by have:=he w' hS n a w'.drawn ha;rwa [FG] at this⟩,h _ (ha.put hn v)⟩
def loud1 (P:Program) (n:Nat) (ops:Array Oper) (Q:Post) (S:World→Prop) (r:List (Nat×Bool)):Post
  | .normal,l,w=>(r≠[]→S w)∧hwp1 P n ops Q S r l w
  | _,_,_=>False
theorem GC {i:Nat} {o:Oper} {r:List (Nat×Bool)} (hi:ops[i]?=some o) (h:owp1 P n ops (loud1 P n ops Q S r) [o] l w):hwp1 P n ops Q S ((i,false) :: r) l w:=fun a ha=>by
  have h1:=h a ha
  show wpOp P ops (lift1 n Q) i _ a w
  unfold wpList at h1
  unfold wpOp
  simp only [hi]
  have conv:∀ a' w',lift1 n (loud1 P n ops Q S r) .normal a' w'→(r≠[]→S w')∧wpOrd P ops (lift1 n Q) S r a' w':=by
    rintro a' w' ⟨_,l',ho,hS,hh⟩
    exact ⟨hS,hh a' ho⟩
  have nope:∀ e' a' w',lift1 n (loud1 P n ops Q S r) e' a' w'→e'=.normal:=by
    rintro e' a' w' ⟨hn,l',ho,hh⟩
    cases e'<;>first|rfl|exact hh.elim
  by_cases hw:Region.wanted o (yielded ops a.tmps)=true
  · rw [if_pos hw] at h1
    rw [if_pos hw]
    rcases h1 with h1|⟨h1,a0,w0,h2⟩
    · refine .inl ?_
      unfold Oper.wp at *
      generalize (execOp a.eval o).run P w=res at *
      cases res with
      | ok nx w' =>
        cases nx<;>simp only [Oper.upon] at h1 ⊢ <;>
          first
            | exact conv _ _ h1
            | exact Calls.mono h1 (fun en w'' he=>by
                cases en with
                | returned v=>exact conv _ _ he
                | panicked c=>exact absurd (nope _ _ _ he) (by simp)
                | outgrown=>obtain ⟨a0,w0,hq⟩:=he;exact absurd (nope _ _ _ hq) (by simp))
            | exact Rows.mono h1 (fun _ _ he=>conv _ _ he)
            | exact h1.elim
      | halt x w'=>cases x<;>simp only [Oper.upon] at h1 ⊢<;>first|exact h1.elim|exact absurd (nope _ _ _ h1) (by simp)
    · exact absurd (nope _ _ _ h2) (by simp)
  · rw [if_neg hw] at h1
    rw [if_neg hw]
    exact conv _ _ h1
theorem Oo [hm:Mixed P] {id:Nat} {L:List Oper} (S:World→Prop) (ord:List (Nat×Bool)) (hs:Region.noSelect L.toArray=true) (hl:ord.length=L.toArray.size) (hc:ordOk L.toArray (Array.replicate L.toArray.size false) ord=true) (hS:S (dr w (w.drawn + 1)))
    (h:hwp1 P n L.toArray Q S ord l (dr w (w.drawn + 1))):ewp1 P n (.region id L.toArray true) Q l w:=fun a ha =>
  wp_region_any hm.eq (by
    have:=EA (P:=P) hs (Q:=lift1 n Q) (S:=S) (fun c a w hq=>hq.1) ord (Array.replicate L.toArray.size false) a (dr w (w.drawn + 1)) (fun m om hm=>by
      simp only [Array.getD_eq_getD_getElem?,Array.getElem?_replicate] at hm
      split at hm<;>simp at hm) hc (fun _=>hS) (h a ha)
    rw [hl] at this
    exact Ge _ _ _ _ this)
end
theorem MO {P:Program} {f:FuncId} {fn:Func} {c:Code} {vs:List Value} {w:World} {R:Value→World→Prop} {n:Nat} (hf:P.funcs[f]?=some fn) (hb:fn.body=some c) (hn:fn.ntmps=n) (hl:Nat.ble vs.length n=true)
    (h:ewp1 P n c (retPost P fn R) (ent 0 vs) w):Calls P f vs.toArray w fun e w'=>∃ v,e=.returned v∧R v w':=by
  have hl':vs.length≤n:=by simpa using hl
  refine calls_of_wp hf hb (Code.wp_mono (fun e a w' hq=>?_) (h _ (?_:Ok n { tmps:=vs.toArray ++ Array.replicate (fn.ntmps - vs.toArray.size) undef,defers:=[] } (ent 0 vs))))
  · obtain ⟨hp,l,ho,q⟩:=hq
    cases e with
    | normal=>obtain ⟨v',hr,hv⟩:=q;have:=hr n a w'.drawn ho;rw [FG] at this;exact ⟨ho.defers,v',this,v',rfl,hv⟩
    | ret=>obtain ⟨v',hr,hv⟩:=q;have:=hr n a w'.drawn ho;rw [FG] at this;exact ⟨ho.defers,v',this,v',rfl,hv⟩
    | panic c=>exact hp.elim
    | outgrown=>exact hp.elim
    | exit i=>exact q.elim
    | goto i=>exact q.elim
  · refine ⟨by simp [hn];omega,rfl,fun i v hv=>?_⟩
    obtain ⟨_,h2⟩:=JG vs 0 i v hv
    simp only [Nat.sub_zero] at h2
    have hi:i < vs.length:=(List.getElem?_eq_some_iff.1 h2).1
    simp only [Array.getD_eq_getD_getElem?]
    rw [Array.getElem?_append_left (by simpa using hi)]
    simp [h2]
end
section
open Go Go.RowKit Go.Lib Go.Sort
theorem compareI (a b:Int) (W:World):Calls Tryz.prog 73 #[.int .i64 a,.int .i64 b] W fun e w'=>e=.returned (.int .i64 (Lib.compareInt a b))∧w'=W:=by
  go_enter Tryz.func73,Tryz.ntmps73
  go_wp2
  · go_ret
    have h:a < b:=by assumption
    exact ⟨by simp [Lib.compareInt,h],rfl⟩
  · go_ret
    have h:b < a:=by assumption
    have h2:¬ a < b:=by omega
    exact ⟨by simp [Lib.compareInt,h,h2],rfl⟩
  · go_ret
    have h1:b≤a:=by assumption
    have h2:a≤b:=by assumption
    have h3:¬ a < b:=by omega
    have h4:¬ b < a:=by omega
    exact ⟨by simp [Lib.compareInt,h3,h4],rfl⟩
def orL:List Int→Int
  | []=>0
  | x :: xs=>if x≠0 then x else orL xs
theorem Oq {xs:List Int} {k:Nat} {x:Int} (h:xs[k]?=some x):orL (xs.drop k)=if x≠0 then x else orL (xs.drop (k + 1)):=by
  have:xs.drop k=x :: xs.drop (k + 1):=by
    rw [List.drop_eq_getElem_cons (AC h)]
    rw [List.getElem?_eq_getElem (AC h)] at h
    rw [Option.some.inj h]
  rw [this];rfl
theorem Ot {W:World} {F:Nat→Prop} {v:Value} {xs:List Int} (h1:Vb W F v xs):Calls Tryz.prog 72 [v].toArray W fun e w'=>e=.returned (.int .i64 (orL xs))∧w'=W:=by
  obtain ⟨A1,c1,rfl⟩:=h1.form
  have l1:xs.length≤9223372036854775807:=Nat.le_trans h1.len.2.1 h1.len.2.2
  refine Nt Tryz.func72 rfl Tryz.ntmps72 rfl ?_
  refine DC (Dm (Dd (DR rfl) rfl (FR ?_)))
  refine DC (Dm (Dd (DR rfl) rfl (FR ?_)))
  refine DC (DC (Dm (Dd (Ef rfl) rfl (Dd (JC rfl) rfl (Dd (Ef rfl) rfl (FR ?_))))))
  refine KG (On (fun k=>[(3,.int .i64 0),(6,.slice A1 xs.length c1),(7,.int .i64 (xs.length:Int)),(8,.int .i64 (k:Int))]) (fun k=>k≤xs.length∧orL xs=orL (xs.drop k)) xs.length 0 ⟨rfl,rfl,rfl,rfl,trivial⟩ ⟨Nat.zero_le _,rfl⟩ fun k hk=>⟨hk.1,?_⟩)
  obtain ⟨k1,k3⟩:=hk
  refine DC (Dm (Dd (Cx rfl rfl) rfl (FR ?_)))
  refine DC ?_
  by_cases hlt:(k:Int) < (xs.length:Int)
  · rw [decide_eq_true hlt]
    refine Ln rfl (Lm ?_)
    obtain ⟨x,hx⟩:∃ x,xs[k]?=some x:=⟨xs[k],List.getElem?_eq_getElem (by omega)⟩
    obtain ⟨b1,o1,ce1,hA1,hl1,hd1,rfl,r1⟩:=h1.elem' hx
    have hst:=Oq hx
    refine DC (KG ?_)
    refine DC (Dm (Dd (JR rfl rfl hA1 rfl hl1) rfl (Dd (Cz rfl (cat0 hd1)) rfl (Dd (DR rfl) rfl (FR ?_)))))
    refine DC (Dm (Dd (Ef rfl) rfl (Dd (Ef rfl) rfl (Dd (Ds rfl rfl) rfl (FR ?_)))))
    by_cases hc:x≠0
    · rw [decide_eq_true hc]
      rw [if_pos hc] at hst
      refine Ln rfl (DC (Dm (Dd (Ef rfl) rfl (Dd (DR rfl) rfl (FR ?_)))))
      refine Kk ?_
      exact ⟨_,res1 rfl (AB rfl),by rw [k3,hst],rfl⟩
    · rw [decide_eq_false hc]
      rw [if_neg hc] at hst
      refine KF rfl (Lm ?_)
      refine Dm (Dd (JB rfl rfl (by omega)) rfl (Dd (Ef rfl) rfl (FR ?_)))
      exact ⟨rfl,⟨rfl,rfl,rfl,rfl,trivial⟩,by omega,by rw [k3,hst]⟩
  · rw [decide_eq_false hlt]
    refine KF rfl (Om ?_)
    refine DC (Dm (Dd (Ef rfl) rfl (Dd (DR rfl) rfl (FR ?_))))
    have hkx:k=xs.length:=by omega
    refine Kk ?_
    exact ⟨_,res1 rfl (AB rfl),by rw [k3,hkx,List.drop_length];rfl,rfl⟩
def encE (x:Edj):List Value:=[.int .i64 x.src,.int .i64 x.label,.int .i64 x.dst]
def cfE (x y:Edj):Int:=orL [Lib.compareInt x.src y.src,Lib.compareInt x.label y.label,Lib.compareInt x.dst y.dst]
theorem Kl (a b:Int):inI64 (Lib.compareInt a b):=by unfold Lib.compareInt inI64;split<;>(try split)<;>omega
theorem closureE (x y:Edj) (W:World):Calls Tryz.prog 71 #[.agg #[.int .i64 x.src,.int .i64 x.label,.int .i64 x.dst],.agg #[.int .i64 y.src,.int .i64 y.label,.int .i64 y.dst]] W fun e w'=>e=.returned (.int .i64 (cfE x y))∧∃ q os',w'=grow (W.drewN q) os':=by
  have main:=MO (P:=Tryz.prog) (f:=71) (vs:=[.agg #[.int .i64 x.src,.int .i64 x.label,.int .i64 x.dst],.agg #[.int .i64 y.src,.int .i64 y.label,.int .i64 y.dst]]) (w:=W) (R:=fun v w'=>v=.int .i64 (cfE x y)∧∃ q os',w'=grow (W.drewN q) os') Tryz.func71 rfl Tryz.ntmps71 rfl ?_
  · exact main.mono fun e w' ⟨v,he,hv,hg⟩=>⟨by rw [he,hv],hg⟩
  refine DC (Dm (Mh rfl rfl (Mh rfl rfl (Dd (DR rfl) rfl (FR ?_)))))
  have hB1:Blk ((W.alloc (.cells (encE x).toArray 94)).alloc (.cells (encE y).toArray 94)) W.heap.size 94 (encE x) :=
    (New.mk' W _ (encE x)).blk.keep ((New.mk' _ _ (encE y)).ext.block _ (New.mk' W _ (encE x)).blk.lt)
  have hB2:Blk ((W.alloc (.cells (encE x).toArray 94)).alloc (.cells (encE y).toArray 94)) (W.alloc (.cells (encE x).toArray 94)).heap.size 94 (encE y):=(New.mk' _ _ (encE y)).blk
  generalize hW:(W.alloc (.cells (encE x).toArray 94)).alloc (.cells (encE y).toArray 94)=W2 at hB1 hB2
  have hW':(W.alloc (.cells (Value.agg #[.int .i64 x.src,.int .i64 x.label,.int .i64 x.dst]).cells 94)).alloc (.cells (Value.agg #[.int .i64 y.src,.int .i64 y.label,.int .i64 y.dst]).cells 94)=W2:=hW
  rw [hW']
  generalize hb1:W.heap.size=b1 at hB1
  generalize hb2:(W.alloc (.cells (encE x).toArray 94)).heap.size=b2 at hB2
  have hb2':(W.alloc (.cells (Value.agg #[.int .i64 x.src,.int .i64 x.label,.int .i64 x.dst]).cells 94)).heap.size=b2:=hb2
  rw [hb2']
  refine DC (Oo (fun w'=>Blk w' b1 94 (encE x)∧Blk w' b2 94 (encE y)) [(0,true),(1,true),(2,true),(3,true),(5,true),(6,true),(7,true),(8,true),(10,true),(11,true),(12,true),(13,true),(4,false),(9,false),(14,false),(15,false),(16,false),(17,true)] (by kernel_rfl) rfl (by kernel_rfl) ⟨hB1,hB2⟩ ?_)
  refine EV rfl (fun _ _=>Cj rfl) rfl ?_
  refine EV rfl (fun _ hS=>Cz rfl (hS.1.cell (i:=0) rfl)) rfl ?_
  refine EV rfl (fun _ _=>Cj rfl) rfl ?_
  refine EV rfl (fun _ hS=>Cz rfl (hS.2.cell (i:=0) rfl)) rfl ?_
  refine EV rfl (fun _ _=>Cj rfl) rfl ?_
  refine EV rfl (fun _ hS=>Cz rfl (hS.1.cell (i:=1) rfl)) rfl ?_
  refine EV rfl (fun _ _=>Cj rfl) rfl ?_
  refine EV rfl (fun _ hS=>Cz rfl (hS.2.cell (i:=1) rfl)) rfl ?_
  refine EV rfl (fun _ _=>Cj rfl) rfl ?_
  refine EV rfl (fun _ hS=>Cz rfl (hS.1.cell (i:=2) rfl)) rfl ?_
  refine EV rfl (fun _ _=>Cj rfl) rfl ?_
  refine EV rfl (fun _ hS=>Cz rfl (hS.2.cell (i:=2) rfl)) rfl ?_
  refine GC rfl (Hy rfl rfl (compareI x.src y.src _) (Hi ⟨fun _=>⟨hB1,hB2⟩,?_⟩))
  refine GC rfl (Hy rfl rfl (compareI x.label y.label _) (Hi ⟨fun _=>⟨hB1,hB2⟩,?_⟩))
  refine GC rfl (Hy rfl rfl (compareI x.dst y.dst _) (Hi ⟨fun _=>⟨hB1,hB2⟩,?_⟩))
  have hN:=New.mk' (dr W2 (W2.drawn + 1)) 3 [.int .i64 (Lib.compareInt x.src y.src),.int .i64 (Lib.compareInt x.label y.label),.int .i64 (Lib.compareInt x.dst y.dst)]
  have hB3:=hB1.keep (hN.ext.block b1 hB1.lt)
  have hB4:=hB2.keep (hN.ext.block b2 hB2.lt)
  have hV:Vb ((dr W2 (W2.drawn + 1)).alloc (.cells [.int .i64 (Lib.compareInt x.src y.src),.int .i64 (Lib.compareInt x.label y.label),.int .i64 (Lib.compareInt x.dst y.dst)].toArray 3)) (fun _=>True) (.slice (some ⟨(dr W2 (W2.drawn + 1)).heap.size,0,none⟩) 3 3) [Lib.compareInt x.src y.src,Lib.compareInt x.label y.label,Lib.compareInt x.dst y.dst] :=
    Vb.made hN ⟨[_],_,rfl,⟨rfl,Kl _ _⟩,[_],_,rfl,⟨rfl,Kl _ _⟩,[_],_,rfl,⟨rfl,Kl _ _⟩,rfl⟩ rfl trivial (by decide)
  refine GC rfl (MN rfl rfl rfl (fun v hv=>by simp at hv;rcases hv with rfl|rfl|rfl<;>rfl) (by decide) rfl (Hi ⟨fun _=>⟨hB3,hB4⟩,?_⟩))
  refine GC rfl (Hy rfl rfl (Ot hV) (Hi ⟨fun _=>⟨hB3,hB4⟩,?_⟩))
  refine EV rfl (fun _ _=>DR rfl) rfl ?_
  refine Po ?_
  refine Kk ?_
  refine ⟨_,res1 rfl (AB rfl),rfl,1,#[.cells (encE x).toArray 94,.cells (encE y).toArray 94,.cells [.int .i64 (Lib.compareInt x.src y.src),.int .i64 (Lib.compareInt x.label y.label),.int .i64 (Lib.compareInt x.dst y.dst)].toArray 3],?_⟩
  subst hW
  have hd:∀ os d,dr (grow W os) d=grow (dr W d) os:=fun _ _=>rfl
  rw [alloc_eq_grow,alloc_eq_grow,alloc_eq_grow,grow_grow,hd,grow_grow]
  rfl
end
section
open Go.Shelf
def Tryz.laysS_f70_ren:Go.Shelf.Ren:=⟨fun|6=>70|15=>102|14=>101|28=>127|29=>128|20=>119|21=>120|22=>121|23=>122|24=>123|25=>124|26=>125|27=>126|46=>134|47=>135|48=>136|49=>137|50=>138|57=>140|n=>n,fun|22=>37|24=>94|25=>121|3=>3|39=>166|0=>0|53=>214|55=>182|4=>4|46=>208|45=>207|50=>152|5=>5|9=>9|66=>221|70=>224|76=>227|77=>100|n=>n,fun|n=>n⟩
theorem Tryz.laysS_f70:Go.Proofs.SlLaysF0.n6 Tryz.prog Tryz.laysS_f70_ren:={
  mixed:=by kernel_rfl
  f6:=⟨Tryz.f70.name,by decide,Tryz.func70.trans (congrArg some (by kernel_rfl))⟩
  f14:=⟨Tryz.f101.name,by decide,Tryz.func101.trans (congrArg some (by kernel_rfl))⟩
  f15:=Tryz.func102.trans (congrArg some (by kernel_rfl))
  f20:=⟨Tryz.f119.name,by decide,Tryz.func119.trans (congrArg some (by kernel_rfl))⟩
  f21:=⟨Tryz.f120.name,by decide,Tryz.func120.trans (congrArg some (by kernel_rfl))⟩
  f22:=⟨Tryz.f121.name,by decide,Tryz.func121.trans (congrArg some (by kernel_rfl))⟩
  f23:=⟨Tryz.f122.name,by decide,Tryz.func122.trans (congrArg some (by kernel_rfl))⟩
  f24:=⟨Tryz.f123.name,by decide,Tryz.func123.trans (congrArg some (by kernel_rfl))⟩
  f25:=⟨Tryz.f124.name,by decide,Tryz.func124.trans (congrArg some (by kernel_rfl))⟩
  f26:=⟨Tryz.f125.name,by decide,Tryz.func125.trans (congrArg some (by kernel_rfl))⟩
  f27:=⟨Tryz.f126.name,by decide,Tryz.func126.trans (congrArg some (by kernel_rfl))⟩
  f28:=Tryz.func127.trans (congrArg some (by kernel_rfl))
  f29:=Tryz.func128.trans (congrArg some (by kernel_rfl))
  f46:=⟨Tryz.f134.name,by decide,Tryz.func134.trans (congrArg some (by kernel_rfl))⟩
  f47:=Tryz.func135.trans (congrArg some (by kernel_rfl))
  f48:=Tryz.func136.trans (congrArg some (by kernel_rfl))
  f49:=⟨Tryz.f137.name,by decide,Tryz.func137.trans (congrArg some (by kernel_rfl))⟩
  f50:=⟨Tryz.f138.name,by decide,Tryz.func138.trans (congrArg some (by kernel_rfl))⟩
  f57:=⟨Tryz.f140.name,by decide,Tryz.func140.trans (congrArg some (by kernel_rfl))⟩
  t0:=Tryz.underlying0
  a0:=Tryz.isAgg0
  z0:=Tryz.sizeOf0
  v0:=Tryz.zeroValue0
  t3:=Tryz.underlying3
  a3:=Tryz.isAgg3
  z3:=Tryz.sizeOf3
  v3:=Tryz.zeroValue3
  t4:=Tryz.underlying4
  a4:=Tryz.isAgg4
  z4:=Tryz.sizeOf4
  v4:=Tryz.zeroValue4
  t5:=Tryz.underlying5
  a5:=Tryz.isAgg5
  z5:=Tryz.sizeOf5
  v5:=Tryz.zeroValue5
  t9:=Tryz.underlying9
  a9:=Tryz.isAgg9
  z9:=Tryz.sizeOf9
  v9:=Tryz.zeroValue9
  t22:=Tryz.underlying37
  a22:=Tryz.isAgg37
  z22:=Tryz.sizeOf37
  v22:=Tryz.zeroValue37
  t25:=Tryz.underlying121
  a25:=Tryz.isAgg121
  z25:=Tryz.sizeOf121
  v25:=Tryz.zeroValue121
  t39:=Tryz.underlying166
  a39:=Tryz.isAgg166
  z39:=Tryz.sizeOf166
  v39:=Tryz.zeroValue166
  t45:=Tryz.underlying207
  a45:=Tryz.isAgg207
  z45:=Tryz.sizeOf207
  v45:=Tryz.zeroValue207
  t46:=Tryz.underlying208
  a46:=Tryz.isAgg208
  z46:=Tryz.sizeOf208
  v46:=Tryz.zeroValue208
  t50:=Tryz.underlying152
  a50:=Tryz.isAgg152
  z50:=Tryz.sizeOf152
  v50:=Tryz.zeroValue152
  t53:=Tryz.underlying214
  a53:=Tryz.isAgg214
  z53:=Tryz.sizeOf214
  v53:=Tryz.zeroValue214
  t55:=Tryz.underlying182
  a55:=Tryz.isAgg182
  z55:=Tryz.sizeOf182
  v55:=Tryz.zeroValue182
  t66:=Tryz.underlying221
  a66:=Tryz.isAgg221
  z66:=Tryz.sizeOf221
  v66:=Tryz.zeroValue221
  t70:=Tryz.underlying224
  a70:=Tryz.isAgg224
  z70:=Tryz.sizeOf224
  v70:=Tryz.zeroValue224
  t76:=Tryz.underlying227
  a76:=Tryz.isAgg227
  z76:=Tryz.sizeOf227
  v76:=Tryz.zeroValue227
  t77:=Tryz.underlying100
  a77:=Tryz.isAgg100
  z77:=Tryz.sizeOf100
  v77:=Tryz.zeroValue100 }
open Go.RowKit Go.Lib Go.Sort in
theorem Tryz.sortE_eq {α:Type} [Inhabited α] (k:Nat) (aE:∀ w,(isAgg 94).run Tryz.prog w=.ok true w) (zE:∀ w,(Go.sizeOf 94).run Tryz.prog w=.ok k w) (enc:α→List Value) (hk:∀ x,(enc x).length=k) (h1:∀ x,∀ v∈enc x,v.oneCell'=true) (cf:α→α→Int) (hO:SWO (ltOf cf)) (g:Nat) (cb:Array Value) (blk off cap:Nat) (d:Array α) (w:World) (eg:∀ args w,(callFunc g args).run Tryz.prog w=.ok (.enter g args) w) (hcmp:CmpLays Tryz.prog g cb enc k cf blk off d.size w) (hH:HoldsK enc k w blk off d) (hblk:blk < w.heap.size) (hsz:d.size < 4611686018427387904) :
    Calls Tryz.prog 70 #[.slice (some ⟨blk,off,none⟩) d.size cap,.func (.func g) #[] cb] w fun e w' =>
      e=.returned (.tuple #[])∧∃ n os,w'=sortWorldK enc k w blk off n (pdq (ltOf cf) d 0 d.size (Lib.bitLen d.size) true true) os:=AnyQ.slices_SortFunc_eq Tryz.laysS_f70 k aE zE enc hk h1 cf hO g cb blk off cap d w eg hcmp hH hblk hsz
open Go.RowKit Go.Lib Go.Sort in
theorem Tryz.sortE_none {α:Type} [Inhabited α] (p:Option Addr) (cap:Nat) (fv:Value) (w:World) :
    Calls Tryz.prog 70 #[.slice p 0 cap,fv] w fun e w'=>e=.returned (.tuple #[])∧w'=w:=AnyF.slices_SortFunc_none Tryz.laysS_f70 p cap fv w
end
section
open Go Go.RowKit Go.Lib Go.Sort
instance:Inhabited Edj:=⟨⟨0,0,0⟩⟩
def lexE (x y:Edj):Prop:=x.src < y.src∨(x.src=y.src∧(x.label < y.label∨(x.label=y.label∧x.dst < y.dst)))
instance (x y:Edj):Decidable (lexE x y):=by unfold lexE;infer_instance
theorem cmp3 (a b:Int):(a < b∧Lib.compareInt a b=-1)∨(a=b∧Lib.compareInt a b=0)∨(b < a∧Lib.compareInt a b=1):=by
  unfold Lib.compareInt
  by_cases h:a < b
  · simp [h]
  · by_cases h2:b < a
    · simp [h,h2]
    · right;left;simp [h,h2];omega
theorem Ql (a b c:Int):orL [a,b,c] < 0↔a < 0∨(a=0∧(b < 0∨(b=0∧c < 0))):=by
  simp only [orL]
  by_cases h1:a=0
  · rw [if_neg (by simp [h1])]
    by_cases h2:b=0
    · rw [if_neg (by simp [h2])]
      by_cases h3:c=0
      · rw [if_neg (by simp [h3])];omega
      · rw [if_pos h3];omega
    · rw [if_pos h2];omega
  · rw [if_pos h1];omega
theorem ltE (x y:Edj):ltOf cfE x y=decide (lexE x y):=by
  unfold ltOf cfE
  rw [Bool.eq_iff_iff]
  simp only [decide_eq_true_eq]
  rw [Ql]
  unfold lexE
  have h1:=cmp3 x.src y.src
  have h2:=cmp3 x.label y.label
  have h3:=cmp3 x.dst y.dst
  omega
theorem swoE:SWO (ltOf cfE) where
  irrefl x:=by rw [ltE];simp [lexE]
  trans x y z h1 h2:=by rw [ltE] at *;simp only [decide_eq_true_eq] at *;unfold lexE at *;omega
  ntrans x y z h1 h2:=by rw [ltE] at *;simp only [decide_eq_false_iff_not] at *;unfold lexE at *;omega
theorem cmpLaysE (blk off size:Nat) (w:World):CmpLays Tryz.prog 71 #[] encE 3 cfE blk off size w:=fun _ _ _ _ x y=>closureE x y _
def AL (xs:List Edj):List Edj:=(pdq (ltOf cfE) xs.toArray 0 xs.length (Lib.bitLen xs.length) true true).toList
theorem Mi (xs:List Edj):PermIn 0 xs.toArray.size xs.toArray (AL xs).toArray∧SortedIn (ltOf cfE) 0 xs.toArray.size (AL xs).toArray:=by
  have:=pdq_sorts (ltOf cfE) swoE xs.toArray 0 xs.toArray.size (Lib.bitLen xs.length) true true (Nat.zero_le _) (Nat.le_refl _) (Or.inl rfl)
  simpa [AL] using this
theorem Iw (xs:List Edj):(AL xs).Perm xs:=by
  obtain ⟨⟨hsz,_,hperm⟩,_⟩:=Mi xs
  have e1:(AL xs).toArray.extract 0 xs.toArray.size=(AL xs).toArray:=by rw [← hsz];exact Array.extract_size
  rw [e1,Array.extract_size] at hperm
  simpa using hperm
theorem CX (xs:List Edj):(AL xs).length=xs.length:=(Iw xs).length_eq
theorem LT (xs:List Edj):(AL xs).Pairwise fun x y=>¬ lexE y x:=by
  obtain ⟨_,hs⟩:=Mi xs
  have hl:=CX xs
  rw [List.pairwise_iff_getElem]
  intro i j hi hj hij
  have:=hs i j (Nat.zero_le _) hij (by simp;omega)
  rw [getElem!_pos _ j (by simpa using hj),getElem!_pos _ i (by simpa using hi),ltE] at this
  simpa using this
theorem flatE:∀ (xs:List Edj),(flatK encE 3 xs.toArray).toList=xs.flatMap encE:=fun xs=>by
  apply List.ext_getElem?
  intro t
  have key:∀ (l:List Edj) (t:Nat),(l.flatMap encE)[t]?=(l[t / 3]?).bind fun x=>(encE x)[t % 3]?:=by
    intro l
    induction l with
    | nil=>intro t;simp
    | cons x l ih =>
      intro t
      rw [List.flatMap_cons]
      match t with
      | 0=>rfl
      | 1=>rfl
      | 2=>rfl
      | t + 3 =>
        rw [List.getElem?_append_right (by simp [encE]),show t + 3 - (encE x).length=t from by simp [encE],ih]
        rw [show (t + 3) / 3=t / 3 + 1 from by omega,show (t + 3) % 3=t % 3 from by omega]
        simp
  rw [key]
  by_cases ht:t < xs.length * 3
  · have h1:t / 3 < xs.length:=by omega
    have hsz:t < (flatK encE 3 xs.toArray).size:=by simpa using ht
    rw [Array.getElem?_toList,Array.getElem?_eq_getElem hsz,List.getElem?_eq_getElem h1,Option.bind_some]
    have:=get_flatK encE 3 xs.toArray t (by simpa using ht)
    rw [getElem!_pos (flatK encE 3 xs.toArray) t hsz,getElem!_pos xs.toArray (t / 3) (by simpa using h1)] at this
    rw [this]
    have h2:t % 3 < (encE xs[t / 3]).length:=by simp [encE];omega
    rw [List.getElem?_eq_getElem h2,List.getElem_toArray,getElem!_pos (encE xs[t / 3]) (t % 3) h2]
  · have h1:(flatK encE 3 xs.toArray).size≤t:=by rw [size_flatK];simpa using (by omega:xs.length * 3≤t)
    have h2:xs[t / 3]?=none:=List.getElem?_eq_none (by omega)
    rw [Array.getElem?_toList,Array.getElem?_eq_none h1,h2]
    rfl
theorem JU {w:World} {F:Nat→Prop}:∀ {xs:List Edj} {cells:List Value},Chunks w F cells xs→cells=xs.flatMap encE∧∀ x∈xs,inI64 x.src∧inI64 x.label∧inI64 x.dst
  | [],_,h=>⟨h,fun _ hx=>by simp at hx⟩
  | x :: xs,cells,⟨cs,rest,he,hr,hc⟩=>by
    obtain ⟨h1,h2⟩:=JU hc
    obtain ⟨h3,h4⟩:=hr
    refine ⟨by rw [he,h3,h1];rfl,fun y hy=>?_⟩
    rcases List.mem_cons.1 hy with rfl|hy
    · exact h4
    · exact h2 y hy
theorem JV {w:World} {F:Nat→Prop}:∀ {xs:List Edj},(∀ x∈xs,inI64 x.src∧inI64 x.label∧inI64 x.dst)→Chunks w F (xs.flatMap encE) xs
  | [],_=>rfl
  | x :: xs,h=>⟨encE x,xs.flatMap encE,rfl,⟨rfl,h x (by simp)⟩,JV fun y hy=>h y (by simp [hy])⟩
theorem El (xs:List Edj):(xs.flatMap encE).length=xs.length * 3:=by rw [← flatE,Array.length_toList,size_flatK];simp
theorem Gj {i:Nat} {w:World} {O:Lab} {v:Value} {xs:List Edj} (hR:Rw i w O 94 v xs) (hl:xs.length < 4611686018427387904) :
    Fn Tryz.prog 70 [v,.func (.func 71) #[] #[]] w fun _ w'=>∃ O',St (eT i) w O w' O'∧Rw i w' O' 94 v (AL xs):=by
  intro d
  rcases Nat.eq_zero_or_pos xs.length with h0|h0
  · have hx:xs=[]:=List.eq_nil_of_length_eq_zero h0
    subst hx
    obtain ⟨p,c,rfl⟩:=hR.form
    have hs:AL []=[]:=List.eq_nil_of_length_eq_zero (CX [])
    exact (Tryz.sortE_none (α:=Edj) p c _ (dr w d)).mono fun e w' ⟨he,hw⟩=>⟨_,w,d,he,hw,O,St.refl _ _ _,by rw [hs];exact hR⟩
  · obtain ⟨g,cap,cells,sp,rfl,hg,hFg,hb,hc,hlen,hnc,hcm,htot⟩:=hR.1.open h0
    obtain ⟨rfl,hin⟩:=JU hc
    have hfl:=flatE xs
    have hH:HoldsK encE 3 (dr w d) g 0 xs.toArray:=fun j hj=>by
      have hj':j < xs.length * 3:=by simpa using hj
      refine ⟨?_,by rw [Nat.zero_add];exact hb.frozen j⟩
      rw [Nat.zero_add]
      refine hb.cell ?_
      rw [List.getElem?_append_left (by rw [El];exact hj'),← hfl,Array.getElem?_toList,Array.getElem?_eq_getElem hj,getElem!_pos _ j hj]
      rfl
    have aE:∀ w,(isAgg 94).run Tryz.prog w=.ok true w:=fun w=>FX w
    have zE:∀ w,(Go.sizeOf 94).run Tryz.prog w=.ok 3 w:=fun w=>Dl w
    have eg:∀ args w,(callFunc 71 args).run Tryz.prog w=.ok (.enter 71 args) w:=enters_of Tryz.func71 (by kernel_rfl) rfl
    have hcall:=Tryz.sortE_eq 3 aE zE encE (fun _=>rfl) (fun x v hv=>by simp [encE] at hv;rcases hv with rfl|rfl|rfl<;>rfl) cfE swoE 71 #[] g 0 cap xs.toArray (dr w d) eg (cmpLaysE g 0 _ _) hH hb.lt (by simpa using hl)
    have e1:xs.toArray.size=xs.length:=by simp
    rw [e1] at hcall
    refine hcall.mono fun e w' ⟨he,n,os,hw⟩=>⟨_,w',w'.drawn,he,rfl,upO O w.heap.size (fun _=>0),?_,?_⟩
    · subst hw
      refine ⟨rfl,rfl,rfl,?_,fun k hk hne=>⟨?_,EC hk⟩⟩
      · show w.heap.size≤((w.heap.modify g _) ++ os).size
        simp
      · have hkg:g≠k:=fun e=>hne (by rw [← e];exact hR.2.1 g rfl)
        show ((w.heap.modify g _) ++ os)[k]?=_
        rw [Array.getElem?_append_left (by simpa using hk),Array.getElem?_modify,if_neg hkg]
    · have hpd:pdq (ltOf cfE) xs.toArray 0 xs.length (Lib.bitLen xs.length) true true=(AL xs).toArray:=by simp [AL]
      rw [hpd] at hw
      have hsl:=CX xs
      have hf2:=flatE (AL xs)
      have hblk:Blk w' g 94 ((AL xs).flatMap encE ++ sp):=by
        subst hw
        unfold Blk at hb ⊢
        have hsz:g < w.heap.size:=Blk.lt hb
        show ((w.heap.modify g _) ++ os)[g]?=_
        rw [Array.getElem?_append_left (by simpa using hsz),Array.getElem?_modify,if_pos rfl,hb]
        simp only [Option.map_some,Go.Sort.onCells]
        congr 2
        apply Array.ext
        · simp only [Go.Sort.putCells,Array.size_mapIdx,List.size_toArray,List.length_append,El,hsl]
        · intro i h1 h2
          simp only [Go.Sort.putCells,Array.getElem_mapIdx,Nat.zero_add,Nat.sub_zero,Nat.zero_le,true_and]
          have e2:(flatK encE 3 (AL xs).toArray).size=xs.length * 3:=by rw [size_flatK];simp [hsl]
          by_cases hi:i < xs.length * 3
          · rw [if_pos (by rw [e2];exact hi)]
            simp only [List.getElem_toArray]
            rw [List.getElem_append_left (by rw [El,hsl];exact hi)]
            rw [getElem!_pos _ _ (by rw [e2];exact hi)]
            have:=congrArg (·[i]?) hf2
            simp only [Array.getElem?_toList] at this
            rw [Array.getElem?_eq_getElem (by rw [e2];exact hi),List.getElem?_eq_getElem (by rw [El,hsl];exact hi)] at this
            exact Option.some.inj this
          · rw [if_neg (by rw [e2];exact hi)]
            simp only [List.getElem_toArray]
            rw [List.getElem_append_right (by rw [El];omega),List.getElem_append_right (by rw [El,hsl];omega)]
            simp only [El,hsl]
      have hS:∀ k,Fr 0 w O k→Fr 0 w' (upO O w.heap.size fun _=>0) k:=fun k hk=>⟨by subst hw;show k < ((w.heap.modify g _) ++ os).size;have:=hk.1;simp;omega,(EC hk.1).trans hk.2⟩
      have:=Own.close (w:=w') (base:=0) (F:=Fr 0 w O) (cap:=cap) (Nat.zero_le _) hFg hblk (JV (F:=Fr 0 w O) (w:=w') fun x hx=>hin x ((Iw xs).mem_iff.1 hx)) (by rw [hsl];exact hnc) hcm (by rw [List.length_append,El] at htot ⊢;rw [hsl];exact htot)
      rw [hsl] at this
      exact this.rw hS (fun g' hg'=>by
        have:g=g':=by simpa [Value.ownBlock] using hg'
        subst this
        exact (EC hb.lt).trans (hR.2.1 g rfl)) hR.2.2
theorem Je {α:Type} {R:α→α→Prop}:∀ {a b:List α},a.Perm b→a.Pairwise R→b.Pairwise R→(∀ x y,R x y→R y x→x=y)→a=b
  | [],b,h,_,_,_=>(List.nil_perm.1 h).symm
  | x :: a,[],h,_,_,_=>by simp at h
  | x :: a,y :: b,h,ha,hb,hR=>by
    obtain ⟨ha1,ha2⟩:=List.pairwise_cons.1 ha
    obtain ⟨hb1,hb2⟩:=List.pairwise_cons.1 hb
    have hx:x∈y :: b:=h.mem_iff.1 List.mem_cons_self
    have hy:y∈x :: a:=h.mem_iff.2 List.mem_cons_self
    have e:x=y:=by
      rcases List.mem_cons.1 hx with rfl|hx
      · rfl
      · rcases List.mem_cons.1 hy with rfl|hy
        · rfl
        · exact hR x y (ha1 y hy) (hb1 x hx)
    subst e
    rw [Je ((List.perm_cons x).1 h) ha2 hb2 hR]
theorem Pp {xs:List Edj} (h:xs.Pairwise fun x y=>¬ lexE y x):AL xs=xs :=
  Je (Iw xs) (LT xs) h fun x y h1 h2=>by
    obtain ⟨a,b,c⟩:=x
    obtain ⟨a',b',c'⟩:=y
    unfold lexE at h1 h2
    dsimp only at h1 h2
    have e1:a=a':=by omega
    have e2:b=b':=by omega
    have e3:c=c':=by omega
    rw [e1,e2,e3]
end
section
set_option linter.unusedVariables false
set_option linter.unusedSimpArgs false
open Go Go.RowKit
attribute [local irreducible] ewp owp hwp hwq hws Ev Evg Fn retPost loud loudS Res1
attribute [local irreducible] hwx loudX AL
section
variable {w : World} {O : Lab} {j k p q : Nat}
theorem Gk {x:Reg} (hR:Ob k w O (.pointer (some ⟨q,0,none⟩)) x):Fn Tryz.prog 46 [.pointer (some ⟨q,0,none⟩)] w fun v w'=>v=.int .i64 (x.entries.length:Int)∧inI64 (x.entries.length:Int)∧Ext w w':=by
  obtain ⟨⟨g,L,c0,c1,c2,hv,hb,_,_,_,h1,_⟩,_⟩:=hR
  obtain rfl:q=g:=by injection hv with hv;injection hv with hv;injection hv
  have hvb:=h1.1.vb
  obtain ⟨A1,c,rfl⟩:=hvb.form
  have hl:x.entries.length≤9223372036854775807:=Nat.le_trans hvb.len.2.1 hvb.len.2.2
  refine AI Tryz.func46 rfl Tryz.ntmps46 rfl ?_
  refine Al (Aj (Ar rfl rfl (o_z ?_)))
  refine Al (Al (Aj (Am rfl rfl (Ep rfl rfl ?_))))
  refine o_z ?_
  refine Ae rfl (AJ (Al (Aj (Am rfl rfl (BK rfl rfl ?_)))))
  refine AF rfl rfl (AE (hc:=Blk.cell (i:=1) hb rfl) rfl rfl ?_)
  refine AN rfl rfl ?_
  refine Ar rfl rfl (o_z ?_)
  refine AK ?_
  exact ret1v rfl (AB rfl) ⟨rfl,rngNat hl,Below.refl _ _⟩
theorem Fm {x:Spa} {cs:List Value} (hL:Lc j w O p 87 cs) (h4:cs[4]?=some (.pointer (some ⟨q,0,none⟩))) (hR:Ob k w O (.pointer (some ⟨q,0,none⟩)) x.states) {r:Int} (hm:BE x=some r) :
    Fn Tryz.prog 21 [.pointer (some ⟨p,0,none⟩)] w fun v w'=>Ext w w'∧Vb w' (upA (All w) w w') v r:=by
  have hr:r=(x.states.entries.length:Int):=by
    unfold BE at hm
    rw [show AW x.states=some (x.states.entries.length:Int) from rfl,At] at hm
    exact (Option.some.inj hm).symm
  subst hr
  refine AI Tryz.func21 rfl Tryz.ntmps21 rfl ?_
  refine Al (Aj (Ar rfl rfl (o_z ?_)))
  refine Al (Al (Aj (Am rfl rfl (Ep rfl rfl ?_))))
  refine o_z ?_
  refine Ae rfl (AJ (Al (Aj (Am rfl rfl (BK rfl rfl ?_)))))
  refine AF rfl rfl (AE (hc:=Blk.cell (i:=4) hL.1 h4) rfl rfl ?_)
  refine Bc rfl rfl (Gk hR) fun v w' ⟨hv,hrg,hE⟩=>?_
  subst hv
  refine Ar rfl rfl (o_z ?_)
  refine AK ?_
  exact ret1v rfl (AB rfl) ⟨hE,vInt hrg⟩
end
noncomputable def CO (x0:Spa):Option Sys :=
  bnd (BE x0) fun q50=>bnd (Cm x0.edges) fun q52=>bnd (Dx x0.goals) fun q54=>bnd (some (q52,q54):Option ((List Edj)×(List Bool))) fun y56=>bnd (rng (ρ:=Sys) (fun (k240:Nat) (a241:Opr) (s238:(List Int))=>bnd (appI 8 s238 [a241.cost]) fun u279=>some (.next u279)) x0.t.ops 0 ([]:List Int)) fun res236=>fin res236 fun (s297:(List Int))=>bnd (if y56.1.length < 4611686018427387904 then some (AL y56.1) else none) fun u304=>some (⟨q50,0,s297,u304,y56.2⟩:Sys)
theorem GY {w:World} {O:Lab} {p0 i0:Nat} {x0:Spa} (q2:Ob i0 w O (.pointer (some ⟨p0,0,none⟩)) x0) {r:Sys} (hm:CO x0=some r) :
    Fn Tryz.prog 31 [(.pointer (some ⟨p0,0,none⟩))] w fun v w'=>∃ O',St (eT i0) w O w' O'∧Ob i0 w' O' (.pointer (some ⟨p0,0,none⟩)) x0∧Vb w' (Fr 0 w' O') v r:=by
 obtain ⟨O0,hE,b7,c7⟩:=ent1 (w:=w) (O:=O) q2.2
 have q2':=Ob.leave q2 b7 c7 (j:=2) (by decide)
 have hB:Bm w O0 w O0:=Bm.refl
 refine AI Tryz.func31 rfl Tryz.ntmps31 rfl ?_
 unfold CO at hm
 refine Al (Aj (Cq 3 O0 rfl fun g2 w3 O4 S5 h6=>?_))
 refine o_z ?_
 refine Al (Al (Aj (Am rfl rfl (Ep rfl rfl ?_))))
 refine o_z ?_
 refine Ae rfl (AJ (Al ?_))
 replace q2':=q2'.st S5
 obtain ⟨O7,y9,z9,aA,bA,cA,dA,eA,fA,gA,iA,S8,d7,h9,t1,u1,v1,w1,f1,a1,u0,x1,y1,z1⟩:=Spa.opn q2' 2 4 (by decide)
 obtain ⟨jA,kA,rfl⟩:=t1.form
 obtain ⟨lA,mA,rfl⟩:=u1.form
 obtain ⟨nA,oA,rfl⟩:=v1.form
 obtain ⟨pA,qA,rfl⟩:=w1.form
 obtain ⟨rA,rfl⟩:=f1.ptr
 obtain ⟨sA,tA,rfl⟩:=a1.form
 obtain ⟨uA,vA,rfl⟩:=u0.form
 obtain ⟨wA,xA,rfl⟩:=x1.form
 obtain ⟨yA,zA,rfl⟩:=y1.form
 obtain ⟨aB,bB,rfl⟩:=z1.form
 obtain ⟨j1,j6,hm⟩:=bs hm
 obtain ⟨g4,n4,hm⟩:=bs hm
 obtain ⟨h4,i4,hm⟩:=bs hm
 obtain ⟨r0,n2,hm⟩:=bs hm
 refine AM (fun l' w'=>∃ (a0:Nat×(Option Addr×Nat)×(Option Addr×Nat)) (O':Lab),subs l' [(0,(.pointer (some ⟨p0,0,none⟩))),(2,(.pointer (some ⟨g2,0,none⟩))),(3,(.pointer (some ⟨a0.1,0,none⟩)))]∧Bm w O0 w' O'∧Ob 2 w' O' (.pointer (some ⟨p0,0,none⟩)) x0∧Lc 3 w' O' g2 64 [(.int .i64 0),(.int .i64 0),(.slice none 0 0),(.slice none 0 0),(.slice none 0 0)]∧Lc 7 w' O' a0.1 64 [(.int .i64 j1),(.int .i64 0),(.slice none 0 0),(.slice a0.2.1.1 r0.1.length a0.2.1.2),(.slice a0.2.2.1 r0.2.length a0.2.2.2)]∧Rw 5 w' O' 94 (.slice a0.2.1.1 r0.1.length a0.2.1.2) r0.1∧Rw 6 w' O' 4 (.slice a0.2.2.1 r0.2.length a0.2.2.2) r0.2∧inI64 j1) ?_ ?_
 ·
  refine Bt [] O7 ?_
  refine AT (fuel:=6) [] [(0,true),(2,true),(3,true),(4,true),(5,true),(7,true),(8,true),(9,true),(10,true)] (by kernel_rfl) rfl ?_
  refine AH rfl rfl rfl (AH rfl rfl rfl (Cd rfl rfl rfl (AR rfl rfl rfl (AS (hc:=fun w' ⟨O',hq⟩=>Blk.cell (i:=5) ((h9.st hq (by decide)).1) rfl) rfl rfl rfl ?_))))
  refine AH rfl rfl rfl (Cd rfl rfl rfl (AR rfl rfl rfl (AS (hc:=fun w' ⟨O',hq⟩=>Blk.cell (i:=6) ((h9.st hq (by decide)).1) rfl) rfl rfl rfl ?_)))
  refine AG ?_
  refine GR (i:=1) (j:=13) (by kernel_rfl) rfl rfl ?_ ?_
  ·
   refine Ce (O:=O7) (A:=All w3) (R:=fun w' F v=>Vb w' F v j1) (Fm h9 rfl f1 j6) rfl rfl fun cB dB k6 b0 e7=>?_
   obtain ⟨rfl,o4⟩:=e7.int
   have hZ:=b0.lst [] (fun _ h=>h.elim)
   refine Bg [] hZ (by kernel_rfl) ?_
   refine GR (i:=6) (j:=13) (by kernel_rfl) rfl rfl ?_ ?_
   ·
    replace a1:=a1.st b0
    refine BG 5 (by decide) (O:=k6) (Cn Fr.lt a1 n4) rfl rfl fun j4 k4 eB l6 s0 m6=>?_
    have hZ:=s0.lst [] (fun _ h=>h.elim)
    refine Bg [] hZ (by kernel_rfl) ?_
    refine GR (i:=11) (j:=13) (by kernel_rfl) rfl rfl ?_ ?_
    ·
     replace u0:=(u0.st b0).st s0
     refine BG 6 (by decide) (O:=l6) (CW Fr.lt u0 i4) rfl rfl fun n6 o6 fB f7 k1 g7=>?_
     have hZ:=k1.lst [] (fun _ h=>h.elim)
     refine Bg [] hZ (by kernel_rfl) ?_
     refine AT (fuel:=2) [] [(12,true)] (by kernel_rfl) rfl ?_
     refine Fu rfl rfl rfl rfl ?_
     refine AG ?_
     refine AV (i:=13) (by kernel_rfl) rfl ?_
     refine Cq 7 f7 rfl fun p6 gB h7 i1 v2=>?_
     have hZ:=i1.lst [] (fun _ h=>h.elim)
     refine Bg [] hZ (by kernel_rfl) ?_
     refine AV (i:=14) (by kernel_rfl) rfl ?_
     refine Bf v2 rfl rfl rfl (BO rfl) (allOne rfl) fun i7 m1 v2=>?_
     replace v2:Lc 7 i7 h7 p6 64 [(.int .i64 j1),(.int .i64 0),(.slice none 0 0),(.slice j4 g4.length k4),(.slice n6 h4.length o6)]:=v2
     refine Di (by kernel_rfl) ?_
     refine BC (by kernel_rfl) ?_
     replace h9:=((((h9.st b0).st s0).st k1).st i1).st m1
     replace t1:=((((t1.st b0).st s0).st k1).st i1).st m1
     replace u1:=((((u1.st b0).st s0).st k1).st i1).st m1
     replace v1:=((((v1.st b0).st s0).st k1).st i1).st m1
     replace w1:=((((w1.st b0).st s0).st k1).st i1).st m1
     replace f1:=((((f1.st b0).st s0).st k1).st i1).st m1
     replace a1:=(((a1.st s0).st k1).st i1).st m1
     replace u0:=((u0.st k1).st i1).st m1
     replace x1:=((((x1.st b0).st s0).st k1).st i1).st m1
     replace y1:=((((y1.st b0).st s0).st k1).st i1).st m1
     replace z1:=((((z1.st b0).st s0).st k1).st i1).st m1
     obtain ⟨iB,w2,j7,k7,l7⟩:=Spa.shut (x:=x0) (l0:=2) (l1:=4) (by decide) h9 t1 u1 v1 w1 f1 a1 u0 x1 y1 z1
     obtain rfl:=sm n2
     exact ⟨(p6,(j4,k4),(n6,o6)),_,⟨rfl,rfl,rfl,trivial⟩,(((((((hB.st S5).st S8).st b0).st s0).st k1).st i1).st m1).st w2,l7,((((((h6.st S8).st b0).st s0).st k1).st i1).st m1).st w2,v2.st w2,(((m6.st k1).st i1).st m1).st w2,((g7.st i1).st m1).st w2,o4⟩
    refine Cq 7 l6 rfl fun x2 m7 p4 f0 n1=>?_
    have hZ:=f0.lst [] (fun _ h=>h.elim)
    refine Bg [] hZ (by kernel_rfl) ?_
    refine AV (i:=11) (by kernel_rfl) rfl ?_
    replace u0:=((u0.st b0).st s0).st f0
    refine BG 6 (by decide) (O:=p4) (CW Fr.lt u0 i4) rfl rfl fun y2 z2 n7 q4 c0 r4=>?_
    have hZ:=c0.lst [] (fun _ h=>h.elim)
    refine Bg [] hZ (by kernel_rfl) ?_
    refine AT (fuel:=1) [] [(12,true)] (by kernel_rfl) rfl ?_
    refine Fu rfl rfl rfl rfl ?_
    refine AG ?_
    refine AV (i:=14) (by kernel_rfl) rfl ?_
    replace n1:=n1.st c0
    refine Bf n1 rfl rfl rfl (BO rfl) (allOne rfl) fun s4 g0 n1=>?_
    replace n1:Lc 7 s4 q4 x2 64 [(.int .i64 j1),(.int .i64 0),(.slice none 0 0),(.slice j4 g4.length k4),(.slice y2 h4.length z2)]:=n1
    refine Di (by kernel_rfl) ?_
    refine BC (by kernel_rfl) ?_
    replace h9:=((((h9.st b0).st s0).st f0).st c0).st g0
    replace t1:=((((t1.st b0).st s0).st f0).st c0).st g0
    replace u1:=((((u1.st b0).st s0).st f0).st c0).st g0
    replace v1:=((((v1.st b0).st s0).st f0).st c0).st g0
    replace w1:=((((w1.st b0).st s0).st f0).st c0).st g0
    replace f1:=((((f1.st b0).st s0).st f0).st c0).st g0
    replace a1:=(((a1.st s0).st f0).st c0).st g0
    replace u0:=(u0.st c0).st g0
    replace x1:=((((x1.st b0).st s0).st f0).st c0).st g0
    replace y1:=((((y1.st b0).st s0).st f0).st c0).st g0
    replace z1:=((((z1.st b0).st s0).st f0).st c0).st g0
    obtain ⟨o7,c2,q6,r6,t4⟩:=Spa.shut (x:=x0) (l0:=2) (l1:=4) (by decide) h9 t1 u1 v1 w1 f1 a1 u0 x1 y1 z1
    obtain rfl:=sm n2
    exact ⟨(x2,(j4,k4),(y2,z2)),_,⟨rfl,rfl,rfl,trivial⟩,(((((((hB.st S5).st S8).st b0).st s0).st f0).st c0).st g0).st c2,t4,((((((h6.st S8).st b0).st s0).st f0).st c0).st g0).st c2,n1.st c2,(((m6.st f0).st c0).st g0).st c2,(r4.st g0).st c2,o4⟩
   refine Cq 7 k6 rfl fun a3 p7 u4 o0 o1=>?_
   have hZ:=o0.lst [] (fun _ h=>h.elim)
   refine Bg [] hZ (by kernel_rfl) ?_
   refine AV (i:=6) (by kernel_rfl) rfl ?_
   replace a1:=(a1.st b0).st o0
   refine BG 5 (by decide) (O:=u4) (Cn Fr.lt a1 n4) rfl rfl fun b3 c3 q7 v4 h0 w4=>?_
   have hZ:=h0.lst [] (fun _ h=>h.elim)
   refine Bg [] hZ (by kernel_rfl) ?_
   refine AV (i:=11) (by kernel_rfl) rfl ?_
   replace u0:=((u0.st b0).st o0).st h0
   refine BG 6 (by decide) (O:=v4) (CW Fr.lt u0 i4) rfl rfl fun d3 e3 r7 x4 d0 y4=>?_
   have hZ:=d0.lst [] (fun _ h=>h.elim)
   refine Bg [] hZ (by kernel_rfl) ?_
   refine AT (fuel:=1) [] [(12,true)] (by kernel_rfl) rfl ?_
   refine Fu rfl rfl rfl rfl ?_
   refine AG ?_
   refine AV (i:=14) (by kernel_rfl) rfl ?_
   replace o1:=(o1.st h0).st d0
   refine Bf o1 rfl rfl rfl (BO rfl) (allOne rfl) fun z4 j0 o1=>?_
   replace o1:Lc 7 z4 x4 a3 64 [(.int .i64 j1),(.int .i64 0),(.slice none 0 0),(.slice b3 g4.length c3),(.slice d3 h4.length e3)]:=o1
   refine Di (by kernel_rfl) ?_
   refine BC (by kernel_rfl) ?_
   replace h9:=((((h9.st b0).st o0).st h0).st d0).st j0
   replace t1:=((((t1.st b0).st o0).st h0).st d0).st j0
   replace u1:=((((u1.st b0).st o0).st h0).st d0).st j0
   replace v1:=((((v1.st b0).st o0).st h0).st d0).st j0
   replace w1:=((((w1.st b0).st o0).st h0).st d0).st j0
   replace f1:=((((f1.st b0).st o0).st h0).st d0).st j0
   replace a1:=((a1.st h0).st d0).st j0
   replace u0:=(u0.st d0).st j0
   replace x1:=((((x1.st b0).st o0).st h0).st d0).st j0
   replace y1:=((((y1.st b0).st o0).st h0).st d0).st j0
   replace z1:=((((z1.st b0).st o0).st h0).st d0).st j0
   obtain ⟨s7,d2,s6,t6,a5⟩:=Spa.shut (x:=x0) (l0:=2) (l1:=4) (by decide) h9 t1 u1 v1 w1 f1 a1 u0 x1 y1 z1
   obtain rfl:=sm n2
   exact ⟨(a3,(b3,c3),(d3,e3)),_,⟨rfl,rfl,rfl,trivial⟩,(((((((hB.st S5).st S8).st b0).st o0).st h0).st d0).st j0).st d2,a5,((((((h6.st S8).st b0).st o0).st h0).st d0).st j0).st d2,o1.st d2,((w4.st d0).st j0).st d2,(y4.st j0).st d2,o4⟩
  refine Cq 7 O7 rfl fun f3 b5 c5 q0 p1=>?_
  have hZ:=q0.lst [] (fun _ h=>h.elim)
  refine Bg [] hZ (by kernel_rfl) ?_
  refine AV (i:=1) (by kernel_rfl) rfl ?_
  replace h9:=h9.st q0
  replace f1:=f1.st q0
  refine Ce (O:=c5) (A:=All b5) (R:=fun w' F v=>Vb w' F v j1) (Fm h9 rfl f1 j6) rfl rfl fun t7 u7 d5 k0 e5=>?_
  obtain ⟨rfl,f5⟩:=e5.int
  have hZ:=k0.lst [] (fun _ h=>h.elim)
  refine Bg [] hZ (by kernel_rfl) ?_
  refine AV (i:=6) (by kernel_rfl) rfl ?_
  replace a1:=(a1.st q0).st k0
  refine BG 5 (by decide) (O:=d5) (Cn Fr.lt a1 n4) rfl rfl fun g3 h3 v7 g5 m0 h5=>?_
  have hZ:=m0.lst [] (fun _ h=>h.elim)
  refine Bg [] hZ (by kernel_rfl) ?_
  refine AV (i:=11) (by kernel_rfl) rfl ?_
  replace u0:=((u0.st q0).st k0).st m0
  refine BG 6 (by decide) (O:=g5) (CW Fr.lt u0 i4) rfl rfl fun i3 j3 w7 i5 e0 j5=>?_
  have hZ:=e0.lst [] (fun _ h=>h.elim)
  refine Bg [] hZ (by kernel_rfl) ?_
  refine AT (fuel:=1) [] [(12,true)] (by kernel_rfl) rfl ?_
  refine Fu rfl rfl rfl rfl ?_
  refine AG ?_
  refine AV (i:=14) (by kernel_rfl) rfl ?_
  replace p1:=((p1.st k0).st m0).st e0
  refine Bf p1 rfl rfl rfl (BO rfl) (allOne rfl) fun k5 n0 p1=>?_
  replace p1:Lc 7 k5 i5 f3 64 [(.int .i64 j1),(.int .i64 0),(.slice none 0 0),(.slice g3 g4.length h3),(.slice i3 h4.length j3)]:=p1
  refine Di (by kernel_rfl) ?_
  refine BC (by kernel_rfl) ?_
  replace h9:=(((h9.st k0).st m0).st e0).st n0
  replace t1:=((((t1.st q0).st k0).st m0).st e0).st n0
  replace u1:=((((u1.st q0).st k0).st m0).st e0).st n0
  replace v1:=((((v1.st q0).st k0).st m0).st e0).st n0
  replace w1:=((((w1.st q0).st k0).st m0).st e0).st n0
  replace f1:=(((f1.st k0).st m0).st e0).st n0
  replace a1:=((a1.st m0).st e0).st n0
  replace u0:=(u0.st e0).st n0
  replace x1:=((((x1.st q0).st k0).st m0).st e0).st n0
  replace y1:=((((y1.st q0).st k0).st m0).st e0).st n0
  replace z1:=((((z1.st q0).st k0).st m0).st e0).st n0
  obtain ⟨x7,e2,u6,v6,l5⟩:=Spa.shut (x:=x0) (l0:=2) (l1:=4) (by decide) h9 t1 u1 v1 w1 f1 a1 u0 x1 y1 z1
  obtain rfl:=sm n2
  exact ⟨(f3,(g3,h3),(i3,j3)),_,⟨rfl,rfl,rfl,trivial⟩,(((((((hB.st S5).st S8).st q0).st k0).st m0).st e0).st n0).st e2,l5,((((((h6.st S8).st q0).st k0).st m0).st e0).st n0).st e2,p1.st e2,((h5.st e0).st n0).st e2,(j5.st n0).st e2,f5⟩
 replace hB:=(hB.st S5).st S8
 replace h6:=h6.st S8
 rintro y7 z7 ⟨a0,a8,k3,hB,b8,h6,w0,d1,q1,c8⟩
 refine AP _ k3 ?_
 refine Al (Al (Aj (Am rfl rfl (BK rfl rfl ?_))))
 obtain ⟨d8,e8,f8,g8,h8,i8,j8,k8,l8,m8,n8,b1,w6,l3,m3,n3,o3,y0,p3,q3,r3,s3,t3,u3⟩:=Spa.opn b8 2 4 (by decide)
 obtain ⟨o8,p8,rfl⟩:=m3.form
 obtain ⟨q8,r8,rfl⟩:=n3.form
 obtain ⟨s8,t8,rfl⟩:=o3.form
 obtain ⟨v3,x3,rfl⟩:=y0.form
 obtain ⟨u8,rfl⟩:=p3.ptr
 obtain ⟨v8,w8,rfl⟩:=q3.form
 obtain ⟨x8,y8,rfl⟩:=r3.form
 obtain ⟨z8,a9,rfl⟩:=s3.form
 obtain ⟨b9,c9,rfl⟩:=t3.form
 obtain ⟨d9,e9,rfl⟩:=u3.form
 refine AF rfl rfl (AF rfl rfl (AE (hc:=Blk.cell (i:=3) (l3.1) rfl) rfl rfl ?_))
 refine AN rfl rfl ?_
 have r2:x0.t.ops.length≤9223372036854775807:=Nat.le_trans y0.len.2.1 y0.len.2.2
 have f9:inI64 (x0.t.ops.length:Int):=rngNat r2
 refine Am rfl rfl (o_z ?_)
 obtain ⟨m5,z0,x6,y6,e1⟩:=Spa.shut (x:=x0) (l0:=2) (l1:=4) (by decide) l3 m3 n3 o3 y0 p3 q3 r3 s3 t3 u3
 obtain ⟨s2,y3,hm⟩:=bs hm
 refine AM (aft s2 (fun (c1:(List Int)) (v0:(Option Addr×Nat))=>[(2,(.pointer (some ⟨g2,0,none⟩))),(3,(.pointer (some ⟨a0.1,0,none⟩)))]) (fun c1 v0 w'=>∃ O':Lab,Bm w O0 w' O'∧Lc 3 w' O' g2 64 [(.int .i64 0),(.int .i64 0),(.slice none 0 0),(.slice none 0 0),(.slice none 0 0)]∧Lc 7 w' O' a0.1 64 [(.int .i64 j1),(.int .i64 0),(.slice v0.1 c1.length v0.2),(.slice a0.2.1.1 r0.1.length a0.2.1.2),(.slice a0.2.2.1 r0.2.length a0.2.2.2)]∧Rw 9 w' O' 3 (.slice v0.1 c1.length v0.2) c1∧Rw 5 w' O' 94 (.slice a0.2.1.1 r0.1.length a0.2.1.2) r0.1∧Rw 6 w' O' 4 (.slice a0.2.2.1 r0.2.length a0.2.2.2) r0.2∧Ob 2 w' O' (.pointer (some ⟨p0,0,none⟩)) x0)) ?_ ?_
 ·
  refine AQ ?_
  replace hB:=(hB.st b1).st z0
  replace h6:=(h6.st b1).st z0
  replace w0:=(w0.st b1).st z0
  replace d1:=(d1.st b1).st z0
  replace q1:=(q1.st b1).st z0
  replace y0:=y0.st z0
  refine BV (σ:=(List Int)) (X:=(Option Addr×Nat)) (x0.t.ops.length) y3 rfl r2 (fun (c1:(List Int)) (v0:(Option Addr×Nat))=>[(2,(.pointer (some ⟨g2,0,none⟩))),(3,(.pointer (some ⟨a0.1,0,none⟩))),(26,(.slice v3 x0.t.ops.length x3))]) _ (fun c1 v0 w'=>∃ O':Lab,Bm w O0 w' O'∧Lc 3 w' O' g2 64 [(.int .i64 0),(.int .i64 0),(.slice none 0 0),(.slice none 0 0),(.slice none 0 0)]∧Lc 7 w' O' a0.1 64 [(.int .i64 j1),(.int .i64 0),(.slice v0.1 c1.length v0.2),(.slice a0.2.1.1 r0.1.length a0.2.1.2),(.slice a0.2.2.1 r0.2.length a0.2.2.2)]∧Rw 9 w' O' 3 (.slice v0.1 c1.length v0.2) c1∧Rw 5 w' O' 94 (.slice a0.2.1.1 r0.1.length a0.2.1.2) r0.1∧Rw 6 w' O' 4 (.slice a0.2.2.1 r0.2.length a0.2.2.2) r0.2∧Vb w' (Fr 0 w' O') (.slice v3 x0.t.ops.length x3) x0.t.ops∧Ob 2 w' O' (.pointer (some ⟨p0,0,none⟩)) x0) _ (none,0) ⟨m5,hB,h6,w0,(Rw.nil 9 (by decide)),d1,q1,y0,e1⟩ ⟨rfl,rfl,rfl,rfl,rfl,trivial⟩ (fun _ _=>⟨rfl,rfl⟩) (fun _ _=>⟨rfl,rfl,trivial⟩) (fun _ _ _ ⟨O',hB,h6,w0,t0,d1,q1,y0,e1⟩=>⟨O',hB,h6,w0,t0,d1,q1,e1⟩) ⟨rfl,rfl,rfl⟩ ⟨rfl,rfl⟩ ?_
  rintro n5 f2 c1 v0 g9 z6 p2 ⟨o5,hB,h6,w0,t0,d1,q1,y0,e1⟩ h2 l4 m4
  have rk240:inI64 (n5:Int):=rngK p2 r2
  refine Al (Aj ?_)
  obtain ⟨i9,j9,a7,z3,a4,b4,k9,l9,rfl,p5,q5,r5,m9⟩:=y0.elem' p2
  obtain ⟨s5,t5,rfl⟩:=p5.form
  obtain ⟨u5,v5,rfl⟩:=q5.form
  refine BW (hA:=z3) (hj:=rfl) (hlt:=a4) rfl rfl rfl ?_
  refine BM (hl:=rfl) (hc:=b4) rfl rfl ?_
  refine Cq 8 o5 rfl fun w5 n9 x5 g1 i2=>?_
  refine Bf i2 rfl rfl rfl (BO rfl) (allOne rfl) fun y5 h1 i2=>?_
  replace i2:Lc 8 y5 x5 w5 61 [(.string f2.name),(.int .i64 f2.cost),(.slice s5 f2.pre.length t5),(.slice u5 f2.effs.length v5)]:=i2
  refine o_z ?_
  refine Aj (AF rfl rfl ?_)
  replace w0:=(w0.st g1).st h1
  refine AE (hc:=Blk.cell (i:=2) (w0.1) rfl) rfl rfl ?_
  refine AF rfl rfl (AE (hc:=Blk.cell (i:=1) (i2.1) rfl) rfl rfl ?_)
  obtain ⟨z5,t2,h2⟩:=bs h2
  obtain ⟨t2,a6,b6⟩:=Cg t2
  replace t0:=(t0.st g1).st h1
  refine Ej rfl (a:=f2.cost) t0 (vInt r5) (fun _=>rfl) rfl (by decide) (by decide) a6 b6 ⟨rfl,rfl⟩ fun o9 c4 d4 p9 c6 r1 e4=>?_
  rw [← t2] at e4 ⊢
  refine AF rfl rfl ?_
  replace w0:=w0.st r1
  refine Bf w0 rfl rfl rfl (BO rfl) (allOne rfl) fun d6 s1 w0=>?_
  replace w0:Lc 7 d6 c6 a0.1 64 [(.int .i64 j1),(.int .i64 0),(.slice c4 z5.length d4),(.slice a0.2.1.1 r0.1.length a0.2.1.2),(.slice a0.2.2.1 r0.2.length a0.2.2.2)]:=w0
  refine o_z ?_
  obtain rfl:=sm h2
  exact show Exists _ from ⟨_,(c4,d4),rfl,⟨rfl,rfl,rfl,rfl,rfl,trivial⟩,_,(((hB.st g1).st h1).st r1).st s1,(((h6.st g1).st h1).st r1).st s1,w0,e4.st s1,(((d1.st g1).st h1).st r1).st s1,(((q1.st g1).st h1).st r1).st s1,(((y0.st g1).st h1).st r1).st s1,(((e1.st g1).st h1).st r1).st s1⟩
 replace hB:=(hB.st b1).st z0
 replace h6:=(h6.st b1).st z0
 replace w0:=(w0.st b1).st z0
 replace d1:=(d1.st b1).st z0
 replace q1:=(q1.st b1).st z0
 rintro q9 r9 ⟨o2,a2,rfl,f4,s9,hB,h6,w0,t0,d1,q1,e1⟩
 replace hm:=Bo hm
 refine AP _ f4 ?_
 refine Al (Aj (AF rfl rfl (AE (hc:=Blk.cell (i:=3) (w0.1) rfl) rfl rfl ?_)))
 obtain ⟨e6,u2,hm⟩:=bs hm
 obtain ⟨f6,u2⟩:=DX u2
 refine Ng (Gj d1 f6) rfl rfl fun t9 u9 g6 b2 d1=>?_
 rw [u2] at d1
 refine o_z ?_
 refine Al (Aj ?_)
 replace w0:=w0.st b2
 refine BM (hl:=rfl) (hc:=(w0.1).cellsAt) rfl rfl ?_
 replace h6:=h6.st b2
 refine Bf h6 rfl rfl rfl (BO rfl) (allOne rfl) fun i6 j2 h6=>?_
 replace h6:Lc 3 i6 g6 g2 64 [(.int .i64 j1),(.int .i64 0),(.slice a2.1 o2.length a2.2),(.slice a0.2.1.1 r0.1.length a0.2.1.2),(.slice a0.2.2.1 r0.2.length a0.2.2.2)]:=h6
 refine o_z ?_
 refine AK ?_
 replace t0:=(t0.st b2).st j2
 obtain ⟨v9,k2,t0⟩:=t0.freeze
 replace d1:=(d1.st j2).st k2
 obtain ⟨w9,l2,d1⟩:=d1.freeze
 replace q1:=(((q1.st b2).st j2).st k2).st l2
 obtain ⟨x9,m2,q1⟩:=q1.freeze
 obtain rfl:=sm hm
 replace hB:=((((hB.st b2).st j2).st k2).st l2).st m2
 obtain ⟨O',hS',hz,hl⟩:=hE.leave (fun q=>if q=2 then i0 else 0) rfl hB
 replace h6:=((h6.st k2).st l2).st m2
 replace d1:=d1.st m2
 replace e1:=((((e1.st b2).st j2).st k2).st l2).st m2
 replace t0:=(t0.st l2).st m2
 exact ret1v rfl (Gu (cs:=[(.int .i64 j1),(.int .i64 0),(.slice a2.1 o2.length a2.2),(.slice a0.2.1.1 r0.1.length a0.2.1.2),(.slice a0.2.2.1 r0.2.length a0.2.2.2)]) rfl rfl h6.1.cellsAt) ⟨O',hS',(Ob.leave e1 hz (hl 2 (by decide) (by decide)) q2.2),(Vb.mono (Vb.ofAgg (cs:=[(.int .i64 j1),(.int .i64 0),(.slice a2.1 o2.length a2.2),(.slice a0.2.1.1 r0.1.length a0.2.1.2),(.slice a0.2.2.1 r0.2.length a0.2.2.2)]) (x:=(⟨j1,0,o2,e6,r0.2⟩:Sys)) rfl ⟨_,_,_,rfl,t0,d1,q1,c8,(show inI64 0 from by decide)⟩) hz)⟩
noncomputable def DQ (x0:List Edj) (x1:List Edj):Option Bool :=
  if (x0.length:Int)≠(x1.length:Int) then (some false) else (bnd (rng (ρ:=Bool) (fun (k18:Nat) (a19:Edj) (s16:Unit)=>bnd (x1[k18]?) fun a39=>if ¬ (a19.src=a39.src∧a19.label=a39.label∧a19.dst=a39.dst) then (some (.ret false)) else (some (.next ()))) x0 0 ()) fun res14=>fin res14 fun (s56:Unit)=>some true)
theorem HQ {w:World} {A:Nat→Prop} (hA:∀ k,A k→k < w.heap.size) {vx0:Value} {x0:List Edj} (b0:Vb w A vx0 x0) {vx1:Value} {x1:List Edj} (c0:Vb w A vx1 x1) {r:Bool} (hm:DQ x0 x1=some r) :
    Fn Tryz.prog 32 [vx0,vx1] w fun v w'=>Ext w w'∧Vb w' (upA A w w') v r:=by
 obtain ⟨O,hB,u0⟩:=enter hA
 replace b0:=b0.mono u0
 obtain ⟨A3,c4,rfl⟩:=b0.form
 replace c0:=c0.mono u0
 obtain ⟨A5,c6,rfl⟩:=c0.form
 refine AI Tryz.func32 rfl Tryz.ntmps32 rfl ?_
 unfold DQ at hm
 refine Al (Aj (Ar rfl rfl (o_z ?_)))
 refine Al (Al (Aj (Am rfl rfl (AN rfl rfl ?_))))
 have l8:x0.length≤9223372036854775807:=Nat.le_trans b0.len.2.1 b0.len.2.2
 have r7:inI64 (x0.length:Int):=rngNat l8
 refine Am rfl rfl (AN rfl rfl ?_)
 have v0:x1.length≤9223372036854775807:=Nat.le_trans c0.len.2.1 c0.len.2.2
 have r9:inI64 (x1.length:Int):=rngNat v0
 refine ES rfl rfl rfl (fun i0=>?_) fun i0=>?_
 ·
  replace hm:=ip hm i0
  refine o_z ?_
  refine Ah rfl (Al (Aj (Ar rfl rfl (o_z ?_))))
  refine AK ?_
  obtain rfl:=sm hm
  exact ret1v rfl (AB rfl) ⟨hB.ext,vBool⟩
 replace hm:=im hm i0
 refine o_z ?_
 refine Ae rfl (AJ (Al (Al (Aj (Am rfl rfl (AN rfl rfl ?_))))))
 have j0:x0.length≤9223372036854775807:=Nat.le_trans b0.len.2.1 b0.len.2.2
 have d1:inI64 (x0.length:Int):=rngNat j0
 refine Am rfl rfl (o_z ?_)
 obtain ⟨e0,k0,hm⟩:=bs hm
 refine AM (aft e0 (fun (g0:Unit) (h0:Unit)=>[]) (fun g0 h0 w'=>∃ O':Lab,Bs w A w' O')) ?_ ?_
 ·
  refine AQ (BV (σ:=Unit) (X:=Unit) (x0.length) k0 rfl j0 (fun (g0:Unit) (h0:Unit)=>[(0,(.slice A3 x0.length c4)),(1,(.slice A5 x1.length c6))]) _ (fun g0 h0 w'=>∃ O':Lab,Bs w A w' O'∧Vb w' (Fr 0 w' O') (.slice A3 x0.length c4) x0∧Vb w' (Fr 0 w' O') (.slice A5 x1.length c6) x1) _ () ⟨O,hB,b0,c0⟩ ⟨rfl,rfl,rfl,rfl,trivial⟩ (fun _ _=>⟨rfl,rfl⟩) (fun _ _=>trivial) (fun _ _ _ ⟨O',hB,b0,c0⟩=>⟨O',hB⟩) ⟨rfl,rfl,rfl⟩ ⟨rfl,rfl⟩ ?_)
  rintro w0 e1 g0 h0 y0 z0 f0 ⟨f1,hB,b0,c0⟩ a0 d0 l0
  have rk18:inI64 (w0:Int):=rngK f0 j0
  refine Al (Aj (Am rfl rfl (Ar rfl rfl (o_z ?_))))
  refine Al (Cc (·=y0) [(0,true),(1,true),(2,true),(3,true),(4,true),(5,true),(6,true),(7,true),(8,true)] (by kernel_rfl) rfl (by kernel_rfl) rfl ?_)
  refine AH rfl rfl rfl (AH rfl rfl rfl ?_)
  obtain ⟨g1,h1,a1,m0,n0,o0,rfl,i1,j1,k1⟩:=b0.elem' f0
  refine BJ (hA:=m0) (hj:=rfl) (hlt:=n0) rfl rfl rfl rfl ?_
  refine OK (hl:=rfl) (hc:=o0) rfl rfl rfl ?_
  refine AH rfl rfl rfl (AH rfl rfl rfl ?_)
  obtain ⟨l1,b1,a0⟩:=bs a0
  obtain ⟨m1,n1,c1,p0,q0,r0,rfl,o1,p1,q1⟩:=c0.elem' b1
  refine BJ (hA:=p0) (hj:=rfl) (hlt:=q0) rfl rfl rfl rfl ?_
  refine OK (hl:=rfl) (hc:=r0) rfl rfl rfl ?_
  refine Rf rfl rfl rfl rfl (fun s0=>?_) fun s0=>?_
  ·
   replace a0:=ip a0 s0
   refine h_z ?_
   refine Ah rfl (Al (Aj (Ar rfl rfl (o_z ?_))))
   refine AK ?_
   obtain rfl:=sm a0
   obtain rfl:=d0 _ rfl
   obtain rfl:=sm (Cy hm)
   exact ret1v rfl (AB rfl) ⟨hB.ext,vBool⟩
  replace a0:=im a0 s0
  refine h_z ?_
  refine Ae rfl (AJ ?_)
  obtain rfl:=sm a0
  exact show Exists _ from ⟨_,(),rfl,⟨rfl,rfl,rfl,rfl,trivial⟩,_,hB,b0,c0⟩
 rintro r1 s1 ⟨t1,u1,rfl,t0,v1,hB⟩
 replace hm:=Bo hm
 refine AP _ t0 ?_
 refine Al (Aj (Ar rfl rfl (o_z ?_)))
 refine AK ?_
 obtain rfl:=sm hm
 exact ret1v rfl (AB rfl) ⟨hB.ext,vBool⟩
noncomputable def Dy (x0:Tsk):Option Bool :=
  bnd (bnd (Ei x0) fun q28=>if q28=true then bnd (Dp) fun q35=>if q35=true then some false else some true else some true:Option Bool) fun y24=>if y24=true then (bnd (bnd (Dp) fun q51=>if q51=true then some true else some false:Option Bool) fun y47=>some y47) else (bnd (Ci x0 512) fun q62=>if q62.2.n≠0 then (some false) else (bnd (DB x0 512) fun q77=>bnd (Ey x0 q77.1) fun q90=>bnd q62.1 fun o99=>bnd (CO o99) fun q103=>bnd (bnd (CT o99) fun q138=>bnd (DQ q138 q90) fun q149=>if q149=true then bnd (DQ q103.edges q90) fun q156=>if q156=true then if q103.states≠(q77.1.length:Int) then (some true) else (if q103.init≠0 then (some true) else (if (q103.costs.length:Int)≠(x0.ops.length:Int) then (some true) else (if (q103.goals.length:Int)≠(q77.1.length:Int) then (some true) else (some false)))) else some true else some true:Option Bool) fun y134=>if y134=true then (some false) else (bnd (rng (ρ:=Bool) (fun (k188:Nat) (a189:Opr) (s186:Unit)=>bnd (q103.costs[k188]?) fun a199=>if a199≠a189.cost then (some (.ret false)) else (some (.next ()))) x0.ops 0 ()) fun res184=>fin res184 fun (s231:Unit)=>bnd (rng (ρ:=Bool) (fun (k239:Nat) (a240:List Int) (s237:Unit)=>bnd (bnd (q103.goals[k239]?) fun a254=>bnd (DF x0.goal a240) fun q274=>if q274=true then if a254=true then (some false) else (some true) else if a254=true then (some true) else (some false):Option Bool) fun y250=>if y250=true then (some (.ret false)) else (some (.next ()))) q77.1 0 ()) fun res235=>fin res235 fun (s292:Unit)=>some true)))
theorem Hz {w:World} {A:Nat→Prop} (hA:∀ k,A k→k < w.heap.size) {vx0:Value} {x0:Tsk} (e4:Vb w A vx0 x0) {r:Bool} (hm:Dy x0=some r) :
    Fn Tryz.prog 8 [vx0] w fun v w'=>Ext w w'∧Vb w' (upA A w w') v r:=by
 obtain ⟨O,hB,f6⟩:=enter hA
 replace e4:=e4.mono f6
 obtain ⟨w9,rfl,v3,v4,v5,v6,rfl,h7,s0,r0,o0⟩:=e4
 obtain ⟨A8,c9,rfl⟩:=h7.form
 obtain ⟨h1,i1,rfl⟩:=s0.form
 obtain ⟨j1,k1,rfl⟩:=r0.form
 obtain ⟨l1,m1,rfl⟩:=o0.form
 refine AI Tryz.func8 rfl Tryz.ntmps8 rfl ?_
 unfold Dy at hm
 refine Al (Aj (EJ 2 O rfl rfl fun q1 f4 g4 r1 q0=>?_))
 replace q0:Lc 2 f4 g4 q1 26 [(.slice A8 x0.vars.length c9),(.slice h1 x0.init.length i1),(.slice j1 x0.goal.length k1),(.slice l1 x0.ops.length m1)]:=q0
 refine Ar rfl rfl (o_z ?_)
 refine Al (Al ?_)
 obtain ⟨g6,u0,hm⟩:=bs hm
 refine AM (fun l' w'=>∃ (h6:Unit) (O':Lab),subs l' [(1,(.pointer (some ⟨q1,0,none⟩))),(17,(.bool g6))]∧Bs w A w' O'∧Lc 2 w' O' q1 26 [(.slice A8 x0.vars.length c9),(.slice h1 x0.init.length i1),(.slice j1 x0.goal.length k1),(.slice l1 x0.ops.length m1)]∧Vb w' (Fr 0 w' O') (.slice A8 x0.vars.length c9) x0.vars∧Vb w' (Fr 0 w' O') (.slice h1 x0.init.length i1) x0.init∧Vb w' (Fr 0 w' O') (.slice j1 x0.goal.length k1) x0.goal∧Vb w' (Fr 0 w' O') (.slice l1 x0.ops.length m1) x0.ops) ?_ ?_
 ·
  refine Aj (BM (hl:=rfl) (hc:=(q0.1).cellsAt) rfl rfl ?_)
  obtain ⟨s5,i6,u0⟩:=bs u0
  replace h7:=h7.st r1
  replace s0:=s0.st r1
  replace r0:=r0.st r1
  replace o0:=o0.st r1
  refine Ce (O:=g4) (A:=All f4) (R:=fun w' F v=>Vb w' F v s5) (Li (fun _ h=>h) (Vb.mono (F:=Fr 0 f4 g4) (Vb.ofAgg (cs:=[(.slice A8 x0.vars.length c9),(.slice h1 x0.init.length i1),(.slice j1 x0.goal.length k1),(.slice l1 x0.ops.length m1)]) (x:=x0) rfl ⟨_,_,_,_,rfl,h7,s0,r0,o0⟩) Fr.lt) i6) rfl rfl fun x9 j6 k6 g1 l6=>?_
  obtain rfl:=l6.bool
  cases s5
  case false =>
   replace u0:=iF u0
   refine CM rfl rfl (Am rfl rfl (Au rfl rfl rfl rfl (Au rfl rfl rfl rfl (Bk rfl rfl rfl (o_z ?_)))))
   obtain rfl:=sm u0
   exact ⟨(),_,⟨rfl,rfl,trivial⟩,(hB.st r1).st g1,q0.st g1,h7.st g1,s0.st g1,r0.st g1,o0.st g1⟩
  replace u0:=iT u0
  refine CL rfl rfl (Am rfl rfl (Aw rfl rfl ?_))
  obtain ⟨t5,m6,u0⟩:=bs u0
  refine Ce (O:=k6) (A:=All j6) (R:=fun w' F v=>Vb w' F v t5) (HP (fun _ h=>h)  m6) rfl rfl fun y9 z9 aA s1 n6=>?_
  obtain rfl:=n6.bool
  cases t5
  case false =>
   replace u0:=iF u0
   refine Aw rfl rfl (CM rfl rfl (Bp rfl rfl rfl (o_z ?_)))
   obtain rfl:=sm u0
   exact ⟨(),_,⟨rfl,rfl,trivial⟩,((hB.st r1).st g1).st s1,(q0.st g1).st s1,(h7.st g1).st s1,(s0.st g1).st s1,(r0.st g1).st s1,(o0.st g1).st s1⟩
  replace u0:=iT u0
  refine Aw rfl rfl (CL rfl rfl (Bp rfl rfl rfl (o_z ?_)))
  obtain rfl:=sm u0
  exact ⟨(),_,⟨rfl,rfl,trivial⟩,((hB.st r1).st g1).st s1,(q0.st g1).st s1,(h7.st g1).st s1,(s0.st g1).st s1,(r0.st g1).st s1,(o0.st g1).st s1⟩
 replace hB:=hB.st r1
 replace h7:=h7.st r1
 replace s0:=s0.st r1
 replace r0:=r0.st r1
 replace o0:=o0.st r1
 rintro bA o6 ⟨h6,u5,h4,hB,q0,h7,s0,r0,o0⟩
 refine AP _ h4 ?_
 refine CY rfl (fun i4=>?_) (fun i4=>?_)
 ·
  replace hm:=ip hm i4
  refine Al ?_
  obtain ⟨p6,n1,hm⟩:=bs hm
  refine AM (fun l' w'=>∃ (q6:Unit) (O':Lab),subs l' [(2,(.bool p6))]∧Bs w A w' O') ?_ ?_
  ·
   refine Aj ?_
   obtain ⟨w5,r6,n1⟩:=bs n1
   refine Ce (O:=u5) (A:=All o6) (R:=fun w' F v=>Vb w' F v w5) (HP (fun _ h=>h)  r6) rfl rfl fun cA dA eA x5 s6=>?_
   obtain rfl:=s6.bool
   cases w5
   case false =>
    replace n1:=iF n1
    refine Ar rfl rfl (o_z ?_)
    obtain rfl:=sm n1
    exact ⟨(),_,⟨rfl,trivial⟩,hB.st x5⟩
   replace n1:=iT n1
   refine Ar rfl rfl (o_z ?_)
   obtain rfl:=sm n1
   exact ⟨(),_,⟨rfl,trivial⟩,hB.st x5⟩
  rintro fA gA ⟨q6,iA,j4,hB⟩
  refine AP _ j4 ?_
  refine AK ?_
  obtain rfl:=sm hm
  exact ret1v rfl (AB rfl) ⟨hB.ext,vBool⟩
 replace hm:=im' hm i4
 refine AJ (Al (Aj (BM (hl:=rfl) (hc:=(q0.1).cellsAt) rfl rfl ?_)))
 obtain ⟨jA,t6,hm⟩:=bs hm
 refine BR (O:=u5) (Gb (Vb.ofAgg (cs:=[(.slice A8 x0.vars.length c9),(.slice h1 x0.init.length i1),(.slice j1 x0.goal.length k1),(.slice l1 x0.ops.length m1)]) (x:=x0) rfl ⟨_,_,_,_,rfl,h7,s0,r0,o0⟩) (show inI64 (512) from by decide) 3 (by decide) t6) rfl rfl fun kA lA u6 o1 w6=>?_
 obtain ⟨mA,nA,rfl,z2,x6⟩:=w6
 obtain ⟨oA,rfl,y6⟩:=Obo.ptrq z2
 obtain ⟨rfl,pA⟩:=x6.err
 refine Am rfl rfl (Bz rfl rfl rfl (Bz rfl rfl rfl (Ar rfl rfl (Ar rfl rfl (o_z ?_)))))
 refine Al (Al (Aj (Am rfl rfl (Fg rfl rfl (fun k4=>?_) fun k4=>?_))))
 ·
  replace hm:=ip hm k4
  refine o_z ?_
  refine Ah rfl (Al (Aj (Ar rfl rfl (o_z ?_))))
  refine AK ?_
  obtain rfl:=sm hm
  replace hB:=hB.st o1
  exact ret1v rfl (AB rfl) ⟨hB.ext,vBool⟩
 replace hm:=im hm k4
 refine o_z ?_
 refine Ae rfl (AJ (Al (Aj ?_)))
 replace q0:=q0.st o1
 refine BM (hl:=rfl) (hc:=(q0.1).cellsAt) rfl rfl ?_
 obtain ⟨y0,z6,hm⟩:=bs hm
 replace h7:=h7.st o1
 replace s0:=s0.st o1
 replace r0:=r0.st o1
 replace o0:=o0.st o1
 refine Fd (O:=u6) (R:=fun w' F v=>T2 w' F v y0) (Kj Fr.lt (Vb.ofAgg (cs:=[(.slice A8 x0.vars.length c9),(.slice h1 x0.init.length i1),(.slice j1 x0.goal.length k1),(.slice l1 x0.ops.length m1)]) (x:=x0) rfl ⟨_,_,_,_,rfl,h7,s0,r0,o0⟩) (show inI64 (512) from by decide) z6) rfl rfl fun qA rA a7 p1 b7=>?_
 obtain ⟨sA,tA,rfl,t0,c7⟩:=b7
 obtain ⟨v1,w1,rfl⟩:=t0.form
 obtain rfl:=c7.bool
 refine Am rfl rfl (Bz rfl rfl rfl (Bz rfl rfl rfl (Ar rfl rfl (Ar rfl rfl (o_z ?_)))))
 refine Al (Aj ?_)
 replace q0:=q0.st p1
 refine BM (hl:=rfl) (hc:=(q0.1).cellsAt) rfl rfl ?_
 refine Am rfl rfl ?_
 obtain ⟨d7,e7,hm⟩:=bs hm
 replace h7:=h7.st p1
 replace s0:=s0.st p1
 replace r0:=r0.st p1
 replace o0:=o0.st p1
 refine Fd (O:=a7) (R:=fun w' F v=>Vb w' F v d7) (KN Fr.lt (Vb.ofAgg (cs:=[(.slice A8 x0.vars.length c9),(.slice h1 x0.init.length i1),(.slice j1 x0.goal.length k1),(.slice l1 x0.ops.length m1)]) (x:=x0) rfl ⟨_,_,_,_,rfl,h7,s0,r0,o0⟩) t0 e7) rfl rfl fun uA vA f7 p0 h2=>?_
 obtain ⟨wA,xA,rfl⟩:=h2.form
 refine Ar rfl rfl (o_z ?_)
 refine Al (Aj (Am rfl rfl ?_))
 obtain ⟨yA,l4,hm⟩:=bs hm
 replace z2:=(z2.st p1).st p0
 rw [l4] at z2
 obtain ⟨g7,m4⟩:=Ob.ptr z2
 obtain rfl:=Mc m4
 obtain ⟨c0,n4,hm⟩:=bs hm
 refine BR (O:=f7) (GY z2 n4) rfl rfl fun i7 j7 o4 h0 p4=>?_
 obtain ⟨i2,q4⟩:=p4
 obtain ⟨y5,rfl,k7,l7,m7,rfl,k0,n0,l0,n7,o7⟩:=q4
 obtain ⟨z0,a1,rfl⟩:=k0.form
 obtain ⟨b1,c1,rfl⟩:=n0.form
 obtain ⟨d1,e1,rfl⟩:=l0.form
 refine Cq 4 o4 rfl fun f1 p7 a3 a0 j0=>?_
 refine Bf j0 rfl rfl rfl (BO rfl) (allOne rfl) fun r4 b0 j0=>?_
 replace j0:Lc 4 r4 a3 f1 64 [(.int .i64 c0.states),(.int .i64 c0.init),(.slice z0 c0.costs.length a1),(.slice b1 c0.edges.length c1),(.slice d1 c0.goals.length e1)]:=j0
 refine o_z ?_
 refine Al (Al ?_)
 obtain ⟨s4,f0,hm⟩:=bs hm
 refine AM (fun l' w'=>∃ (t4:Unit) (O':Lab),subs l' [(1,(.pointer (some ⟨q1,0,none⟩))),(5,(.slice v1 y0.1.length w1)),(8,(.pointer (some ⟨f1,0,none⟩))),(76,(.bool s4))]∧Bs w A w' O'∧Lc 2 w' O' q1 26 [(.slice A8 x0.vars.length c9),(.slice h1 x0.init.length i1),(.slice j1 x0.goal.length k1),(.slice l1 x0.ops.length m1)]∧Vb w' (Fr 0 w' O') (.slice A8 x0.vars.length c9) x0.vars∧Vb w' (Fr 0 w' O') (.slice h1 x0.init.length i1) x0.init∧Vb w' (Fr 0 w' O') (.slice j1 x0.goal.length k1) x0.goal∧Vb w' (Fr 0 w' O') (.slice l1 x0.ops.length m1) x0.ops∧Vb w' (Fr 0 w' O') (.slice v1 y0.1.length w1) y0.1∧Lc 4 w' O' f1 64 [(.int .i64 c0.states),(.int .i64 c0.init),(.slice z0 c0.costs.length a1),(.slice b1 c0.edges.length c1),(.slice d1 c0.goals.length e1)]∧Vb w' (Fr 0 w' O') (.slice z0 c0.costs.length a1) c0.costs∧Vb w' (Fr 0 w' O') (.slice b1 c0.edges.length c1) c0.edges∧Vb w' (Fr 0 w' O') (.slice d1 c0.goals.length e1) c0.goals) ?_ ?_
 ·
  refine Aj (Am rfl rfl ?_)
  obtain ⟨q7,u4,f0⟩:=bs f0
  replace i2:=(i2.st a0).st b0
  refine BR (O:=a3) (Hh i2 u4) rfl rfl fun r7 j2 k2 d0 w4=>?_
  obtain ⟨s7,b3⟩:=w4
  obtain ⟨t7,u7,rfl⟩:=b3.form
  refine Am rfl rfl ?_
  obtain ⟨c3,x4,f0⟩:=bs f0
  replace h2:=(((h2.st h0).st a0).st b0).st d0
  refine Ce (O:=k2) (A:=All j2) (R:=fun w' F v=>Vb w' F v c3) (HQ (fun _ h=>h) (Vb.mono (F:=Fr 0 j2 k2) b3 Fr.lt) (Vb.mono (F:=Fr 0 j2 k2) h2 Fr.lt) x4) rfl rfl fun v7 l2 m2 e0 y4=>?_
  obtain rfl:=y4.bool
  cases c3
  case false =>
   replace f0:=iF f0
   refine CM rfl rfl (Am rfl rfl (Au rfl rfl rfl rfl (Au rfl rfl rfl rfl (Au rfl rfl rfl rfl (Au rfl rfl rfl rfl (Au rfl rfl rfl rfl (Bk rfl rfl rfl (Am rfl rfl (Au rfl rfl rfl rfl (Au rfl rfl rfl rfl (Au rfl rfl rfl rfl (Au rfl rfl rfl rfl (Au rfl rfl rfl rfl (Bk rfl rfl rfl ?_))))))))))))))
   refine Am rfl rfl (Au rfl rfl rfl rfl (Au rfl rfl rfl rfl (Au rfl rfl rfl rfl (Bk rfl rfl rfl (Am rfl rfl (Au rfl rfl rfl rfl (Au rfl rfl rfl rfl (Au rfl rfl rfl rfl (Au rfl rfl rfl rfl (Au rfl rfl rfl rfl (Au rfl rfl rfl rfl (Au rfl rfl rfl rfl (Bk rfl rfl rfl (Am rfl rfl ?_))))))))))))))
   refine Au rfl rfl rfl rfl (Au rfl rfl rfl rfl (Au rfl rfl rfl rfl (Au rfl rfl rfl rfl (Au rfl rfl rfl rfl (Au rfl rfl rfl rfl (Bk rfl rfl rfl (o_z ?_)))))))
   obtain rfl:=sm f0
   exact ⟨(),_,⟨rfl,rfl,rfl,rfl,trivial⟩,(((((((hB.st o1).st p1).st p0).st h0).st a0).st b0).st d0).st e0,(((((q0.st p0).st h0).st a0).st b0).st d0).st e0,(((((h7.st p0).st h0).st a0).st b0).st d0).st e0,(((((s0.st p0).st h0).st a0).st b0).st d0).st e0,(((((r0.st p0).st h0).st a0).st b0).st d0).st e0,(((((o0.st p0).st h0).st a0).st b0).st d0).st e0,(((((t0.st p0).st h0).st a0).st b0).st d0).st e0,(j0.st d0).st e0,(((k0.st a0).st b0).st d0).st e0,(((n0.st a0).st b0).st d0).st e0,(((l0.st a0).st b0).st d0).st e0⟩
  replace f0:=iT f0
  refine CL rfl rfl (Am rfl rfl (Aw rfl rfl (AF rfl rfl (Aw rfl rfl ?_))))
  replace j0:=(j0.st d0).st e0
  refine AE (hc:=Blk.cell (i:=3) (j0.1) rfl) rfl rfl ?_
  refine Aw rfl rfl (Am rfl rfl (Aw rfl rfl ?_))
  obtain ⟨d3,z4,f0⟩:=bs f0
  replace h2:=h2.st e0
  replace n0:=(((n0.st a0).st b0).st d0).st e0
  refine Ce (O:=m2) (A:=All l2) (R:=fun w' F v=>Vb w' F v d3) (HQ (fun _ h=>h) (Vb.mono (F:=Fr 0 l2 m2) n0 Fr.lt) (Vb.mono (F:=Fr 0 l2 m2) h2 Fr.lt) z4) rfl rfl fun w7 x7 y7 g0 a5=>?_
  obtain rfl:=a5.bool
  cases d3
  case false =>
   replace f0:=iF f0
   refine Aw rfl rfl (CM rfl rfl (Bp rfl rfl rfl (Am rfl rfl (Au rfl rfl rfl rfl (Au rfl rfl rfl rfl (Au rfl rfl rfl rfl (Au rfl rfl rfl rfl (Au rfl rfl rfl rfl (Bk rfl rfl rfl (Am rfl rfl (Au rfl rfl rfl rfl (Au rfl rfl rfl rfl (Au rfl rfl rfl rfl (Bk rfl rfl rfl ?_))))))))))))))
   refine Am rfl rfl (Au rfl rfl rfl rfl (Au rfl rfl rfl rfl (Au rfl rfl rfl rfl (Au rfl rfl rfl rfl (Au rfl rfl rfl rfl (Au rfl rfl rfl rfl (Au rfl rfl rfl rfl (Bk rfl rfl rfl (Am rfl rfl (Au rfl rfl rfl rfl (Au rfl rfl rfl rfl (Au rfl rfl rfl rfl (Au rfl rfl rfl rfl (Au rfl rfl rfl rfl ?_))))))))))))))
   refine Au rfl rfl rfl rfl (Bk rfl rfl rfl (o_z ?_))
   obtain rfl:=sm f0
   exact ⟨(),_,⟨rfl,rfl,rfl,rfl,trivial⟩,((((((((hB.st o1).st p1).st p0).st h0).st a0).st b0).st d0).st e0).st g0,((((((q0.st p0).st h0).st a0).st b0).st d0).st e0).st g0,((((((h7.st p0).st h0).st a0).st b0).st d0).st e0).st g0,((((((s0.st p0).st h0).st a0).st b0).st d0).st e0).st g0,((((((r0.st p0).st h0).st a0).st b0).st d0).st e0).st g0,((((((o0.st p0).st h0).st a0).st b0).st d0).st e0).st g0,((((((t0.st p0).st h0).st a0).st b0).st d0).st e0).st g0,j0.st g0,((((k0.st a0).st b0).st d0).st e0).st g0,n0.st g0,((((l0.st a0).st b0).st d0).st e0).st g0⟩
  replace f0:=iT f0
  refine Aw rfl rfl (CL rfl rfl (Bp rfl rfl rfl (Am rfl rfl (Aw rfl rfl (AF rfl rfl (Aw rfl rfl ?_))))))
  replace j0:=j0.st g0
  refine AE (hc:=Blk.cell (i:=0) (j0.1) rfl) rfl rfl ?_
  refine Aw rfl rfl (Am rfl rfl (Aw rfl rfl (AN rfl rfl ?_)))
  replace t0:=((((((t0.st p0).st h0).st a0).st b0).st d0).st e0).st g0
  have b5:y0.1.length≤9223372036854775807:=Nat.le_trans t0.len.2.1 t0.len.2.2
  have z7:inI64 (y0.1.length:Int):=rngNat b5
  refine Aw rfl rfl (ES rfl rfl rfl (fun n2=>?_) fun n2=>?_)
  ·
   replace f0:=ip f0 n2
   refine Bp rfl rfl rfl (Am rfl rfl (Au rfl rfl rfl rfl (Au rfl rfl rfl rfl (Au rfl rfl rfl rfl (Bk rfl rfl rfl (Am rfl rfl (Au rfl rfl rfl rfl (Au rfl rfl rfl rfl (Au rfl rfl rfl rfl (Au rfl rfl rfl rfl (Au rfl rfl rfl rfl (Au rfl rfl rfl rfl (Au rfl rfl rfl rfl (Bk rfl rfl rfl ?_))))))))))))))
   refine Am rfl rfl (Au rfl rfl rfl rfl (Au rfl rfl rfl rfl (Au rfl rfl rfl rfl (Au rfl rfl rfl rfl (Au rfl rfl rfl rfl (Au rfl rfl rfl rfl (Bk rfl rfl rfl (o_z ?_))))))))
   obtain rfl:=sm f0
   exact ⟨(),_,⟨rfl,rfl,rfl,rfl,trivial⟩,((((((((hB.st o1).st p1).st p0).st h0).st a0).st b0).st d0).st e0).st g0,((((((q0.st p0).st h0).st a0).st b0).st d0).st e0).st g0,((((((h7.st p0).st h0).st a0).st b0).st d0).st e0).st g0,((((((s0.st p0).st h0).st a0).st b0).st d0).st e0).st g0,((((((r0.st p0).st h0).st a0).st b0).st d0).st e0).st g0,((((((o0.st p0).st h0).st a0).st b0).st d0).st e0).st g0,t0,j0,((((k0.st a0).st b0).st d0).st e0).st g0,n0.st g0,((((l0.st a0).st b0).st d0).st e0).st g0⟩
  replace f0:=im f0 n2
  refine Bp rfl rfl rfl (Am rfl rfl (Aw rfl rfl (AF rfl rfl (Aw rfl rfl (AE (hc:=Blk.cell (i:=1) (j0.1) rfl) rfl rfl ?_)))))
  refine Aw rfl rfl (ES rfl rfl rfl (fun o2=>?_) fun o2=>?_)
  ·
   replace f0:=ip f0 o2
   refine Bp rfl rfl rfl (Am rfl rfl (Au rfl rfl rfl rfl (Au rfl rfl rfl rfl (Au rfl rfl rfl rfl (Au rfl rfl rfl rfl (Au rfl rfl rfl rfl (Au rfl rfl rfl rfl (Au rfl rfl rfl rfl (Bk rfl rfl rfl (Am rfl rfl (Au rfl rfl rfl rfl (Au rfl rfl rfl rfl (Au rfl rfl rfl rfl (Au rfl rfl rfl rfl ?_))))))))))))))
   refine Au rfl rfl rfl rfl (Au rfl rfl rfl rfl (Bk rfl rfl rfl (o_z ?_)))
   obtain rfl:=sm f0
   exact ⟨(),_,⟨rfl,rfl,rfl,rfl,trivial⟩,((((((((hB.st o1).st p1).st p0).st h0).st a0).st b0).st d0).st e0).st g0,((((((q0.st p0).st h0).st a0).st b0).st d0).st e0).st g0,((((((h7.st p0).st h0).st a0).st b0).st d0).st e0).st g0,((((((s0.st p0).st h0).st a0).st b0).st d0).st e0).st g0,((((((r0.st p0).st h0).st a0).st b0).st d0).st e0).st g0,((((((o0.st p0).st h0).st a0).st b0).st d0).st e0).st g0,t0,j0,((((k0.st a0).st b0).st d0).st e0).st g0,n0.st g0,((((l0.st a0).st b0).st d0).st e0).st g0⟩
  replace f0:=im f0 o2
  refine Bp rfl rfl rfl (Am rfl rfl (Aw rfl rfl (AF rfl rfl (Aw rfl rfl (AE (hc:=Blk.cell (i:=2) (j0.1) rfl) rfl rfl ?_)))))
  refine Aw rfl rfl (AN rfl rfl ?_)
  replace k0:=((((k0.st a0).st b0).st d0).st e0).st g0
  have c5:c0.costs.length≤9223372036854775807:=Nat.le_trans k0.len.2.1 k0.len.2.2
  have a8:inI64 (c0.costs.length:Int):=rngNat c5
  refine Aw rfl rfl (AF rfl rfl (Aw rfl rfl ?_))
  replace q0:=((((((q0.st p0).st h0).st a0).st b0).st d0).st e0).st g0
  refine AE (hc:=Blk.cell (i:=3) (q0.1) rfl) rfl rfl ?_
  refine Aw rfl rfl (AN rfl rfl ?_)
  replace o0:=((((((o0.st p0).st h0).st a0).st b0).st d0).st e0).st g0
  have d5:x0.ops.length≤9223372036854775807:=Nat.le_trans o0.len.2.1 o0.len.2.2
  have b8:inI64 (x0.ops.length:Int):=rngNat d5
  refine Aw rfl rfl (ES rfl rfl rfl (fun p2=>?_) fun p2=>?_)
  ·
   replace f0:=ip f0 p2
   refine Bp rfl rfl rfl (Am rfl rfl (Au rfl rfl rfl rfl (Au rfl rfl rfl rfl (Au rfl rfl rfl rfl (Au rfl rfl rfl rfl (Au rfl rfl rfl rfl (Au rfl rfl rfl rfl (Bk rfl rfl rfl (o_z ?_)))))))))
   obtain rfl:=sm f0
   exact ⟨(),_,⟨rfl,rfl,rfl,rfl,trivial⟩,((((((((hB.st o1).st p1).st p0).st h0).st a0).st b0).st d0).st e0).st g0,q0,((((((h7.st p0).st h0).st a0).st b0).st d0).st e0).st g0,((((((s0.st p0).st h0).st a0).st b0).st d0).st e0).st g0,((((((r0.st p0).st h0).st a0).st b0).st d0).st e0).st g0,o0,t0,j0,k0,n0.st g0,((((l0.st a0).st b0).st d0).st e0).st g0⟩
  replace f0:=im f0 p2
  refine Bp rfl rfl rfl (Am rfl rfl (Aw rfl rfl (AF rfl rfl (Aw rfl rfl (AE (hc:=Blk.cell (i:=4) (j0.1) rfl) rfl rfl ?_)))))
  refine Aw rfl rfl (AN rfl rfl ?_)
  replace l0:=((((l0.st a0).st b0).st d0).st e0).st g0
  have e5:c0.goals.length≤9223372036854775807:=Nat.le_trans l0.len.2.1 l0.len.2.2
  have c8:inI64 (c0.goals.length:Int):=rngNat e5
  refine Aw rfl rfl (Am rfl rfl (Aw rfl rfl (AN rfl rfl ?_)))
  have f5:y0.1.length≤9223372036854775807:=Nat.le_trans t0.len.2.1 t0.len.2.2
  have d8:inI64 (y0.1.length:Int):=rngNat f5
  refine Aw rfl rfl (ES rfl rfl rfl (fun q2=>?_) fun q2=>?_)
  ·
   replace f0:=ip f0 q2
   refine Bp rfl rfl rfl (o_z ?_)
   obtain rfl:=sm f0
   exact ⟨(),_,⟨rfl,rfl,rfl,rfl,trivial⟩,((((((((hB.st o1).st p1).st p0).st h0).st a0).st b0).st d0).st e0).st g0,q0,((((((h7.st p0).st h0).st a0).st b0).st d0).st e0).st g0,((((((s0.st p0).st h0).st a0).st b0).st d0).st e0).st g0,((((((r0.st p0).st h0).st a0).st b0).st d0).st e0).st g0,o0,t0,j0,k0,n0.st g0,l0⟩
  replace f0:=im f0 q2
  refine Bp rfl rfl rfl (o_z ?_)
  obtain rfl:=sm f0
  exact ⟨(),_,⟨rfl,rfl,rfl,rfl,trivial⟩,((((((((hB.st o1).st p1).st p0).st h0).st a0).st b0).st d0).st e0).st g0,q0,((((((h7.st p0).st h0).st a0).st b0).st d0).st e0).st g0,((((((s0.st p0).st h0).st a0).st b0).st d0).st e0).st g0,((((((r0.st p0).st h0).st a0).st b0).st d0).st e0).st g0,o0,t0,j0,k0,n0.st g0,l0⟩
 replace hB:=(((((hB.st o1).st p1).st p0).st h0).st a0).st b0
 replace h7:=(((h7.st p0).st h0).st a0).st b0
 replace s0:=(((s0.st p0).st h0).st a0).st b0
 replace r0:=(((r0.st p0).st h0).st a0).st b0
 replace o0:=(((o0.st p0).st h0).st a0).st b0
 replace q0:=(((q0.st p0).st h0).st a0).st b0
 replace t0:=(((t0.st p0).st h0).st a0).st b0
 replace k0:=(k0.st a0).st b0
 replace n0:=(n0.st a0).st b0
 replace l0:=(l0.st a0).st b0
 rintro e8 f8 ⟨t4,g5,e3,hB,q0,h7,s0,r0,o0,t0,j0,k0,n0,l0⟩
 refine AP _ e3 ?_
 refine CY rfl (fun r2=>?_) (fun r2=>?_)
 ·
  replace hm:=ip hm r2
  refine Al (Aj (Ar rfl rfl (o_z ?_)))
  refine AK ?_
  obtain rfl:=sm hm
  exact ret1v rfl (AB rfl) ⟨hB.ext,vBool⟩
 replace hm:=im' hm r2
 refine AJ (Al (Al (Aj (AF rfl rfl (AE (hc:=Blk.cell (i:=3) (q0.1) rfl) rfl rfl ?_)))))
 refine AN rfl rfl ?_
 have s2:x0.ops.length≤9223372036854775807:=Nat.le_trans o0.len.2.1 o0.len.2.2
 have g8:inI64 (x0.ops.length:Int):=rngNat s2
 refine Am rfl rfl (o_z ?_)
 obtain ⟨t2,f3,hm⟩:=bs hm
 refine AM (aft t2 (fun (x1:Unit) (y1:Unit)=>[(1,(.pointer (some ⟨q1,0,none⟩))),(5,(.slice v1 y0.1.length w1)),(8,(.pointer (some ⟨f1,0,none⟩)))]) (fun x1 y1 w'=>∃ O':Lab,Bs w A w' O'∧Lc 2 w' O' q1 26 [(.slice A8 x0.vars.length c9),(.slice h1 x0.init.length i1),(.slice j1 x0.goal.length k1),(.slice l1 x0.ops.length m1)]∧Vb w' (Fr 0 w' O') (.slice A8 x0.vars.length c9) x0.vars∧Vb w' (Fr 0 w' O') (.slice h1 x0.init.length i1) x0.init∧Vb w' (Fr 0 w' O') (.slice j1 x0.goal.length k1) x0.goal∧Vb w' (Fr 0 w' O') (.slice l1 x0.ops.length m1) x0.ops∧Vb w' (Fr 0 w' O') (.slice v1 y0.1.length w1) y0.1∧Lc 4 w' O' f1 64 [(.int .i64 c0.states),(.int .i64 c0.init),(.slice z0 c0.costs.length a1),(.slice b1 c0.edges.length c1),(.slice d1 c0.goals.length e1)]∧Vb w' (Fr 0 w' O') (.slice z0 c0.costs.length a1) c0.costs∧Vb w' (Fr 0 w' O') (.slice b1 c0.edges.length c1) c0.edges∧Vb w' (Fr 0 w' O') (.slice d1 c0.goals.length e1) c0.goals)) ?_ ?_
 ·
  refine AQ (BV (σ:=Unit) (X:=Unit) (x0.ops.length) f3 rfl s2 (fun (x1:Unit) (y1:Unit)=>[(1,(.pointer (some ⟨q1,0,none⟩))),(5,(.slice v1 y0.1.length w1)),(8,(.pointer (some ⟨f1,0,none⟩)))]) _ (fun x1 y1 w'=>∃ O':Lab,Bs w A w' O'∧Lc 2 w' O' q1 26 [(.slice A8 x0.vars.length c9),(.slice h1 x0.init.length i1),(.slice j1 x0.goal.length k1),(.slice l1 x0.ops.length m1)]∧Vb w' (Fr 0 w' O') (.slice A8 x0.vars.length c9) x0.vars∧Vb w' (Fr 0 w' O') (.slice h1 x0.init.length i1) x0.init∧Vb w' (Fr 0 w' O') (.slice j1 x0.goal.length k1) x0.goal∧Vb w' (Fr 0 w' O') (.slice l1 x0.ops.length m1) x0.ops∧Vb w' (Fr 0 w' O') (.slice v1 y0.1.length w1) y0.1∧Lc 4 w' O' f1 64 [(.int .i64 c0.states),(.int .i64 c0.init),(.slice z0 c0.costs.length a1),(.slice b1 c0.edges.length c1),(.slice d1 c0.goals.length e1)]∧Vb w' (Fr 0 w' O') (.slice z0 c0.costs.length a1) c0.costs∧Vb w' (Fr 0 w' O') (.slice b1 c0.edges.length c1) c0.edges∧Vb w' (Fr 0 w' O') (.slice d1 c0.goals.length e1) c0.goals) _ () ⟨g5,hB,q0,h7,s0,r0,o0,t0,j0,k0,n0,l0⟩ ⟨rfl,rfl,rfl,rfl,rfl,trivial⟩ (fun _ _=>⟨rfl,rfl⟩) (fun _ _=>⟨rfl,rfl,rfl,trivial⟩) (fun _ _ _ ⟨O',hB,q0,h7,s0,r0,o0,t0,j0,k0,n0,l0⟩=>⟨O',hB,q0,h7,s0,r0,o0,t0,j0,k0,n0,l0⟩) ⟨rfl,rfl,rfl⟩ ⟨rfl,rfl⟩ ?_)
  rintro h5 h8 x1 y1 i5 z5 f2 ⟨i8,hB,q0,h7,s0,r0,o0,t0,j0,k0,n0,l0⟩ v0 z1 c4
  have rk188:inI64 (h5:Int):=rngK f2 s2
  refine Al (Aj (Am rfl rfl (Ar rfl rfl (o_z ?_))))
  refine Al (Cc (·=i5) [(0,true),(1,true),(2,true),(3,true),(4,true),(5,true),(6,true),(7,true),(8,true),(9,true),(10,true),(11,true)] (by kernel_rfl) rfl (by kernel_rfl) rfl ?_)
  refine AR rfl rfl rfl (BZ (hc:=Blk.cell (i:=2) (j0.1) rfl) rfl rfl rfl ?_)
  refine AH rfl rfl rfl ?_
  obtain ⟨j8,j5,v0⟩:=bs v0
  obtain ⟨k8,l8,a6,g3,h3,i3,rfl,m8⟩:=k0.elem' j5
  refine BJ (hA:=g3) (hj:=rfl) (hlt:=h3) rfl rfl rfl rfl ?_
  refine BZ (hc:=cat0 i3) rfl rfl rfl ?_
  refine AR rfl rfl rfl (BZ (hc:=Blk.cell (i:=3) (q0.1) rfl) rfl rfl rfl ?_)
  refine AH rfl rfl rfl ?_
  obtain ⟨n8,o8,b6,j3,k3,l3,p8,q8,rfl,k5,l5,r8,s8⟩:=o0.elem' f2
  obtain ⟨t8,u8,rfl⟩:=k5.form
  obtain ⟨v8,w8,rfl⟩:=l5.form
  refine BJ (hA:=j3) (hj:=rfl) (hlt:=k3) rfl rfl rfl rfl ?_
  refine AR rfl rfl rfl (BZ (hc:=cat1 l3) rfl rfl rfl ?_)
  refine Mz rfl rfl rfl rfl (fun u2=>?_) fun u2=>?_
  ·
   replace v0:=ip v0 u2
   refine h_z ?_
   refine Ah rfl (Al (Aj (Ar rfl rfl (o_z ?_))))
   refine AK ?_
   obtain rfl:=sm v0
   obtain rfl:=z1 _ rfl
   obtain rfl:=sm (Cy hm)
   exact ret1v rfl (AB rfl) ⟨hB.ext,vBool⟩
  replace v0:=im v0 u2
  refine h_z ?_
  refine Ae rfl (AJ ?_)
  obtain rfl:=sm v0
  exact show Exists _ from ⟨_,(),rfl,⟨rfl,rfl,rfl,rfl,rfl,trivial⟩,_,hB,q0,h7,s0,r0,o0,t0,j0,k0,n0,l0⟩
 rintro x8 y8 ⟨z8,a9,rfl,m3,m5,hB,q0,h7,s0,r0,o0,t0,j0,k0,n0,l0⟩
 replace hm:=Bo hm
 refine AP _ m3 ?_
 refine Al (Al (Aj (Am rfl rfl (AN rfl rfl ?_))))
 have v2:y0.1.length≤9223372036854775807:=Nat.le_trans t0.len.2.1 t0.len.2.2
 have b9:inI64 (y0.1.length:Int):=rngNat v2
 refine Am rfl rfl (o_z ?_)
 obtain ⟨w2,n3,hm⟩:=bs hm
 refine AM (aft w2 (fun (a2:Unit) (b2:Unit)=>[]) (fun a2 b2 w'=>∃ O':Lab,Bs w A w' O')) ?_ ?_
 ·
  refine AQ (BV (σ:=Unit) (X:=Unit) (y0.1.length) n3 rfl v2 (fun (a2:Unit) (b2:Unit)=>[(1,(.pointer (some ⟨q1,0,none⟩))),(5,(.slice v1 y0.1.length w1)),(8,(.pointer (some ⟨f1,0,none⟩)))]) _ (fun a2 b2 w'=>∃ O':Lab,Bs w A w' O'∧Lc 2 w' O' q1 26 [(.slice A8 x0.vars.length c9),(.slice h1 x0.init.length i1),(.slice j1 x0.goal.length k1),(.slice l1 x0.ops.length m1)]∧Vb w' (Fr 0 w' O') (.slice A8 x0.vars.length c9) x0.vars∧Vb w' (Fr 0 w' O') (.slice h1 x0.init.length i1) x0.init∧Vb w' (Fr 0 w' O') (.slice j1 x0.goal.length k1) x0.goal∧Vb w' (Fr 0 w' O') (.slice l1 x0.ops.length m1) x0.ops∧Vb w' (Fr 0 w' O') (.slice v1 y0.1.length w1) y0.1∧Lc 4 w' O' f1 64 [(.int .i64 c0.states),(.int .i64 c0.init),(.slice z0 c0.costs.length a1),(.slice b1 c0.edges.length c1),(.slice d1 c0.goals.length e1)]∧Vb w' (Fr 0 w' O') (.slice z0 c0.costs.length a1) c0.costs∧Vb w' (Fr 0 w' O') (.slice b1 c0.edges.length c1) c0.edges∧Vb w' (Fr 0 w' O') (.slice d1 c0.goals.length e1) c0.goals) _ () ⟨m5,hB,q0,h7,s0,r0,o0,t0,j0,k0,n0,l0⟩ ⟨rfl,rfl,rfl,rfl,rfl,trivial⟩ (fun _ _=>⟨rfl,rfl⟩) (fun _ _=>trivial) (fun _ _ _ ⟨O',hB,q0,h7,s0,r0,o0,t0,j0,k0,n0,l0⟩=>⟨O',hB⟩) ⟨rfl,rfl,rfl⟩ ⟨rfl,rfl⟩ ?_)
  rintro o3 d9 a2 b2 x2 c6 g2 ⟨c2,hB,q0,h7,s0,r0,o0,t0,j0,k0,n0,l0⟩ w0 d2 d4
  have rk239:inI64 (o3:Int):=rngK g2 v2
  refine Al (Aj (Am rfl rfl (Ar rfl rfl (o_z ?_))))
  refine Al ?_
  obtain ⟨n5,m0,w0⟩:=bs w0
  refine AM (fun l' w'=>∃ (o5:Unit) (O':Lab),subs l' [(1,(.pointer (some ⟨q1,0,none⟩))),(5,(.slice v1 y0.1.length w1)),(8,(.pointer (some ⟨f1,0,none⟩))),(97,(.int .i64 (y0.1.length:Int))),(98,(.int .i64 (o3:Int))),(113,(.bool n5))]∧Bs w A w' O'∧Lc 2 w' O' q1 26 [(.slice A8 x0.vars.length c9),(.slice h1 x0.init.length i1),(.slice j1 x0.goal.length k1),(.slice l1 x0.ops.length m1)]∧Vb w' (Fr 0 w' O') (.slice A8 x0.vars.length c9) x0.vars∧Vb w' (Fr 0 w' O') (.slice h1 x0.init.length i1) x0.init∧Vb w' (Fr 0 w' O') (.slice j1 x0.goal.length k1) x0.goal∧Vb w' (Fr 0 w' O') (.slice l1 x0.ops.length m1) x0.ops∧Vb w' (Fr 0 w' O') (.slice v1 y0.1.length w1) y0.1∧Lc 4 w' O' f1 64 [(.int .i64 c0.states),(.int .i64 c0.init),(.slice z0 c0.costs.length a1),(.slice b1 c0.edges.length c1),(.slice d1 c0.goals.length e1)]∧Vb w' (Fr 0 w' O') (.slice z0 c0.costs.length a1) c0.costs∧Vb w' (Fr 0 w' O') (.slice b1 c0.edges.length c1) c0.edges∧Vb w' (Fr 0 w' O') (.slice d1 c0.goals.length e1) c0.goals) ?_ ?_
  ·
   refine Bt [] c2 ?_
   refine AT (fuel:=2) [] [(0,true),(1,true),(2,true),(3,true),(4,true),(5,true),(6,true),(7,true),(8,true),(9,true),(10,true)] (by kernel_rfl) rfl ?_
   refine AR rfl rfl rfl (AS (hc:=fun w' ⟨O',hq⟩=>Blk.cell (i:=4) ((j0.st hq (by decide)).1) rfl) rfl rfl rfl ?_)
   refine AH rfl rfl rfl ?_
   obtain ⟨p3,p5,m0⟩:=bs m0
   obtain ⟨e9,f9,d6,q3,r3,s3,t3,rfl⟩:=l0.elem p5
   refine BJ (hA:=q3) (hj:=rfl) (hlt:=s3) rfl rfl rfl rfl ?_
   refine AS (hc:=fun w' ⟨O',hq⟩=>cat0 (AZ (hq.agree (i:=0) (by decide)) r3 t3)) rfl rfl rfl ?_
   refine AR rfl rfl rfl (AS (hc:=fun w' ⟨O',hq⟩=>Blk.cell (i:=2) ((q0.st hq (by decide)).1) rfl) rfl rfl rfl ?_)
   refine AH rfl rfl rfl (AH rfl rfl rfl ?_)
   obtain ⟨g9,h9,e6,u3,w3,x3,y3,i9,rfl,e2⟩:=t0.elem g2
   replace e2:=Vb.of_slice e2
   obtain ⟨j9,k9,rfl⟩:=e2.form
   refine BJ (hA:=u3) (hj:=rfl) (hlt:=x3) rfl rfl rfl rfl ?_
   refine AS (hc:=fun w' ⟨O',hq⟩=>cat0 (AZ (hq.agree (i:=0) (by decide)) w3 y3)) rfl rfl rfl ?_
   refine AG ?_
   refine AV (i:=11) (by kernel_rfl) rfl ?_
   obtain ⟨z3,q5,m0⟩:=bs m0
   refine Ce (O:=c2) (A:=All x2) (R:=fun w' F v=>Vb w' F v z3) (GA (fun _ h=>h) (Vb.mono (F:=Fr 0 x2 c2) r0 Fr.lt) (Vb.mono (F:=Fr 0 x2 c2) e2 Fr.lt) q5) rfl rfl fun l9 m9 n9 i0 r5=>?_
   obtain rfl:=r5.bool
   have hZ:=i0.lst [] (fun _ h=>h.elim)
   cases z3
   case false =>
    replace m0:=iF m0
    refine Bg [] hZ (by kernel_rfl) ?_
    refine AT (fuel:=0) [] [(12,true)] (by kernel_rfl) rfl ?_
    rcases Bool.eq_false_or_eq_true p3 with t1|t1
    ·
     try rw [t1]
     replace m0:=ip m0 t1
     refine MI rfl rfl rfl rfl (AG ?_)
     refine BC (by kernel_rfl) ?_
     obtain rfl:=sm m0
     exact ⟨(),_,⟨rfl,rfl,rfl,rfl,rfl,rfl,trivial⟩,hB.st i0,q0.st i0,h7.st i0,s0.st i0,r0.st i0,o0.st i0,t0.st i0,j0.st i0,k0.st i0,n0.st i0,l0.st i0⟩
    try rw [t1]
    replace m0:=im' m0 t1
    refine MI rfl rfl rfl rfl (AG ?_)
    refine BC (by kernel_rfl) ?_
    obtain rfl:=sm m0
    exact ⟨(),_,⟨rfl,rfl,rfl,rfl,rfl,rfl,trivial⟩,hB.st i0,q0.st i0,h7.st i0,s0.st i0,r0.st i0,o0.st i0,t0.st i0,j0.st i0,k0.st i0,n0.st i0,l0.st i0⟩
   replace m0:=iT m0
   refine Bg [] hZ (by kernel_rfl) ?_
   refine AT (fuel:=0) [] [(12,true)] (by kernel_rfl) rfl ?_
   rcases Bool.eq_false_or_eq_true p3 with u1|u1
   ·
    try rw [u1]
    replace m0:=ip m0 u1
    refine MI rfl rfl rfl rfl (AG ?_)
    refine BC (by kernel_rfl) ?_
    obtain rfl:=sm m0
    exact ⟨(),_,⟨rfl,rfl,rfl,rfl,rfl,rfl,trivial⟩,hB.st i0,q0.st i0,h7.st i0,s0.st i0,r0.st i0,o0.st i0,t0.st i0,j0.st i0,k0.st i0,n0.st i0,l0.st i0⟩
   try rw [u1]
   replace m0:=im' m0 u1
   refine MI rfl rfl rfl rfl (AG ?_)
   refine BC (by kernel_rfl) ?_
   obtain rfl:=sm m0
   exact ⟨(),_,⟨rfl,rfl,rfl,rfl,rfl,rfl,trivial⟩,hB.st i0,q0.st i0,h7.st i0,s0.st i0,r0.st i0,o0.st i0,t0.st i0,j0.st i0,k0.st i0,n0.st i0,l0.st i0⟩
  rintro o9 p9 ⟨o5,q9,a4,hB,q0,h7,s0,r0,o0,t0,j0,k0,n0,l0⟩
  refine AP _ a4 ?_
  refine CY rfl (fun y2=>?_) (fun y2=>?_)
  ·
   replace w0:=ip w0 y2
   refine Al (Aj (Ar rfl rfl (o_z ?_)))
   refine AK ?_
   obtain rfl:=sm w0
   obtain rfl:=d2 _ rfl
   obtain rfl:=sm (Cy hm)
   exact ret1v rfl (AB rfl) ⟨hB.ext,vBool⟩
  replace w0:=im' w0 y2
  refine AJ ?_
  obtain rfl:=sm w0
  exact show Exists _ from ⟨_,(),rfl,⟨rfl,rfl,rfl,rfl,rfl,trivial⟩,_,hB,q0,h7,s0,r0,o0,t0,j0,k0,n0,l0⟩
 rintro r9 s9 ⟨t9,u9,rfl,b4,v9,hB⟩
 replace hm:=Bo hm
 refine AP _ b4 ?_
 refine Al (Aj (Ar rfl rfl (o_z ?_)))
 refine AK ?_
 obtain rfl:=sm hm
 exact ret1v rfl (AB rfl) ⟨hB.ext,vBool⟩
end
section
section
variable {α σ ρ β : Type}
theorem Pq {f:σ→Option (Ctl σ ρ)} (I:σ→Prop) (B:σ→Prop) (R:ρ→Prop) (μ:σ→Nat) (h:∀ s,I s→(∃ s',f s=some (.next s')∧I s'∧μ s' < μ s)∨(∃ s',f s=some (.brk s')∧B s')∨∃ r,f s=some (.ret r)∧R r) :
    ∀ s,I s→(∃ s',lop f s=some (.done s')∧B s')∨∃ r,lop f s=some (.ret r)∧R r:=by
  have key:∀ (n:Nat) s,I s→μ s < n→(∃ s',lop f s=some (.done s')∧B s')∨∃ r,lop f s=some (.ret r)∧R r:=by
    intro n
    induction n with
    | zero=>intro s _ hn;omega
    | succ n ih =>
      intro s hI hn
      rw [Gy]
      rcases h s hI with ⟨s',h1,h2,h3⟩|⟨s',h1,h2⟩|⟨r,h1,h2⟩
      · rw [h1];exact ih s' h2 (by omega)
      · rw [h1];exact .inl ⟨s',rfl,h2⟩
      · rw [h1];exact .inr ⟨r,rfl,h2⟩
  exact fun s hI=>key (μ s + 1) s hI (by omega)
theorem Lo {f:σ→Option (Ctl σ ρ)} {s₀:σ} {k:Fin σ ρ→Option β} {P:β→Prop} (I:σ→Prop) (B:σ→Prop) (R:ρ→Prop) (μ:σ→Nat) (h0:I s₀)
    (h:∀ s,I s→(∃ s',f s=some (.next s')∧I s'∧μ s' < μ s)∨(∃ s',f s=some (.brk s')∧B s')∨∃ r,f s=some (.ret r)∧R r)
    (hb:∀ s,B s→∃ r,k (.done s)=some r∧P r) (hr:∀ q,R q→∃ r,k (.ret q)=some r∧P r):∃ r,bnd (lop f s₀) k=some r∧P r:=by
  rcases Pq I B R μ h s₀ h0 with ⟨s,h1,h2⟩|⟨q,h1,h2⟩
  · rw [h1,At];exact hb s h2
  · rw [h1,At];exact hr q h2
theorem Hj {f:Nat→α→σ→Option (Ctl σ ρ)} {xs:List α} {s₀:σ} {k:Fin σ ρ→Option β} {P:β→Prop} (I:Nat→σ→Prop) (R:ρ→Prop) (h0:I 0 s₀)
    (h:∀ i x s,xs[i]?=some x→I i s→(∃ s',f i x s=some (.next s')∧I (i + 1) s')∨∃ q,f i x s=some (.ret q)∧R q)
    (hb:∀ s,I xs.length s→∃ r,k (.done s)=some r∧P r) (hr:∀ q,R q→∃ r,k (.ret q)=some r∧P r):∃ r,bnd (rng f xs 0 s₀) k=some r∧P r:=by
  have key:∀ (ys:List α) (j:Nat) (s:σ),(∀ i,ys[i]?=xs[j + i]?)→j + ys.length=xs.length→I j s→∃ r,bnd (rng f ys j s) k=some r∧P r:=by
    intro ys
    induction ys with
    | nil=>intro j s _ hl hI;exact hb s (by simp at hl;rw [← hl];exact hI)
    | cons y ys ih =>
      intro j s hg hl hI
      have hy:xs[j]?=some y:=by have:=hg 0;simpa using this.symm
      simp only [rng]
      rcases h j y s hy hI with ⟨s',h1,h2⟩|⟨q,h1,h2⟩
      · rw [h1]
        exact ih (j + 1) s' (fun i=>by have:=hg (i + 1);rw [show j + 1 + i=j + (i + 1) from by omega,← this];simp) (by simp at hl;omega) h2
      · rw [h1,At];exact hr q h2
  exact key xs 0 s₀ (fun i=>by rw [Nat.zero_add]) (by omega) h0
theorem Mj {f:Nat→α→σ→Option (Ctl σ ρ)} {xs:List α} {s₀:σ} {k:Fin σ ρ→Option β} {r:Option β} (I:Nat→σ→Prop) (h0:I 0 s₀)
    (h:∀ i x s,xs[i]?=some x→I i s→∃ s',f i x s=some (.next s')∧I (i + 1) s') (hb:∀ s,I xs.length s→k (.done s)=r):bnd (rng f xs 0 s₀) k=r:=by
  obtain ⟨s,h1,h2⟩:=Hg I h0 h
  rw [h1,At]
  exact hb s h2
end
end
section
open Go Go.RowKit
def Inf:Int:=1125899906842624
theorem HA {α:Type} {l:List α} {k:Nat} {x y:α} (h:l[k]?=some x):y∈l.take (k + 1)↔y∈l.take k∨y=x:=by
  rw [List.take_add_one,h,List.mem_append];simp
end
section
open Go Go.RowKit
theorem Ix {α:Type} {l:List α} {m i:Nat} {x:α} (h:(l.take m)[i]?=some x):l[i]?=some x:=by
  by_cases hi:i < m
  · rwa [List.getElem?_take_of_lt hi] at h
  · rw [List.getElem?_take_eq_none (by omega)] at h;cases h
def bfr (x y:QEn):Prop:=x.key < y.key∨(x.key=y.key∧(x.tie < y.tie∨(x.tie=y.tie∧x.number < y.number)))
instance (x y:QEn):Decidable (bfr x y):=by unfold bfr;infer_instance
def nb (x y:QEn):Prop:=¬ bfr x y
theorem HB {x y z:QEn} (h1:nb x y) (h2:nb y z):nb x z:=by unfold nb bfr at *;omega
theorem KU {x y:QEn} (h:bfr x y):nb y x:=by unfold nb bfr at *;omega
theorem JW (x:QEn):nb x x:=by unfold nb bfr;omega
def HeapOk (l:List QEn):Prop:=∀ (j:Nat) x y,0 < j→l[j]?=some x→l[(j - 1) / 2]?=some y→nb x y
def Over (l:List QEn) (i:Nat):Prop:=∀ (j:Nat) x y,0 < i→0 < j→(j - 1) / 2=i→l[j]?=some x→l[(i - 1) / 2]?=some y→nb x y
def UpI (l:List QEn) (i:Nat):Prop:=(∀ (j:Nat) x y,0 < j→j≠i→l[j]?=some x→l[(j - 1) / 2]?=some y→nb x y)∧Over l i
def DownI (l:List QEn) (i:Nat):Prop:=(∀ (j:Nat) x y,0 < j→(j - 1) / 2≠i→l[j]?=some x→l[(j - 1) / 2]?=some y→nb x y)∧Over l i
theorem Hk {l:List QEn} {i j:Nat} {a b:QEn} (hi:l[i]?=some a) (hj:l[j]?=some b) (hne:i≠j) (k:Nat):((l.set i b).set j a)[k]?=if k=j then some a else if k=i then some b else l[k]?:=by
  by_cases h1:k=j
  · subst h1;rw [if_pos rfl,List.getElem?_set_self (by simpa using AC hj)]
  · rw [if_neg h1,List.getElem?_set_ne (by omega)]
    by_cases h2:k=i
    · subst h2;rw [if_pos rfl,List.getElem?_set_self (AC hi)]
    · rw [if_neg h2,List.getElem?_set_ne (by omega)]
theorem Lp {l:List QEn} {i j:Nat} {a b:QEn} (hi:l[i]?=some a) (hj:l[j]?=some b):((l.set i b).set j a).Perm l:=by
  have h1:=AC hi
  have h2:=AC hj
  have e1:l[i]=a:=by rw [List.getElem?_eq_getElem h1] at hi;exact Option.some.inj hi
  have e2:l[j]=b:=by rw [List.getElem?_eq_getElem h2] at hj;exact Option.some.inj hj
  rw [← e1,← e2]
  exact List.set_set_perm h1 h2
theorem UpI.step {l:List QEn} {i:Nat} {a b:QEn} (h:UpI l i) (h0:0 < i) (hi:l[i]?=some a) (hj:l[(i - 1) / 2]?=some b) (hb:bfr a b):UpI ((l.set i b).set ((i - 1) / 2) a) ((i - 1) / 2):=by
  have hne:i≠(i - 1) / 2:=by omega
  constructor
  · intro j x y hj0 hjp hx hy
    rw [Hk hi hj hne,if_neg hjp] at hx
    rw [Hk hi hj hne] at hy
    by_cases e1:j=i
    · subst e1
      rw [if_pos rfl] at hx hy
      obtain rfl:=Option.some.inj hx
      obtain rfl:=Option.some.inj hy
      exact KU hb
    · rw [if_neg e1] at hx
      by_cases e2:(j - 1) / 2=(i - 1) / 2
      · rw [if_pos e2] at hy
        obtain rfl:=Option.some.inj hy
        have:=h.1 j x b hj0 e1 hx (by rw [e2];exact hj)
        exact HB this (KU hb)
      · rw [if_neg e2] at hy
        by_cases e3:(j - 1) / 2=i
        · rw [if_pos e3] at hy
          obtain rfl:=Option.some.inj hy
          exact h.2 j x b h0 hj0 e3 hx hj
        · rw [if_neg e3] at hy
          exact h.1 j x y hj0 e1 hx hy
  · intro j x y hp0 hj0 hjp hx hy
    rw [Hk hi hj hne] at hx hy
    have n1:((i - 1) / 2 - 1) / 2≠(i - 1) / 2:=by omega
    have n2:((i - 1) / 2 - 1) / 2≠i:=by omega
    rw [if_neg n1,if_neg n2] at hy
    have hpp:=h.1 ((i - 1) / 2) b y hp0 (by omega) hj hy
    rw [if_neg (by omega)] at hx
    by_cases e1:j=i
    · subst e1
      rw [if_pos rfl] at hx
      obtain rfl:=Option.some.inj hx
      exact hpp
    · rw [if_neg e1] at hx
      exact HB (h.1 j x b hj0 e1 hx (by rw [hjp];exact hj)) hpp
theorem UpI.heap {l:List QEn} {i:Nat} (h:UpI l i) (hi:i=0∨∀ x y,l[i]?=some x→l[(i - 1) / 2]?=some y→nb x y):HeapOk l:=fun j x y hj hx hy=>by
  by_cases e:j=i
  · subst e
    rcases hi with h0|h1
    · omega
    · exact h1 x y hx hy
  · exact h.1 j x y hj e hx hy
theorem DownI.step {l:List QEn} {i c:Nat} {a b:QEn} (h:DownI l i) (hc:c=2 * i + 1∨c=2 * i + 2) (hi:l[i]?=some a) (hj:l[c]?=some b) (hb:bfr b a) (hs:∀ (j:Nat) x,0 < j→(j - 1) / 2=i→l[j]?=some x→nb x b):DownI ((l.set i b).set c a) c:=by
  have hne:i≠c:=by omega
  have hcp:(c - 1) / 2=i:=by omega
  constructor
  · intro j x y hj0 hjp hx hy
    rw [Hk hi hj hne] at hx hy
    rw [if_neg hjp] at hy
    by_cases e1:j=c
    · subst e1
      rw [if_pos rfl] at hx
      rw [if_pos hcp] at hy
      obtain rfl:=Option.some.inj hx
      obtain rfl:=Option.some.inj hy
      exact KU hb
    · rw [if_neg e1] at hx
      by_cases e2:j=i
      · subst e2
        rw [if_pos rfl] at hx
        rw [if_neg (by omega)] at hy
        obtain rfl:=Option.some.inj hx
        exact h.2 c _ y hj0 (by omega) hcp hj hy
      · rw [if_neg e2] at hx
        by_cases e3:(j - 1) / 2=i
        · rw [if_pos e3] at hy
          obtain rfl:=Option.some.inj hy
          exact hs j x hj0 e3 hx
        · rw [if_neg e3] at hy
          exact h.1 j x y hj0 e3 hx hy
  · intro j x y hc0 hj0 hjc hx hy
    rw [Hk hi hj hne] at hx hy
    rw [if_neg (by omega),if_neg (by omega)] at hx
    rw [if_neg (by omega),if_pos hcp] at hy
    obtain rfl:=Option.some.inj hy
    exact h.1 j x _ hj0 (by omega) hx (by rw [hjc];exact hj)
theorem DownI.heap {l:List QEn} {i:Nat} (h:DownI l i) (hi:∀ (j:Nat) x y,0 < j→(j - 1) / 2=i→l[j]?=some x→l[i]?=some y→nb x y):HeapOk l:=fun j x y hj hx hy=>by
  by_cases e:(j - 1) / 2=i
  · exact hi j x y hj e hx (by rw [← e];exact hy)
  · exact h.1 j x y hj e hx hy
theorem Nu {l:List QEn} (h:HeapOk l) {e:QEn} (he:l[0]?=some e):∀ x∈l,nb x e:=by
  have key:∀ (n j:Nat) x,j≤n→l[j]?=some x→nb x e:=by
    intro n
    induction n with
    | zero =>
      intro j x hj hx
      have hj0:j=0:=by omega
      rw [hj0,he] at hx
      rw [← Option.some.inj hx]
      exact JW _
    | succ n ih =>
      intro j x hj hx
      by_cases h0:j=0
      · exact ih j x (by omega) hx
      · obtain ⟨y,hy⟩:=AD (l:=l) (k:=(j - 1) / 2) (by have:=AC hx;omega)
        exact HB (h j x y (by omega) hx hy) (ih ((j - 1) / 2) y (by omega) hy)
  intro x hx
  obtain ⟨j,hj⟩:=List.getElem?_of_mem hx
  exact key j j x (by omega) hj
end
end Go.Proofs.YtkbmbcblgdgjlaaGreat

/- OrbitTwins returns true for every two numbers, and both read behind the call as before. No conditions. -/
import Derived.Test.YtecegaabajeolaaGreatOtwD
import Derived.Test.YtecegaabajeolaaGreatRows
set_option linter.unusedVariables false
set_option linter.unusedSimpArgs false
namespace Go.Proofs.YtecegaabajeolaaGreat
open Go Go.RowKit
section
set_option linter.unusedVariables false
set_option linter.unusedSimpArgs false
open Go Go.RowKit
attribute [local irreducible] ewp owp hwp hwq hws Ev Evg Fn retPost loud loudS Res1
attribute [local irreducible] hwx loudX
noncomputable def Eb  : Option Bool :=
  bnd (Cj (⟨([2]:List Int),([0]:List Int),[(⟨0,1⟩:Fct)],[(⟨(⟨#[]⟩:ByteArray),3,([]:List Fct),[(⟨([]:List Fct),0,1⟩:Eff)]⟩:Opr)]⟩:Tsk) ([]:List Swp) 10) fun q48=>bnd (if q48.2.n=0 then (if q48.1.verdict=1 then (if q48.1.cost=3 then (bnd (Gf q48.1.plan ([0]:List Int)) fun q88=>if q88=true then some true else some false) else (some false)) else (some false)) else (some false):Option Bool) fun y75=>some y75
theorem JX {w:World} {A:Nat→Prop} (hA:∀ k,A k→k < w.heap.size)  {r:Bool} (hm:Eb  = some r) :
    Fn Tryz.prog 11 [] w fun v w'=>Ext w w'∧Vb w' (upA A w w') v r:=by
 obtain ⟨O,hB,h2⟩:=enter hA
 refine AQ Tryz.func11 rfl Tryz.ntmps11 rfl ?_
 unfold Eb at hm
 refine Al (Aj (Ay rfl rfl (o_z ?_)))
 refine Al (Aj (AM 2 (by decide) O (xs:=(([2]:List Int):List Int)) rfl rfl rfl rfl ⟨(vInt (show inI64 (2) from by decide)),trivial⟩ (by decide) (by decide) rfl fun g1 w2 O3 S4 h5=>?_))
 refine AM 3 (by decide) O3 (xs:=(([0]:List Int):List Int)) rfl rfl rfl rfl ⟨(vInt (show inI64 (0) from by decide)),trivial⟩ (by decide) (by decide) rfl fun g7 w8 O9 l0 m0=>?_
 refine CG rfl rfl rfl ?_
 refine AM 4 (by decide) O9 (xs:=([(⟨0,1⟩:Fct)]:List Fct)) rfl rfl rfl rfl ⟨(Vb.ofAgg (cs:=[(.int .i64 0),(.int .i64 1)]) (x:=(⟨0,1⟩:Fct)) rfl ⟨rfl,(show inI64 (0) from by decide),(show inI64 (1) from by decide)⟩),trivial⟩ (by decide) (by decide) rfl fun c1 i2 k1 k0 n0=>?_
 refine CG rfl rfl rfl ?_
 refine AM 5 (by decide) k1 (xs:=([(⟨([]:List Fct),0,1⟩:Eff)]:List Eff)) rfl rfl rfl rfl ⟨(Vb.ofAgg (cs:=[(.slice none 0 0),(.int .i64 0),(.int .i64 1)]) (x:=(⟨([]:List Fct),0,1⟩:Eff)) rfl ⟨_,rfl,(Vb.nil _ _),(show inI64 (0) from by decide),(show inI64 (1) from by decide)⟩),trivial⟩ (by decide) (by decide) rfl fun l1 j2 k2 d0 w0=>?_
 refine CG rfl rfl rfl ?_
 obtain ⟨m1,e0,w0⟩:=w0.freeze
 refine AM 6 (by decide) m1 (xs:=([(⟨(⟨#[]⟩:ByteArray),3,([]:List Fct),[(⟨([]:List Fct),0,1⟩:Eff)]⟩:Opr)]:List Opr)) rfl rfl rfl rfl ⟨(Vb.ofAgg (cs:=[(.string (⟨#[]⟩:ByteArray)),(.int .i64 3),(.slice none 0 0),(.slice (some ⟨l1,0,none⟩) [(⟨([]:List Fct),0,1⟩:Eff)].length 1)]) (x:=(⟨(⟨#[]⟩:ByteArray),3,([]:List Fct),[(⟨([]:List Fct),0,1⟩:Eff)]⟩:Opr)) rfl ⟨_,_,rfl,(Vb.nil _ _),w0,(show inI64 (3) from by decide),(show (⟨#[]⟩:ByteArray).size≤9223372036854775807 from by decide)⟩),trivial⟩ (by decide) (by decide) rfl fun d1 l2 n1 f0 s0=>?_
 refine CG rfl rfl rfl ?_
 refine Bk 7 n1 rfl fun o1 m2 p1 b0 t0=>?_
 refine AA t0 rfl rfl rfl (AG rfl) (allOne rfl) fun q1 c0 t0=>?_
 replace t0:Lc 7 q1 p1 o1 26 [(.slice (some ⟨g1,0,none⟩) ([2]:List Int).length 1),(.slice (some ⟨g7,0,none⟩) ([0]:List Int).length 1),(.slice (some ⟨c1,0,none⟩) [(⟨0,1⟩:Fct)].length 1),(.slice (some ⟨d1,0,none⟩) [(⟨(⟨#[]⟩:ByteArray),3,([]:List Fct),[(⟨([]:List Fct),0,1⟩:Eff)]⟩:Opr)].length 1)]:=t0
 refine o_z ?_
 refine Al (Aj (Br (hl:=rfl) (hc:=(t0.1).cellsAt) rfl rfl ?_))
 replace h5:=((((((h5.st l0).st k0).st d0).st e0).st f0).st b0).st c0
 obtain ⟨n2,g0,h5⟩:=h5.freeze
 replace m0:=((((((m0.st k0).st d0).st e0).st f0).st b0).st c0).st g0
 obtain ⟨o2,h0,m0⟩:=m0.freeze
 replace n0:=((((((n0.st d0).st e0).st f0).st b0).st c0).st g0).st h0
 obtain ⟨p2,i0,n0⟩:=n0.freeze
 replace s0:=((((s0.st b0).st c0).st g0).st h0).st i0
 obtain ⟨r1,j0,s0⟩:=s0.freeze
 obtain ⟨u0,s1,hm⟩:=bs hm
 replace h5:=((h5.st h0).st i0).st j0
 replace m0:=(m0.st i0).st j0
 replace n0:=n0.st j0
 refine Bt (O:=r1) (R:=fun w' F v=>T2 w' F v u0) (Gt Fr.lt (Vb.ofAgg (cs:=[(.slice (some ⟨g1,0,none⟩) ([2]:List Int).length 1),(.slice (some ⟨g7,0,none⟩) ([0]:List Int).length 1),(.slice (some ⟨c1,0,none⟩) [(⟨0,1⟩:Fct)].length 1),(.slice (some ⟨d1,0,none⟩) [(⟨(⟨#[]⟩:ByteArray),3,([]:List Fct),[(⟨([]:List Fct),0,1⟩:Eff)]⟩:Opr)].length 1)]) (x:=(⟨([2]:List Int),([0]:List Int),[(⟨0,1⟩:Fct)],[(⟨(⟨#[]⟩:ByteArray),3,([]:List Fct),[(⟨([]:List Fct),0,1⟩:Eff)]⟩:Opr)]⟩:Tsk)) rfl ⟨_,_,_,_,rfl,h5,m0,n0,s0⟩) (Vb.nil _ _) (show inI64 (10) from by decide) s1) rfl rfl fun q2 r2 t1 r0 u1=>?_
 obtain ⟨s2,t2,rfl,v1,w1⟩:=u1
 obtain ⟨x1,rfl,u2,rfl,v0,v2,x2,y2⟩:=v1
 obtain ⟨y1,z1,rfl⟩:=v0.form
 obtain ⟨rfl,z2⟩:=w1.err
 refine Ar rfl rfl (Cy rfl rfl rfl (Cy rfl rfl rfl (Bk 8 t1 rfl fun a2 a3 e1 o0 p0=>?_)))
 refine AA p0 rfl rfl rfl (AG rfl) (allOne rfl) fun b2 q0 p0=>?_
 replace p0:Lc 8 b2 e1 a2 32 [(.int .i64 u0.1.verdict),(.slice y1 u0.1.plan.length z1),(.int .i64 u0.1.cost),(.int .i64 u0.1.expanded)]:=p0
 refine Ay rfl rfl (o_z ?_)
 refine Al ?_
 obtain ⟨c2,a0,hm⟩:=bs hm
 refine AU (fun l' w'=>∃ (d2:Unit) (O':Lab),subs l' [(0,(.bool c2))]∧Bs w A w' O') ?_ ?_
 ·
  refine Aj (Ar rfl rfl (LW rfl rfl (fun x0=>?_) fun x0=>?_))
  ·
   replace a0:=ip a0 x0
   refine Ar rfl rfl (AE rfl rfl (AV rfl rfl (AE rfl rfl (AP (hc:=Blk.cell (i:=0) (p0.1) rfl) rfl rfl ?_))))
   refine AE rfl rfl (Ei rfl rfl rfl (fun y0=>?_) fun y0=>?_)
   ·
    replace a0:=ip a0 y0
    refine BF rfl rfl rfl (Ar rfl rfl (AE rfl rfl (AV rfl rfl (AE rfl rfl (AP (hc:=Blk.cell (i:=2) (p0.1) rfl) rfl rfl ?_)))))
    refine AE rfl rfl (Ei rfl rfl rfl (fun z0=>?_) fun z0=>?_)
    ·
     replace a0:=ip a0 z0
     refine BF rfl rfl rfl (Ar rfl rfl (AE rfl rfl (AV rfl rfl (AE rfl rfl (AP (hc:=Blk.cell (i:=1) (p0.1) rfl) rfl rfl ?_)))))
     refine AE rfl rfl (AM 9 (by decide) e1 (xs:=(([0]:List Int):List Int)) rfl rfl rfl rfl ⟨(vInt (show inI64 (0) from by decide)),trivial⟩ (by decide) (by decide) rfl fun b3 f1 h1 a1 e2=>?_)
     refine AE rfl rfl ?_
     obtain ⟨i1,f2,a0⟩:=bs a0
     replace v0:=((v0.st o0).st q0).st a1
     refine By (O:=h1) (A:=All f1) (R:=fun w' F v=>Vb w' F v i1) (Lb (fun _ h=>h) (Vb.mono (F:=Fr 0 f1 h1) v0 Fr.lt) (e2).all f2) rfl rfl fun c3 d3 e3 j1 g2=>?_
     obtain rfl:=g2.bool
     cases i1
     case false =>
      replace a0:=iF a0
      refine BF rfl rfl rfl (Ay rfl rfl (o_z ?_))
      obtain rfl:=sm a0
      exact ⟨(),_,⟨rfl,trivial⟩,((((((((((((((((hB.st S4).st l0).st k0).st d0).st e0).st f0).st b0).st c0).st g0).st h0).st i0).st j0).st r0).st o0).st q0).st a1).st j1⟩
     replace a0:=iT a0
     refine BF rfl rfl rfl (Ay rfl rfl (o_z ?_))
     obtain rfl:=sm a0
     exact ⟨(),_,⟨rfl,trivial⟩,((((((((((((((((hB.st S4).st l0).st k0).st d0).st e0).st f0).st b0).st c0).st g0).st h0).st i0).st j0).st r0).st o0).st q0).st a1).st j1⟩
    replace a0:=im a0 z0
    refine BF rfl rfl rfl (Ar rfl rfl (AC rfl rfl rfl rfl (AC rfl rfl rfl rfl (AC rfl rfl rfl rfl (AC rfl rfl rfl rfl (BN rfl rfl rfl (Ay rfl rfl (o_z ?_))))))))
    obtain rfl:=sm a0
    exact ⟨(),_,⟨rfl,trivial⟩,((((((((((((((hB.st S4).st l0).st k0).st d0).st e0).st f0).st b0).st c0).st g0).st h0).st i0).st j0).st r0).st o0).st q0⟩
   replace a0:=im a0 y0
   refine BF rfl rfl rfl (Ar rfl rfl (AC rfl rfl rfl rfl (AC rfl rfl rfl rfl (AC rfl rfl rfl rfl (BN rfl rfl rfl (Ar rfl rfl (AC rfl rfl rfl rfl (AC rfl rfl rfl rfl (AC rfl rfl rfl rfl (AC rfl rfl rfl rfl (BN rfl rfl rfl (Ay rfl rfl (o_z ?_)))))))))))))
   obtain rfl:=sm a0
   exact ⟨(),_,⟨rfl,trivial⟩,((((((((((((((hB.st S4).st l0).st k0).st d0).st e0).st f0).st b0).st c0).st g0).st h0).st i0).st j0).st r0).st o0).st q0⟩
  replace a0:=im a0 x0
  refine Ar rfl rfl (AC rfl rfl rfl rfl (AC rfl rfl rfl rfl (AC rfl rfl rfl rfl (BN rfl rfl rfl (Ar rfl rfl (AC rfl rfl rfl rfl (AC rfl rfl rfl rfl (AC rfl rfl rfl rfl (BN rfl rfl rfl (Ar rfl rfl (AC rfl rfl rfl rfl (AC rfl rfl rfl rfl (AC rfl rfl rfl rfl (AC rfl rfl rfl rfl ?_))))))))))))))
  refine BN rfl rfl rfl (Ay rfl rfl (o_z ?_))
  obtain rfl:=sm a0
  exact ⟨(),_,⟨rfl,trivial⟩,((((((((((((((hB.st S4).st l0).st k0).st d0).st e0).st f0).st b0).st c0).st g0).st h0).st i0).st j0).st r0).st o0).st q0⟩
 replace hB:=((((((((((((((hB.st S4).st l0).st k0).st d0).st e0).st f0).st b0).st c0).st g0).st h0).st i0).st j0).st r0).st o0).st q0
 rintro f3 g3 ⟨d2,h3,b1,hB⟩
 refine Bc _ b1 ?_
 refine AR ?_
 obtain rfl:=sm hm
 exact ret1v rfl (AO rfl) ⟨hB.ext,vBool⟩
end
section
open Go Go.RowKit
def factB (vars:List Int) (x:Fct):Bool:=decide (0≤x.var) && (decide (0≤x.val) && (match vars[x.var.toNat]? with|some y=>decide (x.val < y)|none=>false))
theorem KY {vars:List Int} {x:Fct} (h:factB vars x=true):FactOk vars x:=by
  unfold factB at h
  simp only [Bool.and_eq_true,decide_eq_true_eq] at h
  obtain ⟨h1,h2,h3⟩:=h
  cases hv:vars[x.var.toNat]? with
  | none=>rw [hv] at h3;cases h3
  | some y=>rw [hv] at h3;exact ⟨h1,h2,y,hv,by simpa using h3⟩
def ascB:List Fct→Bool
  | x :: y :: r=>decide (x.var < y.var) && ascB (y :: r)
  | _=>true
theorem LI:∀ {f:List Fct},ascB f=true→∀ (i:Nat) x y,f[i]?=some x→f[i + 1]?=some y→x.var < y.var
  | [],_,i,x,y,h,_=>by simp at h
  | [_],_,i,x,y,_,h=>by simp at h
  | a :: b :: r,h,i,x,y,h1,h2=>by
    simp only [ascB,Bool.and_eq_true,decide_eq_true_eq] at h
    cases i with
    | zero=>simp at h1 h2;subst h1;subst h2;exact h.1
    | succ i=>exact LI h.2 i x y (by simpa using h1) (by simpa using h2)
def factsB (vars:List Int) (f:List Fct):Bool:=f.all (factB vars) && ascB f
theorem Hz {vars:List Int} {f:List Fct} (h:factsB vars f=true):FactsOk vars f:=by
  unfold factsB at h
  rw [Bool.and_eq_true,List.all_eq_true] at h
  exact ⟨fun i x hx=>KY (h.1 x (List.mem_of_getElem? hx)),LI h.2⟩
def stateB:List Int→List Int→Bool
  | [],[]=>true
  | y :: vars,x :: s=>decide (0≤x) && (decide (x < y) && stateB vars s)
  | _,_=>false
theorem JS:∀ {vars s:List Int},stateB vars s=true→StateOk vars s
  | [],[],_=>⟨rfl,fun i x y h=>by simp at h⟩
  | y :: vars,x :: s,h=>by
    simp only [stateB,Bool.and_eq_true,decide_eq_true_eq] at h
    obtain ⟨h1,h2⟩:=JS h.2.2
    refine ⟨by simp [h1],fun i a b ha hb=>?_⟩
    cases i with
    | zero=>simp at ha hb;subst ha;subst hb;exact ⟨h.1,h.2.1⟩
    | succ i=>exact h2 i a b (by simpa using ha) (by simpa using hb)
  | [],_ :: _,h=>by simp [stateB] at h
  | _ :: _,[],h=>by simp [stateB] at h
def nameB (s:ByteArray):Bool:=decide (s.size≤256) && s.data.toList.all fun c=>decide (32≤c.toNat) && decide (c.toNat≤126)
theorem NR {s:ByteArray} (h:nameB s=true):NameOk s:=by
  unfold nameB at h
  simp only [Bool.and_eq_true,decide_eq_true_eq,List.all_eq_true] at h
  refine ⟨h.1,fun i hi=>h.2 _ ?_⟩
  show s.data[i]∈_
  simp
def opB (vars:List Int) (o:Opr):Bool:=decide (0≤o.cost) && (decide (o.cost≤1048576) && (decide (o.effs.length≤64) && (nameB o.name && (factsB vars o.pre && o.effs.all fun e=>factsB vars e.cond && factB vars ⟨e.var,e.val⟩))))
theorem PQ {vars:List Int} {o:Opr} (h:opB vars o=true):OpOk vars o:=by
  unfold opB at h
  simp only [Bool.and_eq_true,decide_eq_true_eq,List.all_eq_true] at h
  obtain ⟨h1,h2,h3,h4,h5,h6⟩:=h
  exact ⟨h1,h2,h3,NR h4,Hz h5,fun i e he=>⟨Hz (h6 e (List.mem_of_getElem? he)).1,KY (h6 e (List.mem_of_getElem? he)).2⟩⟩
def taskB (t:Tsk):Bool:=decide (t.vars.length≤64) && (decide (t.ops.length≤4096) && ((t.vars.all fun n=>decide (1≤n) && decide (n≤64)) && (stateB t.vars t.init && (factsB t.vars t.goal && t.ops.all (opB t.vars)))))
theorem KZ {t:Tsk} (h:taskB t=true):TaskOk t:=by
  unfold taskB at h
  simp only [Bool.and_eq_true,decide_eq_true_eq,List.all_eq_true] at h
  obtain ⟨h1,h2,h3,h4,h5,h6⟩:=h
  exact ⟨h1,h2,fun i n hn=>h3 n (List.mem_of_getElem? hn),JS h4,Hz h5,fun i o ho=>PQ (h6 o (List.mem_of_getElem? ho))⟩
end
section
set_option linter.unusedVariables false
set_option linter.unusedSimpArgs false
open Go Go.RowKit
def ex52:Tsk:=⟨[2],[0],[(⟨0,1⟩:Fct)],[(⟨(⟨#[]⟩:ByteArray),3,([]:List Fct),[(⟨([]:List Fct),0,1⟩:Eff)]⟩:Opr)]⟩
theorem Pc:TaskOk ex52:=KZ (by kernel_rfl)
theorem Mj:SmallOk ex52:=by
  refine ⟨by decide,by decide,fun i o ho=>?_,Pc,by decide⟩
  have:o∈ex52.ops:=List.mem_of_getElem? ho
  simp [ex52] at this
  subst this
  decide
theorem MZ {s p s':List Int} {C:Int} (h:PlanR ex52 s p s' C):C=3 * (p.length:Int)∧∀ x∈p,x=0:=by
  induction h with
  | nil=>simp
  | @cons s rest s' k o C ho _ _ ih =>
    have hk:=AL ho
    simp [ex52] at hk
    subst hk
    have:o.cost=3:=by simp [ex52] at ho;rw [← ho]
    refine ⟨by rw [this,ih.1];simp;omega,fun x hx=>?_⟩
    rcases List.mem_cons.1 hx with rfl|hx
    · rfl
    · exact ih.2 x hx
theorem awake52:Eb=some true:=by
  unfold Eb
  show (bnd (Cj ex52 [] 10) _)=_
  have hsy:Sy ex52 []:=⟨Mj,fun x hx=>by simp at hx,by simp⟩
  obtain ⟨r,r1,r2,r3⟩:=KX hsy 1000
  obtain ⟨hv,hx⟩:=IZ hsy r2 (by decide)
  have hst:(statesL ex52.vars).length=2:=by decide
  rw [r3 hv 10 (by omega),Am,if_pos rfl]
  have hw:Walk ex52 ex52.init 3:=by
    have h1:PlanR ex52 ex52.init [((0:Nat):Int)] _ (3 + 0):=.cons (k:=0) (o:=(⟨(⟨#[]⟩:ByteArray),3,([]:List Fct),[(⟨([]:List Fct),0,1⟩:Eff)]⟩:Opr)) rfl (by decide) .nil
    exact h1.walk (by decide)
  obtain ⟨_,_,M,_,_,_,⟨h1,h2,⟨s',h3,h4⟩,h5,_⟩|⟨h1,h2,h3,h4,_⟩|⟨h1,_⟩⟩:=r2
  · have g1:=MZ h3
    have g2:=h5 3 hw
    have hp:r.plan=[0]:=by
      cases hpl:r.plan with
      | nil =>
        rw [hpl] at h3
        have e:s'=ex52.init:=by
          generalize r.cost=c at h3
          cases h3
          rfl
        rw [e] at h4
        exact absurd h4 (by decide)
      | cons a l =>
        rw [hpl] at g1
        have:=g1.2 a List.mem_cons_self
        subst this
        cases l with
        | nil=>rfl
        | cons b l=>simp at g1;omega
    rw [hp] at g1
    dsimp only
    rw [if_pos h1,if_pos (by simpa using g1.1),hp]
    unfold Gf
    rw [Bl rfl]
    rfl
  · exact absurd hw (h4 3)
  · exact absurd h1 hv
end
section
set_option linter.unusedVariables false
set_option linter.unusedSimpArgs false
open Go Go.RowKit
def twO (c:Int) (v:Nat):Opr:=⟨⟨#[]⟩,c,[⟨(v:Int),0⟩],[⟨[],(v:Int),1⟩]⟩
def twT (n:Nat) (c:Int):Tsk:=⟨List.replicate n 2,List.replicate n 0,(List.range n).map fun v:Nat=>⟨(v:Int),1⟩,(List.range n).map (twO c)⟩
def swL (n k:Nat):List Int:=((rangeI n).set k ((k:Int) + 1)).set (k + 1) (k:Int)
def swX (n k:Nat):Swp:=⟨swL n k,List.replicate n [0,1],swL n k⟩
def swG (n:Nat):List Swp:=(List.range (n - 1)).map (swX n)
theorem PR:((List.range 8).all fun n=>(List.range 5).all fun c=>taskB (twT (n + 1) (c:Int)) && decide (manyF 512 (twT (n + 1) (c:Int)).vars 1≤512))=true:=by kernel_rfl
theorem PS:((List.range 9).all fun n=>(List.range (n - 1)).all fun k=>(swL n k).isPerm (rangeI n))=true:=by kernel_rfl
theorem IA {n:Nat} {c:Int} (h1:1≤n) (h8:n≤8) (hc:0≤c) (h5:c < 5):SmallOk (twT n c):=by
  have h:=PR
  rw [List.all_eq_true] at h
  have h:=h (n - 1) (List.mem_range.2 (by omega))
  rw [List.all_eq_true] at h
  have h:=h c.toNat (List.mem_range.2 (by omega))
  rw [show n - 1 + 1=n from by omega,show ((c.toNat:Nat):Int)=c from by omega,Bool.and_eq_true,decide_eq_true_eq] at h
  refine ⟨by simp [twT];omega,by simp [twT];omega,fun i o ho=>?_,KZ h.1,h.2⟩
  have hm:=List.mem_of_getElem? ho
  simp only [twT,List.mem_map] at hm
  obtain ⟨v,_,rfl⟩:=hm
  simp [twO]
theorem Pd {n k:Nat} (hn:n≤8) (hk:k < n - 1):PermR (swL n k) n:=by
  have h:=PS
  rw [List.all_eq_true] at h
  have h:=h n (List.mem_range.2 (by omega))
  rw [List.all_eq_true] at h
  exact List.isPerm_iff.1 (h k (List.mem_range.2 hk))
theorem Js {n k a:Nat} {z:Int} {x:Swp} (hx:x.vars[k]?=some (a:Int)) (hv:x.vals[k]?=some [0,1]) (hz:z=0∨z=1):imF x ⟨(k:Int),z⟩=⟨(a:Int),z⟩:=by
  rcases hz with rfl|rfl<;>simp [imF,hx,hv]
theorem Na {n k:Nat} {c:Int} (h1:1≤n) (h8:n≤8) (hc:0≤c) (h5:c < 5) (hk:k < n - 1):SymP (twT n c) (swX n k):=by
  have hok:=(IA h1 h8 hc h5).ok
  have hp:=Pd h8 hk
  have hvl:(twT n c).vars.length=n:=by simp [twT]
  have hol:(twT n c).ops.length=n:=by simp [twT]
  have hvals:∀ j,j < n→(swX n k).vals[j]?=some [0,1]:=fun j hj=>by simp [swX,hj]
  have hvars:∀ j,j < n→∃ a:Nat,(swX n k).vars[j]?=some (a:Int)∧a < n:=fun j hj=>EF hp hj
  have hF:FactsPerm (twT n c) (swX n k):=by
    refine ⟨by rw [hvl];exact hp,by simp [swX,twT],fun j hj=>?_⟩
    rw [hvl] at hj
    obtain ⟨a,a1,a2⟩:=hvars j hj
    exact ⟨2,a,[0,1],by simp [twT,hj],a1,hvals j hj,by rw [Bi];simp [twT,a2],List.Perm.refl _⟩
  refine ⟨hF,by rw [hol];exact hp,?_,fun j hj=>?_⟩
  · refine Hx hF hok.2.2.2.2.1 ?_ ?_
    · simp only [twT]
      rw [List.pairwise_map]
      exact List.pairwise_lt_range.imp fun {a b} h=>by dsimp only;omega
    · have e1:(twT n c).goal.map (imF (swX n k))=(swL n k).map fun a=>(⟨a,1⟩:Fct):=by
        apply List.ext_getElem?
        intro j
        rcases Nat.lt_or_ge j n with hj|hj
        · obtain ⟨a,a1,a2⟩:=hvars j hj
          have e:=Js (n:=n) a1 (hvals j hj) (z:=1) (.inr rfl)
          have a1':(swL n k)[j]?=some (a:Int):=a1
          simp only [twT,List.getElem?_map,a1',Option.map_some]
          rw [List.getElem?_range hj]
          simp only [Option.map_some]
          rw [e]
        · rw [List.getElem?_eq_none (by simp [twT];exact hj),List.getElem?_eq_none (by rw [List.length_map,hp.len];exact hj)]
      have e2:(twT n c).goal=(rangeI n).map fun a=>(⟨a,1⟩:Fct):=by
        unfold rangeI
        rw [List.map_map]
        rfl
      rw [e1,e2]
      exact (hp.symm).map _
  · rw [hol] at hj
    obtain ⟨a,a1,a2⟩:=hvars j hj
    have e0:=Js (n:=n) a1 (hvals j hj) (z:=0) (.inl rfl)
    have e1:=Js (n:=n) a1 (hvals j hj) (z:=1) (.inr rfl)
    have o1:(twT n c).ops[j]?=some (twO c j):=by simp [twT,hj]
    have o2:(twT n c).ops[a]?=some (twO c a):=by simp [twT,a2]
    refine ⟨twO c j,twO c a,(a:Int),o1,a1,by rw [Bi];exact o2,rfl,?_,?_⟩
    · refine Hx hF (hok.2.2.2.2.2 j _ o1).2.2.2.2.1 (by simp [twO]) ?_
      simp only [twO,List.map_cons,List.map_nil,e0]
      exact List.Perm.refl _
    · simp only [twO,List.map_cons,List.map_nil]
      unfold imE
      dsimp only
      rw [e1]
      have:imL (swX n k) []=[]:=Hx hF ⟨fun i x h=>by simp at h,fun i x y h=>by simp at h⟩ (by simp) (by simp)
      rw [this]
theorem Ja {n:Nat} {c:Int} (h1:1≤n) (h8:n≤8) (hc:0≤c) (h5:c < 5):Sy (twT n c) (swG n):=⟨IA h1 h8 hc h5,fun x hx=>by
  simp only [swG,List.mem_map] at hx
  obtain ⟨k,hk,rfl⟩:=hx
  exact Na h1 h8 hc h5 (List.mem_range.1 hk),by simp [swG];omega⟩
end
section
set_option linter.unusedVariables false
set_option linter.unusedSimpArgs false
open Go Go.RowKit
section
variable {P : Program} {n : Nat} {ops : Array Oper} {Q : Post} {rest : List Oper} {l : Env} {w : World} {ty : TypeId} {pos : String} {aft : Array Edge}
theorem PT {dst:Option Nat} {t u:TypeId} {k:IntKind} {x y:Operand} {a b c:Int} (hx:opv l x=some (.int k a)) (hy:opv l y=some (.int k b)) (he:remI a b=some c):Ev P ⟨dst,.binOp .rem t x y u,ty,pos,aft,none⟩ l w (.int k c):=by
  obtain ⟨h1,h2,rfl⟩:=Jw he
  exact Pj hx hy h1 h2
theorem Ol {d:Nat} {t u:TypeId} {k:IntKind} {x y:Operand} {a b c:Int} (hx:opv l x=some (.int k a)) (hy:opv l y=some (.int k b)) (hd:Nat.blt d n=true) (h:owp P n ops Q rest ((d,.int k c) :: l) w) (he:remI a b=some c:=by assumption):owp P n ops Q (⟨some d,.binOp .rem t x y u,ty,pos,aft,none⟩ :: rest) l w:=Bp (PT hx hy he) hd h
end
attribute [local irreducible] ewp owp hwp hwq hws Ev Evg Fn retPost loud loudS Res1
attribute [local irreducible] hwx loudX
noncomputable def Dy (x0:Byt) (x1:Byt):Option Bool :=
  bnd (Eb) fun q3=>if q3=true then bnd (remI x0.n 8) fun n10=>bnd (chkI (1 + n10)) fun n13=>bnd (remI x1.n 5) fun n16=>bnd (natI n13) fun N39=>bnd (rngN (ρ:=Bool) (fun (k30:Nat) (s28:(List Int)×(List Int)×(List Fct)×(List Opr))=>bnd (appI 8 s28.1 ([2]:List Int)) fun u57=>bnd (appI 8 s28.2.1 ([0]:List Int)) fun u59=>bnd (some (u57,u59):Option ((List Int)×(List Int))) fun y61=>bnd (appI 16 s28.2.2.1 [(⟨(k30:Int),1⟩:Fct)]) fun u169=>bnd (appI 72 s28.2.2.2 [(⟨(⟨#[]⟩:ByteArray),n16,[(⟨(k30:Int),0⟩:Fct)],[(⟨([]:List Fct),(k30:Int),1⟩:Eff)]⟩:Opr)]) fun u199=>some (.next (y61.1,y61.2,u169,u199))) N39 (([]:List Int),([]:List Int),([]:List Fct),([]:List Opr))) fun res26=>fin res26 fun (s217:(List Int)×(List Int)×(List Fct)×(List Opr))=>bnd (chkI (n13 - 1)) fun n219=>bnd (natI n219) fun N235=>bnd (rngN (ρ:=Bool) (fun (k226:Nat) (s224:(List Swp))=>bnd (natI n13) fun N261=>bnd (rngN (ρ:=Ctl (List Swp) Bool) (fun (k252:Nat) (s250:(List Int)×(List (List Int))×(List Int))=>bnd (appI 8 s250.1 ([(k252:Int)]:List Int)) fun u275=>bnd (appI 8 s250.2.2 ([(k252:Int)]:List Int)) fun u277=>bnd (appI 24 s250.2.1 [([0,1]:List Int)]) fun u279=>some (.next (u275,u279,u277))) N261 (([]:List Int),([]:List (List Int)),([]:List Int))) fun res248=>fin res248 fun (s2167:(List Int)×(List (List Int))×(List Int))=>bnd (chkI ((k226:Int) + 1)) fun n2169=>bnd (s2167.1[k226]?) fun a2172=>bnd (chkI ((k226:Int) + 1)) fun n2182=>bnd (chkI ((k226:Int) + 1)) fun n2185=>bnd (chkI ((k226:Int) + 1)) fun n2188=>bnd (atI (s2167.1.set k226 n2169) n2182) fun a2193=>bnd (s2167.2.2[k226]?) fun a2207=>bnd (atI (s2167.2.2.set k226 n2185) n2188) fun a2219=>bnd (appI 72 s224 [(⟨((s2167.1.set k226 n2169).set (n2182:Int).toNat (k226:Int)),s2167.2.1,((s2167.2.2.set k226 n2185).set (n2188:Int).toNat (k226:Int))⟩:Swp)]) fun u2239=>some (.next u2239)) N235 ([]:List Swp)) fun res222=>fin res222 fun (s2255:(List Swp))=>bnd (Cj (⟨s217.1,s217.2.1,s217.2.2.1,s217.2.2.2⟩:Tsk) s2255 1000) fun q2267=>bnd (if q2267.2.n=0 then (bnd (chkI (n13 * n16)) fun n2299=>bnd (CB (⟨s217.1,s217.2.1,s217.2.2.1,s217.2.2.2⟩:Tsk) q2267.1 n2299) fun q2302=>if q2302=true then bnd (chkI (n13 + 1)) fun n2309=>if q2267.1.expanded≤n2309 then (some true) else (some false) else some false) else (some false):Option Bool) fun y2294=>some y2294 else some false
set_option maxHeartbeats 1000000 in
theorem HA {w:World} {A:Nat→Prop} (hA:∀ k,A k→k < w.heap.size) {x0:Byt} {x1:Byt} {r:Bool} (hm:Dy x0 x1=some r) :
    Fn Tryz.prog 6 [(.int .u8 x0.n),(.int .u8 x1.n)] w fun v w'=>Ext w w'∧Vb w' (upA A w w') v r:=by
 obtain ⟨O,hB,hA0⟩:=enter hA
 refine AQ Tryz.func6 rfl Tryz.ntmps6 rfl ?_
 unfold Dy at hm
 refine Al (Aj (Ay rfl rfl (o_z ?_)))
 refine Al (Al (Aj ?_))
 obtain ⟨q3,e4,hm⟩:=bs hm
 refine By (O:=O) (A:=All w) (R:=fun w' F v=>Vb w' F v q3) (JX (fun _ h=>h)  e4) rfl rfl fun v9 w5 O6 S7 h8=>?_
 obtain rfl:=h8.bool
 cases q3
 case false =>
  replace hm:=iF hm
  refine DL rfl rfl (o_z ?_)
  refine Ah rfl (Al (Aj (Ay rfl rfl (o_z ?_))))
  refine AR ?_
  obtain rfl:=sm hm
  replace hB:=hB.st S7
  exact ret1v rfl (AO rfl) ⟨hB.ext,vBool⟩
 replace hm:=iT hm
 refine DK rfl rfl (o_z ?_)
 refine Ae rfl (AZ (Al (Aj (Ar rfl rfl ?_))))
 obtain ⟨n10,e11,hm⟩:=bs hm
 have r12:=Ls e11 (x0.rng)
 refine Ol (he:=e11) rfl rfl rfl ?_
 refine Pn (hr:=r12) rfl rfl ?_
 obtain ⟨jV,e14,hm⟩:=bs hm
 have r15:=(BI e14)
 refine Fz (he:=e14) rfl rfl rfl ?_
 refine Ar rfl rfl ?_
 obtain ⟨kP,e17,hm⟩:=bs hm
 have r18:=Ls e17 (x1.rng)
 refine Ol (he:=e17) rfl rfl rfl ?_
 refine Pn (hr:=r18) rfl rfl ?_
 refine Ay rfl rfl (Ay rfl rfl (o_z ?_))
 refine Al (Aj (CG rfl rfl rfl ?_))
 refine Bk 2 O6 rfl fun fF w20 O21 S22 b1=>?_
 refine AA b1 rfl rfl rfl (AG rfl) (allOne rfl) fun w24 S25 b1=>?_
 replace b1:Lc 2 w24 O21 fF 26 [(.slice none 0 0),(.slice none 0 0),(.slice none 0 0),(.slice none 0 0)]:=b1
 refine o_z ?_
 refine Al (Al (Aj (Ar rfl rfl (Ar rfl rfl (o_z ?_)))))
 obtain ⟨N39,sK,hm⟩:=bs hm
 replace sK:=Hj sK
 obtain ⟨yY,hL27,hm⟩:=bs hm
 refine AU (aft yY (fun (w2:(List Int)×(List Int)×(List Fct)×(List Opr)) (h2:(Option Addr×Nat)×(Option Addr×Nat)×(Option Addr×Nat)×(Option Addr×Nat))=>[(5,(.int .i64 jV)),(6,(.int .i64 kP)),(7,(.pointer (some ⟨fF,0,none⟩)))]) (fun w2 h2 w'=>∃ O':Lab,Bs w A w' O'∧Lc 2 w' O' fF 26 [(.slice h2.1.1 w2.1.length h2.1.2),(.slice h2.2.1.1 w2.2.1.length h2.2.1.2),(.slice h2.2.2.1.1 w2.2.2.1.length h2.2.2.1.2),(.slice h2.2.2.2.1 w2.2.2.2.length h2.2.2.2.2)]∧Rw 4 w' O' 3 (.slice h2.1.1 w2.1.length h2.1.2) w2.1∧Rw 6 w' O' 3 (.slice h2.2.1.1 w2.2.1.length h2.2.1.2) w2.2.1∧Rw 7 w' O' 45 (.slice h2.2.2.1.1 w2.2.2.1.length h2.2.2.1.2) w2.2.2.1∧Rw 10 w' O' 50 (.slice h2.2.2.2.1 w2.2.2.2.length h2.2.2.2.2) w2.2.2.2)) ?_ ?_
 ·
  refine Bf ?_
  replace hB:=((hB.st S7).st S22).st S25
  refine GB (σ:=(List Int)×(List Int)×(List Fct)×(List Opr)) (X:=(Option Addr×Nat)×(Option Addr×Nat)×(Option Addr×Nat)×(Option Addr×Nat)) N39 hL27 (FD sK r15) (fun (w2:(List Int)×(List Int)×(List Fct)×(List Opr)) (h2:(Option Addr×Nat)×(Option Addr×Nat)×(Option Addr×Nat)×(Option Addr×Nat))=>[(5,(.int .i64 jV)),(6,(.int .i64 kP)),(7,(.pointer (some ⟨fF,0,none⟩)))]) _ (fun w2 h2 w'=>∃ O':Lab,Bs w A w' O'∧Lc 2 w' O' fF 26 [(.slice h2.1.1 w2.1.length h2.1.2),(.slice h2.2.1.1 w2.2.1.length h2.2.1.2),(.slice h2.2.2.1.1 w2.2.2.1.length h2.2.2.1.2),(.slice h2.2.2.2.1 w2.2.2.2.length h2.2.2.2.2)]∧Rw 4 w' O' 3 (.slice h2.1.1 w2.1.length h2.1.2) w2.1∧Rw 6 w' O' 3 (.slice h2.2.1.1 w2.2.1.length h2.2.1.2) w2.2.1∧Rw 7 w' O' 45 (.slice h2.2.2.1.1 w2.2.2.1.length h2.2.2.1.2) w2.2.2.1∧Rw 10 w' O' 50 (.slice h2.2.2.2.1 w2.2.2.2.length h2.2.2.2.2) w2.2.2.2) _ ((none,0),(none,0),(none,0),(none,0)) ⟨O21,hB,b1,(Rw.nil 4 (by decide)),(Rw.nil 6 (by decide)),(Rw.nil 7 (by decide)),(Rw.nil 10 (by decide))⟩ ⟨rfl,(congrArg (fun z=>some (Value.int .i64 z)) sK),rfl,rfl,rfl,trivial⟩ (fun _ _=>⟨rfl,rfl⟩) (fun _ _=>⟨rfl,rfl,rfl,trivial⟩) (fun _ _ _ ⟨O',hB,b1,p1,o1,r1,q1⟩=>⟨O',hB,b1,p1,o1,r1,q1⟩) ⟨rfl,rfl,rfl⟩ ⟨rfl,rfl⟩ ?_
  rintro hI w2 h2 w32 cc34 hx35 ⟨O33,hB,b1,p1,o1,r1,q1⟩ gF hret37 hbrk38
  have rk30:inI64 (hI:Int):=rngKN hx35 (FD sK r15)
  refine Al (Aj (Ar rfl rfl (Ay rfl rfl (o_z ?_))))
  refine Al ?_
  obtain ⟨vY,mP,gF⟩:=bs gF
  obtain ⟨u59,nP,gF⟩:=bs gF
  obtain ⟨lP,kV,gF⟩:=bs gF
  refine AU (fun l' w'=>∃ (kH:(Option Addr×Nat)×(Option Addr×Nat)) (O':Lab),subs l' [(5,(.int .i64 jV)),(6,(.int .i64 kP)),(7,(.pointer (some ⟨fF,0,none⟩))),(8,(.int .i64 (hI:Int))),(25,(.int .i64 (N39:Int))),(26,(.int .i64 (hI:Int)))]∧Bs w A w' O'∧Lc 2 w' O' fF 26 [(.slice kH.1.1 lP.1.length kH.1.2),(.slice kH.2.1 lP.2.length kH.2.2),(.slice h2.2.2.1.1 w2.2.2.1.length h2.2.2.1.2),(.slice h2.2.2.2.1 w2.2.2.2.length h2.2.2.2.2)]∧Rw 4 w' O' 3 (.slice kH.1.1 lP.1.length kH.1.2) lP.1∧Rw 6 w' O' 3 (.slice kH.2.1 lP.2.length kH.2.2) lP.2∧Rw 7 w' O' 45 (.slice h2.2.2.1.1 w2.2.2.1.length h2.2.2.1.2) w2.2.2.1∧Rw 10 w' O' 50 (.slice h2.2.2.2.1 w2.2.2.2.length h2.2.2.2.2) w2.2.2.2) ?_ ?_
  ·
   refine Bw [(3,[4]),(7,[6]),(9,[2])] O33 ?_
   refine AD (fuel:=10) [] [(0,true),(1,true)] (by kernel_rfl) rfl ?_
   refine AJ rfl rfl rfl (Bb (hc:=fun w' ⟨O',hq⟩=>Blk.cell (i:=0) ((b1.st hq (by decide)).1) rfl) rfl rfl rfl ?_)
   refine Au ?_
   refine AD (fuel:=8) [4] [(4,true),(5,true)] (by kernel_rfl) rfl ?_
   refine AJ rfl rfl rfl (Bb (hc:=fun w' ⟨O',hq⟩=>Blk.cell (i:=1) ((b1.st hq (by decide)).1) rfl) rfl rfl rfl ?_)
   refine Au ?_
   refine Bz (i:=2) (j:=6) (by kernel_rfl) rfl rfl ?_ ?_
   ·
    refine AM 3 (by decide) O33 (xs:=(([2]:List Int):List Int)) rfl rfl rfl rfl ⟨(vInt (show inI64 (2) from by decide)),trivial⟩ (by decide) (by decide) rfl fun g69 w70 O71 lK h73=>?_
    have hZ:=lK.lst [] (fun _ h=>h.elim)
    refine Az [(3,[4]),(7,[6]),(9,[2])] hZ (by kernel_rfl) ?_
    refine Bz (i:=3) (j:=6) (by kernel_rfl) rfl rfl ?_ ?_
    ·
     obtain ⟨mP,e75,e76⟩:=AB mP
     replace p1:=p1.st lK
     refine AF rfl p1 (h73.rd) rfl rfl (by decide) e75 e76 rfl fun A77 c78 w79 O80 wY h82=>?_
     rw [← mP] at h82 ⊢
     have hZ:=wY.lst [4] (fun _ h=>by cases h;decide)
     refine Az [(7,[6]),(9,[2])] hZ (by kernel_rfl) ?_
     refine AD (fuel:=5) [6] [(8,true)] (by kernel_rfl) rfl ?_
     refine AJ rfl rfl rfl (Au ?_)
     refine At (i:=6) (by kernel_rfl) rfl ?_
     refine AM 5 (by decide) O80 (xs:=(([0]:List Int):List Int)) rfl rfl rfl rfl ⟨(vInt (show inI64 (0) from by decide)),trivial⟩ (by decide) (by decide) rfl fun g84 w85 O86 lV h88=>?_
     have hZ:=lV.lst [] (fun _ h=>h.elim)
     refine Az [(7,[6]),(9,[2])] hZ (by kernel_rfl) ?_
     refine At (i:=7) (by kernel_rfl) rfl ?_
     obtain ⟨nP,e90,e91⟩:=AB nP
     replace o1:=((o1.st lK).st wY).st lV
     refine AF rfl o1 (h88.rd) rfl rfl (by decide) e90 e91 rfl fun A92 c93 w94 O95 xY h97=>?_
     rw [← nP] at h97 ⊢
     have hZ:=xY.lst [6] (fun _ h=>by cases h;decide)
     refine Az [(9,[2])] hZ (by kernel_rfl) ?_
     refine At (i:=9) (by kernel_rfl) rfl ?_
     replace b1:=(((b1.st lK).st wY).st lV).st xY
     refine AA b1 rfl rfl rfl (AG rfl) (allOne rfl) fun w99 mK b1=>?_
     replace b1:Lc 2 w99 O95 fF 26 [(.slice A77 vY.length c78),(.slice h2.2.1.1 w2.2.1.length h2.2.1.2),(.slice h2.2.2.1.1 w2.2.2.1.length h2.2.2.1.2),(.slice h2.2.2.2.1 w2.2.2.2.length h2.2.2.2.2)]:=b1
     have hZ:=mK.lst [2] (fun _ h=>by cases h;decide)
     refine Az [] hZ (by kernel_rfl) ?_
     refine AD (fuel:=1) [] [(10,true)] (by kernel_rfl) rfl ?_
     refine AJ rfl rfl rfl (Au ?_)
     refine At (i:=11) (by kernel_rfl) rfl ?_
     refine AA b1 rfl rfl rfl (AG rfl) (allOne rfl) fun w101 tK b1=>?_
     replace b1:Lc 2 w101 O95 fF 26 [(.slice A77 vY.length c78),(.slice A92 u59.length c93),(.slice h2.2.2.1.1 w2.2.2.1.length h2.2.2.1.2),(.slice h2.2.2.2.1 w2.2.2.2.length h2.2.2.2.2)]:=b1
     refine Be (by kernel_rfl) ?_
     refine AY (by kernel_rfl) ?_
     obtain rfl:=sm kV
     exact ⟨((A77,c78),(A92,c93)),_,⟨rfl,rfl,rfl,rfl,rfl,rfl,trivial⟩,(((((hB.st lK).st wY).st lV).st xY).st mK).st tK,b1,(((h82.st lV).st xY).st mK).st tK,(h97.st mK).st tK,(((((r1.st lK).st wY).st lV).st xY).st mK).st tK,(((((q1.st lK).st wY).st lV).st xY).st mK).st tK⟩
    refine AM 5 (by decide) O71 (xs:=(([0]:List Int):List Int)) rfl rfl rfl rfl ⟨(vInt (show inI64 (0) from by decide)),trivial⟩ (by decide) (by decide) rfl fun g103 w104 O105 iI mV=>?_
    have hZ:=iI.lst [] (fun _ h=>h.elim)
    refine Az [(3,[4]),(7,[6]),(9,[2])] hZ (by kernel_rfl) ?_
    refine At (i:=3) (by kernel_rfl) rfl ?_
    obtain ⟨mP,e109,e110⟩:=AB mP
    replace p1:=(p1.st lK).st iI
    replace h73:=h73.st iI
    refine AF rfl p1 (h73.rd) rfl rfl (by decide) e109 e110 rfl fun nV oV w113 O114 sI zY=>?_
    rw [← mP] at zY ⊢
    have hZ:=sI.lst [4] (fun _ h=>by cases h;decide)
    refine Az [(7,[6]),(9,[2])] hZ (by kernel_rfl) ?_
    refine AD (fuel:=4) [6] [(8,true)] (by kernel_rfl) rfl ?_
    refine AJ rfl rfl rfl (Au ?_)
    refine At (i:=7) (by kernel_rfl) rfl ?_
    obtain ⟨nP,e118,e119⟩:=AB nP
    replace o1:=((o1.st lK).st iI).st sI
    replace mV:=mV.st sI
    refine AF rfl o1 (mV.rd) rfl rfl (by decide) e118 e119 rfl fun aZ bZ w122 cZ nK dZ=>?_
    rw [← nP] at dZ ⊢
    have hZ:=nK.lst [6] (fun _ h=>by cases h;decide)
    refine Az [(9,[2])] hZ (by kernel_rfl) ?_
    refine At (i:=9) (by kernel_rfl) rfl ?_
    replace b1:=(((b1.st lK).st iI).st sI).st nK
    refine AA b1 rfl rfl rfl (AG rfl) (allOne rfl) fun w127 oK b1=>?_
    replace b1:Lc 2 w127 cZ fF 26 [(.slice nV vY.length oV),(.slice h2.2.1.1 w2.2.1.length h2.2.1.2),(.slice h2.2.2.1.1 w2.2.2.1.length h2.2.2.1.2),(.slice h2.2.2.2.1 w2.2.2.2.length h2.2.2.2.2)]:=b1
    have hZ:=oK.lst [2] (fun _ h=>by cases h;decide)
    refine Az [] hZ (by kernel_rfl) ?_
    refine AD (fuel:=1) [] [(10,true)] (by kernel_rfl) rfl ?_
    refine AJ rfl rfl rfl (Au ?_)
    refine At (i:=11) (by kernel_rfl) rfl ?_
    refine AA b1 rfl rfl rfl (AG rfl) (allOne rfl) fun w129 uK b1=>?_
    replace b1:Lc 2 w129 cZ fF 26 [(.slice nV vY.length oV),(.slice aZ u59.length bZ),(.slice h2.2.2.1.1 w2.2.2.1.length h2.2.2.1.2),(.slice h2.2.2.2.1 w2.2.2.2.length h2.2.2.2.2)]:=b1
    refine Be (by kernel_rfl) ?_
    refine AY (by kernel_rfl) ?_
    obtain rfl:=sm kV
    exact ⟨((nV,oV),(aZ,bZ)),_,⟨rfl,rfl,rfl,rfl,rfl,rfl,trivial⟩,(((((hB.st lK).st iI).st sI).st nK).st oK).st uK,b1,((zY.st nK).st oK).st uK,(dZ.st oK).st uK,(((((r1.st lK).st iI).st sI).st nK).st oK).st uK,(((((q1.st lK).st iI).st sI).st nK).st oK).st uK⟩
   refine AM 5 (by decide) O33 (xs:=(([0]:List Int):List Int)) rfl rfl rfl rfl ⟨(vInt (show inI64 (0) from by decide)),trivial⟩ (by decide) (by decide) rfl fun g131 w132 O133 tI pV=>?_
   have hZ:=tI.lst [] (fun _ h=>h.elim)
   refine Az [(3,[4]),(7,[6]),(9,[2])] hZ (by kernel_rfl) ?_
   refine At (i:=2) (by kernel_rfl) rfl ?_
   refine AM 3 (by decide) O133 (xs:=(([2]:List Int):List Int)) rfl rfl rfl rfl ⟨(vInt (show inI64 (2) from by decide)),trivial⟩ (by decide) (by decide) rfl fun g137 w138 O139 jI h141=>?_
   have hZ:=jI.lst [] (fun _ h=>h.elim)
   refine Az [(3,[4]),(7,[6]),(9,[2])] hZ (by kernel_rfl) ?_
   refine At (i:=3) (by kernel_rfl) rfl ?_
   obtain ⟨mP,e143,e144⟩:=AB mP
   replace p1:=(p1.st tI).st jI
   refine AF rfl p1 (h141.rd) rfl rfl (by decide) e143 e144 rfl fun qV rV w147 O148 uI eZ=>?_
   rw [← mP] at eZ ⊢
   have hZ:=uI.lst [4] (fun _ h=>by cases h;decide)
   refine Az [(7,[6]),(9,[2])] hZ (by kernel_rfl) ?_
   refine AD (fuel:=4) [6] [(8,true)] (by kernel_rfl) rfl ?_
   refine AJ rfl rfl rfl (Au ?_)
   refine At (i:=7) (by kernel_rfl) rfl ?_
   obtain ⟨nP,e152,e153⟩:=AB nP
   replace o1:=((o1.st tI).st jI).st uI
   replace pV:=(pV.st jI).st uI
   refine AF rfl o1 (pV.rd) rfl rfl (by decide) e152 e153 rfl fun fZ gZ w156 iZ pK jZ=>?_
   rw [← nP] at jZ ⊢
   have hZ:=pK.lst [6] (fun _ h=>by cases h;decide)
   refine Az [(9,[2])] hZ (by kernel_rfl) ?_
   refine At (i:=9) (by kernel_rfl) rfl ?_
   replace b1:=(((b1.st tI).st jI).st uI).st pK
   refine AA b1 rfl rfl rfl (AG rfl) (allOne rfl) fun w161 qK b1=>?_
   replace b1:Lc 2 w161 iZ fF 26 [(.slice qV vY.length rV),(.slice h2.2.1.1 w2.2.1.length h2.2.1.2),(.slice h2.2.2.1.1 w2.2.2.1.length h2.2.2.1.2),(.slice h2.2.2.2.1 w2.2.2.2.length h2.2.2.2.2)]:=b1
   have hZ:=qK.lst [2] (fun _ h=>by cases h;decide)
   refine Az [] hZ (by kernel_rfl) ?_
   refine AD (fuel:=1) [] [(10,true)] (by kernel_rfl) rfl ?_
   refine AJ rfl rfl rfl (Au ?_)
   refine At (i:=11) (by kernel_rfl) rfl ?_
   refine AA b1 rfl rfl rfl (AG rfl) (allOne rfl) fun w163 vK b1=>?_
   replace b1:Lc 2 w163 iZ fF 26 [(.slice qV vY.length rV),(.slice fZ u59.length gZ),(.slice h2.2.2.1.1 w2.2.2.1.length h2.2.2.1.2),(.slice h2.2.2.2.1 w2.2.2.2.length h2.2.2.2.2)]:=b1
   refine Be (by kernel_rfl) ?_
   refine AY (by kernel_rfl) ?_
   obtain rfl:=sm kV
   exact ⟨((qV,rV),(fZ,gZ)),_,⟨rfl,rfl,rfl,rfl,rfl,rfl,trivial⟩,(((((hB.st tI).st jI).st uI).st pK).st qK).st vK,b1,((eZ.st pK).st qK).st vK,(jZ.st qK).st vK,(((((r1.st tI).st jI).st uI).st pK).st qK).st vK,(((((q1.st tI).st jI).st uI).st pK).st qK).st vK⟩
  rintro l165 w166 ⟨kH,O167,kZ,hB,b1,h65,h67,r1,q1⟩
  refine Bc _ kZ ?_
  refine Al (Aj (AV rfl rfl (AP (hc:=Blk.cell (i:=2) (b1.1) rfl) rfl rfl ?_)))
  refine Ar rfl rfl (CG rfl rfl rfl ?_)
  obtain ⟨lZ,sV,gF⟩:=bs gF
  obtain ⟨sV,e171,e172⟩:=AB sV
  refine El rfl (a:=(⟨(hI:Int),1⟩:Fct)) r1 (Vb.ofAgg (cs:=[(.int .i64 (hI:Int)),(.int .i64 1)]) (x:=(⟨(hI:Int),1⟩:Fct)) rfl ⟨rfl,rk30,(show inI64 (1) from by decide)⟩) (fun _=>rfl) rfl (by decide) (by decide) e171 e172 ⟨rfl,rfl⟩ fun g173 tV uV w176 mZ wK nZ=>?_
  rw [← sV] at nZ ⊢
  refine AV rfl rfl ?_
  replace b1:=b1.st wK
  refine AA b1 rfl rfl rfl (AG rfl) (allOne rfl) fun w181 xK b1=>?_
  replace b1:Lc 2 w181 mZ fF 26 [(.slice kH.1.1 lP.1.length kH.1.2),(.slice kH.2.1 lP.2.length kH.2.2),(.slice tV lZ.length uV),(.slice h2.2.2.2.1 w2.2.2.2.length h2.2.2.2.2)]:=b1
  refine o_z ?_
  refine Aj (AV rfl rfl (AP (hc:=Blk.cell (i:=3) (b1.1) rfl) rfl rfl ?_))
  refine Ar rfl rfl (Ar rfl rfl (CG rfl rfl rfl ?_))
  refine AM 8 (by decide) mZ (xs:=([(⟨(hI:Int),0⟩:Fct)]:List Fct)) rfl rfl rfl rfl ⟨(Vb.ofAgg (cs:=[(.int .i64 (hI:Int)),(.int .i64 0)]) (x:=(⟨(hI:Int),0⟩:Fct)) rfl ⟨rfl,rk30,(show inI64 (0) from by decide)⟩),trivial⟩ (by decide) (by decide) rfl fun g183 w184 O185 rK vI=>?_
  refine Ar rfl rfl (CG rfl rfl rfl ?_)
  refine AM 9 (by decide) O185 (xs:=([(⟨([]:List Fct),(hI:Int),1⟩:Eff)]:List Eff)) rfl rfl rfl rfl ⟨(Vb.ofAgg (cs:=[(.slice none 0 0),(.int .i64 (hI:Int)),(.int .i64 1)]) (x:=(⟨([]:List Fct),(hI:Int),1⟩:Eff)) rfl ⟨_,rfl,(Vb.nil _ _),rk30,(show inI64 (1) from by decide)⟩),trivial⟩ (by decide) (by decide) rfl fun g189 w190 O191 wI yK=>?_
  refine CG rfl rfl rfl ?_
  replace vI:=vI.st wI
  obtain ⟨O195,xI,vI⟩:=vI.freeze
  replace yK:=yK.st xI
  obtain ⟨O197,yI,yK⟩:=yK.freeze
  obtain ⟨u199,vV,gF⟩:=bs gF
  obtain ⟨vV,e201,e202⟩:=AB vV
  replace q1:=(((((q1.st wK).st xK).st rK).st wI).st xI).st yI
  replace vI:=vI.st yI
  refine El rfl (a:=(⟨(⟨#[]⟩:ByteArray),kP,[(⟨(hI:Int),0⟩:Fct)],[(⟨([]:List Fct),(hI:Int),1⟩:Eff)]⟩:Opr)) q1 (Vb.ofAgg (cs:=[(.string (⟨#[]⟩:ByteArray)),(.int .i64 kP),(.slice (some ⟨g183,0,none⟩) [(⟨(hI:Int),0⟩:Fct)].length 1),(.slice (some ⟨g189,0,none⟩) [(⟨([]:List Fct),(hI:Int),1⟩:Eff)].length 1)]) (x:=(⟨(⟨#[]⟩:ByteArray),kP,[(⟨(hI:Int),0⟩:Fct)],[(⟨([]:List Fct),(hI:Int),1⟩:Eff)]⟩:Opr)) rfl ⟨_,_,rfl,vI,yK,r18,(show (⟨#[]⟩:ByteArray).size≤9223372036854775807 from by decide)⟩) (fun _=>rfl) rfl (by decide) (by decide) e201 e202 ⟨rfl,rfl⟩ fun g203 oZ pZ w206 O207 zK qZ=>?_
  rw [← vV] at qZ ⊢
  refine AV rfl rfl ?_
  replace b1:=((((b1.st rK).st wI).st xI).st yI).st zK
  refine AA b1 rfl rfl rfl (AG rfl) (allOne rfl) fun w211 aL b1=>?_
  replace b1:Lc 2 w211 O207 fF 26 [(.slice kH.1.1 lP.1.length kH.1.2),(.slice kH.2.1 lP.2.length kH.2.2),(.slice tV lZ.length uV),(.slice oZ u199.length pZ)]:=b1
  refine o_z ?_
  obtain rfl:=sm gF
  exact show Exists _ from ⟨_,((kH.1.1,kH.1.2),(kH.2.1,kH.2.2),(tV,uV),(oZ,pZ)),rfl,⟨rfl,rfl,rfl,rfl,rfl,trivial⟩,_,(((((((hB.st wK).st xK).st rK).st wI).st xI).st yI).st zK).st aL,b1,(((((((h65.st wK).st xK).st rK).st wI).st xI).st yI).st zK).st aL,(((((((h67.st wK).st xK).st rK).st wI).st xI).st yI).st zK).st aL,((((((nZ.st xK).st rK).st wI).st xI).st yI).st zK).st aL,qZ.st aL⟩
 replace hB:=((hB.st S7).st S22).st S25
 rintro l213 w214 ⟨a1,s0,rfl,rZ,O215,hB,b1,p1,o1,r1,q1⟩
 replace hm:=Bq hm
 refine Bc _ rZ ?_
 refine Al (Aj (Ay rfl rfl (o_z ?_)))
 refine Al (Al (Aj (Ar rfl rfl ?_)))
 obtain ⟨n219,sZ,hm⟩:=bs hm
 have tZ:=(BI sZ)
 refine FY (he:=sZ) rfl rfl rfl ?_
 refine Ar rfl rfl (o_z ?_)
 obtain ⟨wV,kI,hm⟩:=bs hm
 replace kI:=Hj kI
 obtain ⟨xV,uZ,hm⟩:=bs hm
 refine AU (aft xV (fun (oA:(List Swp)) (n3:(Option Addr×Nat))=>[(5,(.int .i64 jV)),(6,(.int .i64 kP)),(7,(.pointer (some ⟨fF,0,none⟩))),(9,(.slice n3.1 oA.length n3.2))]) (fun oA n3 w'=>∃ O':Lab,Bs w A w' O'∧Lc 2 w' O' fF 26 [(.slice s0.1.1 a1.1.length s0.1.2),(.slice s0.2.1.1 a1.2.1.length s0.2.1.2),(.slice s0.2.2.1.1 a1.2.2.1.length s0.2.2.1.2),(.slice s0.2.2.2.1 a1.2.2.2.length s0.2.2.2.2)]∧Rw 4 w' O' 3 (.slice s0.1.1 a1.1.length s0.1.2) a1.1∧Rw 6 w' O' 3 (.slice s0.2.1.1 a1.2.1.length s0.2.1.2) a1.2.1∧Rw 7 w' O' 45 (.slice s0.2.2.1.1 a1.2.2.1.length s0.2.2.1.2) a1.2.2.1∧Rw 10 w' O' 50 (.slice s0.2.2.2.1 a1.2.2.2.length s0.2.2.2.2) a1.2.2.2∧Rw 19 w' O' 53 (.slice n3.1 oA.length n3.2) oA)) ?_ ?_
 ·
  refine Bf (GB (σ:=(List Swp)) (X:=(Option Addr×Nat)) wV uZ (FD kI tZ) (fun (oA:(List Swp)) (n3:(Option Addr×Nat))=>[(5,(.int .i64 jV)),(6,(.int .i64 kP)),(7,(.pointer (some ⟨fF,0,none⟩))),(9,(.slice n3.1 oA.length n3.2))]) _ (fun oA n3 w'=>∃ O':Lab,Bs w A w' O'∧Lc 2 w' O' fF 26 [(.slice s0.1.1 a1.1.length s0.1.2),(.slice s0.2.1.1 a1.2.1.length s0.2.1.2),(.slice s0.2.2.1.1 a1.2.2.1.length s0.2.2.1.2),(.slice s0.2.2.2.1 a1.2.2.2.length s0.2.2.2.2)]∧Rw 4 w' O' 3 (.slice s0.1.1 a1.1.length s0.1.2) a1.1∧Rw 6 w' O' 3 (.slice s0.2.1.1 a1.2.1.length s0.2.1.2) a1.2.1∧Rw 7 w' O' 45 (.slice s0.2.2.1.1 a1.2.2.1.length s0.2.2.1.2) a1.2.2.1∧Rw 10 w' O' 50 (.slice s0.2.2.2.1 a1.2.2.2.length s0.2.2.2.2) a1.2.2.2∧Rw 19 w' O' 53 (.slice n3.1 oA.length n3.2) oA) _ (none,0) ⟨O215,hB,b1,p1,o1,r1,q1,(Rw.nil 19 (by decide))⟩ ⟨rfl,(congrArg (fun z=>some (Value.int .i64 z)) kI),rfl,rfl,rfl,rfl,trivial⟩ (fun _ _=>⟨rfl,rfl⟩) (fun _ _=>⟨rfl,rfl,rfl,rfl,trivial⟩) (fun _ _ _ ⟨O',hB,b1,p1,o1,r1,q1,z0⟩=>⟨O',hB,b1,p1,o1,r1,q1,z0⟩) ⟨rfl,rfl,rfl⟩ ⟨rfl,rfl⟩ ?_)
  rintro aC oA n3 w228 cc230 vZ ⟨O229,hB,b1,p1,o1,r1,q1,z0⟩ s1 hret233 hbrk234
  have rk226:inI64 (aC:Int):=rngKN vZ (FD kI tZ)
  refine Al (Aj (Ar rfl rfl (Ay rfl rfl (o_z ?_))))
  refine Al (Aj (CG rfl rfl rfl ?_))
  refine Bk 11 O229 rfl fun i0 w242 wZ bC a0=>?_
  refine AA a0 rfl rfl rfl (AG rfl) (allOne rfl) fun w246 cC a0=>?_
  replace a0:Lc 11 w246 wZ i0 53 [(.slice none 0 0),(.slice none 0 0),(.slice none 0 0)]:=a0
  refine o_z ?_
  refine Al (Al (Aj (Ar rfl rfl (Ar rfl rfl (o_z ?_)))))
  obtain ⟨N261,lI,s1⟩:=bs s1
  replace lI:=Hj lI
  obtain ⟨yV,xZ,s1⟩:=bs s1
  refine AU (aft yV (fun (f0:(List Int)×(List (List Int))×(List Int)) (b0:(Option Addr×Nat)×(Option Addr×Nat)×(Option Addr×Nat))=>[(5,(.int .i64 jV)),(6,(.int .i64 kP)),(7,(.pointer (some ⟨fF,0,none⟩))),(9,(.slice n3.1 oA.length n3.2)),(10,(.int .i64 (aC:Int))),(11,(.pointer (some ⟨i0,0,none⟩))),(61,(.int .i64 (wV:Int))),(62,(.int .i64 (aC:Int)))]) (fun f0 b0 w'=>∃ O':Lab,Bs w A w' O'∧Lc 2 w' O' fF 26 [(.slice s0.1.1 a1.1.length s0.1.2),(.slice s0.2.1.1 a1.2.1.length s0.2.1.2),(.slice s0.2.2.1.1 a1.2.2.1.length s0.2.2.1.2),(.slice s0.2.2.2.1 a1.2.2.2.length s0.2.2.2.2)]∧Rw 4 w' O' 3 (.slice s0.1.1 a1.1.length s0.1.2) a1.1∧Rw 6 w' O' 3 (.slice s0.2.1.1 a1.2.1.length s0.2.1.2) a1.2.1∧Rw 7 w' O' 45 (.slice s0.2.2.1.1 a1.2.2.1.length s0.2.2.1.2) a1.2.2.1∧Rw 10 w' O' 50 (.slice s0.2.2.2.1 a1.2.2.2.length s0.2.2.2.2) a1.2.2.2∧Rw 19 w' O' 53 (.slice n3.1 oA.length n3.2) oA∧Lc 11 w' O' i0 53 [(.slice b0.1.1 f0.1.length b0.1.2),(.slice b0.2.1.1 f0.2.1.length b0.2.1.2),(.slice b0.2.2.1 f0.2.2.length b0.2.2.2)]∧Rw 13 w' O' 3 (.slice b0.1.1 f0.1.length b0.1.2) f0.1∧Rw 18 w' O' 22 (.slice b0.2.1.1 f0.2.1.length b0.2.1.2) f0.2.1∧Rw 15 w' O' 3 (.slice b0.2.2.1 f0.2.2.length b0.2.2.2) f0.2.2)) ?_ ?_
  ·
   refine Bf ?_
   replace hB:=(hB.st bC).st cC
   replace b1:=(b1.st bC).st cC
   replace p1:=(p1.st bC).st cC
   replace o1:=(o1.st bC).st cC
   replace r1:=(r1.st bC).st cC
   replace q1:=(q1.st bC).st cC
   replace z0:=(z0.st bC).st cC
   refine GB (σ:=(List Int)×(List (List Int))×(List Int)) (X:=(Option Addr×Nat)×(Option Addr×Nat)×(Option Addr×Nat)) N261 xZ (FD lI r15) (fun (f0:(List Int)×(List (List Int))×(List Int)) (b0:(Option Addr×Nat)×(Option Addr×Nat)×(Option Addr×Nat))=>[(5,(.int .i64 jV)),(6,(.int .i64 kP)),(7,(.pointer (some ⟨fF,0,none⟩))),(9,(.slice n3.1 oA.length n3.2)),(10,(.int .i64 (aC:Int))),(11,(.pointer (some ⟨i0,0,none⟩))),(61,(.int .i64 (wV:Int))),(62,(.int .i64 (aC:Int)))]) _ (fun f0 b0 w'=>∃ O':Lab,Bs w A w' O'∧Lc 2 w' O' fF 26 [(.slice s0.1.1 a1.1.length s0.1.2),(.slice s0.2.1.1 a1.2.1.length s0.2.1.2),(.slice s0.2.2.1.1 a1.2.2.1.length s0.2.2.1.2),(.slice s0.2.2.2.1 a1.2.2.2.length s0.2.2.2.2)]∧Rw 4 w' O' 3 (.slice s0.1.1 a1.1.length s0.1.2) a1.1∧Rw 6 w' O' 3 (.slice s0.2.1.1 a1.2.1.length s0.2.1.2) a1.2.1∧Rw 7 w' O' 45 (.slice s0.2.2.1.1 a1.2.2.1.length s0.2.2.1.2) a1.2.2.1∧Rw 10 w' O' 50 (.slice s0.2.2.2.1 a1.2.2.2.length s0.2.2.2.2) a1.2.2.2∧Rw 19 w' O' 53 (.slice n3.1 oA.length n3.2) oA∧Lc 11 w' O' i0 53 [(.slice b0.1.1 f0.1.length b0.1.2),(.slice b0.2.1.1 f0.2.1.length b0.2.1.2),(.slice b0.2.2.1 f0.2.2.length b0.2.2.2)]∧Rw 13 w' O' 3 (.slice b0.1.1 f0.1.length b0.1.2) f0.1∧Rw 18 w' O' 22 (.slice b0.2.1.1 f0.2.1.length b0.2.1.2) f0.2.1∧Rw 15 w' O' 3 (.slice b0.2.2.1 f0.2.2.length b0.2.2.2) f0.2.2) _ ((none,0),(none,0),(none,0)) ⟨wZ,hB,b1,p1,o1,r1,q1,z0,a0,(Rw.nil 13 (by decide)),(Rw.nil 18 (by decide)),(Rw.nil 15 (by decide))⟩ ⟨rfl,(congrArg (fun z=>some (Value.int .i64 z)) lI),rfl,rfl,rfl,rfl,rfl,rfl,rfl,rfl,trivial⟩ (fun _ _=>⟨rfl,rfl⟩) (fun _ _=>⟨rfl,rfl,rfl,rfl,rfl,rfl,rfl,rfl,trivial⟩) (fun _ _ _ ⟨O',hB,b1,p1,o1,r1,q1,z0,a0,o0,h0,g0⟩=>⟨O',hB,b1,p1,o1,r1,q1,z0,a0,o0,h0,g0⟩) ⟨rfl,rfl,rfl⟩ ⟨rfl,rfl⟩ ?_
   rintro n2 f0 b0 w254 cc256 yZ ⟨oP,hB,b1,p1,o1,r1,q1,z0,a0,o0,h0,g0⟩ u0 hret259 hbrk260
   have rk252:inI64 (n2:Int):=rngKN yZ (FD lI r15)
   refine Al (Aj (Ar rfl rfl (Ay rfl rfl (o_z ?_))))
   obtain ⟨k0,t0,u0⟩:=bs u0
   obtain ⟨q0,l0,u0⟩:=bs u0
   obtain ⟨m1,m0,u0⟩:=bs u0
   refine Bw [(4,[13]),(9,[15]),(13,[16]),(14,[18]),(16,[11]),(18,[11])] oP ?_
   refine AD (fuel:=18) [16] [(0,true),(1,true),(2,true)] (by kernel_rfl) rfl ?_
   refine AJ rfl rfl rfl (Bb (hc:=fun w' ⟨O',hq⟩=>Blk.cell (i:=0) ((a0.st hq (by decide)).1) rfl) rfl rfl rfl ?_)
   refine AW rfl rfl rfl (Au ?_)
   refine AD (fuel:=15) [13,16] [(5,true),(6,true),(7,true)] (by kernel_rfl) rfl ?_
   refine AJ rfl rfl rfl (Bb (hc:=fun w' ⟨O',hq⟩=>Blk.cell (i:=2) ((a0.st hq (by decide)).1) rfl) rfl rfl rfl ?_)
   refine AW rfl rfl rfl (Au ?_)
   refine AD (fuel:=13) [13,15,16] [(10,true),(11,true)] (by kernel_rfl) rfl ?_
   refine AJ rfl rfl rfl (Bb (hc:=fun w' ⟨O',hq⟩=>Blk.cell (i:=1) ((a0.st hq (by decide)).1) rfl) rfl rfl rfl ?_)
   refine Au ?_
   refine EZ (i:=3) (j:=8) (k:=12) (by kernel_rfl) rfl rfl rfl ?_ ?_ ?_
   ·
    refine AM 12 (by decide) oP (xs:=(([(n2:Int)]:List Int):List Int)) rfl rfl rfl rfl ⟨(vInt rk252),trivial⟩ (by decide) (by decide) rfl fun g281 w282 zZ d0 p2=>?_
    have hZ:=d0.lst [] (fun _ h=>h.elim)
    refine Az [(4,[13]),(9,[15]),(13,[16]),(14,[18]),(16,[11]),(18,[11])] hZ (by kernel_rfl) ?_
    refine EZ (i:=4) (j:=8) (k:=12) (by kernel_rfl) rfl rfl rfl ?_ ?_ ?_
    ·
     obtain ⟨t0,e287,e288⟩:=AB t0
     replace o0:=o0.st d0
     refine AF rfl o0 (p2.rd) rfl rfl (by decide) e287 e288 rfl fun x2 y2 w291 O292 c1 zI=>?_
     rw [← t0] at zI ⊢
     have hZ:=c1.lst [13] (fun _ h=>by cases h;decide)
     refine Az [(9,[15]),(13,[16]),(14,[18]),(16,[11]),(18,[11])] hZ (by kernel_rfl) ?_
     refine AD (fuel:=10) [15,16,18] [(15,true)] (by kernel_rfl) rfl ?_
     refine AJ rfl rfl rfl (Au ?_)
     refine Bz (i:=8) (j:=12) (by kernel_rfl) rfl rfl ?_ ?_
     ·
      refine AM 14 (by decide) O292 (xs:=(([(n2:Int)]:List Int):List Int)) rfl rfl rfl rfl ⟨(vInt rk252),trivial⟩ (by decide) (by decide) rfl fun g296 w297 O298 i2 aJ=>?_
      have hZ:=i2.lst [] (fun _ h=>h.elim)
      refine Az [(9,[15]),(13,[16]),(14,[18]),(16,[11]),(18,[11])] hZ (by kernel_rfl) ?_
      refine Bz (i:=9) (j:=12) (by kernel_rfl) rfl rfl ?_ ?_
      ·
       obtain ⟨l0,e302,e303⟩:=AB l0
       replace g0:=((g0.st d0).st c1).st i2
       refine AF rfl g0 (aJ.rd) rfl rfl (by decide) e302 e303 rfl fun zV aW w306 O307 hF h309=>?_
       rw [← l0] at h309 ⊢
       have hZ:=hF.lst [15] (fun _ h=>by cases h;decide)
       refine Az [(13,[16]),(14,[18]),(16,[11]),(18,[11])] hZ (by kernel_rfl) ?_
       refine At (i:=12) (by kernel_rfl) rfl ?_
       refine AM 16 (by decide) O307 (xs:=(([0,1]:List Int):List Int)) rfl rfl rfl rfl ⟨(vInt (show inI64 (0) from by decide)),(vInt (show inI64 (1) from by decide)),trivial⟩ (by decide) (by decide) rfl fun g311 w312 O313 pD bW=>?_
       have hZ:=pD.lst [] (fun _ h=>h.elim)
       refine Az [(13,[16]),(14,[18]),(16,[11]),(18,[11])] hZ (by kernel_rfl) ?_
       refine At (i:=13) (by kernel_rfl) rfl ?_
       obtain ⟨O317,qD,bW⟩:=bW.freeze
       have hZ:=qD.lst [16] (fun _ h=>by cases h;decide)
       refine AM 17 (by decide) O317 (xs:=([([0,1]:List Int)]:List (List Int))) rfl rfl rfl rfl ⟨bW,trivial⟩ (by decide) (by decide) rfl fun g319 w320 O321 rD h323=>?_
       replace hZ:=hZ.cmp rD [16] (fun _ h=>h.elim) rfl
       refine Az [(14,[18]),(16,[11]),(18,[11])] hZ (by kernel_rfl) ?_
       refine At (i:=14) (by kernel_rfl) rfl ?_
       obtain ⟨m0,e325,e326⟩:=AB m0
       replace h0:=((((((h0.st d0).st c1).st i2).st hF).st pD).st qD).st rD
       refine AF rfl h0 (h323.rd) rfl rfl (by decide) e325 e326 rfl fun A327 c328 w329 cW jF h332=>?_
       rw [← m0] at h332 ⊢
       have hZ:=jF.lst [18] (fun _ h=>by cases h;decide)
       refine Az [(16,[11]),(18,[11])] hZ (by kernel_rfl) ?_
       refine At (i:=16) (by kernel_rfl) rfl ?_
       replace a0:=(((((((a0.st d0).st c1).st i2).st hF).st pD).st qD).st rD).st jF
       refine AA a0 rfl rfl rfl (AG rfl) (allOne rfl) fun w334 kF a0=>?_
       replace a0:Lc 11 w334 cW i0 53 [(.slice x2 k0.length y2),(.slice b0.2.1.1 f0.2.1.length b0.2.1.2),(.slice b0.2.2.1 f0.2.2.length b0.2.2.2)]:=a0
       have hZ:=kF.lst [11] (fun _ h=>by cases h;decide)
       refine Az [(18,[11])] hZ (by kernel_rfl) ?_
       refine AD (fuel:=3) [] [(17,true)] (by kernel_rfl) rfl ?_
       refine AJ rfl rfl rfl (Au ?_)
       refine At (i:=18) (by kernel_rfl) rfl ?_
       refine AA a0 rfl rfl rfl (AG rfl) (allOne rfl) fun w336 lF a0=>?_
       replace a0:Lc 11 w336 cW i0 53 [(.slice x2 k0.length y2),(.slice b0.2.1.1 f0.2.1.length b0.2.1.2),(.slice zV q0.length aW)]:=a0
       have hZ:=lF.lst [11] (fun _ h=>by cases h;decide)
       refine Az [] hZ (by kernel_rfl) ?_
       refine AD (fuel:=1) [] [(19,true)] (by kernel_rfl) rfl ?_
       refine AJ rfl rfl rfl (Au ?_)
       refine At (i:=20) (by kernel_rfl) rfl ?_
       refine AA a0 rfl rfl rfl (AG rfl) (allOne rfl) fun w338 lH a0=>?_
       replace a0:Lc 11 w338 cW i0 53 [(.slice x2 k0.length y2),(.slice A327 m1.length c328),(.slice zV q0.length aW)]:=a0
       refine Be (by kernel_rfl) ?_
       refine AY (by kernel_rfl) ?_
       obtain rfl:=sm u0
       exact show Exists _ from ⟨_,((x2,y2),(A327,c328),(zV,aW)),rfl,⟨rfl,rfl,rfl,rfl,rfl,rfl,rfl,rfl,rfl,rfl,trivial⟩,_,((((((((((hB.st d0).st c1).st i2).st hF).st pD).st qD).st rD).st jF).st kF).st lF).st lH,((((((((((b1.st d0).st c1).st i2).st hF).st pD).st qD).st rD).st jF).st kF).st lF).st lH,((((((((((p1.st d0).st c1).st i2).st hF).st pD).st qD).st rD).st jF).st kF).st lF).st lH,((((((((((o1.st d0).st c1).st i2).st hF).st pD).st qD).st rD).st jF).st kF).st lF).st lH,((((((((((r1.st d0).st c1).st i2).st hF).st pD).st qD).st rD).st jF).st kF).st lF).st lH,((((((((((q1.st d0).st c1).st i2).st hF).st pD).st qD).st rD).st jF).st kF).st lF).st lH,((((((((((z0.st d0).st c1).st i2).st hF).st pD).st qD).st rD).st jF).st kF).st lF).st lH,a0,((((((((zI.st i2).st hF).st pD).st qD).st rD).st jF).st kF).st lF).st lH,((h332.st kF).st lF).st lH,((((((h309.st pD).st qD).st rD).st jF).st kF).st lF).st lH⟩
      refine AM 16 (by decide) O298 (xs:=(([0,1]:List Int):List Int)) rfl rfl rfl rfl ⟨(vInt (show inI64 (0) from by decide)),(vInt (show inI64 (1) from by decide)),trivial⟩ (by decide) (by decide) rfl fun g340 w341 O342 q2 mI=>?_
      have hZ:=q2.lst [] (fun _ h=>h.elim)
      refine Az [(9,[15]),(13,[16]),(14,[18]),(16,[11]),(18,[11])] hZ (by kernel_rfl) ?_
      refine Bz (i:=9) (j:=13) (by kernel_rfl) rfl rfl ?_ ?_
      ·
       obtain ⟨l0,e346,e347⟩:=AB l0
       replace g0:=(((g0.st d0).st c1).st i2).st q2
       replace aJ:=aJ.st q2
       refine AF rfl g0 (aJ.rd) rfl rfl (by decide) e346 e347 rfl fun dW eW w350 O351 sD h353=>?_
       rw [← l0] at h353 ⊢
       have hZ:=sD.lst [15] (fun _ h=>by cases h;decide)
       refine Az [(13,[16]),(14,[18]),(16,[11]),(18,[11])] hZ (by kernel_rfl) ?_
       refine At (i:=13) (by kernel_rfl) rfl ?_
       replace mI:=mI.st sD
       obtain ⟨O355,tD,mI⟩:=mI.freeze
       have hZ:=tD.lst [16] (fun _ h=>by cases h;decide)
       refine AM 17 (by decide) O355 (xs:=([([0,1]:List Int)]:List (List Int))) rfl rfl rfl rfl ⟨mI,trivial⟩ (by decide) (by decide) rfl fun g357 w358 O359 uD h361=>?_
       replace hZ:=hZ.cmp uD [16] (fun _ h=>h.elim) rfl
       refine Az [(14,[18]),(16,[11]),(18,[11])] hZ (by kernel_rfl) ?_
       refine At (i:=14) (by kernel_rfl) rfl ?_
       obtain ⟨m0,e363,e364⟩:=AB m0
       replace h0:=((((((h0.st d0).st c1).st i2).st q2).st sD).st tD).st uD
       refine AF rfl h0 (h361.rd) rfl rfl (by decide) e363 e364 rfl fun A365 c366 w367 fW mF h370=>?_
       rw [← m0] at h370 ⊢
       have hZ:=mF.lst [18] (fun _ h=>by cases h;decide)
       refine Az [(16,[11]),(18,[11])] hZ (by kernel_rfl) ?_
       refine At (i:=16) (by kernel_rfl) rfl ?_
       replace a0:=(((((((a0.st d0).st c1).st i2).st q2).st sD).st tD).st uD).st mF
       refine AA a0 rfl rfl rfl (AG rfl) (allOne rfl) fun w372 nF a0=>?_
       replace a0:Lc 11 w372 fW i0 53 [(.slice x2 k0.length y2),(.slice b0.2.1.1 f0.2.1.length b0.2.1.2),(.slice b0.2.2.1 f0.2.2.length b0.2.2.2)]:=a0
       have hZ:=nF.lst [11] (fun _ h=>by cases h;decide)
       refine Az [(18,[11])] hZ (by kernel_rfl) ?_
       refine AD (fuel:=3) [] [(17,true)] (by kernel_rfl) rfl ?_
       refine AJ rfl rfl rfl (Au ?_)
       refine At (i:=18) (by kernel_rfl) rfl ?_
       refine AA a0 rfl rfl rfl (AG rfl) (allOne rfl) fun w374 oF a0=>?_
       replace a0:Lc 11 w374 fW i0 53 [(.slice x2 k0.length y2),(.slice b0.2.1.1 f0.2.1.length b0.2.1.2),(.slice dW q0.length eW)]:=a0
       have hZ:=oF.lst [11] (fun _ h=>by cases h;decide)
       refine Az [] hZ (by kernel_rfl) ?_
       refine AD (fuel:=1) [] [(19,true)] (by kernel_rfl) rfl ?_
       refine AJ rfl rfl rfl (Au ?_)
       refine At (i:=20) (by kernel_rfl) rfl ?_
       refine AA a0 rfl rfl rfl (AG rfl) (allOne rfl) fun w376 mH a0=>?_
       replace a0:Lc 11 w376 fW i0 53 [(.slice x2 k0.length y2),(.slice A365 m1.length c366),(.slice dW q0.length eW)]:=a0
       refine Be (by kernel_rfl) ?_
       refine AY (by kernel_rfl) ?_
       obtain rfl:=sm u0
       exact show Exists _ from ⟨_,((x2,y2),(A365,c366),(dW,eW)),rfl,⟨rfl,rfl,rfl,rfl,rfl,rfl,rfl,rfl,rfl,rfl,trivial⟩,_,((((((((((hB.st d0).st c1).st i2).st q2).st sD).st tD).st uD).st mF).st nF).st oF).st mH,((((((((((b1.st d0).st c1).st i2).st q2).st sD).st tD).st uD).st mF).st nF).st oF).st mH,((((((((((p1.st d0).st c1).st i2).st q2).st sD).st tD).st uD).st mF).st nF).st oF).st mH,((((((((((o1.st d0).st c1).st i2).st q2).st sD).st tD).st uD).st mF).st nF).st oF).st mH,((((((((((r1.st d0).st c1).st i2).st q2).st sD).st tD).st uD).st mF).st nF).st oF).st mH,((((((((((q1.st d0).st c1).st i2).st q2).st sD).st tD).st uD).st mF).st nF).st oF).st mH,((((((((((z0.st d0).st c1).st i2).st q2).st sD).st tD).st uD).st mF).st nF).st oF).st mH,a0,((((((((zI.st i2).st q2).st sD).st tD).st uD).st mF).st nF).st oF).st mH,((h370.st nF).st oF).st mH,(((((h353.st tD).st uD).st mF).st nF).st oF).st mH⟩
      obtain ⟨O378,nC,mI⟩:=mI.freeze
      have hZ:=nC.lst [16] (fun _ h=>by cases h;decide)
      refine AM 17 (by decide) O378 (xs:=([([0,1]:List Int)]:List (List Int))) rfl rfl rfl rfl ⟨mI,trivial⟩ (by decide) (by decide) rfl fun g380 w381 O382 oC gW=>?_
      replace hZ:=hZ.cmp oC [16] (fun _ h=>h.elim) rfl
      refine Az [(9,[15]),(14,[18]),(16,[11]),(18,[11])] hZ (by kernel_rfl) ?_
      refine At (i:=9) (by kernel_rfl) rfl ?_
      obtain ⟨l0,e386,e387⟩:=AB l0
      replace g0:=(((((g0.st d0).st c1).st i2).st q2).st nC).st oC
      replace aJ:=((aJ.st q2).st nC).st oC
      refine AF rfl g0 (aJ.rd) rfl rfl (by decide) e386 e387 rfl fun hW iW w390 O391 vD h393=>?_
      rw [← l0] at h393 ⊢
      have hZ:=vD.lst [15] (fun _ h=>by cases h;decide)
      refine Az [(14,[18]),(16,[11]),(18,[11])] hZ (by kernel_rfl) ?_
      refine At (i:=14) (by kernel_rfl) rfl ?_
      obtain ⟨m0,e395,e396⟩:=AB m0
      replace h0:=((((((h0.st d0).st c1).st i2).st q2).st nC).st oC).st vD
      replace gW:=gW.st vD
      refine AF rfl h0 (gW.rd) rfl rfl (by decide) e395 e396 rfl fun A397 c398 w399 jW pF h402=>?_
      rw [← m0] at h402 ⊢
      have hZ:=pF.lst [18] (fun _ h=>by cases h;decide)
      refine Az [(16,[11]),(18,[11])] hZ (by kernel_rfl) ?_
      refine At (i:=16) (by kernel_rfl) rfl ?_
      replace a0:=(((((((a0.st d0).st c1).st i2).st q2).st nC).st oC).st vD).st pF
      refine AA a0 rfl rfl rfl (AG rfl) (allOne rfl) fun w404 qF a0=>?_
      replace a0:Lc 11 w404 jW i0 53 [(.slice x2 k0.length y2),(.slice b0.2.1.1 f0.2.1.length b0.2.1.2),(.slice b0.2.2.1 f0.2.2.length b0.2.2.2)]:=a0
      have hZ:=qF.lst [11] (fun _ h=>by cases h;decide)
      refine Az [(18,[11])] hZ (by kernel_rfl) ?_
      refine AD (fuel:=3) [] [(17,true)] (by kernel_rfl) rfl ?_
      refine AJ rfl rfl rfl (Au ?_)
      refine At (i:=18) (by kernel_rfl) rfl ?_
      refine AA a0 rfl rfl rfl (AG rfl) (allOne rfl) fun w406 rF a0=>?_
      replace a0:Lc 11 w406 jW i0 53 [(.slice x2 k0.length y2),(.slice b0.2.1.1 f0.2.1.length b0.2.1.2),(.slice hW q0.length iW)]:=a0
      have hZ:=rF.lst [11] (fun _ h=>by cases h;decide)
      refine Az [] hZ (by kernel_rfl) ?_
      refine AD (fuel:=1) [] [(19,true)] (by kernel_rfl) rfl ?_
      refine AJ rfl rfl rfl (Au ?_)
      refine At (i:=20) (by kernel_rfl) rfl ?_
      refine AA a0 rfl rfl rfl (AG rfl) (allOne rfl) fun w408 nH a0=>?_
      replace a0:Lc 11 w408 jW i0 53 [(.slice x2 k0.length y2),(.slice A397 m1.length c398),(.slice hW q0.length iW)]:=a0
      refine Be (by kernel_rfl) ?_
      refine AY (by kernel_rfl) ?_
      obtain rfl:=sm u0
      exact show Exists _ from ⟨_,((x2,y2),(A397,c398),(hW,iW)),rfl,⟨rfl,rfl,rfl,rfl,rfl,rfl,rfl,rfl,rfl,rfl,trivial⟩,_,((((((((((hB.st d0).st c1).st i2).st q2).st nC).st oC).st vD).st pF).st qF).st rF).st nH,((((((((((b1.st d0).st c1).st i2).st q2).st nC).st oC).st vD).st pF).st qF).st rF).st nH,((((((((((p1.st d0).st c1).st i2).st q2).st nC).st oC).st vD).st pF).st qF).st rF).st nH,((((((((((o1.st d0).st c1).st i2).st q2).st nC).st oC).st vD).st pF).st qF).st rF).st nH,((((((((((r1.st d0).st c1).st i2).st q2).st nC).st oC).st vD).st pF).st qF).st rF).st nH,((((((((((q1.st d0).st c1).st i2).st q2).st nC).st oC).st vD).st pF).st qF).st rF).st nH,((((((((((z0.st d0).st c1).st i2).st q2).st nC).st oC).st vD).st pF).st qF).st rF).st nH,a0,((((((((zI.st i2).st q2).st nC).st oC).st vD).st pF).st qF).st rF).st nH,((h402.st qF).st rF).st nH,(((h393.st pF).st qF).st rF).st nH⟩
     refine AM 16 (by decide) O292 (xs:=(([0,1]:List Int):List Int)) rfl rfl rfl rfl ⟨(vInt (show inI64 (0) from by decide)),(vInt (show inI64 (1) from by decide)),trivial⟩ (by decide) (by decide) rfl fun g410 w411 O412 j2 pC=>?_
     have hZ:=j2.lst [] (fun _ h=>h.elim)
     refine Az [(9,[15]),(13,[16]),(14,[18]),(16,[11]),(18,[11])] hZ (by kernel_rfl) ?_
     refine Bz (i:=8) (j:=13) (by kernel_rfl) rfl rfl ?_ ?_
     ·
      refine AM 14 (by decide) O412 (xs:=(([(n2:Int)]:List Int):List Int)) rfl rfl rfl rfl ⟨(vInt rk252),trivial⟩ (by decide) (by decide) rfl fun g416 w417 O418 r2 pP=>?_
      have hZ:=r2.lst [] (fun _ h=>h.elim)
      refine Az [(9,[15]),(13,[16]),(14,[18]),(16,[11]),(18,[11])] hZ (by kernel_rfl) ?_
      refine Bz (i:=9) (j:=13) (by kernel_rfl) rfl rfl ?_ ?_
      ·
       obtain ⟨l0,e422,e423⟩:=AB l0
       replace g0:=(((g0.st d0).st c1).st j2).st r2
       refine AF rfl g0 (pP.rd) rfl rfl (by decide) e422 e423 rfl fun kW lW w426 O427 wD h429=>?_
       rw [← l0] at h429 ⊢
       have hZ:=wD.lst [15] (fun _ h=>by cases h;decide)
       refine Az [(13,[16]),(14,[18]),(16,[11]),(18,[11])] hZ (by kernel_rfl) ?_
       refine At (i:=13) (by kernel_rfl) rfl ?_
       replace pC:=(pC.st r2).st wD
       obtain ⟨O431,xD,pC⟩:=pC.freeze
       have hZ:=xD.lst [16] (fun _ h=>by cases h;decide)
       refine AM 17 (by decide) O431 (xs:=([([0,1]:List Int)]:List (List Int))) rfl rfl rfl rfl ⟨pC,trivial⟩ (by decide) (by decide) rfl fun g433 w434 O435 yD h437=>?_
       replace hZ:=hZ.cmp yD [16] (fun _ h=>h.elim) rfl
       refine Az [(14,[18]),(16,[11]),(18,[11])] hZ (by kernel_rfl) ?_
       refine At (i:=14) (by kernel_rfl) rfl ?_
       obtain ⟨m0,e439,e440⟩:=AB m0
       replace h0:=((((((h0.st d0).st c1).st j2).st r2).st wD).st xD).st yD
       refine AF rfl h0 (h437.rd) rfl rfl (by decide) e439 e440 rfl fun A441 c442 w443 mW sF h446=>?_
       rw [← m0] at h446 ⊢
       have hZ:=sF.lst [18] (fun _ h=>by cases h;decide)
       refine Az [(16,[11]),(18,[11])] hZ (by kernel_rfl) ?_
       refine At (i:=16) (by kernel_rfl) rfl ?_
       replace a0:=(((((((a0.st d0).st c1).st j2).st r2).st wD).st xD).st yD).st sF
       refine AA a0 rfl rfl rfl (AG rfl) (allOne rfl) fun w448 tF a0=>?_
       replace a0:Lc 11 w448 mW i0 53 [(.slice x2 k0.length y2),(.slice b0.2.1.1 f0.2.1.length b0.2.1.2),(.slice b0.2.2.1 f0.2.2.length b0.2.2.2)]:=a0
       have hZ:=tF.lst [11] (fun _ h=>by cases h;decide)
       refine Az [(18,[11])] hZ (by kernel_rfl) ?_
       refine AD (fuel:=3) [] [(17,true)] (by kernel_rfl) rfl ?_
       refine AJ rfl rfl rfl (Au ?_)
       refine At (i:=18) (by kernel_rfl) rfl ?_
       refine AA a0 rfl rfl rfl (AG rfl) (allOne rfl) fun w450 uF a0=>?_
       replace a0:Lc 11 w450 mW i0 53 [(.slice x2 k0.length y2),(.slice b0.2.1.1 f0.2.1.length b0.2.1.2),(.slice kW q0.length lW)]:=a0
       have hZ:=uF.lst [11] (fun _ h=>by cases h;decide)
       refine Az [] hZ (by kernel_rfl) ?_
       refine AD (fuel:=1) [] [(19,true)] (by kernel_rfl) rfl ?_
       refine AJ rfl rfl rfl (Au ?_)
       refine At (i:=20) (by kernel_rfl) rfl ?_
       refine AA a0 rfl rfl rfl (AG rfl) (allOne rfl) fun w452 oH a0=>?_
       replace a0:Lc 11 w452 mW i0 53 [(.slice x2 k0.length y2),(.slice A441 m1.length c442),(.slice kW q0.length lW)]:=a0
       refine Be (by kernel_rfl) ?_
       refine AY (by kernel_rfl) ?_
       obtain rfl:=sm u0
       exact show Exists _ from ⟨_,((x2,y2),(A441,c442),(kW,lW)),rfl,⟨rfl,rfl,rfl,rfl,rfl,rfl,rfl,rfl,rfl,rfl,trivial⟩,_,((((((((((hB.st d0).st c1).st j2).st r2).st wD).st xD).st yD).st sF).st tF).st uF).st oH,((((((((((b1.st d0).st c1).st j2).st r2).st wD).st xD).st yD).st sF).st tF).st uF).st oH,((((((((((p1.st d0).st c1).st j2).st r2).st wD).st xD).st yD).st sF).st tF).st uF).st oH,((((((((((o1.st d0).st c1).st j2).st r2).st wD).st xD).st yD).st sF).st tF).st uF).st oH,((((((((((r1.st d0).st c1).st j2).st r2).st wD).st xD).st yD).st sF).st tF).st uF).st oH,((((((((((q1.st d0).st c1).st j2).st r2).st wD).st xD).st yD).st sF).st tF).st uF).st oH,((((((((((z0.st d0).st c1).st j2).st r2).st wD).st xD).st yD).st sF).st tF).st uF).st oH,a0,((((((((zI.st j2).st r2).st wD).st xD).st yD).st sF).st tF).st uF).st oH,((h446.st tF).st uF).st oH,(((((h429.st xD).st yD).st sF).st tF).st uF).st oH⟩
      replace pC:=pC.st r2
      obtain ⟨O454,qC,pC⟩:=pC.freeze
      have hZ:=qC.lst [16] (fun _ h=>by cases h;decide)
      refine AM 17 (by decide) O454 (xs:=([([0,1]:List Int)]:List (List Int))) rfl rfl rfl rfl ⟨pC,trivial⟩ (by decide) (by decide) rfl fun g456 w457 O458 rC nW=>?_
      replace hZ:=hZ.cmp rC [16] (fun _ h=>h.elim) rfl
      refine Az [(9,[15]),(14,[18]),(16,[11]),(18,[11])] hZ (by kernel_rfl) ?_
      refine At (i:=9) (by kernel_rfl) rfl ?_
      obtain ⟨l0,e462,e463⟩:=AB l0
      replace g0:=(((((g0.st d0).st c1).st j2).st r2).st qC).st rC
      replace pP:=(pP.st qC).st rC
      refine AF rfl g0 (pP.rd) rfl rfl (by decide) e462 e463 rfl fun oW pW w466 O467 zD h469=>?_
      rw [← l0] at h469 ⊢
      have hZ:=zD.lst [15] (fun _ h=>by cases h;decide)
      refine Az [(14,[18]),(16,[11]),(18,[11])] hZ (by kernel_rfl) ?_
      refine At (i:=14) (by kernel_rfl) rfl ?_
      obtain ⟨m0,e471,e472⟩:=AB m0
      replace h0:=((((((h0.st d0).st c1).st j2).st r2).st qC).st rC).st zD
      replace nW:=nW.st zD
      refine AF rfl h0 (nW.rd) rfl rfl (by decide) e471 e472 rfl fun A473 c474 w475 qW vF h478=>?_
      rw [← m0] at h478 ⊢
      have hZ:=vF.lst [18] (fun _ h=>by cases h;decide)
      refine Az [(16,[11]),(18,[11])] hZ (by kernel_rfl) ?_
      refine At (i:=16) (by kernel_rfl) rfl ?_
      replace a0:=(((((((a0.st d0).st c1).st j2).st r2).st qC).st rC).st zD).st vF
      refine AA a0 rfl rfl rfl (AG rfl) (allOne rfl) fun w480 wF a0=>?_
      replace a0:Lc 11 w480 qW i0 53 [(.slice x2 k0.length y2),(.slice b0.2.1.1 f0.2.1.length b0.2.1.2),(.slice b0.2.2.1 f0.2.2.length b0.2.2.2)]:=a0
      have hZ:=wF.lst [11] (fun _ h=>by cases h;decide)
      refine Az [(18,[11])] hZ (by kernel_rfl) ?_
      refine AD (fuel:=3) [] [(17,true)] (by kernel_rfl) rfl ?_
      refine AJ rfl rfl rfl (Au ?_)
      refine At (i:=18) (by kernel_rfl) rfl ?_
      refine AA a0 rfl rfl rfl (AG rfl) (allOne rfl) fun w482 xF a0=>?_
      replace a0:Lc 11 w482 qW i0 53 [(.slice x2 k0.length y2),(.slice b0.2.1.1 f0.2.1.length b0.2.1.2),(.slice oW q0.length pW)]:=a0
      have hZ:=xF.lst [11] (fun _ h=>by cases h;decide)
      refine Az [] hZ (by kernel_rfl) ?_
      refine AD (fuel:=1) [] [(19,true)] (by kernel_rfl) rfl ?_
      refine AJ rfl rfl rfl (Au ?_)
      refine At (i:=20) (by kernel_rfl) rfl ?_
      refine AA a0 rfl rfl rfl (AG rfl) (allOne rfl) fun w484 pH a0=>?_
      replace a0:Lc 11 w484 qW i0 53 [(.slice x2 k0.length y2),(.slice A473 m1.length c474),(.slice oW q0.length pW)]:=a0
      refine Be (by kernel_rfl) ?_
      refine AY (by kernel_rfl) ?_
      obtain rfl:=sm u0
      exact show Exists _ from ⟨_,((x2,y2),(A473,c474),(oW,pW)),rfl,⟨rfl,rfl,rfl,rfl,rfl,rfl,rfl,rfl,rfl,rfl,trivial⟩,_,((((((((((hB.st d0).st c1).st j2).st r2).st qC).st rC).st zD).st vF).st wF).st xF).st pH,((((((((((b1.st d0).st c1).st j2).st r2).st qC).st rC).st zD).st vF).st wF).st xF).st pH,((((((((((p1.st d0).st c1).st j2).st r2).st qC).st rC).st zD).st vF).st wF).st xF).st pH,((((((((((o1.st d0).st c1).st j2).st r2).st qC).st rC).st zD).st vF).st wF).st xF).st pH,((((((((((r1.st d0).st c1).st j2).st r2).st qC).st rC).st zD).st vF).st wF).st xF).st pH,((((((((((q1.st d0).st c1).st j2).st r2).st qC).st rC).st zD).st vF).st wF).st xF).st pH,((((((((((z0.st d0).st c1).st j2).st r2).st qC).st rC).st zD).st vF).st wF).st xF).st pH,a0,((((((((zI.st j2).st r2).st qC).st rC).st zD).st vF).st wF).st xF).st pH,((h478.st wF).st xF).st pH,(((h469.st vF).st wF).st xF).st pH⟩
     obtain ⟨O486,aE,pC⟩:=pC.freeze
     have hZ:=aE.lst [16] (fun _ h=>by cases h;decide)
     refine AM 17 (by decide) O486 (xs:=([([0,1]:List Int)]:List (List Int))) rfl rfl rfl rfl ⟨pC,trivial⟩ (by decide) (by decide) rfl fun g488 w489 O490 bE rW=>?_
     replace hZ:=hZ.cmp bE [16] (fun _ h=>h.elim) rfl
     refine Az [(9,[15]),(14,[18]),(16,[11]),(18,[11])] hZ (by kernel_rfl) ?_
     refine At (i:=8) (by kernel_rfl) rfl ?_
     refine AM 14 (by decide) O490 (xs:=(([(n2:Int)]:List Int):List Int)) rfl rfl rfl rfl ⟨(vInt rk252),trivial⟩ (by decide) (by decide) rfl fun g494 w495 O496 sC h498=>?_
     have hZ:=sC.lst [] (fun _ h=>h.elim)
     refine Az [(9,[15]),(14,[18]),(16,[11]),(18,[11])] hZ (by kernel_rfl) ?_
     refine At (i:=9) (by kernel_rfl) rfl ?_
     obtain ⟨l0,e500,e501⟩:=AB l0
     replace g0:=(((((g0.st d0).st c1).st j2).st aE).st bE).st sC
     refine AF rfl g0 (h498.rd) rfl rfl (by decide) e500 e501 rfl fun sW tW w504 O505 cE h507=>?_
     rw [← l0] at h507 ⊢
     have hZ:=cE.lst [15] (fun _ h=>by cases h;decide)
     refine Az [(14,[18]),(16,[11]),(18,[11])] hZ (by kernel_rfl) ?_
     refine At (i:=14) (by kernel_rfl) rfl ?_
     obtain ⟨m0,e509,e510⟩:=AB m0
     replace h0:=((((((h0.st d0).st c1).st j2).st aE).st bE).st sC).st cE
     replace rW:=(rW.st sC).st cE
     refine AF rfl h0 (rW.rd) rfl rfl (by decide) e509 e510 rfl fun A511 c512 w513 uW yF h516=>?_
     rw [← m0] at h516 ⊢
     have hZ:=yF.lst [18] (fun _ h=>by cases h;decide)
     refine Az [(16,[11]),(18,[11])] hZ (by kernel_rfl) ?_
     refine At (i:=16) (by kernel_rfl) rfl ?_
     replace a0:=(((((((a0.st d0).st c1).st j2).st aE).st bE).st sC).st cE).st yF
     refine AA a0 rfl rfl rfl (AG rfl) (allOne rfl) fun w518 zF a0=>?_
     replace a0:Lc 11 w518 uW i0 53 [(.slice x2 k0.length y2),(.slice b0.2.1.1 f0.2.1.length b0.2.1.2),(.slice b0.2.2.1 f0.2.2.length b0.2.2.2)]:=a0
     have hZ:=zF.lst [11] (fun _ h=>by cases h;decide)
     refine Az [(18,[11])] hZ (by kernel_rfl) ?_
     refine AD (fuel:=3) [] [(17,true)] (by kernel_rfl) rfl ?_
     refine AJ rfl rfl rfl (Au ?_)
     refine At (i:=18) (by kernel_rfl) rfl ?_
     refine AA a0 rfl rfl rfl (AG rfl) (allOne rfl) fun w520 aG a0=>?_
     replace a0:Lc 11 w520 uW i0 53 [(.slice x2 k0.length y2),(.slice b0.2.1.1 f0.2.1.length b0.2.1.2),(.slice sW q0.length tW)]:=a0
     have hZ:=aG.lst [11] (fun _ h=>by cases h;decide)
     refine Az [] hZ (by kernel_rfl) ?_
     refine AD (fuel:=1) [] [(19,true)] (by kernel_rfl) rfl ?_
     refine AJ rfl rfl rfl (Au ?_)
     refine At (i:=20) (by kernel_rfl) rfl ?_
     refine AA a0 rfl rfl rfl (AG rfl) (allOne rfl) fun w522 qH a0=>?_
     replace a0:Lc 11 w522 uW i0 53 [(.slice x2 k0.length y2),(.slice A511 m1.length c512),(.slice sW q0.length tW)]:=a0
     refine Be (by kernel_rfl) ?_
     refine AY (by kernel_rfl) ?_
     obtain rfl:=sm u0
     exact show Exists _ from ⟨_,((x2,y2),(A511,c512),(sW,tW)),rfl,⟨rfl,rfl,rfl,rfl,rfl,rfl,rfl,rfl,rfl,rfl,trivial⟩,_,((((((((((hB.st d0).st c1).st j2).st aE).st bE).st sC).st cE).st yF).st zF).st aG).st qH,((((((((((b1.st d0).st c1).st j2).st aE).st bE).st sC).st cE).st yF).st zF).st aG).st qH,((((((((((p1.st d0).st c1).st j2).st aE).st bE).st sC).st cE).st yF).st zF).st aG).st qH,((((((((((o1.st d0).st c1).st j2).st aE).st bE).st sC).st cE).st yF).st zF).st aG).st qH,((((((((((r1.st d0).st c1).st j2).st aE).st bE).st sC).st cE).st yF).st zF).st aG).st qH,((((((((((q1.st d0).st c1).st j2).st aE).st bE).st sC).st cE).st yF).st zF).st aG).st qH,((((((((((z0.st d0).st c1).st j2).st aE).st bE).st sC).st cE).st yF).st zF).st aG).st qH,a0,((((((((zI.st j2).st aE).st bE).st sC).st cE).st yF).st zF).st aG).st qH,((h516.st zF).st aG).st qH,(((h507.st yF).st zF).st aG).st qH⟩
    ·
     refine AM 14 (by decide) zZ (xs:=(([(n2:Int)]:List Int):List Int)) rfl rfl rfl rfl ⟨(vInt rk252),trivial⟩ (by decide) (by decide) rfl fun g524 w525 O526 y0 x6=>?_
     have hZ:=y0.lst [] (fun _ h=>h.elim)
     refine Az [(4,[13]),(9,[15]),(13,[16]),(14,[18]),(16,[11]),(18,[11])] hZ (by kernel_rfl) ?_
     refine Bz (i:=4) (j:=12) (by kernel_rfl) rfl rfl ?_ ?_
     ·
      obtain ⟨t0,e530,e531⟩:=AB t0
      replace o0:=(o0.st d0).st y0
      replace p2:=p2.st y0
      refine AF rfl o0 (p2.rd) rfl rfl (by decide) e530 e531 rfl fun dE eE w534 O535 k2 qP=>?_
      rw [← t0] at qP ⊢
      have hZ:=k2.lst [13] (fun _ h=>by cases h;decide)
      refine Az [(9,[15]),(13,[16]),(14,[18]),(16,[11]),(18,[11])] hZ (by kernel_rfl) ?_
      refine AD (fuel:=9) [15,16,18] [(15,true)] (by kernel_rfl) rfl ?_
      refine AJ rfl rfl rfl (Au ?_)
      refine Bz (i:=9) (j:=12) (by kernel_rfl) rfl rfl ?_ ?_
      ·
       obtain ⟨l0,e539,e540⟩:=AB l0
       replace g0:=((g0.st d0).st y0).st k2
       replace x6:=x6.st k2
       refine AF rfl g0 (x6.rd) rfl rfl (by decide) e539 e540 rfl fun vW wW w543 O544 bG h546=>?_
       rw [← l0] at h546 ⊢
       have hZ:=bG.lst [15] (fun _ h=>by cases h;decide)
       refine Az [(13,[16]),(14,[18]),(16,[11]),(18,[11])] hZ (by kernel_rfl) ?_
       refine At (i:=12) (by kernel_rfl) rfl ?_
       refine AM 16 (by decide) O544 (xs:=(([0,1]:List Int):List Int)) rfl rfl rfl rfl ⟨(vInt (show inI64 (0) from by decide)),(vInt (show inI64 (1) from by decide)),trivial⟩ (by decide) (by decide) rfl fun g548 w549 O550 fE xW=>?_
       have hZ:=fE.lst [] (fun _ h=>h.elim)
       refine Az [(13,[16]),(14,[18]),(16,[11]),(18,[11])] hZ (by kernel_rfl) ?_
       refine At (i:=13) (by kernel_rfl) rfl ?_
       obtain ⟨O554,gE,xW⟩:=xW.freeze
       have hZ:=gE.lst [16] (fun _ h=>by cases h;decide)
       refine AM 17 (by decide) O554 (xs:=([([0,1]:List Int)]:List (List Int))) rfl rfl rfl rfl ⟨xW,trivial⟩ (by decide) (by decide) rfl fun g556 w557 O558 hE h560=>?_
       replace hZ:=hZ.cmp hE [16] (fun _ h=>h.elim) rfl
       refine Az [(14,[18]),(16,[11]),(18,[11])] hZ (by kernel_rfl) ?_
       refine At (i:=14) (by kernel_rfl) rfl ?_
       obtain ⟨m0,e562,e563⟩:=AB m0
       replace h0:=((((((h0.st d0).st y0).st k2).st bG).st fE).st gE).st hE
       refine AF rfl h0 (h560.rd) rfl rfl (by decide) e562 e563 rfl fun A564 c565 w566 yW cG h569=>?_
       rw [← m0] at h569 ⊢
       have hZ:=cG.lst [18] (fun _ h=>by cases h;decide)
       refine Az [(16,[11]),(18,[11])] hZ (by kernel_rfl) ?_
       refine At (i:=16) (by kernel_rfl) rfl ?_
       replace a0:=(((((((a0.st d0).st y0).st k2).st bG).st fE).st gE).st hE).st cG
       refine AA a0 rfl rfl rfl (AG rfl) (allOne rfl) fun w571 dG a0=>?_
       replace a0:Lc 11 w571 yW i0 53 [(.slice dE k0.length eE),(.slice b0.2.1.1 f0.2.1.length b0.2.1.2),(.slice b0.2.2.1 f0.2.2.length b0.2.2.2)]:=a0
       have hZ:=dG.lst [11] (fun _ h=>by cases h;decide)
       refine Az [(18,[11])] hZ (by kernel_rfl) ?_
       refine AD (fuel:=3) [] [(17,true)] (by kernel_rfl) rfl ?_
       refine AJ rfl rfl rfl (Au ?_)
       refine At (i:=18) (by kernel_rfl) rfl ?_
       refine AA a0 rfl rfl rfl (AG rfl) (allOne rfl) fun w573 eG a0=>?_
       replace a0:Lc 11 w573 yW i0 53 [(.slice dE k0.length eE),(.slice b0.2.1.1 f0.2.1.length b0.2.1.2),(.slice vW q0.length wW)]:=a0
       have hZ:=eG.lst [11] (fun _ h=>by cases h;decide)
       refine Az [] hZ (by kernel_rfl) ?_
       refine AD (fuel:=1) [] [(19,true)] (by kernel_rfl) rfl ?_
       refine AJ rfl rfl rfl (Au ?_)
       refine At (i:=20) (by kernel_rfl) rfl ?_
       refine AA a0 rfl rfl rfl (AG rfl) (allOne rfl) fun w575 rH a0=>?_
       replace a0:Lc 11 w575 yW i0 53 [(.slice dE k0.length eE),(.slice A564 m1.length c565),(.slice vW q0.length wW)]:=a0
       refine Be (by kernel_rfl) ?_
       refine AY (by kernel_rfl) ?_
       obtain rfl:=sm u0
       exact show Exists _ from ⟨_,((dE,eE),(A564,c565),(vW,wW)),rfl,⟨rfl,rfl,rfl,rfl,rfl,rfl,rfl,rfl,rfl,rfl,trivial⟩,_,((((((((((hB.st d0).st y0).st k2).st bG).st fE).st gE).st hE).st cG).st dG).st eG).st rH,((((((((((b1.st d0).st y0).st k2).st bG).st fE).st gE).st hE).st cG).st dG).st eG).st rH,((((((((((p1.st d0).st y0).st k2).st bG).st fE).st gE).st hE).st cG).st dG).st eG).st rH,((((((((((o1.st d0).st y0).st k2).st bG).st fE).st gE).st hE).st cG).st dG).st eG).st rH,((((((((((r1.st d0).st y0).st k2).st bG).st fE).st gE).st hE).st cG).st dG).st eG).st rH,((((((((((q1.st d0).st y0).st k2).st bG).st fE).st gE).st hE).st cG).st dG).st eG).st rH,((((((((((z0.st d0).st y0).st k2).st bG).st fE).st gE).st hE).st cG).st dG).st eG).st rH,a0,(((((((qP.st bG).st fE).st gE).st hE).st cG).st dG).st eG).st rH,((h569.st dG).st eG).st rH,((((((h546.st fE).st gE).st hE).st cG).st dG).st eG).st rH⟩
      refine AM 16 (by decide) O535 (xs:=(([0,1]:List Int):List Int)) rfl rfl rfl rfl ⟨(vInt (show inI64 (0) from by decide)),(vInt (show inI64 (1) from by decide)),trivial⟩ (by decide) (by decide) rfl fun g577 w578 O579 s2 nI=>?_
      have hZ:=s2.lst [] (fun _ h=>h.elim)
      refine Az [(9,[15]),(13,[16]),(14,[18]),(16,[11]),(18,[11])] hZ (by kernel_rfl) ?_
      refine Bz (i:=9) (j:=13) (by kernel_rfl) rfl rfl ?_ ?_
      ·
       obtain ⟨l0,e583,e584⟩:=AB l0
       replace g0:=(((g0.st d0).st y0).st k2).st s2
       replace x6:=(x6.st k2).st s2
       refine AF rfl g0 (x6.rd) rfl rfl (by decide) e583 e584 rfl fun zW aX w587 O588 iE h590=>?_
       rw [← l0] at h590 ⊢
       have hZ:=iE.lst [15] (fun _ h=>by cases h;decide)
       refine Az [(13,[16]),(14,[18]),(16,[11]),(18,[11])] hZ (by kernel_rfl) ?_
       refine At (i:=13) (by kernel_rfl) rfl ?_
       replace nI:=nI.st iE
       obtain ⟨O592,jE,nI⟩:=nI.freeze
       have hZ:=jE.lst [16] (fun _ h=>by cases h;decide)
       refine AM 17 (by decide) O592 (xs:=([([0,1]:List Int)]:List (List Int))) rfl rfl rfl rfl ⟨nI,trivial⟩ (by decide) (by decide) rfl fun g594 w595 O596 kE h598=>?_
       replace hZ:=hZ.cmp kE [16] (fun _ h=>h.elim) rfl
       refine Az [(14,[18]),(16,[11]),(18,[11])] hZ (by kernel_rfl) ?_
       refine At (i:=14) (by kernel_rfl) rfl ?_
       obtain ⟨m0,e600,e601⟩:=AB m0
       replace h0:=((((((h0.st d0).st y0).st k2).st s2).st iE).st jE).st kE
       refine AF rfl h0 (h598.rd) rfl rfl (by decide) e600 e601 rfl fun A602 c603 w604 bX fG h607=>?_
       rw [← m0] at h607 ⊢
       have hZ:=fG.lst [18] (fun _ h=>by cases h;decide)
       refine Az [(16,[11]),(18,[11])] hZ (by kernel_rfl) ?_
       refine At (i:=16) (by kernel_rfl) rfl ?_
       replace a0:=(((((((a0.st d0).st y0).st k2).st s2).st iE).st jE).st kE).st fG
       refine AA a0 rfl rfl rfl (AG rfl) (allOne rfl) fun w609 gG a0=>?_
       replace a0:Lc 11 w609 bX i0 53 [(.slice dE k0.length eE),(.slice b0.2.1.1 f0.2.1.length b0.2.1.2),(.slice b0.2.2.1 f0.2.2.length b0.2.2.2)]:=a0
       have hZ:=gG.lst [11] (fun _ h=>by cases h;decide)
       refine Az [(18,[11])] hZ (by kernel_rfl) ?_
       refine AD (fuel:=3) [] [(17,true)] (by kernel_rfl) rfl ?_
       refine AJ rfl rfl rfl (Au ?_)
       refine At (i:=18) (by kernel_rfl) rfl ?_
       refine AA a0 rfl rfl rfl (AG rfl) (allOne rfl) fun w611 hG a0=>?_
       replace a0:Lc 11 w611 bX i0 53 [(.slice dE k0.length eE),(.slice b0.2.1.1 f0.2.1.length b0.2.1.2),(.slice zW q0.length aX)]:=a0
       have hZ:=hG.lst [11] (fun _ h=>by cases h;decide)
       refine Az [] hZ (by kernel_rfl) ?_
       refine AD (fuel:=1) [] [(19,true)] (by kernel_rfl) rfl ?_
       refine AJ rfl rfl rfl (Au ?_)
       refine At (i:=20) (by kernel_rfl) rfl ?_
       refine AA a0 rfl rfl rfl (AG rfl) (allOne rfl) fun w613 sH a0=>?_
       replace a0:Lc 11 w613 bX i0 53 [(.slice dE k0.length eE),(.slice A602 m1.length c603),(.slice zW q0.length aX)]:=a0
       refine Be (by kernel_rfl) ?_
       refine AY (by kernel_rfl) ?_
       obtain rfl:=sm u0
       exact show Exists _ from ⟨_,((dE,eE),(A602,c603),(zW,aX)),rfl,⟨rfl,rfl,rfl,rfl,rfl,rfl,rfl,rfl,rfl,rfl,trivial⟩,_,((((((((((hB.st d0).st y0).st k2).st s2).st iE).st jE).st kE).st fG).st gG).st hG).st sH,((((((((((b1.st d0).st y0).st k2).st s2).st iE).st jE).st kE).st fG).st gG).st hG).st sH,((((((((((p1.st d0).st y0).st k2).st s2).st iE).st jE).st kE).st fG).st gG).st hG).st sH,((((((((((o1.st d0).st y0).st k2).st s2).st iE).st jE).st kE).st fG).st gG).st hG).st sH,((((((((((r1.st d0).st y0).st k2).st s2).st iE).st jE).st kE).st fG).st gG).st hG).st sH,((((((((((q1.st d0).st y0).st k2).st s2).st iE).st jE).st kE).st fG).st gG).st hG).st sH,((((((((((z0.st d0).st y0).st k2).st s2).st iE).st jE).st kE).st fG).st gG).st hG).st sH,a0,(((((((qP.st s2).st iE).st jE).st kE).st fG).st gG).st hG).st sH,((h607.st gG).st hG).st sH,(((((h590.st jE).st kE).st fG).st gG).st hG).st sH⟩
      obtain ⟨O615,tC,nI⟩:=nI.freeze
      have hZ:=tC.lst [16] (fun _ h=>by cases h;decide)
      refine AM 17 (by decide) O615 (xs:=([([0,1]:List Int)]:List (List Int))) rfl rfl rfl rfl ⟨nI,trivial⟩ (by decide) (by decide) rfl fun g617 w618 O619 uC cX=>?_
      replace hZ:=hZ.cmp uC [16] (fun _ h=>h.elim) rfl
      refine Az [(9,[15]),(14,[18]),(16,[11]),(18,[11])] hZ (by kernel_rfl) ?_
      refine At (i:=9) (by kernel_rfl) rfl ?_
      obtain ⟨l0,e623,e624⟩:=AB l0
      replace g0:=(((((g0.st d0).st y0).st k2).st s2).st tC).st uC
      replace x6:=(((x6.st k2).st s2).st tC).st uC
      refine AF rfl g0 (x6.rd) rfl rfl (by decide) e623 e624 rfl fun dX eX w627 O628 lE h630=>?_
      rw [← l0] at h630 ⊢
      have hZ:=lE.lst [15] (fun _ h=>by cases h;decide)
      refine Az [(14,[18]),(16,[11]),(18,[11])] hZ (by kernel_rfl) ?_
      refine At (i:=14) (by kernel_rfl) rfl ?_
      obtain ⟨m0,e632,e633⟩:=AB m0
      replace h0:=((((((h0.st d0).st y0).st k2).st s2).st tC).st uC).st lE
      replace cX:=cX.st lE
      refine AF rfl h0 (cX.rd) rfl rfl (by decide) e632 e633 rfl fun A634 c635 w636 fX iG h639=>?_
      rw [← m0] at h639 ⊢
      have hZ:=iG.lst [18] (fun _ h=>by cases h;decide)
      refine Az [(16,[11]),(18,[11])] hZ (by kernel_rfl) ?_
      refine At (i:=16) (by kernel_rfl) rfl ?_
      replace a0:=(((((((a0.st d0).st y0).st k2).st s2).st tC).st uC).st lE).st iG
      refine AA a0 rfl rfl rfl (AG rfl) (allOne rfl) fun w641 jG a0=>?_
      replace a0:Lc 11 w641 fX i0 53 [(.slice dE k0.length eE),(.slice b0.2.1.1 f0.2.1.length b0.2.1.2),(.slice b0.2.2.1 f0.2.2.length b0.2.2.2)]:=a0
      have hZ:=jG.lst [11] (fun _ h=>by cases h;decide)
      refine Az [(18,[11])] hZ (by kernel_rfl) ?_
      refine AD (fuel:=3) [] [(17,true)] (by kernel_rfl) rfl ?_
      refine AJ rfl rfl rfl (Au ?_)
      refine At (i:=18) (by kernel_rfl) rfl ?_
      refine AA a0 rfl rfl rfl (AG rfl) (allOne rfl) fun w643 kG a0=>?_
      replace a0:Lc 11 w643 fX i0 53 [(.slice dE k0.length eE),(.slice b0.2.1.1 f0.2.1.length b0.2.1.2),(.slice dX q0.length eX)]:=a0
      have hZ:=kG.lst [11] (fun _ h=>by cases h;decide)
      refine Az [] hZ (by kernel_rfl) ?_
      refine AD (fuel:=1) [] [(19,true)] (by kernel_rfl) rfl ?_
      refine AJ rfl rfl rfl (Au ?_)
      refine At (i:=20) (by kernel_rfl) rfl ?_
      refine AA a0 rfl rfl rfl (AG rfl) (allOne rfl) fun w645 tH a0=>?_
      replace a0:Lc 11 w645 fX i0 53 [(.slice dE k0.length eE),(.slice A634 m1.length c635),(.slice dX q0.length eX)]:=a0
      refine Be (by kernel_rfl) ?_
      refine AY (by kernel_rfl) ?_
      obtain rfl:=sm u0
      exact show Exists _ from ⟨_,((dE,eE),(A634,c635),(dX,eX)),rfl,⟨rfl,rfl,rfl,rfl,rfl,rfl,rfl,rfl,rfl,rfl,trivial⟩,_,((((((((((hB.st d0).st y0).st k2).st s2).st tC).st uC).st lE).st iG).st jG).st kG).st tH,((((((((((b1.st d0).st y0).st k2).st s2).st tC).st uC).st lE).st iG).st jG).st kG).st tH,((((((((((p1.st d0).st y0).st k2).st s2).st tC).st uC).st lE).st iG).st jG).st kG).st tH,((((((((((o1.st d0).st y0).st k2).st s2).st tC).st uC).st lE).st iG).st jG).st kG).st tH,((((((((((r1.st d0).st y0).st k2).st s2).st tC).st uC).st lE).st iG).st jG).st kG).st tH,((((((((((q1.st d0).st y0).st k2).st s2).st tC).st uC).st lE).st iG).st jG).st kG).st tH,((((((((((z0.st d0).st y0).st k2).st s2).st tC).st uC).st lE).st iG).st jG).st kG).st tH,a0,(((((((qP.st s2).st tC).st uC).st lE).st iG).st jG).st kG).st tH,((h639.st jG).st kG).st tH,(((h630.st iG).st jG).st kG).st tH⟩
     refine AM 16 (by decide) O526 (xs:=(([0,1]:List Int):List Int)) rfl rfl rfl rfl ⟨(vInt (show inI64 (0) from by decide)),(vInt (show inI64 (1) from by decide)),trivial⟩ (by decide) (by decide) rfl fun g647 w648 O649 t1 vC=>?_
     have hZ:=t1.lst [] (fun _ h=>h.elim)
     refine Az [(4,[13]),(9,[15]),(13,[16]),(14,[18]),(16,[11]),(18,[11])] hZ (by kernel_rfl) ?_
     refine Bz (i:=4) (j:=13) (by kernel_rfl) rfl rfl ?_ ?_
     ·
      obtain ⟨t0,e653,e654⟩:=AB t0
      replace o0:=((o0.st d0).st y0).st t1
      replace p2:=(p2.st y0).st t1
      refine AF rfl o0 (p2.rd) rfl rfl (by decide) e653 e654 rfl fun oI pI w657 O658 t2 gX=>?_
      rw [← t0] at gX ⊢
      have hZ:=t2.lst [13] (fun _ h=>by cases h;decide)
      refine Az [(9,[15]),(13,[16]),(14,[18]),(16,[11]),(18,[11])] hZ (by kernel_rfl) ?_
      refine AD (fuel:=8) [15,16,18] [(15,true)] (by kernel_rfl) rfl ?_
      refine AJ rfl rfl rfl (Au ?_)
      refine Bz (i:=9) (j:=13) (by kernel_rfl) rfl rfl ?_ ?_
      ·
       obtain ⟨l0,e662,e663⟩:=AB l0
       replace g0:=(((g0.st d0).st y0).st t1).st t2
       replace x6:=(x6.st t1).st t2
       refine AF rfl g0 (x6.rd) rfl rfl (by decide) e662 e663 rfl fun hX iX w666 O667 mE h669=>?_
       rw [← l0] at h669 ⊢
       have hZ:=mE.lst [15] (fun _ h=>by cases h;decide)
       refine Az [(13,[16]),(14,[18]),(16,[11]),(18,[11])] hZ (by kernel_rfl) ?_
       refine At (i:=13) (by kernel_rfl) rfl ?_
       replace vC:=(vC.st t2).st mE
       obtain ⟨O671,nE,vC⟩:=vC.freeze
       have hZ:=nE.lst [16] (fun _ h=>by cases h;decide)
       refine AM 17 (by decide) O671 (xs:=([([0,1]:List Int)]:List (List Int))) rfl rfl rfl rfl ⟨vC,trivial⟩ (by decide) (by decide) rfl fun g673 w674 O675 oE h677=>?_
       replace hZ:=hZ.cmp oE [16] (fun _ h=>h.elim) rfl
       refine Az [(14,[18]),(16,[11]),(18,[11])] hZ (by kernel_rfl) ?_
       refine At (i:=14) (by kernel_rfl) rfl ?_
       obtain ⟨m0,e679,e680⟩:=AB m0
       replace h0:=((((((h0.st d0).st y0).st t1).st t2).st mE).st nE).st oE
       refine AF rfl h0 (h677.rd) rfl rfl (by decide) e679 e680 rfl fun A681 c682 w683 jX lG h686=>?_
       rw [← m0] at h686 ⊢
       have hZ:=lG.lst [18] (fun _ h=>by cases h;decide)
       refine Az [(16,[11]),(18,[11])] hZ (by kernel_rfl) ?_
       refine At (i:=16) (by kernel_rfl) rfl ?_
       replace a0:=(((((((a0.st d0).st y0).st t1).st t2).st mE).st nE).st oE).st lG
       refine AA a0 rfl rfl rfl (AG rfl) (allOne rfl) fun w688 mG a0=>?_
       replace a0:Lc 11 w688 jX i0 53 [(.slice oI k0.length pI),(.slice b0.2.1.1 f0.2.1.length b0.2.1.2),(.slice b0.2.2.1 f0.2.2.length b0.2.2.2)]:=a0
       have hZ:=mG.lst [11] (fun _ h=>by cases h;decide)
       refine Az [(18,[11])] hZ (by kernel_rfl) ?_
       refine AD (fuel:=3) [] [(17,true)] (by kernel_rfl) rfl ?_
       refine AJ rfl rfl rfl (Au ?_)
       refine At (i:=18) (by kernel_rfl) rfl ?_
       refine AA a0 rfl rfl rfl (AG rfl) (allOne rfl) fun w690 nG a0=>?_
       replace a0:Lc 11 w690 jX i0 53 [(.slice oI k0.length pI),(.slice b0.2.1.1 f0.2.1.length b0.2.1.2),(.slice hX q0.length iX)]:=a0
       have hZ:=nG.lst [11] (fun _ h=>by cases h;decide)
       refine Az [] hZ (by kernel_rfl) ?_
       refine AD (fuel:=1) [] [(19,true)] (by kernel_rfl) rfl ?_
       refine AJ rfl rfl rfl (Au ?_)
       refine At (i:=20) (by kernel_rfl) rfl ?_
       refine AA a0 rfl rfl rfl (AG rfl) (allOne rfl) fun w692 uH a0=>?_
       replace a0:Lc 11 w692 jX i0 53 [(.slice oI k0.length pI),(.slice A681 m1.length c682),(.slice hX q0.length iX)]:=a0
       refine Be (by kernel_rfl) ?_
       refine AY (by kernel_rfl) ?_
       obtain rfl:=sm u0
       exact show Exists _ from ⟨_,((oI,pI),(A681,c682),(hX,iX)),rfl,⟨rfl,rfl,rfl,rfl,rfl,rfl,rfl,rfl,rfl,rfl,trivial⟩,_,((((((((((hB.st d0).st y0).st t1).st t2).st mE).st nE).st oE).st lG).st mG).st nG).st uH,((((((((((b1.st d0).st y0).st t1).st t2).st mE).st nE).st oE).st lG).st mG).st nG).st uH,((((((((((p1.st d0).st y0).st t1).st t2).st mE).st nE).st oE).st lG).st mG).st nG).st uH,((((((((((o1.st d0).st y0).st t1).st t2).st mE).st nE).st oE).st lG).st mG).st nG).st uH,((((((((((r1.st d0).st y0).st t1).st t2).st mE).st nE).st oE).st lG).st mG).st nG).st uH,((((((((((q1.st d0).st y0).st t1).st t2).st mE).st nE).st oE).st lG).st mG).st nG).st uH,((((((((((z0.st d0).st y0).st t1).st t2).st mE).st nE).st oE).st lG).st mG).st nG).st uH,a0,((((((gX.st mE).st nE).st oE).st lG).st mG).st nG).st uH,((h686.st mG).st nG).st uH,(((((h669.st nE).st oE).st lG).st mG).st nG).st uH⟩
      replace vC:=vC.st t2
      obtain ⟨O694,wC,vC⟩:=vC.freeze
      have hZ:=wC.lst [16] (fun _ h=>by cases h;decide)
      refine AM 17 (by decide) O694 (xs:=([([0,1]:List Int)]:List (List Int))) rfl rfl rfl rfl ⟨vC,trivial⟩ (by decide) (by decide) rfl fun g696 w697 O698 xC kX=>?_
      replace hZ:=hZ.cmp xC [16] (fun _ h=>h.elim) rfl
      refine Az [(9,[15]),(14,[18]),(16,[11]),(18,[11])] hZ (by kernel_rfl) ?_
      refine At (i:=9) (by kernel_rfl) rfl ?_
      obtain ⟨l0,e702,e703⟩:=AB l0
      replace g0:=(((((g0.st d0).st y0).st t1).st t2).st wC).st xC
      replace x6:=(((x6.st t1).st t2).st wC).st xC
      refine AF rfl g0 (x6.rd) rfl rfl (by decide) e702 e703 rfl fun lX mX w706 O707 pE h709=>?_
      rw [← l0] at h709 ⊢
      have hZ:=pE.lst [15] (fun _ h=>by cases h;decide)
      refine Az [(14,[18]),(16,[11]),(18,[11])] hZ (by kernel_rfl) ?_
      refine At (i:=14) (by kernel_rfl) rfl ?_
      obtain ⟨m0,e711,e712⟩:=AB m0
      replace h0:=((((((h0.st d0).st y0).st t1).st t2).st wC).st xC).st pE
      replace kX:=kX.st pE
      refine AF rfl h0 (kX.rd) rfl rfl (by decide) e711 e712 rfl fun A713 c714 w715 nX oG h718=>?_
      rw [← m0] at h718 ⊢
      have hZ:=oG.lst [18] (fun _ h=>by cases h;decide)
      refine Az [(16,[11]),(18,[11])] hZ (by kernel_rfl) ?_
      refine At (i:=16) (by kernel_rfl) rfl ?_
      replace a0:=(((((((a0.st d0).st y0).st t1).st t2).st wC).st xC).st pE).st oG
      refine AA a0 rfl rfl rfl (AG rfl) (allOne rfl) fun w720 pG a0=>?_
      replace a0:Lc 11 w720 nX i0 53 [(.slice oI k0.length pI),(.slice b0.2.1.1 f0.2.1.length b0.2.1.2),(.slice b0.2.2.1 f0.2.2.length b0.2.2.2)]:=a0
      have hZ:=pG.lst [11] (fun _ h=>by cases h;decide)
      refine Az [(18,[11])] hZ (by kernel_rfl) ?_
      refine AD (fuel:=3) [] [(17,true)] (by kernel_rfl) rfl ?_
      refine AJ rfl rfl rfl (Au ?_)
      refine At (i:=18) (by kernel_rfl) rfl ?_
      refine AA a0 rfl rfl rfl (AG rfl) (allOne rfl) fun w722 qG a0=>?_
      replace a0:Lc 11 w722 nX i0 53 [(.slice oI k0.length pI),(.slice b0.2.1.1 f0.2.1.length b0.2.1.2),(.slice lX q0.length mX)]:=a0
      have hZ:=qG.lst [11] (fun _ h=>by cases h;decide)
      refine Az [] hZ (by kernel_rfl) ?_
      refine AD (fuel:=1) [] [(19,true)] (by kernel_rfl) rfl ?_
      refine AJ rfl rfl rfl (Au ?_)
      refine At (i:=20) (by kernel_rfl) rfl ?_
      refine AA a0 rfl rfl rfl (AG rfl) (allOne rfl) fun w724 vH a0=>?_
      replace a0:Lc 11 w724 nX i0 53 [(.slice oI k0.length pI),(.slice A713 m1.length c714),(.slice lX q0.length mX)]:=a0
      refine Be (by kernel_rfl) ?_
      refine AY (by kernel_rfl) ?_
      obtain rfl:=sm u0
      exact show Exists _ from ⟨_,((oI,pI),(A713,c714),(lX,mX)),rfl,⟨rfl,rfl,rfl,rfl,rfl,rfl,rfl,rfl,rfl,rfl,trivial⟩,_,((((((((((hB.st d0).st y0).st t1).st t2).st wC).st xC).st pE).st oG).st pG).st qG).st vH,((((((((((b1.st d0).st y0).st t1).st t2).st wC).st xC).st pE).st oG).st pG).st qG).st vH,((((((((((p1.st d0).st y0).st t1).st t2).st wC).st xC).st pE).st oG).st pG).st qG).st vH,((((((((((o1.st d0).st y0).st t1).st t2).st wC).st xC).st pE).st oG).st pG).st qG).st vH,((((((((((r1.st d0).st y0).st t1).st t2).st wC).st xC).st pE).st oG).st pG).st qG).st vH,((((((((((q1.st d0).st y0).st t1).st t2).st wC).st xC).st pE).st oG).st pG).st qG).st vH,((((((((((z0.st d0).st y0).st t1).st t2).st wC).st xC).st pE).st oG).st pG).st qG).st vH,a0,((((((gX.st wC).st xC).st pE).st oG).st pG).st qG).st vH,((h718.st pG).st qG).st vH,(((h709.st oG).st pG).st qG).st vH⟩
     obtain ⟨O726,dC,vC⟩:=vC.freeze
     have hZ:=dC.lst [16] (fun _ h=>by cases h;decide)
     refine AM 17 (by decide) O726 (xs:=([([0,1]:List Int)]:List (List Int))) rfl rfl rfl rfl ⟨vC,trivial⟩ (by decide) (by decide) rfl fun g728 w729 O730 eC oX=>?_
     replace hZ:=hZ.cmp eC [16] (fun _ h=>h.elim) rfl
     refine Az [(4,[13]),(9,[15]),(14,[18]),(16,[11]),(18,[11])] hZ (by kernel_rfl) ?_
     refine At (i:=4) (by kernel_rfl) rfl ?_
     obtain ⟨t0,e734,e735⟩:=AB t0
     replace o0:=((((o0.st d0).st y0).st t1).st dC).st eC
     replace p2:=(((p2.st y0).st t1).st dC).st eC
     refine AF rfl o0 (p2.rd) rfl rfl (by decide) e734 e735 rfl fun rP sP w738 O739 yC h741=>?_
     rw [← t0] at h741 ⊢
     have hZ:=yC.lst [13] (fun _ h=>by cases h;decide)
     refine Az [(9,[15]),(14,[18]),(16,[11]),(18,[11])] hZ (by kernel_rfl) ?_
     refine AD (fuel:=7) [15,18] [(15,true)] (by kernel_rfl) rfl ?_
     refine AJ rfl rfl rfl (Au ?_)
     refine At (i:=9) (by kernel_rfl) rfl ?_
     obtain ⟨l0,e743,e744⟩:=AB l0
     replace g0:=(((((g0.st d0).st y0).st t1).st dC).st eC).st yC
     replace x6:=(((x6.st t1).st dC).st eC).st yC
     refine AF rfl g0 (x6.rd) rfl rfl (by decide) e743 e744 rfl fun pX qX w747 O748 qE h750=>?_
     rw [← l0] at h750 ⊢
     have hZ:=qE.lst [15] (fun _ h=>by cases h;decide)
     refine Az [(14,[18]),(16,[11]),(18,[11])] hZ (by kernel_rfl) ?_
     refine At (i:=14) (by kernel_rfl) rfl ?_
     obtain ⟨m0,e752,e753⟩:=AB m0
     replace h0:=((((((h0.st d0).st y0).st t1).st dC).st eC).st yC).st qE
     replace oX:=(oX.st yC).st qE
     refine AF rfl h0 (oX.rd) rfl rfl (by decide) e752 e753 rfl fun A754 c755 w756 rX rG h759=>?_
     rw [← m0] at h759 ⊢
     have hZ:=rG.lst [18] (fun _ h=>by cases h;decide)
     refine Az [(16,[11]),(18,[11])] hZ (by kernel_rfl) ?_
     refine At (i:=16) (by kernel_rfl) rfl ?_
     replace a0:=(((((((a0.st d0).st y0).st t1).st dC).st eC).st yC).st qE).st rG
     refine AA a0 rfl rfl rfl (AG rfl) (allOne rfl) fun w761 sG a0=>?_
     replace a0:Lc 11 w761 rX i0 53 [(.slice rP k0.length sP),(.slice b0.2.1.1 f0.2.1.length b0.2.1.2),(.slice b0.2.2.1 f0.2.2.length b0.2.2.2)]:=a0
     have hZ:=sG.lst [11] (fun _ h=>by cases h;decide)
     refine Az [(18,[11])] hZ (by kernel_rfl) ?_
     refine AD (fuel:=3) [] [(17,true)] (by kernel_rfl) rfl ?_
     refine AJ rfl rfl rfl (Au ?_)
     refine At (i:=18) (by kernel_rfl) rfl ?_
     refine AA a0 rfl rfl rfl (AG rfl) (allOne rfl) fun w763 tG a0=>?_
     replace a0:Lc 11 w763 rX i0 53 [(.slice rP k0.length sP),(.slice b0.2.1.1 f0.2.1.length b0.2.1.2),(.slice pX q0.length qX)]:=a0
     have hZ:=tG.lst [11] (fun _ h=>by cases h;decide)
     refine Az [] hZ (by kernel_rfl) ?_
     refine AD (fuel:=1) [] [(19,true)] (by kernel_rfl) rfl ?_
     refine AJ rfl rfl rfl (Au ?_)
     refine At (i:=20) (by kernel_rfl) rfl ?_
     refine AA a0 rfl rfl rfl (AG rfl) (allOne rfl) fun w765 wH a0=>?_
     replace a0:Lc 11 w765 rX i0 53 [(.slice rP k0.length sP),(.slice A754 m1.length c755),(.slice pX q0.length qX)]:=a0
     refine Be (by kernel_rfl) ?_
     refine AY (by kernel_rfl) ?_
     obtain rfl:=sm u0
     exact show Exists _ from ⟨_,((rP,sP),(A754,c755),(pX,qX)),rfl,⟨rfl,rfl,rfl,rfl,rfl,rfl,rfl,rfl,rfl,rfl,trivial⟩,_,((((((((((hB.st d0).st y0).st t1).st dC).st eC).st yC).st qE).st rG).st sG).st tG).st wH,((((((((((b1.st d0).st y0).st t1).st dC).st eC).st yC).st qE).st rG).st sG).st tG).st wH,((((((((((p1.st d0).st y0).st t1).st dC).st eC).st yC).st qE).st rG).st sG).st tG).st wH,((((((((((o1.st d0).st y0).st t1).st dC).st eC).st yC).st qE).st rG).st sG).st tG).st wH,((((((((((r1.st d0).st y0).st t1).st dC).st eC).st yC).st qE).st rG).st sG).st tG).st wH,((((((((((q1.st d0).st y0).st t1).st dC).st eC).st yC).st qE).st rG).st sG).st tG).st wH,((((((((((z0.st d0).st y0).st t1).st dC).st eC).st yC).st qE).st rG).st sG).st tG).st wH,a0,((((h741.st qE).st rG).st sG).st tG).st wH,((h759.st sG).st tG).st wH,(((h750.st rG).st sG).st tG).st wH⟩
    refine AM 16 (by decide) zZ (xs:=(([0,1]:List Int):List Int)) rfl rfl rfl rfl ⟨(vInt (show inI64 (0) from by decide)),(vInt (show inI64 (1) from by decide)),trivial⟩ (by decide) (by decide) rfl fun g767 w768 O769 p0 m2=>?_
    have hZ:=p0.lst [] (fun _ h=>h.elim)
    refine Az [(4,[13]),(9,[15]),(13,[16]),(14,[18]),(16,[11]),(18,[11])] hZ (by kernel_rfl) ?_
    refine EZ (i:=4) (j:=8) (k:=13) (by kernel_rfl) rfl rfl rfl ?_ ?_ ?_
    ·
     obtain ⟨t0,e773,e774⟩:=AB t0
     replace o0:=(o0.st d0).st p0
     replace p2:=p2.st p0
     refine AF rfl o0 (p2.rd) rfl rfl (by decide) e773 e774 rfl fun rE sE w777 O778 l2 tP=>?_
     rw [← t0] at tP ⊢
     have hZ:=l2.lst [13] (fun _ h=>by cases h;decide)
     refine Az [(9,[15]),(13,[16]),(14,[18]),(16,[11]),(18,[11])] hZ (by kernel_rfl) ?_
     refine AD (fuel:=9) [15,16,18] [(15,true)] (by kernel_rfl) rfl ?_
     refine AJ rfl rfl rfl (Au ?_)
     refine Bz (i:=8) (j:=13) (by kernel_rfl) rfl rfl ?_ ?_
     ·
      refine AM 14 (by decide) O778 (xs:=(([(n2:Int)]:List Int):List Int)) rfl rfl rfl rfl ⟨(vInt rk252),trivial⟩ (by decide) (by decide) rfl fun g782 w783 O784 u2 uP=>?_
      have hZ:=u2.lst [] (fun _ h=>h.elim)
      refine Az [(9,[15]),(13,[16]),(14,[18]),(16,[11]),(18,[11])] hZ (by kernel_rfl) ?_
      refine Bz (i:=9) (j:=13) (by kernel_rfl) rfl rfl ?_ ?_
      ·
       obtain ⟨l0,e788,e789⟩:=AB l0
       replace g0:=(((g0.st d0).st p0).st l2).st u2
       refine AF rfl g0 (uP.rd) rfl rfl (by decide) e788 e789 rfl fun sX tX w792 O793 tE h795=>?_
       rw [← l0] at h795 ⊢
       have hZ:=tE.lst [15] (fun _ h=>by cases h;decide)
       refine Az [(13,[16]),(14,[18]),(16,[11]),(18,[11])] hZ (by kernel_rfl) ?_
       refine At (i:=13) (by kernel_rfl) rfl ?_
       replace m2:=((m2.st l2).st u2).st tE
       obtain ⟨O797,uE,m2⟩:=m2.freeze
       have hZ:=uE.lst [16] (fun _ h=>by cases h;decide)
       refine AM 17 (by decide) O797 (xs:=([([0,1]:List Int)]:List (List Int))) rfl rfl rfl rfl ⟨m2,trivial⟩ (by decide) (by decide) rfl fun g799 w800 O801 vE h803=>?_
       replace hZ:=hZ.cmp vE [16] (fun _ h=>h.elim) rfl
       refine Az [(14,[18]),(16,[11]),(18,[11])] hZ (by kernel_rfl) ?_
       refine At (i:=14) (by kernel_rfl) rfl ?_
       obtain ⟨m0,e805,e806⟩:=AB m0
       replace h0:=((((((h0.st d0).st p0).st l2).st u2).st tE).st uE).st vE
       refine AF rfl h0 (h803.rd) rfl rfl (by decide) e805 e806 rfl fun A807 c808 w809 uX uG h812=>?_
       rw [← m0] at h812 ⊢
       have hZ:=uG.lst [18] (fun _ h=>by cases h;decide)
       refine Az [(16,[11]),(18,[11])] hZ (by kernel_rfl) ?_
       refine At (i:=16) (by kernel_rfl) rfl ?_
       replace a0:=(((((((a0.st d0).st p0).st l2).st u2).st tE).st uE).st vE).st uG
       refine AA a0 rfl rfl rfl (AG rfl) (allOne rfl) fun w814 vG a0=>?_
       replace a0:Lc 11 w814 uX i0 53 [(.slice rE k0.length sE),(.slice b0.2.1.1 f0.2.1.length b0.2.1.2),(.slice b0.2.2.1 f0.2.2.length b0.2.2.2)]:=a0
       have hZ:=vG.lst [11] (fun _ h=>by cases h;decide)
       refine Az [(18,[11])] hZ (by kernel_rfl) ?_
       refine AD (fuel:=3) [] [(17,true)] (by kernel_rfl) rfl ?_
       refine AJ rfl rfl rfl (Au ?_)
       refine At (i:=18) (by kernel_rfl) rfl ?_
       refine AA a0 rfl rfl rfl (AG rfl) (allOne rfl) fun w816 wG a0=>?_
       replace a0:Lc 11 w816 uX i0 53 [(.slice rE k0.length sE),(.slice b0.2.1.1 f0.2.1.length b0.2.1.2),(.slice sX q0.length tX)]:=a0
       have hZ:=wG.lst [11] (fun _ h=>by cases h;decide)
       refine Az [] hZ (by kernel_rfl) ?_
       refine AD (fuel:=1) [] [(19,true)] (by kernel_rfl) rfl ?_
       refine AJ rfl rfl rfl (Au ?_)
       refine At (i:=20) (by kernel_rfl) rfl ?_
       refine AA a0 rfl rfl rfl (AG rfl) (allOne rfl) fun w818 xH a0=>?_
       replace a0:Lc 11 w818 uX i0 53 [(.slice rE k0.length sE),(.slice A807 m1.length c808),(.slice sX q0.length tX)]:=a0
       refine Be (by kernel_rfl) ?_
       refine AY (by kernel_rfl) ?_
       obtain rfl:=sm u0
       exact show Exists _ from ⟨_,((rE,sE),(A807,c808),(sX,tX)),rfl,⟨rfl,rfl,rfl,rfl,rfl,rfl,rfl,rfl,rfl,rfl,trivial⟩,_,((((((((((hB.st d0).st p0).st l2).st u2).st tE).st uE).st vE).st uG).st vG).st wG).st xH,((((((((((b1.st d0).st p0).st l2).st u2).st tE).st uE).st vE).st uG).st vG).st wG).st xH,((((((((((p1.st d0).st p0).st l2).st u2).st tE).st uE).st vE).st uG).st vG).st wG).st xH,((((((((((o1.st d0).st p0).st l2).st u2).st tE).st uE).st vE).st uG).st vG).st wG).st xH,((((((((((r1.st d0).st p0).st l2).st u2).st tE).st uE).st vE).st uG).st vG).st wG).st xH,((((((((((q1.st d0).st p0).st l2).st u2).st tE).st uE).st vE).st uG).st vG).st wG).st xH,((((((((((z0.st d0).st p0).st l2).st u2).st tE).st uE).st vE).st uG).st vG).st wG).st xH,a0,(((((((tP.st u2).st tE).st uE).st vE).st uG).st vG).st wG).st xH,((h812.st vG).st wG).st xH,(((((h795.st uE).st vE).st uG).st vG).st wG).st xH⟩
      replace m2:=(m2.st l2).st u2
      obtain ⟨O820,zC,m2⟩:=m2.freeze
      have hZ:=zC.lst [16] (fun _ h=>by cases h;decide)
      refine AM 17 (by decide) O820 (xs:=([([0,1]:List Int)]:List (List Int))) rfl rfl rfl rfl ⟨m2,trivial⟩ (by decide) (by decide) rfl fun g822 w823 O824 aD vX=>?_
      replace hZ:=hZ.cmp aD [16] (fun _ h=>h.elim) rfl
      refine Az [(9,[15]),(14,[18]),(16,[11]),(18,[11])] hZ (by kernel_rfl) ?_
      refine At (i:=9) (by kernel_rfl) rfl ?_
      obtain ⟨l0,e828,e829⟩:=AB l0
      replace g0:=(((((g0.st d0).st p0).st l2).st u2).st zC).st aD
      replace uP:=(uP.st zC).st aD
      refine AF rfl g0 (uP.rd) rfl rfl (by decide) e828 e829 rfl fun wX xX w832 O833 wE h835=>?_
      rw [← l0] at h835 ⊢
      have hZ:=wE.lst [15] (fun _ h=>by cases h;decide)
      refine Az [(14,[18]),(16,[11]),(18,[11])] hZ (by kernel_rfl) ?_
      refine At (i:=14) (by kernel_rfl) rfl ?_
      obtain ⟨m0,e837,e838⟩:=AB m0
      replace h0:=((((((h0.st d0).st p0).st l2).st u2).st zC).st aD).st wE
      replace vX:=vX.st wE
      refine AF rfl h0 (vX.rd) rfl rfl (by decide) e837 e838 rfl fun A839 c840 w841 yX xG h844=>?_
      rw [← m0] at h844 ⊢
      have hZ:=xG.lst [18] (fun _ h=>by cases h;decide)
      refine Az [(16,[11]),(18,[11])] hZ (by kernel_rfl) ?_
      refine At (i:=16) (by kernel_rfl) rfl ?_
      replace a0:=(((((((a0.st d0).st p0).st l2).st u2).st zC).st aD).st wE).st xG
      refine AA a0 rfl rfl rfl (AG rfl) (allOne rfl) fun w846 yG a0=>?_
      replace a0:Lc 11 w846 yX i0 53 [(.slice rE k0.length sE),(.slice b0.2.1.1 f0.2.1.length b0.2.1.2),(.slice b0.2.2.1 f0.2.2.length b0.2.2.2)]:=a0
      have hZ:=yG.lst [11] (fun _ h=>by cases h;decide)
      refine Az [(18,[11])] hZ (by kernel_rfl) ?_
      refine AD (fuel:=3) [] [(17,true)] (by kernel_rfl) rfl ?_
      refine AJ rfl rfl rfl (Au ?_)
      refine At (i:=18) (by kernel_rfl) rfl ?_
      refine AA a0 rfl rfl rfl (AG rfl) (allOne rfl) fun w848 zG a0=>?_
      replace a0:Lc 11 w848 yX i0 53 [(.slice rE k0.length sE),(.slice b0.2.1.1 f0.2.1.length b0.2.1.2),(.slice wX q0.length xX)]:=a0
      have hZ:=zG.lst [11] (fun _ h=>by cases h;decide)
      refine Az [] hZ (by kernel_rfl) ?_
      refine AD (fuel:=1) [] [(19,true)] (by kernel_rfl) rfl ?_
      refine AJ rfl rfl rfl (Au ?_)
      refine At (i:=20) (by kernel_rfl) rfl ?_
      refine AA a0 rfl rfl rfl (AG rfl) (allOne rfl) fun w850 yH a0=>?_
      replace a0:Lc 11 w850 yX i0 53 [(.slice rE k0.length sE),(.slice A839 m1.length c840),(.slice wX q0.length xX)]:=a0
      refine Be (by kernel_rfl) ?_
      refine AY (by kernel_rfl) ?_
      obtain rfl:=sm u0
      exact show Exists _ from ⟨_,((rE,sE),(A839,c840),(wX,xX)),rfl,⟨rfl,rfl,rfl,rfl,rfl,rfl,rfl,rfl,rfl,rfl,trivial⟩,_,((((((((((hB.st d0).st p0).st l2).st u2).st zC).st aD).st wE).st xG).st yG).st zG).st yH,((((((((((b1.st d0).st p0).st l2).st u2).st zC).st aD).st wE).st xG).st yG).st zG).st yH,((((((((((p1.st d0).st p0).st l2).st u2).st zC).st aD).st wE).st xG).st yG).st zG).st yH,((((((((((o1.st d0).st p0).st l2).st u2).st zC).st aD).st wE).st xG).st yG).st zG).st yH,((((((((((r1.st d0).st p0).st l2).st u2).st zC).st aD).st wE).st xG).st yG).st zG).st yH,((((((((((q1.st d0).st p0).st l2).st u2).st zC).st aD).st wE).st xG).st yG).st zG).st yH,((((((((((z0.st d0).st p0).st l2).st u2).st zC).st aD).st wE).st xG).st yG).st zG).st yH,a0,(((((((tP.st u2).st zC).st aD).st wE).st xG).st yG).st zG).st yH,((h844.st yG).st zG).st yH,(((h835.st xG).st yG).st zG).st yH⟩
     replace m2:=m2.st l2
     obtain ⟨O852,xE,m2⟩:=m2.freeze
     have hZ:=xE.lst [16] (fun _ h=>by cases h;decide)
     refine AM 17 (by decide) O852 (xs:=([([0,1]:List Int)]:List (List Int))) rfl rfl rfl rfl ⟨m2,trivial⟩ (by decide) (by decide) rfl fun g854 w855 O856 yE zX=>?_
     replace hZ:=hZ.cmp yE [16] (fun _ h=>h.elim) rfl
     refine Az [(9,[15]),(14,[18]),(16,[11]),(18,[11])] hZ (by kernel_rfl) ?_
     refine At (i:=8) (by kernel_rfl) rfl ?_
     refine AM 14 (by decide) O856 (xs:=(([(n2:Int)]:List Int):List Int)) rfl rfl rfl rfl ⟨(vInt rk252),trivial⟩ (by decide) (by decide) rfl fun g860 w861 O862 bD h864=>?_
     have hZ:=bD.lst [] (fun _ h=>h.elim)
     refine Az [(9,[15]),(14,[18]),(16,[11]),(18,[11])] hZ (by kernel_rfl) ?_
     refine At (i:=9) (by kernel_rfl) rfl ?_
     obtain ⟨l0,e866,e867⟩:=AB l0
     replace g0:=(((((g0.st d0).st p0).st l2).st xE).st yE).st bD
     refine AF rfl g0 (h864.rd) rfl rfl (by decide) e866 e867 rfl fun aY bY w870 O871 zE h873=>?_
     rw [← l0] at h873 ⊢
     have hZ:=zE.lst [15] (fun _ h=>by cases h;decide)
     refine Az [(14,[18]),(16,[11]),(18,[11])] hZ (by kernel_rfl) ?_
     refine At (i:=14) (by kernel_rfl) rfl ?_
     obtain ⟨m0,e875,e876⟩:=AB m0
     replace h0:=((((((h0.st d0).st p0).st l2).st xE).st yE).st bD).st zE
     replace zX:=(zX.st bD).st zE
     refine AF rfl h0 (zX.rd) rfl rfl (by decide) e875 e876 rfl fun A877 c878 w879 cY aH h882=>?_
     rw [← m0] at h882 ⊢
     have hZ:=aH.lst [18] (fun _ h=>by cases h;decide)
     refine Az [(16,[11]),(18,[11])] hZ (by kernel_rfl) ?_
     refine At (i:=16) (by kernel_rfl) rfl ?_
     replace a0:=(((((((a0.st d0).st p0).st l2).st xE).st yE).st bD).st zE).st aH
     refine AA a0 rfl rfl rfl (AG rfl) (allOne rfl) fun w884 bH a0=>?_
     replace a0:Lc 11 w884 cY i0 53 [(.slice rE k0.length sE),(.slice b0.2.1.1 f0.2.1.length b0.2.1.2),(.slice b0.2.2.1 f0.2.2.length b0.2.2.2)]:=a0
     have hZ:=bH.lst [11] (fun _ h=>by cases h;decide)
     refine Az [(18,[11])] hZ (by kernel_rfl) ?_
     refine AD (fuel:=3) [] [(17,true)] (by kernel_rfl) rfl ?_
     refine AJ rfl rfl rfl (Au ?_)
     refine At (i:=18) (by kernel_rfl) rfl ?_
     refine AA a0 rfl rfl rfl (AG rfl) (allOne rfl) fun w886 cH a0=>?_
     replace a0:Lc 11 w886 cY i0 53 [(.slice rE k0.length sE),(.slice b0.2.1.1 f0.2.1.length b0.2.1.2),(.slice aY q0.length bY)]:=a0
     have hZ:=cH.lst [11] (fun _ h=>by cases h;decide)
     refine Az [] hZ (by kernel_rfl) ?_
     refine AD (fuel:=1) [] [(19,true)] (by kernel_rfl) rfl ?_
     refine AJ rfl rfl rfl (Au ?_)
     refine At (i:=20) (by kernel_rfl) rfl ?_
     refine AA a0 rfl rfl rfl (AG rfl) (allOne rfl) fun w888 zH a0=>?_
     replace a0:Lc 11 w888 cY i0 53 [(.slice rE k0.length sE),(.slice A877 m1.length c878),(.slice aY q0.length bY)]:=a0
     refine Be (by kernel_rfl) ?_
     refine AY (by kernel_rfl) ?_
     obtain rfl:=sm u0
     exact show Exists _ from ⟨_,((rE,sE),(A877,c878),(aY,bY)),rfl,⟨rfl,rfl,rfl,rfl,rfl,rfl,rfl,rfl,rfl,rfl,trivial⟩,_,((((((((((hB.st d0).st p0).st l2).st xE).st yE).st bD).st zE).st aH).st bH).st cH).st zH,((((((((((b1.st d0).st p0).st l2).st xE).st yE).st bD).st zE).st aH).st bH).st cH).st zH,((((((((((p1.st d0).st p0).st l2).st xE).st yE).st bD).st zE).st aH).st bH).st cH).st zH,((((((((((o1.st d0).st p0).st l2).st xE).st yE).st bD).st zE).st aH).st bH).st cH).st zH,((((((((((r1.st d0).st p0).st l2).st xE).st yE).st bD).st zE).st aH).st bH).st cH).st zH,((((((((((q1.st d0).st p0).st l2).st xE).st yE).st bD).st zE).st aH).st bH).st cH).st zH,((((((((((z0.st d0).st p0).st l2).st xE).st yE).st bD).st zE).st aH).st bH).st cH).st zH,a0,(((((((tP.st xE).st yE).st bD).st zE).st aH).st bH).st cH).st zH,((h882.st bH).st cH).st zH,(((h873.st aH).st bH).st cH).st zH⟩
    ·
     refine AM 14 (by decide) O769 (xs:=(([(n2:Int)]:List Int):List Int)) rfl rfl rfl rfl ⟨(vInt rk252),trivial⟩ (by decide) (by decide) rfl fun g890 w891 O892 u1 gI=>?_
     have hZ:=u1.lst [] (fun _ h=>h.elim)
     refine Az [(4,[13]),(9,[15]),(13,[16]),(14,[18]),(16,[11]),(18,[11])] hZ (by kernel_rfl) ?_
     refine Bz (i:=4) (j:=13) (by kernel_rfl) rfl rfl ?_ ?_
     ·
      obtain ⟨t0,e896,e897⟩:=AB t0
      replace o0:=((o0.st d0).st p0).st u1
      replace p2:=(p2.st p0).st u1
      refine AF rfl o0 (p2.rd) rfl rfl (by decide) e896 e897 rfl fun qI rI w900 O901 v2 dY=>?_
      rw [← t0] at dY ⊢
      have hZ:=v2.lst [13] (fun _ h=>by cases h;decide)
      refine Az [(9,[15]),(13,[16]),(14,[18]),(16,[11]),(18,[11])] hZ (by kernel_rfl) ?_
      refine AD (fuel:=8) [15,16,18] [(15,true)] (by kernel_rfl) rfl ?_
      refine AJ rfl rfl rfl (Au ?_)
      refine Bz (i:=9) (j:=13) (by kernel_rfl) rfl rfl ?_ ?_
      ·
       obtain ⟨l0,e905,e906⟩:=AB l0
       replace g0:=(((g0.st d0).st p0).st u1).st v2
       replace gI:=gI.st v2
       refine AF rfl g0 (gI.rd) rfl rfl (by decide) e905 e906 rfl fun eY fY w909 O910 aF h912=>?_
       rw [← l0] at h912 ⊢
       have hZ:=aF.lst [15] (fun _ h=>by cases h;decide)
       refine Az [(13,[16]),(14,[18]),(16,[11]),(18,[11])] hZ (by kernel_rfl) ?_
       refine At (i:=13) (by kernel_rfl) rfl ?_
       replace m2:=((m2.st u1).st v2).st aF
       obtain ⟨O914,bF,m2⟩:=m2.freeze
       have hZ:=bF.lst [16] (fun _ h=>by cases h;decide)
       refine AM 17 (by decide) O914 (xs:=([([0,1]:List Int)]:List (List Int))) rfl rfl rfl rfl ⟨m2,trivial⟩ (by decide) (by decide) rfl fun g916 w917 O918 cF h920=>?_
       replace hZ:=hZ.cmp cF [16] (fun _ h=>h.elim) rfl
       refine Az [(14,[18]),(16,[11]),(18,[11])] hZ (by kernel_rfl) ?_
       refine At (i:=14) (by kernel_rfl) rfl ?_
       obtain ⟨m0,e922,e923⟩:=AB m0
       replace h0:=((((((h0.st d0).st p0).st u1).st v2).st aF).st bF).st cF
       refine AF rfl h0 (h920.rd) rfl rfl (by decide) e922 e923 rfl fun A924 c925 w926 gY dH h929=>?_
       rw [← m0] at h929 ⊢
       have hZ:=dH.lst [18] (fun _ h=>by cases h;decide)
       refine Az [(16,[11]),(18,[11])] hZ (by kernel_rfl) ?_
       refine At (i:=16) (by kernel_rfl) rfl ?_
       replace a0:=(((((((a0.st d0).st p0).st u1).st v2).st aF).st bF).st cF).st dH
       refine AA a0 rfl rfl rfl (AG rfl) (allOne rfl) fun w931 eH a0=>?_
       replace a0:Lc 11 w931 gY i0 53 [(.slice qI k0.length rI),(.slice b0.2.1.1 f0.2.1.length b0.2.1.2),(.slice b0.2.2.1 f0.2.2.length b0.2.2.2)]:=a0
       have hZ:=eH.lst [11] (fun _ h=>by cases h;decide)
       refine Az [(18,[11])] hZ (by kernel_rfl) ?_
       refine AD (fuel:=3) [] [(17,true)] (by kernel_rfl) rfl ?_
       refine AJ rfl rfl rfl (Au ?_)
       refine At (i:=18) (by kernel_rfl) rfl ?_
       refine AA a0 rfl rfl rfl (AG rfl) (allOne rfl) fun w933 fH a0=>?_
       replace a0:Lc 11 w933 gY i0 53 [(.slice qI k0.length rI),(.slice b0.2.1.1 f0.2.1.length b0.2.1.2),(.slice eY q0.length fY)]:=a0
       have hZ:=fH.lst [11] (fun _ h=>by cases h;decide)
       refine Az [] hZ (by kernel_rfl) ?_
       refine AD (fuel:=1) [] [(19,true)] (by kernel_rfl) rfl ?_
       refine AJ rfl rfl rfl (Au ?_)
       refine At (i:=20) (by kernel_rfl) rfl ?_
       refine AA a0 rfl rfl rfl (AG rfl) (allOne rfl) fun w935 aI a0=>?_
       replace a0:Lc 11 w935 gY i0 53 [(.slice qI k0.length rI),(.slice A924 m1.length c925),(.slice eY q0.length fY)]:=a0
       refine Be (by kernel_rfl) ?_
       refine AY (by kernel_rfl) ?_
       obtain rfl:=sm u0
       exact show Exists _ from ⟨_,((qI,rI),(A924,c925),(eY,fY)),rfl,⟨rfl,rfl,rfl,rfl,rfl,rfl,rfl,rfl,rfl,rfl,trivial⟩,_,((((((((((hB.st d0).st p0).st u1).st v2).st aF).st bF).st cF).st dH).st eH).st fH).st aI,((((((((((b1.st d0).st p0).st u1).st v2).st aF).st bF).st cF).st dH).st eH).st fH).st aI,((((((((((p1.st d0).st p0).st u1).st v2).st aF).st bF).st cF).st dH).st eH).st fH).st aI,((((((((((o1.st d0).st p0).st u1).st v2).st aF).st bF).st cF).st dH).st eH).st fH).st aI,((((((((((r1.st d0).st p0).st u1).st v2).st aF).st bF).st cF).st dH).st eH).st fH).st aI,((((((((((q1.st d0).st p0).st u1).st v2).st aF).st bF).st cF).st dH).st eH).st fH).st aI,((((((((((z0.st d0).st p0).st u1).st v2).st aF).st bF).st cF).st dH).st eH).st fH).st aI,a0,((((((dY.st aF).st bF).st cF).st dH).st eH).st fH).st aI,((h929.st eH).st fH).st aI,(((((h912.st bF).st cF).st dH).st eH).st fH).st aI⟩
      replace m2:=(m2.st u1).st v2
      obtain ⟨O937,cD,m2⟩:=m2.freeze
      have hZ:=cD.lst [16] (fun _ h=>by cases h;decide)
      refine AM 17 (by decide) O937 (xs:=([([0,1]:List Int)]:List (List Int))) rfl rfl rfl rfl ⟨m2,trivial⟩ (by decide) (by decide) rfl fun g939 w940 O941 dD hY=>?_
      replace hZ:=hZ.cmp dD [16] (fun _ h=>h.elim) rfl
      refine Az [(9,[15]),(14,[18]),(16,[11]),(18,[11])] hZ (by kernel_rfl) ?_
      refine At (i:=9) (by kernel_rfl) rfl ?_
      obtain ⟨l0,e945,e946⟩:=AB l0
      replace g0:=(((((g0.st d0).st p0).st u1).st v2).st cD).st dD
      replace gI:=((gI.st v2).st cD).st dD
      refine AF rfl g0 (gI.rd) rfl rfl (by decide) e945 e946 rfl fun iY jY w949 O950 dF h952=>?_
      rw [← l0] at h952 ⊢
      have hZ:=dF.lst [15] (fun _ h=>by cases h;decide)
      refine Az [(14,[18]),(16,[11]),(18,[11])] hZ (by kernel_rfl) ?_
      refine At (i:=14) (by kernel_rfl) rfl ?_
      obtain ⟨m0,e954,e955⟩:=AB m0
      replace h0:=((((((h0.st d0).st p0).st u1).st v2).st cD).st dD).st dF
      replace hY:=hY.st dF
      refine AF rfl h0 (hY.rd) rfl rfl (by decide) e954 e955 rfl fun A956 c957 w958 kY gH h961=>?_
      rw [← m0] at h961 ⊢
      have hZ:=gH.lst [18] (fun _ h=>by cases h;decide)
      refine Az [(16,[11]),(18,[11])] hZ (by kernel_rfl) ?_
      refine At (i:=16) (by kernel_rfl) rfl ?_
      replace a0:=(((((((a0.st d0).st p0).st u1).st v2).st cD).st dD).st dF).st gH
      refine AA a0 rfl rfl rfl (AG rfl) (allOne rfl) fun w963 hH a0=>?_
      replace a0:Lc 11 w963 kY i0 53 [(.slice qI k0.length rI),(.slice b0.2.1.1 f0.2.1.length b0.2.1.2),(.slice b0.2.2.1 f0.2.2.length b0.2.2.2)]:=a0
      have hZ:=hH.lst [11] (fun _ h=>by cases h;decide)
      refine Az [(18,[11])] hZ (by kernel_rfl) ?_
      refine AD (fuel:=3) [] [(17,true)] (by kernel_rfl) rfl ?_
      refine AJ rfl rfl rfl (Au ?_)
      refine At (i:=18) (by kernel_rfl) rfl ?_
      refine AA a0 rfl rfl rfl (AG rfl) (allOne rfl) fun w965 iH a0=>?_
      replace a0:Lc 11 w965 kY i0 53 [(.slice qI k0.length rI),(.slice b0.2.1.1 f0.2.1.length b0.2.1.2),(.slice iY q0.length jY)]:=a0
      have hZ:=iH.lst [11] (fun _ h=>by cases h;decide)
      refine Az [] hZ (by kernel_rfl) ?_
      refine AD (fuel:=1) [] [(19,true)] (by kernel_rfl) rfl ?_
      refine AJ rfl rfl rfl (Au ?_)
      refine At (i:=20) (by kernel_rfl) rfl ?_
      refine AA a0 rfl rfl rfl (AG rfl) (allOne rfl) fun w967 bI a0=>?_
      replace a0:Lc 11 w967 kY i0 53 [(.slice qI k0.length rI),(.slice A956 m1.length c957),(.slice iY q0.length jY)]:=a0
      refine Be (by kernel_rfl) ?_
      refine AY (by kernel_rfl) ?_
      obtain rfl:=sm u0
      exact show Exists _ from ⟨_,((qI,rI),(A956,c957),(iY,jY)),rfl,⟨rfl,rfl,rfl,rfl,rfl,rfl,rfl,rfl,rfl,rfl,trivial⟩,_,((((((((((hB.st d0).st p0).st u1).st v2).st cD).st dD).st dF).st gH).st hH).st iH).st bI,((((((((((b1.st d0).st p0).st u1).st v2).st cD).st dD).st dF).st gH).st hH).st iH).st bI,((((((((((p1.st d0).st p0).st u1).st v2).st cD).st dD).st dF).st gH).st hH).st iH).st bI,((((((((((o1.st d0).st p0).st u1).st v2).st cD).st dD).st dF).st gH).st hH).st iH).st bI,((((((((((r1.st d0).st p0).st u1).st v2).st cD).st dD).st dF).st gH).st hH).st iH).st bI,((((((((((q1.st d0).st p0).st u1).st v2).st cD).st dD).st dF).st gH).st hH).st iH).st bI,((((((((((z0.st d0).st p0).st u1).st v2).st cD).st dD).st dF).st gH).st hH).st iH).st bI,a0,((((((dY.st cD).st dD).st dF).st gH).st hH).st iH).st bI,((h961.st hH).st iH).st bI,(((h952.st gH).st hH).st iH).st bI⟩
     replace m2:=m2.st u1
     obtain ⟨O969,fC,m2⟩:=m2.freeze
     have hZ:=fC.lst [16] (fun _ h=>by cases h;decide)
     refine AM 17 (by decide) O969 (xs:=([([0,1]:List Int)]:List (List Int))) rfl rfl rfl rfl ⟨m2,trivial⟩ (by decide) (by decide) rfl fun g971 w972 O973 gC lY=>?_
     replace hZ:=hZ.cmp gC [16] (fun _ h=>h.elim) rfl
     refine Az [(4,[13]),(9,[15]),(14,[18]),(16,[11]),(18,[11])] hZ (by kernel_rfl) ?_
     refine At (i:=4) (by kernel_rfl) rfl ?_
     obtain ⟨t0,e977,e978⟩:=AB t0
     replace o0:=((((o0.st d0).st p0).st u1).st fC).st gC
     replace p2:=(((p2.st p0).st u1).st fC).st gC
     refine AF rfl o0 (p2.rd) rfl rfl (by decide) e977 e978 rfl fun vP wP w981 O982 eD h984=>?_
     rw [← t0] at h984 ⊢
     have hZ:=eD.lst [13] (fun _ h=>by cases h;decide)
     refine Az [(9,[15]),(14,[18]),(16,[11]),(18,[11])] hZ (by kernel_rfl) ?_
     refine AD (fuel:=7) [15,18] [(15,true)] (by kernel_rfl) rfl ?_
     refine AJ rfl rfl rfl (Au ?_)
     refine At (i:=9) (by kernel_rfl) rfl ?_
     obtain ⟨l0,e986,e987⟩:=AB l0
     replace g0:=(((((g0.st d0).st p0).st u1).st fC).st gC).st eD
     replace gI:=((gI.st fC).st gC).st eD
     refine AF rfl g0 (gI.rd) rfl rfl (by decide) e986 e987 rfl fun mY nY w990 O991 eF h993=>?_
     rw [← l0] at h993 ⊢
     have hZ:=eF.lst [15] (fun _ h=>by cases h;decide)
     refine Az [(14,[18]),(16,[11]),(18,[11])] hZ (by kernel_rfl) ?_
     refine At (i:=14) (by kernel_rfl) rfl ?_
     obtain ⟨m0,e995,e996⟩:=AB m0
     replace h0:=((((((h0.st d0).st p0).st u1).st fC).st gC).st eD).st eF
     replace lY:=(lY.st eD).st eF
     refine AF rfl h0 (lY.rd) rfl rfl (by decide) e995 e996 rfl fun A997 c998 w999 bL y6 xP=>?_
     rw [← m0] at xP ⊢
     have hZ:=y6.lst [18] (fun _ h=>by cases h;decide)
     refine Az [(16,[11]),(18,[11])] hZ (by kernel_rfl) ?_
     refine At (i:=16) (by kernel_rfl) rfl ?_
     replace a0:=(((((((a0.st d0).st p0).st u1).st fC).st gC).st eD).st eF).st y6
     refine AA a0 rfl rfl rfl (AG rfl) (allOne rfl) fun w1004 z6 a0=>?_
     replace a0:Lc 11 w1004 bL i0 53 [(.slice vP k0.length wP),(.slice b0.2.1.1 f0.2.1.length b0.2.1.2),(.slice b0.2.2.1 f0.2.2.length b0.2.2.2)]:=a0
     have hZ:=z6.lst [11] (fun _ h=>by cases h;decide)
     refine Az [(18,[11])] hZ (by kernel_rfl) ?_
     refine AD (fuel:=3) [] [(17,true)] (by kernel_rfl) rfl ?_
     refine AJ rfl rfl rfl (Au ?_)
     refine At (i:=18) (by kernel_rfl) rfl ?_
     refine AA a0 rfl rfl rfl (AG rfl) (allOne rfl) fun w1006 a7 a0=>?_
     replace a0:Lc 11 w1006 bL i0 53 [(.slice vP k0.length wP),(.slice b0.2.1.1 f0.2.1.length b0.2.1.2),(.slice mY q0.length nY)]:=a0
     have hZ:=a7.lst [11] (fun _ h=>by cases h;decide)
     refine Az [] hZ (by kernel_rfl) ?_
     refine AD (fuel:=1) [] [(19,true)] (by kernel_rfl) rfl ?_
     refine AJ rfl rfl rfl (Au ?_)
     refine At (i:=20) (by kernel_rfl) rfl ?_
     refine AA a0 rfl rfl rfl (AG rfl) (allOne rfl) fun w1008 pA a0=>?_
     replace a0:Lc 11 w1008 bL i0 53 [(.slice vP k0.length wP),(.slice A997 m1.length c998),(.slice mY q0.length nY)]:=a0
     refine Be (by kernel_rfl) ?_
     refine AY (by kernel_rfl) ?_
     obtain rfl:=sm u0
     exact show Exists _ from ⟨_,((vP,wP),(A997,c998),(mY,nY)),rfl,⟨rfl,rfl,rfl,rfl,rfl,rfl,rfl,rfl,rfl,rfl,trivial⟩,_,((((((((((hB.st d0).st p0).st u1).st fC).st gC).st eD).st eF).st y6).st z6).st a7).st pA,((((((((((b1.st d0).st p0).st u1).st fC).st gC).st eD).st eF).st y6).st z6).st a7).st pA,((((((((((p1.st d0).st p0).st u1).st fC).st gC).st eD).st eF).st y6).st z6).st a7).st pA,((((((((((o1.st d0).st p0).st u1).st fC).st gC).st eD).st eF).st y6).st z6).st a7).st pA,((((((((((r1.st d0).st p0).st u1).st fC).st gC).st eD).st eF).st y6).st z6).st a7).st pA,((((((((((q1.st d0).st p0).st u1).st fC).st gC).st eD).st eF).st y6).st z6).st a7).st pA,((((((((((z0.st d0).st p0).st u1).st fC).st gC).st eD).st eF).st y6).st z6).st a7).st pA,a0,((((h984.st eF).st y6).st z6).st a7).st pA,((xP.st z6).st a7).st pA,(((h993.st y6).st z6).st a7).st pA⟩
    obtain ⟨O1010,v1,m2⟩:=m2.freeze
    have hZ:=v1.lst [16] (fun _ h=>by cases h;decide)
    refine AM 17 (by decide) O1010 (xs:=([([0,1]:List Int)]:List (List Int))) rfl rfl rfl rfl ⟨m2,trivial⟩ (by decide) (by decide) rfl fun g1012 w1013 O1014 w1 cI=>?_
    replace hZ:=hZ.cmp w1 [16] (fun _ h=>h.elim) rfl
    refine Az [(4,[13]),(9,[15]),(14,[18]),(16,[11]),(18,[11])] hZ (by kernel_rfl) ?_
    refine Bz (i:=4) (j:=8) (by kernel_rfl) rfl rfl ?_ ?_
    ·
     obtain ⟨t0,e1018,e1019⟩:=AB t0
     replace o0:=(((o0.st d0).st p0).st v1).st w1
     replace p2:=((p2.st p0).st v1).st w1
     refine AF rfl o0 (p2.rd) rfl rfl (by decide) e1018 e1019 rfl fun bJ cJ w1022 O1023 x4 yP=>?_
     rw [← t0] at yP ⊢
     have hZ:=x4.lst [13] (fun _ h=>by cases h;decide)
     refine Az [(9,[15]),(14,[18]),(16,[11]),(18,[11])] hZ (by kernel_rfl) ?_
     refine AD (fuel:=8) [15,18] [(15,true)] (by kernel_rfl) rfl ?_
     refine AJ rfl rfl rfl (Au ?_)
     refine At (i:=8) (by kernel_rfl) rfl ?_
     refine AM 14 (by decide) O1023 (xs:=(([(n2:Int)]:List Int):List Int)) rfl rfl rfl rfl ⟨(vInt rk252),trivial⟩ (by decide) (by decide) rfl fun g1027 w1028 O1029 o3 h1031=>?_
     have hZ:=o3.lst [] (fun _ h=>h.elim)
     refine Az [(9,[15]),(14,[18]),(16,[11]),(18,[11])] hZ (by kernel_rfl) ?_
     refine At (i:=9) (by kernel_rfl) rfl ?_
     obtain ⟨l0,e1033,e1034⟩:=AB l0
     replace g0:=(((((g0.st d0).st p0).st v1).st w1).st x4).st o3
     refine AF rfl g0 (h1031.rd) rfl rfl (by decide) e1033 e1034 rfl fun cL dL w1037 O1038 y4 zP=>?_
     rw [← l0] at zP ⊢
     have hZ:=y4.lst [15] (fun _ h=>by cases h;decide)
     refine Az [(14,[18]),(16,[11]),(18,[11])] hZ (by kernel_rfl) ?_
     refine At (i:=14) (by kernel_rfl) rfl ?_
     obtain ⟨m0,e1042,e1043⟩:=AB m0
     replace h0:=((((((h0.st d0).st p0).st v1).st w1).st x4).st o3).st y4
     replace cI:=((cI.st x4).st o3).st y4
     refine AF rfl h0 (cI.rd) rfl rfl (by decide) e1042 e1043 rfl fun aQ bQ w1046 eL b7 cQ=>?_
     rw [← m0] at cQ ⊢
     have hZ:=b7.lst [18] (fun _ h=>by cases h;decide)
     refine Az [(16,[11]),(18,[11])] hZ (by kernel_rfl) ?_
     refine At (i:=16) (by kernel_rfl) rfl ?_
     replace a0:=(((((((a0.st d0).st p0).st v1).st w1).st x4).st o3).st y4).st b7
     refine AA a0 rfl rfl rfl (AG rfl) (allOne rfl) fun w1051 c7 a0=>?_
     replace a0:Lc 11 w1051 eL i0 53 [(.slice bJ k0.length cJ),(.slice b0.2.1.1 f0.2.1.length b0.2.1.2),(.slice b0.2.2.1 f0.2.2.length b0.2.2.2)]:=a0
     have hZ:=c7.lst [11] (fun _ h=>by cases h;decide)
     refine Az [(18,[11])] hZ (by kernel_rfl) ?_
     refine AD (fuel:=3) [] [(17,true)] (by kernel_rfl) rfl ?_
     refine AJ rfl rfl rfl (Au ?_)
     refine At (i:=18) (by kernel_rfl) rfl ?_
     refine AA a0 rfl rfl rfl (AG rfl) (allOne rfl) fun w1053 d7 a0=>?_
     replace a0:Lc 11 w1053 eL i0 53 [(.slice bJ k0.length cJ),(.slice b0.2.1.1 f0.2.1.length b0.2.1.2),(.slice cL q0.length dL)]:=a0
     have hZ:=d7.lst [11] (fun _ h=>by cases h;decide)
     refine Az [] hZ (by kernel_rfl) ?_
     refine AD (fuel:=1) [] [(19,true)] (by kernel_rfl) rfl ?_
     refine AJ rfl rfl rfl (Au ?_)
     refine At (i:=20) (by kernel_rfl) rfl ?_
     refine AA a0 rfl rfl rfl (AG rfl) (allOne rfl) fun w1055 qA a0=>?_
     replace a0:Lc 11 w1055 eL i0 53 [(.slice bJ k0.length cJ),(.slice aQ m1.length bQ),(.slice cL q0.length dL)]:=a0
     refine Be (by kernel_rfl) ?_
     refine AY (by kernel_rfl) ?_
     obtain rfl:=sm u0
     exact show Exists _ from ⟨_,((bJ,cJ),(aQ,bQ),(cL,dL)),rfl,⟨rfl,rfl,rfl,rfl,rfl,rfl,rfl,rfl,rfl,rfl,trivial⟩,_,((((((((((hB.st d0).st p0).st v1).st w1).st x4).st o3).st y4).st b7).st c7).st d7).st qA,((((((((((b1.st d0).st p0).st v1).st w1).st x4).st o3).st y4).st b7).st c7).st d7).st qA,((((((((((p1.st d0).st p0).st v1).st w1).st x4).st o3).st y4).st b7).st c7).st d7).st qA,((((((((((o1.st d0).st p0).st v1).st w1).st x4).st o3).st y4).st b7).st c7).st d7).st qA,((((((((((r1.st d0).st p0).st v1).st w1).st x4).st o3).st y4).st b7).st c7).st d7).st qA,((((((((((q1.st d0).st p0).st v1).st w1).st x4).st o3).st y4).st b7).st c7).st d7).st qA,((((((((((z0.st d0).st p0).st v1).st w1).st x4).st o3).st y4).st b7).st c7).st d7).st qA,a0,(((((yP.st o3).st y4).st b7).st c7).st d7).st qA,((cQ.st c7).st d7).st qA,(((zP.st b7).st c7).st d7).st qA⟩
    refine AM 14 (by decide) O1014 (xs:=(([(n2:Int)]:List Int):List Int)) rfl rfl rfl rfl ⟨(vInt rk252),trivial⟩ (by decide) (by decide) rfl fun g1057 w1058 O1059 z2 fL=>?_
    have hZ:=z2.lst [] (fun _ h=>h.elim)
    refine Az [(4,[13]),(9,[15]),(14,[18]),(16,[11]),(18,[11])] hZ (by kernel_rfl) ?_
    refine At (i:=4) (by kernel_rfl) rfl ?_
    obtain ⟨t0,e1063,e1064⟩:=AB t0
    replace o0:=((((o0.st d0).st p0).st v1).st w1).st z2
    replace p2:=(((p2.st p0).st v1).st w1).st z2
    refine AF rfl o0 (p2.rd) rfl rfl (by decide) e1063 e1064 rfl fun dJ eJ w1067 O1068 p3 dQ=>?_
    rw [← t0] at dQ ⊢
    have hZ:=p3.lst [13] (fun _ h=>by cases h;decide)
    refine Az [(9,[15]),(14,[18]),(16,[11]),(18,[11])] hZ (by kernel_rfl) ?_
    refine AD (fuel:=7) [15,18] [(15,true)] (by kernel_rfl) rfl ?_
    refine AJ rfl rfl rfl (Au ?_)
    refine At (i:=9) (by kernel_rfl) rfl ?_
    obtain ⟨l0,e1072,e1073⟩:=AB l0
    replace g0:=(((((g0.st d0).st p0).st v1).st w1).st z2).st p3
    replace fL:=fL.st p3
    refine AF rfl g0 (fL.rd) rfl rfl (by decide) e1072 e1073 rfl fun gL hL w1076 O1077 z4 eQ=>?_
    rw [← l0] at eQ ⊢
    have hZ:=z4.lst [15] (fun _ h=>by cases h;decide)
    refine Az [(14,[18]),(16,[11]),(18,[11])] hZ (by kernel_rfl) ?_
    refine At (i:=14) (by kernel_rfl) rfl ?_
    obtain ⟨m0,e1081,e1082⟩:=AB m0
    replace h0:=((((((h0.st d0).st p0).st v1).st w1).st z2).st p3).st z4
    replace cI:=((cI.st z2).st p3).st z4
    refine AF rfl h0 (cI.rd) rfl rfl (by decide) e1081 e1082 rfl fun fQ gQ w1085 iL e7 hQ=>?_
    rw [← m0] at hQ ⊢
    have hZ:=e7.lst [18] (fun _ h=>by cases h;decide)
    refine Az [(16,[11]),(18,[11])] hZ (by kernel_rfl) ?_
    refine At (i:=16) (by kernel_rfl) rfl ?_
    replace a0:=(((((((a0.st d0).st p0).st v1).st w1).st z2).st p3).st z4).st e7
    refine AA a0 rfl rfl rfl (AG rfl) (allOne rfl) fun w1090 f7 a0=>?_
    replace a0:Lc 11 w1090 iL i0 53 [(.slice dJ k0.length eJ),(.slice b0.2.1.1 f0.2.1.length b0.2.1.2),(.slice b0.2.2.1 f0.2.2.length b0.2.2.2)]:=a0
    have hZ:=f7.lst [11] (fun _ h=>by cases h;decide)
    refine Az [(18,[11])] hZ (by kernel_rfl) ?_
    refine AD (fuel:=3) [] [(17,true)] (by kernel_rfl) rfl ?_
    refine AJ rfl rfl rfl (Au ?_)
    refine At (i:=18) (by kernel_rfl) rfl ?_
    refine AA a0 rfl rfl rfl (AG rfl) (allOne rfl) fun w1092 g7 a0=>?_
    replace a0:Lc 11 w1092 iL i0 53 [(.slice dJ k0.length eJ),(.slice b0.2.1.1 f0.2.1.length b0.2.1.2),(.slice gL q0.length hL)]:=a0
    have hZ:=g7.lst [11] (fun _ h=>by cases h;decide)
    refine Az [] hZ (by kernel_rfl) ?_
    refine AD (fuel:=1) [] [(19,true)] (by kernel_rfl) rfl ?_
    refine AJ rfl rfl rfl (Au ?_)
    refine At (i:=20) (by kernel_rfl) rfl ?_
    refine AA a0 rfl rfl rfl (AG rfl) (allOne rfl) fun w1094 rA a0=>?_
    replace a0:Lc 11 w1094 iL i0 53 [(.slice dJ k0.length eJ),(.slice fQ m1.length gQ),(.slice gL q0.length hL)]:=a0
    refine Be (by kernel_rfl) ?_
    refine AY (by kernel_rfl) ?_
    obtain rfl:=sm u0
    exact show Exists _ from ⟨_,((dJ,eJ),(fQ,gQ),(gL,hL)),rfl,⟨rfl,rfl,rfl,rfl,rfl,rfl,rfl,rfl,rfl,rfl,trivial⟩,_,((((((((((hB.st d0).st p0).st v1).st w1).st z2).st p3).st z4).st e7).st f7).st g7).st rA,((((((((((b1.st d0).st p0).st v1).st w1).st z2).st p3).st z4).st e7).st f7).st g7).st rA,((((((((((p1.st d0).st p0).st v1).st w1).st z2).st p3).st z4).st e7).st f7).st g7).st rA,((((((((((o1.st d0).st p0).st v1).st w1).st z2).st p3).st z4).st e7).st f7).st g7).st rA,((((((((((r1.st d0).st p0).st v1).st w1).st z2).st p3).st z4).st e7).st f7).st g7).st rA,((((((((((q1.st d0).st p0).st v1).st w1).st z2).st p3).st z4).st e7).st f7).st g7).st rA,((((((((((z0.st d0).st p0).st v1).st w1).st z2).st p3).st z4).st e7).st f7).st g7).st rA,a0,((((dQ.st z4).st e7).st f7).st g7).st rA,((hQ.st f7).st g7).st rA,(((eQ.st e7).st f7).st g7).st rA⟩
   ·
    refine AM 14 (by decide) oP (xs:=(([(n2:Int)]:List Int):List Int)) rfl rfl rfl rfl ⟨(vInt rk252),trivial⟩ (by decide) (by decide) rfl fun g1096 w1097 iQ e0 l1=>?_
    have hZ:=e0.lst [] (fun _ h=>h.elim)
    refine Az [(4,[13]),(9,[15]),(13,[16]),(14,[18]),(16,[11]),(18,[11])] hZ (by kernel_rfl) ?_
    refine Bz (i:=3) (j:=12) (by kernel_rfl) rfl rfl ?_ ?_
    ·
     refine AM 12 (by decide) iQ (xs:=(([(n2:Int)]:List Int):List Int)) rfl rfl rfl rfl ⟨(vInt rk252),trivial⟩ (by decide) (by decide) rfl fun g1102 w1103 O1104 n0 jH=>?_
     have hZ:=n0.lst [] (fun _ h=>h.elim)
     refine Az [(4,[13]),(9,[15]),(13,[16]),(14,[18]),(16,[11]),(18,[11])] hZ (by kernel_rfl) ?_
     refine Bz (i:=4) (j:=12) (by kernel_rfl) rfl rfl ?_ ?_
     ·
      obtain ⟨t0,e1108,e1109⟩:=AB t0
      replace o0:=(o0.st e0).st n0
      refine AF rfl o0 (jH.rd) rfl rfl (by decide) e1108 e1109 rfl fun a5 b5 w1112 O1113 h1 fJ=>?_
      rw [← t0] at fJ ⊢
      have hZ:=h1.lst [13] (fun _ h=>by cases h;decide)
      refine Az [(9,[15]),(13,[16]),(14,[18]),(16,[11]),(18,[11])] hZ (by kernel_rfl) ?_
      refine AD (fuel:=9) [15,16,18] [(15,true)] (by kernel_rfl) rfl ?_
      refine AJ rfl rfl rfl (Au ?_)
      refine Bz (i:=9) (j:=12) (by kernel_rfl) rfl rfl ?_ ?_
      ·
       obtain ⟨l0,e1117,e1118⟩:=AB l0
       replace g0:=((g0.st e0).st n0).st h1
       replace l1:=(l1.st n0).st h1
       refine AF rfl g0 (l1.rd) rfl rfl (by decide) e1117 e1118 rfl fun jL kL w1121 O1122 h7 jQ=>?_
       rw [← l0] at jQ ⊢
       have hZ:=h7.lst [15] (fun _ h=>by cases h;decide)
       refine Az [(13,[16]),(14,[18]),(16,[11]),(18,[11])] hZ (by kernel_rfl) ?_
       refine At (i:=12) (by kernel_rfl) rfl ?_
       refine AM 16 (by decide) O1122 (xs:=(([0,1]:List Int):List Int)) rfl rfl rfl rfl ⟨(vInt (show inI64 (0) from by decide)),(vInt (show inI64 (1) from by decide)),trivial⟩ (by decide) (by decide) rfl fun g1126 w1127 O1128 c5 lL=>?_
       have hZ:=c5.lst [] (fun _ h=>h.elim)
       refine Az [(13,[16]),(14,[18]),(16,[11]),(18,[11])] hZ (by kernel_rfl) ?_
       refine At (i:=13) (by kernel_rfl) rfl ?_
       obtain ⟨O1132,d5,lL⟩:=lL.freeze
       have hZ:=d5.lst [16] (fun _ h=>by cases h;decide)
       refine AM 17 (by decide) O1132 (xs:=([([0,1]:List Int)]:List (List Int))) rfl rfl rfl rfl ⟨lL,trivial⟩ (by decide) (by decide) rfl fun g1134 w1135 O1136 e5 h1138=>?_
       replace hZ:=hZ.cmp e5 [16] (fun _ h=>h.elim) rfl
       refine Az [(14,[18]),(16,[11]),(18,[11])] hZ (by kernel_rfl) ?_
       refine At (i:=14) (by kernel_rfl) rfl ?_
       obtain ⟨m0,e1140,e1141⟩:=AB m0
       replace h0:=((((((h0.st e0).st n0).st h1).st h7).st c5).st d5).st e5
       refine AF rfl h0 (h1138.rd) rfl rfl (by decide) e1140 e1141 rfl fun kQ lQ w1144 mL i7 mQ=>?_
       rw [← m0] at mQ ⊢
       have hZ:=i7.lst [18] (fun _ h=>by cases h;decide)
       refine Az [(16,[11]),(18,[11])] hZ (by kernel_rfl) ?_
       refine At (i:=16) (by kernel_rfl) rfl ?_
       replace a0:=(((((((a0.st e0).st n0).st h1).st h7).st c5).st d5).st e5).st i7
       refine AA a0 rfl rfl rfl (AG rfl) (allOne rfl) fun w1149 j7 a0=>?_
       replace a0:Lc 11 w1149 mL i0 53 [(.slice a5 k0.length b5),(.slice b0.2.1.1 f0.2.1.length b0.2.1.2),(.slice b0.2.2.1 f0.2.2.length b0.2.2.2)]:=a0
       have hZ:=j7.lst [11] (fun _ h=>by cases h;decide)
       refine Az [(18,[11])] hZ (by kernel_rfl) ?_
       refine AD (fuel:=3) [] [(17,true)] (by kernel_rfl) rfl ?_
       refine AJ rfl rfl rfl (Au ?_)
       refine At (i:=18) (by kernel_rfl) rfl ?_
       refine AA a0 rfl rfl rfl (AG rfl) (allOne rfl) fun w1151 k7 a0=>?_
       replace a0:Lc 11 w1151 mL i0 53 [(.slice a5 k0.length b5),(.slice b0.2.1.1 f0.2.1.length b0.2.1.2),(.slice jL q0.length kL)]:=a0
       have hZ:=k7.lst [11] (fun _ h=>by cases h;decide)
       refine Az [] hZ (by kernel_rfl) ?_
       refine AD (fuel:=1) [] [(19,true)] (by kernel_rfl) rfl ?_
       refine AJ rfl rfl rfl (Au ?_)
       refine At (i:=20) (by kernel_rfl) rfl ?_
       refine AA a0 rfl rfl rfl (AG rfl) (allOne rfl) fun w1153 sA a0=>?_
       replace a0:Lc 11 w1153 mL i0 53 [(.slice a5 k0.length b5),(.slice kQ m1.length lQ),(.slice jL q0.length kL)]:=a0
       refine Be (by kernel_rfl) ?_
       refine AY (by kernel_rfl) ?_
       obtain rfl:=sm u0
       exact show Exists _ from ⟨_,((a5,b5),(kQ,lQ),(jL,kL)),rfl,⟨rfl,rfl,rfl,rfl,rfl,rfl,rfl,rfl,rfl,rfl,trivial⟩,_,((((((((((hB.st e0).st n0).st h1).st h7).st c5).st d5).st e5).st i7).st j7).st k7).st sA,((((((((((b1.st e0).st n0).st h1).st h7).st c5).st d5).st e5).st i7).st j7).st k7).st sA,((((((((((p1.st e0).st n0).st h1).st h7).st c5).st d5).st e5).st i7).st j7).st k7).st sA,((((((((((o1.st e0).st n0).st h1).st h7).st c5).st d5).st e5).st i7).st j7).st k7).st sA,((((((((((r1.st e0).st n0).st h1).st h7).st c5).st d5).st e5).st i7).st j7).st k7).st sA,((((((((((q1.st e0).st n0).st h1).st h7).st c5).st d5).st e5).st i7).st j7).st k7).st sA,((((((((((z0.st e0).st n0).st h1).st h7).st c5).st d5).st e5).st i7).st j7).st k7).st sA,a0,(((((((fJ.st h7).st c5).st d5).st e5).st i7).st j7).st k7).st sA,((mQ.st j7).st k7).st sA,((((((jQ.st c5).st d5).st e5).st i7).st j7).st k7).st sA⟩
      refine AM 16 (by decide) O1113 (xs:=(([0,1]:List Int):List Int)) rfl rfl rfl rfl ⟨(vInt (show inI64 (0) from by decide)),(vInt (show inI64 (1) from by decide)),trivial⟩ (by decide) (by decide) rfl fun g1155 w1156 O1157 y1 fD=>?_
      have hZ:=y1.lst [] (fun _ h=>h.elim)
      refine Az [(9,[15]),(13,[16]),(14,[18]),(16,[11]),(18,[11])] hZ (by kernel_rfl) ?_
      refine Bz (i:=9) (j:=13) (by kernel_rfl) rfl rfl ?_ ?_
      ·
       obtain ⟨l0,e1161,e1162⟩:=AB l0
       replace g0:=(((g0.st e0).st n0).st h1).st y1
       replace l1:=((l1.st n0).st h1).st y1
       refine AF rfl g0 (l1.rd) rfl rfl (by decide) e1161 e1162 rfl fun nL oL w1165 O1166 f5 nQ=>?_
       rw [← l0] at nQ ⊢
       have hZ:=f5.lst [15] (fun _ h=>by cases h;decide)
       refine Az [(13,[16]),(14,[18]),(16,[11]),(18,[11])] hZ (by kernel_rfl) ?_
       refine At (i:=13) (by kernel_rfl) rfl ?_
       replace fD:=fD.st f5
       obtain ⟨O1170,g5,fD⟩:=fD.freeze
       have hZ:=g5.lst [16] (fun _ h=>by cases h;decide)
       refine AM 17 (by decide) O1170 (xs:=([([0,1]:List Int)]:List (List Int))) rfl rfl rfl rfl ⟨fD,trivial⟩ (by decide) (by decide) rfl fun g1172 w1173 O1174 h5 h1176=>?_
       replace hZ:=hZ.cmp h5 [16] (fun _ h=>h.elim) rfl
       refine Az [(14,[18]),(16,[11]),(18,[11])] hZ (by kernel_rfl) ?_
       refine At (i:=14) (by kernel_rfl) rfl ?_
       obtain ⟨m0,e1178,e1179⟩:=AB m0
       replace h0:=((((((h0.st e0).st n0).st h1).st y1).st f5).st g5).st h5
       refine AF rfl h0 (h1176.rd) rfl rfl (by decide) e1178 e1179 rfl fun oQ pQ w1182 pL l7 qQ=>?_
       rw [← m0] at qQ ⊢
       have hZ:=l7.lst [18] (fun _ h=>by cases h;decide)
       refine Az [(16,[11]),(18,[11])] hZ (by kernel_rfl) ?_
       refine At (i:=16) (by kernel_rfl) rfl ?_
       replace a0:=(((((((a0.st e0).st n0).st h1).st y1).st f5).st g5).st h5).st l7
       refine AA a0 rfl rfl rfl (AG rfl) (allOne rfl) fun w1187 m7 a0=>?_
       replace a0:Lc 11 w1187 pL i0 53 [(.slice a5 k0.length b5),(.slice b0.2.1.1 f0.2.1.length b0.2.1.2),(.slice b0.2.2.1 f0.2.2.length b0.2.2.2)]:=a0
       have hZ:=m7.lst [11] (fun _ h=>by cases h;decide)
       refine Az [(18,[11])] hZ (by kernel_rfl) ?_
       refine AD (fuel:=3) [] [(17,true)] (by kernel_rfl) rfl ?_
       refine AJ rfl rfl rfl (Au ?_)
       refine At (i:=18) (by kernel_rfl) rfl ?_
       refine AA a0 rfl rfl rfl (AG rfl) (allOne rfl) fun w1189 n7 a0=>?_
       replace a0:Lc 11 w1189 pL i0 53 [(.slice a5 k0.length b5),(.slice b0.2.1.1 f0.2.1.length b0.2.1.2),(.slice nL q0.length oL)]:=a0
       have hZ:=n7.lst [11] (fun _ h=>by cases h;decide)
       refine Az [] hZ (by kernel_rfl) ?_
       refine AD (fuel:=1) [] [(19,true)] (by kernel_rfl) rfl ?_
       refine AJ rfl rfl rfl (Au ?_)
       refine At (i:=20) (by kernel_rfl) rfl ?_
       refine AA a0 rfl rfl rfl (AG rfl) (allOne rfl) fun w1191 tA a0=>?_
       replace a0:Lc 11 w1191 pL i0 53 [(.slice a5 k0.length b5),(.slice oQ m1.length pQ),(.slice nL q0.length oL)]:=a0
       refine Be (by kernel_rfl) ?_
       refine AY (by kernel_rfl) ?_
       obtain rfl:=sm u0
       exact show Exists _ from ⟨_,((a5,b5),(oQ,pQ),(nL,oL)),rfl,⟨rfl,rfl,rfl,rfl,rfl,rfl,rfl,rfl,rfl,rfl,trivial⟩,_,((((((((((hB.st e0).st n0).st h1).st y1).st f5).st g5).st h5).st l7).st m7).st n7).st tA,((((((((((b1.st e0).st n0).st h1).st y1).st f5).st g5).st h5).st l7).st m7).st n7).st tA,((((((((((p1.st e0).st n0).st h1).st y1).st f5).st g5).st h5).st l7).st m7).st n7).st tA,((((((((((o1.st e0).st n0).st h1).st y1).st f5).st g5).st h5).st l7).st m7).st n7).st tA,((((((((((r1.st e0).st n0).st h1).st y1).st f5).st g5).st h5).st l7).st m7).st n7).st tA,((((((((((q1.st e0).st n0).st h1).st y1).st f5).st g5).st h5).st l7).st m7).st n7).st tA,((((((((((z0.st e0).st n0).st h1).st y1).st f5).st g5).st h5).st l7).st m7).st n7).st tA,a0,(((((((fJ.st y1).st f5).st g5).st h5).st l7).st m7).st n7).st tA,((qQ.st m7).st n7).st tA,(((((nQ.st g5).st h5).st l7).st m7).st n7).st tA⟩
      obtain ⟨O1193,r3,fD⟩:=fD.freeze
      have hZ:=r3.lst [16] (fun _ h=>by cases h;decide)
      refine AM 17 (by decide) O1193 (xs:=([([0,1]:List Int)]:List (List Int))) rfl rfl rfl rfl ⟨fD,trivial⟩ (by decide) (by decide) rfl fun g1195 w1196 O1197 s3 qL=>?_
      replace hZ:=hZ.cmp s3 [16] (fun _ h=>h.elim) rfl
      refine Az [(9,[15]),(14,[18]),(16,[11]),(18,[11])] hZ (by kernel_rfl) ?_
      refine At (i:=9) (by kernel_rfl) rfl ?_
      obtain ⟨l0,e1201,e1202⟩:=AB l0
      replace g0:=(((((g0.st e0).st n0).st h1).st y1).st r3).st s3
      replace l1:=((((l1.st n0).st h1).st y1).st r3).st s3
      refine AF rfl g0 (l1.rd) rfl rfl (by decide) e1201 e1202 rfl fun rL sL w1205 O1206 i5 rQ=>?_
      rw [← l0] at rQ ⊢
      have hZ:=i5.lst [15] (fun _ h=>by cases h;decide)
      refine Az [(14,[18]),(16,[11]),(18,[11])] hZ (by kernel_rfl) ?_
      refine At (i:=14) (by kernel_rfl) rfl ?_
      obtain ⟨m0,e1210,e1211⟩:=AB m0
      replace h0:=((((((h0.st e0).st n0).st h1).st y1).st r3).st s3).st i5
      replace qL:=qL.st i5
      refine AF rfl h0 (qL.rd) rfl rfl (by decide) e1210 e1211 rfl fun sQ tQ w1214 tL o7 uQ=>?_
      rw [← m0] at uQ ⊢
      have hZ:=o7.lst [18] (fun _ h=>by cases h;decide)
      refine Az [(16,[11]),(18,[11])] hZ (by kernel_rfl) ?_
      refine At (i:=16) (by kernel_rfl) rfl ?_
      replace a0:=(((((((a0.st e0).st n0).st h1).st y1).st r3).st s3).st i5).st o7
      refine AA a0 rfl rfl rfl (AG rfl) (allOne rfl) fun w1219 p7 a0=>?_
      replace a0:Lc 11 w1219 tL i0 53 [(.slice a5 k0.length b5),(.slice b0.2.1.1 f0.2.1.length b0.2.1.2),(.slice b0.2.2.1 f0.2.2.length b0.2.2.2)]:=a0
      have hZ:=p7.lst [11] (fun _ h=>by cases h;decide)
      refine Az [(18,[11])] hZ (by kernel_rfl) ?_
      refine AD (fuel:=3) [] [(17,true)] (by kernel_rfl) rfl ?_
      refine AJ rfl rfl rfl (Au ?_)
      refine At (i:=18) (by kernel_rfl) rfl ?_
      refine AA a0 rfl rfl rfl (AG rfl) (allOne rfl) fun w1221 q7 a0=>?_
      replace a0:Lc 11 w1221 tL i0 53 [(.slice a5 k0.length b5),(.slice b0.2.1.1 f0.2.1.length b0.2.1.2),(.slice rL q0.length sL)]:=a0
      have hZ:=q7.lst [11] (fun _ h=>by cases h;decide)
      refine Az [] hZ (by kernel_rfl) ?_
      refine AD (fuel:=1) [] [(19,true)] (by kernel_rfl) rfl ?_
      refine AJ rfl rfl rfl (Au ?_)
      refine At (i:=20) (by kernel_rfl) rfl ?_
      refine AA a0 rfl rfl rfl (AG rfl) (allOne rfl) fun w1223 uA a0=>?_
      replace a0:Lc 11 w1223 tL i0 53 [(.slice a5 k0.length b5),(.slice sQ m1.length tQ),(.slice rL q0.length sL)]:=a0
      refine Be (by kernel_rfl) ?_
      refine AY (by kernel_rfl) ?_
      obtain rfl:=sm u0
      exact show Exists _ from ⟨_,((a5,b5),(sQ,tQ),(rL,sL)),rfl,⟨rfl,rfl,rfl,rfl,rfl,rfl,rfl,rfl,rfl,rfl,trivial⟩,_,((((((((((hB.st e0).st n0).st h1).st y1).st r3).st s3).st i5).st o7).st p7).st q7).st uA,((((((((((b1.st e0).st n0).st h1).st y1).st r3).st s3).st i5).st o7).st p7).st q7).st uA,((((((((((p1.st e0).st n0).st h1).st y1).st r3).st s3).st i5).st o7).st p7).st q7).st uA,((((((((((o1.st e0).st n0).st h1).st y1).st r3).st s3).st i5).st o7).st p7).st q7).st uA,((((((((((r1.st e0).st n0).st h1).st y1).st r3).st s3).st i5).st o7).st p7).st q7).st uA,((((((((((q1.st e0).st n0).st h1).st y1).st r3).st s3).st i5).st o7).st p7).st q7).st uA,((((((((((z0.st e0).st n0).st h1).st y1).st r3).st s3).st i5).st o7).st p7).st q7).st uA,a0,(((((((fJ.st y1).st r3).st s3).st i5).st o7).st p7).st q7).st uA,((uQ.st p7).st q7).st uA,(((rQ.st o7).st p7).st q7).st uA⟩
     refine AM 16 (by decide) O1104 (xs:=(([0,1]:List Int):List Int)) rfl rfl rfl rfl ⟨(vInt (show inI64 (0) from by decide)),(vInt (show inI64 (1) from by decide)),trivial⟩ (by decide) (by decide) rfl fun g1225 w1226 O1227 f1 t3=>?_
     have hZ:=f1.lst [] (fun _ h=>h.elim)
     refine Az [(4,[13]),(9,[15]),(13,[16]),(14,[18]),(16,[11]),(18,[11])] hZ (by kernel_rfl) ?_
     refine Bz (i:=4) (j:=13) (by kernel_rfl) rfl rfl ?_ ?_
     ·
      obtain ⟨t0,e1231,e1232⟩:=AB t0
      replace o0:=((o0.st e0).st n0).st f1
      replace jH:=jH.st f1
      refine AF rfl o0 (jH.rd) rfl rfl (by decide) e1231 e1232 rfl fun gD hD w1235 O1236 z1 uL=>?_
      rw [← t0] at uL ⊢
      have hZ:=z1.lst [13] (fun _ h=>by cases h;decide)
      refine Az [(9,[15]),(13,[16]),(14,[18]),(16,[11]),(18,[11])] hZ (by kernel_rfl) ?_
      refine AD (fuel:=8) [15,16,18] [(15,true)] (by kernel_rfl) rfl ?_
      refine AJ rfl rfl rfl (Au ?_)
      refine Bz (i:=9) (j:=13) (by kernel_rfl) rfl rfl ?_ ?_
      ·
       obtain ⟨l0,e1240,e1241⟩:=AB l0
       replace g0:=(((g0.st e0).st n0).st f1).st z1
       replace l1:=((l1.st n0).st f1).st z1
       refine AF rfl g0 (l1.rd) rfl rfl (by decide) e1240 e1241 rfl fun vL wL w1244 O1245 j5 vQ=>?_
       rw [← l0] at vQ ⊢
       have hZ:=j5.lst [15] (fun _ h=>by cases h;decide)
       refine Az [(13,[16]),(14,[18]),(16,[11]),(18,[11])] hZ (by kernel_rfl) ?_
       refine At (i:=13) (by kernel_rfl) rfl ?_
       replace t3:=(t3.st z1).st j5
       obtain ⟨O1249,k5,t3⟩:=t3.freeze
       have hZ:=k5.lst [16] (fun _ h=>by cases h;decide)
       refine AM 17 (by decide) O1249 (xs:=([([0,1]:List Int)]:List (List Int))) rfl rfl rfl rfl ⟨t3,trivial⟩ (by decide) (by decide) rfl fun g1251 w1252 O1253 l5 h1255=>?_
       replace hZ:=hZ.cmp l5 [16] (fun _ h=>h.elim) rfl
       refine Az [(14,[18]),(16,[11]),(18,[11])] hZ (by kernel_rfl) ?_
       refine At (i:=14) (by kernel_rfl) rfl ?_
       obtain ⟨m0,e1257,e1258⟩:=AB m0
       replace h0:=((((((h0.st e0).st n0).st f1).st z1).st j5).st k5).st l5
       refine AF rfl h0 (h1255.rd) rfl rfl (by decide) e1257 e1258 rfl fun wQ xQ w1261 xL r7 yQ=>?_
       rw [← m0] at yQ ⊢
       have hZ:=r7.lst [18] (fun _ h=>by cases h;decide)
       refine Az [(16,[11]),(18,[11])] hZ (by kernel_rfl) ?_
       refine At (i:=16) (by kernel_rfl) rfl ?_
       replace a0:=(((((((a0.st e0).st n0).st f1).st z1).st j5).st k5).st l5).st r7
       refine AA a0 rfl rfl rfl (AG rfl) (allOne rfl) fun w1266 s7 a0=>?_
       replace a0:Lc 11 w1266 xL i0 53 [(.slice gD k0.length hD),(.slice b0.2.1.1 f0.2.1.length b0.2.1.2),(.slice b0.2.2.1 f0.2.2.length b0.2.2.2)]:=a0
       have hZ:=s7.lst [11] (fun _ h=>by cases h;decide)
       refine Az [(18,[11])] hZ (by kernel_rfl) ?_
       refine AD (fuel:=3) [] [(17,true)] (by kernel_rfl) rfl ?_
       refine AJ rfl rfl rfl (Au ?_)
       refine At (i:=18) (by kernel_rfl) rfl ?_
       refine AA a0 rfl rfl rfl (AG rfl) (allOne rfl) fun w1268 t7 a0=>?_
       replace a0:Lc 11 w1268 xL i0 53 [(.slice gD k0.length hD),(.slice b0.2.1.1 f0.2.1.length b0.2.1.2),(.slice vL q0.length wL)]:=a0
       have hZ:=t7.lst [11] (fun _ h=>by cases h;decide)
       refine Az [] hZ (by kernel_rfl) ?_
       refine AD (fuel:=1) [] [(19,true)] (by kernel_rfl) rfl ?_
       refine AJ rfl rfl rfl (Au ?_)
       refine At (i:=20) (by kernel_rfl) rfl ?_
       refine AA a0 rfl rfl rfl (AG rfl) (allOne rfl) fun w1270 vA a0=>?_
       replace a0:Lc 11 w1270 xL i0 53 [(.slice gD k0.length hD),(.slice wQ m1.length xQ),(.slice vL q0.length wL)]:=a0
       refine Be (by kernel_rfl) ?_
       refine AY (by kernel_rfl) ?_
       obtain rfl:=sm u0
       exact show Exists _ from ⟨_,((gD,hD),(wQ,xQ),(vL,wL)),rfl,⟨rfl,rfl,rfl,rfl,rfl,rfl,rfl,rfl,rfl,rfl,trivial⟩,_,((((((((((hB.st e0).st n0).st f1).st z1).st j5).st k5).st l5).st r7).st s7).st t7).st vA,((((((((((b1.st e0).st n0).st f1).st z1).st j5).st k5).st l5).st r7).st s7).st t7).st vA,((((((((((p1.st e0).st n0).st f1).st z1).st j5).st k5).st l5).st r7).st s7).st t7).st vA,((((((((((o1.st e0).st n0).st f1).st z1).st j5).st k5).st l5).st r7).st s7).st t7).st vA,((((((((((r1.st e0).st n0).st f1).st z1).st j5).st k5).st l5).st r7).st s7).st t7).st vA,((((((((((q1.st e0).st n0).st f1).st z1).st j5).st k5).st l5).st r7).st s7).st t7).st vA,((((((((((z0.st e0).st n0).st f1).st z1).st j5).st k5).st l5).st r7).st s7).st t7).st vA,a0,((((((uL.st j5).st k5).st l5).st r7).st s7).st t7).st vA,((yQ.st s7).st t7).st vA,(((((vQ.st k5).st l5).st r7).st s7).st t7).st vA⟩
      replace t3:=t3.st z1
      obtain ⟨O1272,u3,t3⟩:=t3.freeze
      have hZ:=u3.lst [16] (fun _ h=>by cases h;decide)
      refine AM 17 (by decide) O1272 (xs:=([([0,1]:List Int)]:List (List Int))) rfl rfl rfl rfl ⟨t3,trivial⟩ (by decide) (by decide) rfl fun g1274 w1275 O1276 v3 yL=>?_
      replace hZ:=hZ.cmp v3 [16] (fun _ h=>h.elim) rfl
      refine Az [(9,[15]),(14,[18]),(16,[11]),(18,[11])] hZ (by kernel_rfl) ?_
      refine At (i:=9) (by kernel_rfl) rfl ?_
      obtain ⟨l0,e1280,e1281⟩:=AB l0
      replace g0:=(((((g0.st e0).st n0).st f1).st z1).st u3).st v3
      replace l1:=((((l1.st n0).st f1).st z1).st u3).st v3
      refine AF rfl g0 (l1.rd) rfl rfl (by decide) e1280 e1281 rfl fun zL aM w1284 O1285 m5 zQ=>?_
      rw [← l0] at zQ ⊢
      have hZ:=m5.lst [15] (fun _ h=>by cases h;decide)
      refine Az [(14,[18]),(16,[11]),(18,[11])] hZ (by kernel_rfl) ?_
      refine At (i:=14) (by kernel_rfl) rfl ?_
      obtain ⟨m0,e1289,e1290⟩:=AB m0
      replace h0:=((((((h0.st e0).st n0).st f1).st z1).st u3).st v3).st m5
      replace yL:=yL.st m5
      refine AF rfl h0 (yL.rd) rfl rfl (by decide) e1289 e1290 rfl fun aR bR w1293 bM u7 cR=>?_
      rw [← m0] at cR ⊢
      have hZ:=u7.lst [18] (fun _ h=>by cases h;decide)
      refine Az [(16,[11]),(18,[11])] hZ (by kernel_rfl) ?_
      refine At (i:=16) (by kernel_rfl) rfl ?_
      replace a0:=(((((((a0.st e0).st n0).st f1).st z1).st u3).st v3).st m5).st u7
      refine AA a0 rfl rfl rfl (AG rfl) (allOne rfl) fun w1298 v7 a0=>?_
      replace a0:Lc 11 w1298 bM i0 53 [(.slice gD k0.length hD),(.slice b0.2.1.1 f0.2.1.length b0.2.1.2),(.slice b0.2.2.1 f0.2.2.length b0.2.2.2)]:=a0
      have hZ:=v7.lst [11] (fun _ h=>by cases h;decide)
      refine Az [(18,[11])] hZ (by kernel_rfl) ?_
      refine AD (fuel:=3) [] [(17,true)] (by kernel_rfl) rfl ?_
      refine AJ rfl rfl rfl (Au ?_)
      refine At (i:=18) (by kernel_rfl) rfl ?_
      refine AA a0 rfl rfl rfl (AG rfl) (allOne rfl) fun w1300 w7 a0=>?_
      replace a0:Lc 11 w1300 bM i0 53 [(.slice gD k0.length hD),(.slice b0.2.1.1 f0.2.1.length b0.2.1.2),(.slice zL q0.length aM)]:=a0
      have hZ:=w7.lst [11] (fun _ h=>by cases h;decide)
      refine Az [] hZ (by kernel_rfl) ?_
      refine AD (fuel:=1) [] [(19,true)] (by kernel_rfl) rfl ?_
      refine AJ rfl rfl rfl (Au ?_)
      refine At (i:=20) (by kernel_rfl) rfl ?_
      refine AA a0 rfl rfl rfl (AG rfl) (allOne rfl) fun w1302 wA a0=>?_
      replace a0:Lc 11 w1302 bM i0 53 [(.slice gD k0.length hD),(.slice aR m1.length bR),(.slice zL q0.length aM)]:=a0
      refine Be (by kernel_rfl) ?_
      refine AY (by kernel_rfl) ?_
      obtain rfl:=sm u0
      exact show Exists _ from ⟨_,((gD,hD),(aR,bR),(zL,aM)),rfl,⟨rfl,rfl,rfl,rfl,rfl,rfl,rfl,rfl,rfl,rfl,trivial⟩,_,((((((((((hB.st e0).st n0).st f1).st z1).st u3).st v3).st m5).st u7).st v7).st w7).st wA,((((((((((b1.st e0).st n0).st f1).st z1).st u3).st v3).st m5).st u7).st v7).st w7).st wA,((((((((((p1.st e0).st n0).st f1).st z1).st u3).st v3).st m5).st u7).st v7).st w7).st wA,((((((((((o1.st e0).st n0).st f1).st z1).st u3).st v3).st m5).st u7).st v7).st w7).st wA,((((((((((r1.st e0).st n0).st f1).st z1).st u3).st v3).st m5).st u7).st v7).st w7).st wA,((((((((((q1.st e0).st n0).st f1).st z1).st u3).st v3).st m5).st u7).st v7).st w7).st wA,((((((((((z0.st e0).st n0).st f1).st z1).st u3).st v3).st m5).st u7).st v7).st w7).st wA,a0,((((((uL.st u3).st v3).st m5).st u7).st v7).st w7).st wA,((cR.st v7).st w7).st wA,(((zQ.st u7).st v7).st w7).st wA⟩
     obtain ⟨O1304,a3,t3⟩:=t3.freeze
     have hZ:=a3.lst [16] (fun _ h=>by cases h;decide)
     refine AM 17 (by decide) O1304 (xs:=([([0,1]:List Int)]:List (List Int))) rfl rfl rfl rfl ⟨t3,trivial⟩ (by decide) (by decide) rfl fun g1306 w1307 O1308 b3 cM=>?_
     replace hZ:=hZ.cmp b3 [16] (fun _ h=>h.elim) rfl
     refine Az [(4,[13]),(9,[15]),(14,[18]),(16,[11]),(18,[11])] hZ (by kernel_rfl) ?_
     refine At (i:=4) (by kernel_rfl) rfl ?_
     obtain ⟨t0,e1312,e1313⟩:=AB t0
     replace o0:=((((o0.st e0).st n0).st f1).st a3).st b3
     replace jH:=((jH.st f1).st a3).st b3
     refine AF rfl o0 (jH.rd) rfl rfl (by decide) e1312 e1313 rfl fun gJ hJ w1316 O1317 w3 dR=>?_
     rw [← t0] at dR ⊢
     have hZ:=w3.lst [13] (fun _ h=>by cases h;decide)
     refine Az [(9,[15]),(14,[18]),(16,[11]),(18,[11])] hZ (by kernel_rfl) ?_
     refine AD (fuel:=7) [15,18] [(15,true)] (by kernel_rfl) rfl ?_
     refine AJ rfl rfl rfl (Au ?_)
     refine At (i:=9) (by kernel_rfl) rfl ?_
     obtain ⟨l0,e1321,e1322⟩:=AB l0
     replace g0:=(((((g0.st e0).st n0).st f1).st a3).st b3).st w3
     replace l1:=((((l1.st n0).st f1).st a3).st b3).st w3
     refine AF rfl g0 (l1.rd) rfl rfl (by decide) e1321 e1322 rfl fun dM eM w1325 O1326 n5 eR=>?_
     rw [← l0] at eR ⊢
     have hZ:=n5.lst [15] (fun _ h=>by cases h;decide)
     refine Az [(14,[18]),(16,[11]),(18,[11])] hZ (by kernel_rfl) ?_
     refine At (i:=14) (by kernel_rfl) rfl ?_
     obtain ⟨m0,e1330,e1331⟩:=AB m0
     replace h0:=((((((h0.st e0).st n0).st f1).st a3).st b3).st w3).st n5
     replace cM:=(cM.st w3).st n5
     refine AF rfl h0 (cM.rd) rfl rfl (by decide) e1330 e1331 rfl fun fR gR w1334 fM x7 hR=>?_
     rw [← m0] at hR ⊢
     have hZ:=x7.lst [18] (fun _ h=>by cases h;decide)
     refine Az [(16,[11]),(18,[11])] hZ (by kernel_rfl) ?_
     refine At (i:=16) (by kernel_rfl) rfl ?_
     replace a0:=(((((((a0.st e0).st n0).st f1).st a3).st b3).st w3).st n5).st x7
     refine AA a0 rfl rfl rfl (AG rfl) (allOne rfl) fun w1339 y7 a0=>?_
     replace a0:Lc 11 w1339 fM i0 53 [(.slice gJ k0.length hJ),(.slice b0.2.1.1 f0.2.1.length b0.2.1.2),(.slice b0.2.2.1 f0.2.2.length b0.2.2.2)]:=a0
     have hZ:=y7.lst [11] (fun _ h=>by cases h;decide)
     refine Az [(18,[11])] hZ (by kernel_rfl) ?_
     refine AD (fuel:=3) [] [(17,true)] (by kernel_rfl) rfl ?_
     refine AJ rfl rfl rfl (Au ?_)
     refine At (i:=18) (by kernel_rfl) rfl ?_
     refine AA a0 rfl rfl rfl (AG rfl) (allOne rfl) fun w1341 z7 a0=>?_
     replace a0:Lc 11 w1341 fM i0 53 [(.slice gJ k0.length hJ),(.slice b0.2.1.1 f0.2.1.length b0.2.1.2),(.slice dM q0.length eM)]:=a0
     have hZ:=z7.lst [11] (fun _ h=>by cases h;decide)
     refine Az [] hZ (by kernel_rfl) ?_
     refine AD (fuel:=1) [] [(19,true)] (by kernel_rfl) rfl ?_
     refine AJ rfl rfl rfl (Au ?_)
     refine At (i:=20) (by kernel_rfl) rfl ?_
     refine AA a0 rfl rfl rfl (AG rfl) (allOne rfl) fun w1343 xA a0=>?_
     replace a0:Lc 11 w1343 fM i0 53 [(.slice gJ k0.length hJ),(.slice fR m1.length gR),(.slice dM q0.length eM)]:=a0
     refine Be (by kernel_rfl) ?_
     refine AY (by kernel_rfl) ?_
     obtain rfl:=sm u0
     exact show Exists _ from ⟨_,((gJ,hJ),(fR,gR),(dM,eM)),rfl,⟨rfl,rfl,rfl,rfl,rfl,rfl,rfl,rfl,rfl,rfl,trivial⟩,_,((((((((((hB.st e0).st n0).st f1).st a3).st b3).st w3).st n5).st x7).st y7).st z7).st xA,((((((((((b1.st e0).st n0).st f1).st a3).st b3).st w3).st n5).st x7).st y7).st z7).st xA,((((((((((p1.st e0).st n0).st f1).st a3).st b3).st w3).st n5).st x7).st y7).st z7).st xA,((((((((((o1.st e0).st n0).st f1).st a3).st b3).st w3).st n5).st x7).st y7).st z7).st xA,((((((((((r1.st e0).st n0).st f1).st a3).st b3).st w3).st n5).st x7).st y7).st z7).st xA,((((((((((q1.st e0).st n0).st f1).st a3).st b3).st w3).st n5).st x7).st y7).st z7).st xA,((((((((((z0.st e0).st n0).st f1).st a3).st b3).st w3).st n5).st x7).st y7).st z7).st xA,a0,((((dR.st n5).st x7).st y7).st z7).st xA,((hR.st y7).st z7).st xA,(((eR.st x7).st y7).st z7).st xA⟩
    refine AM 16 (by decide) iQ (xs:=(([0,1]:List Int):List Int)) rfl rfl rfl rfl ⟨(vInt (show inI64 (0) from by decide)),(vInt (show inI64 (1) from by decide)),trivial⟩ (by decide) (by decide) rfl fun g1345 w1346 O1347 v0 o2=>?_
    have hZ:=v0.lst [] (fun _ h=>h.elim)
    refine Az [(4,[13]),(9,[15]),(13,[16]),(14,[18]),(16,[11]),(18,[11])] hZ (by kernel_rfl) ?_
    refine Bz (i:=3) (j:=13) (by kernel_rfl) rfl rfl ?_ ?_
    ·
     refine AM 12 (by decide) O1347 (xs:=(([(n2:Int)]:List Int):List Int)) rfl rfl rfl rfl ⟨(vInt rk252),trivial⟩ (by decide) (by decide) rfl fun g1351 w1352 O1353 d1 iJ=>?_
     have hZ:=d1.lst [] (fun _ h=>h.elim)
     refine Az [(4,[13]),(9,[15]),(13,[16]),(14,[18]),(16,[11]),(18,[11])] hZ (by kernel_rfl) ?_
     refine Bz (i:=4) (j:=13) (by kernel_rfl) rfl rfl ?_ ?_
     ·
      obtain ⟨t0,e1357,e1358⟩:=AB t0
      replace o0:=((o0.st e0).st v0).st d1
      refine AF rfl o0 (iJ.rd) rfl rfl (by decide) e1357 e1358 rfl fun iD jD w1361 O1362 a2 gM=>?_
      rw [← t0] at gM ⊢
      have hZ:=a2.lst [13] (fun _ h=>by cases h;decide)
      refine Az [(9,[15]),(13,[16]),(14,[18]),(16,[11]),(18,[11])] hZ (by kernel_rfl) ?_
      refine AD (fuel:=8) [15,16,18] [(15,true)] (by kernel_rfl) rfl ?_
      refine AJ rfl rfl rfl (Au ?_)
      refine Bz (i:=9) (j:=13) (by kernel_rfl) rfl rfl ?_ ?_
      ·
       obtain ⟨l0,e1366,e1367⟩:=AB l0
       replace g0:=(((g0.st e0).st v0).st d1).st a2
       replace l1:=((l1.st v0).st d1).st a2
       refine AF rfl g0 (l1.rd) rfl rfl (by decide) e1366 e1367 rfl fun hM iM w1370 O1371 o5 iR=>?_
       rw [← l0] at iR ⊢
       have hZ:=o5.lst [15] (fun _ h=>by cases h;decide)
       refine Az [(13,[16]),(14,[18]),(16,[11]),(18,[11])] hZ (by kernel_rfl) ?_
       refine At (i:=13) (by kernel_rfl) rfl ?_
       replace o2:=((o2.st d1).st a2).st o5
       obtain ⟨O1375,p5,o2⟩:=o2.freeze
       have hZ:=p5.lst [16] (fun _ h=>by cases h;decide)
       refine AM 17 (by decide) O1375 (xs:=([([0,1]:List Int)]:List (List Int))) rfl rfl rfl rfl ⟨o2,trivial⟩ (by decide) (by decide) rfl fun g1377 w1378 O1379 q5 h1381=>?_
       replace hZ:=hZ.cmp q5 [16] (fun _ h=>h.elim) rfl
       refine Az [(14,[18]),(16,[11]),(18,[11])] hZ (by kernel_rfl) ?_
       refine At (i:=14) (by kernel_rfl) rfl ?_
       obtain ⟨m0,e1383,e1384⟩:=AB m0
       replace h0:=((((((h0.st e0).st v0).st d1).st a2).st o5).st p5).st q5
       refine AF rfl h0 (h1381.rd) rfl rfl (by decide) e1383 e1384 rfl fun jR kR w1387 jM a8 lR=>?_
       rw [← m0] at lR ⊢
       have hZ:=a8.lst [18] (fun _ h=>by cases h;decide)
       refine Az [(16,[11]),(18,[11])] hZ (by kernel_rfl) ?_
       refine At (i:=16) (by kernel_rfl) rfl ?_
       replace a0:=(((((((a0.st e0).st v0).st d1).st a2).st o5).st p5).st q5).st a8
       refine AA a0 rfl rfl rfl (AG rfl) (allOne rfl) fun w1392 b8 a0=>?_
       replace a0:Lc 11 w1392 jM i0 53 [(.slice iD k0.length jD),(.slice b0.2.1.1 f0.2.1.length b0.2.1.2),(.slice b0.2.2.1 f0.2.2.length b0.2.2.2)]:=a0
       have hZ:=b8.lst [11] (fun _ h=>by cases h;decide)
       refine Az [(18,[11])] hZ (by kernel_rfl) ?_
       refine AD (fuel:=3) [] [(17,true)] (by kernel_rfl) rfl ?_
       refine AJ rfl rfl rfl (Au ?_)
       refine At (i:=18) (by kernel_rfl) rfl ?_
       refine AA a0 rfl rfl rfl (AG rfl) (allOne rfl) fun w1394 c8 a0=>?_
       replace a0:Lc 11 w1394 jM i0 53 [(.slice iD k0.length jD),(.slice b0.2.1.1 f0.2.1.length b0.2.1.2),(.slice hM q0.length iM)]:=a0
       have hZ:=c8.lst [11] (fun _ h=>by cases h;decide)
       refine Az [] hZ (by kernel_rfl) ?_
       refine AD (fuel:=1) [] [(19,true)] (by kernel_rfl) rfl ?_
       refine AJ rfl rfl rfl (Au ?_)
       refine At (i:=20) (by kernel_rfl) rfl ?_
       refine AA a0 rfl rfl rfl (AG rfl) (allOne rfl) fun w1396 yA a0=>?_
       replace a0:Lc 11 w1396 jM i0 53 [(.slice iD k0.length jD),(.slice jR m1.length kR),(.slice hM q0.length iM)]:=a0
       refine Be (by kernel_rfl) ?_
       refine AY (by kernel_rfl) ?_
       obtain rfl:=sm u0
       exact show Exists _ from ⟨_,((iD,jD),(jR,kR),(hM,iM)),rfl,⟨rfl,rfl,rfl,rfl,rfl,rfl,rfl,rfl,rfl,rfl,trivial⟩,_,((((((((((hB.st e0).st v0).st d1).st a2).st o5).st p5).st q5).st a8).st b8).st c8).st yA,((((((((((b1.st e0).st v0).st d1).st a2).st o5).st p5).st q5).st a8).st b8).st c8).st yA,((((((((((p1.st e0).st v0).st d1).st a2).st o5).st p5).st q5).st a8).st b8).st c8).st yA,((((((((((o1.st e0).st v0).st d1).st a2).st o5).st p5).st q5).st a8).st b8).st c8).st yA,((((((((((r1.st e0).st v0).st d1).st a2).st o5).st p5).st q5).st a8).st b8).st c8).st yA,((((((((((q1.st e0).st v0).st d1).st a2).st o5).st p5).st q5).st a8).st b8).st c8).st yA,((((((((((z0.st e0).st v0).st d1).st a2).st o5).st p5).st q5).st a8).st b8).st c8).st yA,a0,((((((gM.st o5).st p5).st q5).st a8).st b8).st c8).st yA,((lR.st b8).st c8).st yA,(((((iR.st p5).st q5).st a8).st b8).st c8).st yA⟩
      replace o2:=(o2.st d1).st a2
      obtain ⟨O1398,x3,o2⟩:=o2.freeze
      have hZ:=x3.lst [16] (fun _ h=>by cases h;decide)
      refine AM 17 (by decide) O1398 (xs:=([([0,1]:List Int)]:List (List Int))) rfl rfl rfl rfl ⟨o2,trivial⟩ (by decide) (by decide) rfl fun g1400 w1401 O1402 y3 kM=>?_
      replace hZ:=hZ.cmp y3 [16] (fun _ h=>h.elim) rfl
      refine Az [(9,[15]),(14,[18]),(16,[11]),(18,[11])] hZ (by kernel_rfl) ?_
      refine At (i:=9) (by kernel_rfl) rfl ?_
      obtain ⟨l0,e1406,e1407⟩:=AB l0
      replace g0:=(((((g0.st e0).st v0).st d1).st a2).st x3).st y3
      replace l1:=((((l1.st v0).st d1).st a2).st x3).st y3
      refine AF rfl g0 (l1.rd) rfl rfl (by decide) e1406 e1407 rfl fun lM mM w1410 O1411 r5 mR=>?_
      rw [← l0] at mR ⊢
      have hZ:=r5.lst [15] (fun _ h=>by cases h;decide)
      refine Az [(14,[18]),(16,[11]),(18,[11])] hZ (by kernel_rfl) ?_
      refine At (i:=14) (by kernel_rfl) rfl ?_
      obtain ⟨m0,e1415,e1416⟩:=AB m0
      replace h0:=((((((h0.st e0).st v0).st d1).st a2).st x3).st y3).st r5
      replace kM:=kM.st r5
      refine AF rfl h0 (kM.rd) rfl rfl (by decide) e1415 e1416 rfl fun nR oR w1419 nM d8 pR=>?_
      rw [← m0] at pR ⊢
      have hZ:=d8.lst [18] (fun _ h=>by cases h;decide)
      refine Az [(16,[11]),(18,[11])] hZ (by kernel_rfl) ?_
      refine At (i:=16) (by kernel_rfl) rfl ?_
      replace a0:=(((((((a0.st e0).st v0).st d1).st a2).st x3).st y3).st r5).st d8
      refine AA a0 rfl rfl rfl (AG rfl) (allOne rfl) fun w1424 e8 a0=>?_
      replace a0:Lc 11 w1424 nM i0 53 [(.slice iD k0.length jD),(.slice b0.2.1.1 f0.2.1.length b0.2.1.2),(.slice b0.2.2.1 f0.2.2.length b0.2.2.2)]:=a0
      have hZ:=e8.lst [11] (fun _ h=>by cases h;decide)
      refine Az [(18,[11])] hZ (by kernel_rfl) ?_
      refine AD (fuel:=3) [] [(17,true)] (by kernel_rfl) rfl ?_
      refine AJ rfl rfl rfl (Au ?_)
      refine At (i:=18) (by kernel_rfl) rfl ?_
      refine AA a0 rfl rfl rfl (AG rfl) (allOne rfl) fun w1426 f8 a0=>?_
      replace a0:Lc 11 w1426 nM i0 53 [(.slice iD k0.length jD),(.slice b0.2.1.1 f0.2.1.length b0.2.1.2),(.slice lM q0.length mM)]:=a0
      have hZ:=f8.lst [11] (fun _ h=>by cases h;decide)
      refine Az [] hZ (by kernel_rfl) ?_
      refine AD (fuel:=1) [] [(19,true)] (by kernel_rfl) rfl ?_
      refine AJ rfl rfl rfl (Au ?_)
      refine At (i:=20) (by kernel_rfl) rfl ?_
      refine AA a0 rfl rfl rfl (AG rfl) (allOne rfl) fun w1428 zA a0=>?_
      replace a0:Lc 11 w1428 nM i0 53 [(.slice iD k0.length jD),(.slice nR m1.length oR),(.slice lM q0.length mM)]:=a0
      refine Be (by kernel_rfl) ?_
      refine AY (by kernel_rfl) ?_
      obtain rfl:=sm u0
      exact show Exists _ from ⟨_,((iD,jD),(nR,oR),(lM,mM)),rfl,⟨rfl,rfl,rfl,rfl,rfl,rfl,rfl,rfl,rfl,rfl,trivial⟩,_,((((((((((hB.st e0).st v0).st d1).st a2).st x3).st y3).st r5).st d8).st e8).st f8).st zA,((((((((((b1.st e0).st v0).st d1).st a2).st x3).st y3).st r5).st d8).st e8).st f8).st zA,((((((((((p1.st e0).st v0).st d1).st a2).st x3).st y3).st r5).st d8).st e8).st f8).st zA,((((((((((o1.st e0).st v0).st d1).st a2).st x3).st y3).st r5).st d8).st e8).st f8).st zA,((((((((((r1.st e0).st v0).st d1).st a2).st x3).st y3).st r5).st d8).st e8).st f8).st zA,((((((((((q1.st e0).st v0).st d1).st a2).st x3).st y3).st r5).st d8).st e8).st f8).st zA,((((((((((z0.st e0).st v0).st d1).st a2).st x3).st y3).st r5).st d8).st e8).st f8).st zA,a0,((((((gM.st x3).st y3).st r5).st d8).st e8).st f8).st zA,((pR.st e8).st f8).st zA,(((mR.st d8).st e8).st f8).st zA⟩
     replace o2:=o2.st d1
     obtain ⟨O1430,c3,o2⟩:=o2.freeze
     have hZ:=c3.lst [16] (fun _ h=>by cases h;decide)
     refine AM 17 (by decide) O1430 (xs:=([([0,1]:List Int)]:List (List Int))) rfl rfl rfl rfl ⟨o2,trivial⟩ (by decide) (by decide) rfl fun g1432 w1433 O1434 d3 oM=>?_
     replace hZ:=hZ.cmp d3 [16] (fun _ h=>h.elim) rfl
     refine Az [(4,[13]),(9,[15]),(14,[18]),(16,[11]),(18,[11])] hZ (by kernel_rfl) ?_
     refine At (i:=4) (by kernel_rfl) rfl ?_
     obtain ⟨t0,e1438,e1439⟩:=AB t0
     replace o0:=((((o0.st e0).st v0).st d1).st c3).st d3
     replace iJ:=(iJ.st c3).st d3
     refine AF rfl o0 (iJ.rd) rfl rfl (by decide) e1438 e1439 rfl fun jJ kJ w1442 O1443 z3 qR=>?_
     rw [← t0] at qR ⊢
     have hZ:=z3.lst [13] (fun _ h=>by cases h;decide)
     refine Az [(9,[15]),(14,[18]),(16,[11]),(18,[11])] hZ (by kernel_rfl) ?_
     refine AD (fuel:=7) [15,18] [(15,true)] (by kernel_rfl) rfl ?_
     refine AJ rfl rfl rfl (Au ?_)
     refine At (i:=9) (by kernel_rfl) rfl ?_
     obtain ⟨l0,e1447,e1448⟩:=AB l0
     replace g0:=(((((g0.st e0).st v0).st d1).st c3).st d3).st z3
     replace l1:=((((l1.st v0).st d1).st c3).st d3).st z3
     refine AF rfl g0 (l1.rd) rfl rfl (by decide) e1447 e1448 rfl fun pM qM w1451 O1452 s5 rR=>?_
     rw [← l0] at rR ⊢
     have hZ:=s5.lst [15] (fun _ h=>by cases h;decide)
     refine Az [(14,[18]),(16,[11]),(18,[11])] hZ (by kernel_rfl) ?_
     refine At (i:=14) (by kernel_rfl) rfl ?_
     obtain ⟨m0,e1456,e1457⟩:=AB m0
     replace h0:=((((((h0.st e0).st v0).st d1).st c3).st d3).st z3).st s5
     replace oM:=(oM.st z3).st s5
     refine AF rfl h0 (oM.rd) rfl rfl (by decide) e1456 e1457 rfl fun sR tR w1460 rM g8 uR=>?_
     rw [← m0] at uR ⊢
     have hZ:=g8.lst [18] (fun _ h=>by cases h;decide)
     refine Az [(16,[11]),(18,[11])] hZ (by kernel_rfl) ?_
     refine At (i:=16) (by kernel_rfl) rfl ?_
     replace a0:=(((((((a0.st e0).st v0).st d1).st c3).st d3).st z3).st s5).st g8
     refine AA a0 rfl rfl rfl (AG rfl) (allOne rfl) fun w1465 i8 a0=>?_
     replace a0:Lc 11 w1465 rM i0 53 [(.slice jJ k0.length kJ),(.slice b0.2.1.1 f0.2.1.length b0.2.1.2),(.slice b0.2.2.1 f0.2.2.length b0.2.2.2)]:=a0
     have hZ:=i8.lst [11] (fun _ h=>by cases h;decide)
     refine Az [(18,[11])] hZ (by kernel_rfl) ?_
     refine AD (fuel:=3) [] [(17,true)] (by kernel_rfl) rfl ?_
     refine AJ rfl rfl rfl (Au ?_)
     refine At (i:=18) (by kernel_rfl) rfl ?_
     refine AA a0 rfl rfl rfl (AG rfl) (allOne rfl) fun w1467 j8 a0=>?_
     replace a0:Lc 11 w1467 rM i0 53 [(.slice jJ k0.length kJ),(.slice b0.2.1.1 f0.2.1.length b0.2.1.2),(.slice pM q0.length qM)]:=a0
     have hZ:=j8.lst [11] (fun _ h=>by cases h;decide)
     refine Az [] hZ (by kernel_rfl) ?_
     refine AD (fuel:=1) [] [(19,true)] (by kernel_rfl) rfl ?_
     refine AJ rfl rfl rfl (Au ?_)
     refine At (i:=20) (by kernel_rfl) rfl ?_
     refine AA a0 rfl rfl rfl (AG rfl) (allOne rfl) fun w1469 aB a0=>?_
     replace a0:Lc 11 w1469 rM i0 53 [(.slice jJ k0.length kJ),(.slice sR m1.length tR),(.slice pM q0.length qM)]:=a0
     refine Be (by kernel_rfl) ?_
     refine AY (by kernel_rfl) ?_
     obtain rfl:=sm u0
     exact show Exists _ from ⟨_,((jJ,kJ),(sR,tR),(pM,qM)),rfl,⟨rfl,rfl,rfl,rfl,rfl,rfl,rfl,rfl,rfl,rfl,trivial⟩,_,((((((((((hB.st e0).st v0).st d1).st c3).st d3).st z3).st s5).st g8).st i8).st j8).st aB,((((((((((b1.st e0).st v0).st d1).st c3).st d3).st z3).st s5).st g8).st i8).st j8).st aB,((((((((((p1.st e0).st v0).st d1).st c3).st d3).st z3).st s5).st g8).st i8).st j8).st aB,((((((((((o1.st e0).st v0).st d1).st c3).st d3).st z3).st s5).st g8).st i8).st j8).st aB,((((((((((r1.st e0).st v0).st d1).st c3).st d3).st z3).st s5).st g8).st i8).st j8).st aB,((((((((((q1.st e0).st v0).st d1).st c3).st d3).st z3).st s5).st g8).st i8).st j8).st aB,((((((((((z0.st e0).st v0).st d1).st c3).st d3).st z3).st s5).st g8).st i8).st j8).st aB,a0,((((qR.st s5).st g8).st i8).st j8).st aB,((uR.st i8).st j8).st aB,(((rR.st g8).st i8).st j8).st aB⟩
    obtain ⟨O1471,a4,o2⟩:=o2.freeze
    have hZ:=a4.lst [16] (fun _ h=>by cases h;decide)
    refine AM 17 (by decide) O1471 (xs:=([([0,1]:List Int)]:List (List Int))) rfl rfl rfl rfl ⟨o2,trivial⟩ (by decide) (by decide) rfl fun g1473 w1474 O1475 b4 sM=>?_
    replace hZ:=hZ.cmp b4 [16] (fun _ h=>h.elim) rfl
    refine Az [(4,[13]),(9,[15]),(14,[18]),(16,[11]),(18,[11])] hZ (by kernel_rfl) ?_
    refine At (i:=3) (by kernel_rfl) rfl ?_
    refine AM 12 (by decide) O1475 (xs:=(([(n2:Int)]:List Int):List Int)) rfl rfl rfl rfl ⟨(vInt rk252),trivial⟩ (by decide) (by decide) rfl fun g1479 w1480 O1481 e3 h1483=>?_
    have hZ:=e3.lst [] (fun _ h=>h.elim)
    refine Az [(4,[13]),(9,[15]),(14,[18]),(16,[11]),(18,[11])] hZ (by kernel_rfl) ?_
    refine At (i:=4) (by kernel_rfl) rfl ?_
    obtain ⟨t0,e1485,e1486⟩:=AB t0
    replace o0:=((((o0.st e0).st v0).st a4).st b4).st e3
    refine AF rfl o0 (h1483.rd) rfl rfl (by decide) e1485 e1486 rfl fun lJ mJ w1489 O1490 c4 vR=>?_
    rw [← t0] at vR ⊢
    have hZ:=c4.lst [13] (fun _ h=>by cases h;decide)
    refine Az [(9,[15]),(14,[18]),(16,[11]),(18,[11])] hZ (by kernel_rfl) ?_
    refine AD (fuel:=7) [15,18] [(15,true)] (by kernel_rfl) rfl ?_
    refine AJ rfl rfl rfl (Au ?_)
    refine At (i:=9) (by kernel_rfl) rfl ?_
    obtain ⟨l0,e1494,e1495⟩:=AB l0
    replace g0:=(((((g0.st e0).st v0).st a4).st b4).st e3).st c4
    replace l1:=((((l1.st v0).st a4).st b4).st e3).st c4
    refine AF rfl g0 (l1.rd) rfl rfl (by decide) e1494 e1495 rfl fun tM uM w1498 O1499 t5 wR=>?_
    rw [← l0] at wR ⊢
    have hZ:=t5.lst [15] (fun _ h=>by cases h;decide)
    refine Az [(14,[18]),(16,[11]),(18,[11])] hZ (by kernel_rfl) ?_
    refine At (i:=14) (by kernel_rfl) rfl ?_
    obtain ⟨m0,e1503,e1504⟩:=AB m0
    replace h0:=((((((h0.st e0).st v0).st a4).st b4).st e3).st c4).st t5
    replace sM:=((sM.st e3).st c4).st t5
    refine AF rfl h0 (sM.rd) rfl rfl (by decide) e1503 e1504 rfl fun xR yR w1507 vM k8 zR=>?_
    rw [← m0] at zR ⊢
    have hZ:=k8.lst [18] (fun _ h=>by cases h;decide)
    refine Az [(16,[11]),(18,[11])] hZ (by kernel_rfl) ?_
    refine At (i:=16) (by kernel_rfl) rfl ?_
    replace a0:=(((((((a0.st e0).st v0).st a4).st b4).st e3).st c4).st t5).st k8
    refine AA a0 rfl rfl rfl (AG rfl) (allOne rfl) fun w1512 l8 a0=>?_
    replace a0:Lc 11 w1512 vM i0 53 [(.slice lJ k0.length mJ),(.slice b0.2.1.1 f0.2.1.length b0.2.1.2),(.slice b0.2.2.1 f0.2.2.length b0.2.2.2)]:=a0
    have hZ:=l8.lst [11] (fun _ h=>by cases h;decide)
    refine Az [(18,[11])] hZ (by kernel_rfl) ?_
    refine AD (fuel:=3) [] [(17,true)] (by kernel_rfl) rfl ?_
    refine AJ rfl rfl rfl (Au ?_)
    refine At (i:=18) (by kernel_rfl) rfl ?_
    refine AA a0 rfl rfl rfl (AG rfl) (allOne rfl) fun w1514 m8 a0=>?_
    replace a0:Lc 11 w1514 vM i0 53 [(.slice lJ k0.length mJ),(.slice b0.2.1.1 f0.2.1.length b0.2.1.2),(.slice tM q0.length uM)]:=a0
    have hZ:=m8.lst [11] (fun _ h=>by cases h;decide)
    refine Az [] hZ (by kernel_rfl) ?_
    refine AD (fuel:=1) [] [(19,true)] (by kernel_rfl) rfl ?_
    refine AJ rfl rfl rfl (Au ?_)
    refine At (i:=20) (by kernel_rfl) rfl ?_
    refine AA a0 rfl rfl rfl (AG rfl) (allOne rfl) fun w1516 bB a0=>?_
    replace a0:Lc 11 w1516 vM i0 53 [(.slice lJ k0.length mJ),(.slice xR m1.length yR),(.slice tM q0.length uM)]:=a0
    refine Be (by kernel_rfl) ?_
    refine AY (by kernel_rfl) ?_
    obtain rfl:=sm u0
    exact show Exists _ from ⟨_,((lJ,mJ),(xR,yR),(tM,uM)),rfl,⟨rfl,rfl,rfl,rfl,rfl,rfl,rfl,rfl,rfl,rfl,trivial⟩,_,((((((((((hB.st e0).st v0).st a4).st b4).st e3).st c4).st t5).st k8).st l8).st m8).st bB,((((((((((b1.st e0).st v0).st a4).st b4).st e3).st c4).st t5).st k8).st l8).st m8).st bB,((((((((((p1.st e0).st v0).st a4).st b4).st e3).st c4).st t5).st k8).st l8).st m8).st bB,((((((((((o1.st e0).st v0).st a4).st b4).st e3).st c4).st t5).st k8).st l8).st m8).st bB,((((((((((r1.st e0).st v0).st a4).st b4).st e3).st c4).st t5).st k8).st l8).st m8).st bB,((((((((((q1.st e0).st v0).st a4).st b4).st e3).st c4).st t5).st k8).st l8).st m8).st bB,((((((((((z0.st e0).st v0).st a4).st b4).st e3).st c4).st t5).st k8).st l8).st m8).st bB,a0,((((vR.st t5).st k8).st l8).st m8).st bB,((zR.st l8).st m8).st bB,(((wR.st k8).st l8).st m8).st bB⟩
   refine AM 16 (by decide) oP (xs:=(([0,1]:List Int):List Int)) rfl rfl rfl rfl ⟨(vInt (show inI64 (0) from by decide)),(vInt (show inI64 (1) from by decide)),trivial⟩ (by decide) (by decide) rfl fun g1518 w1519 aS c0 r0=>?_
   have hZ:=c0.lst [] (fun _ h=>h.elim)
   refine Az [(4,[13]),(9,[15]),(13,[16]),(14,[18]),(16,[11]),(18,[11])] hZ (by kernel_rfl) ?_
   refine EZ (i:=3) (j:=8) (k:=13) (by kernel_rfl) rfl rfl rfl ?_ ?_ ?_
   ·
    refine AM 12 (by decide) aS (xs:=(([(n2:Int)]:List Int):List Int)) rfl rfl rfl rfl ⟨(vInt rk252),trivial⟩ (by decide) (by decide) rfl fun g1524 w1525 O1526 j0 d4=>?_
    have hZ:=j0.lst [] (fun _ h=>h.elim)
    refine Az [(4,[13]),(9,[15]),(13,[16]),(14,[18]),(16,[11]),(18,[11])] hZ (by kernel_rfl) ?_
    refine EZ (i:=4) (j:=8) (k:=13) (by kernel_rfl) rfl rfl rfl ?_ ?_ ?_
    ·
     obtain ⟨t0,e1530,e1531⟩:=AB t0
     replace o0:=(o0.st c0).st j0
     refine AF rfl o0 (d4.rd) rfl rfl (by decide) e1530 e1531 rfl fun u5 v5 w1534 O1535 i1 nJ=>?_
     rw [← t0] at nJ ⊢
     have hZ:=i1.lst [13] (fun _ h=>by cases h;decide)
     refine Az [(9,[15]),(13,[16]),(14,[18]),(16,[11]),(18,[11])] hZ (by kernel_rfl) ?_
     refine AD (fuel:=9) [15,16,18] [(15,true)] (by kernel_rfl) rfl ?_
     refine AJ rfl rfl rfl (Au ?_)
     refine Bz (i:=8) (j:=13) (by kernel_rfl) rfl rfl ?_ ?_
     ·
      refine AM 14 (by decide) O1535 (xs:=(([(n2:Int)]:List Int):List Int)) rfl rfl rfl rfl ⟨(vInt rk252),trivial⟩ (by decide) (by decide) rfl fun g1539 w1540 O1541 b2 oJ=>?_
      have hZ:=b2.lst [] (fun _ h=>h.elim)
      refine Az [(9,[15]),(13,[16]),(14,[18]),(16,[11]),(18,[11])] hZ (by kernel_rfl) ?_
      refine Bz (i:=9) (j:=13) (by kernel_rfl) rfl rfl ?_ ?_
      ·
       obtain ⟨l0,e1545,e1546⟩:=AB l0
       replace g0:=(((g0.st c0).st j0).st i1).st b2
       refine AF rfl g0 (oJ.rd) rfl rfl (by decide) e1545 e1546 rfl fun wM xM w1549 O1550 x5 bS=>?_
       rw [← l0] at bS ⊢
       have hZ:=x5.lst [15] (fun _ h=>by cases h;decide)
       refine Az [(13,[16]),(14,[18]),(16,[11]),(18,[11])] hZ (by kernel_rfl) ?_
       refine At (i:=13) (by kernel_rfl) rfl ?_
       replace r0:=(((r0.st j0).st i1).st b2).st x5
       obtain ⟨O1554,y5,r0⟩:=r0.freeze
       have hZ:=y5.lst [16] (fun _ h=>by cases h;decide)
       refine AM 17 (by decide) O1554 (xs:=([([0,1]:List Int)]:List (List Int))) rfl rfl rfl rfl ⟨r0,trivial⟩ (by decide) (by decide) rfl fun g1556 w1557 O1558 z5 h1560=>?_
       replace hZ:=hZ.cmp z5 [16] (fun _ h=>h.elim) rfl
       refine Az [(14,[18]),(16,[11]),(18,[11])] hZ (by kernel_rfl) ?_
       refine At (i:=14) (by kernel_rfl) rfl ?_
       obtain ⟨m0,e1562,e1563⟩:=AB m0
       replace h0:=((((((h0.st c0).st j0).st i1).st b2).st x5).st y5).st z5
       refine AF rfl h0 (h1560.rd) rfl rfl (by decide) e1562 e1563 rfl fun cS dS w1566 yM n8 eS=>?_
       rw [← m0] at eS ⊢
       have hZ:=n8.lst [18] (fun _ h=>by cases h;decide)
       refine Az [(16,[11]),(18,[11])] hZ (by kernel_rfl) ?_
       refine At (i:=16) (by kernel_rfl) rfl ?_
       replace a0:=(((((((a0.st c0).st j0).st i1).st b2).st x5).st y5).st z5).st n8
       refine AA a0 rfl rfl rfl (AG rfl) (allOne rfl) fun w1571 o8 a0=>?_
       replace a0:Lc 11 w1571 yM i0 53 [(.slice u5 k0.length v5),(.slice b0.2.1.1 f0.2.1.length b0.2.1.2),(.slice b0.2.2.1 f0.2.2.length b0.2.2.2)]:=a0
       have hZ:=o8.lst [11] (fun _ h=>by cases h;decide)
       refine Az [(18,[11])] hZ (by kernel_rfl) ?_
       refine AD (fuel:=3) [] [(17,true)] (by kernel_rfl) rfl ?_
       refine AJ rfl rfl rfl (Au ?_)
       refine At (i:=18) (by kernel_rfl) rfl ?_
       refine AA a0 rfl rfl rfl (AG rfl) (allOne rfl) fun w1573 p8 a0=>?_
       replace a0:Lc 11 w1573 yM i0 53 [(.slice u5 k0.length v5),(.slice b0.2.1.1 f0.2.1.length b0.2.1.2),(.slice wM q0.length xM)]:=a0
       have hZ:=p8.lst [11] (fun _ h=>by cases h;decide)
       refine Az [] hZ (by kernel_rfl) ?_
       refine AD (fuel:=1) [] [(19,true)] (by kernel_rfl) rfl ?_
       refine AJ rfl rfl rfl (Au ?_)
       refine At (i:=20) (by kernel_rfl) rfl ?_
       refine AA a0 rfl rfl rfl (AG rfl) (allOne rfl) fun w1575 cB a0=>?_
       replace a0:Lc 11 w1575 yM i0 53 [(.slice u5 k0.length v5),(.slice cS m1.length dS),(.slice wM q0.length xM)]:=a0
       refine Be (by kernel_rfl) ?_
       refine AY (by kernel_rfl) ?_
       obtain rfl:=sm u0
       exact show Exists _ from ⟨_,((u5,v5),(cS,dS),(wM,xM)),rfl,⟨rfl,rfl,rfl,rfl,rfl,rfl,rfl,rfl,rfl,rfl,trivial⟩,_,((((((((((hB.st c0).st j0).st i1).st b2).st x5).st y5).st z5).st n8).st o8).st p8).st cB,((((((((((b1.st c0).st j0).st i1).st b2).st x5).st y5).st z5).st n8).st o8).st p8).st cB,((((((((((p1.st c0).st j0).st i1).st b2).st x5).st y5).st z5).st n8).st o8).st p8).st cB,((((((((((o1.st c0).st j0).st i1).st b2).st x5).st y5).st z5).st n8).st o8).st p8).st cB,((((((((((r1.st c0).st j0).st i1).st b2).st x5).st y5).st z5).st n8).st o8).st p8).st cB,((((((((((q1.st c0).st j0).st i1).st b2).st x5).st y5).st z5).st n8).st o8).st p8).st cB,((((((((((z0.st c0).st j0).st i1).st b2).st x5).st y5).st z5).st n8).st o8).st p8).st cB,a0,(((((((nJ.st b2).st x5).st y5).st z5).st n8).st o8).st p8).st cB,((eS.st o8).st p8).st cB,(((((bS.st y5).st z5).st n8).st o8).st p8).st cB⟩
      replace r0:=((r0.st j0).st i1).st b2
      obtain ⟨O1577,f4,r0⟩:=r0.freeze
      have hZ:=f4.lst [16] (fun _ h=>by cases h;decide)
      refine AM 17 (by decide) O1577 (xs:=([([0,1]:List Int)]:List (List Int))) rfl rfl rfl rfl ⟨r0,trivial⟩ (by decide) (by decide) rfl fun g1579 w1580 O1581 g4 zM=>?_
      replace hZ:=hZ.cmp g4 [16] (fun _ h=>h.elim) rfl
      refine Az [(9,[15]),(14,[18]),(16,[11]),(18,[11])] hZ (by kernel_rfl) ?_
      refine At (i:=9) (by kernel_rfl) rfl ?_
      obtain ⟨l0,e1585,e1586⟩:=AB l0
      replace g0:=(((((g0.st c0).st j0).st i1).st b2).st f4).st g4
      replace oJ:=(oJ.st f4).st g4
      refine AF rfl g0 (oJ.rd) rfl rfl (by decide) e1585 e1586 rfl fun aN bN w1589 O1590 a6 fS=>?_
      rw [← l0] at fS ⊢
      have hZ:=a6.lst [15] (fun _ h=>by cases h;decide)
      refine Az [(14,[18]),(16,[11]),(18,[11])] hZ (by kernel_rfl) ?_
      refine At (i:=14) (by kernel_rfl) rfl ?_
      obtain ⟨m0,e1594,e1595⟩:=AB m0
      replace h0:=((((((h0.st c0).st j0).st i1).st b2).st f4).st g4).st a6
      replace zM:=zM.st a6
      refine AF rfl h0 (zM.rd) rfl rfl (by decide) e1594 e1595 rfl fun gS hS w1598 cN q8 iS=>?_
      rw [← m0] at iS ⊢
      have hZ:=q8.lst [18] (fun _ h=>by cases h;decide)
      refine Az [(16,[11]),(18,[11])] hZ (by kernel_rfl) ?_
      refine At (i:=16) (by kernel_rfl) rfl ?_
      replace a0:=(((((((a0.st c0).st j0).st i1).st b2).st f4).st g4).st a6).st q8
      refine AA a0 rfl rfl rfl (AG rfl) (allOne rfl) fun w1603 r8 a0=>?_
      replace a0:Lc 11 w1603 cN i0 53 [(.slice u5 k0.length v5),(.slice b0.2.1.1 f0.2.1.length b0.2.1.2),(.slice b0.2.2.1 f0.2.2.length b0.2.2.2)]:=a0
      have hZ:=r8.lst [11] (fun _ h=>by cases h;decide)
      refine Az [(18,[11])] hZ (by kernel_rfl) ?_
      refine AD (fuel:=3) [] [(17,true)] (by kernel_rfl) rfl ?_
      refine AJ rfl rfl rfl (Au ?_)
      refine At (i:=18) (by kernel_rfl) rfl ?_
      refine AA a0 rfl rfl rfl (AG rfl) (allOne rfl) fun w1605 s8 a0=>?_
      replace a0:Lc 11 w1605 cN i0 53 [(.slice u5 k0.length v5),(.slice b0.2.1.1 f0.2.1.length b0.2.1.2),(.slice aN q0.length bN)]:=a0
      have hZ:=s8.lst [11] (fun _ h=>by cases h;decide)
      refine Az [] hZ (by kernel_rfl) ?_
      refine AD (fuel:=1) [] [(19,true)] (by kernel_rfl) rfl ?_
      refine AJ rfl rfl rfl (Au ?_)
      refine At (i:=20) (by kernel_rfl) rfl ?_
      refine AA a0 rfl rfl rfl (AG rfl) (allOne rfl) fun w1607 dB a0=>?_
      replace a0:Lc 11 w1607 cN i0 53 [(.slice u5 k0.length v5),(.slice gS m1.length hS),(.slice aN q0.length bN)]:=a0
      refine Be (by kernel_rfl) ?_
      refine AY (by kernel_rfl) ?_
      obtain rfl:=sm u0
      exact show Exists _ from ⟨_,((u5,v5),(gS,hS),(aN,bN)),rfl,⟨rfl,rfl,rfl,rfl,rfl,rfl,rfl,rfl,rfl,rfl,trivial⟩,_,((((((((((hB.st c0).st j0).st i1).st b2).st f4).st g4).st a6).st q8).st r8).st s8).st dB,((((((((((b1.st c0).st j0).st i1).st b2).st f4).st g4).st a6).st q8).st r8).st s8).st dB,((((((((((p1.st c0).st j0).st i1).st b2).st f4).st g4).st a6).st q8).st r8).st s8).st dB,((((((((((o1.st c0).st j0).st i1).st b2).st f4).st g4).st a6).st q8).st r8).st s8).st dB,((((((((((r1.st c0).st j0).st i1).st b2).st f4).st g4).st a6).st q8).st r8).st s8).st dB,((((((((((q1.st c0).st j0).st i1).st b2).st f4).st g4).st a6).st q8).st r8).st s8).st dB,((((((((((z0.st c0).st j0).st i1).st b2).st f4).st g4).st a6).st q8).st r8).st s8).st dB,a0,(((((((nJ.st b2).st f4).st g4).st a6).st q8).st r8).st s8).st dB,((iS.st r8).st s8).st dB,(((fS.st q8).st r8).st s8).st dB⟩
     replace r0:=(r0.st j0).st i1
     obtain ⟨O1609,b6,r0⟩:=r0.freeze
     have hZ:=b6.lst [16] (fun _ h=>by cases h;decide)
     refine AM 17 (by decide) O1609 (xs:=([([0,1]:List Int)]:List (List Int))) rfl rfl rfl rfl ⟨r0,trivial⟩ (by decide) (by decide) rfl fun g1611 w1612 O1613 c6 dN=>?_
     replace hZ:=hZ.cmp c6 [16] (fun _ h=>h.elim) rfl
     refine Az [(9,[15]),(14,[18]),(16,[11]),(18,[11])] hZ (by kernel_rfl) ?_
     refine At (i:=8) (by kernel_rfl) rfl ?_
     refine AM 14 (by decide) O1613 (xs:=(([(n2:Int)]:List Int):List Int)) rfl rfl rfl rfl ⟨(vInt rk252),trivial⟩ (by decide) (by decide) rfl fun g1617 w1618 O1619 h4 h1621=>?_
     have hZ:=h4.lst [] (fun _ h=>h.elim)
     refine Az [(9,[15]),(14,[18]),(16,[11]),(18,[11])] hZ (by kernel_rfl) ?_
     refine At (i:=9) (by kernel_rfl) rfl ?_
     obtain ⟨l0,e1623,e1624⟩:=AB l0
     replace g0:=(((((g0.st c0).st j0).st i1).st b6).st c6).st h4
     refine AF rfl g0 (h1621.rd) rfl rfl (by decide) e1623 e1624 rfl fun eN fN w1627 O1628 d6 jS=>?_
     rw [← l0] at jS ⊢
     have hZ:=d6.lst [15] (fun _ h=>by cases h;decide)
     refine Az [(14,[18]),(16,[11]),(18,[11])] hZ (by kernel_rfl) ?_
     refine At (i:=14) (by kernel_rfl) rfl ?_
     obtain ⟨m0,e1632,e1633⟩:=AB m0
     replace h0:=((((((h0.st c0).st j0).st i1).st b6).st c6).st h4).st d6
     replace dN:=(dN.st h4).st d6
     refine AF rfl h0 (dN.rd) rfl rfl (by decide) e1632 e1633 rfl fun kS lS w1636 gN t8 mS=>?_
     rw [← m0] at mS ⊢
     have hZ:=t8.lst [18] (fun _ h=>by cases h;decide)
     refine Az [(16,[11]),(18,[11])] hZ (by kernel_rfl) ?_
     refine At (i:=16) (by kernel_rfl) rfl ?_
     replace a0:=(((((((a0.st c0).st j0).st i1).st b6).st c6).st h4).st d6).st t8
     refine AA a0 rfl rfl rfl (AG rfl) (allOne rfl) fun w1641 v8 a0=>?_
     replace a0:Lc 11 w1641 gN i0 53 [(.slice u5 k0.length v5),(.slice b0.2.1.1 f0.2.1.length b0.2.1.2),(.slice b0.2.2.1 f0.2.2.length b0.2.2.2)]:=a0
     have hZ:=v8.lst [11] (fun _ h=>by cases h;decide)
     refine Az [(18,[11])] hZ (by kernel_rfl) ?_
     refine AD (fuel:=3) [] [(17,true)] (by kernel_rfl) rfl ?_
     refine AJ rfl rfl rfl (Au ?_)
     refine At (i:=18) (by kernel_rfl) rfl ?_
     refine AA a0 rfl rfl rfl (AG rfl) (allOne rfl) fun w1643 w8 a0=>?_
     replace a0:Lc 11 w1643 gN i0 53 [(.slice u5 k0.length v5),(.slice b0.2.1.1 f0.2.1.length b0.2.1.2),(.slice eN q0.length fN)]:=a0
     have hZ:=w8.lst [11] (fun _ h=>by cases h;decide)
     refine Az [] hZ (by kernel_rfl) ?_
     refine AD (fuel:=1) [] [(19,true)] (by kernel_rfl) rfl ?_
     refine AJ rfl rfl rfl (Au ?_)
     refine At (i:=20) (by kernel_rfl) rfl ?_
     refine AA a0 rfl rfl rfl (AG rfl) (allOne rfl) fun w1645 eB a0=>?_
     replace a0:Lc 11 w1645 gN i0 53 [(.slice u5 k0.length v5),(.slice kS m1.length lS),(.slice eN q0.length fN)]:=a0
     refine Be (by kernel_rfl) ?_
     refine AY (by kernel_rfl) ?_
     obtain rfl:=sm u0
     exact show Exists _ from ⟨_,((u5,v5),(kS,lS),(eN,fN)),rfl,⟨rfl,rfl,rfl,rfl,rfl,rfl,rfl,rfl,rfl,rfl,trivial⟩,_,((((((((((hB.st c0).st j0).st i1).st b6).st c6).st h4).st d6).st t8).st v8).st w8).st eB,((((((((((b1.st c0).st j0).st i1).st b6).st c6).st h4).st d6).st t8).st v8).st w8).st eB,((((((((((p1.st c0).st j0).st i1).st b6).st c6).st h4).st d6).st t8).st v8).st w8).st eB,((((((((((o1.st c0).st j0).st i1).st b6).st c6).st h4).st d6).st t8).st v8).st w8).st eB,((((((((((r1.st c0).st j0).st i1).st b6).st c6).st h4).st d6).st t8).st v8).st w8).st eB,((((((((((q1.st c0).st j0).st i1).st b6).st c6).st h4).st d6).st t8).st v8).st w8).st eB,((((((((((z0.st c0).st j0).st i1).st b6).st c6).st h4).st d6).st t8).st v8).st w8).st eB,a0,(((((((nJ.st b6).st c6).st h4).st d6).st t8).st v8).st w8).st eB,((mS.st v8).st w8).st eB,(((jS.st t8).st v8).st w8).st eB⟩
    ·
     refine AM 14 (by decide) O1526 (xs:=(([(n2:Int)]:List Int):List Int)) rfl rfl rfl rfl ⟨(vInt rk252),trivial⟩ (by decide) (by decide) rfl fun g1647 w1648 O1649 g1 hC=>?_
     have hZ:=g1.lst [] (fun _ h=>h.elim)
     refine Az [(4,[13]),(9,[15]),(13,[16]),(14,[18]),(16,[11]),(18,[11])] hZ (by kernel_rfl) ?_
     refine Bz (i:=4) (j:=13) (by kernel_rfl) rfl rfl ?_ ?_
     ·
      obtain ⟨t0,e1653,e1654⟩:=AB t0
      replace o0:=((o0.st c0).st j0).st g1
      replace d4:=d4.st g1
      refine AF rfl o0 (d4.rd) rfl rfl (by decide) e1653 e1654 rfl fun kD lD w1657 O1658 c2 hN=>?_
      rw [← t0] at hN ⊢
      have hZ:=c2.lst [13] (fun _ h=>by cases h;decide)
      refine Az [(9,[15]),(13,[16]),(14,[18]),(16,[11]),(18,[11])] hZ (by kernel_rfl) ?_
      refine AD (fuel:=8) [15,16,18] [(15,true)] (by kernel_rfl) rfl ?_
      refine AJ rfl rfl rfl (Au ?_)
      refine Bz (i:=9) (j:=13) (by kernel_rfl) rfl rfl ?_ ?_
      ·
       obtain ⟨l0,e1662,e1663⟩:=AB l0
       replace g0:=(((g0.st c0).st j0).st g1).st c2
       replace hC:=hC.st c2
       refine AF rfl g0 (hC.rd) rfl rfl (by decide) e1662 e1663 rfl fun iN jN w1666 O1667 e6 nS=>?_
       rw [← l0] at nS ⊢
       have hZ:=e6.lst [15] (fun _ h=>by cases h;decide)
       refine Az [(13,[16]),(14,[18]),(16,[11]),(18,[11])] hZ (by kernel_rfl) ?_
       refine At (i:=13) (by kernel_rfl) rfl ?_
       replace r0:=(((r0.st j0).st g1).st c2).st e6
       obtain ⟨O1671,f6,r0⟩:=r0.freeze
       have hZ:=f6.lst [16] (fun _ h=>by cases h;decide)
       refine AM 17 (by decide) O1671 (xs:=([([0,1]:List Int)]:List (List Int))) rfl rfl rfl rfl ⟨r0,trivial⟩ (by decide) (by decide) rfl fun g1673 w1674 O1675 g6 h1677=>?_
       replace hZ:=hZ.cmp g6 [16] (fun _ h=>h.elim) rfl
       refine Az [(14,[18]),(16,[11]),(18,[11])] hZ (by kernel_rfl) ?_
       refine At (i:=14) (by kernel_rfl) rfl ?_
       obtain ⟨m0,e1679,e1680⟩:=AB m0
       replace h0:=((((((h0.st c0).st j0).st g1).st c2).st e6).st f6).st g6
       refine AF rfl h0 (h1677.rd) rfl rfl (by decide) e1679 e1680 rfl fun oS pS w1683 kN x8 qS=>?_
       rw [← m0] at qS ⊢
       have hZ:=x8.lst [18] (fun _ h=>by cases h;decide)
       refine Az [(16,[11]),(18,[11])] hZ (by kernel_rfl) ?_
       refine At (i:=16) (by kernel_rfl) rfl ?_
       replace a0:=(((((((a0.st c0).st j0).st g1).st c2).st e6).st f6).st g6).st x8
       refine AA a0 rfl rfl rfl (AG rfl) (allOne rfl) fun w1688 y8 a0=>?_
       replace a0:Lc 11 w1688 kN i0 53 [(.slice kD k0.length lD),(.slice b0.2.1.1 f0.2.1.length b0.2.1.2),(.slice b0.2.2.1 f0.2.2.length b0.2.2.2)]:=a0
       have hZ:=y8.lst [11] (fun _ h=>by cases h;decide)
       refine Az [(18,[11])] hZ (by kernel_rfl) ?_
       refine AD (fuel:=3) [] [(17,true)] (by kernel_rfl) rfl ?_
       refine AJ rfl rfl rfl (Au ?_)
       refine At (i:=18) (by kernel_rfl) rfl ?_
       refine AA a0 rfl rfl rfl (AG rfl) (allOne rfl) fun w1690 z8 a0=>?_
       replace a0:Lc 11 w1690 kN i0 53 [(.slice kD k0.length lD),(.slice b0.2.1.1 f0.2.1.length b0.2.1.2),(.slice iN q0.length jN)]:=a0
       have hZ:=z8.lst [11] (fun _ h=>by cases h;decide)
       refine Az [] hZ (by kernel_rfl) ?_
       refine AD (fuel:=1) [] [(19,true)] (by kernel_rfl) rfl ?_
       refine AJ rfl rfl rfl (Au ?_)
       refine At (i:=20) (by kernel_rfl) rfl ?_
       refine AA a0 rfl rfl rfl (AG rfl) (allOne rfl) fun w1692 fB a0=>?_
       replace a0:Lc 11 w1692 kN i0 53 [(.slice kD k0.length lD),(.slice oS m1.length pS),(.slice iN q0.length jN)]:=a0
       refine Be (by kernel_rfl) ?_
       refine AY (by kernel_rfl) ?_
       obtain rfl:=sm u0
       exact show Exists _ from ⟨_,((kD,lD),(oS,pS),(iN,jN)),rfl,⟨rfl,rfl,rfl,rfl,rfl,rfl,rfl,rfl,rfl,rfl,trivial⟩,_,((((((((((hB.st c0).st j0).st g1).st c2).st e6).st f6).st g6).st x8).st y8).st z8).st fB,((((((((((b1.st c0).st j0).st g1).st c2).st e6).st f6).st g6).st x8).st y8).st z8).st fB,((((((((((p1.st c0).st j0).st g1).st c2).st e6).st f6).st g6).st x8).st y8).st z8).st fB,((((((((((o1.st c0).st j0).st g1).st c2).st e6).st f6).st g6).st x8).st y8).st z8).st fB,((((((((((r1.st c0).st j0).st g1).st c2).st e6).st f6).st g6).st x8).st y8).st z8).st fB,((((((((((q1.st c0).st j0).st g1).st c2).st e6).st f6).st g6).st x8).st y8).st z8).st fB,((((((((((z0.st c0).st j0).st g1).st c2).st e6).st f6).st g6).st x8).st y8).st z8).st fB,a0,((((((hN.st e6).st f6).st g6).st x8).st y8).st z8).st fB,((qS.st y8).st z8).st fB,(((((nS.st f6).st g6).st x8).st y8).st z8).st fB⟩
      replace r0:=((r0.st j0).st g1).st c2
      obtain ⟨O1694,i4,r0⟩:=r0.freeze
      have hZ:=i4.lst [16] (fun _ h=>by cases h;decide)
      refine AM 17 (by decide) O1694 (xs:=([([0,1]:List Int)]:List (List Int))) rfl rfl rfl rfl ⟨r0,trivial⟩ (by decide) (by decide) rfl fun g1696 w1697 O1698 j4 lN=>?_
      replace hZ:=hZ.cmp j4 [16] (fun _ h=>h.elim) rfl
      refine Az [(9,[15]),(14,[18]),(16,[11]),(18,[11])] hZ (by kernel_rfl) ?_
      refine At (i:=9) (by kernel_rfl) rfl ?_
      obtain ⟨l0,e1702,e1703⟩:=AB l0
      replace g0:=(((((g0.st c0).st j0).st g1).st c2).st i4).st j4
      replace hC:=((hC.st c2).st i4).st j4
      refine AF rfl g0 (hC.rd) rfl rfl (by decide) e1702 e1703 rfl fun mN nN w1706 O1707 h6 rS=>?_
      rw [← l0] at rS ⊢
      have hZ:=h6.lst [15] (fun _ h=>by cases h;decide)
      refine Az [(14,[18]),(16,[11]),(18,[11])] hZ (by kernel_rfl) ?_
      refine At (i:=14) (by kernel_rfl) rfl ?_
      obtain ⟨m0,e1711,e1712⟩:=AB m0
      replace h0:=((((((h0.st c0).st j0).st g1).st c2).st i4).st j4).st h6
      replace lN:=lN.st h6
      refine AF rfl h0 (lN.rd) rfl rfl (by decide) e1711 e1712 rfl fun sS tS w1715 oN a9 uS=>?_
      rw [← m0] at uS ⊢
      have hZ:=a9.lst [18] (fun _ h=>by cases h;decide)
      refine Az [(16,[11]),(18,[11])] hZ (by kernel_rfl) ?_
      refine At (i:=16) (by kernel_rfl) rfl ?_
      replace a0:=(((((((a0.st c0).st j0).st g1).st c2).st i4).st j4).st h6).st a9
      refine AA a0 rfl rfl rfl (AG rfl) (allOne rfl) fun w1720 b9 a0=>?_
      replace a0:Lc 11 w1720 oN i0 53 [(.slice kD k0.length lD),(.slice b0.2.1.1 f0.2.1.length b0.2.1.2),(.slice b0.2.2.1 f0.2.2.length b0.2.2.2)]:=a0
      have hZ:=b9.lst [11] (fun _ h=>by cases h;decide)
      refine Az [(18,[11])] hZ (by kernel_rfl) ?_
      refine AD (fuel:=3) [] [(17,true)] (by kernel_rfl) rfl ?_
      refine AJ rfl rfl rfl (Au ?_)
      refine At (i:=18) (by kernel_rfl) rfl ?_
      refine AA a0 rfl rfl rfl (AG rfl) (allOne rfl) fun w1722 c9 a0=>?_
      replace a0:Lc 11 w1722 oN i0 53 [(.slice kD k0.length lD),(.slice b0.2.1.1 f0.2.1.length b0.2.1.2),(.slice mN q0.length nN)]:=a0
      have hZ:=c9.lst [11] (fun _ h=>by cases h;decide)
      refine Az [] hZ (by kernel_rfl) ?_
      refine AD (fuel:=1) [] [(19,true)] (by kernel_rfl) rfl ?_
      refine AJ rfl rfl rfl (Au ?_)
      refine At (i:=20) (by kernel_rfl) rfl ?_
      refine AA a0 rfl rfl rfl (AG rfl) (allOne rfl) fun w1724 gB a0=>?_
      replace a0:Lc 11 w1724 oN i0 53 [(.slice kD k0.length lD),(.slice sS m1.length tS),(.slice mN q0.length nN)]:=a0
      refine Be (by kernel_rfl) ?_
      refine AY (by kernel_rfl) ?_
      obtain rfl:=sm u0
      exact show Exists _ from ⟨_,((kD,lD),(sS,tS),(mN,nN)),rfl,⟨rfl,rfl,rfl,rfl,rfl,rfl,rfl,rfl,rfl,rfl,trivial⟩,_,((((((((((hB.st c0).st j0).st g1).st c2).st i4).st j4).st h6).st a9).st b9).st c9).st gB,((((((((((b1.st c0).st j0).st g1).st c2).st i4).st j4).st h6).st a9).st b9).st c9).st gB,((((((((((p1.st c0).st j0).st g1).st c2).st i4).st j4).st h6).st a9).st b9).st c9).st gB,((((((((((o1.st c0).st j0).st g1).st c2).st i4).st j4).st h6).st a9).st b9).st c9).st gB,((((((((((r1.st c0).st j0).st g1).st c2).st i4).st j4).st h6).st a9).st b9).st c9).st gB,((((((((((q1.st c0).st j0).st g1).st c2).st i4).st j4).st h6).st a9).st b9).st c9).st gB,((((((((((z0.st c0).st j0).st g1).st c2).st i4).st j4).st h6).st a9).st b9).st c9).st gB,a0,((((((hN.st i4).st j4).st h6).st a9).st b9).st c9).st gB,((uS.st b9).st c9).st gB,(((rS.st a9).st b9).st c9).st gB⟩
     replace r0:=(r0.st j0).st g1
     obtain ⟨O1726,f3,r0⟩:=r0.freeze
     have hZ:=f3.lst [16] (fun _ h=>by cases h;decide)
     refine AM 17 (by decide) O1726 (xs:=([([0,1]:List Int)]:List (List Int))) rfl rfl rfl rfl ⟨r0,trivial⟩ (by decide) (by decide) rfl fun g1728 w1729 O1730 g3 pN=>?_
     replace hZ:=hZ.cmp g3 [16] (fun _ h=>h.elim) rfl
     refine Az [(4,[13]),(9,[15]),(14,[18]),(16,[11]),(18,[11])] hZ (by kernel_rfl) ?_
     refine At (i:=4) (by kernel_rfl) rfl ?_
     obtain ⟨t0,e1734,e1735⟩:=AB t0
     replace o0:=((((o0.st c0).st j0).st g1).st f3).st g3
     replace d4:=((d4.st g1).st f3).st g3
     refine AF rfl o0 (d4.rd) rfl rfl (by decide) e1734 e1735 rfl fun pJ qJ w1738 O1739 k4 vS=>?_
     rw [← t0] at vS ⊢
     have hZ:=k4.lst [13] (fun _ h=>by cases h;decide)
     refine Az [(9,[15]),(14,[18]),(16,[11]),(18,[11])] hZ (by kernel_rfl) ?_
     refine AD (fuel:=7) [15,18] [(15,true)] (by kernel_rfl) rfl ?_
     refine AJ rfl rfl rfl (Au ?_)
     refine At (i:=9) (by kernel_rfl) rfl ?_
     obtain ⟨l0,e1743,e1744⟩:=AB l0
     replace g0:=(((((g0.st c0).st j0).st g1).st f3).st g3).st k4
     replace hC:=((hC.st f3).st g3).st k4
     refine AF rfl g0 (hC.rd) rfl rfl (by decide) e1743 e1744 rfl fun qN rN w1747 O1748 i6 wS=>?_
     rw [← l0] at wS ⊢
     have hZ:=i6.lst [15] (fun _ h=>by cases h;decide)
     refine Az [(14,[18]),(16,[11]),(18,[11])] hZ (by kernel_rfl) ?_
     refine At (i:=14) (by kernel_rfl) rfl ?_
     obtain ⟨m0,e1752,e1753⟩:=AB m0
     replace h0:=((((((h0.st c0).st j0).st g1).st f3).st g3).st k4).st i6
     replace pN:=(pN.st k4).st i6
     refine AF rfl h0 (pN.rd) rfl rfl (by decide) e1752 e1753 rfl fun xS yS w1756 sN d9 zS=>?_
     rw [← m0] at zS ⊢
     have hZ:=d9.lst [18] (fun _ h=>by cases h;decide)
     refine Az [(16,[11]),(18,[11])] hZ (by kernel_rfl) ?_
     refine At (i:=16) (by kernel_rfl) rfl ?_
     replace a0:=(((((((a0.st c0).st j0).st g1).st f3).st g3).st k4).st i6).st d9
     refine AA a0 rfl rfl rfl (AG rfl) (allOne rfl) fun w1761 e9 a0=>?_
     replace a0:Lc 11 w1761 sN i0 53 [(.slice pJ k0.length qJ),(.slice b0.2.1.1 f0.2.1.length b0.2.1.2),(.slice b0.2.2.1 f0.2.2.length b0.2.2.2)]:=a0
     have hZ:=e9.lst [11] (fun _ h=>by cases h;decide)
     refine Az [(18,[11])] hZ (by kernel_rfl) ?_
     refine AD (fuel:=3) [] [(17,true)] (by kernel_rfl) rfl ?_
     refine AJ rfl rfl rfl (Au ?_)
     refine At (i:=18) (by kernel_rfl) rfl ?_
     refine AA a0 rfl rfl rfl (AG rfl) (allOne rfl) fun w1763 f9 a0=>?_
     replace a0:Lc 11 w1763 sN i0 53 [(.slice pJ k0.length qJ),(.slice b0.2.1.1 f0.2.1.length b0.2.1.2),(.slice qN q0.length rN)]:=a0
     have hZ:=f9.lst [11] (fun _ h=>by cases h;decide)
     refine Az [] hZ (by kernel_rfl) ?_
     refine AD (fuel:=1) [] [(19,true)] (by kernel_rfl) rfl ?_
     refine AJ rfl rfl rfl (Au ?_)
     refine At (i:=20) (by kernel_rfl) rfl ?_
     refine AA a0 rfl rfl rfl (AG rfl) (allOne rfl) fun w1765 iB a0=>?_
     replace a0:Lc 11 w1765 sN i0 53 [(.slice pJ k0.length qJ),(.slice xS m1.length yS),(.slice qN q0.length rN)]:=a0
     refine Be (by kernel_rfl) ?_
     refine AY (by kernel_rfl) ?_
     obtain rfl:=sm u0
     exact show Exists _ from ⟨_,((pJ,qJ),(xS,yS),(qN,rN)),rfl,⟨rfl,rfl,rfl,rfl,rfl,rfl,rfl,rfl,rfl,rfl,trivial⟩,_,((((((((((hB.st c0).st j0).st g1).st f3).st g3).st k4).st i6).st d9).st e9).st f9).st iB,((((((((((b1.st c0).st j0).st g1).st f3).st g3).st k4).st i6).st d9).st e9).st f9).st iB,((((((((((p1.st c0).st j0).st g1).st f3).st g3).st k4).st i6).st d9).st e9).st f9).st iB,((((((((((o1.st c0).st j0).st g1).st f3).st g3).st k4).st i6).st d9).st e9).st f9).st iB,((((((((((r1.st c0).st j0).st g1).st f3).st g3).st k4).st i6).st d9).st e9).st f9).st iB,((((((((((q1.st c0).st j0).st g1).st f3).st g3).st k4).st i6).st d9).st e9).st f9).st iB,((((((((((z0.st c0).st j0).st g1).st f3).st g3).st k4).st i6).st d9).st e9).st f9).st iB,a0,((((vS.st i6).st d9).st e9).st f9).st iB,((zS.st e9).st f9).st iB,(((wS.st d9).st e9).st f9).st iB⟩
    replace r0:=r0.st j0
    obtain ⟨O1767,d2,r0⟩:=r0.freeze
    have hZ:=d2.lst [16] (fun _ h=>by cases h;decide)
    refine AM 17 (by decide) O1767 (xs:=([([0,1]:List Int)]:List (List Int))) rfl rfl rfl rfl ⟨r0,trivial⟩ (by decide) (by decide) rfl fun g1769 w1770 O1771 e2 dI=>?_
    replace hZ:=hZ.cmp e2 [16] (fun _ h=>h.elim) rfl
    refine Az [(4,[13]),(9,[15]),(14,[18]),(16,[11]),(18,[11])] hZ (by kernel_rfl) ?_
    refine Bz (i:=4) (j:=8) (by kernel_rfl) rfl rfl ?_ ?_
    ·
     obtain ⟨t0,e1775,e1776⟩:=AB t0
     replace o0:=(((o0.st c0).st j0).st d2).st e2
     replace d4:=(d4.st d2).st e2
     refine AF rfl o0 (d4.rd) rfl rfl (by decide) e1775 e1776 rfl fun rJ sJ w1779 O1780 j6 aT=>?_
     rw [← t0] at aT ⊢
     have hZ:=j6.lst [13] (fun _ h=>by cases h;decide)
     refine Az [(9,[15]),(14,[18]),(16,[11]),(18,[11])] hZ (by kernel_rfl) ?_
     refine AD (fuel:=8) [15,18] [(15,true)] (by kernel_rfl) rfl ?_
     refine AJ rfl rfl rfl (Au ?_)
     refine At (i:=8) (by kernel_rfl) rfl ?_
     refine AM 14 (by decide) O1780 (xs:=(([(n2:Int)]:List Int):List Int)) rfl rfl rfl rfl ⟨(vInt rk252),trivial⟩ (by decide) (by decide) rfl fun g1784 w1785 O1786 l4 h1788=>?_
     have hZ:=l4.lst [] (fun _ h=>h.elim)
     refine Az [(9,[15]),(14,[18]),(16,[11]),(18,[11])] hZ (by kernel_rfl) ?_
     refine At (i:=9) (by kernel_rfl) rfl ?_
     obtain ⟨l0,e1790,e1791⟩:=AB l0
     replace g0:=(((((g0.st c0).st j0).st d2).st e2).st j6).st l4
     refine AF rfl g0 (h1788.rd) rfl rfl (by decide) e1790 e1791 rfl fun tN uN w1794 O1795 k6 bT=>?_
     rw [← l0] at bT ⊢
     have hZ:=k6.lst [15] (fun _ h=>by cases h;decide)
     refine Az [(14,[18]),(16,[11]),(18,[11])] hZ (by kernel_rfl) ?_
     refine At (i:=14) (by kernel_rfl) rfl ?_
     obtain ⟨m0,e1799,e1800⟩:=AB m0
     replace h0:=((((((h0.st c0).st j0).st d2).st e2).st j6).st l4).st k6
     replace dI:=((dI.st j6).st l4).st k6
     refine AF rfl h0 (dI.rd) rfl rfl (by decide) e1799 e1800 rfl fun cT dT w1803 vN g9 eT=>?_
     rw [← m0] at eT ⊢
     have hZ:=g9.lst [18] (fun _ h=>by cases h;decide)
     refine Az [(16,[11]),(18,[11])] hZ (by kernel_rfl) ?_
     refine At (i:=16) (by kernel_rfl) rfl ?_
     replace a0:=(((((((a0.st c0).st j0).st d2).st e2).st j6).st l4).st k6).st g9
     refine AA a0 rfl rfl rfl (AG rfl) (allOne rfl) fun w1808 h9 a0=>?_
     replace a0:Lc 11 w1808 vN i0 53 [(.slice rJ k0.length sJ),(.slice b0.2.1.1 f0.2.1.length b0.2.1.2),(.slice b0.2.2.1 f0.2.2.length b0.2.2.2)]:=a0
     have hZ:=h9.lst [11] (fun _ h=>by cases h;decide)
     refine Az [(18,[11])] hZ (by kernel_rfl) ?_
     refine AD (fuel:=3) [] [(17,true)] (by kernel_rfl) rfl ?_
     refine AJ rfl rfl rfl (Au ?_)
     refine At (i:=18) (by kernel_rfl) rfl ?_
     refine AA a0 rfl rfl rfl (AG rfl) (allOne rfl) fun w1810 i9 a0=>?_
     replace a0:Lc 11 w1810 vN i0 53 [(.slice rJ k0.length sJ),(.slice b0.2.1.1 f0.2.1.length b0.2.1.2),(.slice tN q0.length uN)]:=a0
     have hZ:=i9.lst [11] (fun _ h=>by cases h;decide)
     refine Az [] hZ (by kernel_rfl) ?_
     refine AD (fuel:=1) [] [(19,true)] (by kernel_rfl) rfl ?_
     refine AJ rfl rfl rfl (Au ?_)
     refine At (i:=20) (by kernel_rfl) rfl ?_
     refine AA a0 rfl rfl rfl (AG rfl) (allOne rfl) fun w1812 jB a0=>?_
     replace a0:Lc 11 w1812 vN i0 53 [(.slice rJ k0.length sJ),(.slice cT m1.length dT),(.slice tN q0.length uN)]:=a0
     refine Be (by kernel_rfl) ?_
     refine AY (by kernel_rfl) ?_
     obtain rfl:=sm u0
     exact show Exists _ from ⟨_,((rJ,sJ),(cT,dT),(tN,uN)),rfl,⟨rfl,rfl,rfl,rfl,rfl,rfl,rfl,rfl,rfl,rfl,trivial⟩,_,((((((((((hB.st c0).st j0).st d2).st e2).st j6).st l4).st k6).st g9).st h9).st i9).st jB,((((((((((b1.st c0).st j0).st d2).st e2).st j6).st l4).st k6).st g9).st h9).st i9).st jB,((((((((((p1.st c0).st j0).st d2).st e2).st j6).st l4).st k6).st g9).st h9).st i9).st jB,((((((((((o1.st c0).st j0).st d2).st e2).st j6).st l4).st k6).st g9).st h9).st i9).st jB,((((((((((r1.st c0).st j0).st d2).st e2).st j6).st l4).st k6).st g9).st h9).st i9).st jB,((((((((((q1.st c0).st j0).st d2).st e2).st j6).st l4).st k6).st g9).st h9).st i9).st jB,((((((((((z0.st c0).st j0).st d2).st e2).st j6).st l4).st k6).st g9).st h9).st i9).st jB,a0,(((((aT.st l4).st k6).st g9).st h9).st i9).st jB,((eT.st h9).st i9).st jB,(((bT.st g9).st h9).st i9).st jB⟩
    refine AM 14 (by decide) O1771 (xs:=(([(n2:Int)]:List Int):List Int)) rfl rfl rfl rfl ⟨(vInt rk252),trivial⟩ (by decide) (by decide) rfl fun g1814 w1815 O1816 h3 wN=>?_
    have hZ:=h3.lst [] (fun _ h=>h.elim)
    refine Az [(4,[13]),(9,[15]),(14,[18]),(16,[11]),(18,[11])] hZ (by kernel_rfl) ?_
    refine At (i:=4) (by kernel_rfl) rfl ?_
    obtain ⟨t0,e1820,e1821⟩:=AB t0
    replace o0:=((((o0.st c0).st j0).st d2).st e2).st h3
    replace d4:=((d4.st d2).st e2).st h3
    refine AF rfl o0 (d4.rd) rfl rfl (by decide) e1820 e1821 rfl fun tJ uJ w1824 O1825 m4 fT=>?_
    rw [← t0] at fT ⊢
    have hZ:=m4.lst [13] (fun _ h=>by cases h;decide)
    refine Az [(9,[15]),(14,[18]),(16,[11]),(18,[11])] hZ (by kernel_rfl) ?_
    refine AD (fuel:=7) [15,18] [(15,true)] (by kernel_rfl) rfl ?_
    refine AJ rfl rfl rfl (Au ?_)
    refine At (i:=9) (by kernel_rfl) rfl ?_
    obtain ⟨l0,e1829,e1830⟩:=AB l0
    replace g0:=(((((g0.st c0).st j0).st d2).st e2).st h3).st m4
    replace wN:=wN.st m4
    refine AF rfl g0 (wN.rd) rfl rfl (by decide) e1829 e1830 rfl fun xN yN w1833 O1834 l6 gT=>?_
    rw [← l0] at gT ⊢
    have hZ:=l6.lst [15] (fun _ h=>by cases h;decide)
    refine Az [(14,[18]),(16,[11]),(18,[11])] hZ (by kernel_rfl) ?_
    refine At (i:=14) (by kernel_rfl) rfl ?_
    obtain ⟨m0,e1838,e1839⟩:=AB m0
    replace h0:=((((((h0.st c0).st j0).st d2).st e2).st h3).st m4).st l6
    replace dI:=((dI.st h3).st m4).st l6
    refine AF rfl h0 (dI.rd) rfl rfl (by decide) e1838 e1839 rfl fun hT jT w1842 zN j9 kT=>?_
    rw [← m0] at kT ⊢
    have hZ:=j9.lst [18] (fun _ h=>by cases h;decide)
    refine Az [(16,[11]),(18,[11])] hZ (by kernel_rfl) ?_
    refine At (i:=16) (by kernel_rfl) rfl ?_
    replace a0:=(((((((a0.st c0).st j0).st d2).st e2).st h3).st m4).st l6).st j9
    refine AA a0 rfl rfl rfl (AG rfl) (allOne rfl) fun w1847 k9 a0=>?_
    replace a0:Lc 11 w1847 zN i0 53 [(.slice tJ k0.length uJ),(.slice b0.2.1.1 f0.2.1.length b0.2.1.2),(.slice b0.2.2.1 f0.2.2.length b0.2.2.2)]:=a0
    have hZ:=k9.lst [11] (fun _ h=>by cases h;decide)
    refine Az [(18,[11])] hZ (by kernel_rfl) ?_
    refine AD (fuel:=3) [] [(17,true)] (by kernel_rfl) rfl ?_
    refine AJ rfl rfl rfl (Au ?_)
    refine At (i:=18) (by kernel_rfl) rfl ?_
    refine AA a0 rfl rfl rfl (AG rfl) (allOne rfl) fun w1849 l9 a0=>?_
    replace a0:Lc 11 w1849 zN i0 53 [(.slice tJ k0.length uJ),(.slice b0.2.1.1 f0.2.1.length b0.2.1.2),(.slice xN q0.length yN)]:=a0
    have hZ:=l9.lst [11] (fun _ h=>by cases h;decide)
    refine Az [] hZ (by kernel_rfl) ?_
    refine AD (fuel:=1) [] [(19,true)] (by kernel_rfl) rfl ?_
    refine AJ rfl rfl rfl (Au ?_)
    refine At (i:=20) (by kernel_rfl) rfl ?_
    refine AA a0 rfl rfl rfl (AG rfl) (allOne rfl) fun w1851 kB a0=>?_
    replace a0:Lc 11 w1851 zN i0 53 [(.slice tJ k0.length uJ),(.slice hT m1.length jT),(.slice xN q0.length yN)]:=a0
    refine Be (by kernel_rfl) ?_
    refine AY (by kernel_rfl) ?_
    obtain rfl:=sm u0
    exact show Exists _ from ⟨_,((tJ,uJ),(hT,jT),(xN,yN)),rfl,⟨rfl,rfl,rfl,rfl,rfl,rfl,rfl,rfl,rfl,rfl,trivial⟩,_,((((((((((hB.st c0).st j0).st d2).st e2).st h3).st m4).st l6).st j9).st k9).st l9).st kB,((((((((((b1.st c0).st j0).st d2).st e2).st h3).st m4).st l6).st j9).st k9).st l9).st kB,((((((((((p1.st c0).st j0).st d2).st e2).st h3).st m4).st l6).st j9).st k9).st l9).st kB,((((((((((o1.st c0).st j0).st d2).st e2).st h3).st m4).st l6).st j9).st k9).st l9).st kB,((((((((((r1.st c0).st j0).st d2).st e2).st h3).st m4).st l6).st j9).st k9).st l9).st kB,((((((((((q1.st c0).st j0).st d2).st e2).st h3).st m4).st l6).st j9).st k9).st l9).st kB,((((((((((z0.st c0).st j0).st d2).st e2).st h3).st m4).st l6).st j9).st k9).st l9).st kB,a0,((((fT.st l6).st j9).st k9).st l9).st kB,((kT.st k9).st l9).st kB,(((gT.st j9).st k9).st l9).st kB⟩
   ·
    refine AM 14 (by decide) aS (xs:=(([(n2:Int)]:List Int):List Int)) rfl rfl rfl rfl ⟨(vInt rk252),trivial⟩ (by decide) (by decide) rfl fun g1853 w1854 O1855 w0 m6=>?_
    have hZ:=w0.lst [] (fun _ h=>h.elim)
    refine Az [(4,[13]),(9,[15]),(13,[16]),(14,[18]),(16,[11]),(18,[11])] hZ (by kernel_rfl) ?_
    refine Bz (i:=3) (j:=13) (by kernel_rfl) rfl rfl ?_ ?_
    ·
     refine AM 12 (by decide) O1855 (xs:=(([(n2:Int)]:List Int):List Int)) rfl rfl rfl rfl ⟨(vInt rk252),trivial⟩ (by decide) (by decide) rfl fun g1859 w1860 O1861 e1 vJ=>?_
     have hZ:=e1.lst [] (fun _ h=>h.elim)
     refine Az [(4,[13]),(9,[15]),(13,[16]),(14,[18]),(16,[11]),(18,[11])] hZ (by kernel_rfl) ?_
     refine Bz (i:=4) (j:=13) (by kernel_rfl) rfl rfl ?_ ?_
     ·
      obtain ⟨t0,e1865,e1866⟩:=AB t0
      replace o0:=((o0.st c0).st w0).st e1
      refine AF rfl o0 (vJ.rd) rfl rfl (by decide) e1865 e1866 rfl fun mD nD w1869 O1870 f2 aO=>?_
      rw [← t0] at aO ⊢
      have hZ:=f2.lst [13] (fun _ h=>by cases h;decide)
      refine Az [(9,[15]),(13,[16]),(14,[18]),(16,[11]),(18,[11])] hZ (by kernel_rfl) ?_
      refine AD (fuel:=8) [15,16,18] [(15,true)] (by kernel_rfl) rfl ?_
      refine AJ rfl rfl rfl (Au ?_)
      refine Bz (i:=9) (j:=13) (by kernel_rfl) rfl rfl ?_ ?_
      ·
       obtain ⟨l0,e1874,e1875⟩:=AB l0
       replace g0:=(((g0.st c0).st w0).st e1).st f2
       replace m6:=(m6.st e1).st f2
       refine AF rfl g0 (m6.rd) rfl rfl (by decide) e1874 e1875 rfl fun bO cO w1878 O1879 n6 lT=>?_
       rw [← l0] at lT ⊢
       have hZ:=n6.lst [15] (fun _ h=>by cases h;decide)
       refine Az [(13,[16]),(14,[18]),(16,[11]),(18,[11])] hZ (by kernel_rfl) ?_
       refine At (i:=13) (by kernel_rfl) rfl ?_
       replace r0:=(((r0.st w0).st e1).st f2).st n6
       obtain ⟨O1883,o6,r0⟩:=r0.freeze
       have hZ:=o6.lst [16] (fun _ h=>by cases h;decide)
       refine AM 17 (by decide) O1883 (xs:=([([0,1]:List Int)]:List (List Int))) rfl rfl rfl rfl ⟨r0,trivial⟩ (by decide) (by decide) rfl fun g1885 w1886 O1887 p6 h1889=>?_
       replace hZ:=hZ.cmp p6 [16] (fun _ h=>h.elim) rfl
       refine Az [(14,[18]),(16,[11]),(18,[11])] hZ (by kernel_rfl) ?_
       refine At (i:=14) (by kernel_rfl) rfl ?_
       obtain ⟨m0,e1891,e1892⟩:=AB m0
       replace h0:=((((((h0.st c0).st w0).st e1).st f2).st n6).st o6).st p6
       refine AF rfl h0 (h1889.rd) rfl rfl (by decide) e1891 e1892 rfl fun mT nT w1895 dO m9 oT=>?_
       rw [← m0] at oT ⊢
       have hZ:=m9.lst [18] (fun _ h=>by cases h;decide)
       refine Az [(16,[11]),(18,[11])] hZ (by kernel_rfl) ?_
       refine At (i:=16) (by kernel_rfl) rfl ?_
       replace a0:=(((((((a0.st c0).st w0).st e1).st f2).st n6).st o6).st p6).st m9
       refine AA a0 rfl rfl rfl (AG rfl) (allOne rfl) fun w1900 n9 a0=>?_
       replace a0:Lc 11 w1900 dO i0 53 [(.slice mD k0.length nD),(.slice b0.2.1.1 f0.2.1.length b0.2.1.2),(.slice b0.2.2.1 f0.2.2.length b0.2.2.2)]:=a0
       have hZ:=n9.lst [11] (fun _ h=>by cases h;decide)
       refine Az [(18,[11])] hZ (by kernel_rfl) ?_
       refine AD (fuel:=3) [] [(17,true)] (by kernel_rfl) rfl ?_
       refine AJ rfl rfl rfl (Au ?_)
       refine At (i:=18) (by kernel_rfl) rfl ?_
       refine AA a0 rfl rfl rfl (AG rfl) (allOne rfl) fun w1902 o9 a0=>?_
       replace a0:Lc 11 w1902 dO i0 53 [(.slice mD k0.length nD),(.slice b0.2.1.1 f0.2.1.length b0.2.1.2),(.slice bO q0.length cO)]:=a0
       have hZ:=o9.lst [11] (fun _ h=>by cases h;decide)
       refine Az [] hZ (by kernel_rfl) ?_
       refine AD (fuel:=1) [] [(19,true)] (by kernel_rfl) rfl ?_
       refine AJ rfl rfl rfl (Au ?_)
       refine At (i:=20) (by kernel_rfl) rfl ?_
       refine AA a0 rfl rfl rfl (AG rfl) (allOne rfl) fun w1904 lB a0=>?_
       replace a0:Lc 11 w1904 dO i0 53 [(.slice mD k0.length nD),(.slice mT m1.length nT),(.slice bO q0.length cO)]:=a0
       refine Be (by kernel_rfl) ?_
       refine AY (by kernel_rfl) ?_
       obtain rfl:=sm u0
       exact show Exists _ from ⟨_,((mD,nD),(mT,nT),(bO,cO)),rfl,⟨rfl,rfl,rfl,rfl,rfl,rfl,rfl,rfl,rfl,rfl,trivial⟩,_,((((((((((hB.st c0).st w0).st e1).st f2).st n6).st o6).st p6).st m9).st n9).st o9).st lB,((((((((((b1.st c0).st w0).st e1).st f2).st n6).st o6).st p6).st m9).st n9).st o9).st lB,((((((((((p1.st c0).st w0).st e1).st f2).st n6).st o6).st p6).st m9).st n9).st o9).st lB,((((((((((o1.st c0).st w0).st e1).st f2).st n6).st o6).st p6).st m9).st n9).st o9).st lB,((((((((((r1.st c0).st w0).st e1).st f2).st n6).st o6).st p6).st m9).st n9).st o9).st lB,((((((((((q1.st c0).st w0).st e1).st f2).st n6).st o6).st p6).st m9).st n9).st o9).st lB,((((((((((z0.st c0).st w0).st e1).st f2).st n6).st o6).st p6).st m9).st n9).st o9).st lB,a0,((((((aO.st n6).st o6).st p6).st m9).st n9).st o9).st lB,((oT.st n9).st o9).st lB,(((((lT.st o6).st p6).st m9).st n9).st o9).st lB⟩
      replace r0:=((r0.st w0).st e1).st f2
      obtain ⟨O1906,n4,r0⟩:=r0.freeze
      have hZ:=n4.lst [16] (fun _ h=>by cases h;decide)
      refine AM 17 (by decide) O1906 (xs:=([([0,1]:List Int)]:List (List Int))) rfl rfl rfl rfl ⟨r0,trivial⟩ (by decide) (by decide) rfl fun g1908 w1909 O1910 o4 eO=>?_
      replace hZ:=hZ.cmp o4 [16] (fun _ h=>h.elim) rfl
      refine Az [(9,[15]),(14,[18]),(16,[11]),(18,[11])] hZ (by kernel_rfl) ?_
      refine At (i:=9) (by kernel_rfl) rfl ?_
      obtain ⟨l0,e1914,e1915⟩:=AB l0
      replace g0:=(((((g0.st c0).st w0).st e1).st f2).st n4).st o4
      replace m6:=(((m6.st e1).st f2).st n4).st o4
      refine AF rfl g0 (m6.rd) rfl rfl (by decide) e1914 e1915 rfl fun fO gO w1918 O1919 q6 pT=>?_
      rw [← l0] at pT ⊢
      have hZ:=q6.lst [15] (fun _ h=>by cases h;decide)
      refine Az [(14,[18]),(16,[11]),(18,[11])] hZ (by kernel_rfl) ?_
      refine At (i:=14) (by kernel_rfl) rfl ?_
      obtain ⟨m0,e1923,e1924⟩:=AB m0
      replace h0:=((((((h0.st c0).st w0).st e1).st f2).st n4).st o4).st q6
      replace eO:=eO.st q6
      refine AF rfl h0 (eO.rd) rfl rfl (by decide) e1923 e1924 rfl fun qT rT w1927 hO p9 sT=>?_
      rw [← m0] at sT ⊢
      have hZ:=p9.lst [18] (fun _ h=>by cases h;decide)
      refine Az [(16,[11]),(18,[11])] hZ (by kernel_rfl) ?_
      refine At (i:=16) (by kernel_rfl) rfl ?_
      replace a0:=(((((((a0.st c0).st w0).st e1).st f2).st n4).st o4).st q6).st p9
      refine AA a0 rfl rfl rfl (AG rfl) (allOne rfl) fun w1932 q9 a0=>?_
      replace a0:Lc 11 w1932 hO i0 53 [(.slice mD k0.length nD),(.slice b0.2.1.1 f0.2.1.length b0.2.1.2),(.slice b0.2.2.1 f0.2.2.length b0.2.2.2)]:=a0
      have hZ:=q9.lst [11] (fun _ h=>by cases h;decide)
      refine Az [(18,[11])] hZ (by kernel_rfl) ?_
      refine AD (fuel:=3) [] [(17,true)] (by kernel_rfl) rfl ?_
      refine AJ rfl rfl rfl (Au ?_)
      refine At (i:=18) (by kernel_rfl) rfl ?_
      refine AA a0 rfl rfl rfl (AG rfl) (allOne rfl) fun w1934 r9 a0=>?_
      replace a0:Lc 11 w1934 hO i0 53 [(.slice mD k0.length nD),(.slice b0.2.1.1 f0.2.1.length b0.2.1.2),(.slice fO q0.length gO)]:=a0
      have hZ:=r9.lst [11] (fun _ h=>by cases h;decide)
      refine Az [] hZ (by kernel_rfl) ?_
      refine AD (fuel:=1) [] [(19,true)] (by kernel_rfl) rfl ?_
      refine AJ rfl rfl rfl (Au ?_)
      refine At (i:=20) (by kernel_rfl) rfl ?_
      refine AA a0 rfl rfl rfl (AG rfl) (allOne rfl) fun w1936 mB a0=>?_
      replace a0:Lc 11 w1936 hO i0 53 [(.slice mD k0.length nD),(.slice qT m1.length rT),(.slice fO q0.length gO)]:=a0
      refine Be (by kernel_rfl) ?_
      refine AY (by kernel_rfl) ?_
      obtain rfl:=sm u0
      exact show Exists _ from ⟨_,((mD,nD),(qT,rT),(fO,gO)),rfl,⟨rfl,rfl,rfl,rfl,rfl,rfl,rfl,rfl,rfl,rfl,trivial⟩,_,((((((((((hB.st c0).st w0).st e1).st f2).st n4).st o4).st q6).st p9).st q9).st r9).st mB,((((((((((b1.st c0).st w0).st e1).st f2).st n4).st o4).st q6).st p9).st q9).st r9).st mB,((((((((((p1.st c0).st w0).st e1).st f2).st n4).st o4).st q6).st p9).st q9).st r9).st mB,((((((((((o1.st c0).st w0).st e1).st f2).st n4).st o4).st q6).st p9).st q9).st r9).st mB,((((((((((r1.st c0).st w0).st e1).st f2).st n4).st o4).st q6).st p9).st q9).st r9).st mB,((((((((((q1.st c0).st w0).st e1).st f2).st n4).st o4).st q6).st p9).st q9).st r9).st mB,((((((((((z0.st c0).st w0).st e1).st f2).st n4).st o4).st q6).st p9).st q9).st r9).st mB,a0,((((((aO.st n4).st o4).st q6).st p9).st q9).st r9).st mB,((sT.st q9).st r9).st mB,(((pT.st p9).st q9).st r9).st mB⟩
     replace r0:=(r0.st w0).st e1
     obtain ⟨O1938,i3,r0⟩:=r0.freeze
     have hZ:=i3.lst [16] (fun _ h=>by cases h;decide)
     refine AM 17 (by decide) O1938 (xs:=([([0,1]:List Int)]:List (List Int))) rfl rfl rfl rfl ⟨r0,trivial⟩ (by decide) (by decide) rfl fun g1940 w1941 O1942 j3 iO=>?_
     replace hZ:=hZ.cmp j3 [16] (fun _ h=>h.elim) rfl
     refine Az [(4,[13]),(9,[15]),(14,[18]),(16,[11]),(18,[11])] hZ (by kernel_rfl) ?_
     refine At (i:=4) (by kernel_rfl) rfl ?_
     obtain ⟨t0,e1946,e1947⟩:=AB t0
     replace o0:=((((o0.st c0).st w0).st e1).st i3).st j3
     replace vJ:=(vJ.st i3).st j3
     refine AF rfl o0 (vJ.rd) rfl rfl (by decide) e1946 e1947 rfl fun wJ xJ w1950 O1951 p4 tT=>?_
     rw [← t0] at tT ⊢
     have hZ:=p4.lst [13] (fun _ h=>by cases h;decide)
     refine Az [(9,[15]),(14,[18]),(16,[11]),(18,[11])] hZ (by kernel_rfl) ?_
     refine AD (fuel:=7) [15,18] [(15,true)] (by kernel_rfl) rfl ?_
     refine AJ rfl rfl rfl (Au ?_)
     refine At (i:=9) (by kernel_rfl) rfl ?_
     obtain ⟨l0,e1955,e1956⟩:=AB l0
     replace g0:=(((((g0.st c0).st w0).st e1).st i3).st j3).st p4
     replace m6:=(((m6.st e1).st i3).st j3).st p4
     refine AF rfl g0 (m6.rd) rfl rfl (by decide) e1955 e1956 rfl fun jO kO w1959 O1960 r6 uT=>?_
     rw [← l0] at uT ⊢
     have hZ:=r6.lst [15] (fun _ h=>by cases h;decide)
     refine Az [(14,[18]),(16,[11]),(18,[11])] hZ (by kernel_rfl) ?_
     refine At (i:=14) (by kernel_rfl) rfl ?_
     obtain ⟨m0,e1964,e1965⟩:=AB m0
     replace h0:=((((((h0.st c0).st w0).st e1).st i3).st j3).st p4).st r6
     replace iO:=(iO.st p4).st r6
     refine AF rfl h0 (iO.rd) rfl rfl (by decide) e1964 e1965 rfl fun vT wT w1968 lO s9 xT=>?_
     rw [← m0] at xT ⊢
     have hZ:=s9.lst [18] (fun _ h=>by cases h;decide)
     refine Az [(16,[11]),(18,[11])] hZ (by kernel_rfl) ?_
     refine At (i:=16) (by kernel_rfl) rfl ?_
     replace a0:=(((((((a0.st c0).st w0).st e1).st i3).st j3).st p4).st r6).st s9
     refine AA a0 rfl rfl rfl (AG rfl) (allOne rfl) fun w1973 t9 a0=>?_
     replace a0:Lc 11 w1973 lO i0 53 [(.slice wJ k0.length xJ),(.slice b0.2.1.1 f0.2.1.length b0.2.1.2),(.slice b0.2.2.1 f0.2.2.length b0.2.2.2)]:=a0
     have hZ:=t9.lst [11] (fun _ h=>by cases h;decide)
     refine Az [(18,[11])] hZ (by kernel_rfl) ?_
     refine AD (fuel:=3) [] [(17,true)] (by kernel_rfl) rfl ?_
     refine AJ rfl rfl rfl (Au ?_)
     refine At (i:=18) (by kernel_rfl) rfl ?_
     refine AA a0 rfl rfl rfl (AG rfl) (allOne rfl) fun w1975 u9 a0=>?_
     replace a0:Lc 11 w1975 lO i0 53 [(.slice wJ k0.length xJ),(.slice b0.2.1.1 f0.2.1.length b0.2.1.2),(.slice jO q0.length kO)]:=a0
     have hZ:=u9.lst [11] (fun _ h=>by cases h;decide)
     refine Az [] hZ (by kernel_rfl) ?_
     refine AD (fuel:=1) [] [(19,true)] (by kernel_rfl) rfl ?_
     refine AJ rfl rfl rfl (Au ?_)
     refine At (i:=20) (by kernel_rfl) rfl ?_
     refine AA a0 rfl rfl rfl (AG rfl) (allOne rfl) fun w1977 nB a0=>?_
     replace a0:Lc 11 w1977 lO i0 53 [(.slice wJ k0.length xJ),(.slice vT m1.length wT),(.slice jO q0.length kO)]:=a0
     refine Be (by kernel_rfl) ?_
     refine AY (by kernel_rfl) ?_
     obtain rfl:=sm u0
     exact show Exists _ from ⟨_,((wJ,xJ),(vT,wT),(jO,kO)),rfl,⟨rfl,rfl,rfl,rfl,rfl,rfl,rfl,rfl,rfl,rfl,trivial⟩,_,((((((((((hB.st c0).st w0).st e1).st i3).st j3).st p4).st r6).st s9).st t9).st u9).st nB,((((((((((b1.st c0).st w0).st e1).st i3).st j3).st p4).st r6).st s9).st t9).st u9).st nB,((((((((((p1.st c0).st w0).st e1).st i3).st j3).st p4).st r6).st s9).st t9).st u9).st nB,((((((((((o1.st c0).st w0).st e1).st i3).st j3).st p4).st r6).st s9).st t9).st u9).st nB,((((((((((r1.st c0).st w0).st e1).st i3).st j3).st p4).st r6).st s9).st t9).st u9).st nB,((((((((((q1.st c0).st w0).st e1).st i3).st j3).st p4).st r6).st s9).st t9).st u9).st nB,((((((((((z0.st c0).st w0).st e1).st i3).st j3).st p4).st r6).st s9).st t9).st u9).st nB,a0,((((tT.st r6).st s9).st t9).st u9).st nB,((xT.st t9).st u9).st nB,(((uT.st s9).st t9).st u9).st nB⟩
    replace r0:=r0.st w0
    obtain ⟨O1979,q4,r0⟩:=r0.freeze
    have hZ:=q4.lst [16] (fun _ h=>by cases h;decide)
    refine AM 17 (by decide) O1979 (xs:=([([0,1]:List Int)]:List (List Int))) rfl rfl rfl rfl ⟨r0,trivial⟩ (by decide) (by decide) rfl fun g1981 w1982 O1983 r4 mO=>?_
    replace hZ:=hZ.cmp r4 [16] (fun _ h=>h.elim) rfl
    refine Az [(4,[13]),(9,[15]),(14,[18]),(16,[11]),(18,[11])] hZ (by kernel_rfl) ?_
    refine At (i:=3) (by kernel_rfl) rfl ?_
    refine AM 12 (by decide) O1983 (xs:=(([(n2:Int)]:List Int):List Int)) rfl rfl rfl rfl ⟨(vInt rk252),trivial⟩ (by decide) (by decide) rfl fun g1987 w1988 O1989 k3 h1991=>?_
    have hZ:=k3.lst [] (fun _ h=>h.elim)
    refine Az [(4,[13]),(9,[15]),(14,[18]),(16,[11]),(18,[11])] hZ (by kernel_rfl) ?_
    refine At (i:=4) (by kernel_rfl) rfl ?_
    obtain ⟨t0,e1993,e1994⟩:=AB t0
    replace o0:=((((o0.st c0).st w0).st q4).st r4).st k3
    refine AF rfl o0 (h1991.rd) rfl rfl (by decide) e1993 e1994 rfl fun yJ zJ w1997 O1998 s4 yT=>?_
    rw [← t0] at yT ⊢
    have hZ:=s4.lst [13] (fun _ h=>by cases h;decide)
    refine Az [(9,[15]),(14,[18]),(16,[11]),(18,[11])] hZ (by kernel_rfl) ?_
    refine AD (fuel:=7) [15,18] [(15,true)] (by kernel_rfl) rfl ?_
    refine AJ rfl rfl rfl (Au ?_)
    refine At (i:=9) (by kernel_rfl) rfl ?_
    obtain ⟨l0,e2002,e2003⟩:=AB l0
    replace g0:=(((((g0.st c0).st w0).st q4).st r4).st k3).st s4
    replace m6:=(((m6.st q4).st r4).st k3).st s4
    refine AF rfl g0 (m6.rd) rfl rfl (by decide) e2002 e2003 rfl fun nO oO w2006 O2007 s6 zT=>?_
    rw [← l0] at zT ⊢
    have hZ:=s6.lst [15] (fun _ h=>by cases h;decide)
    refine Az [(14,[18]),(16,[11]),(18,[11])] hZ (by kernel_rfl) ?_
    refine At (i:=14) (by kernel_rfl) rfl ?_
    obtain ⟨m0,e2011,e2012⟩:=AB m0
    replace h0:=((((((h0.st c0).st w0).st q4).st r4).st k3).st s4).st s6
    replace mO:=((mO.st k3).st s4).st s6
    refine AF rfl h0 (mO.rd) rfl rfl (by decide) e2011 e2012 rfl fun aU bU w2015 pO w9 cU=>?_
    rw [← m0] at cU ⊢
    have hZ:=w9.lst [18] (fun _ h=>by cases h;decide)
    refine Az [(16,[11]),(18,[11])] hZ (by kernel_rfl) ?_
    refine At (i:=16) (by kernel_rfl) rfl ?_
    replace a0:=(((((((a0.st c0).st w0).st q4).st r4).st k3).st s4).st s6).st w9
    refine AA a0 rfl rfl rfl (AG rfl) (allOne rfl) fun w2020 x9 a0=>?_
    replace a0:Lc 11 w2020 pO i0 53 [(.slice yJ k0.length zJ),(.slice b0.2.1.1 f0.2.1.length b0.2.1.2),(.slice b0.2.2.1 f0.2.2.length b0.2.2.2)]:=a0
    have hZ:=x9.lst [11] (fun _ h=>by cases h;decide)
    refine Az [(18,[11])] hZ (by kernel_rfl) ?_
    refine AD (fuel:=3) [] [(17,true)] (by kernel_rfl) rfl ?_
    refine AJ rfl rfl rfl (Au ?_)
    refine At (i:=18) (by kernel_rfl) rfl ?_
    refine AA a0 rfl rfl rfl (AG rfl) (allOne rfl) fun w2022 y9 a0=>?_
    replace a0:Lc 11 w2022 pO i0 53 [(.slice yJ k0.length zJ),(.slice b0.2.1.1 f0.2.1.length b0.2.1.2),(.slice nO q0.length oO)]:=a0
    have hZ:=y9.lst [11] (fun _ h=>by cases h;decide)
    refine Az [] hZ (by kernel_rfl) ?_
    refine AD (fuel:=1) [] [(19,true)] (by kernel_rfl) rfl ?_
    refine AJ rfl rfl rfl (Au ?_)
    refine At (i:=20) (by kernel_rfl) rfl ?_
    refine AA a0 rfl rfl rfl (AG rfl) (allOne rfl) fun w2024 oB a0=>?_
    replace a0:Lc 11 w2024 pO i0 53 [(.slice yJ k0.length zJ),(.slice aU m1.length bU),(.slice nO q0.length oO)]:=a0
    refine Be (by kernel_rfl) ?_
    refine AY (by kernel_rfl) ?_
    obtain rfl:=sm u0
    exact show Exists _ from ⟨_,((yJ,zJ),(aU,bU),(nO,oO)),rfl,⟨rfl,rfl,rfl,rfl,rfl,rfl,rfl,rfl,rfl,rfl,trivial⟩,_,((((((((((hB.st c0).st w0).st q4).st r4).st k3).st s4).st s6).st w9).st x9).st y9).st oB,((((((((((b1.st c0).st w0).st q4).st r4).st k3).st s4).st s6).st w9).st x9).st y9).st oB,((((((((((p1.st c0).st w0).st q4).st r4).st k3).st s4).st s6).st w9).st x9).st y9).st oB,((((((((((o1.st c0).st w0).st q4).st r4).st k3).st s4).st s6).st w9).st x9).st y9).st oB,((((((((((r1.st c0).st w0).st q4).st r4).st k3).st s4).st s6).st w9).st x9).st y9).st oB,((((((((((q1.st c0).st w0).st q4).st r4).st k3).st s4).st s6).st w9).st x9).st y9).st oB,((((((((((z0.st c0).st w0).st q4).st r4).st k3).st s4).st s6).st w9).st x9).st y9).st oB,a0,((((yT.st s6).st w9).st x9).st y9).st oB,((cU.st x9).st y9).st oB,(((zT.st w9).st x9).st y9).st oB⟩
   obtain ⟨O2026,j1,r0⟩:=r0.freeze
   have hZ:=j1.lst [16] (fun _ h=>by cases h;decide)
   refine AM 17 (by decide) O2026 (xs:=([([0,1]:List Int)]:List (List Int))) rfl rfl rfl rfl ⟨r0,trivial⟩ (by decide) (by decide) rfl fun g2028 w2029 dU k1 iC=>?_
   replace hZ:=hZ.cmp k1 [16] (fun _ h=>h.elim) rfl
   refine Az [(4,[13]),(9,[15]),(14,[18]),(16,[11]),(18,[11])] hZ (by kernel_rfl) ?_
   refine Bz (i:=3) (j:=8) (by kernel_rfl) rfl rfl ?_ ?_
   ·
    refine AM 12 (by decide) dU (xs:=(([(n2:Int)]:List Int):List Int)) rfl rfl rfl rfl ⟨(vInt rk252),trivial⟩ (by decide) (by decide) rfl fun g2034 w2035 O2036 g2 aK=>?_
    have hZ:=g2.lst [] (fun _ h=>h.elim)
    refine Az [(4,[13]),(9,[15]),(14,[18]),(16,[11]),(18,[11])] hZ (by kernel_rfl) ?_
    refine Bz (i:=4) (j:=8) (by kernel_rfl) rfl rfl ?_ ?_
    ·
     obtain ⟨t0,e2040,e2041⟩:=AB t0
     replace o0:=(((o0.st c0).st j1).st k1).st g2
     refine AF rfl o0 (aK.rd) rfl rfl (by decide) e2040 e2041 rfl fun bK cK w2044 O2045 t6 eU=>?_
     rw [← t0] at eU ⊢
     have hZ:=t6.lst [13] (fun _ h=>by cases h;decide)
     refine Az [(9,[15]),(14,[18]),(16,[11]),(18,[11])] hZ (by kernel_rfl) ?_
     refine AD (fuel:=8) [15,18] [(15,true)] (by kernel_rfl) rfl ?_
     refine AJ rfl rfl rfl (Au ?_)
     refine At (i:=8) (by kernel_rfl) rfl ?_
     refine AM 14 (by decide) O2045 (xs:=(([(n2:Int)]:List Int):List Int)) rfl rfl rfl rfl ⟨(vInt rk252),trivial⟩ (by decide) (by decide) rfl fun g2049 w2050 O2051 t4 h2053=>?_
     have hZ:=t4.lst [] (fun _ h=>h.elim)
     refine Az [(9,[15]),(14,[18]),(16,[11]),(18,[11])] hZ (by kernel_rfl) ?_
     refine At (i:=9) (by kernel_rfl) rfl ?_
     obtain ⟨l0,e2055,e2056⟩:=AB l0
     replace g0:=(((((g0.st c0).st j1).st k1).st g2).st t6).st t4
     refine AF rfl g0 (h2053.rd) rfl rfl (by decide) e2055 e2056 rfl fun qO rO w2059 O2060 u6 fU=>?_
     rw [← l0] at fU ⊢
     have hZ:=u6.lst [15] (fun _ h=>by cases h;decide)
     refine Az [(14,[18]),(16,[11]),(18,[11])] hZ (by kernel_rfl) ?_
     refine At (i:=14) (by kernel_rfl) rfl ?_
     obtain ⟨m0,e2064,e2065⟩:=AB m0
     replace h0:=((((((h0.st c0).st j1).st k1).st g2).st t6).st t4).st u6
     replace iC:=(((iC.st g2).st t6).st t4).st u6
     refine AF rfl h0 (iC.rd) rfl rfl (by decide) e2064 e2065 rfl fun gU hU w2068 sO z9 iU=>?_
     rw [← m0] at iU ⊢
     have hZ:=z9.lst [18] (fun _ h=>by cases h;decide)
     refine Az [(16,[11]),(18,[11])] hZ (by kernel_rfl) ?_
     refine At (i:=16) (by kernel_rfl) rfl ?_
     replace a0:=(((((((a0.st c0).st j1).st k1).st g2).st t6).st t4).st u6).st z9
     refine AA a0 rfl rfl rfl (AG rfl) (allOne rfl) fun w2073 aA a0=>?_
     replace a0:Lc 11 w2073 sO i0 53 [(.slice bK k0.length cK),(.slice b0.2.1.1 f0.2.1.length b0.2.1.2),(.slice b0.2.2.1 f0.2.2.length b0.2.2.2)]:=a0
     have hZ:=aA.lst [11] (fun _ h=>by cases h;decide)
     refine Az [(18,[11])] hZ (by kernel_rfl) ?_
     refine AD (fuel:=3) [] [(17,true)] (by kernel_rfl) rfl ?_
     refine AJ rfl rfl rfl (Au ?_)
     refine At (i:=18) (by kernel_rfl) rfl ?_
     refine AA a0 rfl rfl rfl (AG rfl) (allOne rfl) fun w2075 bA a0=>?_
     replace a0:Lc 11 w2075 sO i0 53 [(.slice bK k0.length cK),(.slice b0.2.1.1 f0.2.1.length b0.2.1.2),(.slice qO q0.length rO)]:=a0
     have hZ:=bA.lst [11] (fun _ h=>by cases h;decide)
     refine Az [] hZ (by kernel_rfl) ?_
     refine AD (fuel:=1) [] [(19,true)] (by kernel_rfl) rfl ?_
     refine AJ rfl rfl rfl (Au ?_)
     refine At (i:=20) (by kernel_rfl) rfl ?_
     refine AA a0 rfl rfl rfl (AG rfl) (allOne rfl) fun w2077 pB a0=>?_
     replace a0:Lc 11 w2077 sO i0 53 [(.slice bK k0.length cK),(.slice gU m1.length hU),(.slice qO q0.length rO)]:=a0
     refine Be (by kernel_rfl) ?_
     refine AY (by kernel_rfl) ?_
     obtain rfl:=sm u0
     exact show Exists _ from ⟨_,((bK,cK),(gU,hU),(qO,rO)),rfl,⟨rfl,rfl,rfl,rfl,rfl,rfl,rfl,rfl,rfl,rfl,trivial⟩,_,((((((((((hB.st c0).st j1).st k1).st g2).st t6).st t4).st u6).st z9).st aA).st bA).st pB,((((((((((b1.st c0).st j1).st k1).st g2).st t6).st t4).st u6).st z9).st aA).st bA).st pB,((((((((((p1.st c0).st j1).st k1).st g2).st t6).st t4).st u6).st z9).st aA).st bA).st pB,((((((((((o1.st c0).st j1).st k1).st g2).st t6).st t4).st u6).st z9).st aA).st bA).st pB,((((((((((r1.st c0).st j1).st k1).st g2).st t6).st t4).st u6).st z9).st aA).st bA).st pB,((((((((((q1.st c0).st j1).st k1).st g2).st t6).st t4).st u6).st z9).st aA).st bA).st pB,((((((((((z0.st c0).st j1).st k1).st g2).st t6).st t4).st u6).st z9).st aA).st bA).st pB,a0,(((((eU.st t4).st u6).st z9).st aA).st bA).st pB,((iU.st aA).st bA).st pB,(((fU.st z9).st aA).st bA).st pB⟩
    refine AM 14 (by decide) O2036 (xs:=(([(n2:Int)]:List Int):List Int)) rfl rfl rfl rfl ⟨(vInt rk252),trivial⟩ (by decide) (by decide) rfl fun g2079 w2080 O2081 l3 tO=>?_
    have hZ:=l3.lst [] (fun _ h=>h.elim)
    refine Az [(4,[13]),(9,[15]),(14,[18]),(16,[11]),(18,[11])] hZ (by kernel_rfl) ?_
    refine At (i:=4) (by kernel_rfl) rfl ?_
    obtain ⟨t0,e2085,e2086⟩:=AB t0
    replace o0:=((((o0.st c0).st j1).st k1).st g2).st l3
    replace aK:=aK.st l3
    refine AF rfl o0 (aK.rd) rfl rfl (by decide) e2085 e2086 rfl fun dK eK w2089 O2090 u4 jU=>?_
    rw [← t0] at jU ⊢
    have hZ:=u4.lst [13] (fun _ h=>by cases h;decide)
    refine Az [(9,[15]),(14,[18]),(16,[11]),(18,[11])] hZ (by kernel_rfl) ?_
    refine AD (fuel:=7) [15,18] [(15,true)] (by kernel_rfl) rfl ?_
    refine AJ rfl rfl rfl (Au ?_)
    refine At (i:=9) (by kernel_rfl) rfl ?_
    obtain ⟨l0,e2094,e2095⟩:=AB l0
    replace g0:=(((((g0.st c0).st j1).st k1).st g2).st l3).st u4
    replace tO:=tO.st u4
    refine AF rfl g0 (tO.rd) rfl rfl (by decide) e2094 e2095 rfl fun uO vO w2098 O2099 v6 kU=>?_
    rw [← l0] at kU ⊢
    have hZ:=v6.lst [15] (fun _ h=>by cases h;decide)
    refine Az [(14,[18]),(16,[11]),(18,[11])] hZ (by kernel_rfl) ?_
    refine At (i:=14) (by kernel_rfl) rfl ?_
    obtain ⟨m0,e2103,e2104⟩:=AB m0
    replace h0:=((((((h0.st c0).st j1).st k1).st g2).st l3).st u4).st v6
    replace iC:=(((iC.st g2).st l3).st u4).st v6
    refine AF rfl h0 (iC.rd) rfl rfl (by decide) e2103 e2104 rfl fun lU mU w2107 wO cA nU=>?_
    rw [← m0] at nU ⊢
    have hZ:=cA.lst [18] (fun _ h=>by cases h;decide)
    refine Az [(16,[11]),(18,[11])] hZ (by kernel_rfl) ?_
    refine At (i:=16) (by kernel_rfl) rfl ?_
    replace a0:=(((((((a0.st c0).st j1).st k1).st g2).st l3).st u4).st v6).st cA
    refine AA a0 rfl rfl rfl (AG rfl) (allOne rfl) fun w2112 dA a0=>?_
    replace a0:Lc 11 w2112 wO i0 53 [(.slice dK k0.length eK),(.slice b0.2.1.1 f0.2.1.length b0.2.1.2),(.slice b0.2.2.1 f0.2.2.length b0.2.2.2)]:=a0
    have hZ:=dA.lst [11] (fun _ h=>by cases h;decide)
    refine Az [(18,[11])] hZ (by kernel_rfl) ?_
    refine AD (fuel:=3) [] [(17,true)] (by kernel_rfl) rfl ?_
    refine AJ rfl rfl rfl (Au ?_)
    refine At (i:=18) (by kernel_rfl) rfl ?_
    refine AA a0 rfl rfl rfl (AG rfl) (allOne rfl) fun w2114 eA a0=>?_
    replace a0:Lc 11 w2114 wO i0 53 [(.slice dK k0.length eK),(.slice b0.2.1.1 f0.2.1.length b0.2.1.2),(.slice uO q0.length vO)]:=a0
    have hZ:=eA.lst [11] (fun _ h=>by cases h;decide)
    refine Az [] hZ (by kernel_rfl) ?_
    refine AD (fuel:=1) [] [(19,true)] (by kernel_rfl) rfl ?_
    refine AJ rfl rfl rfl (Au ?_)
    refine At (i:=20) (by kernel_rfl) rfl ?_
    refine AA a0 rfl rfl rfl (AG rfl) (allOne rfl) fun w2116 qB a0=>?_
    replace a0:Lc 11 w2116 wO i0 53 [(.slice dK k0.length eK),(.slice lU m1.length mU),(.slice uO q0.length vO)]:=a0
    refine Be (by kernel_rfl) ?_
    refine AY (by kernel_rfl) ?_
    obtain rfl:=sm u0
    exact show Exists _ from ⟨_,((dK,eK),(lU,mU),(uO,vO)),rfl,⟨rfl,rfl,rfl,rfl,rfl,rfl,rfl,rfl,rfl,rfl,trivial⟩,_,((((((((((hB.st c0).st j1).st k1).st g2).st l3).st u4).st v6).st cA).st dA).st eA).st qB,((((((((((b1.st c0).st j1).st k1).st g2).st l3).st u4).st v6).st cA).st dA).st eA).st qB,((((((((((p1.st c0).st j1).st k1).st g2).st l3).st u4).st v6).st cA).st dA).st eA).st qB,((((((((((o1.st c0).st j1).st k1).st g2).st l3).st u4).st v6).st cA).st dA).st eA).st qB,((((((((((r1.st c0).st j1).st k1).st g2).st l3).st u4).st v6).st cA).st dA).st eA).st qB,((((((((((q1.st c0).st j1).st k1).st g2).st l3).st u4).st v6).st cA).st dA).st eA).st qB,((((((((((z0.st c0).st j1).st k1).st g2).st l3).st u4).st v6).st cA).st dA).st eA).st qB,a0,((((jU.st v6).st cA).st dA).st eA).st qB,((nU.st dA).st eA).st qB,(((kU.st cA).st dA).st eA).st qB⟩
   refine AM 14 (by decide) dU (xs:=(([(n2:Int)]:List Int):List Int)) rfl rfl rfl rfl ⟨(vInt rk252),trivial⟩ (by decide) (by decide) rfl fun g2118 w2119 O2120 v4 xO=>?_
   have hZ:=v4.lst [] (fun _ h=>h.elim)
   refine Az [(4,[13]),(9,[15]),(14,[18]),(16,[11]),(18,[11])] hZ (by kernel_rfl) ?_
   refine At (i:=3) (by kernel_rfl) rfl ?_
   refine AM 12 (by decide) O2120 (xs:=(([(n2:Int)]:List Int):List Int)) rfl rfl rfl rfl ⟨(vInt rk252),trivial⟩ (by decide) (by decide) rfl fun g2124 w2125 O2126 m3 h2128=>?_
   have hZ:=m3.lst [] (fun _ h=>h.elim)
   refine Az [(4,[13]),(9,[15]),(14,[18]),(16,[11]),(18,[11])] hZ (by kernel_rfl) ?_
   refine At (i:=4) (by kernel_rfl) rfl ?_
   obtain ⟨t0,e2130,e2131⟩:=AB t0
   replace o0:=((((o0.st c0).st j1).st k1).st v4).st m3
   refine AF rfl o0 (h2128.rd) rfl rfl (by decide) e2130 e2131 rfl fun fK gK w2134 O2135 w4 oU=>?_
   rw [← t0] at oU ⊢
   have hZ:=w4.lst [13] (fun _ h=>by cases h;decide)
   refine Az [(9,[15]),(14,[18]),(16,[11]),(18,[11])] hZ (by kernel_rfl) ?_
   refine AD (fuel:=7) [15,18] [(15,true)] (by kernel_rfl) rfl ?_
   refine AJ rfl rfl rfl (Au ?_)
   refine At (i:=9) (by kernel_rfl) rfl ?_
   obtain ⟨l0,e2139,e2140⟩:=AB l0
   replace g0:=(((((g0.st c0).st j1).st k1).st v4).st m3).st w4
   replace xO:=(xO.st m3).st w4
   refine AF rfl g0 (xO.rd) rfl rfl (by decide) e2139 e2140 rfl fun yO zO w2143 O2144 w6 pU=>?_
   rw [← l0] at pU ⊢
   have hZ:=w6.lst [15] (fun _ h=>by cases h;decide)
   refine Az [(14,[18]),(16,[11]),(18,[11])] hZ (by kernel_rfl) ?_
   refine At (i:=14) (by kernel_rfl) rfl ?_
   obtain ⟨m0,e2148,e2149⟩:=AB m0
   replace h0:=((((((h0.st c0).st j1).st k1).st v4).st m3).st w4).st w6
   replace iC:=(((iC.st v4).st m3).st w4).st w6
   refine AF rfl h0 (iC.rd) rfl rfl (by decide) e2148 e2149 rfl fun qU rU w2152 aP fA sU=>?_
   rw [← m0] at sU ⊢
   have hZ:=fA.lst [18] (fun _ h=>by cases h;decide)
   refine Az [(16,[11]),(18,[11])] hZ (by kernel_rfl) ?_
   refine At (i:=16) (by kernel_rfl) rfl ?_
   replace a0:=(((((((a0.st c0).st j1).st k1).st v4).st m3).st w4).st w6).st fA
   refine AA a0 rfl rfl rfl (AG rfl) (allOne rfl) fun w2157 gA a0=>?_
   replace a0:Lc 11 w2157 aP i0 53 [(.slice fK k0.length gK),(.slice b0.2.1.1 f0.2.1.length b0.2.1.2),(.slice b0.2.2.1 f0.2.2.length b0.2.2.2)]:=a0
   have hZ:=gA.lst [11] (fun _ h=>by cases h;decide)
   refine Az [(18,[11])] hZ (by kernel_rfl) ?_
   refine AD (fuel:=3) [] [(17,true)] (by kernel_rfl) rfl ?_
   refine AJ rfl rfl rfl (Au ?_)
   refine At (i:=18) (by kernel_rfl) rfl ?_
   refine AA a0 rfl rfl rfl (AG rfl) (allOne rfl) fun w2159 iA a0=>?_
   replace a0:Lc 11 w2159 aP i0 53 [(.slice fK k0.length gK),(.slice b0.2.1.1 f0.2.1.length b0.2.1.2),(.slice yO q0.length zO)]:=a0
   have hZ:=iA.lst [11] (fun _ h=>by cases h;decide)
   refine Az [] hZ (by kernel_rfl) ?_
   refine AD (fuel:=1) [] [(19,true)] (by kernel_rfl) rfl ?_
   refine AJ rfl rfl rfl (Au ?_)
   refine At (i:=20) (by kernel_rfl) rfl ?_
   refine AA a0 rfl rfl rfl (AG rfl) (allOne rfl) fun w2161 rB a0=>?_
   replace a0:Lc 11 w2161 aP i0 53 [(.slice fK k0.length gK),(.slice qU m1.length rU),(.slice yO q0.length zO)]:=a0
   refine Be (by kernel_rfl) ?_
   refine AY (by kernel_rfl) ?_
   obtain rfl:=sm u0
   exact show Exists _ from ⟨_,((fK,gK),(qU,rU),(yO,zO)),rfl,⟨rfl,rfl,rfl,rfl,rfl,rfl,rfl,rfl,rfl,rfl,trivial⟩,_,((((((((((hB.st c0).st j1).st k1).st v4).st m3).st w4).st w6).st fA).st gA).st iA).st rB,((((((((((b1.st c0).st j1).st k1).st v4).st m3).st w4).st w6).st fA).st gA).st iA).st rB,((((((((((p1.st c0).st j1).st k1).st v4).st m3).st w4).st w6).st fA).st gA).st iA).st rB,((((((((((o1.st c0).st j1).st k1).st v4).st m3).st w4).st w6).st fA).st gA).st iA).st rB,((((((((((r1.st c0).st j1).st k1).st v4).st m3).st w4).st w6).st fA).st gA).st iA).st rB,((((((((((q1.st c0).st j1).st k1).st v4).st m3).st w4).st w6).st fA).st gA).st iA).st rB,((((((((((z0.st c0).st j1).st k1).st v4).st m3).st w4).st w6).st fA).st gA).st iA).st rB,a0,((((oU.st w6).st fA).st gA).st iA).st rB,((sU.st gA).st iA).st rB,(((pU.st fA).st gA).st iA).st rB⟩
  replace hB:=(hB.st bC).st cC
  replace b1:=(b1.st bC).st cC
  replace p1:=(p1.st bC).st cC
  replace o1:=(o1.st bC).st cC
  replace r1:=(r1.st bC).st cC
  replace q1:=(q1.st bC).st cC
  replace z0:=(z0.st bC).st cC
  rintro l2163 w2164 ⟨jC,eI,rfl,oY,O2165,hB,b1,p1,o1,r1,q1,z0,a0,o0,h0,g0⟩
  replace s1:=Bq s1
  refine Bc _ oY ?_
  refine Al (Bw [(21,[13]),(23,[13]),(25,[15])] O2165 ?_)
  refine AD (fuel:=22) [] [(0,true),(1,true),(2,true),(14,true),(15,true),(20,true)] (by kernel_rfl) rfl ?_
  refine AJ rfl rfl rfl (Bb (hc:=fun w' ⟨O',hq⟩=>Blk.cell (i:=0) ((a0.st hq (by decide)).1) rfl) rfl rfl rfl ?_)
  refine AW rfl rfl rfl (AW rfl rfl rfl ?_)
  obtain ⟨bP,tU,s1⟩:=bs s1
  have r2171:=(BI tU)
  refine IL (he:=tU) rfl rfl rfl rfl ?_
  obtain ⟨a2172,uU,s1⟩:=bs s1
  obtain ⟨b2174,o2175,ce2176,cP,hF2180,pY,hd2179,rfl,r2181⟩:=o0.elemF uU
  refine BC (hA:=cP) (hj:=rfl) (hlt:=pY) rfl rfl rfl rfl ?_
  refine Au ?_
  refine AD (fuel:=12) [13] [(3,true),(4,true),(5,true),(6,true),(7,true),(8,true),(9,true),(16,true),(17,true),(18,true)] (by kernel_rfl) rfl ?_
  refine AJ rfl rfl rfl (Bb (hc:=fun w' ⟨O',hq⟩=>Blk.cell (i:=0) ((a0.st hq (by decide)).1) rfl) rfl rfl rfl ?_)
  refine AW rfl rfl rfl ?_
  obtain ⟨vU,wU,s1⟩:=bs s1
  have r2184:=(BI wU)
  refine IL (he:=wU) rfl rfl rfl rfl ?_
  refine AJ rfl rfl rfl (Bb (hc:=fun w' ⟨O',hq⟩=>Blk.cell (i:=2) ((a0.st hq (by decide)).1) rfl) rfl rfl rfl ?_)
  refine AW rfl rfl rfl (AW rfl rfl rfl (AW rfl rfl rfl ?_))
  obtain ⟨dP,xU,s1⟩:=bs s1
  have r2187:=(BI xU)
  refine IL (he:=xU) rfl rfl rfl rfl ?_
  refine Au ?_
  refine AD (fuel:=7) [13,15] [(10,true),(11,true),(12,true),(13,true),(19,true)] (by kernel_rfl) rfl ?_
  refine AJ rfl rfl rfl (Bb (hc:=fun w' ⟨O',hq⟩=>Blk.cell (i:=2) ((a0.st hq (by decide)).1) rfl) rfl rfl rfl ?_)
  refine AW rfl rfl rfl ?_
  obtain ⟨yU,zU,s1⟩:=bs s1
  have r2190:=(BI zU)
  refine IL (he:=zU) rfl rfl rfl rfl ?_
  refine AW rfl rfl rfl (Au ?_)
  refine At (i:=21) (by kernel_rfl) rfl ?_
  refine CM rfl o0 (a:=bP) (vInt r2171) cP rfl rfl (AL uU) fun w2191 jA o0=>?_
  have hZ:=jA.lst [13] (fun _ h=>by cases h;decide)
  refine Az [(23,[13]),(25,[15])] hZ (by kernel_rfl) ?_
  refine AD (fuel:=5) [] [(22,true)] (by kernel_rfl) rfl ?_
  obtain ⟨a2193,e2194,s1⟩:=bs s1
  obtain ⟨p2196,aV⟩:=Ba e2194
  obtain ⟨b2197,o2198,ce2199,eP,hF2203,qY,hd2202,rfl,r2204⟩:=o0.elemF aV
  refine BC (hA:=eP) (hj:=(Int.toNat_of_nonneg p2196).symm) (hlt:=qY) rfl rfl rfl rfl ?_
  refine Au ?_
  refine At (i:=23) (by kernel_rfl) rfl ?_
  refine CM rfl o0 (a:=(aC:Int)) (vInt rk226) eP rfl rfl (AL aV) fun w2205 kA o0=>?_
  have hZ:=kA.lst [13] (fun _ h=>by cases h;decide)
  refine Az [(25,[15])] hZ (by kernel_rfl) ?_
  refine AD (fuel:=3) [] [(24,true)] (by kernel_rfl) rfl ?_
  obtain ⟨a2207,bV,s1⟩:=bs s1
  replace g0:=(g0.st jA).st kA
  obtain ⟨b2209,o2210,ce2211,fP,hF2215,rY,hd2214,rfl,r2216⟩:=g0.elemF bV
  refine BC (hA:=fP) (hj:=rfl) (hlt:=rY) rfl rfl rfl rfl ?_
  refine Au ?_
  refine At (i:=25) (by kernel_rfl) rfl ?_
  refine CM rfl g0 (a:=dP) (vInt r2187) fP rfl rfl (AL bV) fun w2217 lA g0=>?_
  have hZ:=lA.lst [15] (fun _ h=>by cases h;decide)
  refine Az [] hZ (by kernel_rfl) ?_
  refine AD (fuel:=1) [] [(26,true)] (by kernel_rfl) rfl ?_
  obtain ⟨a2219,e2220,s1⟩:=bs s1
  obtain ⟨p2222,cV⟩:=Ba e2220
  obtain ⟨b2223,o2224,ce2225,gP,hF2229,sY,hd2228,rfl,r2230⟩:=g0.elemF cV
  refine BC (hA:=gP) (hj:=(Int.toNat_of_nonneg p2222).symm) (hlt:=sY) rfl rfl rfl rfl ?_
  refine Au ?_
  refine At (i:=27) (by kernel_rfl) rfl ?_
  refine CM rfl g0 (a:=(aC:Int)) (vInt rk226) gP rfl rfl (AL cV) fun w2231 sB g0=>?_
  refine Be (by kernel_rfl) ?_
  refine AY (by kernel_rfl) ?_
  refine Aj (Ar rfl rfl ?_)
  replace a0:=(((a0.st jA).st kA).st lA).st sB
  refine Br (hl:=rfl) (hc:=(a0.1).cellsAt) rfl rfl ?_
  replace o0:=(o0.st lA).st sB
  obtain ⟨O2233,kC,o0⟩:=o0.freeze
  replace h0:=((((h0.st jA).st kA).st lA).st sB).st kC
  obtain ⟨O2235,lC,h0⟩:=h0.freeze
  replace g0:=(g0.st kC).st lC
  obtain ⟨O2237,mC,g0⟩:=g0.freeze
  obtain ⟨u2239,hP,s1⟩:=bs s1
  obtain ⟨hP,e2241,e2242⟩:=AB hP
  replace z0:=((((((z0.st jA).st kA).st lA).st sB).st kC).st lC).st mC
  replace o0:=(o0.st lC).st mC
  replace h0:=h0.st mC
  refine El rfl (a:=(⟨((jC.1.set aC bP).set (vU:Int).toNat (aC:Int)),jC.2.1,((jC.2.2.set aC dP).set (yU:Int).toNat (aC:Int))⟩:Swp)) z0 (Vb.ofAgg (cs:=[(.slice eI.1.1 jC.1.length eI.1.2),(.slice eI.2.1.1 jC.2.1.length eI.2.1.2),(.slice eI.2.2.1 jC.2.2.length eI.2.2.2)]) (x:=(⟨((jC.1.set aC bP).set (vU:Int).toNat (aC:Int)),jC.2.1,((jC.2.2.set aC dP).set (yU:Int).toNat (aC:Int))⟩:Swp)) rfl ⟨_,_,_,rfl,o0,h0,g0⟩) (fun _=>rfl) rfl (by decide) (by decide) e2241 e2242 ⟨rfl,rfl⟩ fun g2243 A2244 c2245 w2246 O2247 fI dV=>?_
  rw [← hP] at dV ⊢
  refine Ay rfl rfl (o_z ?_)
  obtain rfl:=sm s1
  exact show Exists _ from ⟨_,(A2244,c2245),rfl,⟨rfl,rfl,rfl,rfl,rfl,rfl,trivial⟩,_,(((((((hB.st jA).st kA).st lA).st sB).st kC).st lC).st mC).st fI,(((((((b1.st jA).st kA).st lA).st sB).st kC).st lC).st mC).st fI,(((((((p1.st jA).st kA).st lA).st sB).st kC).st lC).st mC).st fI,(((((((o1.st jA).st kA).st lA).st sB).st kC).st lC).st mC).st fI,(((((((r1.st jA).st kA).st lA).st sB).st kC).st lC).st mC).st fI,(((((((q1.st jA).st kA).st lA).st sB).st kC).st lC).st mC).st fI,dV⟩
 rintro l2251 w2252 ⟨s2255,x2256,rfl,tY,O2253,hB,b1,p1,o1,r1,q1,z0⟩
 replace hm:=Bq hm
 refine Bc _ tY ?_
 refine Al (Aj (Br (hl:=rfl) (hc:=(b1.1).cellsAt) rfl rfl ?_))
 refine Ar rfl rfl ?_
 obtain ⟨O2257,tB,p1⟩:=p1.freeze
 replace o1:=o1.st tB
 obtain ⟨O2259,uB,o1⟩:=o1.freeze
 replace r1:=(r1.st tB).st uB
 obtain ⟨O2261,vB,r1⟩:=r1.freeze
 replace q1:=((q1.st tB).st uB).st vB
 obtain ⟨O2263,wB,q1⟩:=q1.freeze
 replace z0:=(((z0.st tB).st uB).st vB).st wB
 obtain ⟨O2265,xB,z0⟩:=z0.freeze
 obtain ⟨yB,e2268,hm⟩:=bs hm
 replace p1:=(((p1.st uB).st vB).st wB).st xB
 replace o1:=((o1.st vB).st wB).st xB
 replace r1:=(r1.st wB).st xB
 replace q1:=q1.st xB
 refine Bt (O:=O2265) (R:=fun w' F v=>T2 w' F v yB) (Gt Fr.lt (Vb.ofAgg (cs:=[(.slice s0.1.1 a1.1.length s0.1.2),(.slice s0.2.1.1 a1.2.1.length s0.2.1.2),(.slice s0.2.2.1.1 a1.2.2.1.length s0.2.2.1.2),(.slice s0.2.2.2.1 a1.2.2.2.length s0.2.2.2.2)]) (x:=(⟨a1.1,a1.2.1,a1.2.2.1,a1.2.2.2⟩:Tsk)) rfl ⟨_,_,_,_,rfl,p1,o1,r1,q1⟩) z0 (show inI64 (1000) from by decide) e2268) rfl rfl fun v2273 w2269 O2270 zB h2272=>?_
 obtain ⟨v2274,v2275,rfl,h2276,h2277⟩:=h2272
 obtain ⟨cs2278,rfl,v2279,rfl,hK,r2283,r2284,r2285⟩:=h2276
 obtain ⟨eV,fV,rfl⟩:=hK.form
 obtain ⟨rfl,r2286⟩:=h2277.err
 refine Ar rfl rfl (Cy rfl rfl rfl (Cy rfl rfl rfl (Bk 20 O2270 rfl fun g2287 w2288 iK mA oD=>?_)))
 refine AA oD rfl rfl rfl (AG rfl) (allOne rfl) fun jK nA oD=>?_
 replace oD:Lc 20 jK iK g2287 32 [(.int .i64 yB.1.verdict),(.slice eV yB.1.plan.length fV),(.int .i64 yB.1.cost),(.int .i64 yB.1.expanded)]:=oD
 refine Ay rfl rfl (o_z ?_)
 refine Al ?_
 obtain ⟨y2294,n1,hm⟩:=bs hm
 refine AU (fun l' w'=>∃ (x2297:Unit) (O':Lab),subs l' [(4,(.bool y2294))]∧Bs w A w' O') ?_ ?_
 ·
  refine Aj (Ar rfl rfl (LW rfl rfl (fun iP=>?_) fun iP=>?_))
  ·
   replace n1:=ip n1 iP
   refine Ar rfl rfl (AE rfl rfl ?_)
   replace b1:=(((((((b1.st tB).st uB).st vB).st wB).st xB).st zB).st mA).st nA
   refine Br (hl:=rfl) (hc:=(b1.1).cellsAt) rfl rfl ?_
   refine AE rfl rfl (Br (hl:=rfl) (hc:=(oD.1).cellsAt) rfl rfl ?_)
   refine AE rfl rfl (Ar rfl rfl (AE rfl rfl (Ar rfl rfl (AE rfl rfl ?_))))
   obtain ⟨n2299,gV,n1⟩:=bs n1
   have r2301:=(BI gV)
   refine Oe (he:=gV) rfl rfl rfl ?_
   refine AE rfl rfl ?_
   obtain ⟨hV,e2303,n1⟩:=bs n1
   replace p1:=((p1.st zB).st mA).st nA
   replace o1:=((o1.st zB).st mA).st nA
   replace r1:=((r1.st zB).st mA).st nA
   replace q1:=((q1.st zB).st mA).st nA
   replace hK:=(hK.st mA).st nA
   refine By (O:=iK) (A:=All jK) (R:=fun w' F v=>Vb w' F v hV) (JW (fun _ h=>h) (Vb.mono (F:=Fr 0 jK iK) (Vb.ofAgg (cs:=[(.slice s0.1.1 a1.1.length s0.1.2),(.slice s0.2.1.1 a1.2.1.length s0.2.1.2),(.slice s0.2.2.1.1 a1.2.2.1.length s0.2.2.1.2),(.slice s0.2.2.2.1 a1.2.2.2.length s0.2.2.2.2)]) (x:=(⟨a1.1,a1.2.1,a1.2.2.1,a1.2.2.2⟩:Tsk)) rfl ⟨_,_,_,_,rfl,p1,o1,r1,q1⟩) Fr.lt) (Vb.mono (F:=Fr 0 jK iK) (Vb.ofAgg (cs:=[(.int .i64 yB.1.verdict),(.slice eV yB.1.plan.length fV),(.int .i64 yB.1.cost),(.int .i64 yB.1.expanded)]) (x:=yB.1) rfl ⟨_,rfl,hK,r2283,r2284,r2285⟩) Fr.lt) r2301 e2303) rfl rfl fun v2308 w2304 O2305 kK h2307=>?_
   obtain rfl:=h2307.bool
   cases hV
   case false =>
    replace n1:=iF n1
    refine BF rfl rfl rfl (Ar rfl rfl (AC rfl rfl rfl rfl (AC rfl rfl rfl rfl (AC rfl rfl rfl rfl (AC rfl rfl rfl rfl (AC rfl rfl rfl rfl (BN rfl rfl rfl (Ay rfl rfl (o_z ?_)))))))))
    obtain rfl:=sm n1
    exact ⟨(),_,⟨rfl,trivial⟩,((((((((hB.st tB).st uB).st vB).st wB).st xB).st zB).st mA).st nA).st kK⟩
   replace n1:=iT n1
   refine BF rfl rfl rfl (Ar rfl rfl (AE rfl rfl (AV rfl rfl (AE rfl rfl ?_))))
   replace oD:=oD.st kK
   refine AP (hc:=Blk.cell (i:=3) (oD.1) rfl) rfl rfl ?_
   refine AE rfl rfl (Ar rfl rfl (AE rfl rfl ?_))
   obtain ⟨n2309,iV,n1⟩:=bs n1
   have r2311:=(BI iV)
   refine Fz (he:=iV) rfl rfl rfl ?_
   refine AE rfl rfl (NV rfl rfl rfl (fun jP=>?_) fun jP=>?_)
   ·
    replace n1:=ip n1 jP
    refine BF rfl rfl rfl (Ay rfl rfl (o_z ?_))
    obtain rfl:=sm n1
    exact ⟨(),_,⟨rfl,trivial⟩,((((((((hB.st tB).st uB).st vB).st wB).st xB).st zB).st mA).st nA).st kK⟩
   replace n1:=im n1 jP
   refine BF rfl rfl rfl (Ay rfl rfl (o_z ?_))
   obtain rfl:=sm n1
   exact ⟨(),_,⟨rfl,trivial⟩,((((((((hB.st tB).st uB).st vB).st wB).st xB).st zB).st mA).st nA).st kK⟩
  replace n1:=im n1 iP
  refine Ar rfl rfl (AC rfl rfl rfl rfl (AC rfl rfl rfl rfl (AC rfl rfl rfl rfl (AC rfl rfl rfl rfl (AC rfl rfl rfl rfl (AC rfl rfl rfl rfl (BN rfl rfl rfl (Ar rfl rfl (AC rfl rfl rfl rfl (AC rfl rfl rfl rfl (AC rfl rfl rfl rfl (AC rfl rfl rfl rfl (AC rfl rfl rfl rfl (BN rfl rfl rfl ?_))))))))))))))
  refine Ay rfl rfl (o_z ?_)
  obtain rfl:=sm n1
  exact ⟨(),_,⟨rfl,trivial⟩,(((((((hB.st tB).st uB).st vB).st wB).st xB).st zB).st mA).st nA⟩
 replace hB:=(((((((hB.st tB).st uB).st vB).st wB).st xB).st zB).st mA).st nA
 rintro l2313 w2314 ⟨x2297,O2315,uY,hB⟩
 refine Bc _ uY ?_
 refine AR ?_
 obtain rfl:=sm hm
 exact ret1v rfl (AO rfl) ⟨hB.ext,vBool⟩
end
section
set_option linter.unusedVariables false
set_option linter.unusedSimpArgs false
open Go Go.RowKit
theorem Nb {t:Tsk} {gens:List Swp} (h:Sy t gens) {s:List Int} (hs:StateOk t.vars s):∀ j,¬ FstL gens (cnS t gens s) j:=by
  obtain ⟨r,ws,h1,_,_,_,_,h6⟩:=JP h.sm h.sy h.len hs
  have e1:cnS t gens s=r:=by unfold cnS cnP;rw [h1];rfl
  rw [e1]
  exact h6
theorem PU {t:Tsk} {gens:List Swp} (h:Sy t gens) {s:List Int} (ho:OR t (cnS t gens) s):∀ j,¬ FstL gens s j:=by
  have hok:=h.sm.ok
  cases ho with
  | init=>exact Nb h hok.2.2.2.1
  | step ho _ hop _=>exact Nb h (EM hok (Gd h ho) hop)
theorem La:∀ {k:Nat} {a b:List Int} {x y:Int},(∀ i,i < k→a[i]?=b[i]?)→a[k]?=some y→b[k]?=some x→y < x→cfL a b < 0
  | 0,a,b,x,y,_,ha,hb,hlt=>by
    cases a with
    | nil=>simp at ha
    | cons a0 a =>
      cases b with
      | nil=>simp at hb
      | cons b0 b =>
        simp at ha hb
        subst ha hb
        unfold cfL
        have:Lib.compareInt a0 b0=-1:=by unfold Lib.compareInt;rw [if_pos hlt]
        rw [this,if_pos (by decide)]
        decide
  | k + 1,a,b,x,y,h,ha,hb,hlt=>by
    cases a with
    | nil=>simp at ha
    | cons a0 a =>
      cases b with
      | nil=>simp at hb
      | cons b0 b =>
        have h0:=h 0 (by omega)
        simp at h0
        subst h0
        unfold cfL
        have:Lib.compareInt a0 a0=0:=by unfold Lib.compareInt;simp
        rw [this,if_neg (by simp)]
        exact La (k:=k) (fun i hi=>by have:=h (i + 1) (by omega);simpa using this) (by simpa using ha) (by simpa using hb) hlt
theorem Pe {n k j:Nat} (hk:k + 1 < n) (hj:j < n):(swL n k)[j]?=some (((if j=k then k + 1 else if j=k + 1 then k else j:Nat)):Int):=by
  unfold swL
  by_cases h1:j=k + 1
  · subst h1
    rw [List.getElem?_set_self (by simp [rangeI];omega),if_neg (by omega),if_pos rfl]
  · rw [List.getElem?_set_ne (by omega)]
    by_cases h2:j=k
    · subst h2
      rw [List.getElem?_set_self (by simp [rangeI];omega),if_pos rfl]
      rfl
    · rw [List.getElem?_set_ne (by omega),CR hj,if_neg h2,if_neg h1]
theorem JT {n:Nat} {c:Int} {s:List Int} (hs:StateOk (twT n c).vars s):s.length=n∧∀ (i:Nat) x,s[i]?=some x→x=0∨x=1:=by
  have hl:s.length=n:=by have:=hs.1;simpa [twT] using this
  refine ⟨hl,fun i x hx=>?_⟩
  have hi:=AL hx
  have h2:(twT n c).vars[i]?=some 2:=by
    show (List.replicate n (2:Int))[i]?=some 2
    rw [List.getElem?_replicate,if_pos (by omega)]
  have:=hs.2 i x 2 hx h2
  omega
theorem Nc {n k:Nat} {c:Int} (h1:1≤n) (h8:n≤8) (hc:0≤c) (h5:c < 5) (hk:k < n - 1) {s:List Int} (hs:StateOk (twT n c).vars s) (hf:¬ FstL (swG n) s k) {x y:Int} (hx:s[k]?=some x) (hy:s[k + 1]?=some y):x≤y:=by
  have hok:=(IA h1 h8 hc h5).ok
  have hsy:=Na h1 h8 hc h5 hk
  obtain ⟨hl,hv⟩:=JT hs
  rcases Int.lt_or_le y x with hlt|hle
  case inr=>exact hle
  exfalso
  apply hf
  have hg:(swG n)[k]?=some (swX n k):=by simp [swG,hk]
  refine ⟨_,hg,?_⟩
  have him:ImS (swX n k) s ((s.set k y).set (k + 1) x):=by
    refine ⟨by simp,fun j v hj=>?_⟩
    have hjn:j < n:=by have:=AL hj;omega
    refine ⟨_,[0,1],v,Pe (by omega) hjn,by simp [swX,hjn],?_,?_⟩
    · rcases hv j v hj with rfl|rfl<;>rfl
    · by_cases e1:j=k
      · subst e1
        rw [hx] at hj
        obtain rfl:=Option.some.inj hj
        rw [if_pos rfl,List.getElem?_set_self (by simp;omega)]
      · rw [if_neg e1]
        by_cases e2:j=k + 1
        · subst e2
          rw [hy] at hj
          obtain rfl:=Option.some.inj hj
          rw [if_pos rfl,List.getElem?_set_ne (by omega),List.getElem?_set_self (by omega)]
        · rw [if_neg e2,List.getElem?_set_ne (by omega),List.getElem?_set_ne (by omega)]
          exact hj
  obtain ⟨_,g2,_⟩:=Fo hok hsy.1 hs
  rw [Iv hsy.1 hs.1 g2 him]
  exact La (k:=k) (fun i hi=>by rw [List.getElem?_set_ne (by omega),List.getElem?_set_ne (by omega)]) (by rw [List.getElem?_set_ne (by omega),List.getElem?_set_self (by omega)]) hx hlt
def sortB (s:List Int):Bool:=(List.range (s.length - 1)).all fun k=>decide ((s[k]?).getD 0≤(s[k + 1]?).getD 0)
def sortedL (n:Nat):List (List Int):=(List.range (n + 1)).map fun m=>List.replicate (n - m) 0 ++ List.replicate m 1
theorem Mk:((List.range 9).all fun n=>(statesL (List.replicate n 2)).all fun s=>!sortB s || (sortedL n).any fun z=>z == s)=true:=by kernel_rfl
theorem Qn {n:Nat} {c:Int} (h1:1≤n) (h8:n≤8) (hc:0≤c) (h5:c < 5) {s:List Int} (ho:OR (twT n c) (cnS (twT n c) (swG n)) s):s∈sortedL n:=by
  have h:=Ja h1 h8 hc h5
  have hs:=Gd h ho
  have hf:=PU h ho
  obtain ⟨hl,hv⟩:=JT hs
  have hb:sortB s=true:=by
    unfold sortB
    rw [List.all_eq_true]
    intro k hk
    have hk':=List.mem_range.1 hk
    obtain ⟨x,hx⟩:=AN (l:=s) (k:=k) (by omega)
    obtain ⟨y,hy⟩:=AN (l:=s) (k:=k + 1) (by omega)
    rw [hx,hy]
    simpa using Nc h1 h8 hc h5 (by omega) hs (hf k) hx hy
  have ha:=Mk
  rw [List.all_eq_true] at ha
  have ha:=ha n (List.mem_range.2 (by omega))
  rw [List.all_eq_true] at ha
  have ha:=ha s (Fd.2 hs)
  rw [hb] at ha
  simpa using ha
theorem PV {n:Nat} {c:Int} (h1:1≤n) (h8:n≤8) (hc:0≤c) (h5:c < 5) {m:Int} {r:Rsl} (hr:ResO (twT n c) (swG n) m r):r.expanded≤(n:Int) + 1:=by
  obtain ⟨_,_,M,m1,m2,m3,_⟩:=hr
  have:M.length≤(sortedL n).length:=Gc m1 fun s hs=>Qn h1 h8 hc h5 (m3 s hs)
  simp [sortedL] at this
  omega
theorem Qp {n k:Nat} {c:Int} {o:Opr} (h:(twT n c).ops[k]?=some o):k < n∧o=twO c k:=by
  have hk:k < n:=by have:=AL h;simpa [twT] using this
  refine ⟨hk,?_⟩
  simp [twT,hk] at h
  exact h.symm
theorem LJ (c:Int) (k:Nat) (s:List Int):succ (twO c k) s=s.set k 1:=by
  simp [succ,twO,effsOn,holdsB]
theorem LK {n:Nat} {c:Int} {s:List Int}:holdsB (twT n c).goal s=true↔∀ v,v < n→s[v]?=some 1:=by
  unfold holdsB
  rw [List.all_eq_true]
  simp only [twT,List.mem_map,List.mem_range]
  constructor
  · intro h v hv
    have:=h _ ⟨v,hv,rfl⟩
    simpa [hasB] using this
  · rintro h _ ⟨v,hv,rfl⟩
    simpa [hasB] using h v hv
theorem PW {n:Nat} {c:Int} (hc:0≤c) {s:List Int} {C:Int} (hw:Walk (twT n c) s C):s.length=n→c * (s.count 0:Int)≤C:=by
  induction hw with
  | @goal s hg =>
    intro hl
    have:s.count 0=0:=by
      rw [List.count_eq_zero]
      intro hm
      obtain ⟨i,hi⟩:=List.getElem?_of_mem hm
      have:=(LK.1 hg) i (by have:=AL hi;omega)
      rw [hi] at this
      simp at this
    rw [this]
    simp
  | @step s k o C ho hp hw ih =>
    intro hl
    obtain ⟨hk,rfl⟩:=Qp ho
    rw [LJ] at ih
    have h1:=ih (by simpa using hl)
    have h2:s.count 0≤(s.set k 1).count 0 + 1:=by
      rw [List.count_set (by omega)]
      split<;>split<;>omega
    have h3:c * (s.count 0:Int)≤c * (((s.set k 1).count 0:Int) + 1):=Int.mul_le_mul_of_nonneg_left (by omega) hc
    rw [Int.mul_add,Int.mul_one] at h3
    show _≤C + c
    omega
theorem LL {n:Nat} {c:Int}:∀ (m j:Nat),j + m=n→Walk (twT n c) (List.replicate j 1 ++ List.replicate m 0) ((m:Int) * c)
  | 0,j,h=>by
    have:Walk (twT n c) (List.replicate j 1 ++ List.replicate 0 0) 0:=.goal (LK.2 fun v hv=>by
      rw [List.replicate_zero,List.append_nil,List.getElem?_replicate,if_pos (by omega)])
    simpa using this
  | m + 1,j,h=>by
    have ih:=LL (n:=n) (c:=c) m (j + 1) (by omega)
    have hj:j < n:=by omega
    have hop:(twT n c).ops[j]?=some (twO c j):=by simp [twT,hj]
    have hs:(List.replicate j (1:Int) ++ List.replicate (m + 1) 0).set j 1=List.replicate (j + 1) 1 ++ List.replicate m 0:=by
      rw [List.set_append_right _ _ (by simp),List.length_replicate,Nat.sub_self,List.replicate_succ,List.set_cons_zero,List.replicate_succ' (n:=j),List.append_assoc]
      rfl
    have hw:=Walk.step (t:=twT n c) (s:=List.replicate j 1 ++ List.replicate (m + 1) 0) (c:=(m:Int) * c) hop (by
      simp [holdsB,twO,hasB]) (by rw [LJ,hs];exact ih)
    have e:((m + 1:Nat):Int) * c=(m:Int) * c + (twO c j).cost:=by
      show _=(m:Int) * c + c
      rw [Int.natCast_add,Int.add_mul]
      simp
    rw [e]
    exact hw
theorem Pf {c:Int} {N:Nat} (hN:N≤8):rngN (ρ:=Bool) (fun (k30:Nat) (s28:(List Int)×(List Int)×(List Fct)×(List Opr))=>bnd (appI 8 s28.1 ([2]:List Int)) fun u57=>bnd (appI 8 s28.2.1 ([0]:List Int)) fun u59=>bnd (some (u57,u59):Option ((List Int)×(List Int))) fun y61=>bnd (appI 16 s28.2.2.1 [(⟨(k30:Int),1⟩:Fct)]) fun u169=>bnd (appI 72 s28.2.2.2 [(⟨(⟨#[]⟩:ByteArray),c,[(⟨(k30:Int),0⟩:Fct)],[(⟨([]:List Fct),(k30:Int),1⟩:Eff)]⟩:Opr)]) fun u199=>some (.next (y61.1,y61.2,u169,u199))) N (([]:List Int),([]:List Int),([]:List Fct),([]:List Opr))=some (.done ((twT N c).vars,(twT N c).init,(twT N c).goal,(twT N c).ops)):=by
  rw [Ht (s₀:=(([]:List Int),([]:List Int),([]:List Fct),([]:List Opr))) (fun k=>((twT k c).vars,(twT k c).init,(twT k c).goal,(twT k c).ops)) rfl (fun k hk=>?_)]
  dsimp only
  rw [Cm (by simp [twT];omega) (by simp [twT];omega),Am,Cm (by simp [twT];omega) (by simp [twT];omega),Am,Am,Cm (by simp [twT];omega) (by simp [twT];omega),Am,Cm (by simp [twT];omega) (by simp [twT];omega),Am]
  simp [twT,List.replicate_succ',List.range_succ,twO]
theorem NS {N:Nat} (hN:N≤8):rngN (ρ:=Ctl (List Swp) Bool) (fun (k252:Nat) (s250:(List Int)×(List (List Int))×(List Int))=>bnd (appI 8 s250.1 ([(k252:Int)]:List Int)) fun u275=>bnd (appI 8 s250.2.2 ([(k252:Int)]:List Int)) fun u277=>bnd (appI 24 s250.2.1 [([0,1]:List Int)]) fun u279=>some (.next (u275,u279,u277))) N (([]:List Int),([]:List (List Int)),([]:List Int))=some (.done (rangeI N,List.replicate N [0,1],rangeI N)):=by
  rw [Ht (s₀:=(([]:List Int),([]:List (List Int)),([]:List Int))) (fun k=>(rangeI k,List.replicate k [0,1],rangeI k)) rfl (fun k hk=>?_)]
  dsimp only
  rw [Cm (by simp [rangeI];omega) (by simp [rangeI];omega),Am,Am,Cm (by simp;omega) (by simp;omega),Am]
  simp [rangeI,List.replicate_succ',List.range_succ]
theorem Nd (x0 x1:Byt):Dy x0 x1=some true:=by
  unfold Dy
  obtain ⟨m,hm⟩:∃ m:Nat,x0.n % 8=(m:Int):=⟨(x0.n % 8).toNat,by omega⟩
  have hm8:m < 8:=by omega
  obtain ⟨c,hcd⟩:∃ c:Int,x1.n % 5=c:=⟨_,rfl⟩
  have hc0:0≤c:=by omega
  have hc5:c < 5:=by omega
  have e1:(1:Int) + (m:Int)=((m + 1:Nat):Int):=by omega
  have hsy:=Ja (n:=m + 1) (c:=c) (by omega) (by omega) hc0 hc5
  rw [awake52,Am,BD,Lr x0.lo (by omega),Am,hm,Ci (by unfold inI64;omega),Am,Lr x1.lo (by omega),Am,hcd,e1]
  rw [Lt,Am,Pf (by omega),Am,BW,Ci (by unfold inI64;omega),Am,show ((m + 1:Nat):Int) - 1=((m:Nat):Int) from by omega,Lt,Am]
  rw [Ht (s₀:=([]:List Swp)) (fun k=>(List.range k).map (swX (m + 1))) rfl (fun k hk=>?_),Am,BW]
  · show bnd (Cj (twT (m + 1) c) (swG (m + 1)) 1000) _=_
    obtain ⟨r,r1,r2,_⟩:=KX hsy 1000
    have hv:=(IZ hsy r2 (by decide)).1
    have hfew:=PV (by omega) (by omega) hc0 hc5 r2
    have hb:0≤((m + 1:Nat):Int) * c:=Int.mul_nonneg (by omega) hc0
    have hb2:((m + 1:Nat):Int) * c≤8 * 5:=Int.mul_le_mul (by omega) (by omega) hc0 (by omega)
    have hw:Walk (twT (m + 1) c) (twT (m + 1) c).init (((m + 1:Nat):Int) * c):=by
      have:=LL (n:=m + 1) (c:=c) (m + 1) 0 (by omega)
      simpa [twT] using this
    have hlow:∀ C,Walk (twT (m + 1) c) (twT (m + 1) c).init C→((m + 1:Nat):Int) * c≤C:=fun C hC=>by
      have:=PW hc0 hC (by simp [twT])
      have e:(twT (m + 1) c).init.count 0=m + 1:=by simp [twT]
      rw [e,Int.mul_comm] at this
      exact this
    rw [r1,Am,if_pos rfl,Ci (by unfold inI64;omega),Am]
    have hres:=MY hsy r2 hv (b:=((m + 1:Nat):Int) * c) (fun _=>hw) hlow
    rw [show CB (⟨(twT (m + 1) c).vars,(twT (m + 1) c).init,(twT (m + 1) c).goal,(twT (m + 1) c).ops⟩:Tsk) r (((m + 1:Nat):Int) * c)=some true from hres,Am,BD,Ci (by unfold inI64;omega),Am,if_pos hfew,Am]
  · rw [Am,NS (by omega),Am,BW]
    dsimp only
    have g1:=CR (n:=m + 1) (k:=k) (by omega)
    have g2:((rangeI (m + 1)).set k ((k:Int) + 1))[k + 1]?=some ((k + 1:Nat):Int):=by rw [List.getElem?_set_ne (by omega)];exact CR (by omega)
    have ga:∀ z:Int,z=((k + 1:Nat):Int)→atI ((rangeI (m + 1)).set k ((k:Int) + 1)) z=some ((k + 1:Nat):Int):=by
      rintro z rfl
      rw [Bi]
      exact g2
    rw [Ci (by unfold inI64;omega),Am,g1,Am,Am,Am,Am,ga _ (by omega),Am,Am,Am,Cm (by simp;omega) (by simp;omega),Am]
    rw [List.range_succ,List.map_append]
    simp only [List.map_cons,List.map_nil]
    rw [show ((k:Int) + 1).toNat=k + 1 from by omega]
    rfl
end
section
open Go Go.RowKit Go.ChangeShapes Go.WideShapes Go.Deep
theorem lawOTwins {w:World} {v0:Value} {a0:Byt} (h0:V w v0 a0) {v1:Value} {a1:Byt} (h1:V w v1 a1):Fn Tryz.prog 6 [v0,v1] w fun v w'=>v=.bool true∧Ext w w':=by
  obtain rfl:=Vb.byte h0
  obtain rfl:=Vb.byte h1
  exact (HA (fun _ h=>h)  (Nd a0 a1)).mono fun _ _ h=>⟨h.2.bool,h.1⟩
set_option maxRecDepth 100000 in
theorem HQ (os:Os) (started:os.Started) (H:Type) (enc:TypeId×Value→H) :
    ReturnsInHanded {} Tryz.checked os 6 .any (Rows.orbitTwinsSpec.pre6 enc Tryz.prog Tryz.f6 Rows.orbitTwinsRow.domain false) (Rows.orbitTwinsSpec.post enc Tryz.prog Tryz.f6 false true false false):=by
  refine returnsInHanded_of_change (C:=Tryz.checked) ownTry started (by kernel_rfl) Tryz.func6 (ChangeSpec.witness6 (enc:=enc) (C:=Tryz.checked) false ⟨#[],#[(.int .u8 0),(.int .u8 0)],[]⟩ 8 (by kernel_rfl) (by kernel_rfl) (by kernel_rfl) (by kernel_rfl)) ?_
  intro W base args ds gs before hval hW _ _
  have hopen:∀ p,DataW.TrodAll enc Tryz.prog W 0 (fun _=>true) true Tryz.f6.params.toList args.toList ds p→∃ v0 v1 d0 d1,args=#[v0,v1]∧ds=[d0,d1]∧(∃ a:Byt,V W v0 a)∧(∃ a:Byt,V W v1 a):=by
    intro p hA
    rw [Tryz.params6] at hA
    replace hval:∀ (j:Nat) t v,(#[5,5]:Array TypeId)[j]?=some t→args[j]?=some v→Value.okWide Tryz.prog W .any base t v:=by rw [← Tryz.params6];exact hval
    obtain ⟨v0,vs0,d0,ds0,p0,q0,g0,e0,_,h0,r0⟩:=trodAll_cons hA
    obtain ⟨v1,vs1,d1,ds1,p1,q1,g1,e1,_,h1,r1⟩:=trodAll_cons r0
    obtain ⟨g,e,_⟩:=trodAll_nil r1
    rw [g] at g1;rw [e] at e1
    rw [g1] at g0;rw [e1] at e0
    obtain rfl:args=#[v0,v1]:=by cases args;simp_all
    exact ⟨v0,v1,d0,d1,rfl,e0,(by first|exact openAgg rfl (hval 0 5 v0 rfl rfl) h0|exact openOne rfl (hval 0 5 v0 rfl rfl) h0),(by first|exact openAgg rfl (hval 1 5 v1 rfl rfl) h1|exact openOne rfl (hval 1 5 v1 rfl rfl) h1)⟩
  refine lawPost rfl (by kernel_rfl) (by rw [Tryz.params6];exact of_decide_eq_true (by kernel_rfl)) hW ?_ ?_
  · intro p hA
    obtain ⟨v0,v1,d0,d1,_,rfl,_⟩:=hopen p hA
    rfl
  · intro p hA
    obtain ⟨v0,v1,d0,d1,rfl,_,⟨a0,h0⟩,⟨a1,h1⟩⟩:=hopen p hA
    exact lawOTwins h0 h1
theorem orbitTwins_holds:Rows.OrbitTwinsSaid :=
  OpenClaim.holds_of_wide 6 Tryz.f6 rfl rfl rfl rfl rfl rfl rfl ⟨rfl,rfl,rfl,rfl,rfl⟩ rfl rfl rfl rfl rfl (by kernel_rfl) Tryz.func6 (by kernel_rfl)
    (of_decide_eq_true (by kernel_rfl)) (by unfold Func.isWrapper;first|(rw [if_pos (by decide +kernel)];kernel_rfl)|(rw [if_neg (by decide +kernel)];exact ⟨rfl,rfl⟩))
    (fun os started H enc _=>HQ os started H enc)
#print axioms orbitTwins_holds
end
end Go.Proofs.YtecegaabajeolaaGreat

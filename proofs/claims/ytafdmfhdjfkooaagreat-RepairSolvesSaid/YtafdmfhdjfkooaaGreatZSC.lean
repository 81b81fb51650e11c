/- Own text: what the proof of repairSolves_holds uses, part 3: rules, models and their proofs, plain laws. -/
import Derived.Test.YtafdmfhdjfkooaaGreatZSB
set_option linter.unusedVariables false
set_option linter.unusedSimpArgs false
namespace Go.Proofs.YtafdmfhdjfkooaaGreat
open Go Go.RowKit
section
open Go Go.RowKit
attribute [local irreducible] ewp owp hwp hwq hws Ev Evg Fn retPost loud loudS Res1
attribute [local irreducible] hwx loudX hwz zNext
structure Prt where
  op:Int
instance:Rp Prt where
  isAgg:=true
  size:=1
  R w F cs x:=cs=[.int .i64 x.op]∧inI64 x.op
  len:=by rintro w F cs x ⟨rfl,h0⟩;rfl
  one:=by rintro w F cs x ⟨rfl,h0⟩ u hu;simp at hu;rcases hu with rfl<;>first|rfl|exact Vb.one rfl (by assumption)
  agree:=by rintro w w' F cs x ⟨rfl,h0⟩ ha;exact ⟨rfl,h0⟩
  mono:=by rintro w F G cs x ⟨rfl,h0⟩ ha;exact ⟨rfl,h0⟩
noncomputable def Dt (x0:Opr) (x1:Int) (x2:Int):Option Opr :=
  bnd (Bj x0.pre) fun q25=>bnd (appI 16 q25 [(⟨x1,x2⟩:Fct)]) fun u35=>bnd (Bx x0.effs) fun q49=>bnd (chkI (x2 + 1)) fun n59=>bnd (appI 40 q49 [(⟨([]:List Fct),x1,n59⟩:Eff)]) fun u62=>some (⟨x0.name,x0.cost,u35,u62⟩:Opr)
theorem GT {w:World} {A:Nat→Prop} (hA:∀ k,A k→k < w.heap.size) {vx0:Value} {x0:Opr} (p0:Vb w A vx0 x0) {x1:Int} (rx1:inI64 x1) {x2:Int} (rx2:inI64 x2) {r:Opr} (hm:Dt x0 x1 x2=some r) :
    Fn Tryz.prog 53 [vx0,(.int .i64 x1),(.int .i64 x2)] w fun v w'=>Ext w w'∧OprS w w' (upA A w w') 64 v r:=by
 obtain ⟨O,hB,i1⟩:=enter hA
 replace p0:=p0.mono i1
 obtain ⟨b2,rfl,v5,v6,rfl,h7,d0,j1,k1⟩:=p0
 obtain ⟨A8,c9,rfl⟩:=h7.form
 obtain ⟨b1,c1,rfl⟩:=d0.form
 refine AH Tryz.func53 rfl Tryz.ntmps53 rfl ?_
 unfold Dt at hm
 refine Al (Aj (Da 2 O rfl rfl fun q0 l1 d1 r0 a0=>?_))
 replace a0:Lc 2 l1 d1 q0 67 [(.string x0.name),(.int .i64 x0.cost),(.slice A8 x0.pre.length c9),(.slice b1 x0.effs.length c1)]:=a0
 refine BD 3 d1 rfl fun m1 c2 n1 e0 b0=>?_
 refine o_z ?_
 refine Al (Aj (AG rfl rfl ?_))
 replace a0:=a0.st e0
 refine AE (hc:=Blk.cell (i:=2) (a0.1) rfl) rfl rfl ?_
 obtain ⟨d2,o1,hm⟩:=bs hm
 replace h7:=(h7.st r0).st e0
 refine DG 4 (by decide) (O:=n1) (Cz Fr.lt h7 o1) rfl rfl fun e2 f2 g2 h2 f0 p1=>?_
 refine Ar rfl rfl (Ar rfl rfl (Cw rfl rfl rfl ?_))
 obtain ⟨g0,s0,hm⟩:=bs hm
 obtain ⟨s0,q1,r1⟩:=AU s0
 refine CP rfl (a:=(⟨x1,x2⟩:Fct)) p1 (Vb.ofAgg (cs:=[(.int .i64 x1),(.int .i64 x2)]) (x:=(⟨x1,x2⟩:Fct)) rfl ⟨rfl,rx1,rx2⟩) (fun _=>rfl) rfl (by decide) (by decide) q1 r1 ⟨rfl,rfl⟩ fun i2 h0 i0 j2 e1 j0 c0=>?_
 rw [← s0] at c0 ⊢
 refine AG rfl rfl ?_
 replace a0:=(a0.st f0).st j0
 refine AR a0 rfl rfl rfl (Ba rfl) (allOne rfl) fun s1 k0 a0=>?_
 replace a0:Lc 2 s1 e1 q0 67 [(.string x0.name),(.int .i64 x0.cost),(.slice h0 g0.length i0),(.slice b1 x0.effs.length c1)]:=a0
 refine o_z ?_
 refine Al (Aj (AG rfl rfl (AE (hc:=Blk.cell (i:=3) (a0.1) rfl) rfl rfl ?_)))
 obtain ⟨k2,t1,hm⟩:=bs hm
 replace d0:=((((d0.st r0).st e0).st f0).st j0).st k0
 refine DG 5 (by decide) (O:=e1) (DF Fr.lt d0 t1) rfl rfl fun l2 m2 n2 o2 l0 u1=>?_
 refine Ar rfl rfl (Ar rfl rfl ?_)
 obtain ⟨t0,f1,hm⟩:=bs hm
 have v1:=(AW f1)
 refine Dv (he:=f1) rfl rfl rfl ?_
 refine Cw rfl rfl rfl ?_
 obtain ⟨u0,v0,hm⟩:=bs hm
 obtain ⟨v0,w1,y1⟩:=AU v0
 refine CP rfl (a:=(⟨([]:List Fct),x1,t0⟩:Eff)) u1 (Vb.ofAgg (cs:=[(.slice none 0 0),(.int .i64 x1),(.int .i64 t0)]) (x:=(⟨([]:List Fct),x1,t0⟩:Eff)) rfl ⟨_,rfl,(Vb.nil _ _),rx1,v1⟩) (fun _=>rfl) rfl (by decide) (by decide) w1 y1 ⟨rfl,rfl⟩ fun p2 w0 y0 q2 g1 m0 n0=>?_
 rw [← v0] at n0 ⊢
 refine AG rfl rfl ?_
 replace a0:=(a0.st l0).st m0
 refine AR a0 rfl rfl rfl (Ba rfl) (allOne rfl) fun z1 o0 a0=>?_
 replace a0:Lc 2 z1 g1 q0 67 [(.string x0.name),(.int .i64 x0.cost),(.slice h0 g0.length i0),(.slice w0 u0.length y0)]:=a0
 refine o_z ?_
 refine Al (Aj (Bk (hl:=rfl) (hc:=(a0.1).cellsAt) rfl rfl ?_))
 replace b0:=(((((b0.st f0).st j0).st k0).st l0).st m0).st o0
 refine AR b0 rfl rfl rfl (Ba rfl) (allOne rfl) fun h1 z0 b0=>?_
 replace b0:Lc 3 h1 g1 m1 67 [(.string x0.name),(.int .i64 x0.cost),(.slice h0 g0.length i0),(.slice w0 u0.length y0)]:=b0
 refine o_z ?_
 refine AK ?_
 replace c0:=((((c0.st k0).st l0).st m0).st o0).st z0
 obtain ⟨a2,a1,c0⟩:=c0.freeze
 obtain rfl:=sm hm
 replace hB:=(((((((((hB.st r0).st e0).st f0).st j0).st k0).st l0).st m0).st o0).st z0).st a1
 replace b0:=b0.st a1
 replace n0:=((n0.st o0).st z0).st a1
 exact ret1v rfl (BM (cs:=[(.string x0.name),(.int .i64 x0.cost),(.slice h0 g0.length i0),(.slice w0 u0.length y0)]) rfl rfl b0.1.cellsAt) ⟨hB.ext,Fr 0 h1 a2,_,_,fun k hk=>⟨hB.out k hk,hk.1⟩,rfl,c0,j1,k1,n0.outO hB (by decide)⟩
noncomputable def Cd (x0:Tsk) (x1:List ByteArray) (x2:Int):Option (Tsk×(List Prt)×Err) :=
  bnd (Df x0) fun q33=>if q33.n≠0 then (some ((⟨([]:List Int),([]:List Int),([]:List Fct),([]:List Opr)⟩:Tsk),([]:List Prt),(⟨q33.n⟩:Err))) else (bnd (if x2 < 0 then (some true) else (if 1000 < x2 then (some true) else (some false)):Option Bool) fun y44=>if y44=true then (some ((⟨([]:List Int),([]:List Int),([]:List Fct),([]:List Opr)⟩:Tsk),([]:List Prt),(⟨1⟩:Err))) else (if 63 < (x1.length:Int) then (some ((⟨([]:List Int),([]:List Int),([]:List Fct),([]:List Opr)⟩:Tsk),([]:List Prt),(⟨5⟩:Err))) else (bnd (chkI ((x1.length:Int) + 1)) fun n64=>bnd (BT x0.vars) fun q66=>bnd (appI 8 q66 ([n64]:List Int)) fun u68=>bnd (BT x0.init) fun q70=>bnd (appI 8 q70 ([0]:List Int)) fun u72=>bnd (Bj x0.goal) fun q74=>bnd (appI 16 q74 ([(⟨(x0.vars.length:Int),(x1.length:Int)⟩:Fct)]:List Fct)) fun u76=>bnd (some (u68,u72,u76):Option ((List Int)×(List Int)×(List Fct))) fun y78=>bnd (rng (ρ:=Tsk×(List Prt)×Err) (fun (k214:Nat) (a215:Opr) (s212:(List Prt)×(List Opr))=>bnd (chkI (a215.cost + x2)) fun n257=>bnd (Bj a215.pre) fun q262=>bnd (Bx a215.effs) fun q272=>bnd (appI 72 s212.2 [(⟨a215.name,n257,q262,q272⟩:Opr)]) fun u288=>bnd (appI 8 s212.1 [(⟨(k214:Int)⟩:Prt)]) fun u300=>some (.next (u300,u288))) x0.ops 0 (([]:List Prt),([]:List Opr))) fun res210=>fin res210 fun (s318:(List Prt)×(List Opr))=>bnd (rng (ρ:=Tsk×(List Prt)×Err) (fun (k326:Nat) (a327:ByteArray) (s324:(List Prt)×(List Opr))=>bnd (rng (ρ:=Ctl ((List Prt)×(List Opr)) (Tsk×(List Prt)×Err)) (fun (k359:Nat) (a360:Opr) (s357:(List Prt)×(List Opr))=>if a360.name=a327 then (bnd (Dt a360 (x0.vars.length:Int) (k326:Int)) fun q403=>bnd (appI 72 s357.2 [q403]) fun u405=>bnd (appI 8 s357.1 [(⟨(k359:Int)⟩:Prt)]) fun u407=>some (.next (u407,u405))) else (some (.next (s357.1,s357.2)))) x0.ops 0 (s324.1,s324.2)) fun res355=>fin res355 fun (s563:(List Prt)×(List Opr))=>bnd (Dt (⟨(⟨#[]⟩:ByteArray),x2,([]:List Fct),([]:List Eff)⟩:Opr) (x0.vars.length:Int) (k326:Int)) fun q565=>bnd (appI 72 s563.2 [q565]) fun u587=>bnd (appI 8 s563.1 [(⟨(-1)⟩:Prt)]) fun u600=>if 4096 < (u587.length:Int) then (some (.brk (u600,u587))) else (some (.next (u600,u587)))) x1 0 (s318.1,s318.2)) fun res322=>fin res322 fun (s619:(List Prt)×(List Opr))=>bnd (rngN (ρ:=Tsk×(List Prt)×Err) (fun (k627:Nat) (s625:(List Opr))=>bnd (s625[k627]?) fun a646=>bnd (CJ a646.effs) fun q663=>bnd (s625[k627]?) fun a671=>some (.next (s625.set k627 ({ a671 with effs:=q663 }:Opr)))) s619.2.length s619.2) fun res623=>fin res623 fun (s688:(List Opr))=>bnd (Df (⟨y78.1,y78.2.1,y78.2.2,s688⟩:Tsk)) fun q698=>if q698.n≠0 then (some ((⟨([]:List Int),([]:List Int),([]:List Fct),([]:List Opr)⟩:Tsk),([]:List Prt),(⟨q698.n⟩:Err))) else (some ((⟨y78.1,y78.2.1,y78.2.2,s688⟩:Tsk),s619.1,(⟨0⟩:Err))))))
set_option maxHeartbeats 1000000 in
theorem KB {w:World} {A:Nat→Prop} (hA:∀ k,A k→k < w.heap.size) {vx0:Value} {x0:Tsk} (fC:Vb w A vx0 x0) {vx1:Value} {x1:List ByteArray} (r0:Vb w A vx1 x1) {x2:Int} (rx2:inI64 x2) {r:Tsk×(List Prt)×Err} (hm:Cd x0 x1 x2=some r) :
    Fn Tryz.prog 30 [vx0,vx1,(.int .i64 x2)] w fun v w'=>Ext w w'∧T3 w' (upA A w w') v r:=by
 obtain ⟨O,hB,oH⟩:=enter hA
 replace fC:=fC.mono oH
 obtain ⟨rN,rfl,v5,v6,v7,v8,rfl,h9,n1,o1,y0⟩:=fC
 obtain ⟨i4,j4,rfl⟩:=h9.form
 obtain ⟨y3,z3,rfl⟩:=n1.form
 obtain ⟨o3,p3,rfl⟩:=o1.form
 obtain ⟨k4,l4,rfl⟩:=y0.form
 replace r0:=r0.mono oH
 obtain ⟨f3,g3,rfl⟩:=r0.form
 refine AH Tryz.func30 rfl Tryz.ntmps30 rfl ?_
 unfold Cd at hm
 refine Al (Aj (Da 2 O rfl rfl fun e3 gI pH x4 w0=>?_))
 replace w0:Lc 2 gI pH e3 26 [(.slice i4 x0.vars.length j4),(.slice y3 x0.init.length z3),(.slice o3 x0.goal.length p3),(.slice k4 x0.ops.length l4)]:=w0
 refine BD 3 pH rfl fun f1 qH rH v4 g0=>?_
 refine Au rfl rfl (Au rfl rfl (o_z ?_))
 refine Al (Al (Aj ?_))
 replace w0:=w0.st v4
 refine Bk (hl:=rfl) (hc:=(w0.1).cellsAt) rfl rfl ?_
 obtain ⟨hI,iI,hm⟩:=bs hm
 replace h9:=(h9.st x4).st v4
 replace n1:=(n1.st x4).st v4
 replace o1:=(o1.st x4).st v4
 replace y0:=(y0.st x4).st v4
 refine BE (O:=rH) (A:=All qH) (R:=fun w' F v=>Vb w' F v hI) (Jv (fun _ h=>h) (Vb.mono (F:=Fr 0 qH rH) (Vb.ofAgg (cs:=[(.slice i4 x0.vars.length j4),(.slice y3 x0.init.length z3),(.slice o3 x0.goal.length p3),(.slice k4 x0.ops.length l4)]) (x:=x0) rfl ⟨_,_,_,_,rfl,h9,n1,o1,y0⟩) Fr.lt) iI) rfl rfl fun sN tN gC v1 jI=>?_
 obtain ⟨rfl,kI⟩:=jI.err
 refine Au rfl rfl (o_z ?_)
 refine Al (Aj (Ar rfl rfl (ER rfl rfl (fun hC=>?_) fun hC=>?_)))
 ·
  replace hm:=ip hm hC
  refine o_z ?_
  refine Ah rfl (Al (Aj (Cw rfl rfl rfl ?_)))
  refine Ar rfl rfl ?_
  replace g0:=g0.st v1
  refine AR g0 rfl rfl rfl (Ba rfl) (allOne rfl) fun iC lI g0=>?_
  replace g0:Lc 3 iC gC f1 26 [(.slice none 0 0),(.slice none 0 0),(.slice none 0 0),(.slice none 0 0)]:=g0
  refine Au rfl rfl (Au rfl rfl (o_z ?_))
  refine AK ?_
  obtain rfl:=sm hm
  replace hB:=(((hB.st x4).st v4).st v1).st lI
  exact ret3 rfl (BM (cs:=[(.slice none 0 0),(.slice none 0 0),(.slice none 0 0),(.slice none 0 0)]) rfl rfl g0.1.cellsAt) (AB rfl) (AB rfl) ⟨hB.ext,_,_,_,rfl,(Vb.mono (F:=Fr 0 iC gC) (Vb.ofAgg (cs:=[(.slice none 0 0),(.slice none 0 0),(.slice none 0 0),(.slice none 0 0)]) (x:=(⟨([]:List Int),([]:List Int),([]:List Fct),([]:List Opr)⟩:Tsk)) rfl ⟨_,_,_,_,rfl,(Vb.nil _ _),(Vb.nil _ _),(Vb.nil _ _),(Vb.nil _ _)⟩) hB.out),(Vb.mono (F:=Fr 0 iC gC) (Vb.nil _ _) hB.out),(vErr kI)⟩
 replace hm:=im hm hC
 refine o_z ?_
 refine Ae rfl (AO (Al (Al ?_)))
 obtain ⟨mI,u3,hm⟩:=bs hm
 refine AL (fun l' w'=>∃ (nI:Unit) (O':Lab),subs l' [(1,(.slice f3 x1.length g3)),(2,(.int .i64 x2)),(3,(.pointer (some ⟨e3,0,none⟩))),(6,(.pointer (some ⟨f1,0,none⟩))),(32,(.bool mI))]∧Bs w A w' O'∧Vb w' (Fr 0 w' O') (.slice f3 x1.length g3) x1∧Lc 2 w' O' e3 26 [(.slice i4 x0.vars.length j4),(.slice y3 x0.init.length z3),(.slice o3 x0.goal.length p3),(.slice k4 x0.ops.length l4)]∧Vb w' (Fr 0 w' O') (.slice i4 x0.vars.length j4) x0.vars∧Vb w' (Fr 0 w' O') (.slice y3 x0.init.length z3) x0.init∧Vb w' (Fr 0 w' O') (.slice o3 x0.goal.length p3) x0.goal∧Vb w' (Fr 0 w' O') (.slice k4 x0.ops.length l4) x0.ops∧Lc 3 w' O' f1 26 [(.slice none 0 0),(.slice none 0 0),(.slice none 0 0),(.slice none 0 0)]) ?_ ?_
 ·
  refine Aj (Ar rfl rfl (DM rfl rfl rfl (fun jC=>?_) fun jC=>?_))
  ·
   replace u3:=ip u3 jC
   refine Ar rfl rfl (At rfl rfl rfl rfl (At rfl rfl rfl rfl (AX rfl rfl rfl (o_z ?_))))
   obtain rfl:=sm u3
   exact ⟨(),_,⟨rfl,rfl,rfl,rfl,rfl,trivial⟩,((hB.st x4).st v4).st v1,((r0.st x4).st v4).st v1,w0.st v1,h9.st v1,n1.st v1,o1.st v1,y0.st v1,g0.st v1⟩
  replace u3:=im u3 jC
  refine Ar rfl rfl (Ay rfl rfl (Ar rfl rfl (Ay rfl rfl (Ce rfl rfl rfl (fun kC=>?_) fun kC=>?_))))
  ·
   replace u3:=ip u3 kC
   refine AT rfl rfl rfl (o_z ?_)
   obtain rfl:=sm u3
   exact ⟨(),_,⟨rfl,rfl,rfl,rfl,rfl,trivial⟩,((hB.st x4).st v4).st v1,((r0.st x4).st v4).st v1,w0.st v1,h9.st v1,n1.st v1,o1.st v1,y0.st v1,g0.st v1⟩
  replace u3:=im u3 kC
  refine AT rfl rfl rfl (o_z ?_)
  obtain rfl:=sm u3
  exact ⟨(),_,⟨rfl,rfl,rfl,rfl,rfl,trivial⟩,((hB.st x4).st v4).st v1,((r0.st x4).st v4).st v1,w0.st v1,h9.st v1,n1.st v1,o1.st v1,y0.st v1,g0.st v1⟩
 replace hB:=((hB.st x4).st v4).st v1
 replace r0:=((r0.st x4).st v4).st v1
 replace h9:=h9.st v1
 replace n1:=n1.st v1
 replace o1:=o1.st v1
 replace y0:=y0.st v1
 replace w0:=w0.st v1
 replace g0:=g0.st v1
 rintro uN vN ⟨nI,k6,lC,hB,r0,w0,h9,n1,o1,y0,g0⟩
 refine AQ _ lC ?_
 refine CN rfl (fun mC=>?_) (fun mC=>?_)
 ·
  replace hm:=ip hm mC
  refine Al (Aj (Cw rfl rfl rfl ?_))
  refine EQ rfl rfl ?_
  refine AR g0 rfl rfl rfl (Ba rfl) (allOne rfl) fun nC oI g0=>?_
  replace g0:Lc 3 nC k6 f1 26 [(.slice none 0 0),(.slice none 0 0),(.slice none 0 0),(.slice none 0 0)]:=g0
  refine Au rfl rfl (Au rfl rfl (o_z ?_))
  refine AK ?_
  obtain rfl:=sm hm
  replace hB:=hB.st oI
  exact ret3 rfl (BM (cs:=[(.slice none 0 0),(.slice none 0 0),(.slice none 0 0),(.slice none 0 0)]) rfl rfl g0.1.cellsAt) (AB rfl) (AB rfl) ⟨hB.ext,_,_,_,rfl,(Vb.mono (F:=Fr 0 nC k6) (Vb.ofAgg (cs:=[(.slice none 0 0),(.slice none 0 0),(.slice none 0 0),(.slice none 0 0)]) (x:=(⟨([]:List Int),([]:List Int),([]:List Fct),([]:List Opr)⟩:Tsk)) rfl ⟨_,_,_,_,rfl,(Vb.nil _ _),(Vb.nil _ _),(Vb.nil _ _),(Vb.nil _ _)⟩) hB.out),(Vb.mono (F:=Fr 0 nC k6) (Vb.nil _ _) hB.out),(vErr (by decide))⟩
 replace hm:=im' hm mC
 refine AO (Al (Al (Aj (Ar rfl rfl (AP rfl rfl ?_)))))
 have pI:x1.length≤9223372036854775807:=Nat.le_trans r0.len.2.1 r0.len.2.2
 have wN:inI64 (x1.length:Int):=rngNat pI
 refine Ce rfl rfl rfl (fun oC=>?_) fun oC=>?_
 ·
  replace hm:=ip hm oC
  refine o_z ?_
  refine Ah rfl (Al (Aj (Cw rfl rfl rfl ?_)))
  refine EQ rfl rfl ?_
  refine AR g0 rfl rfl rfl (Ba rfl) (allOne rfl) fun pC qI g0=>?_
  replace g0:Lc 3 pC k6 f1 26 [(.slice none 0 0),(.slice none 0 0),(.slice none 0 0),(.slice none 0 0)]:=g0
  refine Au rfl rfl (Au rfl rfl (o_z ?_))
  refine AK ?_
  obtain rfl:=sm hm
  replace hB:=hB.st qI
  exact ret3 rfl (BM (cs:=[(.slice none 0 0),(.slice none 0 0),(.slice none 0 0),(.slice none 0 0)]) rfl rfl g0.1.cellsAt) (AB rfl) (AB rfl) ⟨hB.ext,_,_,_,rfl,(Vb.mono (F:=Fr 0 pC k6) (Vb.ofAgg (cs:=[(.slice none 0 0),(.slice none 0 0),(.slice none 0 0),(.slice none 0 0)]) (x:=(⟨([]:List Int),([]:List Int),([]:List Fct),([]:List Opr)⟩:Tsk)) rfl ⟨_,_,_,_,rfl,(Vb.nil _ _),(Vb.nil _ _),(Vb.nil _ _),(Vb.nil _ _)⟩) hB.out),(Vb.mono (F:=Fr 0 pC k6) (Vb.nil _ _) hB.out),(vErr (by decide))⟩
 replace hm:=im hm oC
 refine o_z ?_
 refine Ae rfl (AO (Al (Aj (AG rfl rfl (AE (hc:=Blk.cell (i:=0) (w0.1) rfl) rfl rfl ?_)))))
 refine AP rfl rfl ?_
 have rI:x0.vars.length≤9223372036854775807:=Nat.le_trans h9.len.2.1 h9.len.2.2
 have wB:inI64 (x0.vars.length:Int):=rngNat rI
 refine Au rfl rfl (o_z ?_)
 refine Al ?_
 obtain ⟨m5,sH,hm⟩:=bs hm
 obtain ⟨tH,sI,hm⟩:=bs hm
 obtain ⟨d5,qC,hm⟩:=bs hm
 obtain ⟨uH,tI,hm⟩:=bs hm
 obtain ⟨l6,rC,hm⟩:=bs hm
 obtain ⟨vH,uI,hm⟩:=bs hm
 obtain ⟨sC,tC,hm⟩:=bs hm
 obtain ⟨d0,i8,hm⟩:=bs hm
 refine AL (fun l' w'=>∃ (a0:Nat×(Option Addr×Nat)×(Option Addr×Nat)×(Option Addr×Nat)) (O':Lab),subs l' [(1,(.slice f3 x1.length g3)),(2,(.int .i64 x2)),(3,(.pointer (some ⟨e3,0,none⟩))),(6,(.pointer (some ⟨f1,0,none⟩))),(10,(.int .i64 (x0.vars.length:Int))),(11,(.pointer (some ⟨a0.1,0,none⟩)))]∧Bs w A w' O'∧Vb w' (Fr 0 w' O') (.slice f3 x1.length g3) x1∧Lc 2 w' O' e3 26 [(.slice i4 x0.vars.length j4),(.slice y3 x0.init.length z3),(.slice o3 x0.goal.length p3),(.slice k4 x0.ops.length l4)]∧Vb w' (Fr 0 w' O') (.slice i4 x0.vars.length j4) x0.vars∧Vb w' (Fr 0 w' O') (.slice y3 x0.init.length z3) x0.init∧Vb w' (Fr 0 w' O') (.slice o3 x0.goal.length p3) x0.goal∧Vb w' (Fr 0 w' O') (.slice k4 x0.ops.length l4) x0.ops∧Lc 3 w' O' f1 26 [(.slice none 0 0),(.slice none 0 0),(.slice none 0 0),(.slice none 0 0)]∧Lc 7 w' O' a0.1 26 [(.slice a0.2.1.1 d0.1.length a0.2.1.2),(.slice a0.2.2.1.1 d0.2.1.length a0.2.2.1.2),(.slice a0.2.2.2.1 d0.2.2.length a0.2.2.2.2),(.slice none 0 0)]∧Rw 8 w' O' 3 (.slice a0.2.1.1 d0.1.length a0.2.1.2) d0.1∧Rw 9 w' O' 3 (.slice a0.2.2.1.1 d0.2.1.length a0.2.2.1.2) d0.2.1∧Rw 10 w' O' 62 (.slice a0.2.2.2.1 d0.2.2.length a0.2.2.2.2) d0.2.2) ?_ ?_
 ·
  refine BC [(7,[8]),(12,[9]),(21,[10])] k6 ?_
  refine AY (fuel:=20) [] [(0,true),(1,true),(3,true),(4,true),(5,true)] (by kernel_rfl) rfl ?_
  refine Bc rfl rfl rfl (AZ (hc:=fun w' ⟨O',hq⟩=>Blk.cell (i:=0) ((w0.st hq (by decide)).1) rfl) rfl rfl rfl ?_)
  refine AJ rfl rfl rfl (Jp rfl rfl rfl ?_)
  have vI:x1.length≤9223372036854775807:=Nat.le_trans r0.len.2.1 r0.len.2.2
  have xN:inI64 (x1.length:Int):=rngNat vI
  have wI:=(AW sH)
  refine Ey (he:=sH) rfl rfl rfl rfl ?_
  refine AM ?_
  refine AY (fuel:=18) [8] [(8,true),(9,true)] (by kernel_rfl) rfl ?_
  refine Bc rfl rfl rfl (AZ (hc:=fun w' ⟨O',hq⟩=>Blk.cell (i:=1) ((w0.st hq (by decide)).1) rfl) rfl rfl rfl ?_)
  refine AM ?_
  refine AY (fuel:=12) [8,9] [(13,true),(14,true),(16,true),(17,true),(18,true),(19,true)] (by kernel_rfl) rfl ?_
  refine Bc rfl rfl rfl (AZ (hc:=fun w' ⟨O',hq⟩=>Blk.cell (i:=2) ((w0.st hq (by decide)).1) rfl) rfl rfl rfl ?_)
  refine AJ rfl rfl rfl (AJ rfl rfl rfl (Jp rfl rfl rfl ?_))
  have xI:x1.length≤9223372036854775807:=Nat.le_trans r0.len.2.1 r0.len.2.2
  have yI:inI64 (x1.length:Int):=rngNat xI
  refine Gi rfl rfl rfl rfl ?_
  refine AM ?_
  refine ES (z:=(zRow (α:=Int) 6 49 4 3 1 ([m5]:List Int))) [(48,(.int .i64 m5))] (DC (by decide) rfl rfl rfl rfl rfl (fun _ _=>⟨(vInt wI),trivial⟩) (by decide) (by decide) rfl) fun j8=>?_
  refine ES (z:=(zRow (α:=Int) 11 54 5 3 1 ([0]:List Int))) [] (DC (by decide) rfl rfl rfl rfl rfl (fun _ _=>⟨(vInt (show inI64 (0) from by decide)),trivial⟩) (by decide) (by decide) rfl) fun n5=>?_
  refine ES (z:=(zRow (α:=Fct) 20 63 6 62 1 ([(⟨(x0.vars.length:Int),(x1.length:Int)⟩:Fct)]:List Fct))) [(62,(.agg #[(.int .i64 (x0.vars.length:Int)),(.int .i64 (x1.length:Int))]))] (DC (by decide) rfl rfl rfl rfl rfl (fun _ _=>⟨(Vb.ofAgg (cs:=[(.int .i64 (x0.vars.length:Int)),(.int .i64 (x1.length:Int))]) (x:=(⟨(x0.vars.length:Int),(x1.length:Int)⟩:Fct)) rfl ⟨rfl,wB,yI⟩),trivial⟩) (by decide) (by decide) rfl) fun y4=>?_
  refine ES (z:=(zVar 23 11 7 26 [(.slice none 0 0),(.slice none 0 0),(.slice none 0 0),(.slice none 0 0)])) [] (Od rfl rfl rfl) fun z4=>?_
  refine LC (zs:=[(zRow (α:=Int) 6 49 4 3 1 ([m5]:List Int)),(zRow (α:=Int) 11 54 5 3 1 ([0]:List Int)),(zRow (α:=Fct) 20 63 6 62 1 ([(⟨(x0.vars.length:Int),(x1.length:Int)⟩:Fct)]:List Fct)),(zVar 23 11 7 26 [(.slice none 0 0),(.slice none 0 0),(.slice none 0 0),(.slice none 0 0)])]) (fuel:=8) [(1,(.slice f3 x1.length g3)),(2,(.int .i64 x2)),(3,(.pointer (some ⟨e3,0,none⟩))),(6,(.pointer (some ⟨f1,0,none⟩))),(10,(.int .i64 (x0.vars.length:Int))),(44,(.slice i4 x0.vars.length j4)),(48,(.int .i64 m5)),(52,(.slice y3 x0.init.length z3)),(57,(.slice o3 x0.goal.length p3)),(62,(.agg #[(.int .i64 (x0.vars.length:Int)),(.int .i64 (x1.length:Int))]))] ⟨rfl,rfl,rfl,rfl,rfl,rfl,rfl,rfl,rfl,rfl,trivial⟩ rfl (by kernel_rfl) ?_
  refine Dr (m:=2) (by kernel_rfl) rfl (by kernel_rfl) (by kernel_rfl) ⟨⟨_,j8,⟨rfl,trivial⟩⟩,⟨_,n5,trivial⟩,⟨_,y4,⟨rfl,trivial⟩⟩,⟨_,z4,trivial⟩,trivial⟩ fun xB yN uC h3 wH=>?_
  refine Ds [(1,(.slice f3 x1.length g3)),(2,(.int .i64 x2)),(3,(.pointer (some ⟨e3,0,none⟩))),(6,(.pointer (some ⟨f1,0,none⟩))),(10,(.int .i64 (x0.vars.length:Int))),(11,(xB 11)),(44,(.slice i4 x0.vars.length j4)),(48,(.int .i64 m5)),(49,(xB 49)),(52,(.slice y3 x0.init.length z3)),(54,(xB 54)),(57,(.slice o3 x0.goal.length p3)),(62,(.agg #[(.int .i64 (x0.vars.length:Int)),(.int .i64 (x1.length:Int))])),(63,(xB 63))] ⟨rfl,rfl,rfl,rfl,rfl,rfl,rfl,rfl,rfl,rfl,rfl,rfl,rfl,rfl,trivial⟩ ?_
  replace h9:=h9.st h3
  refine DG 8 (by decide) (O:=uC) (En Fr.lt h9 sI) rfl rfl fun k8 l8 zI aJ j2 m6=>?_
  have hZ:=j2.lst [] (fun _ h=>h.elim)
  refine FE (zs':=[(zRow (α:=Int) 6 49 4 3 1 ([m5]:List Int)),(zRow (α:=Int) 11 54 5 3 1 ([0]:List Int)),(zRow (α:=Fct) 20 63 6 62 1 ([(⟨(x0.vars.length:Int),(x1.length:Int)⟩:Fct)]:List Fct)),(zVar 23 11 7 26 [(.slice none 0 0),(.slice none 0 0),(.slice none 0 0),(.slice none 0 0)])]) [(7,[8]),(12,[9]),(21,[10])] [(1,(.slice f3 x1.length g3)),(2,(.int .i64 x2)),(3,(.pointer (some ⟨e3,0,none⟩))),(6,(.pointer (some ⟨f1,0,none⟩))),(10,(.int .i64 (x0.vars.length:Int))),(45,(.slice k8 tH.length l8)),(48,(.int .i64 m5)),(52,(.slice y3 x0.init.length z3)),(57,(.slice o3 x0.goal.length p3)),(62,(.agg #[(.int .i64 (x0.vars.length:Int)),(.int .i64 (x1.length:Int))]))] (by kernel_rfl) hZ (by kernel_rfl) ⟨rfl,rfl,rfl,rfl,trivial⟩ ⟨rfl,rfl,rfl,rfl,rfl,rfl,rfl,rfl,rfl,rfl,trivial⟩ ?_
  refine Dr (m:=7) (by kernel_rfl) rfl (by kernel_rfl) (by kernel_rfl) ⟨⟨_,j8,⟨rfl,trivial⟩⟩,⟨_,n5,trivial⟩,⟨_,y4,⟨rfl,trivial⟩⟩,⟨_,z4,trivial⟩,trivial⟩ fun n6 bJ cJ k2 m8=>?_
  obtain ⟨vC,wC,xC⟩:=m8.1 (by kernel_rfl)
  refine Ds [(1,(.slice f3 x1.length g3)),(2,(.int .i64 x2)),(3,(.pointer (some ⟨e3,0,none⟩))),(6,(.pointer (some ⟨f1,0,none⟩))),(10,(.int .i64 (x0.vars.length:Int))),(11,(n6 11)),(45,(.slice k8 tH.length l8)),(48,(.int .i64 m5)),(49,(.slice (some ⟨vC,0,none⟩) ([m5]:List Int).length 1)),(52,(.slice y3 x0.init.length z3)),(54,(n6 54)),(57,(.slice o3 x0.goal.length p3)),(62,(.agg #[(.int .i64 (x0.vars.length:Int)),(.int .i64 (x1.length:Int))])),(63,(n6 63))] ⟨rfl,rfl,rfl,rfl,rfl,rfl,rfl,rfl,(congrArg some wC),rfl,rfl,rfl,rfl,rfl,trivial⟩ ?_
  obtain ⟨qC,yC,zC⟩:=AU qC
  replace m6:=m6.st k2
  refine Bw rfl m6 (xC.rd) rfl rfl (by decide) yC zC rfl fun i3 j3 dJ eJ l2 o6=>?_
  rw [← qC] at o6 ⊢
  have hZ:=l2.lst [8] (fun _ h=>by cases h;decide)
  refine FE (zs':=[(zRow (α:=Int) 11 54 5 3 1 ([0]:List Int)),(zRow (α:=Fct) 20 63 6 62 1 ([(⟨(x0.vars.length:Int),(x1.length:Int)⟩:Fct)]:List Fct)),(zVar 23 11 7 26 [(.slice none 0 0),(.slice none 0 0),(.slice none 0 0),(.slice none 0 0)])]) [(12,[9]),(21,[10])] [(1,(.slice f3 x1.length g3)),(2,(.int .i64 x2)),(3,(.pointer (some ⟨e3,0,none⟩))),(6,(.pointer (some ⟨f1,0,none⟩))),(10,(.int .i64 (x0.vars.length:Int))),(50,(.slice i3 d5.length j3)),(52,(.slice y3 x0.init.length z3)),(57,(.slice o3 x0.goal.length p3)),(62,(.agg #[(.int .i64 (x0.vars.length:Int)),(.int .i64 (x1.length:Int))]))] (by kernel_rfl) hZ (by kernel_rfl) ⟨rfl,rfl,rfl,trivial⟩ ⟨rfl,rfl,rfl,rfl,rfl,rfl,rfl,rfl,rfl,trivial⟩ ?_
  refine Dr (m:=10) (by kernel_rfl) rfl (by kernel_rfl) (by kernel_rfl) ⟨⟨_,n5,trivial⟩,⟨_,y4,⟨rfl,trivial⟩⟩,⟨_,z4,trivial⟩,trivial⟩ fun p6 fJ aD w1 xH=>?_
  refine Ds [(1,(.slice f3 x1.length g3)),(2,(.int .i64 x2)),(3,(.pointer (some ⟨e3,0,none⟩))),(6,(.pointer (some ⟨f1,0,none⟩))),(10,(.int .i64 (x0.vars.length:Int))),(11,(p6 11)),(50,(.slice i3 d5.length j3)),(52,(.slice y3 x0.init.length z3)),(54,(p6 54)),(57,(.slice o3 x0.goal.length p3)),(62,(.agg #[(.int .i64 (x0.vars.length:Int)),(.int .i64 (x1.length:Int))])),(63,(p6 63))] ⟨rfl,rfl,rfl,rfl,rfl,rfl,rfl,rfl,rfl,rfl,rfl,rfl,trivial⟩ ?_
  replace n1:=((((n1.st h3).st j2).st k2).st l2).st w1
  refine DG 9 (by decide) (O:=aD) (En Fr.lt n1 tI) rfl rfl fun n8 o8 gJ hJ g1 q6=>?_
  have hZ:=g1.lst [] (fun _ h=>h.elim)
  refine FE (zs':=[(zRow (α:=Int) 11 54 5 3 1 ([0]:List Int)),(zRow (α:=Fct) 20 63 6 62 1 ([(⟨(x0.vars.length:Int),(x1.length:Int)⟩:Fct)]:List Fct)),(zVar 23 11 7 26 [(.slice none 0 0),(.slice none 0 0),(.slice none 0 0),(.slice none 0 0)])]) [(12,[9]),(21,[10])] [(1,(.slice f3 x1.length g3)),(2,(.int .i64 x2)),(3,(.pointer (some ⟨e3,0,none⟩))),(6,(.pointer (some ⟨f1,0,none⟩))),(10,(.int .i64 (x0.vars.length:Int))),(50,(.slice i3 d5.length j3)),(53,(.slice n8 uH.length o8)),(57,(.slice o3 x0.goal.length p3)),(62,(.agg #[(.int .i64 (x0.vars.length:Int)),(.int .i64 (x1.length:Int))]))] (by kernel_rfl) hZ (by kernel_rfl) ⟨rfl,rfl,rfl,trivial⟩ ⟨rfl,rfl,rfl,rfl,rfl,rfl,rfl,rfl,rfl,trivial⟩ ?_
  refine Dr (m:=12) (by kernel_rfl) rfl (by kernel_rfl) (by kernel_rfl) ⟨⟨_,n5,trivial⟩,⟨_,y4,⟨rfl,trivial⟩⟩,⟨_,z4,trivial⟩,trivial⟩ fun p8 iJ jJ h1 q8=>?_
  obtain ⟨bD,cD,dD⟩:=q8.1 (by kernel_rfl)
  refine Ds [(1,(.slice f3 x1.length g3)),(2,(.int .i64 x2)),(3,(.pointer (some ⟨e3,0,none⟩))),(6,(.pointer (some ⟨f1,0,none⟩))),(10,(.int .i64 (x0.vars.length:Int))),(11,(p8 11)),(50,(.slice i3 d5.length j3)),(53,(.slice n8 uH.length o8)),(54,(.slice (some ⟨bD,0,none⟩) ([0]:List Int).length 1)),(57,(.slice o3 x0.goal.length p3)),(62,(.agg #[(.int .i64 (x0.vars.length:Int)),(.int .i64 (x1.length:Int))])),(63,(p8 63))] ⟨rfl,rfl,rfl,rfl,rfl,rfl,rfl,rfl,(congrArg some cD),rfl,rfl,rfl,trivial⟩ ?_
  obtain ⟨rC,eD,fD⟩:=AU rC
  replace q6:=q6.st h1
  refine Bw rfl q6 (dD.rd) rfl rfl (by decide) eD fD rfl fun b4 c4 kJ lJ i1 r6=>?_
  rw [← rC] at r6 ⊢
  have hZ:=i1.lst [9] (fun _ h=>by cases h;decide)
  refine FE (zs':=[(zRow (α:=Fct) 20 63 6 62 1 ([(⟨(x0.vars.length:Int),(x1.length:Int)⟩:Fct)]:List Fct)),(zVar 23 11 7 26 [(.slice none 0 0),(.slice none 0 0),(.slice none 0 0),(.slice none 0 0)])]) [(21,[10])] [(1,(.slice f3 x1.length g3)),(2,(.int .i64 x2)),(3,(.pointer (some ⟨e3,0,none⟩))),(6,(.pointer (some ⟨f1,0,none⟩))),(10,(.int .i64 (x0.vars.length:Int))),(50,(.slice i3 d5.length j3)),(55,(.slice b4 l6.length c4)),(57,(.slice o3 x0.goal.length p3)),(62,(.agg #[(.int .i64 (x0.vars.length:Int)),(.int .i64 (x1.length:Int))]))] (by kernel_rfl) hZ (by kernel_rfl) ⟨rfl,rfl,trivial⟩ ⟨rfl,rfl,rfl,rfl,rfl,rfl,rfl,rfl,rfl,trivial⟩ ?_
  refine Dr (m:=15) (by kernel_rfl) rfl (by kernel_rfl) (by kernel_rfl) ⟨⟨_,y4,⟨rfl,trivial⟩⟩,⟨_,z4,trivial⟩,trivial⟩ fun r8 mJ gD z0 yH=>?_
  refine Ds [(1,(.slice f3 x1.length g3)),(2,(.int .i64 x2)),(3,(.pointer (some ⟨e3,0,none⟩))),(6,(.pointer (some ⟨f1,0,none⟩))),(10,(.int .i64 (x0.vars.length:Int))),(11,(r8 11)),(50,(.slice i3 d5.length j3)),(55,(.slice b4 l6.length c4)),(57,(.slice o3 x0.goal.length p3)),(62,(.agg #[(.int .i64 (x0.vars.length:Int)),(.int .i64 (x1.length:Int))])),(63,(r8 63))] ⟨rfl,rfl,rfl,rfl,rfl,rfl,rfl,rfl,rfl,rfl,rfl,trivial⟩ ?_
  replace o1:=((((((((o1.st h3).st j2).st k2).st l2).st w1).st g1).st h1).st i1).st z0
  refine DG 10 (by decide) (O:=gD) (Cz Fr.lt o1 uI) rfl rfl fun s8 t8 nJ oJ o0 s6=>?_
  have hZ:=o0.lst [] (fun _ h=>h.elim)
  refine FE (zs':=[(zRow (α:=Fct) 20 63 6 62 1 ([(⟨(x0.vars.length:Int),(x1.length:Int)⟩:Fct)]:List Fct)),(zVar 23 11 7 26 [(.slice none 0 0),(.slice none 0 0),(.slice none 0 0),(.slice none 0 0)])]) [(21,[10])] [(1,(.slice f3 x1.length g3)),(2,(.int .i64 x2)),(3,(.pointer (some ⟨e3,0,none⟩))),(6,(.pointer (some ⟨f1,0,none⟩))),(10,(.int .i64 (x0.vars.length:Int))),(50,(.slice i3 d5.length j3)),(55,(.slice b4 l6.length c4)),(58,(.slice s8 vH.length t8)),(62,(.agg #[(.int .i64 (x0.vars.length:Int)),(.int .i64 (x1.length:Int))]))] (by kernel_rfl) hZ (by kernel_rfl) ⟨rfl,rfl,trivial⟩ ⟨rfl,rfl,rfl,rfl,rfl,rfl,rfl,rfl,rfl,trivial⟩ ?_
  refine Dr (m:=21) (by kernel_rfl) rfl (by kernel_rfl) (by kernel_rfl) ⟨⟨_,y4,⟨rfl,trivial⟩⟩,⟨_,z4,trivial⟩,trivial⟩ fun hD pJ qJ p0 u8=>?_
  obtain ⟨iD,jD,kD⟩:=u8.1 (by kernel_rfl)
  refine Ds [(1,(.slice f3 x1.length g3)),(2,(.int .i64 x2)),(3,(.pointer (some ⟨e3,0,none⟩))),(6,(.pointer (some ⟨f1,0,none⟩))),(10,(.int .i64 (x0.vars.length:Int))),(11,(hD 11)),(50,(.slice i3 d5.length j3)),(55,(.slice b4 l6.length c4)),(58,(.slice s8 vH.length t8)),(62,(.agg #[(.int .i64 (x0.vars.length:Int)),(.int .i64 (x1.length:Int))])),(63,(.slice (some ⟨iD,0,none⟩) ([(⟨(x0.vars.length:Int),(x1.length:Int)⟩:Fct)]:List Fct).length 1))] ⟨rfl,rfl,rfl,rfl,rfl,rfl,rfl,rfl,rfl,rfl,(congrArg some jD),trivial⟩ ?_
  obtain ⟨tC,lD,mD⟩:=AU tC
  replace s6:=s6.st p0
  refine Bw rfl s6 (kD.rd) rfl rfl (by decide) lD mD rfl fun e5 f5 rJ w8 q0 t6=>?_
  rw [← tC] at t6 ⊢
  have hZ:=q0.lst [10] (fun _ h=>by cases h;decide)
  refine FE (zs':=[(zVar 23 11 7 26 [(.slice none 0 0),(.slice none 0 0),(.slice none 0 0),(.slice none 0 0)])]) [] [(1,(.slice f3 x1.length g3)),(2,(.int .i64 x2)),(3,(.pointer (some ⟨e3,0,none⟩))),(6,(.pointer (some ⟨f1,0,none⟩))),(10,(.int .i64 (x0.vars.length:Int))),(50,(.slice i3 d5.length j3)),(55,(.slice b4 l6.length c4)),(64,(.slice e5 sC.length f5))] (by kernel_rfl) hZ (by kernel_rfl) ⟨rfl,trivial⟩ ⟨rfl,rfl,rfl,rfl,rfl,rfl,rfl,rfl,trivial⟩ ?_
  refine Pz (by kernel_rfl) (fun sJ x8=>?_) ?_
  ·
   obtain ⟨y8,rfl,g5⟩:=x8
   refine Jt ?_
   refine AY (fuel:=1) [] [(22,true)] (by kernel_rfl) rfl ?_
   refine Gi rfl rfl rfl rfl ?_
   refine AM ?_
   refine Bb (i:=24) (by kernel_rfl) rfl ?_
   refine AR g5 rfl rfl rfl (Ba rfl) (allOne rfl) fun nD v3 g5=>?_
   replace g5:Lc 7 nD w8 y8 26 [(.slice i3 d5.length j3),(.slice b4 l6.length c4),(.slice e5 sC.length f5),(.slice none 0 0)]:=g5
   refine Dm (by kernel_rfl) ?_
   refine Cn (by kernel_rfl) ?_
   obtain rfl:=sm i8
   exact ⟨(y8,(i3,j3),(b4,c4),(e5,f5)),_,⟨rfl,rfl,rfl,rfl,rfl,rfl,trivial⟩,((((((((((((hB.st h3).st j2).st k2).st l2).st w1).st g1).st h1).st i1).st z0).st o0).st p0).st q0).st v3,((((((((((((r0.st h3).st j2).st k2).st l2).st w1).st g1).st h1).st i1).st z0).st o0).st p0).st q0).st v3,((((((((((((w0.st h3).st j2).st k2).st l2).st w1).st g1).st h1).st i1).st z0).st o0).st p0).st q0).st v3,(((((((((((h9.st j2).st k2).st l2).st w1).st g1).st h1).st i1).st z0).st o0).st p0).st q0).st v3,(((((((n1.st g1).st h1).st i1).st z0).st o0).st p0).st q0).st v3,(((o1.st o0).st p0).st q0).st v3,((((((((((((y0.st h3).st j2).st k2).st l2).st w1).st g1).st h1).st i1).st z0).st o0).st p0).st q0).st v3,((((((((((((g0.st h3).st j2).st k2).st l2).st w1).st g1).st h1).st i1).st z0).st o0).st p0).st q0).st v3,g5,((((((((o6.st w1).st g1).st h1).st i1).st z0).st o0).st p0).st q0).st v3,((((r6.st z0).st o0).st p0).st q0).st v3,t6.st v3⟩
  ·
   refine Jt ?_
   refine AY (fuel:=2) [] [(22,true)] (by kernel_rfl) rfl ?_
   refine Gi rfl rfl rfl rfl ?_
   refine AM ?_
   refine Bb (i:=23) (by kernel_rfl) rfl ?_
   refine BD 7 w8 rfl fun z8 tJ oD q3 h5=>?_
   have hZ:=q3.lst [] (fun _ h=>h.elim)
   refine BG [] hZ (by kernel_rfl) ?_
   refine Bb (i:=24) (by kernel_rfl) rfl ?_
   refine AR h5 rfl rfl rfl (Ba rfl) (allOne rfl) fun pD w3 h5=>?_
   replace h5:Lc 7 pD oD z8 26 [(.slice i3 d5.length j3),(.slice b4 l6.length c4),(.slice e5 sC.length f5),(.slice none 0 0)]:=h5
   refine Dm (by kernel_rfl) ?_
   refine Cn (by kernel_rfl) ?_
   obtain rfl:=sm i8
   exact ⟨(z8,(i3,j3),(b4,c4),(e5,f5)),_,⟨rfl,rfl,rfl,rfl,rfl,rfl,trivial⟩,(((((((((((((hB.st h3).st j2).st k2).st l2).st w1).st g1).st h1).st i1).st z0).st o0).st p0).st q0).st q3).st w3,(((((((((((((r0.st h3).st j2).st k2).st l2).st w1).st g1).st h1).st i1).st z0).st o0).st p0).st q0).st q3).st w3,(((((((((((((w0.st h3).st j2).st k2).st l2).st w1).st g1).st h1).st i1).st z0).st o0).st p0).st q0).st q3).st w3,((((((((((((h9.st j2).st k2).st l2).st w1).st g1).st h1).st i1).st z0).st o0).st p0).st q0).st q3).st w3,((((((((n1.st g1).st h1).st i1).st z0).st o0).st p0).st q0).st q3).st w3,((((o1.st o0).st p0).st q0).st q3).st w3,(((((((((((((y0.st h3).st j2).st k2).st l2).st w1).st g1).st h1).st i1).st z0).st o0).st p0).st q0).st q3).st w3,(((((((((((((g0.st h3).st j2).st k2).st l2).st w1).st g1).st h1).st i1).st z0).st o0).st p0).st q0).st q3).st w3,h5,(((((((((o6.st w1).st g1).st h1).st i1).st z0).st o0).st p0).st q0).st q3).st w3,(((((r6.st z0).st o0).st p0).st q0).st q3).st w3,(t6.st q3).st w3⟩
 rintro uJ vJ ⟨a0,qD,a9,hB,r0,w0,h9,n1,o1,y0,g0,f0,j1,a1,b1⟩
 refine AQ _ a9 ?_
 refine Al (Aj (Au rfl rfl (o_z ?_)))
 refine Al (Al (Aj (AG rfl rfl (AE (hc:=Blk.cell (i:=3) (w0.1) rfl) rfl rfl ?_))))
 refine AP rfl rfl ?_
 have u6:x0.ops.length≤9223372036854775807:=Nat.le_trans y0.len.2.1 y0.len.2.2
 have wJ:inI64 (x0.ops.length:Int):=rngNat u6
 refine Ar rfl rfl (o_z ?_)
 obtain ⟨w6,b9,hm⟩:=bs hm
 refine AL (aft w6 (fun (y1:(List Prt)×(List Opr)) (s0:(Option Addr×Nat)×(Option Addr×Nat))=>[(1,(.slice f3 x1.length g3)),(2,(.int .i64 x2)),(3,(.pointer (some ⟨e3,0,none⟩))),(6,(.pointer (some ⟨f1,0,none⟩))),(10,(.int .i64 (x0.vars.length:Int))),(11,(.pointer (some ⟨a0.1,0,none⟩))),(12,(.slice s0.1.1 y1.1.length s0.1.2))]) (fun y1 s0 w'=>∃ O':Lab,Bs w A w' O'∧Vb w' (Fr 0 w' O') (.slice f3 x1.length g3) x1∧Lc 2 w' O' e3 26 [(.slice i4 x0.vars.length j4),(.slice y3 x0.init.length z3),(.slice o3 x0.goal.length p3),(.slice k4 x0.ops.length l4)]∧Vb w' (Fr 0 w' O') (.slice i4 x0.vars.length j4) x0.vars∧Vb w' (Fr 0 w' O') (.slice y3 x0.init.length z3) x0.init∧Vb w' (Fr 0 w' O') (.slice o3 x0.goal.length p3) x0.goal∧Vb w' (Fr 0 w' O') (.slice k4 x0.ops.length l4) x0.ops∧Lc 3 w' O' f1 26 [(.slice none 0 0),(.slice none 0 0),(.slice none 0 0),(.slice none 0 0)]∧Lc 7 w' O' a0.1 26 [(.slice a0.2.1.1 d0.1.length a0.2.1.2),(.slice a0.2.2.1.1 d0.2.1.length a0.2.2.1.2),(.slice a0.2.2.2.1 d0.2.2.length a0.2.2.2.2),(.slice s0.2.1 y1.2.length s0.2.2)]∧Rw 8 w' O' 3 (.slice a0.2.1.1 d0.1.length a0.2.1.2) d0.1∧Rw 9 w' O' 3 (.slice a0.2.2.1.1 d0.2.1.length a0.2.2.1.2) d0.2.1∧Rw 10 w' O' 62 (.slice a0.2.2.2.1 d0.2.2.length a0.2.2.2.2) d0.2.2∧NR Eff 14 w' O' 67 64 (.slice s0.2.1 y1.2.length s0.2.2) y1.2 none∧Rw 15 w' O' 74 (.slice s0.1.1 y1.1.length s0.1.2) y1.1)) ?_ ?_
 ·
  refine AN (Bp (σ:=(List Prt)×(List Opr)) (X:=(Option Addr×Nat)×(Option Addr×Nat)) (x0.ops.length) b9 rfl u6 (fun (y1:(List Prt)×(List Opr)) (s0:(Option Addr×Nat)×(Option Addr×Nat))=>[(1,(.slice f3 x1.length g3)),(2,(.int .i64 x2)),(3,(.pointer (some ⟨e3,0,none⟩))),(6,(.pointer (some ⟨f1,0,none⟩))),(10,(.int .i64 (x0.vars.length:Int))),(11,(.pointer (some ⟨a0.1,0,none⟩))),(12,(.slice s0.1.1 y1.1.length s0.1.2)),(67,(.slice k4 x0.ops.length l4))]) _ (fun y1 s0 w'=>∃ O':Lab,Bs w A w' O'∧Vb w' (Fr 0 w' O') (.slice f3 x1.length g3) x1∧Lc 2 w' O' e3 26 [(.slice i4 x0.vars.length j4),(.slice y3 x0.init.length z3),(.slice o3 x0.goal.length p3),(.slice k4 x0.ops.length l4)]∧Vb w' (Fr 0 w' O') (.slice i4 x0.vars.length j4) x0.vars∧Vb w' (Fr 0 w' O') (.slice y3 x0.init.length z3) x0.init∧Vb w' (Fr 0 w' O') (.slice o3 x0.goal.length p3) x0.goal∧Vb w' (Fr 0 w' O') (.slice k4 x0.ops.length l4) x0.ops∧Lc 3 w' O' f1 26 [(.slice none 0 0),(.slice none 0 0),(.slice none 0 0),(.slice none 0 0)]∧Lc 7 w' O' a0.1 26 [(.slice a0.2.1.1 d0.1.length a0.2.1.2),(.slice a0.2.2.1.1 d0.2.1.length a0.2.2.1.2),(.slice a0.2.2.2.1 d0.2.2.length a0.2.2.2.2),(.slice s0.2.1 y1.2.length s0.2.2)]∧Rw 8 w' O' 3 (.slice a0.2.1.1 d0.1.length a0.2.1.2) d0.1∧Rw 9 w' O' 3 (.slice a0.2.2.1.1 d0.2.1.length a0.2.2.1.2) d0.2.1∧Rw 10 w' O' 62 (.slice a0.2.2.2.1 d0.2.2.length a0.2.2.2.2) d0.2.2∧NR Eff 14 w' O' 67 64 (.slice s0.2.1 y1.2.length s0.2.2) y1.2 none∧Rw 15 w' O' 74 (.slice s0.1.1 y1.1.length s0.1.2) y1.1) _ ((none,0),(none,0)) ⟨qD,hB,r0,w0,h9,n1,o1,y0,g0,f0,j1,a1,b1,(NR.nil 14 (by decide)),(Rw.nil 15 (by decide))⟩ ⟨rfl,rfl,rfl,rfl,rfl,rfl,rfl,rfl,rfl,rfl,trivial⟩ (fun _ _=>⟨rfl,rfl⟩) (fun _ _=>⟨rfl,rfl,rfl,rfl,rfl,rfl,rfl,trivial⟩) (fun _ _ _ ⟨O',hB,r0,w0,h9,n1,o1,y0,g0,f0,j1,a1,b1,n4,o4⟩=>⟨O',hB,r0,w0,h9,n1,o1,y0,g0,f0,j1,a1,b1,n4,o4⟩) ⟨rfl,rfl,rfl⟩ ⟨rfl,rfl⟩ ?_)
  rintro o5 r3 y1 s0 xJ zH f6 ⟨rD,hB,r0,w0,h9,n1,o1,y0,g0,f0,j1,a1,b1,n4,o4⟩ p1 yB zB
  have rk214:inI64 (o5:Int):=rngK f6 u6
  refine Al (Aj (Ar rfl rfl ?_))
  obtain ⟨yJ,zJ,aI,c9,d9,e9,aK,bK,rfl,p5,q5,cK,sD⟩:=y0.elem' f6
  obtain ⟨f9,g9,rfl⟩:=p5.form
  obtain ⟨x6,y6,rfl⟩:=q5.form
  refine Bi (hA:=c9) (hj:=rfl) (hlt:=d9) rfl rfl rfl ?_
  refine Bk (hl:=rfl) (hc:=e9) rfl rfl ?_
  refine BD 11 rD rfl fun r5 dK s5 z1 n0=>?_
  refine Au rfl rfl (AR n0 rfl rfl rfl (Ba rfl) (allOne rfl) fun tD a2 n0=>?_)
  replace n0:Lc 11 tD s5 r5 67 [(.string r3.name),(.int .i64 r3.cost),(.slice f9 r3.pre.length g9),(.slice x6 r3.effs.length y6)]:=n0
  refine o_z ?_
  refine Al (Aj (AG rfl rfl (AE (hc:=Blk.cell (i:=1) (n0.1) rfl) rfl rfl ?_)))
  refine Ar rfl rfl ?_
  obtain ⟨i5,i9,p1⟩:=bs p1
  have uD:=(AW i9)
  refine Dv (he:=i9) rfl rfl rfl ?_
  refine AG rfl rfl (AR n0 rfl rfl rfl (Ba rfl) (allOne rfl) fun vD b2 n0=>?_)
  replace n0:Lc 11 vD s5 r5 67 [(.string r3.name),(.int .i64 i5),(.slice f9 r3.pre.length g9),(.slice x6 r3.effs.length y6)]:=n0
  refine o_z ?_
  refine Al (BC [(7,[11])] s5 ?_)
  refine AY (fuel:=6) [] [(0,true),(1,true),(3,true),(4,true)] (by kernel_rfl) rfl ?_
  refine Bc rfl rfl rfl (AZ (hc:=fun w' ⟨O',hq⟩=>Blk.cell (i:=2) ((n0.st hq (by decide)).1) rfl) rfl rfl rfl ?_)
  refine Bc rfl rfl rfl (AZ (hc:=fun w' ⟨O',hq⟩=>Blk.cell (i:=3) ((n0.st hq (by decide)).1) rfl) rfl rfl rfl ?_)
  refine AM ?_
  refine Bb (i:=2) (by kernel_rfl) rfl ?_
  obtain ⟨t5,wD,p1⟩:=bs p1
  replace p5:=((p5.st z1).st a2).st b2
  refine DG 12 (by decide) (O:=s5) (Cz Fr.lt p5 wD) rfl rfl fun z6 a7 eK xD q1 j5=>?_
  have hZ:=q1.lst [] (fun _ h=>h.elim)
  refine BG [(7,[11])] hZ (by kernel_rfl) ?_
  refine AY (fuel:=4) [] [(6,true)] (by kernel_rfl) rfl ?_
  refine Bc rfl rfl rfl (AM ?_)
  refine Bb (i:=5) (by kernel_rfl) rfl ?_
  obtain ⟨b7,yD,p1⟩:=bs p1
  replace q5:=(((q5.st z1).st a2).st b2).st q1
  refine DG 13 (by decide) (O:=xD) (DF Fr.lt q5 yD) rfl rfl fun j9 k9 fK l9 r1 c7=>?_
  have hZ:=r1.lst [] (fun _ h=>h.elim)
  refine BG [(7,[11])] hZ (by kernel_rfl) ?_
  refine Bb (i:=7) (by kernel_rfl) rfl ?_
  replace n0:=(n0.st q1).st r1
  refine AR n0 rfl rfl rfl (Ba rfl) (allOne rfl) fun zD s1 n0=>?_
  replace n0:Lc 11 zD l9 r5 67 [(.string r3.name),(.int .i64 i5),(.slice z6 t5.length a7),(.slice x6 r3.effs.length y6)]:=n0
  have hZ:=s1.lst [11] (fun _ h=>by cases h;decide)
  refine BG [] hZ (by kernel_rfl) ?_
  refine AY (fuel:=1) [] [(8,true)] (by kernel_rfl) rfl ?_
  refine Bc rfl rfl rfl (AM ?_)
  refine Bb (i:=9) (by kernel_rfl) rfl ?_
  refine AR n0 rfl rfl rfl (Ba rfl) (allOne rfl) fun aE c2 n0=>?_
  replace n0:Lc 11 aE l9 r5 67 [(.string r3.name),(.int .i64 i5),(.slice z6 t5.length a7),(.slice j9 b7.length k9)]:=n0
  refine Dm (by kernel_rfl) ?_
  refine Cn (by kernel_rfl) ?_
  refine Aj (AG rfl rfl ?_)
  replace f0:=((((((f0.st z1).st a2).st b2).st q1).st r1).st s1).st c2
  refine AE (hc:=Blk.cell (i:=3) (f0.1) rfl) rfl rfl ?_
  refine Bk (hl:=rfl) (hc:=(n0.1).cellsAt) rfl rfl ?_
  replace j5:=((j5.st r1).st s1).st c2
  obtain ⟨gK,m2,j5⟩:=j5.freeze
  obtain ⟨bE,d7,p1⟩:=bs p1
  obtain ⟨d7,cE,dE⟩:=AU d7
  replace n4:=(((((((n4.st z1).st a2).st b2).st q1).st r1).st s1).st c2).st m2
  replace c7:=((c7.st s1).st c2).st m2
  refine Py (β:=Eff) (j:=13) (cs:=[(.string r3.name),(.int .i64 i5),(.slice z6 t5.length a7),(.slice j9 b7.length k9)]) (a:=(⟨r3.name,i5,t5,b7⟩:Opr)) rfl rfl n4 rfl rfl (by first|exact allOne rfl|simp [Value.oneCell',Fq]) ⟨_,_,rfl,j5,(Vb.nil _ _),uD,sD⟩ rfl c7 (by decide) (fun _=>rfl) rfl (by decide) (by decide) cE dE ⟨rfl,rfl⟩ fun hK m9 n9 iK jK k3 o9=>?_
  rw [← d7] at o9 ⊢
  refine Ar rfl rfl (Ar rfl rfl (Cw rfl rfl rfl ?_))
  obtain ⟨kK,e7,p1⟩:=bs p1
  obtain ⟨e7,eE,fE⟩:=AU e7
  replace o4:=((((((((o4.st z1).st a2).st b2).st q1).st r1).st s1).st c2).st m2).st k3
  refine CP rfl (a:=(⟨(o5:Int)⟩:Prt)) o4 (Vb.ofAgg (cs:=[(.int .i64 (o5:Int))]) (x:=(⟨(o5:Int)⟩:Prt)) rfl ⟨rfl,rk214⟩) (fun _=>rfl) rfl (by decide) (by decide) eE fE ⟨rfl,rfl⟩ fun lK gE hE mK iE l3 p9=>?_
  rw [← e7] at p9 ⊢
  refine AG rfl rfl ?_
  replace f0:=((f0.st m2).st k3).st l3
  refine AR f0 rfl rfl rfl (Ba rfl) (allOne rfl) fun jE m3 f0=>?_
  replace f0:Lc 7 jE iE a0.1 26 [(.slice a0.2.1.1 d0.1.length a0.2.1.2),(.slice a0.2.2.1.1 d0.2.1.length a0.2.2.1.2),(.slice a0.2.2.2.1 d0.2.2.length a0.2.2.2.2),(.slice m9 bE.length n9)]:=f0
  refine Au rfl rfl (o_z ?_)
  obtain rfl:=sm p1
  exact show Exists _ from ⟨_,((gE,hE),(m9,n9)),rfl,⟨rfl,rfl,rfl,rfl,rfl,rfl,rfl,rfl,rfl,rfl,trivial⟩,_,((((((((((hB.st z1).st a2).st b2).st q1).st r1).st s1).st c2).st m2).st k3).st l3).st m3,((((((((((r0.st z1).st a2).st b2).st q1).st r1).st s1).st c2).st m2).st k3).st l3).st m3,((((((((((w0.st z1).st a2).st b2).st q1).st r1).st s1).st c2).st m2).st k3).st l3).st m3,((((((((((h9.st z1).st a2).st b2).st q1).st r1).st s1).st c2).st m2).st k3).st l3).st m3,((((((((((n1.st z1).st a2).st b2).st q1).st r1).st s1).st c2).st m2).st k3).st l3).st m3,((((((((((o1.st z1).st a2).st b2).st q1).st r1).st s1).st c2).st m2).st k3).st l3).st m3,((((((((((y0.st z1).st a2).st b2).st q1).st r1).st s1).st c2).st m2).st k3).st l3).st m3,((((((((((g0.st z1).st a2).st b2).st q1).st r1).st s1).st c2).st m2).st k3).st l3).st m3,f0,((((((((((j1.st z1).st a2).st b2).st q1).st r1).st s1).st c2).st m2).st k3).st l3).st m3,((((((((((a1.st z1).st a2).st b2).st q1).st r1).st s1).st c2).st m2).st k3).st l3).st m3,((((((((((b1.st z1).st a2).st b2).st q1).st r1).st s1).st c2).st m2).st k3).st l3).st m3,(o9.st l3).st m3,p9.st m3⟩
 rintro nK oK ⟨pK,u5,rfl,q9,kE,hB,r0,w0,h9,n1,o1,y0,g0,f0,j1,a1,b1,n4,o4⟩
 replace hm:=AV hm
 refine AQ _ q9 ?_
 refine Al (Al (Aj (Ar rfl rfl (AP rfl rfl ?_))))
 have f7:x1.length≤9223372036854775807:=Nat.le_trans r0.len.2.1 r0.len.2.2
 have qK:inI64 (x1.length:Int):=rngNat f7
 refine Ar rfl rfl (o_z ?_)
 obtain ⟨g7,r9,hm⟩:=bs hm
 refine AL (aft g7 (fun (d2:(List Prt)×(List Opr)) (k0:(Option Addr×Nat)×(Option Addr×Nat))=>[(6,(.pointer (some ⟨f1,0,none⟩))),(11,(.pointer (some ⟨a0.1,0,none⟩))),(12,(.slice k0.1.1 d2.1.length k0.1.2))]) (fun d2 k0 w'=>∃ O':Lab,Bs w A w' O'∧Lc 3 w' O' f1 26 [(.slice none 0 0),(.slice none 0 0),(.slice none 0 0),(.slice none 0 0)]∧Lc 7 w' O' a0.1 26 [(.slice a0.2.1.1 d0.1.length a0.2.1.2),(.slice a0.2.2.1.1 d0.2.1.length a0.2.2.1.2),(.slice a0.2.2.2.1 d0.2.2.length a0.2.2.2.2),(.slice k0.2.1 d2.2.length k0.2.2)]∧Rw 8 w' O' 3 (.slice a0.2.1.1 d0.1.length a0.2.1.2) d0.1∧Rw 9 w' O' 3 (.slice a0.2.2.1.1 d0.2.1.length a0.2.2.1.2) d0.2.1∧Rw 10 w' O' 62 (.slice a0.2.2.2.1 d0.2.2.length a0.2.2.2.2) d0.2.2∧NR Eff 14 w' O' 67 64 (.slice k0.2.1 d2.2.length k0.2.2) d2.2 none∧Rw 15 w' O' 74 (.slice k0.1.1 d2.1.length k0.1.2) d2.1)) ?_ ?_
 ·
  refine AN (Bp (σ:=(List Prt)×(List Opr)) (X:=(Option Addr×Nat)×(Option Addr×Nat)) (x1.length) r9 rfl f7 (fun (d2:(List Prt)×(List Opr)) (k0:(Option Addr×Nat)×(Option Addr×Nat))=>[(2,(.int .i64 x2)),(3,(.pointer (some ⟨e3,0,none⟩))),(6,(.pointer (some ⟨f1,0,none⟩))),(10,(.int .i64 (x0.vars.length:Int))),(11,(.pointer (some ⟨a0.1,0,none⟩))),(12,(.slice k0.1.1 d2.1.length k0.1.2)),(99,(.slice f3 x1.length g3))]) _ (fun d2 k0 w'=>∃ O':Lab,Bs w A w' O'∧Lc 2 w' O' e3 26 [(.slice i4 x0.vars.length j4),(.slice y3 x0.init.length z3),(.slice o3 x0.goal.length p3),(.slice k4 x0.ops.length l4)]∧Vb w' (Fr 0 w' O') (.slice i4 x0.vars.length j4) x0.vars∧Vb w' (Fr 0 w' O') (.slice y3 x0.init.length z3) x0.init∧Vb w' (Fr 0 w' O') (.slice o3 x0.goal.length p3) x0.goal∧Vb w' (Fr 0 w' O') (.slice k4 x0.ops.length l4) x0.ops∧Lc 3 w' O' f1 26 [(.slice none 0 0),(.slice none 0 0),(.slice none 0 0),(.slice none 0 0)]∧Lc 7 w' O' a0.1 26 [(.slice a0.2.1.1 d0.1.length a0.2.1.2),(.slice a0.2.2.1.1 d0.2.1.length a0.2.2.1.2),(.slice a0.2.2.2.1 d0.2.2.length a0.2.2.2.2),(.slice k0.2.1 d2.2.length k0.2.2)]∧Rw 8 w' O' 3 (.slice a0.2.1.1 d0.1.length a0.2.1.2) d0.1∧Rw 9 w' O' 3 (.slice a0.2.2.1.1 d0.2.1.length a0.2.2.1.2) d0.2.1∧Rw 10 w' O' 62 (.slice a0.2.2.2.1 d0.2.2.length a0.2.2.2.2) d0.2.2∧NR Eff 14 w' O' 67 64 (.slice k0.2.1 d2.2.length k0.2.2) d2.2 none∧Rw 15 w' O' 74 (.slice k0.1.1 d2.1.length k0.1.2) d2.1∧Vb w' (Fr 0 w' O') (.slice f3 x1.length g3) x1) _ ((u5.1.1,u5.1.2),(u5.2.1,u5.2.2)) ⟨kE,hB,w0,h9,n1,o1,y0,g0,f0,j1,a1,b1,n4,o4,r0⟩ ⟨rfl,rfl,rfl,rfl,rfl,rfl,rfl,rfl,rfl,trivial⟩ (fun _ _=>⟨rfl,rfl⟩) (fun _ _=>⟨rfl,rfl,rfl,trivial⟩) (fun _ _ _ ⟨O',hB,w0,h9,n1,o1,y0,g0,f0,j1,a1,b1,p4,n2,r0⟩=>⟨O',hB,g0,f0,j1,a1,b1,p4,n2⟩) ⟨rfl,rfl,rfl⟩ ⟨rfl,rfl⟩ ?_)
  rintro k5 lE d2 k0 rK bI g6 ⟨mE,hB,w0,h9,n1,o1,y0,g0,f0,j1,a1,b1,p4,n2,r0⟩ j0 aC w5
  have rk326:inI64 (k5:Int):=rngK g6 f7
  refine Al (Aj (Ar rfl rfl ?_))
  obtain ⟨sK,tK,cI,s9,t9,u9,rfl,uK⟩:=r0.elem' g6
  refine Bi (hA:=s9) (hj:=rfl) (hlt:=t9) rfl rfl rfl ?_
  refine AE (hc:=cat0 u9) rfl rfl ?_
  refine Au rfl rfl (Au rfl rfl (o_z ?_))
  refine Al (Al (Aj (AG rfl rfl (AE (hc:=Blk.cell (i:=3) (w0.1) rfl) rfl rfl ?_))))
  refine AP rfl rfl ?_
  have h7:x0.ops.length≤9223372036854775807:=Nat.le_trans y0.len.2.1 y0.len.2.2
  have vK:inI64 (x0.ops.length:Int):=rngNat h7
  refine Ar rfl rfl (o_z ?_)
  obtain ⟨i7,v9,j0⟩:=bs j0
  refine AL (aft i7 (fun (e2:(List Prt)×(List Opr)) (l0:(Option Addr×Nat)×(Option Addr×Nat))=>[(2,(.int .i64 x2)),(3,(.pointer (some ⟨e3,0,none⟩))),(6,(.pointer (some ⟨f1,0,none⟩))),(10,(.int .i64 (x0.vars.length:Int))),(11,(.pointer (some ⟨a0.1,0,none⟩))),(12,(.slice l0.1.1 e2.1.length l0.1.2)),(15,(.int .i64 (k5:Int))),(99,(.slice f3 x1.length g3)),(100,(.int .i64 (x1.length:Int))),(101,(.int .i64 (k5:Int)))]) (fun e2 l0 w'=>∃ O':Lab,Bs w A w' O'∧Lc 2 w' O' e3 26 [(.slice i4 x0.vars.length j4),(.slice y3 x0.init.length z3),(.slice o3 x0.goal.length p3),(.slice k4 x0.ops.length l4)]∧Vb w' (Fr 0 w' O') (.slice i4 x0.vars.length j4) x0.vars∧Vb w' (Fr 0 w' O') (.slice y3 x0.init.length z3) x0.init∧Vb w' (Fr 0 w' O') (.slice o3 x0.goal.length p3) x0.goal∧Vb w' (Fr 0 w' O') (.slice k4 x0.ops.length l4) x0.ops∧Lc 3 w' O' f1 26 [(.slice none 0 0),(.slice none 0 0),(.slice none 0 0),(.slice none 0 0)]∧Lc 7 w' O' a0.1 26 [(.slice a0.2.1.1 d0.1.length a0.2.1.2),(.slice a0.2.2.1.1 d0.2.1.length a0.2.2.1.2),(.slice a0.2.2.2.1 d0.2.2.length a0.2.2.2.2),(.slice l0.2.1 e2.2.length l0.2.2)]∧Rw 8 w' O' 3 (.slice a0.2.1.1 d0.1.length a0.2.1.2) d0.1∧Rw 9 w' O' 3 (.slice a0.2.2.1.1 d0.2.1.length a0.2.2.1.2) d0.2.1∧Rw 10 w' O' 62 (.slice a0.2.2.2.1 d0.2.2.length a0.2.2.2.2) d0.2.2∧NR Eff 14 w' O' 67 64 (.slice l0.2.1 e2.2.length l0.2.2) e2.2 none∧Rw 15 w' O' 74 (.slice l0.1.1 e2.1.length l0.1.2) e2.1∧Vb w' (Fr 0 w' O') (.slice f3 x1.length g3) x1)) ?_ ?_
  ·
   refine AN (Bp (σ:=(List Prt)×(List Opr)) (X:=(Option Addr×Nat)×(Option Addr×Nat)) (x0.ops.length) v9 rfl h7 (fun (e2:(List Prt)×(List Opr)) (l0:(Option Addr×Nat)×(Option Addr×Nat))=>[(2,(.int .i64 x2)),(3,(.pointer (some ⟨e3,0,none⟩))),(6,(.pointer (some ⟨f1,0,none⟩))),(10,(.int .i64 (x0.vars.length:Int))),(11,(.pointer (some ⟨a0.1,0,none⟩))),(12,(.slice l0.1.1 e2.1.length l0.1.2)),(15,(.int .i64 (k5:Int))),(16,(.string lE)),(99,(.slice f3 x1.length g3)),(100,(.int .i64 (x1.length:Int))),(101,(.int .i64 (k5:Int))),(107,(.slice k4 x0.ops.length l4))]) _ (fun e2 l0 w'=>∃ O':Lab,Bs w A w' O'∧Lc 2 w' O' e3 26 [(.slice i4 x0.vars.length j4),(.slice y3 x0.init.length z3),(.slice o3 x0.goal.length p3),(.slice k4 x0.ops.length l4)]∧Vb w' (Fr 0 w' O') (.slice i4 x0.vars.length j4) x0.vars∧Vb w' (Fr 0 w' O') (.slice y3 x0.init.length z3) x0.init∧Vb w' (Fr 0 w' O') (.slice o3 x0.goal.length p3) x0.goal∧Vb w' (Fr 0 w' O') (.slice k4 x0.ops.length l4) x0.ops∧Lc 3 w' O' f1 26 [(.slice none 0 0),(.slice none 0 0),(.slice none 0 0),(.slice none 0 0)]∧Lc 7 w' O' a0.1 26 [(.slice a0.2.1.1 d0.1.length a0.2.1.2),(.slice a0.2.2.1.1 d0.2.1.length a0.2.2.1.2),(.slice a0.2.2.2.1 d0.2.2.length a0.2.2.2.2),(.slice l0.2.1 e2.2.length l0.2.2)]∧Rw 8 w' O' 3 (.slice a0.2.1.1 d0.1.length a0.2.1.2) d0.1∧Rw 9 w' O' 3 (.slice a0.2.2.1.1 d0.2.1.length a0.2.2.1.2) d0.2.1∧Rw 10 w' O' 62 (.slice a0.2.2.2.1 d0.2.2.length a0.2.2.2.2) d0.2.2∧NR Eff 14 w' O' 67 64 (.slice l0.2.1 e2.2.length l0.2.2) e2.2 none∧Rw 15 w' O' 74 (.slice l0.1.1 e2.1.length l0.1.2) e2.1∧Vb w' (Fr 0 w' O') (.slice f3 x1.length g3) x1) _ ((k0.1.1,k0.1.2),(k0.2.1,k0.2.2)) ⟨mE,hB,w0,h9,n1,o1,y0,g0,f0,j1,a1,b1,p4,n2,r0⟩ ⟨rfl,rfl,rfl,rfl,rfl,rfl,rfl,rfl,rfl,rfl,rfl,rfl,rfl,rfl,trivial⟩ (fun _ _=>⟨rfl,rfl⟩) (fun _ _=>⟨rfl,rfl,rfl,rfl,rfl,rfl,rfl,rfl,rfl,rfl,trivial⟩) (fun _ _ _ ⟨O',hB,w0,h9,n1,o1,y0,g0,f0,j1,a1,b1,c1,d1,r0⟩=>⟨O',hB,w0,h9,n1,o1,y0,g0,f0,j1,a1,b1,c1,d1,r0⟩) ⟨rfl,rfl,rfl⟩ ⟨rfl,rfl⟩ ?_)
   rintro n3 t2 e2 l0 wK dI h6 ⟨nE,hB,w0,h9,n1,o1,y0,g0,f0,j1,a1,b1,c1,d1,r0⟩ m0 bC cC
   have rk359:inI64 (n3:Int):=rngK h6 h7
   refine Al (Aj (Ar rfl rfl ?_))
   obtain ⟨xK,yK,eI,w9,x9,y9,zK,aL,rfl,q4,r4,z9,aA⟩:=y0.elem' h6
   obtain ⟨j7,k7,rfl⟩:=q4.form
   obtain ⟨l7,m7,rfl⟩:=r4.form
   refine Bi (hA:=w9) (hj:=rfl) (hlt:=x9) rfl rfl rfl ?_
   refine Bk (hl:=rfl) (hc:=y9) rfl rfl ?_
   refine BD 16 nE rfl fun oE bL x5 b0 a5=>?_
   refine Au rfl rfl (AR a5 rfl rfl rfl (Ba rfl) (allOne rfl) fun pE c0 a5=>?_)
   replace a5:Lc 16 pE x5 oE 67 [(.string t2.name),(.int .i64 t2.cost),(.slice j7 t2.pre.length k7),(.slice l7 t2.effs.length m7)]:=a5
   refine o_z ?_
   refine Al (Aj (AG rfl rfl (AE (hc:=Blk.cell (i:=0) (a5.1) rfl) rfl rfl ?_)))
   refine Ar rfl rfl (OI rfl rfl rfl (fun n7=>?_) fun n7=>?_)
   ·
    replace m0:=ip m0 n7
    refine o_z ?_
    refine Ah rfl ?_
    obtain ⟨o2,bA,m0⟩:=bs m0
    obtain ⟨y5,s3,m0⟩:=bs m0
    obtain ⟨cL,t3,m0⟩:=bs m0
    refine BC [(6,[17]),(7,[14,18]),(12,[15]),(14,[7])] x5 ?_
    refine AY (fuel:=13) [] [(2,true),(3,true),(4,true)] (by kernel_rfl) rfl ?_
    refine Hd (hl:=rfl) (hb:=fun w' ⟨O',hq⟩=>((a5.st hq (by decide)).1).cellsAt) rfl rfl rfl ?_
    refine AJ rfl rfl rfl (AJ rfl rfl rfl (AM ?_))
    refine AY (fuel:=11) [17] [(0,true),(1,true)] (by kernel_rfl) rfl ?_
    refine Bc rfl rfl rfl ?_
    replace f0:=(f0.st b0).st c0
    refine AZ (hc:=fun w' ⟨O',hq⟩=>Blk.cell (i:=3) ((f0.st hq (by decide)).1) rfl) rfl rfl rfl ?_
    refine AM ?_
    refine AY (fuel:=8) [14,17,18] [(8,true),(9,true),(10,true)] (by kernel_rfl) rfl ?_
    refine AJ rfl rfl rfl (AJ rfl rfl rfl (Gi rfl rfl rfl rfl ?_))
    refine AM ?_
    refine Lb (i:=5) (j:=11) (by kernel_rfl) rfl rfl ?_ ?_
    ·
     replace q4:=(q4.st b0).st c0
     replace r4:=(r4.st b0).st c0
     refine Iy 17 (by decide) (O:=x5) (GT Fr.lt (Vb.ofAgg (cs:=[(.string t2.name),(.int .i64 t2.cost),(.slice j7 t2.pre.length k7),(.slice l7 t2.effs.length m7)]) (x:=t2) rfl ⟨_,_,rfl,q4,r4,z9,aA⟩) wB rk326 bA) rfl rfl fun cA dA eA fA dL qE e0 z5 gA iA a6=>?_
     have hZ:=e0.lst [] (fun _ h=>h.elim)
     refine BG [(6,[17]),(7,[14,18]),(12,[15]),(14,[7])] hZ (by kernel_rfl) ?_
     refine Lb (i:=6) (j:=11) (by kernel_rfl) rfl rfl ?_ ?_
     ·
      refine HK (β:=Eff) 18 (by decide) (j:=17) (cs:=[(.string o2.name),(.int .i64 o2.cost),(.slice cA o2.pre.length dA),(.slice eA o2.effs.length fA)]) (a:=o2) rfl rfl rfl rfl (by first|exact allOne rfl|simp [Value.oneCell',Fq]) ⟨_,_,rfl,z5,(Vb.nil _ _),gA,iA⟩ rfl a6 (by decide) rfl (by decide) rfl fun eL fL rE h0 b6=>?_
      have hZ:=h0.lst [17] (fun _ h=>by cases h;decide)
      refine BG [(7,[14,18]),(12,[15]),(14,[7])] hZ (by kernel_rfl) ?_
      refine Lb (i:=7) (j:=11) (by kernel_rfl) rfl rfl ?_ ?_
      ·
       obtain ⟨s3,sE,tE⟩:=AU s3
       replace c1:=(((c1.st b0).st c0).st e0).st h0
       refine Gk rfl c1 b6 (by decide) rfl rfl (by decide) sE tE rfl fun jA kA gL uE u2 lA=>?_
       rw [← s3] at lA ⊢
       have hZ:=u2.lst [14,18] (by rintro _ (h|h)<;>cases h<;>decide)
       refine BG [(12,[15]),(14,[7])] hZ (by kernel_rfl) ?_
       refine AY (fuel:=4) [15] [(13,true)] (by kernel_rfl) rfl ?_
       refine Bc rfl rfl rfl (AM ?_)
       refine Bb (i:=11) (by kernel_rfl) rfl ?_
       refine Bv 19 (by decide) uE (xs:=([(⟨(n3:Int)⟩:Prt)]:List Prt)) rfl rfl rfl rfl ⟨(Vb.ofAgg (cs:=[(.int .i64 (n3:Int))]) (x:=(⟨(n3:Int)⟩:Prt)) rfl ⟨rfl,rk359⟩),trivial⟩ (by decide) (by decide) rfl fun hL iL jL p2 vE=>?_
       have hZ:=p2.lst [] (fun _ h=>h.elim)
       refine BG [(12,[15]),(14,[7])] hZ (by kernel_rfl) ?_
       refine Bb (i:=12) (by kernel_rfl) rfl ?_
       obtain ⟨t3,wE,xE⟩:=AU t3
       replace d1:=(((((d1.st b0).st c0).st e0).st h0).st u2).st p2
       refine Bw rfl d1 (vE.rd) rfl rfl (by decide) wE xE rfl fun yE zE kL aF v2 mA=>?_
       rw [← t3] at mA ⊢
       have hZ:=v2.lst [15] (fun _ h=>by cases h;decide)
       refine BG [(14,[7])] hZ (by kernel_rfl) ?_
       refine Bb (i:=14) (by kernel_rfl) rfl ?_
       replace f0:=((((f0.st e0).st h0).st u2).st p2).st v2
       refine AR f0 rfl rfl rfl (Ba rfl) (allOne rfl) fun bF w2 f0=>?_
       replace f0:Lc 7 bF aF a0.1 26 [(.slice a0.2.1.1 d0.1.length a0.2.1.2),(.slice a0.2.2.1.1 d0.2.1.length a0.2.2.1.2),(.slice a0.2.2.2.1 d0.2.2.length a0.2.2.2.2),(.slice jA y5.length kA)]:=f0
       have hZ:=w2.lst [7] (fun _ h=>by cases h;decide)
       refine BG [] hZ (by kernel_rfl) ?_
       refine AY (fuel:=0) [] [(15,true)] (by kernel_rfl) rfl ?_
       refine De rfl rfl rfl (AM ?_)
       refine Cn (by kernel_rfl) ?_
       obtain rfl:=sm m0
       exact show Exists _ from ⟨_,((yE,zE),(jA,kA)),rfl,⟨rfl,rfl,rfl,rfl,rfl,rfl,rfl,rfl,rfl,rfl,rfl,rfl,rfl,rfl,trivial⟩,_,(((((((hB.st b0).st c0).st e0).st h0).st u2).st p2).st v2).st w2,(((((((w0.st b0).st c0).st e0).st h0).st u2).st p2).st v2).st w2,(((((((h9.st b0).st c0).st e0).st h0).st u2).st p2).st v2).st w2,(((((((n1.st b0).st c0).st e0).st h0).st u2).st p2).st v2).st w2,(((((((o1.st b0).st c0).st e0).st h0).st u2).st p2).st v2).st w2,(((((((y0.st b0).st c0).st e0).st h0).st u2).st p2).st v2).st w2,(((((((g0.st b0).st c0).st e0).st h0).st u2).st p2).st v2).st w2,f0,(((((((j1.st b0).st c0).st e0).st h0).st u2).st p2).st v2).st w2,(((((((a1.st b0).st c0).st e0).st h0).st u2).st p2).st v2).st w2,(((((((b1.st b0).st c0).st e0).st h0).st u2).st p2).st v2).st w2,((lA.st p2).st v2).st w2,mA.st w2,(((((((r0.st b0).st c0).st e0).st h0).st u2).st p2).st v2).st w2⟩
      refine Bv 19 (by decide) rE (xs:=([(⟨(n3:Int)⟩:Prt)]:List Prt)) rfl rfl rfl rfl ⟨(Vb.ofAgg (cs:=[(.int .i64 (n3:Int))]) (x:=(⟨(n3:Int)⟩:Prt)) rfl ⟨rfl,rk359⟩),trivial⟩ (by decide) (by decide) rfl fun lL mL nL f2 o7=>?_
      have hZ:=f2.lst [] (fun _ h=>h.elim)
      refine BG [(7,[14,18]),(12,[15]),(14,[7])] hZ (by kernel_rfl) ?_
      refine Bb (i:=7) (by kernel_rfl) rfl ?_
      obtain ⟨s3,cF,dF⟩:=AU s3
      replace c1:=((((c1.st b0).st c0).st e0).st h0).st f2
      replace b6:=b6.st f2
      refine Gk rfl c1 b6 (by decide) rfl rfl (by decide) cF dF rfl fun nA oA oL pL q2 pA=>?_
      rw [← s3] at pA ⊢
      have hZ:=q2.lst [14,18] (by rintro _ (h|h)<;>cases h<;>decide)
      refine BG [(12,[15]),(14,[7])] hZ (by kernel_rfl) ?_
      refine AY (fuel:=3) [15] [(13,true)] (by kernel_rfl) rfl ?_
      refine Bc rfl rfl rfl (AM ?_)
      refine Bb (i:=12) (by kernel_rfl) rfl ?_
      obtain ⟨t3,eF,fF⟩:=AU t3
      replace d1:=(((((d1.st b0).st c0).st e0).st h0).st f2).st q2
      replace o7:=o7.st q2
      refine Bw rfl d1 (o7.rd) rfl rfl (by decide) eF fF rfl fun gF hF qL iF y2 qA=>?_
      rw [← t3] at qA ⊢
      have hZ:=y2.lst [15] (fun _ h=>by cases h;decide)
      refine BG [(14,[7])] hZ (by kernel_rfl) ?_
      refine Bb (i:=14) (by kernel_rfl) rfl ?_
      replace f0:=((((f0.st e0).st h0).st f2).st q2).st y2
      refine AR f0 rfl rfl rfl (Ba rfl) (allOne rfl) fun jF z2 f0=>?_
      replace f0:Lc 7 jF iF a0.1 26 [(.slice a0.2.1.1 d0.1.length a0.2.1.2),(.slice a0.2.2.1.1 d0.2.1.length a0.2.2.1.2),(.slice a0.2.2.2.1 d0.2.2.length a0.2.2.2.2),(.slice nA y5.length oA)]:=f0
      have hZ:=z2.lst [7] (fun _ h=>by cases h;decide)
      refine BG [] hZ (by kernel_rfl) ?_
      refine AY (fuel:=0) [] [(15,true)] (by kernel_rfl) rfl ?_
      refine De rfl rfl rfl (AM ?_)
      refine Cn (by kernel_rfl) ?_
      obtain rfl:=sm m0
      exact show Exists _ from ⟨_,((gF,hF),(nA,oA)),rfl,⟨rfl,rfl,rfl,rfl,rfl,rfl,rfl,rfl,rfl,rfl,rfl,rfl,rfl,rfl,trivial⟩,_,(((((((hB.st b0).st c0).st e0).st h0).st f2).st q2).st y2).st z2,(((((((w0.st b0).st c0).st e0).st h0).st f2).st q2).st y2).st z2,(((((((h9.st b0).st c0).st e0).st h0).st f2).st q2).st y2).st z2,(((((((n1.st b0).st c0).st e0).st h0).st f2).st q2).st y2).st z2,(((((((o1.st b0).st c0).st e0).st h0).st f2).st q2).st y2).st z2,(((((((y0.st b0).st c0).st e0).st h0).st f2).st q2).st y2).st z2,(((((((g0.st b0).st c0).st e0).st h0).st f2).st q2).st y2).st z2,f0,(((((((j1.st b0).st c0).st e0).st h0).st f2).st q2).st y2).st z2,(((((((a1.st b0).st c0).st e0).st h0).st f2).st q2).st y2).st z2,(((((((b1.st b0).st c0).st e0).st h0).st f2).st q2).st y2).st z2,(pA.st y2).st z2,qA.st z2,(((((((r0.st b0).st c0).st e0).st h0).st f2).st q2).st y2).st z2⟩
     refine Bv 19 (by decide) qE (xs:=([(⟨(n3:Int)⟩:Prt)]:List Prt)) rfl rfl rfl rfl ⟨(Vb.ofAgg (cs:=[(.int .i64 (n3:Int))]) (x:=(⟨(n3:Int)⟩:Prt)) rfl ⟨rfl,rk359⟩),trivial⟩ (by decide) (by decide) rfl fun rL sL tL t1 p7=>?_
     have hZ:=t1.lst [] (fun _ h=>h.elim)
     refine BG [(6,[17]),(7,[14,18]),(12,[15]),(14,[7])] hZ (by kernel_rfl) ?_
     refine Bb (i:=6) (by kernel_rfl) rfl ?_
     replace z5:=z5.st t1
     replace a6:=a6.st t1
     refine HK (β:=Eff) 18 (by decide) (j:=17) (cs:=[(.string o2.name),(.int .i64 o2.cost),(.slice cA o2.pre.length dA),(.slice eA o2.effs.length fA)]) (a:=o2) rfl rfl rfl rfl (by first|exact allOne rfl|simp [Value.oneCell',Fq]) ⟨_,_,rfl,z5,(Vb.nil _ _),gA,iA⟩ rfl a6 (by decide) rfl (by decide) rfl fun uL vL wL g2 kF=>?_
     have hZ:=g2.lst [17] (fun _ h=>by cases h;decide)
     refine BG [(7,[14,18]),(12,[15]),(14,[7])] hZ (by kernel_rfl) ?_
     refine Bb (i:=7) (by kernel_rfl) rfl ?_
     obtain ⟨s3,lF,mF⟩:=AU s3
     replace c1:=((((c1.st b0).st c0).st e0).st t1).st g2
     refine Gk rfl c1 kF (by decide) rfl rfl (by decide) lF mF rfl fun rA sA xL yL r2 tA=>?_
     rw [← s3] at tA ⊢
     have hZ:=r2.lst [14,18] (by rintro _ (h|h)<;>cases h<;>decide)
     refine BG [(12,[15]),(14,[7])] hZ (by kernel_rfl) ?_
     refine AY (fuel:=3) [15] [(13,true)] (by kernel_rfl) rfl ?_
     refine Bc rfl rfl rfl (AM ?_)
     refine Bb (i:=12) (by kernel_rfl) rfl ?_
     obtain ⟨t3,nF,oF⟩:=AU t3
     replace d1:=(((((d1.st b0).st c0).st e0).st t1).st g2).st r2
     replace p7:=(p7.st g2).st r2
     refine Bw rfl d1 (p7.rd) rfl rfl (by decide) nF oF rfl fun pF qF zL rF a3 uA=>?_
     rw [← t3] at uA ⊢
     have hZ:=a3.lst [15] (fun _ h=>by cases h;decide)
     refine BG [(14,[7])] hZ (by kernel_rfl) ?_
     refine Bb (i:=14) (by kernel_rfl) rfl ?_
     replace f0:=((((f0.st e0).st t1).st g2).st r2).st a3
     refine AR f0 rfl rfl rfl (Ba rfl) (allOne rfl) fun sF b3 f0=>?_
     replace f0:Lc 7 sF rF a0.1 26 [(.slice a0.2.1.1 d0.1.length a0.2.1.2),(.slice a0.2.2.1.1 d0.2.1.length a0.2.2.1.2),(.slice a0.2.2.2.1 d0.2.2.length a0.2.2.2.2),(.slice rA y5.length sA)]:=f0
     have hZ:=b3.lst [7] (fun _ h=>by cases h;decide)
     refine BG [] hZ (by kernel_rfl) ?_
     refine AY (fuel:=0) [] [(15,true)] (by kernel_rfl) rfl ?_
     refine De rfl rfl rfl (AM ?_)
     refine Cn (by kernel_rfl) ?_
     obtain rfl:=sm m0
     exact show Exists _ from ⟨_,((pF,qF),(rA,sA)),rfl,⟨rfl,rfl,rfl,rfl,rfl,rfl,rfl,rfl,rfl,rfl,rfl,rfl,rfl,rfl,trivial⟩,_,(((((((hB.st b0).st c0).st e0).st t1).st g2).st r2).st a3).st b3,(((((((w0.st b0).st c0).st e0).st t1).st g2).st r2).st a3).st b3,(((((((h9.st b0).st c0).st e0).st t1).st g2).st r2).st a3).st b3,(((((((n1.st b0).st c0).st e0).st t1).st g2).st r2).st a3).st b3,(((((((o1.st b0).st c0).st e0).st t1).st g2).st r2).st a3).st b3,(((((((y0.st b0).st c0).st e0).st t1).st g2).st r2).st a3).st b3,(((((((g0.st b0).st c0).st e0).st t1).st g2).st r2).st a3).st b3,f0,(((((((j1.st b0).st c0).st e0).st t1).st g2).st r2).st a3).st b3,(((((((a1.st b0).st c0).st e0).st t1).st g2).st r2).st a3).st b3,(((((((b1.st b0).st c0).st e0).st t1).st g2).st r2).st a3).st b3,(tA.st a3).st b3,uA.st b3,(((((((r0.st b0).st c0).st e0).st t1).st g2).st r2).st a3).st b3⟩
    refine Bv 19 (by decide) x5 (xs:=([(⟨(n3:Int)⟩:Prt)]:List Prt)) rfl rfl rfl rfl ⟨(Vb.ofAgg (cs:=[(.int .i64 (n3:Int))]) (x:=(⟨(n3:Int)⟩:Prt)) rfl ⟨rfl,rk359⟩),trivial⟩ (by decide) (by decide) rfl fun aM bM tF u1 q7=>?_
    have hZ:=u1.lst [] (fun _ h=>h.elim)
    refine BG [(6,[17]),(7,[14,18]),(12,[15]),(14,[7])] hZ (by kernel_rfl) ?_
    refine Bb (i:=5) (by kernel_rfl) rfl ?_
    replace q4:=((q4.st b0).st c0).st u1
    replace r4:=((r4.st b0).st c0).st u1
    refine Iy 17 (by decide) (O:=tF) (GT Fr.lt (Vb.ofAgg (cs:=[(.string t2.name),(.int .i64 t2.cost),(.slice j7 t2.pre.length k7),(.slice l7 t2.effs.length m7)]) (x:=t2) rfl ⟨_,_,rfl,q4,r4,z9,aA⟩) wB rk326 bA) rfl rfl fun uF vF wF xF cM dM h2 yF zF aG bG=>?_
    have hZ:=h2.lst [] (fun _ h=>h.elim)
    refine BG [(6,[17]),(7,[14,18]),(12,[15]),(14,[7])] hZ (by kernel_rfl) ?_
    refine Bb (i:=6) (by kernel_rfl) rfl ?_
    refine HK (β:=Eff) 18 (by decide) (j:=17) (cs:=[(.string o2.name),(.int .i64 o2.cost),(.slice uF o2.pre.length vF),(.slice wF o2.effs.length xF)]) (a:=o2) rfl rfl rfl rfl (by first|exact allOne rfl|simp [Value.oneCell',Fq]) ⟨_,_,rfl,yF,(Vb.nil _ _),zF,aG⟩ rfl bG (by decide) rfl (by decide) rfl fun eM fM gM i2 cG=>?_
    have hZ:=i2.lst [17] (fun _ h=>by cases h;decide)
    refine BG [(7,[14,18]),(12,[15]),(14,[7])] hZ (by kernel_rfl) ?_
    refine Bb (i:=7) (by kernel_rfl) rfl ?_
    obtain ⟨s3,dG,eG⟩:=AU s3
    replace c1:=((((c1.st b0).st c0).st u1).st h2).st i2
    refine Gk rfl c1 cG (by decide) rfl rfl (by decide) dG eG rfl fun vA wA hM iM s2 xA=>?_
    rw [← s3] at xA ⊢
    have hZ:=s2.lst [14,18] (by rintro _ (h|h)<;>cases h<;>decide)
    refine BG [(12,[15]),(14,[7])] hZ (by kernel_rfl) ?_
    refine AY (fuel:=3) [15] [(13,true)] (by kernel_rfl) rfl ?_
    refine Bc rfl rfl rfl (AM ?_)
    refine Bb (i:=12) (by kernel_rfl) rfl ?_
    obtain ⟨t3,fG,gG⟩:=AU t3
    replace d1:=(((((d1.st b0).st c0).st u1).st h2).st i2).st s2
    replace q7:=((q7.st h2).st i2).st s2
    refine Bw rfl d1 (q7.rd) rfl rfl (by decide) fG gG rfl fun hG iG jM jG c3 yA=>?_
    rw [← t3] at yA ⊢
    have hZ:=c3.lst [15] (fun _ h=>by cases h;decide)
    refine BG [(14,[7])] hZ (by kernel_rfl) ?_
    refine Bb (i:=14) (by kernel_rfl) rfl ?_
    replace f0:=((((f0.st u1).st h2).st i2).st s2).st c3
    refine AR f0 rfl rfl rfl (Ba rfl) (allOne rfl) fun kG d3 f0=>?_
    replace f0:Lc 7 kG jG a0.1 26 [(.slice a0.2.1.1 d0.1.length a0.2.1.2),(.slice a0.2.2.1.1 d0.2.1.length a0.2.2.1.2),(.slice a0.2.2.2.1 d0.2.2.length a0.2.2.2.2),(.slice vA y5.length wA)]:=f0
    have hZ:=d3.lst [7] (fun _ h=>by cases h;decide)
    refine BG [] hZ (by kernel_rfl) ?_
    refine AY (fuel:=0) [] [(15,true)] (by kernel_rfl) rfl ?_
    refine De rfl rfl rfl (AM ?_)
    refine Cn (by kernel_rfl) ?_
    obtain rfl:=sm m0
    exact show Exists _ from ⟨_,((hG,iG),(vA,wA)),rfl,⟨rfl,rfl,rfl,rfl,rfl,rfl,rfl,rfl,rfl,rfl,rfl,rfl,rfl,rfl,trivial⟩,_,(((((((hB.st b0).st c0).st u1).st h2).st i2).st s2).st c3).st d3,(((((((w0.st b0).st c0).st u1).st h2).st i2).st s2).st c3).st d3,(((((((h9.st b0).st c0).st u1).st h2).st i2).st s2).st c3).st d3,(((((((n1.st b0).st c0).st u1).st h2).st i2).st s2).st c3).st d3,(((((((o1.st b0).st c0).st u1).st h2).st i2).st s2).st c3).st d3,(((((((y0.st b0).st c0).st u1).st h2).st i2).st s2).st c3).st d3,(((((((g0.st b0).st c0).st u1).st h2).st i2).st s2).st c3).st d3,f0,(((((((j1.st b0).st c0).st u1).st h2).st i2).st s2).st c3).st d3,(((((((a1.st b0).st c0).st u1).st h2).st i2).st s2).st c3).st d3,(((((((b1.st b0).st c0).st u1).st h2).st i2).st s2).st c3).st d3,(xA.st c3).st d3,yA.st d3,(((((((r0.st b0).st c0).st u1).st h2).st i2).st s2).st c3).st d3⟩
   replace m0:=im m0 n7
   refine o_z ?_
   refine Ae rfl (AO ?_)
   obtain rfl:=sm m0
   exact show Exists _ from ⟨_,((l0.1.1,l0.1.2),(l0.2.1,l0.2.2)),rfl,⟨rfl,rfl,rfl,rfl,rfl,rfl,rfl,rfl,rfl,rfl,rfl,rfl,rfl,rfl,trivial⟩,_,(hB.st b0).st c0,(w0.st b0).st c0,(h9.st b0).st c0,(n1.st b0).st c0,(o1.st b0).st c0,(y0.st b0).st c0,(g0.st b0).st c0,(f0.st b0).st c0,(j1.st b0).st c0,(a1.st b0).st c0,(b1.st b0).st c0,(c1.st b0).st c0,(d1.st b0).st c0,(r0.st b0).st c0⟩
  rintro kM lM ⟨mM,nM,rfl,zA,aB,hB,w0,h9,n1,o1,y0,g0,f0,j1,a1,b1,c1,d1,r0⟩
  replace j0:=AV j0
  refine AQ _ zA ?_
  refine Al (BC [(7,[20]),(8,[14,21])] aB ?_)
  refine AY (fuel:=7) [] [(2,true),(3,true),(4,true),(5,true)] (by kernel_rfl) rfl ?_
  refine AJ rfl rfl rfl (Gi rfl rfl rfl rfl ?_)
  refine AJ rfl rfl rfl (AJ rfl rfl rfl (AM ?_))
  refine AY (fuel:=5) [20] [(0,true),(1,true)] (by kernel_rfl) rfl ?_
  refine Bc rfl rfl rfl (AZ (hc:=fun w' ⟨O',hq⟩=>Blk.cell (i:=3) ((f0.st hq (by decide)).1) rfl) rfl rfl rfl ?_)
  refine AM ?_
  refine Bb (i:=6) (by kernel_rfl) rfl ?_
  obtain ⟨l5,lG,j0⟩:=bs j0
  refine Iy 20 (by decide) (O:=aB) (GT Fr.lt (Vb.ofAgg (cs:=[(.string (⟨#[]⟩:ByteArray)),(.int .i64 x2),(.slice none 0 0),(.slice none 0 0)]) (x:=(⟨(⟨#[]⟩:ByteArray),x2,([]:List Fct),([]:List Eff)⟩:Opr)) rfl ⟨_,_,rfl,(Vb.nil _ _),(Vb.nil _ _),rx2,(show (⟨#[]⟩:ByteArray).size≤9223372036854775807 from by decide)⟩) wB rk326 lG) rfl rfl fun mG nG oG pG oM pM t0 qG rG sG tG=>?_
  have hZ:=t0.lst [] (fun _ h=>h.elim)
  refine BG [(7,[20]),(8,[14,21])] hZ (by kernel_rfl) ?_
  refine Bb (i:=7) (by kernel_rfl) rfl ?_
  refine HK (β:=Eff) 21 (by decide) (j:=20) (cs:=[(.string l5.name),(.int .i64 l5.cost),(.slice mG l5.pre.length nG),(.slice oG l5.effs.length pG)]) (a:=l5) rfl rfl rfl rfl (by first|exact allOne rfl|simp [Value.oneCell',Fq]) ⟨_,_,rfl,qG,(Vb.nil _ _),rG,sG⟩ rfl tG (by decide) rfl (by decide) rfl fun qM rM sM u0 uG=>?_
  have hZ:=u0.lst [20] (fun _ h=>by cases h;decide)
  refine BG [(8,[14,21])] hZ (by kernel_rfl) ?_
  refine Bb (i:=8) (by kernel_rfl) rfl ?_
  obtain ⟨r7,s7,j0⟩:=bs j0
  obtain ⟨s7,vG,wG⟩:=AU s7
  replace c1:=(c1.st t0).st u0
  refine Gk rfl c1 uG (by decide) rfl rfl (by decide) vG wG rfl fun t7 u7 tM xG e1 s4=>?_
  rw [← s7] at s4 ⊢
  have hZ:=e1.lst [14,21] (by rintro _ (h|h)<;>cases h<;>decide)
  refine BG [] hZ (by kernel_rfl) ?_
  refine AY (fuel:=1) [] [(9,true)] (by kernel_rfl) rfl ?_
  refine Bc rfl rfl rfl (AM ?_)
  refine Bb (i:=10) (by kernel_rfl) rfl ?_
  replace f0:=((f0.st t0).st u0).st e1
  refine AR f0 rfl rfl rfl (Ba rfl) (allOne rfl) fun yG k1 f0=>?_
  replace f0:Lc 7 yG xG a0.1 26 [(.slice a0.2.1.1 d0.1.length a0.2.1.2),(.slice a0.2.2.1.1 d0.2.1.length a0.2.2.1.2),(.slice a0.2.2.2.1 d0.2.2.length a0.2.2.2.2),(.slice t7 r7.length u7)]:=f0
  refine Dm (by kernel_rfl) ?_
  refine Cn (by kernel_rfl) ?_
  refine Al (Aj (Ar rfl rfl (Cw rfl rfl rfl ?_)))
  obtain ⟨uM,w7,j0⟩:=bs j0
  obtain ⟨w7,zG,aH⟩:=AU w7
  replace d1:=(((d1.st t0).st u0).st e1).st k1
  refine CP rfl (a:=(⟨(-1)⟩:Prt)) d1 (Vb.ofAgg (cs:=[(.int .i64 (-1))]) (x:=(⟨(-1)⟩:Prt)) rfl ⟨rfl,(show inI64 (-1) from by decide)⟩) (fun _=>rfl) rfl (by decide) (by decide) zG aH ⟨rfl,rfl⟩ fun vM bB cB wM xM l1 x7=>?_
  rw [← w7] at x7 ⊢
  refine Au rfl rfl (o_z ?_)
  refine Al (Aj (AG rfl rfl ?_))
  replace f0:=f0.st l1
  refine AE (hc:=Blk.cell (i:=3) (f0.1) rfl) rfl rfl ?_
  refine AP rfl rfl ?_
  replace s4:=(s4.st k1).st l1
  have bH:r7.length≤9223372036854775807:=Nat.le_trans s4.len.2.1 s4.len.2.2
  have yM:inI64 (r7.length:Int):=rngNat bH
  refine Ce rfl rfl rfl (fun y7=>?_) fun y7=>?_
  ·
   replace j0:=ip j0 y7
   refine o_z ?_
   refine Ah rfl (DN ?_)
   obtain rfl:=sm j0
   exact show Exists _ from ⟨_,((bB,cB),(t7,u7)),w5 _ rfl,⟨rfl,rfl,rfl,trivial⟩,_,((((hB.st t0).st u0).st e1).st k1).st l1,((((g0.st t0).st u0).st e1).st k1).st l1,f0,((((j1.st t0).st u0).st e1).st k1).st l1,((((a1.st t0).st u0).st e1).st k1).st l1,((((b1.st t0).st u0).st e1).st k1).st l1,s4,x7⟩
  replace j0:=im j0 y7
  refine o_z ?_
  refine Ae rfl (AO ?_)
  obtain rfl:=sm j0
  exact show Exists _ from ⟨_,((bB,cB),(t7,u7)),rfl,⟨rfl,rfl,rfl,rfl,rfl,rfl,rfl,rfl,rfl,trivial⟩,_,((((hB.st t0).st u0).st e1).st k1).st l1,((((w0.st t0).st u0).st e1).st k1).st l1,((((h9.st t0).st u0).st e1).st k1).st l1,((((n1.st t0).st u0).st e1).st k1).st l1,((((o1.st t0).st u0).st e1).st k1).st l1,((((y0.st t0).st u0).st e1).st k1).st l1,((((g0.st t0).st u0).st e1).st k1).st l1,f0,((((j1.st t0).st u0).st e1).st k1).st l1,((((a1.st t0).st u0).st e1).st k1).st l1,((((b1.st t0).st u0).st e1).st k1).st l1,s4,x7,((((r0.st t0).st u0).st e1).st k1).st l1⟩
 rintro zM aN ⟨m1,i0,rfl,dB,cH,hB,g0,f0,j1,a1,b1,p4,n2⟩
 replace hm:=AV hm
 refine AQ _ dB ?_
 refine Al (Al (Aj (AG rfl rfl (AE (hc:=Blk.cell (i:=3) (f0.1) rfl) rfl rfl ?_))))
 refine AP rfl rfl ?_
 have z7:m1.2.length≤9223372036854775807:=Nat.le_trans p4.len.2.1 p4.len.2.2
 have bN:inI64 (m1.2.length:Int):=rngNat z7
 refine Ar rfl rfl (o_z ?_)
 obtain ⟨a8,eB,hm⟩:=bs hm
 refine AL (aft a8 (fun (t4:(List Opr)) (c6:Unit)=>[(6,(.pointer (some ⟨f1,0,none⟩))),(11,(.pointer (some ⟨a0.1,0,none⟩))),(12,(.slice i0.1.1 m1.1.length i0.1.2))]) (fun t4 c6 w'=>∃ O':Lab,Bs w A w' O'∧Lc 3 w' O' f1 26 [(.slice none 0 0),(.slice none 0 0),(.slice none 0 0),(.slice none 0 0)]∧Lc 7 w' O' a0.1 26 [(.slice a0.2.1.1 d0.1.length a0.2.1.2),(.slice a0.2.2.1.1 d0.2.1.length a0.2.2.1.2),(.slice a0.2.2.2.1 d0.2.2.length a0.2.2.2.2),(.slice i0.2.1 m1.2.length i0.2.2)]∧Rw 8 w' O' 3 (.slice a0.2.1.1 d0.1.length a0.2.1.2) d0.1∧Rw 9 w' O' 3 (.slice a0.2.2.1.1 d0.2.1.length a0.2.2.1.2) d0.2.1∧Rw 10 w' O' 62 (.slice a0.2.2.2.1 d0.2.2.length a0.2.2.2.2) d0.2.2∧NR Eff 14 w' O' 67 64 (.slice i0.2.1 m1.2.length i0.2.2) t4 none∧Rw 15 w' O' 74 (.slice i0.1.1 m1.1.length i0.1.2) m1.1)) ?_ ?_
 ·
  refine AN (Gy (σ:=(List Opr)) (X:=Unit) (m1.2.length) eB z7 (fun (t4:(List Opr)) (c6:Unit)=>[(6,(.pointer (some ⟨f1,0,none⟩))),(11,(.pointer (some ⟨a0.1,0,none⟩))),(12,(.slice i0.1.1 m1.1.length i0.1.2))]) _ (fun t4 c6 w'=>∃ O':Lab,Bs w A w' O'∧Lc 3 w' O' f1 26 [(.slice none 0 0),(.slice none 0 0),(.slice none 0 0),(.slice none 0 0)]∧Lc 7 w' O' a0.1 26 [(.slice a0.2.1.1 d0.1.length a0.2.1.2),(.slice a0.2.2.1.1 d0.2.1.length a0.2.2.1.2),(.slice a0.2.2.2.1 d0.2.2.length a0.2.2.2.2),(.slice i0.2.1 m1.2.length i0.2.2)]∧Rw 8 w' O' 3 (.slice a0.2.1.1 d0.1.length a0.2.1.2) d0.1∧Rw 9 w' O' 3 (.slice a0.2.2.1.1 d0.2.1.length a0.2.2.1.2) d0.2.1∧Rw 10 w' O' 62 (.slice a0.2.2.2.1 d0.2.2.length a0.2.2.2.2) d0.2.2∧NR Eff 14 w' O' 67 64 (.slice i0.2.1 m1.2.length i0.2.2) t4 none∧Rw 15 w' O' 74 (.slice i0.1.1 m1.1.length i0.1.2) m1.1) _ () ⟨cH,hB,g0,f0,j1,a1,b1,p4,n2⟩ ⟨rfl,rfl,rfl,rfl,rfl,trivial⟩ (fun _ _=>⟨rfl,rfl⟩) (fun _ _=>⟨rfl,rfl,rfl,trivial⟩) (fun _ _ _ ⟨O',hB,g0,f0,j1,a1,b1,v0,n2⟩=>⟨O',hB,g0,f0,j1,a1,b1,v0,n2⟩) ⟨rfl,rfl,rfl⟩ ⟨rfl,rfl⟩ ?_)
  rintro fB t4 c6 b8 fI gB ⟨iB,hB,g0,f0,j1,a1,b1,v0,n2⟩ x3 dC eC
  have rk627:inI64 (fB:Int):=rngKN gB z7
  refine Al (Aj (Ar rfl rfl (Au rfl rfl (o_z ?_))))
  refine BC [(9,[14,25])] iB ?_
  refine AY (fuel:=7) [] [(3,true),(4,true),(5,true),(6,true),(7,true),(8,true)] (by kernel_rfl) rfl ?_
  refine Bc rfl rfl rfl (AZ (hc:=fun w' ⟨O',hq⟩=>Blk.cell (i:=3) ((f0.st hq (by decide)).1) rfl) rfl rfl rfl ?_)
  refine AJ rfl rfl rfl ?_
  obtain ⟨d6,c8,x3⟩:=bs x3
  obtain ⟨cN,dN,w4,jB⟩:=v0.at c8
  refine BP (hA:=w4) (hj:=rfl) (hlt:=jB) rfl rfl rfl rfl ?_
  refine Bc rfl rfl rfl ?_
  obtain ⟨kB,lB,i6,mB⟩:=NR.peek v0 w4 c8
  replace mB:Vb b8 (FrS [14] b8 iB) (.slice kB d6.effs.length lB) d6.effs:=mB
  refine AZ (hc:=fun w' ⟨O',hq⟩=>NR.stay v0 w4 hq (by decide) i6) rfl rfl rfl ?_
  refine AM ?_
  refine AY (fuel:=4) [14,25] [(0,true),(1,true),(2,true)] (by kernel_rfl) rfl ?_
  refine Bc rfl rfl rfl (AZ (hc:=fun w' ⟨O',hq⟩=>Blk.cell (i:=3) ((f0.st hq (by decide)).1) rfl) rfl rfl rfl ?_)
  refine AJ rfl rfl rfl (AM ?_)
  refine Bb (i:=9) (by kernel_rfl) rfl ?_
  obtain ⟨nB,m4,v0,d8⟩:=NR.take' v0 w4 c8 i6 25 (by decide) (by decide)
  replace d8:Rw 25 b8 nB 64 (.slice kB d6.effs.length lB) d6.effs:=d8
  have hZ:=m4.lst [14] (fun _ h=>by cases h;decide)
  obtain ⟨dH,eH,x3⟩:=bs x3
  refine Cx (O:=nB) (Jd d8 eH) rfl rfl fun eN fN gN d4 fH=>?_
  obtain ⟨gH,rfl⟩:=fH
  replace hZ:=hZ.cmp d4 [14,25] (fun _ h=>by cases h;decide) rfl
  refine BG [] hZ (by kernel_rfl) ?_
  refine AY (fuel:=1) [] [(10,true),(11,true)] (by kernel_rfl) rfl ?_
  obtain ⟨oB,pB,x3⟩:=bs x3
  replace v0:=v0.st d4
  obtain ⟨hN,iN,j6,qB⟩:=v0.at pB
  refine BP (hA:=j6) (hj:=rfl) (hlt:=qB) rfl rfl rfl rfl ?_
  refine Bc rfl rfl rfl (AM ?_)
  refine Bb (i:=12) (by kernel_rfl) rfl ?_
  refine Ss (a:=oB) (off:=3) v0 gH (by decide) j6 pB rfl rfl rfl rfl (by decide) fun hH iH u4 e8=>?_
  replace e8:NR Eff 14 hH iH 67 64 (.slice i0.2.1 m1.2.length i0.2.2) (t4.set fB ({ oB with effs:=dH }:Opr)) none:=e8
  refine Dm (by kernel_rfl) ?_
  refine Cn (by kernel_rfl) ?_
  obtain rfl:=sm x3
  exact show Exists _ from ⟨_,(),rfl,⟨rfl,rfl,rfl,rfl,rfl,trivial⟩,_,((hB.st m4).st d4).st u4,((g0.st m4).st d4).st u4,((f0.st m4).st d4).st u4,((j1.st m4).st d4).st u4,((a1.st m4).st d4).st u4,((b1.st m4).st d4).st u4,e8,((n2.st m4).st d4).st u4⟩
 rintro jN rB ⟨sB,kN,rfl,tB,lN,hB,g0,f0,j1,a1,b1,v0,n2⟩
 replace hm:=AV hm
 refine AQ _ tB ?_
 refine Al (Al (Aj (Bk (hl:=rfl) (hc:=(f0.1).cellsAt) rfl rfl ?_)))
 obtain ⟨mN,e4,j1⟩:=j1.freeze
 replace a1:=a1.st e4
 obtain ⟨nN,f4,a1⟩:=a1.freeze
 replace b1:=(b1.st e4).st f4
 obtain ⟨oN,g4,b1⟩:=b1.freeze
 replace v0:=((v0.st e4).st f4).st g4
 obtain ⟨uB,h4,v0⟩:=v0.freeze
 obtain ⟨jH,kH,hm⟩:=bs hm
 replace j1:=((j1.st f4).st g4).st h4
 replace a1:=(a1.st g4).st h4
 replace b1:=b1.st h4
 refine BE (O:=uB) (A:=All rB) (R:=fun w' F v=>Vb w' F v jH) (Jv (fun _ h=>h) (Vb.mono (F:=Fr 0 rB uB) (Vb.ofAgg (cs:=[(.slice a0.2.1.1 d0.1.length a0.2.1.2),(.slice a0.2.2.1.1 d0.2.1.length a0.2.2.1.2),(.slice a0.2.2.2.1 d0.2.2.length a0.2.2.2.2),(.slice i0.2.1 m1.2.length i0.2.2)]) (x:=(⟨d0.1,d0.2.1,d0.2.2,sB⟩:Tsk)) rfl ⟨_,_,_,_,rfl,j1,a1,b1,v0⟩) Fr.lt) kH) rfl rfl fun pN qN e6 a4 lH=>?_
 obtain ⟨rfl,mH⟩:=lH.err
 refine Au rfl rfl (o_z ?_)
 refine Al (Aj (Ar rfl rfl (ER rfl rfl (fun f8=>?_) fun f8=>?_)))
 ·
  replace hm:=ip hm f8
  refine o_z ?_
  refine Ah rfl (Al (Aj (Cw rfl rfl rfl ?_)))
  refine Ar rfl rfl ?_
  replace g0:=((((g0.st e4).st f4).st g4).st h4).st a4
  refine AR g0 rfl rfl rfl (Ba rfl) (allOne rfl) fun g8 nH g0=>?_
  replace g0:Lc 3 g8 e6 f1 26 [(.slice none 0 0),(.slice none 0 0),(.slice none 0 0),(.slice none 0 0)]:=g0
  refine Au rfl rfl (Au rfl rfl (o_z ?_))
  refine AK ?_
  obtain rfl:=sm hm
  replace hB:=(((((hB.st e4).st f4).st g4).st h4).st a4).st nH
  exact ret3 rfl (BM (cs:=[(.slice none 0 0),(.slice none 0 0),(.slice none 0 0),(.slice none 0 0)]) rfl rfl g0.1.cellsAt) (AB rfl) (AB rfl) ⟨hB.ext,_,_,_,rfl,(Vb.mono (F:=Fr 0 g8 e6) (Vb.ofAgg (cs:=[(.slice none 0 0),(.slice none 0 0),(.slice none 0 0),(.slice none 0 0)]) (x:=(⟨([]:List Int),([]:List Int),([]:List Fct),([]:List Opr)⟩:Tsk)) rfl ⟨_,_,_,_,rfl,(Vb.nil _ _),(Vb.nil _ _),(Vb.nil _ _),(Vb.nil _ _)⟩) hB.out),(Vb.mono (F:=Fr 0 g8 e6) (Vb.nil _ _) hB.out),(vErr mH)⟩
 replace hm:=im hm f8
 refine o_z ?_
 refine Ae rfl (AO (Al (Aj ?_)))
 replace f0:=((((f0.st e4).st f4).st g4).st h4).st a4
 refine Bk (hl:=rfl) (hc:=(f0.1).cellsAt) rfl rfl ?_
 refine Ar rfl rfl ?_
 replace g0:=((((g0.st e4).st f4).st g4).st h4).st a4
 refine AR g0 rfl rfl rfl (Ba rfl) (allOne rfl) fun h8 b5 g0=>?_
 replace g0:Lc 3 h8 e6 f1 26 [(.slice a0.2.1.1 d0.1.length a0.2.1.2),(.slice a0.2.2.1.1 d0.2.1.length a0.2.2.1.2),(.slice a0.2.2.2.1 d0.2.2.length a0.2.2.2.2),(.slice i0.2.1 m1.2.length i0.2.2)]:=g0
 refine Au rfl rfl (Au rfl rfl (o_z ?_))
 refine AK ?_
 replace n2:=(((((n2.st e4).st f4).st g4).st h4).st a4).st b5
 obtain ⟨vB,c5,n2⟩:=n2.freeze
 obtain rfl:=sm hm
 replace hB:=((((((hB.st e4).st f4).st g4).st h4).st a4).st b5).st c5
 replace g0:=g0.st c5
 replace j1:=((j1.st a4).st b5).st c5
 replace a1:=((a1.st a4).st b5).st c5
 replace b1:=((b1.st a4).st b5).st c5
 replace v0:=((v0.st a4).st b5).st c5
 exact ret3 rfl (BM (cs:=[(.slice a0.2.1.1 d0.1.length a0.2.1.2),(.slice a0.2.2.1.1 d0.2.1.length a0.2.2.1.2),(.slice a0.2.2.2.1 d0.2.2.length a0.2.2.2.2),(.slice i0.2.1 m1.2.length i0.2.2)]) rfl rfl g0.1.cellsAt) (AB rfl) (AB rfl) ⟨hB.ext,_,_,_,rfl,(Vb.mono (F:=Fr 0 h8 vB) (Vb.ofAgg (cs:=[(.slice a0.2.1.1 d0.1.length a0.2.1.2),(.slice a0.2.2.1.1 d0.2.1.length a0.2.2.1.2),(.slice a0.2.2.2.1 d0.2.2.length a0.2.2.2.2),(.slice i0.2.1 m1.2.length i0.2.2)]) (x:=(⟨d0.1,d0.2.1,d0.2.2,sB⟩:Tsk)) rfl ⟨_,_,_,_,rfl,j1,a1,b1,v0⟩) hB.out),(Vb.mono (F:=Fr 0 h8 vB) n2 hB.out),(vErr (show inI64 0 from by decide))⟩
end
section
open Go Go.RowKit
class TCon (P:Program) (t:TypeId):Prop where eq:∃ d,P.underlying t=some d∧(match d with|.interface _=>false|_=>true)=true
instance {P:Program} {t e:TypeId} [h:TPtr P t e]:TCon P t:=⟨⟨_,h.eq,rfl⟩⟩
instance {P:Program} {t:TypeId} [h:TAgg P t]:TCon P t:=⟨by obtain ⟨d,h1,h2⟩:=h.eq;exact ⟨d,h1,by cases d<;>first|rfl|cases h2⟩⟩
class TMth (P:Program) (t:TypeId) (name:String) (f:outParam FuncId) (b:outParam Bool):Prop where
  eq:((P.info? t).bind fun i=>i.methods.find? (·.name == name)).map (fun m=>(m.path.toList,m.func))=some ([],some (f,b))
def Mth (P:Program) (t:TypeId) (v:Value) (name:String) (w:World) (f:FuncId) (r:Value):Prop:=∀ d,(method (P.types.size + Made.depth) t v name).run P (dr w d)=.ok (f,r) (dr w d)
section
variable {P : Program} {t e : TypeId} {name : String} {f : FuncId} {w : World}
theorem TMth.row {b:Bool} (h:TMth P t name f b):∃ i m,P.info? t=some i∧i.methods.find? (·.name == name)=some m∧m.path.toList=[]∧m.func=some (f,b):=by
  obtain ⟨m,h1,h2⟩:=Option.map_eq_some_iff.1 h.eq
  obtain ⟨i,h3,h4⟩:=Option.bind_eq_some_iff.1 h1
  injection h2 with h5 h6
  exact ⟨i,m,h3,h4,h5,h6⟩
theorem Oe {v:Value} [hm:TMth P t name f true] [hp:TPtr P t e]:Mth P t v name w f v:=fun d=>by
  obtain ⟨i,m,h1,h2,h3,h4⟩:=hm.row
  show (method ((P.types.size + 99) + 1) t v name).run P (dr w d)=_
  rw [method]
  simp [typeInfo,h1,h2,h3,h4,follow,receiverAt,run_underlying hp.eq,Place.get]
theorem NC (ts:Array TypeId) (a:Addr) (x y:String):(Builtin.ssaWrapNilChk_ ts t #[.pointer (some a),strVal x,strVal y]).run P w=.ok (.pointer (some a)) w:=rfl
theorem Gb {ad:Addr} {u:Value} [hm:TMth P t name f false] [hp:TPtr P t e] [TOne P e] (hc:w.cell? ad=some u):Mth P t (.pointer (some ad)) name w f u:=fun d=>by
  obtain ⟨i,m,h1,h2,h3,h4⟩:=hm.row
  have h5:m.path=#[]:=by cases hm':m.path;rw [hm'] at h3;simp at h3;rw [h3]
  have hl:(load ad).run P (dr w d)=.ok u (dr w d):=by simp [load,Sem.run,Lx,hc]
  show (method ((P.types.size + 99) + 1) t _ name).run P (dr w d)=_
  rw [method]
  simp [typeInfo,h1,h2,h4,h5,follow,receiverAt,run_underlying hp.eq,Place.get,NC,asAddr,loadVar,Jk,Lx,hc]
end
section
variable {P : Program} {n : Nat} {ops : Array Oper} {Q : Post} {rest : List Oper} {l : Env} {w : World} {d : Tmp} {ty : TypeId} {pos : String} {aft : Array Edge}
theorem Of {f:FuncId} [hf:Callable P f] {y:Operand} {name:String} {t:TypeId} {v r:Value} {xs:List Operand} {vs:List Value} {ts:Array TypeId} {R:Value→World→Prop} (hm:Mth P t v name w f r) (hy:opv l y=some (.iface t v)) (hx:opvs l xs=some vs) (hd:Nat.blt d n=true) (hc:Fn P f (r :: vs) w R)
    (h:∀ v w',R v w'→owp P n ops Q rest ((d,v) :: l) w'):owp P n ops Q (⟨some d,.call { callee:=.invoke y name,args:=xs.toArray,argTypes:=ts },ty,pos,aft,none⟩ :: rest) l w :=
  Id fun a e ha K hK=>by
    obtain ⟨fn,h1,h2,h3⟩:=hf.eq
    have h2':¬ fn.body=none:=fun e=>by rw [e] at h2;simp at h2
    have h3' : ¬ fn.name = "runtime.NumGoroutine" := fun e => by rw [e] at h3; simp at h3
    unfold Oper.wp
    have:(execOp a.eval ⟨some d,.call { callee:=.invoke y name,args:=xs.toArray,argTypes:=ts },ty,pos,aft,none⟩).run P (dr w e)=.ok (.enter f (r :: vs).toArray) (dr w e):=by
      simp [execOp,resolve,ha.eval hy,invoke,callMethod,hm e,callFunc,h1,h2',h3',ha.evals hx]
    rw [this]
    exact (hc e).mono fun _ _ ⟨v,w₀,d',he,hw,hR⟩=>by subst he;subst hw;exact hK _ _ (h v w₀ hR _ _ (ha.put hd v))
theorem Jw {T:Nat→Prop} {f:FuncId} [Callable P f] {y:Operand} {name:String} {t:TypeId} {v r:Value} {xs:List Operand} {vs:List Value} {ts:Array TypeId} {O:Lab} {R:Value→World→Lab→Prop}
    (hc:Fn P f (r :: vs) w fun v w'=>∃ O',St T w O w' O'∧R v w' O') (hm:Mth P t v name w f r) (hy:opv l y=some (.iface t v)) (hx:opvs l xs=some vs) (hd:Nat.blt d n=true)
    (h:∀ v w' O',St T w O w' O'→R v w' O'→owp P n ops Q rest ((d,v) :: l) w'):owp P n ops Q (⟨some d,.call { callee:=.invoke y name,args:=xs.toArray,argTypes:=ts },ty,pos,aft,none⟩ :: rest) l w :=
  Of hm hy hx hd hc fun v w' ⟨O',hS,hR⟩=>h v w' O' hS hR
theorem Jx {f:FuncId} [Callable P f] {y:Operand} {name:String} {t:TypeId} {v r:Value} {xs:List Operand} {vs:List Value} {ts:Array TypeId} {O:Lab} {A:Nat→Prop} {R:World→(Nat→Prop)→Value→Prop} (hc:Fn P f (r :: vs) w fun v w'=>Ext w w'∧R w' (upA A w w') v) (hm:Mth P t v name w f r) (hy:opv l y=some (.iface t v)) (hx:opvs l xs=some vs) (hd:Nat.blt d n=true)
    (h:∀ v w' O',St nT w O w' O'→R w' (upA A w w') v→owp P n ops Q rest ((d,v) :: l) w'):owp P n ops Q (⟨some d,.call { callee:=.invoke y name,args:=xs.toArray,argTypes:=ts },ty,pos,aft,none⟩ :: rest) l w :=
  Of hm hy hx hd hc fun v w' ⟨hE,hR⟩=>h v w' (upO O w.heap.size fun _=>0) (hE.st O _) hR
end
def quoT (a b:Int):Option Int:=if 0 < b then some (if 0≤a then a / b else -((-a) / b)) else none
theorem Og {a b r:Int} (h:quoT a b=some r) (ha:inI64 a):inI64 r:=by
  unfold quoT at h
  split at h
  · rename_i hb
    rw [← sm h]
    unfold inI64 at *
    split
    · rename_i h0
      have:=Int.ediv_le_self b h0
      have:=Int.ediv_nonneg h0 (show 0≤b by omega)
      omega
    · have h0:0≤-a:=by omega
      have:=Int.ediv_le_self b h0
      have:=Int.ediv_nonneg h0 (show 0≤b by omega)
      omega
  · cases h
theorem Su {P:Program} {l:Env} {w:World} {dst:Option Tmp} {ty:TypeId} {pos:String} {aft:Array Edge} {t u:TypeId} {x y:Operand} {a b c:Int} (hx:opv l x=some (.int .i64 a)) (hy:opv l y=some (.int .i64 b)) (he:quoT a b=some c) (hr:inI64 a):Ev P ⟨dst,.binOp .quo t x y u,ty,pos,aft,none⟩ l w (.int .i64 c):=fun _ _ d ha=>by
  have hc:=Og he hr
  unfold quoT at he
  split at he
  · rename_i hb
    have hn:b≠0:=by omega
    have h1:a.tdiv b=c:=by
      rw [← sm he]
      split
      · rename_i h0;exact Int.tdiv_eq_ediv_of_nonneg h0
      · rw [← Int.tdiv_eq_ediv_of_nonneg (show 0≤-a by omega),Int.neg_tdiv,Int.neg_neg]
    simp [execOp,ha.eval hx,ha.eval hy,eqGuard,binOp,Op.intDiv,hn,h1,wrap_i64 hc.1 hc.2]
  · cases he
structure An (t:TypeId) (α:Type) where
  x:α
instance {t:TypeId} {α:Type} [Rp α]:Rp (An t α) where
  isAgg:=false
  size:=1
  R w F cs a:=∃ v,cs=[.iface t v]∧Vb w F v a.x
  len:=by rintro w F cs x ⟨v,rfl,_⟩;rfl
  one:=by
    rintro w F cs x ⟨v,rfl,_⟩ u hu
    have:u=.iface t v:=by simpa using hu
    subst this;rfl
  agree:=by rintro w w' F cs x ⟨v,rfl,h⟩ ha;exact ⟨v,rfl,h.agree ha⟩
  mono:=by rintro w F G cs x ⟨v,rfl,h⟩ ha;exact ⟨v,rfl,h.mono ha⟩
theorem Vb.any {w:World} {F:Nat→Prop} {v:Value} {t:TypeId} {α:Type} [Rp α] {x:An t α} (h:Vb w F v x):∃ u,v=.iface t u∧Vb w F u x.x:=by
  obtain ⟨u,hu,h'⟩:=h
  exact ⟨u,by simpa using hu,h'⟩
theorem vAny {w:World} {F:Nat→Prop} {v:Value} {t:TypeId} {α:Type} [Rp α] {x:α} (h:Vb w F v x):Vb w F (.iface t v) (⟨x⟩:An t α):=⟨v,rfl,h⟩
section
variable {P : Program} {l : Env} {w : World} {dst : Option Tmp} {ty : TypeId} {pos : String} {aft : Array Edge}
theorem Sv {t:TypeId} [hk:TCon P t] {x:Operand} {v:Value} (hx:opv l x=some v):Ev P ⟨dst,.makeInterface t x,ty,pos,aft,none⟩ l w (.iface t v):=fun _ a d ha=>by
  obtain ⟨q,h1,h2⟩:=hk.eq
  cases q<;>first|(cases h2;done)|simp [execOp,ha.eval hx,Instr.makeInterface,run_underlying h1]
theorem Sw {s t:TypeId} [hk:TCon P t] {x:Operand} {v:Value} (hx:opv l x=some (.iface t v)):Ev P ⟨dst,.typeAssert x s t true,ty,pos,aft,none⟩ l w (.tuple #[v,.bool true]):=fun _ a d ha=>by
  obtain ⟨q,h1,h2⟩:=hk.eq
  cases q<;>first|(cases h2;done)|simp [execOp,ha.eval hx,Instr.typeAssert,run_underlying h1]
end
section
variable {P : Program} {n : Nat} {ops : Array Oper} {Q : Post} {S : World → Prop} {rest : List Oper} {r : List (Nat × Bool)} {l : Env} {w : World} {d i : Nat} {ty : TypeId} {pos : String} {aft : Array Edge}
theorem Tn {t u:TypeId} {x y:Operand} {a b c:Int} (hx:opv l x=some (.int .i64 a)) (hy:opv l y=some (.int .i64 b)) (hd:Nat.blt d n=true) (h:owp P n ops Q rest ((d,.int .i64 c) :: l) w) (he:quoT a b=some c:=by assumption) (hr:inI64 a:=by assumption):owp P n ops Q (⟨some d,.binOp .quo t x y u,ty,pos,aft,none⟩ :: rest) l w:=Bg (Su hx hy he hr) hd h
theorem Mv {t:TypeId} [TCon P t] {x:Operand} {v:Value} (hx:opv l x=some v) (hd:Nat.blt d n=true) (h:owp P n ops Q rest ((d,.iface t v) :: l) w):owp P n ops Q (⟨some d,.makeInterface t x,ty,pos,aft,none⟩ :: rest) l w:=Bg (Sv hx) hd h
theorem QX {s t:TypeId} [TCon P t] {x:Operand} {v:Value} (hx:opv l x=some (.iface t v)) (hd:Nat.blt d n=true) (h:owp P n ops Q rest ((d,.tuple #[v,.bool true]) :: l) w):owp P n ops Q (⟨some d,.typeAssert x s t true,ty,pos,aft,none⟩ :: rest) l w:=Bg (Sw hx) hd h
end
end
section
open Go Go.RowKit
attribute [local irreducible] ewp owp hwp hwq hws Ev Evg Fn retPost loud loudS Res1
attribute [local irreducible] hwx loudX
def Cg (xs:List U64):Option (List U64):=if xs.length * 8≤140737488355328∧xs.length≤9223372036854775807 then some xs else none
theorem Gt {w:World} {A:Nat→Prop} (hA:∀ k,A k→k < w.heap.size) {v0:Value} {x0:List U64} (h0:Vb w A v0 x0) {r:List U64} (hm:Cg x0=some r) :
    Fn Tryz.prog 90 [v0] w fun v w'=>Ext w w'∧RowR w w' (upA A w w') 167 v r:=by
  obtain ⟨⟨hl,a0⟩,rfl⟩:=Fp hm
  obtain ⟨O,hB,b0⟩:=enter hA
  replace h0:=h0.mono b0
  obtain ⟨Ad,c,rfl⟩:=h0.form
  refine AH Tryz.func90 rfl Tryz.ntmps90 rfl ?_
  cases Ad with
  | none =>
    have hx:x0=[]:=by
      cases x0 with
      | nil=>rfl
      | cons x xs=>obtain ⟨_,_,_,h,_⟩:=h0.elem (k:=0) (x:=x) rfl;cases h
    subst hx
    ((repeat (first|refine Aw ?_|refine Ah rfl ?_|refine Ae rfl ?_))<;>(refine Au rfl rfl ?_<;>(refine o_z ?_))<;>(repeat (first|refine Aw ?_|refine Ah rfl ?_|refine Ae rfl ?_))<;>(refine Ar rfl rfl ?_<;>refine GS rfl rfl ?_<;>(refine o_z ?_))<;>(repeat (first|refine Aw ?_|refine Ah rfl ?_|refine Ae rfl ?_))<;>(refine Au rfl rfl ?_<;>(refine o_z ?_))<;>(repeat (first|refine Aw ?_|refine Ah rfl ?_|refine Ae rfl ?_)))
    exact ret1 rfl rfl ⟨Below.refl _ _,RowR.nil⟩
  | some ad =>
    ((repeat (first|refine Aw ?_|refine Ah rfl ?_|refine Ae rfl ?_))<;>(refine Au rfl rfl ?_<;>(refine o_z ?_))<;>(repeat (first|refine Aw ?_|refine Ah rfl ?_|refine Ae rfl ?_))<;>(refine Ar rfl rfl ?_<;>refine GS rfl rfl ?_<;>(refine o_z ?_))<;>(repeat (first|refine Aw ?_|refine Ah rfl ?_|refine Ae rfl ?_)))
    refine Bv 2 (by decide) O (xs:=([]:List U64)) rfl rfl rfl rfl trivial (by decide) (by decide) rfl fun g w1 O1 S1 h1=>?_
    replace hB:=hB.st S1 (fun h=>h) (fun h=>h)
    replace h0:=h0.st S1 (fun h=>h)
    (refine Ar rfl rfl ?_)
    refine Bw rfl h1 h0.rd rfl rfl (by decide) (by simpa using hl) (by simpa using a0) rfl fun A2 c2 w2 O2 S2 h2=>?_
    replace hB:=hB.st S2 (by decide) (by decide)
    rw [List.nil_append] at h2 ⊢
    (refine Au rfl rfl ?_<;>(refine o_z ?_))
    repeat (first|refine Aw ?_|refine Ah rfl ?_|refine Ae rfl ?_)
    exact ret1 rfl rfl ⟨hB.ext,h2.out hB (by decide)⟩
structure PFd where
  word:Int
  bit:Int
  width:Int
  size:Int
instance:Rp PFd where
  isAgg:=true
  size:=4
  R w F cs x:=cs=[.int .i64 x.word,.int .i64 x.bit,.int .i64 x.width,.int .i64 x.size]∧inI64 x.word∧inI64 x.bit∧inI64 x.width∧inI64 x.size
  len:=by rintro w F cs x ⟨rfl,h0,h1,h2,h3⟩;rfl
  one:=by rintro w F cs x ⟨rfl,h0,h1,h2,h3⟩ u hu;simp at hu;rcases hu with rfl|rfl|rfl|rfl<;>first|rfl|exact Vb.one rfl (by assumption)
  agree:=by rintro w w' F cs x ⟨rfl,h0,h1,h2,h3⟩ ha;exact ⟨rfl,h0,h1,h2,h3⟩
  mono:=by rintro w F G cs x ⟨rfl,h0,h1,h2,h3⟩ ha;exact ⟨rfl,h0,h1,h2,h3⟩
structure Pkr where
  fields:List PFd
  words:Int
instance:Ow Pkr where
  R w F M v x:=∃ (g:Nat) (L:Lab) (c0:Value),v=.pointer (some ⟨g,0,none⟩)∧Blk w g 165 [c0,.int .i64 x.words]∧M g∧L g=0∧RwM w F (fun k=>M k∧L k=1) 169 c0 x.fields∧inI64 x.words
  agree:=by rintro w w' F M v x ⟨g,L,c0,rfl,hb,hM,hL,h0,h1⟩ a1 a2;exact ⟨g,L,c0,rfl,hb.keep (a2 g hM),hM,hL,h0.agree a1 fun k hk=>a2 k hk.1,h1⟩
  mono:=by rintro w F M F' M' v x ⟨g,L,c0,rfl,hb,hM,hL,h0,h1⟩ a1 a2 a3;exact ⟨g,L,c0,rfl,hb,a2 g hM,hL,h0.mono a1 (fun k hk=>⟨a2 k hk.1,hk.2⟩) fun k hf hm=>a3 k hf hm.1,h1⟩
instance:OwP Pkr:=⟨by rintro w F M v x ⟨g,L,c0,rfl,_⟩;exact ⟨g,rfl⟩⟩
theorem Pkr.opn {i:Nat} {w:World} {O:Lab} {p:Nat} {x:Pkr} (h:Ob i w O (.pointer (some ⟨p,0,none⟩)) x) (l0 l1:Nat) (hl:l0≠0∧l1≠0):∃ (O':Lab) (c0:Value),St (eT i) w O w O'∧(∀ k,Fr i w O k→∃ q,q∈[l0,l1]∧Fr q w O' k)∧Lc l0 w O' p 165 [c0,.int .i64 x.words]∧Rw l1 w O' 169 c0 x.fields∧inI64 x.words:=by
  obtain ⟨⟨g,L,c0,hv,hb,hM,hL,h0,h1⟩,hi⟩:=h
  obtain rfl:p=g:=by injection hv with hv;injection hv with hv;injection hv
  exact ⟨part O i L [l0,l1],c0,JY hi,Iu (by simp),⟨hb,(Fh (j:=0) rfl p ⟨hM,hL⟩).2⟩,h0.rw (Ed hi) (Fh (j:=1) rfl) hl.2,h1⟩
theorem Pkr.shut {w:World} {O:Lab} {p:Nat} {x:Pkr} {l0 l1:Nat} {c0:Value} (hd:¬ 0∈[l0,l1]∧[l0,l1].idxOf l0=0∧[l0,l1].idxOf l1=1) (hb:Lc l0 w O p 165 [c0,.int .i64 x.words]) (h0:Rw l1 w O 169 c0 x.fields) (h1:inI64 x.words):∃ O',St (·∈[l0,l1]) w O w O'∧(∀ k,Fr 0 w O k→Fr 0 w O' k)∧(∀ q,q∈[l0,l1]→∀ k,Fr q w O k→Fr l0 w O' k)∧Ob l0 w O' (.pointer (some ⟨p,0,none⟩)) x:=by
  have hb1:l0≠0:=fun e=>hd.1 (by simp [e])
  have hg:=EB (i:=l0) hd.2.1 (by simp) p ⟨hb.1.lt,hb.2⟩
  exact ⟨whole O l0 [l0,l1],Iv,CQ hd.1,HI,⟨p,fun k=>[l0,l1].idxOf (O k),c0,rfl,hb.1,hg.1,hg.2,h0.m (CQ hd.1) (EB hd.2.2 (by simp)) (fun k a b=>frNe0 hb1 k a b.1),h1⟩,hb1⟩
noncomputable def ET (x0:List Int):Option ((Option Pkr)×Err) :=
  if 64 < (x0.length:Int) then (some (none,(⟨5⟩:Err))) else (bnd (rng (ρ:=(Option Pkr)×Err) (fun (k25:Nat) (a26:Int) (s23:Int×Pkr)=>bnd (if a26 < 1 then (some true) else (if 64 < a26 then (some true) else (some false)):Option Bool) fun y48=>if y48=true then (some (.ret (none,(⟨1⟩:Err)))) else (bnd (lop (ρ:=Ctl (Int×Pkr) ((Option Pkr)×Err)) (fun (s61:Int)=>bnd (shlI 1 s61) fun n76=>if n76 < a26 then (bnd (chkI (s61 + 1)) fun n80=>some (.next n80)) else (some (.brk s61))) 0) fun res59=>fin res59 fun (s87:Int)=>bnd (bnd (chkI (s23.1 + s87)) fun n95=>if 64 < n95 then (bnd (chkI (s23.2.words + 1)) fun n109=>some (0,(⟨s23.2.fields,n109⟩:Pkr))) else (some (s23.1,s23.2)):Option (Int×Pkr)) fun y89=>bnd (chkI (y89.2.words - 1)) fun n133=>bnd (appI 32 y89.2.fields [(⟨n133,y89.1,s87,a26⟩:PFd)]) fun u142=>bnd (chkI (y89.1 + s87)) fun n155=>some (.next (n155,(⟨u142,y89.2.words⟩:Pkr))))) x0 0 (0,(⟨([]:List PFd),1⟩:Pkr))) fun res21=>fin res21 fun (s167:Int×Pkr)=>some ((some s167.2),(⟨0⟩:Err)))
theorem ON {w:World} {O:Lab} {vx0:Value} {x0:List Int} (b0:Vb w (Fr 0 w O) vx0 x0) (j0:Nat) (hj0:j0≠0) {r:(Option Pkr)×Err} (hm:ET x0=some r) :
    Fn Tryz.prog 89 [vx0] w fun v w'=>∃ O',St nT w O w' O'∧∃ v0 v1:Value,v=.tuple #[v0,v1]∧Obo j0 w' O' v0 r.1∧Vb w' (Fr 0 w' O') v1 r.2:=by
 obtain ⟨O0,hE,q3⟩:=ent0 (w:=w) (O:=O)
 have hB:Bm w O0 w O0:=Bm.refl
 replace b0:=b0.mono q3
 obtain ⟨A2,c3,rfl⟩:=b0.form
 refine AH Tryz.func89 rfl Tryz.ntmps89 rfl ?_
 unfold ET at hm
 refine Al (Aj (Au rfl rfl (Au rfl rfl (o_z ?_))))
 refine Al (Al (Aj (Ar rfl rfl (AP rfl rfl ?_))))
 have l5:x0.length≤9223372036854775807:=Nat.le_trans b0.len.2.1 b0.len.2.2
 have r4:inI64 (x0.length:Int):=rngNat l5
 refine Ce rfl rfl rfl (fun c6=>?_) fun c6=>?_
 ·
  replace hm:=ip hm c6
  refine o_z ?_
  refine Ah rfl (Al (Aj (EQ rfl rfl ?_)))
  refine Au rfl rfl (Au rfl rfl (o_z ?_))
  refine AK ?_
  obtain rfl:=sm hm
  obtain ⟨O',hS',hz,hl⟩:=hE.leave (fun _=>0) rfl hB
  exact ret2 rfl (AB rfl) (AB rfl) ⟨O',hS',_,_,rfl,rfl,(vErr (by decide))⟩
 replace hm:=im hm c6
 refine o_z ?_
 refine Ae rfl (AO (Al (Aj (Cw rfl rfl rfl ?_))))
 refine Da 2 O0 rfl rfl fun g7 w8 O9 x1 y1=>?_
 replace y1:Lc 2 w8 O9 g7 165 [(.slice none 0 0),(.int .i64 1)]:=y1
 refine Au rfl rfl (o_z ?_)
 refine Al (Aj (Au rfl rfl (o_z ?_)))
 refine Al (Al (Aj (Ar rfl rfl (AP rfl rfl ?_))))
 replace b0:=b0.st x1
 have z1:x0.length≤9223372036854775807:=Nat.le_trans b0.len.2.1 b0.len.2.2
 have d5:inI64 (x0.length:Int):=rngNat z1
 refine Ar rfl rfl (o_z ?_)
 have r3:Rw 3 w8 O9 169 (.slice none 0 0) ([]:List PFd):=Rw.nil 3 (by decide)
 obtain ⟨s3,a2,t3,u3,v3⟩:=Pkr.shut (x:=(⟨([]:List PFd),1⟩:Pkr)) (l0:=2) (l1:=3) (by decide) y1 r3 (show inI64 (1) from by decide)
 obtain ⟨b1,b2,hm⟩:=bs hm
 refine AL (aft b1 (fun (g0:Int×Pkr) (s1:Unit)=>[(4,(.pointer (some ⟨g7,0,none⟩)))]) (fun g0 s1 w'=>∃ O':Lab,Bm w O0 w' O'∧Ob 2 w' O' (.pointer (some ⟨g7,0,none⟩)) g0.2∧inI64 g0.1)) ?_ ?_
 ·
  refine AN ?_
  replace b0:=b0.st a2
  replace hB:=(hB.st x1).st a2
  refine Bp (σ:=Int×Pkr) (X:=Unit) (x0.length) b2 rfl z1 (fun (g0:Int×Pkr) (s1:Unit)=>[(4,(.pointer (some ⟨g7,0,none⟩))),(5,(.int .i64 g0.1)),(15,(.slice A2 x0.length c3))]) _ (fun g0 s1 w'=>∃ O':Lab,Bm w O0 w' O'∧Ob 2 w' O' (.pointer (some ⟨g7,0,none⟩)) g0.2∧Vb w' (Fr 0 w' O') (.slice A2 x0.length c3) x0∧inI64 g0.1) _ () ⟨s3,hB,v3,b0,(show inI64 (0) from by decide)⟩ ⟨rfl,rfl,rfl,rfl,rfl,trivial⟩ (fun _ _=>⟨rfl,rfl⟩) (fun _ _=>⟨rfl,trivial⟩) (fun _ _ _ ⟨O',hB,h0,b0,t1⟩=>⟨O',hB,h0,t1⟩) ⟨rfl,rfl,rfl⟩ ⟨rfl,rfl⟩ ?_
  rintro c1 s0 g0 s1 e5 w3 d1 ⟨f5,hB,h0,b0,t1⟩ a0 t0 c2
  have rk25:inI64 (c1:Int):=rngK d1 z1
  refine Al (Aj ?_)
  obtain ⟨g5,h5,x3,d2,e2,f2,rfl,y3⟩:=b0.elem' d1
  refine Bi (hA:=d2) (hj:=rfl) (hlt:=e2) rfl rfl rfl ?_
  refine AE (hc:=cat0 f2) rfl rfl ?_
  refine Au rfl rfl (o_z ?_)
  refine Al (Al ?_)
  obtain ⟨z3,c0,a0⟩:=bs a0
  refine AL (fun l' w'=>∃ (a4:Unit) (O':Lab),subs l' [(4,(.pointer (some ⟨g7,0,none⟩))),(5,(.int .i64 g0.1)),(7,(.int .i64 s0)),(15,(.slice A2 x0.length c3)),(16,(.int .i64 (x0.length:Int))),(17,(.int .i64 (c1:Int))),(26,(.bool z3))]∧Bm w O0 w' O'∧Ob 2 w' O' (.pointer (some ⟨g7,0,none⟩)) g0.2∧Vb w' (Fr 0 w' O') (.slice A2 x0.length c3) x0) ?_ ?_
  ·
   refine Aj (Ar rfl rfl (DM rfl rfl rfl (fun g2=>?_) fun g2=>?_))
   ·
    replace c0:=ip c0 g2
    refine Ar rfl rfl (At rfl rfl rfl rfl (At rfl rfl rfl rfl (AX rfl rfl rfl (o_z ?_))))
    obtain rfl:=sm c0
    exact ⟨(),_,⟨rfl,rfl,rfl,rfl,rfl,rfl,rfl,trivial⟩,hB,h0,b0⟩
   replace c0:=im c0 g2
   refine Ar rfl rfl (Ay rfl rfl (Ar rfl rfl (Ay rfl rfl (Ce rfl rfl rfl (fun h2=>?_) fun h2=>?_))))
   ·
    replace c0:=ip c0 h2
    refine AT rfl rfl rfl (o_z ?_)
    obtain rfl:=sm c0
    exact ⟨(),_,⟨rfl,rfl,rfl,rfl,rfl,rfl,rfl,trivial⟩,hB,h0,b0⟩
   replace c0:=im c0 h2
   refine AT rfl rfl rfl (o_z ?_)
   obtain rfl:=sm c0
   exact ⟨(),_,⟨rfl,rfl,rfl,rfl,rfl,rfl,rfl,trivial⟩,hB,h0,b0⟩
  rintro i5 j5 ⟨a4,b4,i2,hB,h0,b0⟩
  refine AQ _ i2 ?_
  refine CN rfl (fun j2=>?_) (fun j2=>?_)
  ·
   replace a0:=ip a0 j2
   refine Al (Aj (EQ rfl rfl ?_))
   refine Au rfl rfl (Au rfl rfl (o_z ?_))
   refine AK ?_
   obtain rfl:=sm a0
   obtain rfl:=t0 _ rfl
   obtain rfl:=sm (Dc hm)
   obtain ⟨O',hS',hz,hl⟩:=hE.leave (fun _=>0) rfl hB
   exact ret2 rfl (AB rfl) (AB rfl) ⟨O',hS',_,_,rfl,rfl,(vErr (by decide))⟩
  replace a0:=im' a0 j2
  refine AO (Al (Aj (Au rfl rfl (o_z ?_))))
  refine Al ?_
  obtain ⟨e1,k2,a0⟩:=bs a0
  refine AL (aft e1 (fun (q0:Int) (u1:Unit)=>[(4,(.pointer (some ⟨g7,0,none⟩))),(5,(.int .i64 g0.1)),(7,(.int .i64 s0)),(8,(.int .i64 q0)),(15,(.slice A2 x0.length c3)),(16,(.int .i64 (x0.length:Int))),(17,(.int .i64 (c1:Int)))]) (fun q0 u1 w'=>∃ O':Lab,Bm w O0 w' O'∧Ob 2 w' O' (.pointer (some ⟨g7,0,none⟩)) g0.2∧Vb w' (Fr 0 w' O') (.slice A2 x0.length c3) x0∧inI64 q0)) ?_ ?_
  ·
   refine AN (Gz (σ:=Int) (X:=Unit) k2 (fun (q0:Int) (u1:Unit)=>[(4,(.pointer (some ⟨g7,0,none⟩))),(5,(.int .i64 g0.1)),(7,(.int .i64 s0)),(8,(.int .i64 q0)),(15,(.slice A2 x0.length c3)),(16,(.int .i64 (x0.length:Int))),(17,(.int .i64 (c1:Int)))]) _ (fun q0 u1 w'=>∃ O':Lab,Bm w O0 w' O'∧Ob 2 w' O' (.pointer (some ⟨g7,0,none⟩)) g0.2∧Vb w' (Fr 0 w' O') (.slice A2 x0.length c3) x0∧inI64 q0) _ () ⟨b4,hB,h0,b0,(show inI64 (0) from by decide)⟩ ⟨rfl,rfl,rfl,rfl,rfl,rfl,rfl,trivial⟩ ?_)
   rintro q0 u1 k5 c4 ⟨m5,hB,h0,b0,l2⟩ d0 m2 u0
   refine Al (Al (Aj (Ar rfl rfl ?_)))
   obtain ⟨n5,h3,d0⟩:=bs d0
   have o5:=Qe h3
   refine Td (he:=h3) rfl rfl rfl ?_
   refine Ar rfl rfl (DM rfl rfl rfl (fun n2=>?_) fun n2=>?_)
   ·
    replace d0:=ip d0 n2
    refine o_z ?_
    refine Ah rfl (AO (AN (Aj (Ar rfl rfl ?_))))
    obtain ⟨p5,i3,d0⟩:=bs d0
    have d4:=(AW i3)
    refine Dv (he:=i3) rfl rfl rfl ?_
    refine Au rfl rfl (o_z ?_)
    obtain rfl:=sm d0
    exact show Exists _ from ⟨_,(),rfl,⟨rfl,rfl,rfl,rfl,rfl,rfl,rfl,trivial⟩,_,hB,h0,b0,d4⟩
   replace d0:=im d0 n2
   refine o_z ?_
   refine Ae rfl (DN ?_)
   obtain rfl:=sm d0
   exact show Exists _ from ⟨_,(),u0 _ rfl,⟨rfl,rfl,rfl,rfl,rfl,rfl,rfl,trivial⟩,_,hB,h0,b0,l2⟩
  rintro q5 r5 ⟨w1,s5,rfl,o2,t5,hB,h0,b0,l2⟩
  replace a0:=AV a0
  refine AQ _ o2 ?_
  refine Al ?_
  obtain ⟨r0,e0,a0⟩:=bs a0
  refine AL (fun l' w'=>∃ (e4:Unit) (O':Lab),subs l' [(4,(.pointer (some ⟨g7,0,none⟩))),(5,(.int .i64 r0.1)),(7,(.int .i64 s0)),(8,(.int .i64 w1)),(15,(.slice A2 x0.length c3)),(16,(.int .i64 (x0.length:Int))),(17,(.int .i64 (c1:Int)))]∧Bm w O0 w' O'∧Ob 2 w' O' (.pointer (some ⟨g7,0,none⟩)) r0.2∧Vb w' (Fr 0 w' O') (.slice A2 x0.length c3) x0∧inI64 r0.1) ?_ ?_
  ·
   refine Al (Aj (Ar rfl rfl (Ar rfl rfl ?_)))
   obtain ⟨u5,j3,e0⟩:=bs e0
   have v5:=(AW j3)
   refine Dv (he:=j3) rfl rfl rfl ?_
   refine Ce rfl rfl rfl (fun p2=>?_) fun p2=>?_
   ·
    replace e0:=ip e0 p2
    refine o_z ?_
    refine Ah rfl (Al (Aj (Ar rfl rfl (CI rfl rfl ?_))))
    obtain ⟨f4,g4,f1,k3,i0,m0,h4⟩:=Pkr.opn h0 2 4 (by decide)
    obtain ⟨q2,r2,rfl⟩:=m0.form
    refine AG rfl rfl (AE (hc:=Blk.cell (i:=1) (i0.1) rfl) rfl rfl ?_)
    obtain ⟨g1,h1,e0⟩:=bs e0
    have s2:=(AW h1)
    refine Dv (he:=h1) rfl rfl rfl ?_
    refine CI rfl rfl (AG rfl rfl (AR i0 rfl rfl rfl (Ba rfl) (allOne rfl) fun t2 w0 i0=>?_))
    replace i0:Lc 2 t2 f4 g7 165 [(.slice q2 g0.2.fields.length r2),(.int .i64 g1)]:=i0
    refine o_z ?_
    refine Aj (Au rfl rfl (o_z ?_))
    replace m0:=m0.st w0
    obtain ⟨i4,i1,l3,m3,u2⟩:=Pkr.shut (x:=(⟨g0.2.fields,g1⟩:Pkr)) (l0:=2) (l1:=4) (by decide) i0 m0 s2
    obtain rfl:=sm e0
    exact ⟨(),_,⟨rfl,rfl,rfl,rfl,rfl,rfl,rfl,trivial⟩,((hB.st f1).st w0).st i1,u2,((b0.st f1).st w0).st i1,(show inI64 (0) from by decide)⟩
   replace e0:=im e0 p2
   refine o_z ?_
   refine Ae rfl (AO ?_)
   obtain rfl:=sm e0
   exact ⟨(),_,⟨rfl,rfl,rfl,rfl,rfl,rfl,rfl,trivial⟩,hB,h0,b0,t1⟩
  rintro j4 k4 ⟨e4,l4,j1,hB,m4,b0,n4⟩
  refine AQ _ j1 ?_
  refine Al ?_
  obtain ⟨k1,o4,m1,n3,f0,n0,v2⟩:=Pkr.opn m4 2 4 (by decide)
  obtain ⟨p4,q4,rfl⟩:=n0.form
  refine BC [(15,[4])] k1 ?_
  refine AY (fuel:=6) [] [(1,true),(2,true),(3,true),(4,true),(5,true),(6,true),(7,true),(8,true),(9,true),(10,true),(11,true),(12,true),(13,true)] (by kernel_rfl) rfl ?_
  refine AJ rfl rfl rfl (Ec rfl rfl rfl (Bc rfl rfl rfl (AZ (hc:=fun w' ⟨O',hq⟩=>Blk.cell (i:=0) ((f0.st hq (by decide)).1) rfl) rfl rfl rfl ?_)))
  refine AJ rfl rfl rfl (Ec rfl rfl rfl (Bc rfl rfl rfl (AZ (hc:=fun w' ⟨O',hq⟩=>Blk.cell (i:=1) ((f0.st hq (by decide)).1) rfl) rfl rfl rfl ?_)))
  obtain ⟨y0,n1,a0⟩:=bs a0
  have w2:=(AW n1)
  refine SZ (he:=n1) rfl rfl rfl rfl ?_
  refine AJ rfl rfl rfl (AJ rfl rfl rfl (AJ rfl rfl rfl (Gi rfl rfl rfl rfl ?_)))
  refine AM ?_
  refine AY (fuel:=5) [4] [(0,true)] (by kernel_rfl) rfl ?_
  refine AJ rfl rfl rfl (AM ?_)
  refine Bb (i:=14) (by kernel_rfl) rfl ?_
  refine Bv 5 (by decide) k1 (xs:=([(⟨y0,r0.1,w1,s0⟩:PFd)]:List PFd)) rfl rfl rfl rfl ⟨(Vb.ofAgg (cs:=[(.int .i64 y0),(.int .i64 r0.1),(.int .i64 w1),(.int .i64 s0)]) (x:=(⟨y0,r0.1,w1,s0⟩:PFd)) rfl ⟨rfl,w2,n4,l2,y3⟩),trivial⟩ (by decide) (by decide) rfl fun s4 t4 u4 k0 x2=>?_
  have hZ:=k0.lst [] (fun _ h=>h.elim)
  refine BG [(15,[4])] hZ (by kernel_rfl) ?_
  refine Bb (i:=15) (by kernel_rfl) rfl ?_
  obtain ⟨o1,z0,a0⟩:=bs a0
  obtain ⟨z0,y2,z2⟩:=AU z0
  replace n0:=n0.st k0
  refine Bw rfl n0 (x2.rd) rfl rfl (by decide) y2 z2 rfl fun a3 b3 v4 d3 o0 p0=>?_
  rw [← z0] at p0 ⊢
  have hZ:=o0.lst [4] (fun _ h=>by cases h;decide)
  refine BG [] hZ (by kernel_rfl) ?_
  refine AY (fuel:=1) [] [(16,true),(17,true)] (by kernel_rfl) rfl ?_
  refine Ec rfl rfl rfl (Bc rfl rfl rfl (AM ?_))
  refine Bb (i:=18) (by kernel_rfl) rfl ?_
  replace f0:=(f0.st k0).st o0
  refine AR f0 rfl rfl rfl (Ba rfl) (allOne rfl) fun e3 a1 f0=>?_
  replace f0:Lc 2 e3 d3 g7 165 [(.slice a3 o1.length b3),(.int .i64 r0.2.words)]:=f0
  refine Dm (by kernel_rfl) ?_
  refine Cn (by kernel_rfl) ?_
  refine Aj (Ar rfl rfl (Ar rfl rfl ?_))
  obtain ⟨w4,p1,a0⟩:=bs a0
  have f3:=(AW p1)
  refine Dv (he:=p1) rfl rfl rfl ?_
  refine Au rfl rfl (o_z ?_)
  replace p0:=p0.st a1
  obtain ⟨x4,q1,o3,p3,g3⟩:=Pkr.shut (x:=(⟨o1,r0.2.words⟩:Pkr)) (l0:=2) (l1:=4) (by decide) f0 p0 v2
  obtain rfl:=sm a0
  exact show Exists _ from ⟨_,(),rfl,⟨rfl,rfl,rfl,rfl,rfl,trivial⟩,_,((((hB.st m1).st k0).st o0).st a1).st q1,g3,((((b0.st m1).st k0).st o0).st a1).st q1,f3⟩
 replace hB:=(hB.st x1).st a2
 rintro y4 z4 ⟨a5,b5,rfl,r1,c5,hB,h0,t1⟩
 replace hm:=AV hm
 refine AQ _ r1 ?_
 refine Al (Aj (Ar rfl rfl (Au rfl rfl (Au rfl rfl (o_z ?_)))))
 refine AK ?_
 obtain rfl:=sm hm
 obtain ⟨O',hS',hz,hl⟩:=hE.leave (fun q=>if q=2 then j0 else 0) rfl hB
 exact ret2 rfl (AB rfl) (AB rfl) ⟨O',hS',_,_,rfl,(Ob.leave h0 hz (hl 2 (by decide) (by decide)) hj0),(vErr (show inI64 0 from by decide))⟩
noncomputable def CH (x0:PFd):Option U64 :=
  bnd (shlU (1:U64) x0.width) fun n12=>bnd (shlU (n12 - (1:U64)) x0.bit) fun n14=>some n14
theorem GX {w:World} {A:Nat→Prop} (hA:∀ k,A k→k < w.heap.size) {vx0:Value} {x0:PFd} (b0:Vb w A vx0 x0) {r:U64} (hm:CH x0=some r) :
    Fn Tryz.prog 92 [vx0] w fun v w'=>Ext w w'∧Vb w' (upA A w w') v r:=by
 obtain ⟨O,hB,d0⟩:=enter hA
 replace b0:=b0.mono d0
 obtain ⟨h0,rfl,rfl,r3,r4,r5,r6⟩:=b0
 refine AH Tryz.func92 rfl Tryz.ntmps92 rfl ?_
 unfold CH at hm
 refine Al (Aj (Da 2 O rfl rfl fun g7 w8 O9 e0 a0=>?_))
 replace a0:Lc 2 w8 O9 g7 169 [(.int .i64 x0.word),(.int .i64 x0.bit),(.int .i64 x0.width),(.int .i64 x0.size)]:=a0
 refine Au rfl rfl (o_z ?_)
 refine Al (Cr (·=w8) [(0,true),(1,true),(2,true),(3,true),(4,true),(5,true),(6,true),(7,true)] (by kernel_rfl) rfl (by kernel_rfl) rfl ?_)
 refine Bc rfl rfl rfl (Cm (hc:=Blk.cell (i:=2) (a0.1) rfl) rfl rfl rfl ?_)
 obtain ⟨c0,f0,hm⟩:=bs hm
 refine OL (a:=(1:U64)) (he:=f0) rfl rfl rfl rfl ?_
 refine Tj (a:=c0) (b:=(1:U64)) rfl rfl rfl rfl ?_
 refine Bc rfl rfl rfl (Cm (hc:=Blk.cell (i:=1) (a0.1) rfl) rfl rfl rfl ?_)
 obtain ⟨i0,g0,hm⟩:=bs hm
 refine OL (a:=(c0 - (1:U64))) (he:=g0) rfl rfl rfl rfl ?_
 refine De rfl rfl rfl (h_z ?_)
 refine AK ?_
 obtain rfl:=sm hm
 replace hB:=hB.st e0
 exact ret1v rfl (AB rfl) ⟨hB.ext,vU64⟩
noncomputable def Dh (x0:PFd) (x1:List U64):Option Int :=
  bnd (atI x1 x0.word) fun a15=>bnd (CH x0) fun q26=>bnd (shrU (a15 &&& q26) x0.bit) fun n33=>some n33.toInt
theorem KC {w:World} {A:Nat→Prop} (hA:∀ k,A k→k < w.heap.size) {vx0:Value} {x0:PFd} (d0:Vb w A vx0 x0) {vx1:Value} {x1:List U64} (a0:Vb w A vx1 x1) {r:Int} (hm:Dh x0 x1=some r) :
    Fn Tryz.prog 91 [vx0,vx1] w fun v w'=>Ext w w'∧Vb w' (upA A w w') v r:=by
 obtain ⟨O,hB,k0⟩:=enter hA
 replace d0:=d0.mono k0
 obtain ⟨y0,rfl,rfl,r4,r5,r6,r7⟩:=d0
 replace a0:=a0.mono k0
 obtain ⟨A8,c9,rfl⟩:=a0.form
 refine AH Tryz.func91 rfl Tryz.ntmps91 rfl ?_
 unfold Dh at hm
 refine Al (Aj (Da 2 O rfl rfl fun o0 e0 c0 l0 b0=>?_))
 replace b0:Lc 2 e0 c0 o0 169 [(.int .i64 x0.word),(.int .i64 x0.bit),(.int .i64 x0.width),(.int .i64 x0.size)]:=b0
 refine Au rfl rfl (o_z ?_)
 refine Al (BC [] c0 ?_)
 refine AY (fuel:=5) [] [(0,true),(1,true),(2,true),(3,true),(4,true),(5,true),(8,true),(9,true)] (by kernel_rfl) rfl ?_
 refine AJ rfl rfl rfl (Bc rfl rfl rfl (AZ (hc:=fun w' ⟨O',hq⟩=>Blk.cell (i:=0) ((b0.st hq (by decide)).1) rfl) rfl rfl rfl ?_))
 obtain ⟨m0,p0,hm⟩:=bs hm
 obtain ⟨q0,r0⟩:=AS p0
 replace a0:=a0.st l0
 obtain ⟨z0,a1,s0,f0,g0,h0,i0,rfl⟩:=a0.elem r0
 refine BP (hA:=f0) (hj:=(Int.toNat_of_nonneg q0).symm) (hlt:=h0) rfl rfl rfl rfl ?_
 refine AZ (hc:=fun w' ⟨O',hq⟩=>cat0 (Bh (hq.agree (i:=0) (by decide)) g0 i0)) rfl rfl rfl ?_
 refine Hd (hl:=rfl) (hb:=fun w' ⟨O',hq⟩=>((b0.st hq (by decide)).1).cellsAt) rfl rfl rfl ?_
 refine Bc rfl rfl rfl (AZ (hc:=fun w' ⟨O',hq⟩=>Blk.cell (i:=1) ((b0.st hq (by decide)).1) rfl) rfl rfl rfl ?_)
 refine AM ?_
 refine Bb (i:=6) (by kernel_rfl) rfl ?_
 obtain ⟨j0,t0,hm⟩:=bs hm
 refine BE (O:=c0) (A:=All e0) (R:=fun w' F v=>Vb w' F v j0) (GX (fun _ h=>h) (Vb.mono (F:=Fr 0 e0 c0) (Vb.ofAgg (cs:=[(.int .i64 x0.word),(.int .i64 x0.bit),(.int .i64 x0.width),(.int .i64 x0.size)]) (x:=x0) rfl ⟨rfl,r4,r5,r6,r7⟩) Fr.lt) t0) rfl rfl fun b1 c1 d1 n0 u0=>?_
 obtain rfl:=u0.u64
 have hZ:=n0.lst [] (fun _ h=>h.elim)
 refine BG [] hZ (by kernel_rfl) ?_
 refine AY (fuel:=0) [] [(7,true),(10,true),(11,true),(12,true)] (by kernel_rfl) rfl ?_
 refine Tg (a:=m0) (b:=j0) rfl rfl rfl rfl ?_
 obtain ⟨v0,w0,hm⟩:=bs hm
 refine Tk (a:=(m0 &&& j0)) (he:=w0) rfl rfl rfl rfl ?_
 refine Tm (a:=v0) rfl rfl rfl ?_
 refine De rfl rfl rfl (AM ?_)
 refine Cn (by kernel_rfl) ?_
 refine AK ?_
 obtain rfl:=sm hm
 replace hB:=(hB.st l0).st n0
 exact ret1v rfl (AB rfl) ⟨hB.ext,(vInt (toIntR _))⟩
noncomputable def BX (x0:Pkr) (x1:List Int):Option ((List U64)×Err) :=
  if (x1.length:Int)≠(x0.fields.length:Int) then (some (([]:List U64),(⟨2⟩:Err))) else (bnd (mkI 8 ((0:U64):U64) x0.words) fun u25=>bnd (rng (ρ:=(List U64)×Err) (fun (k50:Nat) (a51:PFd) (s48:(List U64))=>bnd (bnd (x1[k50]?) fun a87=>if a87 < 0 then (some true) else (bnd (x1[k50]?) fun a98=>if a51.size≤a98 then (some true) else (some false)):Option Bool) fun y83=>if y83=true then (some (.ret (([]:List U64),(⟨2⟩:Err)))) else (bnd (atI s48 a51.word) fun a114=>bnd (x1[k50]?) fun a125=>bnd (shlU (BitVec.ofInt 64 a125) a51.bit) fun n135=>bnd (atI s48 a51.word) fun a137=>some (.next (s48.set (a51.word:Int).toNat (a114 ||| n135))))) x0.fields 0 u25) fun res46=>fin res46 fun (s154:(List U64))=>some (s154,(⟨0⟩:Err)))
theorem Jy {w:World} {O:Lab} {p0 i0:Nat} {x0:Pkr} (q0:Ob i0 w O (.pointer (some ⟨p0,0,none⟩)) x0) {vx1:Value} {x1:List Int} (c0:Vb w (Fr 0 w O) vx1 x1) {r:(List U64)×Err} (hm:BX x0 x1=some r) :
    Fn Tryz.prog 95 [(.pointer (some ⟨p0,0,none⟩)),vx1] w fun v w'=>∃ O',St (eT i0) w O w' O'∧∃ v0 v1:Value,Ob i0 w' O' (.pointer (some ⟨p0,0,none⟩)) x0∧v=.tuple #[v0,v1]∧Vb w' (Fr 0 w' O') v0 r.1∧Vb w' (Fr 0 w' O') v1 r.2:=by
 obtain ⟨O0,hE,c3,l3⟩:=ent1 (w:=w) (O:=O) q0.2
 have q0':=Ob.leave q0 c3 l3 (j:=2) (by decide)
 have hB:Bm w O0 w O0:=Bm.refl
 replace c0:=c0.mono c3
 obtain ⟨A3,c4,rfl⟩:=c0.form
 refine AH Tryz.func95 rfl Tryz.ntmps95 rfl ?_
 unfold BX at hm
 refine Al (Aj (Au rfl rfl (Au rfl rfl (o_z ?_))))
 refine Al (Al (Aj (Ar rfl rfl (GR rfl rfl ?_))))
 refine o_z ?_
 refine Ae rfl (AO (Al (Al (Aj (Ar rfl rfl (AP rfl rfl ?_))))))
 have l6:x1.length≤9223372036854775807:=Nat.le_trans c0.len.2.1 c0.len.2.2
 have r5:inI64 (x1.length:Int):=rngNat l6
 refine Ar rfl rfl (CI rfl rfl ?_)
 obtain ⟨O7,c5,S8,m3,h9,k0,d3⟩:=Pkr.opn q0' 2 3 (by decide)
 obtain ⟨a2,b2,rfl⟩:=k0.form
 refine AG rfl rfl (AE (hc:=Blk.cell (i:=0) (h9.1) rfl) rfl rfl ?_)
 refine AP rfl rfl ?_
 have n3:x0.fields.length≤9223372036854775807:=Nat.le_trans k0.len.2.1 k0.len.2.2
 have d5:inI64 (x0.fields.length:Int):=rngNat n3
 refine Hb rfl rfl rfl (fun e2=>?_) fun e2=>?_
 ·
  replace hm:=ip hm e2
  refine o_z ?_
  refine Ah rfl (Al (Aj (EQ rfl rfl ?_)))
  refine Au rfl rfl (Au rfl rfl (o_z ?_))
  refine AK ?_
  obtain ⟨e5,o3,p3,q3,r3⟩:=Pkr.shut (x:=x0) (l0:=2) (l1:=3) (by decide) h9 k0 d3
  obtain rfl:=sm hm
  replace hB:=(hB.st S8).st o3
  obtain ⟨O',hS',hz,hl⟩:=hE.leave (fun q=>if q=2 then i0 else 0) rfl hB
  exact ret2 rfl (AB rfl) (AB rfl) ⟨O',hS',_,_,(Ob.leave r3 hz (hl 2 (by decide) (by decide)) q0.2),rfl,(Vb.mono (Vb.nil _ _) hz),(vErr (by decide))⟩
 replace hm:=im hm e2
 refine o_z ?_
 refine Ae rfl (AO (Al (Aj (Ar rfl rfl (CI rfl rfl (AG rfl rfl (AE (hc:=Blk.cell (i:=1) (h9.1) rfl) rfl rfl ?_)))))))
 obtain ⟨w0,s3,hm⟩:=bs hm
 obtain ⟨y0,t3,u3,v3,w3⟩:=FS s3
 refine Hs 4 (by decide) O7 (z0:=((0:U64):U64)) rfl rfl rfl rfl rfl t3 vU64 u3 v3 rfl fun a1 f5 g5 b1 c2=>?_
 rw [← w3] at c2 ⊢
 refine Au rfl rfl (o_z ?_)
 refine Al (Al (Aj (Ar rfl rfl (CI rfl rfl (AG rfl rfl ?_)))))
 replace h9:=h9.st b1
 refine AE (hc:=Blk.cell (i:=0) (h9.1) rfl) rfl rfl ?_
 refine AP rfl rfl ?_
 replace k0:=k0.st b1
 have f2:x0.fields.length≤9223372036854775807:=Nat.le_trans k0.len.2.1 k0.len.2.2
 have h5:inI64 (x0.fields.length:Int):=rngNat f2
 refine Ar rfl rfl (o_z ?_)
 obtain ⟨x3,c1,g2,h2,e0⟩:=Pkr.shut (x:=x0) (l0:=2) (l1:=3) (by decide) h9 k0 d3
 have f0:=(k0.lend [3] (by decide)).shutS c1 g2 h2 [2] (by decide)
 obtain ⟨d1,i2,hm⟩:=bs hm
 refine AL (aft d1 (fun (r0:(List U64)) (d2:Unit)=>[(6,(.slice (some ⟨a1,0,none⟩) w0.length y0))]) (fun r0 d2 w'=>∃ O':Lab,Bm w O0 w' O'∧Rw 4 w' O' 167 (.slice (some ⟨a1,0,none⟩) w0.length y0) r0∧Ob 2 w' O' (.pointer (some ⟨p0,0,none⟩)) x0)) ?_ ?_
 ·
  refine AN ?_
  replace hB:=((hB.st S8).st b1).st c1
  replace c0:=((c0.st S8).st b1).st c1
  replace c2:=c2.st c1
  refine Bp (σ:=(List U64)) (X:=Unit) (x0.fields.length) i2 rfl f2 (fun (r0:(List U64)) (d2:Unit)=>[(1,(.slice A3 x1.length c4)),(6,(.slice (some ⟨a1,0,none⟩) w0.length y0)),(29,(.slice a2 x0.fields.length b2))]) _ (fun r0 d2 w'=>∃ O':Lab,Bm w O0 w' O'∧Vb w' (Fr 0 w' O') (.slice A3 x1.length c4) x1∧Rw 4 w' O' 167 (.slice (some ⟨a1,0,none⟩) w0.length y0) r0∧Vb w' (FrS [2] w' O') (.slice a2 x0.fields.length b2) x0.fields∧Ob 2 w' O' (.pointer (some ⟨p0,0,none⟩)) x0) _ () ⟨x3,hB,c0,c2,f0,e0⟩ ⟨rfl,rfl,rfl,rfl,rfl,trivial⟩ (fun _ _=>⟨rfl,rfl⟩) (fun _ _=>⟨rfl,trivial⟩) (fun _ _ _ ⟨O',hB,c0,d0,f0,e0⟩=>⟨O',hB,d0,e0⟩) ⟨rfl,rfl,rfl⟩ ⟨rfl,rfl⟩ ?_
  rintro j2 n0 r0 d2 i5 y3 e1 ⟨z3,hB,c0,d0,f0,e0⟩ a0 s0 k2
  have rk50:inI64 (j2:Int):=rngK e1 f2
  refine Al (Aj (Ar rfl rfl ?_))
  obtain ⟨j5,k5,a4,l2,m2,n2,rfl,l5,m5,n5,o5⟩:=f0.elem' e1
  refine Bi (hA:=l2) (hj:=rfl) (hlt:=m2) rfl rfl rfl ?_
  refine Bk (hl:=rfl) (hc:=n2) rfl rfl ?_
  refine BD 5 z3 rfl fun o2 p5 b4 g0 j0=>?_
  replace f0:=f0.stS g0 id (fun _ _=>id)
  refine Au rfl rfl (AR j0 rfl rfl rfl (Ba rfl) (allOne rfl) fun e3 h0 j0=>?_)
  replace j0:Lc 5 e3 b4 o2 169 [(.int .i64 n0.word),(.int .i64 n0.bit),(.int .i64 n0.width),(.int .i64 n0.size)]:=j0
  replace f0:=f0.stS h0 (by decide) (by decide)
  refine o_z ?_
  refine Al (Al ?_)
  obtain ⟨d4,b0,a0⟩:=bs a0
  refine AL (fun l' w'=>∃ (e4:Unit) (O':Lab),subs l' [(1,(.slice A3 x1.length c4)),(6,(.slice (some ⟨a1,0,none⟩) w0.length y0)),(7,(.int .i64 (j2:Int))),(8,(.pointer (some ⟨o2,0,none⟩))),(29,(.slice a2 x0.fields.length b2)),(30,(.int .i64 (x0.fields.length:Int))),(31,(.int .i64 (j2:Int))),(49,(.bool d4))]∧Bm w O0 w' O'∧Vb w' (Fr 0 w' O') (.slice A3 x1.length c4) x1∧Rw 4 w' O' 167 (.slice (some ⟨a1,0,none⟩) w0.length y0) r0∧Lc 5 w' O' o2 169 [(.int .i64 n0.word),(.int .i64 n0.bit),(.int .i64 n0.width),(.int .i64 n0.size)]∧Vb w' (FrS [2] w' O') (.slice a2 x0.fields.length b2) x0.fields∧Ob 2 w' O' (.pointer (some ⟨p0,0,none⟩)) x0) ?_ ?_
  ·
   refine Cr (·=e3) [(0,true),(1,true),(2,true),(3,true),(4,true),(5,true),(6,true),(7,true),(8,true),(9,true),(10,true),(11,true),(12,true),(13,true)] (by kernel_rfl) rfl (by kernel_rfl) rfl ?_
   refine AJ rfl rfl rfl (AJ rfl rfl rfl ?_)
   obtain ⟨q5,f4,b0⟩:=bs b0
   replace c0:=(c0.st g0).st h0
   obtain ⟨s5,t5,g4,p2,q2,r2,rfl,u5⟩:=c0.elem' f4
   refine BP (hA:=p2) (hj:=rfl) (hlt:=q2) rfl rfl rfl rfl ?_
   refine Cm (hc:=cat0 r2) rfl rfl rfl ?_
   refine FA rfl rfl rfl rfl (fun s2=>?_) fun s2=>?_
   ·
    replace b0:=ip b0 s2
    refine AJ rfl rfl rfl (BW rfl rfl rfl rfl rfl (BW rfl rfl rfl rfl rfl (BW rfl rfl rfl rfl rfl (BW rfl rfl rfl rfl rfl (BW rfl rfl rfl rfl rfl (BW rfl rfl rfl rfl rfl (BW rfl rfl rfl rfl rfl (CU rfl rfl rfl rfl (h_z ?_)))))))))
    obtain rfl:=sm b0
    exact ⟨(),_,⟨rfl,rfl,rfl,rfl,rfl,rfl,rfl,rfl,trivial⟩,(hB.st g0).st h0,c0,(d0.st g0).st h0,j0,f0,(e0.st g0).st h0⟩
   replace b0:=im b0 s2
   refine AJ rfl rfl rfl (AA rfl (Az rfl rfl (Cc rfl rfl (AA rfl (Az rfl rfl (Cc rfl rfl (AA rfl (Az rfl rfl ?_))))))))
   obtain ⟨v5,h4,b0⟩:=bs b0
   obtain ⟨i4,j4,f3,f1,g1,h1,rfl,k4⟩:=c0.elem' h4
   refine Ix (hA:=f1) (hj:=rfl) (hlt:=g1) rfl rfl rfl ?_
   refine AA rfl (Az rfl rfl (Bq (hc:=cat0 h1) rfl rfl ?_))
   refine AA rfl (Az rfl rfl (Cs rfl rfl (AA rfl (Az rfl rfl (Bq (hc:=Blk.cell (i:=3) (j0.1) rfl) rfl rfl ?_)))))
   refine AA rfl (Az rfl rfl (Be (fun _ _=>Bf rfl rfl) rfl (fun t0=>?_) (fun t0=>?_)))
   ·
    replace b0:=ip b0 t0
    refine CL rfl rfl rfl rfl (h_z ?_)
    obtain rfl:=sm b0
    exact ⟨(),_,⟨rfl,rfl,rfl,rfl,rfl,rfl,rfl,rfl,trivial⟩,(hB.st g0).st h0,c0,(d0.st g0).st h0,j0,f0,(e0.st g0).st h0⟩
   replace b0:=im b0 t0
   refine CL rfl rfl rfl rfl (h_z ?_)
   obtain rfl:=sm b0
   exact ⟨(),_,⟨rfl,rfl,rfl,rfl,rfl,rfl,rfl,rfl,trivial⟩,(hB.st g0).st h0,c0,(d0.st g0).st h0,j0,f0,(e0.st g0).st h0⟩
  replace hB:=(hB.st g0).st h0
  replace c0:=(c0.st g0).st h0
  replace e0:=(e0.st g0).st h0
  replace d0:=(d0.st g0).st h0
  rintro l4 m4 ⟨e4,t2,i1,hB,c0,d0,j0,f0,e0⟩
  refine AQ _ i1 ?_
  refine CN rfl (fun u0=>?_) (fun u0=>?_)
  ·
   replace a0:=ip a0 u0
   refine Al (Aj (EQ rfl rfl ?_))
   refine Au rfl rfl (Au rfl rfl (o_z ?_))
   refine AK ?_
   obtain rfl:=sm a0
   obtain rfl:=s0 _ rfl
   obtain rfl:=sm (Dc hm)
   obtain ⟨O',hS',hz,hl⟩:=hE.leave (fun q=>if q=2 then i0 else 0) rfl hB
   exact ret2 rfl (AB rfl) (AB rfl) ⟨O',hS',_,_,(Ob.leave e0 hz (hl 2 (by decide) (by decide)) q0.2),rfl,(Vb.mono (Vb.nil _ _) hz),(vErr (by decide))⟩
  replace a0:=im' a0 u0
  refine AO (BC [] t2 ?_)
  refine AY (fuel:=1) [] [(0,true),(1,true),(2,true),(3,true),(4,true),(5,true),(6,true),(7,true),(8,true),(9,true),(10,true),(11,true),(12,true),(13,true),(14,true)] (by kernel_rfl) rfl ?_
  refine AJ rfl rfl rfl (Bc rfl rfl rfl (AZ (hc:=fun w' ⟨O',hq⟩=>Blk.cell (i:=0) ((j0.st hq (by decide)).1) rfl) rfl rfl rfl ?_))
  obtain ⟨j1,u2,a0⟩:=bs a0
  obtain ⟨v2,w2⟩:=AS u2
  obtain ⟨n4,o4,g3,k1,m1,n1,o1,rfl⟩:=d0.elemF w2
  refine BP (hA:=k1) (hj:=(Int.toNat_of_nonneg v2).symm) (hlt:=n1) rfl rfl rfl rfl ?_
  refine AZ (hc:=fun w' ⟨O',hq⟩=>cat0 (Bh (hq.agree (i:=4) (by decide)) m1 o1)) rfl rfl rfl ?_
  refine AJ rfl rfl rfl (AJ rfl rfl rfl ?_)
  obtain ⟨x2,y2,a0⟩:=bs a0
  obtain ⟨p4,q4,h3,p1,q1,r1,s1,rfl,r4⟩:=c0.elem y2
  refine BP (hA:=p1) (hj:=rfl) (hlt:=r1) rfl rfl rfl rfl ?_
  refine AZ (hc:=fun w' ⟨O',hq⟩=>cat0 (Bh (hq.agree (i:=0) (by decide)) q1 s1)) rfl rfl rfl ?_
  refine Tl rfl rfl rfl ?_
  refine Bc rfl rfl rfl (AZ (hc:=fun w' ⟨O',hq⟩=>Blk.cell (i:=1) ((j0.st hq (by decide)).1) rfl) rfl rfl rfl ?_)
  obtain ⟨t1,z2,a0⟩:=bs a0
  refine OL (a:=(BitVec.ofInt 64 x2)) (he:=z2) rfl rfl rfl rfl ?_
  refine Th (a:=j1) (b:=t1) rfl rfl rfl rfl ?_
  obtain ⟨s4,a3,a0⟩:=bs a0
  obtain ⟨b3,u1⟩:=AS a3
  obtain ⟨t4,u4,i3,o0,j3,w1,k3,rfl⟩:=d0.elemF u1
  refine BP (hA:=o0) (hj:=(Int.toNat_of_nonneg b3).symm) (hlt:=w1) rfl rfl rfl rfl ?_
  refine AM ?_
  refine Bb (i:=15) (by kernel_rfl) rfl ?_
  refine CW rfl d0 (a:=(j1 ||| t1)) vU64 o0 rfl rfl (AD u1) fun v4 m0 d0=>?_
  replace f0:=f0.stS m0 (by decide) (by decide)
  refine Dm (by kernel_rfl) ?_
  refine Cn (by kernel_rfl) ?_
  obtain rfl:=sm a0
  exact show Exists _ from ⟨_,(),rfl,⟨rfl,rfl,rfl,rfl,rfl,trivial⟩,_,hB.st m0,c0.st m0,d0,f0,e0.st m0⟩
 replace hB:=((hB.st S8).st b1).st c1
 rintro w4 x4 ⟨y4,z4,rfl,y1,a5,hB,d0,e0⟩
 replace hm:=AV hm
 refine AQ _ y1 ?_
 refine Al (Aj (Ar rfl rfl (Au rfl rfl (Au rfl rfl (o_z ?_)))))
 refine AK ?_
 obtain ⟨b5,z1,d0⟩:=d0.freeze
 obtain rfl:=sm hm
 replace hB:=hB.st z1
 obtain ⟨O',hS',hz,hl⟩:=hE.leave (fun q=>if q=2 then i0 else 0) rfl hB
 replace e0:=e0.st z1
 exact ret2 rfl (AB rfl) (AB rfl) ⟨O',hS',_,_,(Ob.leave e0 hz (hl 2 (by decide) (by decide)) q0.2),rfl,(Vb.mono d0 hz),(vErr (show inI64 0 from by decide))⟩
noncomputable def CE (x0:Pkr) (x1:List U64):Option ((List Int)×Err) :=
  if (x1.length:Int)≠x0.words then (some (([]:List Int),(⟨2⟩:Err))) else (bnd (mkI 8 (0:Int) (x0.fields.length:Int)) fun u25=>bnd (Cg x1) fun q38=>bnd (rng (ρ:=(List Int)×Err) (fun (k60:Nat) (a61:PFd) (s58:(List Int)×(List U64))=>bnd (Dh a61 x1) fun q97=>bnd (s58.1[k60]?) fun a105=>bnd ((s58.1.set k60 q97)[k60]?) fun a117=>if a61.size≤a117 then (some (.ret (([]:List Int),(⟨2⟩:Err)))) else (bnd (atI s58.2 a61.word) fun a128=>bnd (CH a61) fun q139=>bnd (atI s58.2 a61.word) fun a146=>some (.next ((s58.1.set k60 q97),(s58.2.set (a61.word:Int).toNat (a128 &&& ~~~q139)))))) x0.fields 0 (u25,q38)) fun res56=>fin res56 fun (s163:(List Int)×(List U64))=>bnd (rng (ρ:=(List Int)×Err) (fun (k171:Nat) (a172:U64) (s169:Unit)=>bnd (s163.2[k171]?) fun a182=>if (a182.toNat:Int)≠((0:U64).toNat:Int) then (some (.ret (([]:List Int),(⟨2⟩:Err)))) else (some (.next ()))) q38 0 ()) fun res167=>fin res167 fun (s196:Unit)=>some (s163.1,(⟨0⟩:Err)))
theorem IB {w:World} {O:Lab} {p0 i0:Nat} {x0:Pkr} (w0:Ob i0 w O (.pointer (some ⟨p0,0,none⟩)) x0) {vx1:Value} {x1:List U64} (g0:Vb w (Fr 0 w O) vx1 x1) {r:(List Int)×Err} (hm:CE x0 x1=some r) :
    Fn Tryz.prog 80 [(.pointer (some ⟨p0,0,none⟩)),vx1] w fun v w'=>∃ O',St (eT i0) w O w' O'∧∃ v0 v1:Value,Ob i0 w' O' (.pointer (some ⟨p0,0,none⟩)) x0∧v=.tuple #[v0,v1]∧Vb w' (Fr 0 w' O') v0 r.1∧Vb w' (Fr 0 w' O') v1 r.2:=by
 obtain ⟨O0,hE,w3,p4⟩:=ent1 (w:=w) (O:=O) w0.2
 have w0':=Ob.leave w0 w3 p4 (j:=2) (by decide)
 have hB:Bm w O0 w O0:=Bm.refl
 replace g0:=g0.mono w3
 obtain ⟨A3,c4,rfl⟩:=g0.form
 refine AH Tryz.func80 rfl Tryz.ntmps80 rfl ?_
 unfold CE at hm
 refine Al (Aj (Au rfl rfl (Au rfl rfl (o_z ?_))))
 refine Al (Al (Aj (Ar rfl rfl (GR rfl rfl ?_))))
 refine o_z ?_
 refine Ae rfl (AO (Al (Al (Aj (Ar rfl rfl (AP rfl rfl ?_))))))
 have l6:x1.length≤9223372036854775807:=Nat.le_trans g0.len.2.1 g0.len.2.2
 have r5:inI64 (x1.length:Int):=rngNat l6
 refine Ar rfl rfl (CI rfl rfl ?_)
 obtain ⟨O7,u6,S8,q4,h9,o0,x3⟩:=Pkr.opn w0' 2 3 (by decide)
 obtain ⟨y3,z3,rfl⟩:=o0.form
 refine AG rfl rfl (AE (hc:=Blk.cell (i:=1) (h9.1) rfl) rfl rfl ?_)
 refine Hb rfl rfl rfl (fun z2=>?_) fun z2=>?_
 ·
  replace hm:=ip hm z2
  refine o_z ?_
  refine Ah rfl (Al (Aj (EQ rfl rfl ?_)))
  refine Au rfl rfl (Au rfl rfl (o_z ?_))
  refine AK ?_
  obtain ⟨v6,r4,s4,t4,u4⟩:=Pkr.shut (x:=x0) (l0:=2) (l1:=3) (by decide) h9 o0 x3
  obtain rfl:=sm hm
  replace hB:=(hB.st S8).st r4
  obtain ⟨O',hS',hz,hl⟩:=hE.leave (fun q=>if q=2 then i0 else 0) rfl hB
  exact ret2 rfl (AB rfl) (AB rfl) ⟨O',hS',_,_,(Ob.leave u4 hz (hl 2 (by decide) (by decide)) w0.2),rfl,(Vb.mono (Vb.nil _ _) hz),(vErr (by decide))⟩
 replace hm:=im hm z2
 refine o_z ?_
 refine Ae rfl (AO (Al (Aj (Ar rfl rfl (CI rfl rfl (AG rfl rfl (AE (hc:=Blk.cell (i:=0) (h9.1) rfl) rfl rfl ?_)))))))
 refine AP rfl rfl ?_
 have v4:x0.fields.length≤9223372036854775807:=Nat.le_trans o0.len.2.1 o0.len.2.2
 have w6:inI64 (x0.fields.length:Int):=rngNat v4
 obtain ⟨y0,w4,hm⟩:=bs hm
 obtain ⟨a1,x4,y4,z4,a5⟩:=FS w4
 refine Hs 4 (by decide) O7 (z0:=(0:Int)) rfl rfl rfl rfl rfl x4 (vInt (show inI64 0 from by decide)) y4 z4 rfl fun b1 x6 b5 w1 u2=>?_
 rw [← a5] at u2 ⊢
 refine Au rfl rfl (o_z ?_)
 refine Al (Aj (Ar rfl rfl ?_))
 obtain ⟨r0,c5,hm⟩:=bs hm
 replace g0:=(g0.st S8).st w1
 refine DG 5 (by decide) (O:=b5) (Gt Fr.lt g0 c5) rfl rfl fun r1 s1 y6 z6 t1 a3=>?_
 refine Au rfl rfl (o_z ?_)
 refine Al (Al (Aj (Ar rfl rfl (CI rfl rfl (AG rfl rfl ?_)))))
 replace h9:=(h9.st w1).st t1
 refine AE (hc:=Blk.cell (i:=0) (h9.1) rfl) rfl rfl ?_
 refine AP rfl rfl ?_
 replace o0:=(o0.st w1).st t1
 have b3:x0.fields.length≤9223372036854775807:=Nat.le_trans o0.len.2.1 o0.len.2.2
 have a7:inI64 (x0.fields.length:Int):=rngNat b3
 refine Ar rfl rfl (o_z ?_)
 obtain ⟨d5,u1,c3,d3,c0⟩:=Pkr.shut (x:=x0) (l0:=2) (l1:=3) (by decide) h9 o0 x3
 have h0:=(o0.lend [3] (by decide)).shutS u1 c3 d3 [2] (by decide)
 obtain ⟨y1,e3,hm⟩:=bs hm
 refine AL (aft y1 (fun (c1:(List Int)×(List U64)) (v2:Unit)=>[(6,(.slice (some ⟨b1,0,none⟩) y0.length a1)),(7,(.slice r1 r0.length s1))]) (fun c1 v2 w'=>∃ O':Lab,Bm w O0 w' O'∧Rw 4 w' O' 3 (.slice (some ⟨b1,0,none⟩) y0.length a1) c1.1∧Rw 5 w' O' 167 (.slice r1 r0.length s1) c1.2∧Ob 2 w' O' (.pointer (some ⟨p0,0,none⟩)) x0)) ?_ ?_
 ·
  refine AN ?_
  replace hB:=(((hB.st S8).st w1).st t1).st u1
  replace g0:=(g0.st t1).st u1
  replace u2:=(u2.st t1).st u1
  replace a3:=a3.st u1
  refine Bp (σ:=(List Int)×(List U64)) (X:=Unit) (x0.fields.length) e3 rfl b3 (fun (c1:(List Int)×(List U64)) (v2:Unit)=>[(1,(.slice A3 x1.length c4)),(6,(.slice (some ⟨b1,0,none⟩) y0.length a1)),(7,(.slice r1 r0.length s1)),(34,(.slice y3 x0.fields.length z3))]) _ (fun c1 v2 w'=>∃ O':Lab,Bm w O0 w' O'∧Vb w' (Fr 0 w' O') (.slice A3 x1.length c4) x1∧Rw 4 w' O' 3 (.slice (some ⟨b1,0,none⟩) y0.length a1) c1.1∧Rw 5 w' O' 167 (.slice r1 r0.length s1) c1.2∧Vb w' (FrS [2] w' O') (.slice y3 x0.fields.length z3) x0.fields∧Ob 2 w' O' (.pointer (some ⟨p0,0,none⟩)) x0) _ () ⟨d5,hB,g0,u2,a3,h0,c0⟩ ⟨rfl,rfl,rfl,rfl,rfl,rfl,trivial⟩ (fun _ _=>⟨rfl,rfl⟩) (fun _ _=>⟨rfl,rfl,trivial⟩) (fun _ _ _ ⟨O',hB,g0,d0,e0,h0,c0⟩=>⟨O',hB,d0,e0,c0⟩) ⟨rfl,rfl,rfl⟩ ⟨rfl,rfl⟩ ?_
  rintro e5 m0 c1 v2 b7 f5 z1 ⟨g5,hB,g0,d0,e0,h0,c0⟩ a0 h1 f3
  have rk60:inI64 (e5:Int):=rngK z1 b3
  refine Al (Aj (Ar rfl rfl ?_))
  obtain ⟨c7,d7,h5,g3,h3,i3,rfl,a4,b4,d4,e4⟩:=h0.elem' z1
  refine Bi (hA:=g3) (hj:=rfl) (hlt:=h3) rfl rfl rfl ?_
  refine Bk (hl:=rfl) (hc:=i3) rfl rfl ?_
  refine BD 6 g5 rfl fun i5 e7 w2 d1 q0=>?_
  replace h0:=h0.stS d1 id (fun _ _=>id)
  refine Au rfl rfl (AR q0 rfl rfl rfl (Ba rfl) (allOne rfl) fun x2 e1 q0=>?_)
  replace q0:Lc 6 x2 w2 i5 169 [(.int .i64 m0.word),(.int .i64 m0.bit),(.int .i64 m0.width),(.int .i64 m0.size)]:=q0
  replace h0:=h0.stS e1 (by decide) (by decide)
  refine o_z ?_
  refine Al (Aj (Ar rfl rfl (Ar rfl rfl (Bk (hl:=rfl) (hc:=(q0.1).cellsAt) rfl rfl ?_))))
  refine Ar rfl rfl ?_
  obtain ⟨f4,j5,a0⟩:=bs a0
  replace g0:=(g0.st d1).st e1
  refine BE (O:=w2) (A:=All x2) (R:=fun w' F v=>Vb w' F v f4) (KC (fun _ h=>h) (Vb.mono (F:=Fr 0 x2 w2) (Vb.ofAgg (cs:=[(.int .i64 m0.word),(.int .i64 m0.bit),(.int .i64 m0.width),(.int .i64 m0.size)]) (x:=m0) rfl ⟨rfl,a4,b4,d4,e4⟩) Fr.lt) (Vb.mono (F:=Fr 0 x2 w2) g0 Fr.lt) j5) rfl rfl fun k5 f7 i1 f0 j3=>?_
  obtain ⟨rfl,k3⟩:=j3.int
  replace h0:=h0.stS f0 id (fun _ _=>id)
  obtain ⟨l5,a2,a0⟩:=bs a0
  replace d0:=((d0.st d1).st e1).st f0
  obtain ⟨m5,n5,g4,f1,b2,h4,rfl,o5⟩:=d0.elem a2
  refine Bi (hA:=f1) (hj:=rfl) (hlt:=b2) rfl rfl rfl ?_
  refine CW rfl d0 (a:=f4) (vInt k3) f1 rfl rfl (AD a2) fun j1 j0 d0=>?_
  replace h0:=h0.stS j0 (by decide) (by decide)
  refine o_z ?_
  refine Al (Al (Cr (·=j1) [(0,true),(1,true),(2,true),(3,true),(4,true),(5,true),(6,true)] (by kernel_rfl) rfl (by kernel_rfl) rfl ?_))
  refine AJ rfl rfl rfl (AJ rfl rfl rfl ?_)
  obtain ⟨p5,l3,a0⟩:=bs a0
  obtain ⟨q5,s5,i4,c2,d2,e2,rfl,t5⟩:=d0.elem l3
  refine BP (hA:=c2) (hj:=rfl) (hlt:=d2) rfl rfl rfl rfl ?_
  refine Cm (hc:=cat0 e2) rfl rfl rfl ?_
  refine Bc rfl rfl rfl ?_
  replace q0:=(q0.st f0).st j0
  refine Cm (hc:=Blk.cell (i:=3) (q0.1) rfl) rfl rfl rfl ?_
  refine SN rfl rfl rfl rfl (fun k1=>?_) fun k1=>?_
  ·
   replace a0:=ip a0 k1
   refine h_z ?_
   refine Ah rfl (Al (Aj (EQ rfl rfl ?_)))
   refine Au rfl rfl (Au rfl rfl (o_z ?_))
   refine AK ?_
   obtain rfl:=sm a0
   obtain rfl:=h1 _ rfl
   obtain rfl:=sm (Dc hm)
   replace hB:=(((hB.st d1).st e1).st f0).st j0
   obtain ⟨O',hS',hz,hl⟩:=hE.leave (fun q=>if q=2 then i0 else 0) rfl hB
   replace c0:=(((c0.st d1).st e1).st f0).st j0
   exact ret2 rfl (AB rfl) (AB rfl) ⟨O',hS',_,_,(Ob.leave c0 hz (hl 2 (by decide) (by decide)) w0.2),rfl,(Vb.mono (Vb.nil _ _) hz),(vErr (by decide))⟩
  replace a0:=im a0 k1
  refine h_z ?_
  refine Ae rfl (AO (BC [] i1 ?_))
  refine AY (fuel:=4) [] [(0,true),(1,true),(2,true),(3,true),(4,true),(5,true)] (by kernel_rfl) rfl ?_
  refine AJ rfl rfl rfl (Bc rfl rfl rfl (AZ (hc:=fun w' ⟨O',hq⟩=>Blk.cell (i:=0) ((q0.st hq (by decide)).1) rfl) rfl rfl rfl ?_))
  obtain ⟨f2,m3,a0⟩:=bs a0
  obtain ⟨n3,o3⟩:=AS m3
  replace e0:=(((e0.st d1).st e1).st f0).st j0
  obtain ⟨u5,v5,j4,g2,h2,i2,j2,rfl⟩:=e0.elemF o3
  refine BP (hA:=g2) (hj:=(Int.toNat_of_nonneg n3).symm) (hlt:=i2) rfl rfl rfl rfl ?_
  refine AZ (hc:=fun w' ⟨O',hq⟩=>cat0 (Bh (hq.agree (i:=5) (by decide)) h2 j2)) rfl rfl rfl ?_
  refine Hd (hl:=rfl) (hb:=fun w' ⟨O',hq⟩=>((q0.st hq (by decide)).1).cellsAt) rfl rfl rfl ?_
  refine AM ?_
  refine Bb (i:=6) (by kernel_rfl) rfl ?_
  obtain ⟨m1,p3,a0⟩:=bs a0
  refine BE (O:=i1) (A:=All j1) (R:=fun w' F v=>Vb w' F v m1) (GX (fun _ h=>h) (Vb.mono (F:=Fr 0 j1 i1) (Vb.ofAgg (cs:=[(.int .i64 m0.word),(.int .i64 m0.bit),(.int .i64 m0.width),(.int .i64 m0.size)]) (x:=m0) rfl ⟨rfl,a4,b4,d4,e4⟩) Fr.lt) p3) rfl rfl fun w5 x5 y5 k0 q3=>?_
  obtain rfl:=q3.u64
  have hZ:=k0.lst [] (fun _ h=>h.elim)
  replace h0:=h0.stS k0 id (fun _ _=>id)
  refine BG [] hZ (by kernel_rfl) ?_
  refine AY (fuel:=1) [] [(7,true),(8,true)] (by kernel_rfl) rfl ?_
  refine Ti (a:=f2) (b:=m1) rfl rfl rfl rfl ?_
  obtain ⟨z5,r3,a0⟩:=bs a0
  obtain ⟨s3,k2⟩:=AS r3
  replace e0:=e0.st k0
  obtain ⟨a6,b6,k4,g1,l4,l2,m4,rfl⟩:=e0.elemF k2
  refine BP (hA:=g1) (hj:=(Int.toNat_of_nonneg s3).symm) (hlt:=l2) rfl rfl rfl rfl ?_
  refine AM ?_
  refine Bb (i:=9) (by kernel_rfl) rfl ?_
  refine CW rfl e0 (a:=(f2 &&& ~~~m1)) vU64 g1 rfl rfl (AD k2) fun c6 n0 e0=>?_
  replace h0:=h0.stS n0 (by decide) (by decide)
  refine Dm (by kernel_rfl) ?_
  refine Cn (by kernel_rfl) ?_
  obtain rfl:=sm a0
  exact show Exists _ from ⟨_,(),rfl,⟨rfl,rfl,rfl,rfl,rfl,rfl,trivial⟩,_,(((((hB.st d1).st e1).st f0).st j0).st k0).st n0,(((g0.st f0).st j0).st k0).st n0,(d0.st k0).st n0,e0,h0,(((((c0.st d1).st e1).st f0).st j0).st k0).st n0⟩
 replace hB:=(((hB.st S8).st w1).st t1).st u1
 rintro d6 e6 ⟨n1,f6,rfl,m2,t3,hB,d0,e0,c0⟩
 replace hm:=AV hm
 refine AQ _ m2 ?_
 refine Al (Al (Aj (Ar rfl rfl (AP rfl rfl ?_))))
 have o1:r0.length≤9223372036854775807:=Nat.le_trans e0.len.2.1 e0.len.2.2
 have g6:inI64 (r0.length:Int):=rngNat o1
 refine Ar rfl rfl (o_z ?_)
 obtain ⟨p1,n2,hm⟩:=bs hm
 refine AL (aft p1 (fun (s0:Unit) (t0:Unit)=>[(6,(.slice (some ⟨b1,0,none⟩) y0.length a1))]) (fun s0 t0 w'=>∃ O':Lab,Bm w O0 w' O'∧Rw 4 w' O' 3 (.slice (some ⟨b1,0,none⟩) y0.length a1) n1.1∧Ob 2 w' O' (.pointer (some ⟨p0,0,none⟩)) x0)) ?_ ?_
 ·
  refine AN (Bp (σ:=Unit) (X:=Unit) (r0.length) n2 rfl o1 (fun (s0:Unit) (t0:Unit)=>[(6,(.slice (some ⟨b1,0,none⟩) y0.length a1)),(65,(.slice r1 r0.length s1))]) _ (fun s0 t0 w'=>∃ O':Lab,Bm w O0 w' O'∧Rw 4 w' O' 3 (.slice (some ⟨b1,0,none⟩) y0.length a1) n1.1∧Rw 5 w' O' 167 (.slice r1 r0.length s1) n1.2∧Ob 2 w' O' (.pointer (some ⟨p0,0,none⟩)) x0) _ () ⟨t3,hB,d0,e0,c0⟩ ⟨rfl,rfl,rfl,rfl,trivial⟩ (fun _ _=>⟨rfl,rfl⟩) (fun _ _=>⟨rfl,trivial⟩) (fun _ _ _ ⟨O',hB,d0,e0,c0⟩=>⟨O',hB,d0,c0⟩) ⟨rfl,rfl,rfl⟩ ⟨rfl,rfl⟩ ?_)
  rintro u3 h6 s0 t0 i6 n4 o2 ⟨j6,hB,d0,e0,c0⟩ b0 u0 y2
  have rk171:inI64 (u3:Int):=rngK o2 o1
  refine Al (Aj ?_)
  obtain ⟨k6,v3,b0⟩:=bs b0
  obtain ⟨m6,n6,o4,p2,q2,r2,rfl⟩:=e0.elem v3
  refine Bi (hA:=p2) (hj:=rfl) (hlt:=q2) rfl rfl rfl ?_
  refine AE (hc:=cat0 r2) rfl rfl ?_
  refine Au rfl rfl (o_z ?_)
  refine Al (Aj (Ar rfl rfl (Hb rfl rfl rfl (fun q1=>?_) fun q1=>?_)))
  ·
   replace b0:=ip b0 q1
   refine o_z ?_
   refine Ah rfl (Al (Aj (EQ rfl rfl ?_)))
   refine Au rfl rfl (Au rfl rfl (o_z ?_))
   refine AK ?_
   obtain rfl:=sm b0
   obtain rfl:=u0 _ rfl
   obtain rfl:=sm (Dc hm)
   obtain ⟨O',hS',hz,hl⟩:=hE.leave (fun q=>if q=2 then i0 else 0) rfl hB
   exact ret2 rfl (AB rfl) (AB rfl) ⟨O',hS',_,_,(Ob.leave c0 hz (hl 2 (by decide) (by decide)) w0.2),rfl,(Vb.mono (Vb.nil _ _) hz),(vErr (by decide))⟩
  replace b0:=im b0 q1
  refine o_z ?_
  refine Ae rfl (AO ?_)
  obtain rfl:=sm b0
  exact show Exists _ from ⟨_,(),rfl,⟨rfl,rfl,rfl,rfl,trivial⟩,_,hB,d0,e0,c0⟩
 rintro o6 p6 ⟨q6,r6,rfl,s2,s6,hB,d0,c0⟩
 replace hm:=AV hm
 refine AQ _ s2 ?_
 refine Al (Aj (Ar rfl rfl (Au rfl rfl (Au rfl rfl (o_z ?_)))))
 refine AK ?_
 obtain ⟨t6,t2,d0⟩:=d0.freeze
 obtain rfl:=sm hm
 replace hB:=hB.st t2
 obtain ⟨O',hS',hz,hl⟩:=hE.leave (fun q=>if q=2 then i0 else 0) rfl hB
 replace c0:=c0.st t2
 exact ret2 rfl (AB rfl) (AB rfl) ⟨O',hS',_,_,(Ob.leave c0 hz (hl 2 (by decide) (by decide)) w0.2),rfl,(Vb.mono d0 hz),(vErr (show inI64 0 from by decide))⟩
noncomputable def Ch (x0:Pkr) (x1:List U64):Option Int :=
  bnd (rng (ρ:=Int) (fun (k13:Nat) (a14:U64) (s11:U64)=>bnd (shrU ((s11 ^^^ a14) * (13787848793156543929:U64)) 29) fun n31=>some (.next (((s11 ^^^ a14) * (13787848793156543929:U64)) ^^^ n31))) x1 0 ((BitVec.ofInt 64 (x1.length:Int)) + (11400714819323198485:U64))) fun res9=>fin res9 fun (s37:U64)=>bnd (shrU s37 2) fun n39=>some n39.toInt
theorem Jz {w:World} {O:Lab} {p0 i0:Nat} {x0:Pkr} (b0:Ob i0 w O (.pointer (some ⟨p0,0,none⟩)) x0) {vx1:Value} {x1:List U64} (a0:Vb w (Fr 0 w O) vx1 x1) {r:Int} (hm:Ch x0 x1=some r) :
    Fn Tryz.prog 96 [(.pointer (some ⟨p0,0,none⟩)),vx1] w fun v w'=>∃ O',St (eT i0) w O w' O'∧Ob i0 w' O' (.pointer (some ⟨p0,0,none⟩)) x0∧Vb w' (Fr 0 w' O') v r:=by
 obtain ⟨O0,hE,r0,s0⟩:=ent1 (w:=w) (O:=O) b0.2
 have b0':=Ob.leave b0 r0 s0 (j:=2) (by decide)
 have hB:Bm w O0 w O0:=Bm.refl
 replace a0:=a0.mono r0
 obtain ⟨A3,c4,rfl⟩:=a0.form
 refine AH Tryz.func96 rfl Tryz.ntmps96 rfl ?_
 unfold Ch at hm
 refine Al (Aj (Au rfl rfl (o_z ?_)))
 refine Al (Al (Aj (Ar rfl rfl (GR rfl rfl ?_))))
 refine o_z ?_
 refine Ae rfl (AO (Al (Aj (Ar rfl rfl (AP rfl rfl ?_)))))
 have l6:x1.length≤9223372036854775807:=Nat.le_trans a0.len.2.1 a0.len.2.2
 have r5:inI64 (x1.length:Int):=rngNat l6
 refine Te rfl rfl ?_
 refine Tb (a:=(BitVec.ofInt 64 (x1.length:Int))) (b:=(11400714819323198485:U64)) rfl rfl rfl ?_
 refine Au rfl rfl (o_z ?_)
 refine Al (Al (Aj (Ar rfl rfl (AP rfl rfl ?_))))
 have l8:x1.length≤9223372036854775807:=Nat.le_trans a0.len.2.1 a0.len.2.2
 have r7:inI64 (x1.length:Int):=rngNat l8
 refine Ar rfl rfl (o_z ?_)
 obtain ⟨h0,j0,hm⟩:=bs hm
 refine AL (aft h0 (fun (c0:U64) (f0:Unit)=>[(5,(.int .u64 c0.toNat))]) (fun c0 f0 w'=>∃ O':Lab,Bm w O0 w' O'∧Ob 2 w' O' (.pointer (some ⟨p0,0,none⟩)) x0)) ?_ ?_
 ·
  refine AN (Bp (σ:=U64) (X:=Unit) (x1.length) j0 rfl l8 (fun (c0:U64) (f0:Unit)=>[(5,(.int .u64 c0.toNat)),(14,(.slice A3 x1.length c4))]) _ (fun c0 f0 w'=>∃ O':Lab,Bm w O0 w' O'∧Vb w' (Fr 0 w' O') (.slice A3 x1.length c4) x1∧Ob 2 w' O' (.pointer (some ⟨p0,0,none⟩)) x0) _ () ⟨O0,hB,a0,b0'⟩ ⟨rfl,rfl,rfl,rfl,trivial⟩ (fun _ _=>⟨rfl,rfl⟩) (fun _ _=>⟨rfl,trivial⟩) (fun _ _ _ ⟨O',hB,a0,b0'⟩=>⟨O',hB,b0'⟩) ⟨rfl,rfl,rfl⟩ ⟨rfl,rfl⟩ ?_)
  rintro t0 g0 c0 f0 c1 u0 e0 ⟨d1,hB,a0,b0'⟩ d0 k0 l0
  have rk13:inI64 (t0:Int):=rngK e0 l8
  refine Al (Aj ?_)
  obtain ⟨e1,f1,v0,m0,n0,o0,rfl⟩:=a0.elem' e0
  refine Bi (hA:=m0) (hj:=rfl) (hlt:=n0) rfl rfl rfl ?_
  refine AE (hc:=cat0 o0) rfl rfl ?_
  refine Au rfl rfl (o_z ?_)
  refine Al (Aj (Ar rfl rfl (Ar rfl rfl (QV (a:=c0) (b:=g0) rfl rfl rfl ?_))))
  refine Au rfl rfl (o_z ?_)
  refine Al (Aj (Ar rfl rfl (Tc (a:=(c0 ^^^ g0)) (b:=(13787848793156543929:U64)) rfl rfl rfl ?_)))
  refine Au rfl rfl (o_z ?_)
  refine Aj (Ar rfl rfl (Ar rfl rfl ?_))
  obtain ⟨w0,y0,d0⟩:=bs d0
  refine QW (a:=((c0 ^^^ g0) * (13787848793156543929:U64))) (he:=y0) rfl rfl rfl ?_
  refine QV (a:=((c0 ^^^ g0) * (13787848793156543929:U64))) (b:=w0) rfl rfl rfl ?_
  refine Au rfl rfl (o_z ?_)
  obtain rfl:=sm d0
  exact show Exists _ from ⟨_,(),rfl,⟨rfl,rfl,rfl,rfl,trivial⟩,_,hB,a0,b0'⟩
 rintro g1 h1 ⟨z0,i1,rfl,q0,j1,hB,b0'⟩
 replace hm:=AV hm
 refine AQ _ q0 ?_
 refine Al (Aj (Ar rfl rfl ?_))
 obtain ⟨a1,b1,hm⟩:=bs hm
 refine QW (a:=z0) (he:=b1) rfl rfl rfl ?_
 refine Tf (a:=a1) rfl rfl ?_
 refine Au rfl rfl (o_z ?_)
 refine AK ?_
 obtain rfl:=sm hm
 obtain ⟨O',hS',hz,hl⟩:=hE.leave (fun q=>if q=2 then i0 else 0) rfl hB
 exact ret1v rfl (AB rfl) ⟨O',hS',(Ob.leave b0' hz (hl 2 (by decide) (by decide)) b0.2),(vInt (toIntR _))⟩
noncomputable def BS (x0:List U64) (x1:List U64):Option Bool :=
  if (x0.length:Int)≠(x1.length:Int) then (some false) else (bnd (rng (ρ:=Bool) (fun (k18:Nat) (a19:U64) (s16:Unit)=>bnd (x1[k18]?) fun a36=>if (a19.toNat:Int)≠(a36.toNat:Int) then (some (.ret false)) else (some (.next ()))) x0 0 ()) fun res14=>fin res14 fun (s50:Unit)=>some true)
theorem Gu {w:World} {A:Nat→Prop} (hA:∀ k,A k→k < w.heap.size) {vx0:Value} {x0:List U64} (b0:Vb w A vx0 x0) {vx1:Value} {x1:List U64} (c0:Vb w A vx1 x1) {r:Bool} (hm:BS x0 x1=some r) :
    Fn Tryz.prog 97 [vx0,vx1] w fun v w'=>Ext w w'∧Vb w' (upA A w w') v r:=by
 obtain ⟨O,hB,u0⟩:=enter hA
 replace b0:=b0.mono u0
 obtain ⟨A3,c4,rfl⟩:=b0.form
 replace c0:=c0.mono u0
 obtain ⟨A5,c6,rfl⟩:=c0.form
 refine AH Tryz.func97 rfl Tryz.ntmps97 rfl ?_
 unfold BS at hm
 refine Al (Aj (Au rfl rfl (o_z ?_)))
 refine Al (Al (Aj (Ar rfl rfl (AP rfl rfl ?_))))
 have l8:x0.length≤9223372036854775807:=Nat.le_trans b0.len.2.1 b0.len.2.2
 have r7:inI64 (x0.length:Int):=rngNat l8
 refine Ar rfl rfl (AP rfl rfl ?_)
 have v0:x1.length≤9223372036854775807:=Nat.le_trans c0.len.2.1 c0.len.2.2
 have r9:inI64 (x1.length:Int):=rngNat v0
 refine Hb rfl rfl rfl (fun i0=>?_) fun i0=>?_
 ·
  replace hm:=ip hm i0
  refine o_z ?_
  refine Ah rfl (Al (Aj (Au rfl rfl (o_z ?_))))
  refine AK ?_
  obtain rfl:=sm hm
  exact ret1v rfl (AB rfl) ⟨hB.ext,vBool⟩
 replace hm:=im hm i0
 refine o_z ?_
 refine Ae rfl (AO (Al (Al (Aj (Ar rfl rfl (AP rfl rfl ?_))))))
 have j0:x0.length≤9223372036854775807:=Nat.le_trans b0.len.2.1 b0.len.2.2
 have d1:inI64 (x0.length:Int):=rngNat j0
 refine Ar rfl rfl (o_z ?_)
 obtain ⟨e0,k0,hm⟩:=bs hm
 refine AL (aft e0 (fun (g0:Unit) (h0:Unit)=>[]) (fun g0 h0 w'=>∃ O':Lab,Bs w A w' O')) ?_ ?_
 ·
  refine AN (Bp (σ:=Unit) (X:=Unit) (x0.length) k0 rfl j0 (fun (g0:Unit) (h0:Unit)=>[(0,(.slice A3 x0.length c4)),(1,(.slice A5 x1.length c6))]) _ (fun g0 h0 w'=>∃ O':Lab,Bs w A w' O'∧Vb w' (Fr 0 w' O') (.slice A3 x0.length c4) x0∧Vb w' (Fr 0 w' O') (.slice A5 x1.length c6) x1) _ () ⟨O,hB,b0,c0⟩ ⟨rfl,rfl,rfl,rfl,trivial⟩ (fun _ _=>⟨rfl,rfl⟩) (fun _ _=>trivial) (fun _ _ _ ⟨O',hB,b0,c0⟩=>⟨O',hB⟩) ⟨rfl,rfl,rfl⟩ ⟨rfl,rfl⟩ ?_)
  rintro w0 e1 g0 h0 y0 z0 f0 ⟨f1,hB,b0,c0⟩ a0 d0 l0
  have rk18:inI64 (w0:Int):=rngK f0 j0
  refine Al (Aj (Ar rfl rfl (Au rfl rfl (o_z ?_))))
  refine Al (Cr (·=y0) [(0,true),(1,true),(2,true),(3,true),(4,true),(5,true),(6,true),(7,true),(8,true)] (by kernel_rfl) rfl (by kernel_rfl) rfl ?_)
  refine AJ rfl rfl rfl (AJ rfl rfl rfl ?_)
  obtain ⟨g1,h1,a1,m0,n0,o0,rfl⟩:=b0.elem' f0
  refine BP (hA:=m0) (hj:=rfl) (hlt:=n0) rfl rfl rfl rfl ?_
  refine Cm (hc:=cat0 o0) rfl rfl rfl ?_
  refine AJ rfl rfl rfl (AJ rfl rfl rfl ?_)
  obtain ⟨i1,b1,a0⟩:=bs a0
  obtain ⟨j1,k1,c1,p0,q0,r0,rfl⟩:=c0.elem' b1
  refine BP (hA:=p0) (hj:=rfl) (hlt:=q0) rfl rfl rfl rfl ?_
  refine Cm (hc:=cat0 r0) rfl rfl rfl ?_
  refine QP rfl rfl rfl rfl (fun s0=>?_) fun s0=>?_
  ·
   replace a0:=ip a0 s0
   refine h_z ?_
   refine Ah rfl (Al (Aj (Au rfl rfl (o_z ?_))))
   refine AK ?_
   obtain rfl:=sm a0
   obtain rfl:=d0 _ rfl
   obtain rfl:=sm (Dc hm)
   exact ret1v rfl (AB rfl) ⟨hB.ext,vBool⟩
  replace a0:=im a0 s0
  refine h_z ?_
  refine Ae rfl (AO ?_)
  obtain rfl:=sm a0
  exact show Exists _ from ⟨_,(),rfl,⟨rfl,rfl,rfl,rfl,trivial⟩,_,hB,b0,c0⟩
 rintro l1 m1 ⟨n1,o1,rfl,t0,p1,hB⟩
 replace hm:=AV hm
 refine AQ _ t0 ?_
 refine Al (Aj (Au rfl rfl (o_z ?_)))
 refine AK ?_
 obtain rfl:=sm hm
 exact ret1v rfl (AB rfl) ⟨hB.ext,vBool⟩
end
section
open Go Go.RowKit
attribute [local irreducible] ewp owp hwp hwq hws Ev Evg Fn retPost loud loudS Res1
attribute [local irreducible] hwx loudX
instance:TMap Tryz.prog 140 3 22:=⟨Tryz.underlying140⟩
instance:TKey Tryz.prog 3 Int:=⟨Tryz.underlying3⟩
structure RLk where
  parent:Int
  op:Int
  cost:Int
structure REn where
  words:List U64
  link:RLk
instance:Rp REn where
  isAgg:=true
  size:=4
  R w F cs x:=∃ v0,cs=[v0,.int .i64 x.link.parent,.int .i64 x.link.op,.int .i64 x.link.cost]∧Vb w F v0 x.words∧inI64 x.link.parent∧inI64 x.link.op∧inI64 x.link.cost
  len:=by rintro w F cs x ⟨v0,rfl,h0,h1,h2,h3⟩;rfl
  one:=by rintro w F cs x ⟨v0,rfl,h0,h1,h2,h3⟩ u hu;simp at hu;rcases hu with rfl|rfl|rfl|rfl<;>first|rfl|exact Vb.one rfl (by assumption)
  agree:=by rintro w w' F cs x ⟨v0,rfl,h0,h1,h2,h3⟩ ha;exact ⟨v0,rfl,h0.agree ha,h1,h2,h3⟩
  mono:=by rintro w F G cs x ⟨v0,rfl,h0,h1,h2,h3⟩ ha;exact ⟨v0,rfl,h0.mono ha,h1,h2,h3⟩
structure Reg where
  packer:Pkr
  entries:List REn
  table:MapR 3 Int Int
instance:Ow Reg where
  R w F M v x:=∃ (g:Nat) (L:Lab) (c0 c1 c2:Value),v=.pointer (some ⟨g,0,none⟩)∧Blk w g 142 [c0,c1,c2]∧M g∧L g=0∧Ow.R w F (fun k=>M k∧L k=1) c0 x.packer∧RwM w F (fun k=>M k∧L k=2) 148 c1 x.entries∧Ow.R w F (fun k=>M k∧L k=3) c2 x.table
  agree:=by rintro w w' F M v x ⟨g,L,c0,c1,c2,rfl,hb,hM,hL,h0,h1,h2⟩ a1 a2;exact ⟨g,L,c0,c1,c2,rfl,hb.keep (a2 g hM),hM,hL,Ow.agree h0 a1 fun k hk=>a2 k hk.1,h1.agree a1 fun k hk=>a2 k hk.1,Ow.agree h2 a1 fun k hk=>a2 k hk.1⟩
  mono:=by rintro w F M F' M' v x ⟨g,L,c0,c1,c2,rfl,hb,hM,hL,h0,h1,h2⟩ a1 a2 a3;exact ⟨g,L,c0,c1,c2,rfl,hb,a2 g hM,hL,Ow.mono h0 a1 (fun k hk=>⟨a2 k hk.1,hk.2⟩) fun k hf hm=>a3 k hf hm.1,h1.mono a1 (fun k hk=>⟨a2 k hk.1,hk.2⟩) fun k hf hm=>a3 k hf hm.1,Ow.mono h2 a1 (fun k hk=>⟨a2 k hk.1,hk.2⟩) fun k hf hm=>a3 k hf hm.1⟩
instance:OwP Reg:=⟨by rintro w F M v x ⟨g,L,c0,c1,c2,rfl,_⟩;exact ⟨g,rfl⟩⟩
theorem Reg.opn {i:Nat} {w:World} {O:Lab} {p:Nat} {x:Reg} (h:Ob i w O (.pointer (some ⟨p,0,none⟩)) x) (l0 l1 l2 l3:Nat) (hl:l0≠0∧l1≠0∧l2≠0∧l3≠0):∃ (O':Lab) (c0 c1 c2:Value),St (eT i) w O w O'∧(∀ k,Fr i w O k→∃ q,q∈[l0,l1,l2,l3]∧Fr q w O' k)∧Lc l0 w O' p 142 [c0,c1,c2]∧Ob l1 w O' c0 x.packer∧Rw l2 w O' 148 c1 x.entries∧Ob l3 w O' c2 x.table:=by
  obtain ⟨⟨g,L,c0,c1,c2,hv,hb,hM,hL,h0,h1,h2⟩,hi⟩:=h
  obtain rfl:p=g:=by injection hv with hv;injection hv with hv;injection hv
  exact ⟨part O i L [l0,l1,l2,l3],c0,c1,c2,JY hi,Iu (by simp),⟨hb,(Fh (j:=0) rfl p ⟨hM,hL⟩).2⟩,⟨Ow.mono h0 (Ed hi) (Fh (j:=1) rfl) (frNe0 hl.2.1),hl.2.1⟩,h1.rw (Ed hi) (Fh (j:=2) rfl) hl.2.2.1,⟨Ow.mono h2 (Ed hi) (Fh (j:=3) rfl) (frNe0 hl.2.2.2),hl.2.2.2⟩⟩
theorem Reg.shut {w:World} {O:Lab} {p:Nat} {x:Reg} {l0 l1 l2 l3:Nat} {c0 c1 c2:Value} (hd:¬ 0∈[l0,l1,l2,l3]∧[l0,l1,l2,l3].idxOf l0=0∧[l0,l1,l2,l3].idxOf l1=1∧[l0,l1,l2,l3].idxOf l2=2∧[l0,l1,l2,l3].idxOf l3=3) (hb:Lc l0 w O p 142 [c0,c1,c2]) (h0:Ob l1 w O c0 x.packer) (h1:Rw l2 w O 148 c1 x.entries) (h2:Ob l3 w O c2 x.table):∃ O',St (·∈[l0,l1,l2,l3]) w O w O'∧(∀ k,Fr 0 w O k→Fr 0 w O' k)∧(∀ q,q∈[l0,l1,l2,l3]→∀ k,Fr q w O k→Fr l0 w O' k)∧Ob l0 w O' (.pointer (some ⟨p,0,none⟩)) x:=by
  have hb1:l0≠0:=fun e=>hd.1 (by simp [e])
  have hg:=EB (i:=l0) hd.2.1 (by simp) p ⟨hb.1.lt,hb.2⟩
  exact ⟨whole O l0 [l0,l1,l2,l3],Iv,CQ hd.1,HI,⟨p,fun k=>[l0,l1,l2,l3].idxOf (O k),c0,c1,c2,rfl,hb.1,hg.1,hg.2,Ow.mono h0.1 (CQ hd.1) (EB hd.2.2.1 (by simp)) (fun k a b=>frNe0 hb1 k a b.1),h1.m (CQ hd.1) (EB hd.2.2.2.1 (by simp)) (fun k a b=>frNe0 hb1 k a b.1),Ow.mono h2.1 (CQ hd.1) (EB hd.2.2.2.2 (by simp)) (fun k a b=>frNe0 hb1 k a b.1)⟩,hb1⟩
noncomputable def DD (x0:List Int):Option ((Option Reg)×Err) :=
  bnd (ET x0) fun q4=>if q4.2.n≠0 then (some (none,(⟨q4.2.n⟩:Err))) else (bnd q4.1 fun o22=>some ((some (⟨o22,([]:List REn),(⟨[]⟩:MapR 3 Int Int)⟩:Reg)),(⟨0⟩:Err)))
theorem LE {w:World} {O:Lab} {vx0:Value} {x0:List Int} (b0:Vb w (Fr 0 w O) vx0 x0) (j0:Nat) (hj0:j0≠0) {r:(Option Reg)×Err} (hm:DD x0=some r) :
    Fn Tryz.prog 77 [vx0] w fun v w'=>∃ O',St nT w O w' O'∧∃ v0 v1:Value,v=.tuple #[v0,v1]∧Obo j0 w' O' v0 r.1∧Vb w' (Fr 0 w' O') v1 r.2:=by
 obtain ⟨O0,hE,k0⟩:=ent0 (w:=w) (O:=O)
 have hB:Bm w O0 w O0:=Bm.refl
 replace b0:=b0.mono k0
 obtain ⟨A2,c3,rfl⟩:=b0.form
 refine AH Tryz.func77 rfl Tryz.ntmps77 rfl ?_
 unfold DD at hm
 refine Al (Aj (Au rfl rfl (Au rfl rfl (o_z ?_))))
 refine Al (Aj (Ar rfl rfl ?_))
 obtain ⟨q4,e5,hm⟩:=bs hm
 refine Cx (O:=O0) (ON b0 2 (by decide) e5) rfl rfl fun b1 w6 O7 S8 h9=>?_
 obtain ⟨c1,d1,rfl,a0,m0⟩:=h9
 obtain ⟨rfl,n0⟩:=m0.err
 refine Ar rfl rfl (BH rfl rfl rfl (BH rfl rfl rfl (Au rfl rfl (Au rfl rfl (o_z ?_)))))
 refine Al (Al (Aj (Ar rfl rfl (ER rfl rfl (fun c0=>?_) fun c0=>?_))))
 ·
  replace hm:=ip hm c0
  refine o_z ?_
  refine Ah rfl (Al (Aj (Ar rfl rfl (Au rfl rfl (Au rfl rfl (o_z ?_))))))
  refine AK ?_
  obtain rfl:=sm hm
  replace hB:=hB.st S8
  obtain ⟨O',hS',hz,hl⟩:=hE.leave (fun _=>0) rfl hB
  exact ret2 rfl (AB rfl) (AB rfl) ⟨O',hS',_,_,rfl,rfl,(vErr n0)⟩
 replace hm:=im hm c0
 refine o_z ?_
 refine Ae rfl (AO (Al (Aj (Ar rfl rfl (Qd (K:=Int) (V:=Int) 3 3 (by decide) O7 rfl fun o0 e1 p0 g0 d0=>?_)))))
 obtain ⟨q0,r0,hm⟩:=bs hm
 replace a0:=a0.st g0
 rw [r0] at a0
 obtain ⟨s0,rfl⟩:=Ob.ptr a0
 refine Cw rfl rfl rfl ?_
 refine Da 4 p0 rfl rfl fun t0 h0 i0 e0 f0=>?_
 replace f0:Lc 4 h0 i0 t0 142 [(.pointer (some ⟨s0,0,none⟩)),(.slice none 0 0),(.map (some o0))]:=f0
 refine Au rfl rfl (Au rfl rfl (o_z ?_))
 refine AK ?_
 have u0:Rw 5 h0 i0 148 (.slice none 0 0) ([]:List REn):=Rw.nil 5 (by decide)
 replace a0:=a0.st e0
 replace d0:=d0.st e0
 obtain ⟨f1,w0,y0,z0,a1⟩:=Reg.shut (x:=(⟨q0,([]:List REn),(⟨[]⟩:MapR 3 Int Int)⟩:Reg)) (l0:=4) (l1:=2) (l2:=5) (l3:=3) (by decide) f0 a0 u0 d0
 obtain rfl:=sm hm
 replace hB:=(((hB.st S8).st g0).st e0).st w0
 obtain ⟨O',hS',hz,hl⟩:=hE.leave (fun q=>if q=4 then j0 else 0) rfl hB
 exact ret2 rfl (AB rfl) (AB rfl) ⟨O',hS',_,_,rfl,(Ob.leave a1 hz (hl 4 (by decide) (by decide)) hj0),(vErr (show inI64 0 from by decide))⟩
noncomputable def BN (x0:Reg) (x1:List Int):Option ((List U64)×Int×Int×Err) :=
  bnd (BX x0.packer x1) fun q20=>if q20.2.n≠0 then (some (([]:List U64),0,(-1),(⟨2⟩:Err))) else (bnd (Ch x0.packer q20.1) fun q41=>bnd (rng (ρ:=(List U64)×Int×Int×Err) (fun (k66:Nat) (a67:Int) (s64:Unit)=>bnd (atI x0.entries a67) fun a100=>bnd (BS a100.words q20.1) fun q118=>if q118=true then some (.ret (q20.1,q41,a67,(⟨0⟩:Err))) else some (.next ())) (mget ([]:List Int) x0.table.l q41) 0 ()) fun res62=>fin res62 fun (s139:Unit)=>some (q20.1,q41,(-1),(⟨0⟩:Err)))
theorem Hy {w:World} {O:Lab} {p0 i0:Nat} {x0:Reg} (j0:Ob i0 w O (.pointer (some ⟨p0,0,none⟩)) x0) {vx1:Value} {x1:List Int} (u0:Vb w (Fr 0 w O) vx1 x1) {r:(List U64)×Int×Int×Err} (hm:BN x0 x1=some r) :
    Fn Tryz.prog 83 [(.pointer (some ⟨p0,0,none⟩)),vx1] w fun v w'=>∃ O',St (eT i0) w O w' O'∧∃ v0 v1 v2 v3:Value,Ob i0 w' O' (.pointer (some ⟨p0,0,none⟩)) x0∧v=.tuple #[v0,v1,v2,v3]∧Vb w' (Fr 0 w' O') v0 r.1∧Vb w' (Fr 0 w' O') v1 r.2.1∧Vb w' (Fr 0 w' O') v2 r.2.2.1∧Vb w' (Fr 0 w' O') v3 r.2.2.2:=by
 obtain ⟨O0,hE,n2,x2⟩:=ent1 (w:=w) (O:=O) j0.2
 have j0':=Ob.leave j0 n2 x2 (j:=2) (by decide)
 have hB:Bm w O0 w O0:=Bm.refl
 replace u0:=u0.mono n2
 obtain ⟨A3,c4,rfl⟩:=u0.form
 refine AH Tryz.func83 rfl Tryz.ntmps83 rfl ?_
 unfold BN at hm
 refine Al (Aj (Au rfl rfl (Au rfl rfl (Au rfl rfl (Au rfl rfl (o_z ?_))))))
 refine Al (Aj (Ar rfl rfl (CI rfl rfl ?_)))
 obtain ⟨O5,v9,l4,m4,S6,n4,h7,o2,k0,g0⟩:=Reg.opn j0' 2 3 4 5 (by decide)
 obtain ⟨o4,rfl⟩:=o2.ptr
 obtain ⟨p4,q4,rfl⟩:=k0.form
 obtain ⟨r4,rfl⟩:=g0.mptr
 refine AG rfl rfl (AE (hc:=Blk.cell (i:=0) (h7.1) rfl) rfl rfl ?_)
 refine Ar rfl rfl ?_
 obtain ⟨w0,y2,hm⟩:=bs hm
 replace u0:=u0.st S6
 refine Cx (O:=O5) (Jy o2 u0 y2) rfl rfl fun s4 t4 z2 f0 a3=>?_
 obtain ⟨u4,v4,p2,rfl,c0,b3⟩:=a3
 obtain ⟨k1,m1,rfl⟩:=c0.form
 obtain ⟨rfl,w4⟩:=b3.err
 refine Ar rfl rfl (BH rfl rfl rfl (BH rfl rfl rfl (Au rfl rfl (Au rfl rfl (o_z ?_)))))
 refine Al (Al (Aj (Ar rfl rfl (ER rfl rfl (fun q1=>?_) fun q1=>?_))))
 ·
  replace hm:=ip hm q1
  refine o_z ?_
  refine Ah rfl (Al (Aj (EQ rfl rfl ?_)))
  refine Au rfl rfl (Au rfl rfl (Au rfl rfl (Au rfl rfl (o_z ?_))))
  refine AK ?_
  replace h7:=h7.st f0
  replace k0:=k0.st f0
  replace g0:=g0.st f0
  obtain ⟨x4,c3,d3,e3,f3⟩:=Reg.shut (x:=x0) (l0:=2) (l1:=3) (l2:=4) (l3:=5) (by decide) h7 p2 k0 g0
  obtain rfl:=sm hm
  replace hB:=((hB.st S6).st f0).st c3
  obtain ⟨O',hS',hz,hl⟩:=hE.leave (fun q=>if q=2 then i0 else 0) rfl hB
  exact ret4 rfl (AB rfl) (AB rfl) (AB rfl) (AB rfl) ⟨O',hS',_,_,_,_,(Ob.leave f3 hz (hl 2 (by decide) (by decide)) j0.2),rfl,(Vb.mono (Vb.nil _ _) hz),(vInt (show inI64 (0) from by decide)),(vInt (show inI64 (-1) from by decide)),(vErr (by decide))⟩
 replace hm:=im hm q1
 refine o_z ?_
 refine Ae rfl (AO (Al (Aj (Ar rfl rfl (CI rfl rfl (AG rfl rfl ?_))))))
 replace h7:=h7.st f0
 refine AE (hc:=Blk.cell (i:=0) (h7.1) rfl) rfl rfl ?_
 refine Ar rfl rfl ?_
 obtain ⟨e0,g3,hm⟩:=bs hm
 refine Cx (O:=z2) (Jz p2 c0 g3) rfl rfl fun y4 z4 a5 m0 h3=>?_
 obtain ⟨i3,j3⟩:=h3
 obtain ⟨rfl,q2⟩:=j3.int
 refine Au rfl rfl (o_z ?_)
 refine Al (Al (Aj (Ar rfl rfl (CI rfl rfl (AG rfl rfl ?_)))))
 replace h7:=h7.st m0
 refine AE (hc:=Blk.cell (i:=2) (h7.1) rfl) rfl rfl ?_
 refine Ar rfl rfl ?_
 replace g0:=(g0.st f0).st m0
 obtain ⟨r2,s2,r1,d0⟩:=MapR.get g0 e0
 refine Tx e0 r1 rfl rfl rfl ?_
 refine AP rfl rfl ?_
 have s1:(mget ([]:List Int) x0.table.l e0).length≤9223372036854775807:=Nat.le_trans d0.len.2.1 d0.len.2.2
 have b5:inI64 ((mget ([]:List Int) x0.table.l e0).length:Int):=rngNat s1
 refine Ar rfl rfl (o_z ?_)
 replace k0:=(k0.st f0).st m0
 obtain ⟨k3,y0,t1,u1,n0⟩:=Reg.shut (x:=x0) (l0:=2) (l1:=3) (l2:=4) (l3:=5) (by decide) h7 i3 k0 g0
 replace d0:=d0.shutS y0 t1 u1 [2] (by decide)
 obtain ⟨z0,w1,hm⟩:=bs hm
 refine AL (aft z0 (fun (n1:Unit) (o1:Unit)=>[(8,(.slice k1 w0.1.length m1)),(10,(.int .i64 e0))]) (fun n1 o1 w'=>∃ O':Lab,Bm w O0 w' O'∧Vb w' (Fr 0 w' O') (.slice k1 w0.1.length m1) w0.1∧Ob 2 w' O' (.pointer (some ⟨p0,0,none⟩)) x0)) ?_ ?_
 ·
  refine AN ?_
  replace hB:=(((hB.st S6).st f0).st m0).st y0
  replace c0:=(c0.st m0).st y0
  refine Bp (σ:=Unit) (X:=Unit) ((mget ([]:List Int) x0.table.l e0).length) w1 rfl s1 (fun (n1:Unit) (o1:Unit)=>[(0,(.pointer (some ⟨p0,0,none⟩))),(8,(.slice k1 w0.1.length m1)),(10,(.int .i64 e0)),(36,(.slice r2 (mget ([]:List Int) x0.table.l e0).length s2))]) _ (fun n1 o1 w'=>∃ O':Lab,Bm w O0 w' O'∧Ob 2 w' O' (.pointer (some ⟨p0,0,none⟩)) x0∧Vb w' (Fr 0 w' O') (.slice k1 w0.1.length m1) w0.1∧Vb w' (FrS [2] w' O') (.slice r2 (mget ([]:List Int) x0.table.l e0).length s2) (mget ([]:List Int) x0.table.l e0)) _ () ⟨k3,hB,n0,c0,d0⟩ ⟨rfl,rfl,rfl,rfl,rfl,rfl,trivial⟩ (fun _ _=>⟨rfl,rfl⟩) (fun _ _=>⟨rfl,rfl,trivial⟩) (fun _ _ _ ⟨O',hB,n0,c0,d0⟩=>⟨O',hB,c0,n0⟩) ⟨rfl,rfl,rfl⟩ ⟨rfl,rfl⟩ ?_
  rintro m3 c5 n1 o1 y1 n3 a1 ⟨d5,hB,n0,c0,d0⟩ b0 o0 z1
  have rk66:inI64 (m3:Int):=rngK a1 s1
  refine Al (Aj ?_)
  obtain ⟨e5,f5,o3,a2,b2,c2,rfl,p3⟩:=d0.elem' a1
  refine Bi (hA:=a2) (hj:=rfl) (hlt:=b2) rfl rfl rfl ?_
  refine AE (hc:=cat0 c2) rfl rfl ?_
  refine Au rfl rfl (o_z ?_)
  refine Al (Aj (Ar rfl rfl (CI rfl rfl ?_)))
  obtain ⟨d2,g5,h5,i5,p1,e2,q0,r0,h0,s0⟩:=Reg.opn n0 2 3 4 5 (by decide)
  obtain ⟨j5,rfl⟩:=r0.ptr
  obtain ⟨k5,l5,rfl⟩:=h0.form
  obtain ⟨m5,rfl⟩:=s0.mptr
  replace d0:=d0.opnS p1 (by decide) e2 [2,3,4,5] (by decide)
  refine AG rfl rfl (AE (hc:=Blk.cell (i:=1) (q0.1) rfl) rfl rfl ?_)
  refine Ar rfl rfl ?_
  obtain ⟨q3,f2,b0⟩:=bs b0
  obtain ⟨g2,h2⟩:=AS f2
  obtain ⟨r3,s3,t2,b1,c1,d1,t3,rfl,e1,u3,w3,x3⟩:=h0.elem h2
  obtain ⟨y3,z3,rfl⟩:=e1.form
  refine Bi (hA:=b1) (hj:=(Int.toNat_of_nonneg g2).symm) (hlt:=c1) rfl rfl rfl ?_
  refine AG rfl rfl (AE (hc:=cat0 d1) rfl rfl ?_)
  refine Ar rfl rfl ?_
  obtain ⟨f1,i2,b0⟩:=bs b0
  replace c0:=c0.st p1
  refine BE (O:=d2) (A:=All y1) (R:=fun w' F v=>Vb w' F v f1) (Gu (fun _ h=>h) (Vb.mono (F:=Fr 0 y1 d2) e1 Fr.lt) (Vb.mono (F:=Fr 0 y1 d2) c0 Fr.lt) i2) rfl rfl fun a4 b4 d4 a0 j2=>?_
  obtain rfl:=j2.bool
  replace d0:=d0.stS a0 id (fun _ _=>id)
  cases f1
  case false =>
   replace b0:=iF b0
   refine o_z ?_
   refine Ae rfl (AO ?_)
   replace q0:=q0.st a0
   replace r0:=r0.st a0
   replace h0:=h0.st a0
   replace s0:=s0.st a0
   obtain ⟨e4,t0,g1,h1,k2⟩:=Reg.shut (x:=x0) (l0:=2) (l1:=3) (l2:=4) (l3:=5) (by decide) q0 r0 h0 s0
   replace d0:=d0.shutS t0 g1 h1 [2] (by decide)
   obtain rfl:=sm b0
   exact show Exists _ from ⟨_,(),rfl,⟨rfl,rfl,rfl,rfl,rfl,rfl,trivial⟩,_,((hB.st p1).st a0).st t0,k2,(c0.st a0).st t0,d0⟩
  replace b0:=iT b0
  refine o_z ?_
  refine Ah rfl (Al (Aj (Ar rfl rfl (Ar rfl rfl (Ar rfl rfl (Au rfl rfl (Au rfl rfl (Au rfl rfl (Au rfl rfl (o_z ?_))))))))))
  refine AK ?_
  replace q0:=q0.st a0
  replace r0:=r0.st a0
  replace h0:=h0.st a0
  replace s0:=s0.st a0
  obtain ⟨f4,i1,u2,w2,m2⟩:=Reg.shut (x:=x0) (l0:=2) (l1:=3) (l2:=4) (l3:=5) (by decide) q0 r0 h0 s0
  obtain rfl:=sm b0
  obtain rfl:=o0 _ rfl
  obtain rfl:=sm (Dc hm)
  replace hB:=((hB.st p1).st a0).st i1
  obtain ⟨O',hS',hz,hl⟩:=hE.leave (fun q=>if q=2 then i0 else 0) rfl hB
  replace c0:=(c0.st a0).st i1
  exact ret4 rfl (AB rfl) (AB rfl) (AB rfl) (AB rfl) ⟨O',hS',_,_,_,_,(Ob.leave m2 hz (hl 2 (by decide) (by decide)) j0.2),rfl,(Vb.mono c0 hz),(vInt q2),(vInt p3),(vErr (show inI64 0 from by decide))⟩
 replace hB:=(((hB.st S6).st f0).st m0).st y0
 replace c0:=(c0.st m0).st y0
 rintro g4 h4 ⟨i4,j4,rfl,j1,k4,hB,c0,n0⟩
 replace hm:=AV hm
 refine AQ _ j1 ?_
 refine Al (Aj (Ar rfl rfl (Ar rfl rfl (Au rfl rfl (Au rfl rfl (Au rfl rfl (Au rfl rfl (o_z ?_))))))))
 refine AK ?_
 obtain rfl:=sm hm
 obtain ⟨O',hS',hz,hl⟩:=hE.leave (fun q=>if q=2 then i0 else 0) rfl hB
 exact ret4 rfl (AB rfl) (AB rfl) (AB rfl) (AB rfl) ⟨O',hS',_,_,_,_,(Ob.leave n0 hz (hl 2 (by decide) (by decide)) j0.2),rfl,(Vb.mono c0 hz),(vInt q2),(vInt (show inI64 (-1) from by decide)),(vErr (show inI64 0 from by decide))⟩
noncomputable def BK (x0:Reg) (x1:List Int):Option (Int×Bool×Err×Reg) :=
  bnd (BN x0 x1) fun q5=>if q5.2.2.2.n≠0 then (some (0,false,(⟨q5.2.2.2.n⟩:Err),x0)) else (if 0≤q5.2.2.1 then (some (q5.2.2.1,false,(⟨0⟩:Err),x0)) else (if 65536≤(x0.entries.length:Int) then (some (0,false,(⟨10⟩:Err),x0)) else (bnd (appI 48 x0.entries [(⟨q5.1,(⟨(-1),(-1),0⟩:RLk)⟩:REn)]) fun u53=>bnd (appI 8 (mget ([]:List Int) x0.table.l q5.2.1) ([(x0.entries.length:Int)]:List Int)) fun u82=>some ((x0.entries.length:Int),true,(⟨0⟩:Err),(⟨x0.packer,u53,(⟨mput x0.table.l q5.2.1 u82⟩:MapR 3 Int Int)⟩:Reg)))))
theorem FC {w:World} {O:Lab} {p0 i0:Nat} {x0:Reg} (d0:Ob i0 w O (.pointer (some ⟨p0,0,none⟩)) x0) {vx1:Value} {x1:List Int} (k0:Vb w (Fr 0 w O) vx1 x1) {r:Int×Bool×Err×Reg} (hm:BK x0 x1=some r) :
    Fn Tryz.prog 62 [(.pointer (some ⟨p0,0,none⟩)),vx1] w fun v w'=>∃ O',St (eT i0) w O w' O'∧∃ v0 v1 v2:Value,Ob i0 w' O' (.pointer (some ⟨p0,0,none⟩)) r.2.2.2∧v=.tuple #[v0,v1,v2]∧Vb w' (Fr 0 w' O') v0 r.1∧Vb w' (Fr 0 w' O') v1 r.2.1∧Vb w' (Fr 0 w' O') v2 r.2.2.1:=by
 obtain ⟨O0,hE,e1,m1⟩:=ent1 (w:=w) (O:=O) d0.2
 have d0':=Ob.leave d0 e1 m1 (j:=2) (by decide)
 have hB:Bm w O0 w O0:=Bm.refl
 replace k0:=k0.mono e1
 obtain ⟨A3,c4,rfl⟩:=k0.form
 refine AH Tryz.func62 rfl Tryz.ntmps62 rfl ?_
 unfold BK at hm
 refine Al (Aj (Au rfl rfl (Au rfl rfl (Au rfl rfl (o_z ?_)))))
 refine Al (Al (Aj (Ar rfl rfl (GR rfl rfl ?_))))
 refine o_z ?_
 refine Ae rfl (AO (Al (Aj (Ar rfl rfl (Ar rfl rfl ?_)))))
 obtain ⟨q5,e6,hm⟩:=bs hm
 refine Cx (O:=O0) (Hy d0' k0 e6) rfl rfl fun t2 w7 O8 S9 n1=>?_
 obtain ⟨u2,w2,x2,y2,s0,rfl,m0,o1,p1,q1⟩:=n1
 obtain ⟨r1,s1,rfl⟩:=m0.form
 obtain ⟨rfl,z2⟩:=o1.int
 obtain ⟨rfl,t1⟩:=p1.int
 obtain ⟨rfl,u1⟩:=q1.err
 refine Ar rfl rfl (BH rfl rfl rfl (BH rfl rfl rfl (BH rfl rfl rfl (BH rfl rfl rfl (Au rfl rfl (Au rfl rfl (Au rfl rfl (Au rfl rfl (o_z ?_)))))))))
 refine Al (AN (Al (Aj (Ar rfl rfl (ER rfl rfl (fun t0=>?_) fun t0=>?_)))))
 ·
  replace hm:=ip hm t0
  refine Au rfl rfl (o_z ?_)
  refine Ah rfl (Al (Aj (Ar rfl rfl (Au rfl rfl (Au rfl rfl (Au rfl rfl (o_z ?_)))))))
  refine AK ?_
  obtain rfl:=sm hm
  replace hB:=hB.st S9
  obtain ⟨O',hS',hz,hl⟩:=hE.leave (fun q=>if q=2 then i0 else 0) rfl hB
  exact ret3 rfl (AB rfl) (AB rfl) (AB rfl) ⟨O',hS',_,_,_,(Ob.leave s0 hz (hl 2 (by decide) (by decide)) d0.2),rfl,(vInt (show inI64 (0) from by decide)),vBool,(vErr u1)⟩
 replace hm:=im hm t0
 refine Au rfl rfl (o_z ?_)
 refine Ae rfl (Al (Aj (Ar rfl rfl (Ha rfl rfl rfl (fun u0=>?_) fun u0=>?_))))
 ·
  replace hm:=ip hm u0
  refine Au rfl rfl (o_z ?_)
  refine Ah rfl (Al (Aj (Ar rfl rfl (Au rfl rfl (Au rfl rfl (Au rfl rfl (o_z ?_)))))))
  refine AK ?_
  obtain rfl:=sm hm
  replace hB:=hB.st S9
  obtain ⟨O',hS',hz,hl⟩:=hE.leave (fun q=>if q=2 then i0 else 0) rfl hB
  exact ret3 rfl (AB rfl) (AB rfl) (AB rfl) ⟨O',hS',_,_,_,(Ob.leave s0 hz (hl 2 (by decide) (by decide)) d0.2),rfl,(vInt t1),vBool,(vErr (show inI64 0 from by decide))⟩
 replace hm:=im hm u0
 refine Au rfl rfl (o_z ?_)
 refine Ae rfl (Al (Aj (Ar rfl rfl (CI rfl rfl ?_))))
 obtain ⟨a3,b3,c3,d3,w0,w1,a0,j0,f0,b0⟩:=Reg.opn s0 2 3 4 5 (by decide)
 obtain ⟨y1,rfl⟩:=j0.ptr
 obtain ⟨e3,f3,rfl⟩:=f0.form
 obtain ⟨z1,rfl⟩:=b0.mptr
 refine AG rfl rfl (AE (hc:=Blk.cell (i:=1) (a0.1) rfl) rfl rfl ?_)
 refine AP rfl rfl ?_
 have a2:x0.entries.length≤9223372036854775807:=Nat.le_trans f0.len.2.1 f0.len.2.2
 have g3:inI64 (x0.entries.length:Int):=rngNat a2
 refine Ha rfl rfl rfl (fun y0=>?_) fun y0=>?_
 ·
  replace hm:=ip hm y0
  refine Au rfl rfl (o_z ?_)
  refine Ah rfl (Al (Aj (EQ rfl rfl ?_)))
  refine Au rfl rfl (Au rfl rfl (Au rfl rfl (o_z ?_)))
  refine AK ?_
  obtain ⟨h3,b2,c2,d2,e2⟩:=Reg.shut (x:=x0) (l0:=2) (l1:=3) (l2:=4) (l3:=5) (by decide) a0 j0 f0 b0
  obtain rfl:=sm hm
  replace hB:=((hB.st S9).st w0).st b2
  obtain ⟨O',hS',hz,hl⟩:=hE.leave (fun q=>if q=2 then i0 else 0) rfl hB
  exact ret3 rfl (AB rfl) (AB rfl) (AB rfl) ⟨O',hS',_,_,_,(Ob.leave e2 hz (hl 2 (by decide) (by decide)) d0.2),rfl,(vInt (show inI64 (0) from by decide)),vBool,(vErr (by decide))⟩
 replace hm:=im hm y0
 refine Au rfl rfl (o_z ?_)
 refine Ae rfl (AO (Al (Aj (Ar rfl rfl (CI rfl rfl (AG rfl rfl (AE (hc:=Blk.cell (i:=1) (a0.1) rfl) rfl rfl ?_)))))))
 refine AP rfl rfl ?_
 have f2:x0.entries.length≤9223372036854775807:=Nat.le_trans f0.len.2.1 f0.len.2.2
 have f1:inI64 (x0.entries.length:Int):=rngNat f2
 refine Au rfl rfl (o_z ?_)
 refine Al (Aj (Ar rfl rfl (Ar rfl rfl (CI rfl rfl (AG rfl rfl (AE (hc:=Blk.cell (i:=1) (a0.1) rfl) rfl rfl ?_))))))
 refine Ar rfl rfl (Cw rfl rfl rfl ?_)
 refine Cw rfl rfl rfl ?_
 obtain ⟨g1,z0,hm⟩:=bs hm
 obtain ⟨z0,g2,h2⟩:=AU z0
 replace m0:=m0.st w0
 refine CP rfl (a:=(⟨q5.1,(⟨(-1),(-1),0⟩:RLk)⟩:REn)) f0 (Vb.ofAgg (cs:=[(.slice r1 q5.1.length s1),(.int .i64 (-1)),(.int .i64 (-1)),(.int .i64 0)]) (x:=(⟨q5.1,(⟨(-1),(-1),0⟩:RLk)⟩:REn)) rfl ⟨_,rfl,m0,(show inI64 (-1) from by decide),(show inI64 (-1) from by decide),(show inI64 (0) from by decide)⟩) (fun _=>rfl) rfl (by decide) (by decide) g2 h2 ⟨rfl,rfl⟩ fun i3 i2 j2 j3 a1 n0 o0=>?_
 rw [← z0] at o0 ⊢
 refine CI rfl rfl (AG rfl rfl ?_)
 replace a0:=a0.st n0
 refine AR a0 rfl rfl rfl (Ba rfl) (allOne rfl) fun k2 q0 a0=>?_
 replace a0:Lc 2 k2 a1 p0 142 [(.pointer (some ⟨y1,0,none⟩)),(.slice i2 g1.length j2),(.map (some z1))]:=a0
 refine o_z ?_
 refine Al (BC [(13,[5,7])] a1 ?_)
 refine AY (fuel:=8) [] [(5,true),(6,true),(7,true),(8,true),(9,true),(10,true),(11,true)] (by kernel_rfl) rfl ?_
 refine AJ rfl rfl rfl (Ec rfl rfl rfl (Bc rfl rfl rfl (AZ (hc:=fun w' ⟨O',hq⟩=>Blk.cell (i:=2) ((a0.st hq (by decide)).1) rfl) rfl rfl rfl ?_)))
 refine AJ rfl rfl rfl ?_
 replace b0:=(b0.st n0).st q0
 obtain ⟨k3,m3,c0,h1⟩:=MapR.get b0 q5.2.1
 refine Ty q5.2.1 (fun w' ⟨O',hq⟩=>c0.keep (hq.agree (i:=5) (by decide) _ (MapR.at b0))) rfl rfl rfl rfl ?_
 refine AJ rfl rfl rfl (AM ?_)
 refine AY (fuel:=3) [5,7] [(0,true),(1,true),(2,true),(3,true),(4,true)] (by kernel_rfl) rfl ?_
 refine AJ rfl rfl rfl (Ec rfl rfl rfl (Bc rfl rfl rfl (AZ (hc:=fun w' ⟨O',hq⟩=>Blk.cell (i:=2) ((a0.st hq (by decide)).1) rfl) rfl rfl rfl ?_)))
 refine AJ rfl rfl rfl (AM ?_)
 refine Bb (i:=12) (by kernel_rfl) rfl ?_
 refine Bv 6 (by decide) a1 (xs:=(([(x0.entries.length:Int)]:List Int):List Int)) rfl rfl rfl rfl ⟨(vInt f1),trivial⟩ (by decide) (by decide) rfl fun n3 o3 p3 e0 b1=>?_
 have hZ:=e0.lst [] (fun _ h=>h.elim)
 replace c0:=c0.keep (e0.agree (i:=5) id _ (MapR.at b0))
 replace h1:=h1.stS e0 id (fun _ _=>id)
 refine BG [(13,[5,7])] hZ (by kernel_rfl) ?_
 refine Bb (i:=13) (by kernel_rfl) rfl ?_
 replace b0:=b0.st e0
 obtain ⟨q3,g0,c1,m2⟩:=MapR.take b0 c0 7 (by decide) (by decide)
 have hZ:=g0.lst [5] (fun _ h=>by cases h;decide)
 obtain ⟨n2,d1,hm⟩:=bs hm
 obtain ⟨d1,o2,p2⟩:=AU d1
 replace b1:=b1.st g0
 refine Bw rfl m2 (b1.rd) rfl rfl (by decide) o2 p2 rfl fun r3 s3 t3 u3 h0 i1=>?_
 rw [← d1] at i1 ⊢
 replace hZ:=hZ.cmp h0 [5,7] (fun _ h=>by cases h;decide) rfl
 refine BG [] hZ (by kernel_rfl) ?_
 refine Bb (i:=14) (by kernel_rfl) rfl ?_
 replace c1:=c1.st h0
 refine Rh c1 i1 (by decide) rfl rfl rfl fun v3 w3 r0 q2=>?_
 refine Dm (by kernel_rfl) ?_
 refine Cn (by kernel_rfl) ?_
 refine Al (Aj (Ar rfl rfl (Au rfl rfl (Au rfl rfl (Au rfl rfl (o_z ?_))))))
 refine AK ?_
 replace a0:=(((a0.st e0).st g0).st h0).st r0
 replace j0:=(((((j0.st n0).st q0).st e0).st g0).st h0).st r0
 replace o0:=((((o0.st q0).st e0).st g0).st h0).st r0
 obtain ⟨x3,r2,j1,k1,s2⟩:=Reg.shut (x:=(⟨x0.packer,g1,(⟨mput x0.table.l q5.2.1 n2⟩:MapR 3 Int Int)⟩:Reg)) (l0:=2) (l1:=3) (l2:=4) (l3:=5) (by decide) a0 j0 o0 q2
 obtain rfl:=sm hm
 replace hB:=((((((((hB.st S9).st w0).st n0).st q0).st e0).st g0).st h0).st r0).st r2
 obtain ⟨O',hS',hz,hl⟩:=hE.leave (fun q=>if q=2 then i0 else 0) rfl hB
 exact ret3 rfl (AB rfl) (AB rfl) (AB rfl) ⟨O',hS',_,_,_,(Ob.leave s2 hz (hl 2 (by decide) (by decide)) d0.2),rfl,(vInt f1),vBool,(vErr (show inI64 0 from by decide))⟩
noncomputable def Bt (x0:Reg) (x1:Int):Option Bool :=
  bnd (if 0≤x1 then (if x1 < (x0.entries.length:Int) then (some true) else (some false)) else (some false):Option Bool) fun y3=>some y3
theorem Dw {w:World} {O:Lab} {p0 i0:Nat} {x0:Reg} (b0:Ob i0 w O (.pointer (some ⟨p0,0,none⟩)) x0) {x1:Int} (rx1:inI64 x1) {r:Bool} (hm:Bt x0 x1=some r) :
    Fn Tryz.prog 79 [(.pointer (some ⟨p0,0,none⟩)),(.int .i64 x1)] w fun v w'=>∃ O',St (eT i0) w O w' O'∧Ob i0 w' O' (.pointer (some ⟨p0,0,none⟩)) x0∧Vb w' (Fr 0 w' O') v r:=by
 obtain ⟨O0,hE,j0,k0⟩:=ent1 (w:=w) (O:=O) b0.2
 have b0':=Ob.leave b0 j0 k0 (j:=2) (by decide)
 have hB:Bm w O0 w O0:=Bm.refl
 refine AH Tryz.func79 rfl Tryz.ntmps79 rfl ?_
 unfold Bt at hm
 refine Al (Aj (Au rfl rfl (o_z ?_)))
 refine Al ?_
 obtain ⟨y3,a0,hm⟩:=bs hm
 refine AL (fun l' w'=>∃ (x6:Unit) (O':Lab),subs l' [(4,(.bool y3))]∧Bm w O0 w' O'∧Ob 2 w' O' (.pointer (some ⟨p0,0,none⟩)) x0) ?_ ?_
 ·
  refine Aj (Ar rfl rfl (Ha rfl rfl rfl (fun c7=>?_) fun c7=>?_))
  ·
   replace a0:=ip a0 c7
   refine Ar rfl rfl (Ay rfl rfl (Ar rfl rfl (Ay rfl rfl (Ar rfl rfl (Ay rfl rfl (CI rfl rfl (Ay rfl rfl ?_)))))))
   obtain ⟨O8,z0,a1,b1,S9,m0,d0,e0,c0,f0⟩:=Reg.opn b0' 2 3 4 5 (by decide)
   obtain ⟨c1,rfl⟩:=e0.ptr
   obtain ⟨d1,e1,rfl⟩:=c0.form
   obtain ⟨f1,rfl⟩:=f0.mptr
   refine AG rfl rfl (Ay rfl rfl (AE (hc:=Blk.cell (i:=1) (d0.1) rfl) rfl rfl ?_))
   refine Ay rfl rfl (AP rfl rfl ?_)
   have n0:x0.entries.length≤9223372036854775807:=Nat.le_trans c0.len.2.1 c0.len.2.2
   have g1:inI64 (x0.entries.length:Int):=rngNat n0
   refine Ay rfl rfl (DM rfl rfl rfl (fun g0=>?_) fun g0=>?_)
   ·
    replace a0:=ip a0 g0
    refine AX rfl rfl rfl (Au rfl rfl (o_z ?_))
    obtain ⟨h1,o0,q0,r0,s0⟩:=Reg.shut (x:=x0) (l0:=2) (l1:=3) (l2:=4) (l3:=5) (by decide) d0 e0 c0 f0
    obtain rfl:=sm a0
    exact ⟨(),_,⟨rfl,trivial⟩,(hB.st S9).st o0,s0⟩
   replace a0:=im a0 g0
   refine AX rfl rfl rfl (Au rfl rfl (o_z ?_))
   obtain ⟨i1,t0,u0,v0,w0⟩:=Reg.shut (x:=x0) (l0:=2) (l1:=3) (l2:=4) (l3:=5) (by decide) d0 e0 c0 f0
   obtain rfl:=sm a0
   exact ⟨(),_,⟨rfl,trivial⟩,(hB.st S9).st t0,w0⟩
  replace a0:=im a0 c7
  refine Ar rfl rfl (At rfl rfl rfl rfl (At rfl rfl rfl rfl (At rfl rfl rfl rfl (At rfl rfl rfl rfl (At rfl rfl rfl rfl (At rfl rfl rfl rfl (At rfl rfl rfl rfl (AT rfl rfl rfl (Au rfl rfl (o_z ?_))))))))))
  obtain rfl:=sm a0
  exact ⟨(),_,⟨rfl,trivial⟩,hB,b0'⟩
 rintro j1 k1 ⟨x6,m1,h0,hB,y0⟩
 refine AQ _ h0 ?_
 refine AK ?_
 obtain rfl:=sm hm
 obtain ⟨O',hS',hz,hl⟩:=hE.leave (fun q=>if q=2 then i0 else 0) rfl hB
 exact ret1v rfl (AB rfl) ⟨O',hS',(Ob.leave y0 hz (hl 2 (by decide) (by decide)) b0.2),vBool⟩
noncomputable def BU (x0:Reg) (x1:Int):Option ((List Int)×Err) :=
  bnd (Bt x0 x1) fun q3=>if q3=true then bnd (atI x0.entries x1) fun a27=>bnd (CE x0.packer a27.words) fun q45=>some (q45.1,(⟨q45.2.n⟩:Err)) else some (([]:List Int),(⟨1⟩:Err))
theorem Hf {w:World} {O:Lab} {p0 i0:Nat} {x0:Reg} (a0:Ob i0 w O (.pointer (some ⟨p0,0,none⟩)) x0) {x1:Int} (rx1:inI64 x1) {r:(List Int)×Err} (hm:BU x0 x1=some r) :
    Fn Tryz.prog 58 [(.pointer (some ⟨p0,0,none⟩)),(.int .i64 x1)] w fun v w'=>∃ O',St (eT i0) w O w' O'∧∃ v0 v1:Value,Ob i0 w' O' (.pointer (some ⟨p0,0,none⟩)) x0∧v=.tuple #[v0,v1]∧Vb w' (Fr 0 w' O') v0 r.1∧Vb w' (Fr 0 w' O') v1 r.2:=by
 obtain ⟨O0,hE,s0,t0⟩:=ent1 (w:=w) (O:=O) a0.2
 have a0':=Ob.leave a0 s0 t0 (j:=2) (by decide)
 have hB:Bm w O0 w O0:=Bm.refl
 refine AH Tryz.func58 rfl Tryz.ntmps58 rfl ?_
 unfold BU at hm
 refine Al (Aj (Au rfl rfl (Au rfl rfl (o_z ?_))))
 refine Al (AN (Al (Aj (Ar rfl rfl (GR rfl rfl ?_)))))
 refine Au rfl rfl (o_z ?_)
 refine Ae rfl (Al (Aj (Ar rfl rfl (Ar rfl rfl ?_))))
 obtain ⟨q3,e4,hm⟩:=bs hm
 refine Cx (O:=O0) (Dw a0' rx1 e4) rfl rfl fun v9 w5 O6 S7 h8=>?_
 obtain ⟨m0,u0⟩:=h8
 obtain rfl:=u0.bool
 cases q3
 case false =>
  replace hm:=iF hm
  refine CC rfl rfl (Au rfl rfl (o_z ?_))
  refine Ah rfl (Al (Aj (EQ rfl rfl ?_)))
  refine Au rfl rfl (Au rfl rfl (o_z ?_))
  refine AK ?_
  obtain rfl:=sm hm
  replace hB:=hB.st S7
  obtain ⟨O',hS',hz,hl⟩:=hE.leave (fun q=>if q=2 then i0 else 0) rfl hB
  exact ret2 rfl (AB rfl) (AB rfl) ⟨O',hS',_,_,(Ob.leave m0 hz (hl 2 (by decide) (by decide)) a0.2),rfl,(Vb.mono (Vb.nil _ _) hz),(vErr (by decide))⟩
 replace hm:=iT hm
 refine CB rfl rfl (Au rfl rfl (o_z ?_))
 refine Ae rfl (AO (Al ?_))
 obtain ⟨n0,m1,n1,o1,w0,y0,b0,o0,c0,e0⟩:=Reg.opn m0 2 3 4 5 (by decide)
 obtain ⟨p1,rfl⟩:=o0.ptr
 obtain ⟨q1,r1,rfl⟩:=c0.form
 obtain ⟨s1,rfl⟩:=e0.mptr
 refine BC [(12,[3])] n0 ?_
 refine AY (fuel:=5) [] [(0,true),(1,true),(2,true),(3,true),(4,true),(5,true),(6,true),(7,true),(8,true),(9,true),(10,true),(11,true)] (by kernel_rfl) rfl ?_
 refine AJ rfl rfl rfl (Ec rfl rfl rfl (Bc rfl rfl rfl (AZ (hc:=fun w' ⟨O',hq⟩=>Blk.cell (i:=0) ((b0.st hq (by decide)).1) rfl) rfl rfl rfl ?_)))
 refine AJ rfl rfl rfl (Ec rfl rfl rfl (Bc rfl rfl rfl (AZ (hc:=fun w' ⟨O',hq⟩=>Blk.cell (i:=1) ((b0.st hq (by decide)).1) rfl) rfl rfl rfl ?_)))
 refine AJ rfl rfl rfl ?_
 obtain ⟨t1,z0,hm⟩:=bs hm
 obtain ⟨a1,b1⟩:=AS z0
 obtain ⟨u1,w1,c1,g0,h0,j0,k0,y1,rfl,q0,z1,a2,b2⟩:=c0.elemF b1
 obtain ⟨c2,d2,rfl⟩:=q0.form
 refine BP (hA:=g0) (hj:=(Int.toNat_of_nonneg a1).symm) (hlt:=j0) rfl rfl rfl rfl ?_
 refine Bc rfl rfl rfl (AZ (hc:=fun w' ⟨O',hq⟩=>cat0 (Bh (hq.agree (i:=4) (by decide)) h0 k0)) rfl rfl rfl ?_)
 refine AM ?_
 refine Bb (i:=12) (by kernel_rfl) rfl ?_
 obtain ⟨e2,d1,hm⟩:=bs hm
 refine Cx (O:=n0) (IB o0 q0 d1) rfl rfl fun f2 g2 h2 d0 e1=>?_
 obtain ⟨i2,j2,f1,rfl,f0,g1⟩:=e1
 obtain ⟨k2,m2,rfl⟩:=f0.form
 obtain ⟨rfl,h1⟩:=g1.err
 have hZ:=d0.lst [3] (fun _ h=>by cases h;decide)
 refine BG [] hZ (by kernel_rfl) ?_
 refine AY (fuel:=0) [] [(13,true),(14,true),(15,true),(16,true)] (by kernel_rfl) rfl ?_
 refine Kx rfl rfl rfl rfl (Kx rfl rfl rfl rfl (De rfl rfl rfl (De rfl rfl rfl (AM ?_))))
 refine Cn (by kernel_rfl) ?_
 refine AK ?_
 replace b0:=b0.st d0
 replace c0:=c0.st d0
 replace e0:=e0.st d0
 obtain ⟨n2,r0,i1,j1,k1⟩:=Reg.shut (x:=x0) (l0:=2) (l1:=3) (l2:=4) (l3:=5) (by decide) b0 f1 c0 e0
 obtain rfl:=sm hm
 replace hB:=(((hB.st S7).st w0).st d0).st r0
 obtain ⟨O',hS',hz,hl⟩:=hE.leave (fun q=>if q=2 then i0 else 0) rfl hB
 replace f0:=f0.st r0
 exact ret2 rfl (AB rfl) (AB rfl) ⟨O',hS',_,_,(Ob.leave k1 hz (hl 2 (by decide) (by decide)) a0.2),rfl,(Vb.mono f0 hz),(vErr h1)⟩
noncomputable def BL (x0:Reg) (x1:Int) (x2:Int) (x3:Int) (x4:Int):Option (Err×Reg) :=
  bnd (bnd (Bt x0 x1) fun q10=>if q10=true then if x2≠(-1) then (bnd (Bt x0 x2) fun q20=>if q20=true then some false else some true) else (some false) else some true:Option Bool) fun y6=>if y6=true then (some ((⟨1⟩:Err),x0)) else (bnd (atI x0.entries x1) fun a49=>some ((⟨0⟩:Err),(⟨x0.packer,(x0.entries.set (x1:Int).toNat ({ a49 with link:=(⟨x2,x3,x4⟩:RLk) }:REn)),x0.table⟩:Reg)))
theorem GL {w:World} {O:Lab} {p0 i0:Nat} {x0:Reg} (b0:Ob i0 w O (.pointer (some ⟨p0,0,none⟩)) x0) {x1:Int} (rx1:inI64 x1) {x2:Int} (rx2:inI64 x2) {x3:Int} (rx3:inI64 x3) {x4:Int} (rx4:inI64 x4) {r:Err×Reg} (hm:BL x0 x1 x2 x3 x4=some r) :
    Fn Tryz.prog 63 [(.pointer (some ⟨p0,0,none⟩)),(.int .i64 x1),(.int .i64 x2),(.int .i64 x3),(.int .i64 x4)] w fun v w'=>∃ O',St (eT i0) w O w' O'∧Ob i0 w' O' (.pointer (some ⟨p0,0,none⟩)) r.2∧Vb w' (Fr 0 w' O') v r.1:=by
 obtain ⟨O0,hE,w0,y0⟩:=ent1 (w:=w) (O:=O) b0.2
 have b0':=Ob.leave b0 w0 y0 (j:=2) (by decide)
 have hB:Bm w O0 w O0:=Bm.refl
 refine AH Tryz.func63 rfl Tryz.ntmps63 rfl ?_
 unfold BL at hm
 refine Al (Aj (Au rfl rfl (o_z ?_)))
 refine Al (AN (Al (Aj (Ar rfl rfl (GR rfl rfl ?_)))))
 refine Au rfl rfl (o_z ?_)
 refine Ae rfl (Al ?_)
 obtain ⟨y6,a0,hm⟩:=bs hm
 refine AL (fun l' w'=>∃ (x9:Unit) (O':Lab),subs l' [(0,(.pointer (some ⟨p0,0,none⟩))),(1,(.int .i64 x1)),(2,(.int .i64 x2)),(3,(.int .i64 x3)),(4,(.int .i64 x4)),(15,(.bool y6))]∧Bm w O0 w' O'∧Ob 2 w' O' (.pointer (some ⟨p0,0,none⟩)) x0) ?_ ?_
 ·
  refine Aj (Ar rfl rfl (Ar rfl rfl ?_))
  obtain ⟨z0,a1,a0⟩:=bs a0
  refine Cx (O:=O0) (Dw b0' rx1 a1) rfl rfl fun v1 w1 b1 e0 c1=>?_
  obtain ⟨m0,d1⟩:=c1
  obtain rfl:=d1.bool
  cases z0
  case false =>
   replace a0:=iF a0
   refine CC rfl rfl (Ar rfl rfl (At rfl rfl rfl rfl (At rfl rfl rfl rfl (At rfl rfl rfl rfl (At rfl rfl rfl rfl (At rfl rfl rfl rfl (At rfl rfl rfl rfl (At rfl rfl rfl rfl (At rfl rfl rfl rfl (AX rfl rfl rfl (Au rfl rfl (o_z ?_))))))))))))
   obtain rfl:=sm a0
   exact ⟨(),_,⟨rfl,rfl,rfl,rfl,rfl,rfl,trivial⟩,hB.st e0,m0⟩
  replace a0:=iT a0
  refine CB rfl rfl (Ar rfl rfl (Ay rfl rfl (Ar rfl rfl (Ay rfl rfl (Hb rfl rfl rfl (fun n0=>?_) fun n0=>?_)))))
  ·
   replace a0:=ip a0 n0
   refine Ay rfl rfl (Ar rfl rfl (Ay rfl rfl (Ar rfl rfl (Ay rfl rfl (Ar rfl rfl (Ay rfl rfl ?_))))))
   obtain ⟨e1,f1,a0⟩:=bs a0
   refine Cx (O:=b1) (Dw m0 rx2 f1) rfl rfl fun y1 z1 a2 s0 g1=>?_
   obtain ⟨t0,h1⟩:=g1
   obtain rfl:=h1.bool
   cases e1
   case false =>
    replace a0:=iF a0
    refine Ay rfl rfl (CC rfl rfl (Ay rfl rfl (AX rfl rfl rfl (AT rfl rfl rfl (Au rfl rfl (o_z ?_))))))
    obtain rfl:=sm a0
    exact ⟨(),_,⟨rfl,rfl,rfl,rfl,rfl,rfl,trivial⟩,(hB.st e0).st s0,t0⟩
   replace a0:=iT a0
   refine Ay rfl rfl (CB rfl rfl (Ay rfl rfl (AX rfl rfl rfl (AT rfl rfl rfl (Au rfl rfl (o_z ?_))))))
   obtain rfl:=sm a0
   exact ⟨(),_,⟨rfl,rfl,rfl,rfl,rfl,rfl,trivial⟩,(hB.st e0).st s0,t0⟩
  replace a0:=im a0 n0
  refine Ay rfl rfl (Ar rfl rfl (At rfl rfl rfl rfl (At rfl rfl rfl rfl (At rfl rfl rfl rfl (At rfl rfl rfl rfl (Ay rfl rfl (AT rfl rfl rfl (AT rfl rfl rfl (Au rfl rfl (o_z ?_))))))))))
  obtain rfl:=sm a0
  exact ⟨(),_,⟨rfl,rfl,rfl,rfl,rfl,rfl,trivial⟩,hB.st e0,m0⟩
 rintro b2 c2 ⟨x9,d2,o0,hB,u0⟩
 refine AQ _ o0 ?_
 refine CN rfl (fun q0=>?_) (fun q0=>?_)
 ·
  replace hm:=ip hm q0
  refine Al (Aj (EQ rfl rfl ?_))
  refine Au rfl rfl (o_z ?_)
  refine AK ?_
  obtain rfl:=sm hm
  obtain ⟨O',hS',hz,hl⟩:=hE.leave (fun q=>if q=2 then i0 else 0) rfl hB
  exact ret1v rfl (AB rfl) ⟨O',hS',(Ob.leave u0 hz (hl 2 (by decide) (by decide)) b0.2),(vErr (by decide))⟩
 replace hm:=im' hm q0
 refine AO (Al (Aj (Ar rfl rfl (CI rfl rfl ?_))))
 obtain ⟨e2,f2,g2,h2,i1,j1,f0,g0,c0,h0⟩:=Reg.opn u0 2 3 4 5 (by decide)
 obtain ⟨i2,rfl⟩:=g0.ptr
 obtain ⟨j2,k2,rfl⟩:=c0.form
 obtain ⟨m2,rfl⟩:=h0.mptr
 refine AG rfl rfl (AE (hc:=Blk.cell (i:=1) (f0.1) rfl) rfl rfl ?_)
 refine Ar rfl rfl (Ar rfl rfl (Ar rfl rfl (Ar rfl rfl (Cw rfl rfl rfl ?_))))
 obtain ⟨j0,k1,hm⟩:=bs hm
 obtain ⟨m1,v0⟩:=AS k1
 obtain ⟨n2,o2,n1,d0,r0,o1,p2,rfl,p1,q2,r2,s2⟩:=c0.elem v0
 obtain ⟨t2,u2,rfl⟩:=p1.form
 refine Bi (hA:=d0) (hj:=(Int.toNat_of_nonneg m1).symm) (hlt:=r0) rfl rfl rfl ?_
 refine AG rfl rfl (Jr (a:=j0) (a':=({ j0 with link:=(⟨x2,x3,x4⟩:RLk) }:REn)) (off:=1) c0 d0 v0 rfl rfl rfl (Nat.le_of_ble_eq_true rfl) (by first|exact allOne rfl|simp [Value.cells,Value.oneCell',Fq]) (by rintro ce ⟨v2,rfl,q1,w2,y2,z2⟩;exact ⟨_,rfl,q1,rx2,rx3,rx4⟩) fun a3 k0 c0=>?_)
 refine o_z ?_
 refine Al (Aj (Au rfl rfl (o_z ?_)))
 refine AK ?_
 replace f0:=f0.st k0
 replace g0:=g0.st k0
 replace h0:=h0.st k0
 obtain ⟨b3,r1,s1,t1,u1⟩:=Reg.shut (x:=(⟨x0.packer,(x0.entries.set (x1:Int).toNat ({ j0 with link:=(⟨x2,x3,x4⟩:RLk) }:REn)),x0.table⟩:Reg)) (l0:=2) (l1:=3) (l2:=4) (l3:=5) (by decide) (by have q:=f0;rw [← ((by simp:(x0.entries.set (x1:Int).toNat ({ j0 with link:=(⟨x2,x3,x4⟩:RLk) }:REn)).length=x0.entries.length).trans rfl)] at q;exact q) g0 c0.relen h0
 obtain rfl:=sm hm
 replace hB:=((hB.st i1).st k0).st r1
 obtain ⟨O',hS',hz,hl⟩:=hE.leave (fun q=>if q=2 then i0 else 0) rfl hB
 exact ret1v rfl (AB rfl) ⟨O',hS',(Ob.leave u1 hz (hl 2 (by decide) (by decide)) b0.2),(vErr (show inI64 0 from by decide))⟩
noncomputable def BV (x0:List Int):Option (List Int) :=
  bnd (chkI ((x0.length:Int) - 1)) fun n4=>bnd (lop (ρ:=(List Int)) (fun (s9:(List Int)×Int×Int)=>if s9.2.1 < s9.2.2 then (bnd (atI s9.1 s9.2.2) fun a31=>bnd (atI s9.1 s9.2.1) fun a43=>bnd (atI s9.1 s9.2.1) fun a55=>bnd (atI (s9.1.set (s9.2.1:Int).toNat a31) s9.2.2) fun a69=>bnd (chkI (s9.2.1 + 1)) fun n83=>bnd (chkI (s9.2.2 - 1)) fun n86=>some (.next (((s9.1.set (s9.2.1:Int).toNat a31).set (s9.2.2:Int).toNat a43),n83,n86))) else (some (.brk (s9.1,s9.2.1,s9.2.2)))) (x0,0,n4)) fun res7=>fin res7 fun (s93:(List Int)×Int×Int)=>some s93.1
theorem Hg {w:World} {O:Lab} {A0:Option Addr} {m0 c0 i0:Nat} {x0:List Int} (d0:Rw i0 w O 3 (.slice A0 m0 c0) x0) {r:(List Int)} (hm:BV x0=some r) :
    Fn Tryz.prog 93 [(.slice A0 m0 c0)] w fun v w'=>∃ O',St (eT i0) w O w' O'∧Rw i0 w' O' 3 (.slice A0 m0 c0) r:=by
 obtain ⟨O0,hE,f1,g1⟩:=ent1 (w:=w) (O:=O) d0.2.2
 obtain rfl:m0=x0.length:=d0.len.1
 have d0':=Rw.leave d0 f1 g1 (j:=2) (by decide)
 have hB:Bm w O0 w O0:=Bm.refl
 refine AH Tryz.func93 rfl Tryz.ntmps93 rfl ?_
 unfold BV at hm
 refine Al (Aj (Ar rfl rfl (AP rfl rfl ?_)))
 have l3:x0.length≤9223372036854775807:=Nat.le_trans d0'.len.2.1 d0'.len.2.2
 have r2:inI64 (x0.length:Int):=rngNat l3
 obtain ⟨n4,e5,hm⟩:=bs hm
 have r6:=(AW e5)
 refine JZ (he:=e5) rfl rfl rfl ?_
 refine Au rfl rfl (Au rfl rfl (o_z ?_))
 obtain ⟨j0,h1,hm⟩:=bs hm
 refine AL (aft j0 (fun (s9:(List Int)×Int×Int) (h0:Unit)=>[(0,(.slice A0 x0.length c0))]) (fun s9 h0 w'=>∃ O':Lab,Bm w O0 w' O'∧Rw 2 w' O' 3 (.slice A0 x0.length c0) s9.1∧inI64 s9.2.1∧inI64 s9.2.2)) ?_ ?_
 ·
  refine AN (Gz (σ:=(List Int)×Int×Int) (X:=Unit) h1 (fun (s9:(List Int)×Int×Int) (h0:Unit)=>[(0,(.slice A0 x0.length c0)),(2,(.int .i64 s9.2.1)),(3,(.int .i64 s9.2.2))]) _ (fun s9 h0 w'=>∃ O':Lab,Bm w O0 w' O'∧Rw 2 w' O' 3 (.slice A0 x0.length c0) s9.1∧inI64 s9.2.1∧inI64 s9.2.2) _ () ⟨O0,hB,d0',(show inI64 (0) from by decide),r6⟩ ⟨rfl,rfl,rfl,trivial⟩ ?_)
  rintro s9 h0 k2 i1 ⟨j1,hB,b0,y0,z0⟩ a0 k0 e0
  refine Al (Al (Aj (Ar rfl rfl (Ar rfl rfl (DM rfl rfl rfl (fun l0=>?_) fun l0=>?_)))))
  ·
   replace a0:=ip a0 l0
   refine o_z ?_
   refine Ah rfl (AO (Al (AN (BC [(13,[2])] j1 ?_))))
   refine AY (fuel:=5) [] [(0,true),(1,true),(4,true),(5,true),(6,true),(7,true),(8,true),(9,true),(10,true),(11,true),(12,true)] (by kernel_rfl) rfl ?_
   refine AJ rfl rfl rfl (AJ rfl rfl rfl (AJ rfl rfl rfl (AJ rfl rfl rfl ?_)))
   obtain ⟨k1,l1,a0⟩:=bs a0
   obtain ⟨m1,n1⟩:=AS l1
   obtain ⟨l2,m2,o1,n0,o0,p0,q0,rfl,p1⟩:=b0.elemF n1
   refine BP (hA:=n0) (hj:=(Int.toNat_of_nonneg m1).symm) (hlt:=p0) rfl rfl rfl rfl ?_
   refine AZ (hc:=fun w' ⟨O',hq⟩=>cat0 (Bh (hq.agree (i:=2) (by decide)) o0 q0)) rfl rfl rfl ?_
   refine AJ rfl rfl rfl (AJ rfl rfl rfl ?_)
   obtain ⟨q1,r1,a0⟩:=bs a0
   obtain ⟨s1,t1⟩:=AS r1
   obtain ⟨n2,o2,u1,r0,s0,t0,u0,rfl,v1⟩:=b0.elemF t1
   refine BP (hA:=r0) (hj:=(Int.toNat_of_nonneg s1).symm) (hlt:=t0) rfl rfl rfl rfl ?_
   refine AZ (hc:=fun w' ⟨O',hq⟩=>cat0 (Bh (hq.agree (i:=2) (by decide)) s0 u0)) rfl rfl rfl ?_
   obtain ⟨p2,w1,a0⟩:=bs a0
   obtain ⟨x1,a1⟩:=AS w1
   obtain ⟨q2,s2,y1,f0,z1,v0,a2,rfl,t2⟩:=b0.elemF a1
   refine BP (hA:=f0) (hj:=(Int.toNat_of_nonneg x1).symm) (hlt:=v0) rfl rfl rfl rfl ?_
   refine AM ?_
   refine AY (fuel:=3) [2] [(2,true),(3,true)] (by kernel_rfl) rfl ?_
   refine AJ rfl rfl rfl (AJ rfl rfl rfl (AM ?_))
   refine Bb (i:=13) (by kernel_rfl) rfl ?_
   refine CW rfl b0 (a:=k1) (vInt p1) f0 rfl rfl (AD a1) fun u2 b1 b0=>?_
   have hZ:=b1.lst [2] (fun _ h=>by cases h;decide)
   refine BG [] hZ (by kernel_rfl) ?_
   refine AY (fuel:=1) [] [(14,true)] (by kernel_rfl) rfl ?_
   obtain ⟨v2,b2,a0⟩:=bs a0
   obtain ⟨c2,c1⟩:=AS b2
   obtain ⟨w2,x2,d2,g0,e2,w0,f2,rfl,y2⟩:=b0.elemF c1
   refine BP (hA:=g0) (hj:=(Int.toNat_of_nonneg c2).symm) (hlt:=w0) rfl rfl rfl rfl ?_
   refine AM ?_
   refine Bb (i:=15) (by kernel_rfl) rfl ?_
   refine CW rfl b0 (a:=q1) (vInt v1) g0 rfl rfl (AD c1) fun z2 g2 b0=>?_
   refine Dm (by kernel_rfl) ?_
   refine Cn (by kernel_rfl) ?_
   refine Aj (Ar rfl rfl ?_)
   obtain ⟨a3,d1,a0⟩:=bs a0
   have h2:=(AW d1)
   refine Dv (he:=d1) rfl rfl rfl ?_
   refine Ar rfl rfl ?_
   obtain ⟨b3,e1,a0⟩:=bs a0
   have i2:=(AW e1)
   refine JZ (he:=e1) rfl rfl rfl ?_
   refine Au rfl rfl (Au rfl rfl (o_z ?_))
   obtain rfl:=sm a0
   exact show Exists _ from ⟨_,(),rfl,⟨rfl,rfl,rfl,trivial⟩,_,(hB.st b1).st g2,b0,h2,i2⟩
  replace a0:=im a0 l0
  refine o_z ?_
  refine Ae rfl (DN ?_)
  obtain rfl:=sm a0
  exact show Exists _ from ⟨_,(),e0 _ rfl,⟨rfl,trivial⟩,_,hB,b0,y0,z0⟩
 rintro c3 d3 ⟨e3,f3,rfl,j2,g3,hB,b0,y0,z0⟩
 replace hm:=AV hm
 obtain rfl:=sm hm
 obtain ⟨O',hS',hz,hl⟩:=hE.leave (fun q=>if q=2 then i0 else 0) rfl hB
 exact ret0n rfl  ⟨O',hS',(Rw.leave b0 hz (hl 2 (by decide) (by decide)) d0.2.2)⟩
noncomputable def Ck (x0:Reg) (x1:Int):Option ((List Int)×Err) :=
  bnd (Bt x0 x1) fun q3=>if q3=true then bnd (lop (ρ:=(List Int)×Err) (fun (s14:Int×(List Int))=>bnd (atI x0.entries s14.1) fun a48=>if a48.link.parent < 0 then (bnd (BV s14.2) fun q74=>some (.ret (q74,(⟨0⟩:Err)))) else (bnd (appI 8 s14.2 [a48.link.op]) fun u89=>if (x0.entries.length:Int) < (u89.length:Int) then (some (.ret (([]:List Int),(⟨21⟩:Err)))) else (some (.next (a48.link.parent,u89))))) (x1,([]:List Int))) fun res12=>fin res12 fun (_:Int×(List Int))=>none else some (([]:List Int),(⟨1⟩:Err))
theorem Hz {w:World} {O:Lab} {p0 i0:Nat} {x0:Reg} (o0:Ob i0 w O (.pointer (some ⟨p0,0,none⟩)) x0) {x1:Int} (rx1:inI64 x1) {r:(List Int)×Err} (hm:Ck x0 x1=some r) :
    Fn Tryz.prog 81 [(.pointer (some ⟨p0,0,none⟩)),(.int .i64 x1)] w fun v w'=>∃ O',St (eT i0) w O w' O'∧∃ v0 v1:Value,Ob i0 w' O' (.pointer (some ⟨p0,0,none⟩)) x0∧v=.tuple #[v0,v1]∧Vb w' (Fr 0 w' O') v0 r.1∧Vb w' (Fr 0 w' O') v1 r.2:=by
 obtain ⟨O0,hE,z1,a2⟩:=ent1 (w:=w) (O:=O) o0.2
 have o0':=Ob.leave o0 z1 a2 (j:=2) (by decide)
 have hB:Bm w O0 w O0:=Bm.refl
 refine AH Tryz.func81 rfl Tryz.ntmps81 rfl ?_
 unfold Ck at hm
 refine Al (Aj (Au rfl rfl (Au rfl rfl (o_z ?_))))
 refine Al (AN (Al (Aj (Ar rfl rfl (GR rfl rfl ?_)))))
 refine Au rfl rfl (o_z ?_)
 refine Ae rfl (Al (Aj (Ar rfl rfl (Ar rfl rfl ?_))))
 obtain ⟨q3,e4,hm⟩:=bs hm
 refine Cx (O:=O0) (Dw o0' rx1 e4) rfl rfl fun v9 w5 O6 S7 h8=>?_
 obtain ⟨a1,b2⟩:=h8
 obtain rfl:=b2.bool
 cases q3
 case false =>
  replace hm:=iF hm
  refine CC rfl rfl (Au rfl rfl (o_z ?_))
  refine Ah rfl (Al (Aj (EQ rfl rfl ?_)))
  refine Au rfl rfl (Au rfl rfl (o_z ?_))
  refine AK ?_
  obtain rfl:=sm hm
  replace hB:=hB.st S7
  obtain ⟨O',hS',hz,hl⟩:=hE.leave (fun q=>if q=2 then i0 else 0) rfl hB
  exact ret2 rfl (AB rfl) (AB rfl) ⟨O',hS',_,_,(Ob.leave a1 hz (hl 2 (by decide) (by decide)) o0.2),rfl,(Vb.mono (Vb.nil _ _) hz),(vErr (by decide))⟩
 replace hm:=iT hm
 refine CB rfl rfl (Au rfl rfl (o_z ?_))
 refine Ae rfl (AO (Al (Aj (Au rfl rfl (o_z ?_)))))
 obtain ⟨s0,d1,hm⟩:=bs hm
 refine AL (aft s0 (fun (h0:Int×(List Int)) (n0:(Option Addr×Nat))=>[]) (fun h0 n0 w'=>False)) ?_ ?_
 ·
  refine AN ?_
  replace hB:=hB.st S7
  refine Gz (σ:=Int×(List Int)) (X:=(Option Addr×Nat)) d1 (fun (h0:Int×(List Int)) (n0:(Option Addr×Nat))=>[(0,(.pointer (some ⟨p0,0,none⟩))),(1,(.int .i64 h0.1)),(6,(.slice n0.1 h0.2.length n0.2))]) _ (fun h0 n0 w'=>∃ O':Lab,Bm w O0 w' O'∧Ob 2 w' O' (.pointer (some ⟨p0,0,none⟩)) x0∧Rw 8 w' O' 3 (.slice n0.1 h0.2.length n0.2) h0.2∧inI64 h0.1) _ (none,0) ⟨O6,hB,a1,(Rw.nil 8 (by decide)),rx1⟩ ⟨rfl,rfl,rfl,trivial⟩ ?_
  rintro h0 n0 f3 c2 ⟨g3,hB,a1,r0,h3⟩ a0 d0 e1
  refine AN (Al (Aj (Ar rfl rfl (CI rfl rfl ?_))))
  obtain ⟨d2,i3,j3,k3,t0,e2,j0,f0,e0,g0⟩:=Reg.opn a1 2 3 4 5 (by decide)
  obtain ⟨m3,rfl⟩:=f0.ptr
  obtain ⟨n3,o3,rfl⟩:=e0.form
  obtain ⟨p3,rfl⟩:=g0.mptr
  refine AG rfl rfl (AE (hc:=Blk.cell (i:=1) (j0.1) rfl) rfl rfl ?_)
  refine Ar rfl rfl ?_
  obtain ⟨b1,f2,a0⟩:=bs a0
  obtain ⟨g2,h2⟩:=AS f2
  obtain ⟨r3,s3,i2,f1,g1,h1,t3,rfl,j2,k2,m2,u3⟩:=e0.elem h2
  obtain ⟨v3,w3,rfl⟩:=j2.form
  refine Bi (hA:=f1) (hj:=(Int.toNat_of_nonneg g2).symm) (hlt:=g1) rfl rfl rfl ?_
  refine AG rfl rfl (Bk (hl:=rfl) (hc:=(MK 1 3 h1)) rfl rfl ?_)
  refine BD 6 d2 rfl fun n2 x3 q1 b0 k0=>?_
  refine AR k0 rfl rfl rfl (Ba rfl) (allOne rfl) fun o2 c0 k0=>?_
  replace k0:Lc 6 o2 q1 n2 146 [(.int .i64 b1.link.parent),(.int .i64 b1.link.op),(.int .i64 b1.link.cost)]:=k0
  refine o_z ?_
  refine Al (Al (Aj (AG rfl rfl (AE (hc:=Blk.cell (i:=0) (k0.1) rfl) rfl rfl ?_))))
  refine DM rfl rfl rfl (fun i1=>?_) fun i1=>?_
  ·
   replace a0:=ip a0 i1
   refine o_z ?_
   refine Ah rfl (Al (Aj (Ar rfl rfl ?_)))
   obtain ⟨y3,p2,a0⟩:=bs a0
   replace r0:=((r0.st t0).st b0).st c0
   refine Cx (O:=q1) (Hg r0 p2) rfl rfl fun z3 a4 b4 u0 w0=>?_
   refine o_z ?_
   refine Al (Aj (Ar rfl rfl (Au rfl rfl (Au rfl rfl (o_z ?_)))))
   refine AK ?_
   obtain ⟨c4,y0,w0⟩:=w0.freeze
   replace j0:=(((j0.st b0).st c0).st u0).st y0
   replace f0:=(((f0.st b0).st c0).st u0).st y0
   replace e0:=(((e0.st b0).st c0).st u0).st y0
   replace g0:=(((g0.st b0).st c0).st u0).st y0
   obtain ⟨d4,r1,q2,r2,s2⟩:=Reg.shut (x:=x0) (l0:=2) (l1:=3) (l2:=4) (l3:=5) (by decide) j0 f0 e0 g0
   obtain rfl:=sm a0
   obtain rfl:=d0 _ rfl
   obtain rfl:=sm (Dc hm)
   replace hB:=(((((hB.st t0).st b0).st c0).st u0).st y0).st r1
   obtain ⟨O',hS',hz,hl⟩:=hE.leave (fun q=>if q=2 then i0 else 0) rfl hB
   replace w0:=w0.st r1
   exact ret2 rfl (AB rfl) (AB rfl) ⟨O',hS',_,_,(Ob.leave s2 hz (hl 2 (by decide) (by decide)) o0.2),rfl,(Vb.mono w0 hz),(vErr (show inI64 0 from by decide))⟩
  replace a0:=im a0 i1
  refine o_z ?_
  refine Ae rfl (AO (Al (Aj (Ar rfl rfl (AG rfl rfl (AE (hc:=Blk.cell (i:=1) (k0.1) rfl) rfl rfl ?_))))))
  obtain ⟨s1,j1,a0⟩:=bs a0
  obtain ⟨j1,t2,u2⟩:=AU j1
  replace r0:=((r0.st t0).st b0).st c0
  refine CP rfl (a:=b1.link.op) r0 (vInt m2) (fun _=>rfl) rfl (by decide) (by decide) t2 u2 ⟨rfl,rfl⟩ fun f4 v2 w2 g4 h4 m0 c1=>?_
  rw [← j1] at c1 ⊢
  refine Au rfl rfl (o_z ?_)
  refine Al (Al (Aj (Ar rfl rfl (AP rfl rfl ?_))))
  have k1:s1.length≤9223372036854775807:=Nat.le_trans c1.len.2.1 c1.len.2.2
  have x2:inI64 (s1.length:Int):=rngNat k1
  refine Ar rfl rfl (CI rfl rfl (AG rfl rfl ?_))
  replace j0:=((j0.st b0).st c0).st m0
  refine AE (hc:=Blk.cell (i:=1) (j0.1) rfl) rfl rfl ?_
  refine AP rfl rfl ?_
  replace e0:=((e0.st b0).st c0).st m0
  have m1:x0.entries.length≤9223372036854775807:=Nat.le_trans e0.len.2.1 e0.len.2.2
  have y2:inI64 (x0.entries.length:Int):=rngNat m1
  refine Ce rfl rfl rfl (fun q0=>?_) fun q0=>?_
  ·
   replace a0:=ip a0 q0
   refine o_z ?_
   refine Ah rfl (Al (Aj (EQ rfl rfl ?_)))
   refine Au rfl rfl (Au rfl rfl (o_z ?_))
   refine AK ?_
   replace f0:=((f0.st b0).st c0).st m0
   replace g0:=((g0.st b0).st c0).st m0
   obtain ⟨z2,n1,t1,u1,o1⟩:=Reg.shut (x:=x0) (l0:=2) (l1:=3) (l2:=4) (l3:=5) (by decide) j0 f0 e0 g0
   obtain rfl:=sm a0
   obtain rfl:=d0 _ rfl
   obtain rfl:=sm (Dc hm)
   replace hB:=((((hB.st t0).st b0).st c0).st m0).st n1
   obtain ⟨O',hS',hz,hl⟩:=hE.leave (fun q=>if q=2 then i0 else 0) rfl hB
   exact ret2 rfl (AB rfl) (AB rfl) ⟨O',hS',_,_,(Ob.leave o1 hz (hl 2 (by decide) (by decide)) o0.2),rfl,(Vb.mono (Vb.nil _ _) hz),(vErr (by decide))⟩
  replace a0:=im a0 q0
  refine o_z ?_
  refine Ae rfl (AO (Aj (AG rfl rfl ?_)))
  replace k0:=k0.st m0
  refine AE (hc:=Blk.cell (i:=0) (k0.1) rfl) rfl rfl ?_
  refine Au rfl rfl (o_z ?_)
  replace f0:=((f0.st b0).st c0).st m0
  replace g0:=((g0.st b0).st c0).st m0
  obtain ⟨a3,z0,w1,y1,p1⟩:=Reg.shut (x:=x0) (l0:=2) (l1:=3) (l2:=4) (l3:=5) (by decide) j0 f0 e0 g0
  obtain rfl:=sm a0
  exact show Exists _ from ⟨_,(v2,w2),rfl,⟨rfl,rfl,rfl,trivial⟩,_,((((hB.st t0).st b0).st c0).st m0).st z0,p1,c1.st z0,k2⟩
 rintro b3 c3 ⟨d3,e3,_,_,hE⟩
 exact hE.elim
end
section
open Go Go.RowKit
attribute [local irreducible] ewp owp hwp hwq hws Ev Evg Fn retPost loud loudS Res1
attribute [local irreducible] hwx loudX
structure Itm where
  cost:Int
  order:Int
  id:Int
instance:Rp Itm where
  isAgg:=true
  size:=3
  R w F cs x:=cs=[.int .i64 x.cost,.int .i64 x.order,.int .i64 x.id]∧inI64 x.cost∧inI64 x.order∧inI64 x.id
  len:=by rintro w F cs x ⟨rfl,h0,h1,h2⟩;rfl
  one:=by rintro w F cs x ⟨rfl,h0,h1,h2⟩ u hu;simp at hu;rcases hu with rfl|rfl|rfl<;>first|rfl|exact Vb.one rfl (by assumption)
  agree:=by rintro w w' F cs x ⟨rfl,h0,h1,h2⟩ ha;exact ⟨rfl,h0,h1,h2⟩
  mono:=by rintro w F G cs x ⟨rfl,h0,h1,h2⟩ ha;exact ⟨rfl,h0,h1,h2⟩
instance : TMth Tryz.prog 95 "Len" 56 false := ⟨by kernel_rfl⟩
instance : TMth Tryz.prog 95 "Less" 142 false := ⟨by kernel_rfl⟩
instance : TMth Tryz.prog 95 "Pop" 143 true := ⟨by kernel_rfl⟩
instance : TMth Tryz.prog 95 "Push" 144 true := ⟨by kernel_rfl⟩
instance : TMth Tryz.prog 95 "Swap" 145 false := ⟨by kernel_rfl⟩
noncomputable def BF (x0:List Itm):Option Int :=
  some (x0.length:Int)
theorem Fk {w:World} {A:Nat→Prop} (hA:∀ k,A k→k < w.heap.size) {vx0:Value} {x0:List Itm} (a0:Vb w A vx0 x0) {r:Int} (hm:BF x0=some r) :
    Fn Tryz.prog 56 [vx0] w fun v w'=>Ext w w'∧Vb w' (upA A w w') v r:=by
 obtain ⟨O,hB,b0⟩:=enter hA
 replace a0:=a0.mono b0
 obtain ⟨A2,c3,rfl⟩:=a0.form
 refine AH Tryz.func56 rfl Tryz.ntmps56 rfl ?_
 unfold BF at hm
 refine Al (Aj (Au rfl rfl (o_z ?_)))
 refine Al (Aj (Ar rfl rfl (AP rfl rfl ?_)))
 have l5:x0.length≤9223372036854775807:=Nat.le_trans a0.len.2.1 a0.len.2.2
 have r4:inI64 (x0.length:Int):=rngNat l5
 refine Au rfl rfl (o_z ?_)
 refine AK ?_
 obtain rfl:=sm hm
 exact ret1v rfl (AB rfl) ⟨hB.ext,(vInt r4)⟩
noncomputable def BJ (x0:List Itm) (x1:Int) (x2:Int):Option Bool :=
  bnd (bnd (atI x0 x1) fun a10=>bnd (atI x0 x2) fun a24=>if a10.cost < a24.cost then (some true) else (bnd (atI x0 x1) fun a39=>bnd (atI x0 x2) fun a53=>if a39.cost=a53.cost then (bnd (atI x0 x1) fun a68=>bnd (atI x0 x2) fun a82=>if a68.order < a82.order then (some true) else (some false)) else (some false)):Option Bool) fun y6=>some y6
theorem EU {w:World} {A:Nat→Prop} (hA:∀ k,A k→k < w.heap.size) {vx0:Value} {x0:List Itm} (b0:Vb w A vx0 x0) {x1:Int} (rx1:inI64 x1) {x2:Int} (rx2:inI64 x2) {r:Bool} (hm:BJ x0 x1 x2=some r) :
    Fn Tryz.prog 142 [vx0,(.int .i64 x1),(.int .i64 x2)] w fun v w'=>Ext w w'∧Vb w' (upA A w w') v r:=by
 obtain ⟨O,hB,z0⟩:=enter hA
 replace b0:=b0.mono z0
 obtain ⟨A4,c5,rfl⟩:=b0.form
 refine AH Tryz.func142 rfl Tryz.ntmps142 rfl ?_
 unfold BJ at hm
 refine Al (Aj (Au rfl rfl (o_z ?_)))
 refine Al ?_
 obtain ⟨y6,a0,hm⟩:=bs hm
 refine AL (fun l' w'=>∃ (x9:Unit) (O':Lab),subs l' [(6,(.bool y6))]∧Bs w A w' O') ?_ ?_
 ·
  refine Cr (·=w) [(0,true),(1,true),(2,true),(3,true),(4,true),(5,true),(6,true),(7,true),(8,true),(9,true),(10,true),(11,true),(12,true),(13,true),(14,true),(15,true),(16,true),(17,true),(18,true),(19,true),(20,true),(21,true),(22,true),(23,true),(24,true),(25,true),(26,true),(27,true),(28,true),(29,true),(30,true),(31,true),(32,true),(33,true),(34,true),(35,true),(36,true),(37,true)] (by kernel_rfl) rfl (by kernel_rfl) rfl ?_
  refine AJ rfl rfl rfl (AJ rfl rfl rfl ?_)
  obtain ⟨z1,a1,a0⟩:=bs a0
  obtain ⟨b1,c1⟩:=AS a1
  obtain ⟨a2,b2,d1,d0,e0,f0,rfl,c2,d2,e2⟩:=b0.elem' c1
  refine BP (hA:=d0) (hj:=(Int.toNat_of_nonneg b1).symm) (hlt:=e0) rfl rfl rfl rfl ?_
  refine Bc rfl rfl rfl (Cm (hc:=cat0 f0) rfl rfl rfl ?_)
  refine AJ rfl rfl rfl (AJ rfl rfl rfl ?_)
  obtain ⟨f2,e1,a0⟩:=bs a0
  obtain ⟨f1,g1⟩:=AS e1
  obtain ⟨g2,h2,h1,g0,h0,i0,rfl,i2,j2,k2⟩:=b0.elem' g1
  refine BP (hA:=g0) (hj:=(Int.toNat_of_nonneg f1).symm) (hlt:=h0) rfl rfl rfl rfl ?_
  refine Bc rfl rfl rfl (Cm (hc:=cat0 i0) rfl rfl rfl ?_)
  refine FA rfl rfl rfl rfl (fun j0=>?_) fun j0=>?_
  ·
   replace a0:=ip a0 j0
   refine AJ rfl rfl rfl (BW rfl rfl rfl rfl rfl (BW rfl rfl rfl rfl rfl (BW rfl rfl rfl rfl rfl (BW rfl rfl rfl rfl rfl (BW rfl rfl rfl rfl rfl (BW rfl rfl rfl rfl rfl (BW rfl rfl rfl rfl rfl (BW rfl rfl rfl rfl rfl (BW rfl rfl rfl rfl rfl (BW rfl rfl rfl rfl rfl (BW rfl rfl rfl rfl rfl (BW rfl rfl rfl rfl rfl (BW rfl rfl rfl rfl rfl (BW rfl rfl rfl rfl rfl ?_))))))))))))))
   refine BW rfl rfl rfl rfl rfl (BW rfl rfl rfl rfl rfl (BW rfl rfl rfl rfl rfl (BW rfl rfl rfl rfl rfl (BW rfl rfl rfl rfl rfl (BW rfl rfl rfl rfl rfl (BW rfl rfl rfl rfl rfl (BW rfl rfl rfl rfl rfl (BW rfl rfl rfl rfl rfl (BW rfl rfl rfl rfl rfl (CU rfl rfl rfl rfl (De rfl rfl rfl (h_z ?_))))))))))))
   obtain rfl:=sm a0
   exact ⟨(),_,⟨rfl,trivial⟩,hB⟩
  replace a0:=im a0 j0
  refine AJ rfl rfl rfl (AA rfl (Az rfl rfl (Cc rfl rfl (AA rfl (Az rfl rfl (Cc rfl rfl (AA rfl (Az rfl rfl ?_))))))))
  obtain ⟨l2,i1,a0⟩:=bs a0
  obtain ⟨j1,k1⟩:=AS i1
  obtain ⟨m2,n2,l1,k0,l0,m0,rfl,o2,p2,q2⟩:=b0.elem' k1
  refine Ix (hA:=k0) (hj:=(Int.toNat_of_nonneg j1).symm) (hlt:=l0) rfl rfl rfl ?_
  refine AA rfl (Az rfl rfl (Cs rfl rfl (AA rfl (Az rfl rfl (Bq (hc:=cat0 m0) rfl rfl ?_)))))
  refine AA rfl (Az rfl rfl (Cc rfl rfl (AA rfl (Az rfl rfl (Cc rfl rfl (AA rfl (Az rfl rfl ?_)))))))
  obtain ⟨r2,m1,a0⟩:=bs a0
  obtain ⟨n1,o1⟩:=AS m1
  obtain ⟨s2,t2,p1,n0,o0,p0,rfl,u2,v2,w2⟩:=b0.elem' o1
  refine Ix (hA:=n0) (hj:=(Int.toNat_of_nonneg n1).symm) (hlt:=o0) rfl rfl rfl ?_
  refine AA rfl (Az rfl rfl (Cs rfl rfl (AA rfl (Az rfl rfl (Bq (hc:=cat0 p0) rfl rfl ?_)))))
  refine AA rfl (Az rfl rfl (Be (fun _ _=>Hn rfl rfl) rfl (fun q0=>?_) (fun q0=>?_)))
  ·
   replace a0:=ip a0 q0
   refine AA rfl (Az rfl rfl (Cc rfl rfl (AA rfl (Az rfl rfl (Cc rfl rfl (AA rfl (Az rfl rfl (Cc rfl rfl (AA rfl (Az rfl rfl ?_))))))))))
   obtain ⟨y2,q1,a0⟩:=bs a0
   obtain ⟨r1,s1⟩:=AS q1
   obtain ⟨z2,a3,t1,r0,s0,t0,rfl,b3,c3,d3⟩:=b0.elem' s1
   refine Ix (hA:=r0) (hj:=(Int.toNat_of_nonneg r1).symm) (hlt:=s0) rfl rfl rfl ?_
   refine AA rfl (Az rfl rfl (Cs rfl rfl (AA rfl (Az rfl rfl (Bq (hc:=cat1 t0) rfl rfl ?_)))))
   refine AA rfl (Az rfl rfl (Cc rfl rfl (AA rfl (Az rfl rfl (Cc rfl rfl (AA rfl (Az rfl rfl ?_)))))))
   obtain ⟨e3,u1,a0⟩:=bs a0
   obtain ⟨v1,w1⟩:=AS u1
   obtain ⟨f3,g3,y1,u0,v0,w0,rfl,h3,i3,j3⟩:=b0.elem' w1
   refine Ix (hA:=u0) (hj:=(Int.toNat_of_nonneg v1).symm) (hlt:=v0) rfl rfl rfl ?_
   refine AA rfl (Az rfl rfl (Cs rfl rfl (AA rfl (Az rfl rfl (Bq (hc:=cat1 w0) rfl rfl ?_)))))
   refine AA rfl (Az rfl rfl (Be (fun _ _=>CF rfl rfl) rfl (fun y0=>?_) (fun y0=>?_)))
   ·
    replace a0:=ip a0 y0
    refine AA rfl (Az rfl rfl (MJ rfl rfl rfl (CL rfl rfl rfl rfl (De rfl rfl rfl (h_z ?_)))))
    obtain rfl:=sm a0
    exact ⟨(),_,⟨rfl,trivial⟩,hB⟩
   replace a0:=im a0 y0
   refine AA rfl (Az rfl rfl (MJ rfl rfl rfl (CL rfl rfl rfl rfl (De rfl rfl rfl (h_z ?_)))))
   obtain rfl:=sm a0
   exact ⟨(),_,⟨rfl,trivial⟩,hB⟩
  replace a0:=im a0 q0
  refine AA rfl (Az rfl rfl (Cc rfl rfl (BW rfl rfl rfl rfl rfl (BW rfl rfl rfl rfl rfl (BW rfl rfl rfl rfl rfl (BW rfl rfl rfl rfl rfl (BW rfl rfl rfl rfl rfl (BW rfl rfl rfl rfl rfl (BW rfl rfl rfl rfl rfl (BW rfl rfl rfl rfl rfl (BW rfl rfl rfl rfl rfl (BW rfl rfl rfl rfl rfl (BW rfl rfl rfl rfl rfl (AA rfl ?_))))))))))))))
  refine Az rfl rfl (OG rfl rfl rfl (CL rfl rfl rfl rfl (De rfl rfl rfl (h_z ?_))))
  obtain rfl:=sm a0
  exact ⟨(),_,⟨rfl,trivial⟩,hB⟩
 rintro k3 l3 ⟨x9,m3,c0,hB⟩
 refine AQ _ c0 ?_
 refine AK ?_
 obtain rfl:=sm hm
 exact ret1v rfl (AB rfl) ⟨hB.ext,vBool⟩
noncomputable def BB (x0:List Itm) (x1:Int) (x2:Int):Option (List Itm) :=
  bnd (atI x0 x2) fun a4=>bnd (atI x0 x1) fun a18=>bnd (atI x0 x1) fun a32=>bnd (atI (x0.set (x1:Int).toNat a4) x2) fun a48=>some ((x0.set (x1:Int).toNat a4).set (x2:Int).toNat a18)
theorem EV {w:World} {O:Lab} {A0:Option Addr} {m0 c0 i0:Nat} {x0:List Itm} (a0:Rw i0 w O 97 (.slice A0 m0 c0) x0) {x1:Int} (rx1:inI64 x1) {x2:Int} (rx2:inI64 x2) {r:(List Itm)} (hm:BB x0 x1 x2=some r) :
    Fn Tryz.prog 145 [(.slice A0 m0 c0),(.int .i64 x1),(.int .i64 x2)] w fun v w'=>∃ O',St (eT i0) w O w' O'∧Rw i0 w' O' 97 (.slice A0 m0 c0) r:=by
 obtain ⟨O0,hE,u0,v0⟩:=ent1 (w:=w) (O:=O) a0.2.2
 obtain rfl:m0=x0.length:=a0.len.1
 have a0':=Rw.leave a0 u0 v0 (j:=2) (by decide)
 have hB:Bm w O0 w O0:=Bm.refl
 refine AH Tryz.func145 rfl Tryz.ntmps145 rfl ?_
 unfold BB at hm
 refine BC [(13,[2])] O0 ?_
 refine AY (fuel:=5) [] [(0,true),(1,true),(4,true),(5,true),(6,true),(7,true),(8,true),(9,true),(10,true),(11,true),(12,true)] (by kernel_rfl) rfl ?_
 refine AJ rfl rfl rfl (AJ rfl rfl rfl (AJ rfl rfl rfl (AJ rfl rfl rfl ?_)))
 obtain ⟨a4,e5,hm⟩:=bs hm
 obtain ⟨p7,x6⟩:=AS e5
 obtain ⟨b8,o9,w0,f0,g0,h0,j0,rfl,y0,z0,a1⟩:=a0'.elemF x6
 refine BP (hA:=f0) (hj:=(Int.toNat_of_nonneg p7).symm) (hlt:=h0) rfl rfl rfl rfl ?_
 refine Hd (hl:=rfl) (hb:=fun w' ⟨O',hq⟩=>(Bh (hq.agree (i:=2) (by decide)) g0 j0)) rfl rfl rfl ?_
 refine AJ rfl rfl rfl (AJ rfl rfl rfl ?_)
 obtain ⟨b0,b1,hm⟩:=bs hm
 obtain ⟨c1,d1⟩:=AS b1
 obtain ⟨t1,u1,e1,k0,l0,n0,o0,rfl,f1,g1,h1⟩:=a0'.elemF d1
 refine BP (hA:=k0) (hj:=(Int.toNat_of_nonneg c1).symm) (hlt:=n0) rfl rfl rfl rfl ?_
 refine Hd (hl:=rfl) (hb:=fun w' ⟨O',hq⟩=>(Bh (hq.agree (i:=2) (by decide)) l0 o0)) rfl rfl rfl ?_
 obtain ⟨v1,i1,hm⟩:=bs hm
 obtain ⟨j1,r0⟩:=AS i1
 obtain ⟨w1,y1,k1,d0,l1,p0,m1,rfl,z1,a2,b2⟩:=a0'.elemF r0
 refine BP (hA:=d0) (hj:=(Int.toNat_of_nonneg j1).symm) (hlt:=p0) rfl rfl rfl rfl ?_
 refine AM ?_
 refine AY (fuel:=3) [2] [(2,true),(3,true)] (by kernel_rfl) rfl ?_
 refine AJ rfl rfl rfl (AJ rfl rfl rfl (AM ?_))
 refine Bb (i:=13) (by kernel_rfl) rfl ?_
 refine CW rfl a0' (a:=a4) (Vb.ofAgg (cs:=[(.int .i64 a4.cost),(.int .i64 a4.order),(.int .i64 a4.id)]) (x:=a4) rfl ⟨rfl,y0,z0,a1⟩) d0 rfl rfl (AD r0) fun c2 s0 a0'=>?_
 have hZ:=s0.lst [2] (fun _ h=>by cases h;decide)
 refine BG [] hZ (by kernel_rfl) ?_
 refine AY (fuel:=1) [] [(14,true)] (by kernel_rfl) rfl ?_
 obtain ⟨d2,n1,hm⟩:=bs hm
 obtain ⟨o1,t0⟩:=AS n1
 obtain ⟨e2,f2,p1,e0,q1,q0,r1,rfl,g2,h2,i2⟩:=a0'.elemF t0
 refine BP (hA:=e0) (hj:=(Int.toNat_of_nonneg o1).symm) (hlt:=q0) rfl rfl rfl rfl ?_
 refine AM ?_
 refine Bb (i:=15) (by kernel_rfl) rfl ?_
 refine CW rfl a0' (a:=b0) (Vb.ofAgg (cs:=[(.int .i64 b0.cost),(.int .i64 b0.order),(.int .i64 b0.id)]) (x:=b0) rfl ⟨rfl,f1,g1,h1⟩) e0 rfl rfl (AD t0) fun j2 s1 a0'=>?_
 refine Dm (by kernel_rfl) ?_
 refine Cn (by kernel_rfl) ?_
 obtain rfl:=sm hm
 replace hB:=(hB.st s0).st s1
 obtain ⟨O',hS',hz,hl⟩:=hE.leave (fun q=>if q=2 then i0 else 0) rfl hB
 exact ret0n rfl  ⟨O',hS',(Rw.leave a0' hz (hl 2 (by decide) (by decide)) a0.2.2)⟩
noncomputable def CV (x0:BxR 99 97 Itm) (x1:An 97 Itm):Option (BxR 99 97 Itm) :=
  bnd (appI 24 x0.l [x1.x]) fun u31=>some (⟨u31⟩:BxR 99 97 Itm)
theorem IC {w:World} {O:Lab} {p0 i0:Nat} {x0:BxR 99 97 Itm} (b0:Ob i0 w O (.pointer (some ⟨p0,0,none⟩)) x0) {vx1:Value} {x1:An 97 Itm} (g0:Vb w (Fr 0 w O) vx1 x1) {r:(BxR 99 97 Itm)} (hm:CV x0 x1=some r) :
    Fn Tryz.prog 144 [(.pointer (some ⟨p0,0,none⟩)),vx1] w fun v w'=>∃ O',St (eT i0) w O w' O'∧Ob i0 w' O' (.pointer (some ⟨p0,0,none⟩)) r:=by
 obtain ⟨O0,hE,k0,t0⟩:=ent1 (w:=w) (O:=O) b0.2
 have b0':=Ob.leave b0 k0 t0 (j:=2) (by decide)
 have hB:Bm w O0 w O0:=Bm.refl
 replace g0:=g0.mono k0
 obtain ⟨v3,rfl,h4⟩:=g0.any
 obtain ⟨j1,rfl,rfl,r6,r7,r8⟩:=h4
 refine AH Tryz.func144 rfl Tryz.ntmps144 rfl ?_
 unfold CV at hm
 refine Al (Aj (Ar rfl rfl (QX rfl rfl ?_)))
 refine Ar rfl rfl (BH rfl rfl rfl (BH rfl rfl rfl (BD 3 O0 rfl fun g9 k1 u0 m0 c0=>?_)))
 refine AR c0 rfl rfl rfl (Ba rfl) (allOne rfl) fun v0 n0 c0=>?_
 replace c0:Lc 3 v0 u0 g9 97 [(.int .i64 x1.x.cost),(.int .i64 x1.x.order),(.int .i64 x1.x.id)]:=c0
 refine Au rfl rfl (o_z ?_)
 refine Al (Aj (Ar rfl rfl (o_z ?_)))
 refine Ah rfl ?_
 replace b0':=(b0'.st m0).st n0
 obtain ⟨o0,m1,q0,w0,a0,d0⟩:=BxR.opn b0' 2 4 (by decide)
 obtain ⟨n1,o1,rfl⟩:=d0.form
 refine BC [(6,[4])] o0 ?_
 refine AY (fuel:=5) [] [(1,true),(2,true),(3,true),(4,true)] (by kernel_rfl) rfl ?_
 refine AJ rfl rfl rfl (Ec rfl rfl rfl (AZ (hc:=fun w' ⟨O',hq⟩=>Blk.cell (i:=0) ((a0.st hq (by decide)).1) rfl) rfl rfl rfl ?_))
 replace c0:=c0.st q0
 refine Hd (hl:=rfl) (hb:=fun w' ⟨O',hq⟩=>((c0.st hq (by decide)).1).cellsAt) rfl rfl rfl ?_
 refine AM ?_
 refine AY (fuel:=4) [4] [(0,true)] (by kernel_rfl) rfl ?_
 refine AJ rfl rfl rfl (AM ?_)
 refine Bb (i:=5) (by kernel_rfl) rfl ?_
 refine Bv 5 (by decide) o0 (xs:=([x1.x]:List Itm)) rfl rfl rfl rfl ⟨(Vb.ofAgg (cs:=[(.int .i64 x1.x.cost),(.int .i64 x1.x.order),(.int .i64 x1.x.id)]) (x:=x1.x) rfl ⟨rfl,r6,r7,r8⟩),trivial⟩ (by decide) (by decide) rfl fun p1 q1 r1 e0 y0=>?_
 have hZ:=e0.lst [] (fun _ h=>h.elim)
 refine BG [(6,[4])] hZ (by kernel_rfl) ?_
 refine Bb (i:=6) (by kernel_rfl) rfl ?_
 obtain ⟨r0,h0,hm⟩:=bs hm
 obtain ⟨h0,z0,a1⟩:=AU h0
 replace d0:=d0.st e0
 refine Bw rfl d0 (y0.rd) rfl rfl (by decide) z0 a1 rfl fun b1 c1 s1 d1 j0 f0=>?_
 rw [← h0] at f0 ⊢
 have hZ:=j0.lst [4] (fun _ h=>by cases h;decide)
 refine BG [] hZ (by kernel_rfl) ?_
 refine AY (fuel:=1) [] [(7,true)] (by kernel_rfl) rfl ?_
 refine Ec rfl rfl rfl (AM ?_)
 refine Bb (i:=8) (by kernel_rfl) rfl ?_
 replace a0:=(a0.st e0).st j0
 refine AR a0 rfl rfl rfl (Ba rfl) (allOne rfl) fun e1 s0 a0=>?_
 replace a0:Lc 2 e1 d1 p0 99 [(.slice b1 r0.length c1)]:=a0
 refine Dm (by kernel_rfl) ?_
 refine Cn (by kernel_rfl) ?_
 replace f0:=f0.st s0
 obtain ⟨t1,f1,g1,h1,i1⟩:=BxR.shut (x:=(⟨r0⟩:BxR 99 97 Itm)) (l0:=2) (l1:=4) (by decide) a0 f0
 obtain rfl:=sm hm
 replace hB:=((((((hB.st m0).st n0).st q0).st e0).st j0).st s0).st f1
 obtain ⟨O',hS',hz,hl⟩:=hE.leave (fun q=>if q=2 then i0 else 0) rfl hB
 exact ret0n rfl  ⟨O',hS',(Ob.leave i1 hz (hl 2 (by decide) (by decide)) b0.2)⟩
noncomputable def Dd (x0:BxR 99 97 Itm):Option ((An 97 Itm)×(BxR 99 97 Itm)) :=
  bnd (chkI ((x0.l.length:Int) - 1)) fun n13=>bnd (atI x0.l n13) fun a16=>bnd (cutI x0.l 0 n13) fun u37=>some ((⟨a16⟩:An 97 Itm),(⟨u37⟩:BxR 99 97 Itm))
theorem Je {w:World} {O:Lab} {p0 i0:Nat} {x0:BxR 99 97 Itm} (c0:Ob i0 w O (.pointer (some ⟨p0,0,none⟩)) x0) {r:(An 97 Itm)×(BxR 99 97 Itm)} (hm:Dd x0=some r) :
    Fn Tryz.prog 143 [(.pointer (some ⟨p0,0,none⟩))] w fun v w'=>∃ O',St (eT i0) w O w' O'∧Ob i0 w' O' (.pointer (some ⟨p0,0,none⟩)) r.2∧Vb w' (Fr 0 w' O') v r.1:=by
 obtain ⟨O0,hE,q0,r0⟩:=ent1 (w:=w) (O:=O) c0.2
 have c0':=Ob.leave c0 q0 r0 (j:=2) (by decide)
 have hB:Bm w O0 w O0:=Bm.refl
 refine AH Tryz.func143 rfl Tryz.ntmps143 rfl ?_
 unfold Dd at hm
 refine Al (Aj (Au rfl rfl (o_z ?_)))
 refine Al (Aj (Ar rfl rfl (CI rfl rfl ?_)))
 obtain ⟨O2,v6,S3,k1,h4,h7⟩:=BxR.opn c0' 2 3 (by decide)
 obtain ⟨A8,c9,rfl⟩:=h7.form
 refine AE (hc:=Blk.cell (i:=0) (h4.1) rfl) rfl rfl ?_
 refine AP rfl rfl ?_
 have s0:x0.l.length≤9223372036854775807:=Nat.le_trans h7.len.2.1 h7.len.2.2
 have m1:inI64 (x0.l.length:Int):=rngNat s0
 obtain ⟨n1,m0,hm⟩:=bs hm
 have o1:=(AW m0)
 refine JZ (he:=m0) rfl rfl rfl ?_
 refine Au rfl rfl (o_z ?_)
 refine Al (Aj (Ar rfl rfl (CI rfl rfl (AE (hc:=Blk.cell (i:=0) (h4.1) rfl) rfl rfl ?_))))
 refine Ar rfl rfl ?_
 obtain ⟨a0,t0,hm⟩:=bs hm
 obtain ⟨u0,v0⟩:=AS t0
 obtain ⟨p1,q1,w0,d0,e0,f0,rfl,y0,z0,a1⟩:=h7.elem v0
 refine Bi (hA:=d0) (hj:=(Int.toNat_of_nonneg u0).symm) (hlt:=e0) rfl rfl rfl ?_
 refine Bk (hl:=rfl) (hc:=f0) rfl rfl ?_
 refine BD 4 O2 rfl fun b1 r1 n0 g0 b0=>?_
 refine AR b0 rfl rfl rfl (Ba rfl) (allOne rfl) fun c1 h0 b0=>?_
 replace b0:Lc 4 c1 n0 b1 97 [(.int .i64 a0.cost),(.int .i64 a0.order),(.int .i64 a0.id)]:=b0
 refine o_z ?_
 refine Al (Aj (Ar rfl rfl (Ar rfl rfl (CI rfl rfl ?_))))
 replace h4:=(h4.st g0).st h0
 refine AE (hc:=Blk.cell (i:=0) (h4.1) rfl) rfl rfl ?_
 refine Ar rfl rfl ?_
 obtain ⟨o0,d1,hm⟩:=bs hm
 replace h7:=(h7.st g0).st h0
 obtain ⟨j0,e1⟩:=cutRw h7 d1
 refine Sh (hc:=e1) rfl rfl rfl ?_
 refine CI rfl rfl (AR h4 rfl rfl rfl (Ba rfl) (allOne rfl) fun f1 k0 h4=>?_)
 replace h4:Lc 2 f1 n0 p0 99 [(.slice A8 o0.length c9)]:=h4
 refine o_z ?_
 refine Al (Aj ?_)
 replace b0:=b0.st k0
 refine Bk (hl:=rfl) (hc:=(b0.1).cellsAt) rfl rfl ?_
 refine Mv rfl rfl ?_
 refine Au rfl rfl (o_z ?_)
 refine AK ?_
 replace j0:=j0.st k0
 obtain ⟨s1,g1,h1,i1,j1⟩:=BxR.shut (x:=(⟨o0⟩:BxR 99 97 Itm)) (l0:=2) (l1:=3) (by decide) h4 j0
 obtain rfl:=sm hm
 replace hB:=((((hB.st S3).st g0).st h0).st k0).st g1
 obtain ⟨O',hS',hz,hl⟩:=hE.leave (fun q=>if q=2 then i0 else 0) rfl hB
 exact ret1v rfl (AB rfl) ⟨O',hS',(Ob.leave j1 hz (hl 2 (by decide) (by decide)) c0.2),(vAny (Vb.ofAgg (cs:=[(.int .i64 a0.cost),(.int .i64 a0.order),(.int .i64 a0.id)]) (x:=a0) rfl ⟨rfl,y0,z0,a1⟩))⟩
noncomputable def CK (x0:BxR 99 97 Itm) (x1:Int):Option (BxR 99 97 Itm) :=
  bnd (lop (ρ:=(BxR 99 97 Itm)) (fun (s5:Int×(BxR 99 97 Itm))=>bnd (chkI (s5.1 - 1)) fun n22=>bnd (quoT n22 2) fun n25=>bnd (if n25=s5.1 then (some true) else (bnd (BJ s5.2.l s5.1 n25) fun q42=>if q42=true then some false else some true):Option Bool) fun y28=>if y28=true then (some (.brk (s5.1,s5.2))) else (bnd (BB s5.2.l n25 s5.1) fun q73=>some (.next (n25,(⟨q73⟩:BxR 99 97 Itm))))) (x1,x0)) fun res3=>fin res3 fun (s90:Int×(BxR 99 97 Itm))=>some s90.2
theorem Jf {w:World} {O:Lab} {p0 i0:Nat} {x0:BxR 99 97 Itm} (h0:Ob i0 w O (.pointer (some ⟨p0,0,none⟩)) x0) {x1:Int} (rx1:inI64 x1) {r:(BxR 99 97 Itm)} (hm:CK x0 x1=some r) :
    Fn Tryz.prog 84 [(.iface 95 (.pointer (some ⟨p0,0,none⟩))),(.int .i64 x1)] w fun v w'=>∃ O',St (eT i0) w O w' O'∧Ob i0 w' O' (.pointer (some ⟨p0,0,none⟩)) r:=by
 obtain ⟨O0,hE,c1,d1⟩:=ent1 (w:=w) (O:=O) h0.2
 have h0':=Ob.leave h0 c1 d1 (j:=2) (by decide)
 have hB:Bm w O0 w O0:=Bm.refl
 refine AH Tryz.func84 rfl Tryz.ntmps84 rfl ?_
 unfold CK at hm
 obtain ⟨m0,e1,hm⟩:=bs hm
 refine AL (aft m0 (fun (s5:Int×(BxR 99 97 Itm)) (x6:Unit)=>[]) (fun s5 x6 w'=>∃ O':Lab,Bm w O0 w' O'∧Ob 2 w' O' (.pointer (some ⟨p0,0,none⟩)) s5.2∧inI64 s5.1)) ?_ ?_
 ·
  refine AN (Gz (σ:=Int×(BxR 99 97 Itm)) (X:=Unit) e1 (fun (s5:Int×(BxR 99 97 Itm)) (x6:Unit)=>[(0,(.iface 95 (.pointer (some ⟨p0,0,none⟩)))),(1,(.int .i64 s5.1))]) _ (fun s5 x6 w'=>∃ O':Lab,Bm w O0 w' O'∧Ob 2 w' O' (.pointer (some ⟨p0,0,none⟩)) s5.2∧inI64 s5.1) _ () ⟨O0,hB,h0',rx1⟩ ⟨rfl,rfl,trivial⟩ ?_)
  rintro s5 x6 w9 f1 ⟨h2,hB,d0,j0⟩ a0 n0 e0
  refine AN (Al (Aj (Ar rfl rfl ?_)))
  obtain ⟨i2,t0,a0⟩:=bs a0
  have u0:=(AW t0)
  refine JZ (he:=t0) rfl rfl rfl ?_
  obtain ⟨g1,v0,a0⟩:=bs a0
  have o0:=Og v0 u0
  refine Tn (he:=v0) (hr:=u0) rfl rfl rfl ?_
  refine Au rfl rfl (o_z ?_)
  refine Al (Al ?_)
  obtain ⟨h1,b0,a0⟩:=bs a0
  refine AL (fun l' w'=>∃ (i1:Unit) (O':Lab),subs l' [(0,(.iface 95 (.pointer (some ⟨p0,0,none⟩)))),(1,(.int .i64 s5.1)),(4,(.int .i64 g1)),(17,(.bool h1))]∧Bm w O0 w' O'∧Ob 2 w' O' (.pointer (some ⟨p0,0,none⟩)) s5.2) ?_ ?_
  ·
   refine Aj (Ar rfl rfl (Ar rfl rfl (Ex rfl rfl rfl (fun q0=>?_) fun q0=>?_)))
   ·
    replace b0:=ip b0 q0
    refine Ar rfl rfl (At rfl rfl rfl rfl (At rfl rfl rfl rfl (At rfl rfl rfl rfl (At rfl rfl rfl rfl (At rfl rfl rfl rfl (AX rfl rfl rfl (o_z ?_)))))))
    obtain rfl:=sm b0
    exact ⟨(),_,⟨rfl,rfl,rfl,rfl,trivial⟩,hB,d0⟩
   replace b0:=im b0 q0
   refine Ar rfl rfl (Ay rfl rfl (Ar rfl rfl (Ay rfl rfl (Ar rfl rfl (Ay rfl rfl (Ar rfl rfl (Ay rfl rfl ?_)))))))
   obtain ⟨j1,j2,w0,k1,f0,c0⟩:=BxR.opn d0 2 3 (by decide)
   obtain ⟨k2,l2,rfl⟩:=c0.form
   obtain ⟨y0,m1,b0⟩:=bs b0
   refine Jx (O:=j1) (A:=All w9) (R:=fun w' F v=>Vb w' F v y0) (EU (fun _ h=>h) (c0).all j0 o0 m1) (Gb (Blk.cell (i:=0) f0.1 rfl)) rfl rfl rfl fun m2 n2 o2 g0 n1=>?_
   obtain rfl:=n1.bool
   cases y0
   case false =>
    replace b0:=iF b0
    refine Ay rfl rfl (CC rfl rfl (AT rfl rfl rfl (o_z ?_)))
    replace f0:=f0.st g0
    replace c0:=c0.st g0
    obtain ⟨p2,o1,p1,q1,r1⟩:=BxR.shut (x:=s5.2) (l0:=2) (l1:=3) (by decide) f0 c0
    obtain rfl:=sm b0
    exact ⟨(),_,⟨rfl,rfl,rfl,rfl,trivial⟩,((hB.st w0).st g0).st o1,r1⟩
   replace b0:=iT b0
   refine Ay rfl rfl (CB rfl rfl (AT rfl rfl rfl (o_z ?_)))
   replace f0:=f0.st g0
   replace c0:=c0.st g0
   obtain ⟨q2,s1,t1,u1,v1⟩:=BxR.shut (x:=s5.2) (l0:=2) (l1:=3) (by decide) f0 c0
   obtain rfl:=sm b0
   exact ⟨(),_,⟨rfl,rfl,rfl,rfl,trivial⟩,((hB.st w0).st g0).st s1,v1⟩
  rintro r2 s2 ⟨i1,t2,r0,hB,d0⟩
  refine AQ _ r0 ?_
  refine CN rfl (fun s0=>?_) (fun s0=>?_)
  ·
   replace a0:=ip a0 s0
   refine DN ?_
   obtain rfl:=sm a0
   exact show Exists _ from ⟨_,(),e0 _ rfl,trivial,_,hB,d0,j0⟩
  replace a0:=im' a0 s0
  refine AO (Al (Aj (Ar rfl rfl (Ar rfl rfl (Ar rfl rfl ?_)))))
  obtain ⟨w1,u2,y1,z1,k0,z0⟩:=BxR.opn d0 2 3 (by decide)
  obtain ⟨v2,w2,rfl⟩:=z0.form
  obtain ⟨a2,b2,a0⟩:=bs a0
  refine Jw (O:=w1) (EV z0 o0 j0 b2) (Gb (Blk.cell (i:=0) k0.1 rfl)) rfl rfl rfl fun x2 y2 z2 a1 b1=>?_
  refine o_z ?_
  refine Aj (Ar rfl rfl (Au rfl rfl (o_z ?_)))
  replace k0:=k0.st a1
  obtain ⟨a3,c2,d2,e2,f2⟩:=BxR.shut (x:=(⟨a2⟩:BxR 99 97 Itm)) (l0:=2) (l1:=3) (by decide) (by have q:=k0;rw [← b1.len.1.symm] at q;exact q) b1.relen
  obtain rfl:=sm a0
  exact show Exists _ from ⟨_,(),rfl,⟨rfl,rfl,trivial⟩,_,((hB.st y1).st a1).st c2,f2,o0⟩
 rintro b3 c3 ⟨d3,e3,rfl,g2,f3,hB,d0,j0⟩
 replace hm:=AV hm
 obtain rfl:=sm hm
 obtain ⟨O',hS',hz,hl⟩:=hE.leave (fun q=>if q=2 then i0 else 0) rfl hB
 exact ret0n rfl  ⟨O',hS',(Ob.leave d0 hz (hl 2 (by decide) (by decide)) h0.2)⟩
noncomputable def Cy (x0:BxR 99 97 Itm) (x1:Int) (x2:Int):Option (Bool×(BxR 99 97 Itm)) :=
  bnd (lop (ρ:=Bool×(BxR 99 97 Itm)) (fun (s6:Int×(BxR 99 97 Itm))=>bnd (chkI (2 * s6.1)) fun n23=>bnd (chkI (n23 + 1)) fun n26=>bnd (if x2≤n26 then (some true) else (if n26 < 0 then (some true) else (some false)):Option Bool) fun y29=>if y29=true then (some (.brk (s6.1,s6.2))) else (bnd (bnd (chkI (n26 + 1)) fun n45=>bnd (if n45 < x2 then (bnd (BJ s6.2.l n45 n26) fun q62=>if q62=true then some true else some false) else (some false):Option Bool) fun y48=>if y48=true then (some n45) else (some n26):Option Int) fun y40=>bnd (BJ s6.2.l y40 s6.1) fun q97=>if q97=true then bnd (BB s6.2.l s6.1 y40) fun q109=>some (.next (y40,(⟨q109⟩:BxR 99 97 Itm))) else some (.brk (s6.1,s6.2)))) (x1,x0)) fun res4=>fin res4 fun (s126:Int×(BxR 99 97 Itm))=>bnd (if x1 < s126.1 then (some true) else (some false):Option Bool) fun y128=>some (y128,s126.2)
theorem Ih {w:World} {O:Lab} {p0 i0:Nat} {x0:BxR 99 97 Itm} (r0:Ob i0 w O (.pointer (some ⟨p0,0,none⟩)) x0) {x1:Int} (rx1:inI64 x1) {x2:Int} (rx2:inI64 x2) {r:Bool×(BxR 99 97 Itm)} (hm:Cy x0 x1 x2=some r) :
    Fn Tryz.prog 78 [(.iface 95 (.pointer (some ⟨p0,0,none⟩))),(.int .i64 x1),(.int .i64 x2)] w fun v w'=>∃ O',St (eT i0) w O w' O'∧Ob i0 w' O' (.pointer (some ⟨p0,0,none⟩)) r.2∧Vb w' (Fr 0 w' O') v r.1:=by
 obtain ⟨O0,hE,m2,n2⟩:=ent1 (w:=w) (O:=O) r0.2
 have r0':=Ob.leave r0 m2 n2 (j:=2) (by decide)
 have hB:Bm w O0 w O0:=Bm.refl
 refine AH Tryz.func78 rfl Tryz.ntmps78 rfl ?_
 unfold Cy at hm
 refine Al (Aj (Au rfl rfl (o_z ?_)))
 refine Al (Aj (Ar rfl rfl (Au rfl rfl (o_z ?_))))
 refine Al ?_
 obtain ⟨z0,o2,hm⟩:=bs hm
 refine AL (aft z0 (fun (s6:Int×(BxR 99 97 Itm)) (x7:Unit)=>[(1,(.int .i64 x1)),(7,(.int .i64 s6.1))]) (fun s6 x7 w'=>∃ O':Lab,Bm w O0 w' O'∧Ob 2 w' O' (.pointer (some ⟨p0,0,none⟩)) s6.2∧inI64 s6.1)) ?_ ?_
 ·
  refine AN (Gz (σ:=Int×(BxR 99 97 Itm)) (X:=Unit) o2 (fun (s6:Int×(BxR 99 97 Itm)) (x7:Unit)=>[(0,(.iface 95 (.pointer (some ⟨p0,0,none⟩)))),(1,(.int .i64 x1)),(2,(.int .i64 x2)),(7,(.int .i64 s6.1))]) _ (fun s6 x7 w'=>∃ O':Lab,Bm w O0 w' O'∧Ob 2 w' O' (.pointer (some ⟨p0,0,none⟩)) s6.2∧inI64 s6.1) _ () ⟨O0,hB,r0',rx1⟩ ⟨rfl,rfl,rfl,rfl,trivial⟩ ?_)
  rintro s6 x7 b4 p2 ⟨c4,hB,g0,s0⟩ a0 a1 h0
  refine AN (Al (Aj (Ar rfl rfl ?_)))
  obtain ⟨d4,w1,a0⟩:=bs a0
  have e4:=(AW w1)
  refine OJ (he:=w1) rfl rfl rfl ?_
  obtain ⟨y1,z1,a0⟩:=bs a0
  have a2:=(AW z1)
  refine Dv (he:=z1) rfl rfl rfl ?_
  refine Au rfl rfl (o_z ?_)
  refine Al (Al ?_)
  obtain ⟨q2,c0,a0⟩:=bs a0
  refine AL (fun l' w'=>∃ (r2:Unit) (O':Lab),subs l' [(0,(.iface 95 (.pointer (some ⟨p0,0,none⟩)))),(1,(.int .i64 x1)),(2,(.int .i64 x2)),(7,(.int .i64 s6.1)),(8,(.int .i64 y1)),(21,(.bool q2))]∧Bm w O0 w' O'∧Ob 2 w' O' (.pointer (some ⟨p0,0,none⟩)) s6.2) ?_ ?_
  ·
   refine Aj (Ar rfl rfl (Ar rfl rfl (Ha rfl rfl rfl (fun b1=>?_) fun b1=>?_)))
   ·
    replace c0:=ip c0 b1
    refine Ar rfl rfl (At rfl rfl rfl rfl (At rfl rfl rfl rfl (AX rfl rfl rfl (o_z ?_))))
    obtain rfl:=sm c0
    exact ⟨(),_,⟨rfl,rfl,rfl,rfl,rfl,rfl,trivial⟩,hB,g0⟩
   replace c0:=im c0 b1
   refine Ar rfl rfl (Ay rfl rfl (Ar rfl rfl (Ay rfl rfl (DM rfl rfl rfl (fun c1=>?_) fun c1=>?_))))
   ·
    replace c0:=ip c0 c1
    refine AT rfl rfl rfl (o_z ?_)
    obtain rfl:=sm c0
    exact ⟨(),_,⟨rfl,rfl,rfl,rfl,rfl,rfl,trivial⟩,hB,g0⟩
   replace c0:=im c0 c1
   refine AT rfl rfl rfl (o_z ?_)
   obtain rfl:=sm c0
   exact ⟨(),_,⟨rfl,rfl,rfl,rfl,rfl,rfl,trivial⟩,hB,g0⟩
  rintro f4 s2 ⟨r2,g4,d1,hB,g0⟩
  refine AQ _ d1 ?_
  refine CN rfl (fun e1=>?_) (fun e1=>?_)
  ·
   replace a0:=ip a0 e1
   refine DN ?_
   obtain rfl:=sm a0
   exact show Exists _ from ⟨_,(),h0 _ rfl,⟨rfl,rfl,trivial⟩,_,hB,g0,s0⟩
  replace a0:=im' a0 e1
  refine AO (Al (Aj (Ar rfl rfl (Au rfl rfl (o_z ?_)))))
  refine Al ?_
  obtain ⟨b2,d0,a0⟩:=bs a0
  refine AL (fun l' w'=>∃ (t2:Unit) (O':Lab),subs l' [(0,(.iface 95 (.pointer (some ⟨p0,0,none⟩)))),(1,(.int .i64 x1)),(2,(.int .i64 x2)),(7,(.int .i64 s6.1)),(9,(.int .i64 b2))]∧Bm w O0 w' O'∧Ob 2 w' O' (.pointer (some ⟨p0,0,none⟩)) s6.2∧inI64 b2) ?_ ?_
  ·
   refine Al (Aj (Ar rfl rfl ?_))
   obtain ⟨u2,c2,d0⟩:=bs d0
   have d2:=(AW c2)
   refine Dv (he:=c2) rfl rfl rfl ?_
   refine Au rfl rfl (o_z ?_)
   refine Al ?_
   obtain ⟨v2,b0,d0⟩:=bs d0
   refine AL (fun l' w'=>∃ (w2:Unit) (O':Lab),subs l' [(0,(.iface 95 (.pointer (some ⟨p0,0,none⟩)))),(1,(.int .i64 x1)),(2,(.int .i64 x2)),(7,(.int .i64 s6.1)),(9,(.int .i64 y1)),(10,(.int .i64 u2)),(33,(.bool v2))]∧Bm w O0 w' O'∧Ob 2 w' O' (.pointer (some ⟨p0,0,none⟩)) s6.2) ?_ ?_
   ·
    refine Aj (Ar rfl rfl (Ar rfl rfl (DM rfl rfl rfl (fun f1=>?_) fun f1=>?_)))
    ·
     replace b0:=ip b0 f1
     refine Ar rfl rfl (Ay rfl rfl (Ar rfl rfl (Ay rfl rfl (Ar rfl rfl (Ay rfl rfl (Ar rfl rfl (Ay rfl rfl ?_)))))))
     obtain ⟨y2,h4,e2,z2,n0,k0⟩:=BxR.opn g0 2 3 (by decide)
     obtain ⟨i4,j4,rfl⟩:=k0.form
     obtain ⟨f2,a3,b0⟩:=bs b0
     refine Jx (O:=y2) (A:=All s2) (R:=fun w' F v=>Vb w' F v f2) (EU (fun _ h=>h) (k0).all d2 a2 a3) (Gb (Blk.cell (i:=0) n0.1 rfl)) rfl rfl rfl fun k4 l4 m4 q0 y0=>?_
     obtain rfl:=y0.bool
     cases f2
     case false =>
      replace b0:=iF b0
      refine AX rfl rfl rfl (o_z ?_)
      replace n0:=n0.st q0
      replace k0:=k0.st q0
      obtain ⟨n4,b3,c3,d3,e3⟩:=BxR.shut (x:=s6.2) (l0:=2) (l1:=3) (by decide) n0 k0
      obtain rfl:=sm b0
      exact ⟨(),_,⟨rfl,rfl,rfl,rfl,rfl,rfl,rfl,trivial⟩,((hB.st e2).st q0).st b3,e3⟩
     replace b0:=iT b0
     refine AX rfl rfl rfl (o_z ?_)
     replace n0:=n0.st q0
     replace k0:=k0.st q0
     obtain ⟨o4,f3,g3,h3,i3⟩:=BxR.shut (x:=s6.2) (l0:=2) (l1:=3) (by decide) n0 k0
     obtain rfl:=sm b0
     exact ⟨(),_,⟨rfl,rfl,rfl,rfl,rfl,rfl,rfl,trivial⟩,((hB.st e2).st q0).st f3,i3⟩
    replace b0:=im b0 f1
    refine Ar rfl rfl (At rfl rfl rfl rfl (At rfl rfl rfl rfl (At rfl rfl rfl rfl (At rfl rfl rfl rfl (AT rfl rfl rfl (o_z ?_))))))
    obtain rfl:=sm b0
    exact ⟨(),_,⟨rfl,rfl,rfl,rfl,rfl,rfl,rfl,trivial⟩,hB,g0⟩
   rintro p4 q4 ⟨w2,r4,g1,hB,y0⟩
   refine AQ _ g1 ?_
   refine CN rfl (fun h1=>?_) (fun h1=>?_)
   ·
    replace d0:=ip d0 h1
    refine Aj (Ar rfl rfl (Au rfl rfl (o_z ?_)))
    obtain rfl:=sm d0
    exact ⟨(),_,⟨rfl,rfl,rfl,rfl,rfl,trivial⟩,hB,y0,d2⟩
   replace d0:=im' d0 h1
   refine AO ?_
   obtain rfl:=sm d0
   exact ⟨(),_,⟨rfl,rfl,rfl,rfl,rfl,trivial⟩,hB,y0,a2⟩
  rintro s4 j3 ⟨t2,t4,i1,hB,k3,j1⟩
  refine AQ _ i1 ?_
  refine Al (Al (Aj (Ar rfl rfl (Ar rfl rfl (Ar rfl rfl ?_)))))
  obtain ⟨l3,u4,g2,m3,j0,m0⟩:=BxR.opn k3 2 3 (by decide)
  obtain ⟨v4,w4,rfl⟩:=m0.form
  obtain ⟨h2,n3,a0⟩:=bs a0
  refine Jx (O:=l3) (A:=All j3) (R:=fun w' F v=>Vb w' F v h2) (EU (fun _ h=>h) (m0).all j1 s0 n3) (Gb (Blk.cell (i:=0) j0.1 rfl)) rfl rfl rfl fun o3 x4 k1 f0 m1=>?_
  obtain rfl:=m1.bool
  cases h2
  case false =>
   replace a0:=iF a0
   refine CC rfl rfl (o_z ?_)
   refine Ah rfl (DN ?_)
   replace j0:=j0.st f0
   replace m0:=m0.st f0
   obtain ⟨p3,n1,i2,j2,o1⟩:=BxR.shut (x:=s6.2) (l0:=2) (l1:=3) (by decide) j0 m0
   obtain rfl:=sm a0
   exact show Exists _ from ⟨_,(),h0 _ rfl,⟨rfl,rfl,trivial⟩,_,((hB.st g2).st f0).st n1,o1,s0⟩
  replace a0:=iT a0
  refine CB rfl rfl (o_z ?_)
  refine Ae rfl (AO (Al (Aj (Ar rfl rfl (Ar rfl rfl (Ar rfl rfl ?_))))))
  obtain ⟨p1,q1,a0⟩:=bs a0
  replace j0:=j0.st f0
  replace m0:=m0.st f0
  refine Jw (O:=k1) (EV m0 s0 j1 q1) (Gb (Blk.cell (i:=0) j0.1 rfl)) rfl rfl rfl fun q3 r3 s3 t0 u0=>?_
  refine o_z ?_
  refine Aj (Ar rfl rfl (Au rfl rfl (o_z ?_)))
  replace j0:=j0.st t0
  obtain ⟨t3,r1,k2,l2,s1⟩:=BxR.shut (x:=(⟨p1⟩:BxR 99 97 Itm)) (l0:=2) (l1:=3) (by decide) (by have q:=j0;rw [← u0.len.1.symm] at q;exact q) u0.relen
  obtain rfl:=sm a0
  exact show Exists _ from ⟨_,(),rfl,⟨rfl,rfl,rfl,rfl,trivial⟩,_,(((hB.st g2).st f0).st t0).st r1,s1,j1⟩
 rintro u3 v3 ⟨t1,w3,rfl,v0,x3,hB,g0,s0⟩
 replace hm:=AV hm
 refine AQ _ v0 ?_
 refine Al ?_
 obtain ⟨u1,e0,hm⟩:=bs hm
 refine AL (fun l' w'=>∃ (v1:Unit) (O':Lab),subs l' [(6,(.bool u1))]∧Bm w O0 w' O'∧Ob 2 w' O' (.pointer (some ⟨p0,0,none⟩)) t1.2) ?_ ?_
 ·
  refine Aj (Ar rfl rfl (Ar rfl rfl (Ce rfl rfl rfl (fun o0=>?_) fun o0=>?_)))
  ·
   replace e0:=ip e0 o0
   refine Au rfl rfl (o_z ?_)
   obtain rfl:=sm e0
   exact ⟨(),_,⟨rfl,trivial⟩,hB,g0⟩
  replace e0:=im e0 o0
  refine Au rfl rfl (o_z ?_)
  obtain rfl:=sm e0
  exact ⟨(),_,⟨rfl,trivial⟩,hB,g0⟩
 rintro y3 z3 ⟨v1,a4,w0,hB,g0⟩
 refine AQ _ w0 ?_
 refine AK ?_
 obtain rfl:=sm hm
 obtain ⟨O',hS',hz,hl⟩:=hE.leave (fun q=>if q=2 then i0 else 0) rfl hB
 exact ret1v rfl (AB rfl) ⟨O',hS',(Ob.leave g0 hz (hl 2 (by decide) (by decide)) r0.2),vBool⟩
noncomputable def Cq (x0:BxR 99 97 Itm) (x1:An 97 Itm):Option (BxR 99 97 Itm) :=
  bnd (CV x0 (⟨x1.x⟩:An 97 Itm)) fun q9=>bnd (BF q9.l) fun q26=>bnd (chkI (q26 - 1)) fun n34=>bnd (CK q9 n34) fun q42=>some q42
theorem Ii {w:World} {O:Lab} {p0 i0:Nat} {x0:BxR 99 97 Itm} (a0:Ob i0 w O (.pointer (some ⟨p0,0,none⟩)) x0) {vx1:Value} {x1:An 97 Itm} (d0:Vb w (Fr 0 w O) vx1 x1) {r:(BxR 99 97 Itm)} (hm:Cq x0 x1=some r) :
    Fn Tryz.prog 64 [(.iface 95 (.pointer (some ⟨p0,0,none⟩))),vx1] w fun v w'=>∃ O',St (eT i0) w O w' O'∧Ob i0 w' O' (.pointer (some ⟨p0,0,none⟩)) r:=by
 obtain ⟨O0,hE,f0,h0⟩:=ent1 (w:=w) (O:=O) a0.2
 have a0':=Ob.leave a0 f0 h0 (j:=2) (by decide)
 have hB:Bm w O0 w O0:=Bm.refl
 replace d0:=d0.mono f0
 obtain ⟨v3,rfl,h4⟩:=d0.any
 obtain ⟨f1,rfl,rfl,r6,r7,r8⟩:=h4
 refine AH Tryz.func64 rfl Tryz.ntmps64 rfl ?_
 unfold Cq at hm
 refine Al (Aj (Ar rfl rfl (Ar rfl rfl ?_)))
 obtain ⟨q9,j0,hm⟩:=bs hm
 refine Jw (O:=O0) (IC a0' (vAny (Vb.ofAgg (cs:=[(.int .i64 x1.x.cost),(.int .i64 x1.x.order),(.int .i64 x1.x.id)]) (x:=x1.x) rfl ⟨rfl,r6,r7,r8⟩)) j0) Oe rfl rfl rfl fun g1 k0 h1 m0 n0=>?_
 refine o_z ?_
 refine Aj (Ar rfl rfl (Ar rfl rfl ?_))
 obtain ⟨o0,i1,q0,r0,c0,b0⟩:=BxR.opn n0 2 3 (by decide)
 obtain ⟨j1,k1,rfl⟩:=b0.form
 obtain ⟨s0,t0,hm⟩:=bs hm
 refine Jx (O:=o0) (A:=All k0) (R:=fun w' F v=>Vb w' F v s0) (Fk (fun _ h=>h) (b0).all t0) (Gb (Blk.cell (i:=0) c0.1 rfl)) rfl rfl rfl fun m1 n1 o1 e0 u0=>?_
 obtain ⟨rfl,p1⟩:=u0.int
 obtain ⟨q1,g0,hm⟩:=bs hm
 have v0:=(AW g0)
 refine JZ (he:=g0) rfl rfl rfl ?_
 replace c0:=c0.st e0
 replace b0:=b0.st e0
 obtain ⟨w0,y0,z0,a1,b1⟩:=BxR.shut (x:=q9) (l0:=2) (l1:=3) (by decide) c0 b0
 obtain ⟨r1,c1,hm⟩:=bs hm
 refine Cx (O:=w0) (Jf b1 v0 c1) rfl rfl fun s1 t1 u1 d1 e1=>?_
 refine o_z ?_
 obtain rfl:=sm hm
 replace hB:=((((hB.st m0).st q0).st e0).st y0).st d1
 obtain ⟨O',hS',hz,hl⟩:=hE.leave (fun q=>if q=2 then i0 else 0) rfl hB
 exact ret0n rfl  ⟨O',hS',(Ob.leave e1 hz (hl 2 (by decide) (by decide)) a0.2)⟩
noncomputable def Ct (x0:BxR 99 97 Itm):Option ((An 97 Itm)×(BxR 99 97 Itm)) :=
  bnd (BF x0.l) fun q11=>bnd (chkI (q11 - 1)) fun n19=>bnd (BB x0.l 0 n19) fun q22=>bnd (Cy (⟨q22⟩:BxR 99 97 Itm) 0 n19) fun q35=>bnd (Dd q35.2) fun q44=>some ((⟨q44.1.x⟩:An 97 Itm),q44.2)
theorem ID {w:World} {O:Lab} {p0 i0:Nat} {x0:BxR 99 97 Itm} (a0:Ob i0 w O (.pointer (some ⟨p0,0,none⟩)) x0) {r:(An 97 Itm)×(BxR 99 97 Itm)} (hm:Ct x0=some r) :
    Fn Tryz.prog 57 [(.iface 95 (.pointer (some ⟨p0,0,none⟩)))] w fun v w'=>∃ O',St (eT i0) w O w' O'∧Ob i0 w' O' (.pointer (some ⟨p0,0,none⟩)) r.2∧Vb w' (Fr 0 w' O') v r.1:=by
 obtain ⟨O0,hE,h0,j0⟩:=ent1 (w:=w) (O:=O) a0.2
 have a0':=Ob.leave a0 h0 j0 (j:=2) (by decide)
 have hB:Bm w O0 w O0:=Bm.refl
 refine AH Tryz.func57 rfl Tryz.ntmps57 rfl ?_
 unfold Ct at hm
 refine Al (Aj (Au rfl rfl (o_z ?_)))
 refine Al (Aj (Ar rfl rfl ?_))
 obtain ⟨O2,v6,S3,p1,h4,h7⟩:=BxR.opn a0' 2 3 (by decide)
 obtain ⟨A8,c9,rfl⟩:=h7.form
 obtain ⟨k0,m0,hm⟩:=bs hm
 refine Jx (O:=O2) (A:=All w) (R:=fun w' F v=>Vb w' F v k0) (Fk (fun _ h=>h) (h7).all m0) (Gb (Blk.cell (i:=0) h4.1 rfl)) rfl rfl rfl fun q1 r1 n0 c0 o0=>?_
 obtain ⟨rfl,s1⟩:=o0.int
 obtain ⟨t1,d0,hm⟩:=bs hm
 have e0:=(AW d0)
 refine JZ (he:=d0) rfl rfl rfl ?_
 refine Au rfl rfl (o_z ?_)
 refine Al (Aj (Ar rfl rfl (Ar rfl rfl ?_)))
 obtain ⟨q0,r0,hm⟩:=bs hm
 replace h4:=h4.st c0
 replace h7:=h7.st c0
 refine Jw (O:=n0) (EV h7 (show inI64 (0) from by decide) e0 r0) (Gb (Blk.cell (i:=0) h4.1 rfl)) rfl rfl rfl fun u1 v1 w1 f0 g0=>?_
 refine o_z ?_
 refine Al (Aj (Ar rfl rfl (Ar rfl rfl ?_)))
 replace h4:=h4.st f0
 obtain ⟨s0,t0,u0,v0,w0⟩:=BxR.shut (x:=(⟨q0⟩:BxR 99 97 Itm)) (l0:=2) (l1:=3) (by decide) (by have q:=h4;rw [← g0.len.1.symm] at q;exact q) g0.relen
 obtain ⟨x1,y0,hm⟩:=bs hm
 refine Cx (O:=s0) (Ih w0 (show inI64 (0) from by decide) e0 y0) rfl rfl fun y1 z1 z0 a1 b1=>?_
 obtain ⟨c1,d1⟩:=b1
 obtain rfl:=d1.bool
 refine o_z ?_
 refine Al (Aj (Ar rfl rfl ?_))
 obtain ⟨b0,e1,hm⟩:=bs hm
 refine Jw (O:=z0) (Je c1 e1) Oe rfl rfl rfl fun a2 b2 c2 f1 g1=>?_
 obtain ⟨h1,i1⟩:=g1
 obtain ⟨d2,rfl,j1⟩:=i1.any
 obtain ⟨k1,rfl,rfl,m1,n1,o1⟩:=j1
 refine Au rfl rfl (o_z ?_)
 refine AK ?_
 obtain rfl:=sm hm
 replace hB:=(((((hB.st S3).st c0).st f0).st t0).st a1).st f1
 obtain ⟨O',hS',hz,hl⟩:=hE.leave (fun q=>if q=2 then i0 else 0) rfl hB
 exact ret1v rfl (AB rfl) ⟨O',hS',(Ob.leave h1 hz (hl 2 (by decide) (by decide)) a0.2),(vAny (Vb.ofAgg (cs:=[(.int .i64 b0.1.x.cost),(.int .i64 b0.1.x.order),(.int .i64 b0.1.x.id)]) (x:=b0.1.x) rfl ⟨rfl,m1,n1,o1⟩))⟩
end
section
open Go Go.RowKit
def effsOn (s:List Int):List Eff→List Int→List Int
  | [],out=>out
  | e :: r,out=>effsOn s r (if holdsB e.cond s=true then out.set e.var.toNat e.val else out)
theorem GU (s:List Int):∀ (a b:List Eff) (out:List Int),effsOn s (a ++ b) out=effsOn s b (effsOn s a out)
  | [],_,_=>rfl
  | e :: a,b,out=>by simp [effsOn,GU s a b]
theorem FQ (s:List Int):∀ (a:List Eff) (out:List Int),(effsOn s a out).length=out.length
  | [],_=>rfl
  | e :: a,out=>by
    rw [effsOn,FQ s a]
    split<;>simp
theorem ND (s:List Int) {l:List Eff} {k:Nat} {e:Eff} (h:l[k]?=some e) (out:List Int):effsOn s (l.take (k + 1)) out=if holdsB e.cond s=true then (effsOn s (l.take k) out).set e.var.toNat e.val else effsOn s (l.take k) out:=by
  rw [List.take_add_one,h,GU];rfl
def EffsIn (s:List Int) (l:List Eff):Prop:=∀ (i:Nat) e,l[i]?=some e→0≤e.var∧e.var < s.length
def succ (o:Opr) (s:List Int):List Int:=effsOn s o.effs s
end
section
open Go Go.RowKit
attribute [local irreducible] ewp owp hwp hwq hws Ev Evg Fn retPost loud loudS Res1
theorem cloneInts {w:World} {sv:Value} {xs:List Int} (hs:V w sv xs) (hl:xs.length * 8≤140737488355328) :
    Fn Tryz.prog 50 [sv] w fun v w'=>Own w' w.heap.size (All w) 3 v xs∧Ext w w':=by
  obtain ⟨A,c,rfl⟩:=hs.form
  refine AH Tryz.func50 rfl Tryz.ntmps50 rfl ?_
  cases A with
  | none =>
    have hx:xs=[]:=by
      cases xs with
      | nil=>rfl
      | cons x xs=>obtain ⟨_,_,_,h,_⟩:=hs.elem (k:=0) (x:=x) rfl;cases h
    subst hx
    ((repeat (first|refine Aw ?_|refine Ah rfl ?_|refine Ae rfl ?_))<;>(refine Au rfl rfl ?_<;>(refine o_z ?_))<;>(repeat (first|refine Aw ?_|refine Ah rfl ?_|refine Ae rfl ?_))<;>(refine Ar rfl rfl ?_<;>refine GS rfl rfl ?_<;>(refine o_z ?_))<;>(repeat (first|refine Aw ?_|refine Ah rfl ?_|refine Ae rfl ?_))<;>(refine Au rfl rfl ?_<;>(refine o_z ?_))<;>(repeat (first|refine Aw ?_|refine Ah rfl ?_|refine Ae rfl ?_)))
    exact ret1 rfl rfl ⟨Own.nil _ _ _ _,Below.refl _ _⟩
  | some ad =>
    ((repeat (first|refine Aw ?_|refine Ah rfl ?_|refine Ae rfl ?_))<;>(refine Au rfl rfl ?_<;>(refine o_z ?_))<;>(repeat (first|refine Aw ?_|refine Ah rfl ?_|refine Ae rfl ?_))<;>(refine Ar rfl rfl ?_<;>refine GS rfl rfl ?_<;>(refine o_z ?_))<;>(repeat (first|refine Aw ?_|refine Ah rfl ?_|refine Ae rfl ?_)))
    refine DX rfl rfl rfl (by simp) (by decide) rfl fun w1 hN=>?_
    have hE:=hN.ext
    have hown:Own w1 w.heap.size (All w) 3 (.slice (some ⟨w.heap.size,0,none⟩) 0 0) ([]:List Int):=Own.made hN rfl rfl (Nat.lt_irrefl _) (by decide)
    (refine Ar rfl rfl ?_)
    refine HT rfl rfl rfl hown (fun k hk=>Nat.lt_of_lt_of_le hk hE.size) hE.size (Vb.agree hs (hE.agree fun _ h=>h)) (by decide) (by simpa using hl) (by simp;omega) rfl fun v' w2 ho hK=>?_
    (refine Au rfl rfl ?_<;>(refine o_z ?_))
    repeat (first|refine Aw ?_|refine Ah rfl ?_|refine Ae rfl ?_)
    refine ret1 rfl rfl ⟨by simpa using ho,hE.trans (hown.fits (Nat.le_refl _) hE.size hK)⟩
theorem cloneFacts {w:World} {sv:Value} {xs:List Fct} (hs:V w sv xs) (hl:xs.length * 16≤140737488355328) :
    Fn Tryz.prog 51 [sv] w fun v w'=>Own w' w.heap.size (All w) 62 v xs∧Ext w w':=by
  obtain ⟨A,c,rfl⟩:=hs.form
  refine AH Tryz.func51 rfl Tryz.ntmps51 rfl ?_
  cases A with
  | none =>
    have hx:xs=[]:=by
      cases xs with
      | nil=>rfl
      | cons x xs=>obtain ⟨_,_,_,h,_⟩:=hs.elem (k:=0) (x:=x) rfl;cases h
    subst hx
    ((repeat (first|refine Aw ?_|refine Ah rfl ?_|refine Ae rfl ?_))<;>(refine Au rfl rfl ?_<;>(refine o_z ?_))<;>(repeat (first|refine Aw ?_|refine Ah rfl ?_|refine Ae rfl ?_))<;>(refine Ar rfl rfl ?_<;>refine GS rfl rfl ?_<;>(refine o_z ?_))<;>(repeat (first|refine Aw ?_|refine Ah rfl ?_|refine Ae rfl ?_))<;>(refine Au rfl rfl ?_<;>(refine o_z ?_))<;>(repeat (first|refine Aw ?_|refine Ah rfl ?_|refine Ae rfl ?_)))
    exact ret1 rfl rfl ⟨Own.nil _ _ _ _,Below.refl _ _⟩
  | some ad =>
    ((repeat (first|refine Aw ?_|refine Ah rfl ?_|refine Ae rfl ?_))<;>(refine Au rfl rfl ?_<;>(refine o_z ?_))<;>(repeat (first|refine Aw ?_|refine Ah rfl ?_|refine Ae rfl ?_))<;>(refine Ar rfl rfl ?_<;>refine GS rfl rfl ?_<;>(refine o_z ?_))<;>(repeat (first|refine Aw ?_|refine Ah rfl ?_|refine Ae rfl ?_)))
    refine DX rfl rfl rfl (by simp) (by decide) rfl fun w1 hN=>?_
    have hE:=hN.ext
    have hown:Own w1 w.heap.size (All w) 62 (.slice (some ⟨w.heap.size,0,none⟩) 0 0) ([]:List Fct):=Own.made hN rfl rfl (Nat.lt_irrefl _) (by decide)
    (refine Ar rfl rfl ?_)
    refine HT rfl rfl rfl hown (fun k hk=>Nat.lt_of_lt_of_le hk hE.size) hE.size (Vb.agree hs (hE.agree fun _ h=>h)) (by decide) (by simpa using hl) (by simp;omega) rfl fun v' w2 ho hK=>?_
    (refine Au rfl rfl ?_<;>(refine o_z ?_))
    repeat (first|refine Aw ?_|refine Ah rfl ?_|refine Ae rfl ?_)
    refine ret1 rfl rfl ⟨by simpa using ho,hE.trans (hown.fits (Nat.le_refl _) hE.size hK)⟩
def applK (t:Tsk) (s:List Int) (k:Nat):List Int:=((List.range k).filter fun i=>match t.ops[i]? with|some o=>holdsB o.pre s|none=>false).map fun i:Nat=>(i:Int)
def appl (t:Tsk) (s:List Int):List Int:=applK t s t.ops.length
theorem PA (t:Tsk) (s:List Int) (k:Nat):(applK t s k).length≤k:=by
  unfold applK
  rw [List.length_map]
  exact Nat.le_trans (List.length_filter_le _ _) (by simp)
end
section
open Go Go.RowKit
attribute [local irreducible] ewp owp hwp hwq hws Ev Evg Fn retPost loud loudS Res1
inductive Tr where
  | nil
  | leaf (ops:List Int)
  | node (nx many:Nat) (vals:Nat→Tr) (rest:Tr)
def TrR (w:World) (F:Nat→Prop):Tr→Value→Prop
  | .nil,p=>p=.pointer none
  | .leaf ops,p=>∃ g ov,p=.pointer (some ⟨g,0,none⟩)∧F g∧Blk w g 184 [ov,.bool true,.int .i64 0,.slice none 0 0,.pointer none]∧Vb w F ov ops
  | .node nx k vals rest,p=>∃ g A c rp,p=.pointer (some ⟨g,0,none⟩)∧F g∧Blk w g 184 [.slice none 0 0,.bool false,.int .i64 (nx:Int),.slice A k c,.pointer rp]∧TrR w F rest (.pointer rp) ∧
      ∀ i,i < k→∃ b o q,A=some ⟨b,o,none⟩∧F b∧w.cell? ⟨b,o + i,none⟩=some (.pointer q)∧TrR w F (vals i) (.pointer q)
theorem TrR.agree {w w':World} {F:Nat→Prop} (ha:Agree F w w'):∀ {T:Tr} {p:Value},TrR w F T p→TrR w' F T p
  | .nil,_,h=>h
  | .leaf ops,_,⟨g,ov,h1,h2,h3,h4⟩=>⟨g,ov,h1,h2,h3.keep (ha g h2),h4.agree ha⟩
  | .node nx k vals rest,_,⟨g,A,c,rp,h1,h2,h3,h4,h5⟩=>⟨g,A,c,rp,h1,h2,h3.keep (ha g h2),TrR.agree ha h4,fun i hi=>by
      obtain ⟨b,o,q,g1,g2,g3,g4⟩:=h5 i hi
      exact ⟨b,o,q,g1,g2,(ha.cell g2).trans g3,TrR.agree ha g4⟩⟩
theorem TrR.mono {w:World} {F G:Nat→Prop} (hk:∀ k,F k→G k):∀ {T:Tr} {p:Value},TrR w F T p→TrR w G T p
  | .nil,_,h=>h
  | .leaf ops,_,⟨g,ov,h1,h2,h3,h4⟩=>⟨g,ov,h1,hk _ h2,h3,h4.mono hk⟩
  | .node nx k vals rest,_,⟨g,A,c,rp,h1,h2,h3,h4,h5⟩=>⟨g,A,c,rp,h1,hk _ h2,h3,TrR.mono hk h4,fun i hi=>by
      obtain ⟨b,o,q,g1,g2,g3,g4⟩:=h5 i hi
      exact ⟨b,o,q,g1,hk _ g2,g3,TrR.mono hk g4⟩⟩
theorem TrR.form {w:World} {F:Nat→Prop}:∀ {T:Tr} {p:Value},TrR w F T p→∃ q,p=.pointer q
  | .nil,_,h=>⟨none,h⟩
  | .leaf _,_,⟨_,_,h,_⟩=>⟨_,h⟩
  | .node ..,_,⟨_,_,_,_,h,_⟩=>⟨_,h⟩
def atN (s:List Int) (i:Nat):Nat:=(s[i]?.getD 0).toNat
def coll (s:List Int):Tr→List Int
  | .nil=>[]
  | .leaf ops=>ops
  | .node nx _ vals rest=>coll s (vals (atN s nx)) ++ coll s rest
def look (s:List Int):Tr→List Bool→List Bool
  | .nil,l=>l
  | .leaf _,l=>l
  | .node nx _ vals rest,l=>look s rest (look s (vals (atN s nx)) (l.set nx true))
def Fits (s:List Int):Tr→Prop
  | .nil=>True
  | .leaf _=>True
  | .node nx k vals rest=>(∃ x:Nat,s[nx]?=some (x:Int)∧x < k)∧Fits s (vals (atN s nx))∧Fits s rest
theorem GG (s:List Int):∀ (T:Tr) (l:List Bool),(look s T l).length=l.length
  | .nil,_=>rfl
  | .leaf _,_=>rfl
  | .node nx k vals rest,l=>by rw [look,GG s rest,GG s (vals _)];simp
theorem Own.own_ne {α β:Type} [Rp α] [Rp β] {w:World} {b1 b2:Nat} {F G:Nat→Prop} {e1 e2:TypeId} {u v:Value} {xs:List α} {ys:List β} (h:Own w b1 F e1 u xs) (k:Own w b2 G e2 v ys) (hne:e1≠e2):∀ g,u.ownBlock=some g→v.ownBlock≠some g:=by
  intro g hg hv
  obtain ⟨c1,h1,_⟩:=h
  obtain ⟨c2,h2,_⟩:=k
  rcases h1.2 with ⟨rfl,_⟩|⟨g1,cap1,cur1,rfl,_,hh1,_⟩
  · simp [Value.ownBlock] at hg
  · rcases h2.2 with ⟨rfl,_⟩|⟨g2,cap2,cur2,rfl,_,hh2,_⟩
    · simp [Value.ownBlock] at hv
    · have e1':g1=g:=by simpa [Value.ownBlock] using hg
      have e2':g2=g:=by simpa [Value.ownBlock] using hv
      subst e1';subst e2'
      rw [hh1] at hh2
      injection hh2 with hh2
      injection hh2 with _ ht
      exact hne ht
theorem Own.kept {α:Type} [Rp α] {w w':World} {base:Nat} {F:Nat→Prop} {e:TypeId} {v u:Value} {xs:List α} (h:Own w base F e v xs) (hK:Kept w w' u) (hF:∀ k,F k→k < w.heap.size∧u.ownBlock≠some k) (hne:∀ g,v.ownBlock=some g→u.ownBlock≠some g):Own w' base F e v xs :=
  h.agree (fun k hk=>hK.block k (hF k hk).1 (hF k hk).2) fun g hg=>hK.block g (h.lt g hg).2 (hne g hg)
theorem collect (B:Nat) (s:List Int):∀ (T:Tr) (w:World) (p ov sv lv:Value) (out:List Int) (looked:List Bool),B≤w.heap.size→TrR w (· < B) T p→Vb w (· < B) sv s→Own w B (· < B) 3 ov out→Own w B (· < B) 4 lv looked →
    Fits s T→looked.length=s.length→out.length + (coll s T).length≤1000000 →
    Fn Tryz.prog 102 [p,ov,sv,lv] w fun v w'=>Own w' B (· < B) 3 v (out ++ coll s T)∧Own w' B (· < B) 4 lv (look s T looked)∧Below B w w':=by
  intro T
  induction T with
  | nil =>
    intro w p ov sv lv out looked hB hT hs ho hl _ _ hlen
    have hp:p=.pointer none:=hT
    subst hp
    refine AH Tryz.func102 rfl Tryz.ntmps102 rfl ?_
    ((repeat (first|refine Aw ?_|refine Ah rfl ?_|refine Ae rfl ?_))<;>(refine Au rfl rfl ?_<;>(refine o_z ?_))<;>(repeat (first|refine Aw ?_|refine Ah rfl ?_|refine Ae rfl ?_))<;>(refine Ar rfl rfl ?_<;>refine GR rfl rfl ?_<;>(refine o_z ?_))<;>(repeat (first|refine Aw ?_|refine Ah rfl ?_|refine Ae rfl ?_))<;>(refine Ar rfl rfl ?_<;>refine Au rfl rfl ?_<;>(refine o_z ?_))<;>(repeat (first|refine Aw ?_|refine Ah rfl ?_|refine Ae rfl ?_)))
    exact ret1 rfl rfl ⟨by simpa [coll] using ho,hl,Below.refl _ _⟩
  | leaf ops =>
    intro w p ov sv lv out looked hB hT hs ho hl _ _ hlen
    obtain ⟨g,opv',rfl,hg,hb1,hops⟩:=hT
    refine AH Tryz.func102 rfl Tryz.ntmps102 rfl ?_
    ((repeat (first|refine Aw ?_|refine Ah rfl ?_|refine Ae rfl ?_))<;>(refine Au rfl rfl ?_<;>(refine o_z ?_))<;>(repeat (first|refine Aw ?_|refine Ah rfl ?_|refine Ae rfl ?_))<;>(refine Ar rfl rfl ?_<;>refine GR rfl rfl ?_<;>(refine o_z ?_))<;>(repeat (first|refine Aw ?_|refine Ah rfl ?_|refine Ae rfl ?_))<;>(refine Ar rfl rfl ?_<;>refine CI rfl rfl ?_<;>refine AG rfl rfl ?_<;>refine AE rfl rfl ?_<;>(refine o_z ?_))<;>(repeat (first|refine Aw ?_|refine Ah rfl ?_|refine Ae rfl ?_))<;>(refine Ar rfl rfl ?_<;>refine Ar rfl rfl ?_<;>refine CI rfl rfl ?_<;>refine AG rfl rfl ?_<;>refine AE rfl rfl ?_)<;>(repeat (first|refine Aw ?_|refine Ah rfl ?_|refine Ae rfl ?_)))
    simp only [coll] at hlen
    refine HT rfl rfl rfl ho (fun k hk=>Nat.lt_of_lt_of_le hk hB) hB hops (by decide) (by omega) (by omega) rfl fun v' w1 ho1 hK=>?_
    (refine Au rfl rfl ?_<;>(refine o_z ?_))
    repeat (first|refine Aw ?_|refine Ah rfl ?_|refine Ae rfl ?_)
    refine ret1 rfl rfl ⟨ho1,?_,ho.fits (Nat.le_refl _) hB hK⟩
    exact hl.kept hK (fun k hk=>⟨Nat.lt_of_lt_of_le hk hB,fun he=>by have:=(ho.lt k he).1;have:k < B:=hk;omega⟩) (fun g hg=>hl.own_ne ho (by decide) g hg)
  | node nx k vals rest ih1 ih2 =>
    intro w p ov sv lv out looked hB hT hs ho hl hfit hll hlen
    obtain ⟨g,A,c,rp,rfl,hg,hb1,hrest,hvals⟩:=hT
    obtain ⟨⟨x,hx,hxk⟩,hfit1,hfit2⟩:=hfit
    obtain ⟨bv,ovv,q,rfl,hbv,hcv,hq⟩:=hvals x hxk
    obtain ⟨As,cs,rfl⟩:=hs.form
    obtain ⟨bs,os,ce,rfl,hbs,_,hds,rfl,_⟩:=hs.elem hx
    have hnx:=BI hx
    have hat:atN s nx=x:=by simp [atN,hx]
    obtain ⟨gl,capl,_,_,rfl,_⟩:=hl.open (by omega)
    refine AH Tryz.func102 rfl Tryz.ntmps102 rfl ?_
    have hll':nx < looked.length:=by omega
    ((repeat (first|refine Aw ?_|refine Ah rfl ?_|refine Ae rfl ?_))<;>(refine Au rfl rfl ?_<;>(refine o_z ?_))<;>(repeat (first|refine Aw ?_|refine Ah rfl ?_|refine Ae rfl ?_))<;>(refine Ar rfl rfl ?_<;>refine GR rfl rfl ?_<;>(refine o_z ?_))<;>(repeat (first|refine Aw ?_|refine Ah rfl ?_|refine Ae rfl ?_))<;>(refine Ar rfl rfl ?_<;>refine CI rfl rfl ?_<;>refine AG rfl rfl ?_<;>refine AE rfl rfl ?_<;>(refine o_z ?_))<;>(repeat (first|refine Aw ?_|refine Ah rfl ?_|refine Ae rfl ?_))<;>(refine Ar rfl rfl ?_<;>refine Ar rfl rfl ?_<;>refine CI rfl rfl ?_<;>refine AG rfl rfl ?_<;>refine AE rfl rfl ?_<;>refine Dg rfl rfl rfl ?_)<;>(repeat (first|refine Aw ?_|refine Ah rfl ?_|refine Ae rfl ?_)))
    refine Km (i:=nx) (a:=true) rfl rfl rfl hl hll' (show Vb w (· < B) (.bool true) true from rfl) fun w1 hl1 hK1 hz1=>?_
    have hB1:Below B w w1:=hl.fits (Nat.le_refl _) hB hK1
    have ho1:Own w1 B (· < B) 3 ov out:=ho.kept hK1 (fun k hk=>⟨Nat.lt_of_lt_of_le hk hB,fun he=>by have:=(hl.lt k he).1;have:k < B:=hk;omega⟩) (fun g hg=>ho.own_ne hl (by decide) g hg)
    ((refine o_z ?_))
    repeat (first|refine Aw ?_|refine Ah rfl ?_|refine Ae rfl ?_)
    have hag:∀ w',Below B w1 w'→Agree (· < B) w w':=fun w' h k hk=>(hB1.trans h).block k hk
    replace hb1:∀ w',Below B w1 w'→Blk w' g 184 [.slice none 0 0,.bool false,.int .i64 (nx:Int),.slice (some ⟨bv,ovv,none⟩) k c,.pointer rp]:=fun w' h=>hb1.keep (hag w' h g hg)
    have hd1:∀ w',Below B w1 w'→cellsAt w' bs (os + nx * 1) [.int .i64 (x:Int)]:=fun w' h=>Bh (hag w' h) hbs hds
    have hc1:∀ w',Below B w1 w'→w'.cell? ⟨bv,ovv + x * 1,none⟩=some (.pointer q):=fun w' h=>by rw [Nat.mul_one];exact ((hag w' h).cell hbv).trans hcv
    refine Cr (Below B w1) [(0,true),(1,true),(2,true),(3,true),(4,true),(5,true),(6,true),(7,true),(8,true),(9,true),(10,true),(11,true),(12,true),(13,true),(14,true),(15,true),(16,true),(17,true),(18,true),(19,true),(21,true),(22,true),(20,false),(23,false),(24,true)] (by kernel_rfl) rfl (by kernel_rfl) (Below.refl _ _) ?_
    (refine AJ rfl rfl rfl ?_<;>refine Ec rfl rfl rfl ?_<;>refine Bc rfl rfl rfl ?_<;>(first|refine EP rfl rfl rfl ?_|refine AZ rfl rfl rfl ?_)<;>refine AJ rfl rfl rfl ?_<;>refine Ec rfl rfl rfl ?_<;>refine Bc rfl rfl rfl ?_<;>(first|refine EP rfl rfl rfl ?_|refine AZ rfl rfl rfl ?_)<;>refine AJ rfl rfl rfl ?_<;>refine AJ rfl rfl rfl ?_<;>refine Ec rfl rfl rfl ?_<;>refine Bc rfl rfl rfl ?_<;>(first|refine EP rfl rfl rfl ?_|refine AZ rfl rfl rfl ?_)<;>refine Jq rfl rfl rfl rfl ?_<;>(first|refine EP rfl rfl rfl ?_|refine AZ rfl rfl rfl ?_)<;>refine Jq rfl rfl rfl rfl ?_<;>(first|refine EP rfl rfl rfl ?_|refine AZ rfl rfl rfl ?_)<;>refine AJ rfl rfl rfl ?_<;>refine AJ rfl rfl rfl ?_<;>refine AJ rfl rfl rfl ?_<;>refine AJ rfl rfl rfl ?_<;>refine AJ rfl rfl rfl ?_)
    refine Cb rfl ?_
    simp only [coll,hat,List.length_append] at hlen
    refine Bu rfl rfl (ih1 x w1 (.pointer q) ov _ _ out (looked.set nx true) (Nat.le_trans hB hB1.size) (TrR.agree (hag w1 (Below.refl _ _)) hq) (hs.agree (hag w1 (Below.refl _ _))) ho1 hl1 (hat ▸ hfit1) (by simpa using hll) (by omega)) ?_
    rintro v2 w2 ⟨ho2,hl2,hB2⟩
    refine Cv hB2 ?_
    refine Cb rfl ?_
    refine Bu rfl rfl (ih2 w2 (.pointer rp) v2 _ _ (out ++ coll s (vals x)) (look s (vals x) (looked.set nx true)) (Nat.le_trans hB (hB1.trans hB2).size) (TrR.agree (hag w2 hB2) hrest) (hs.agree (hag w2 hB2)) ho2 hl2 hfit2 (by rw [GG];simpa using hll) (by rw [List.length_append];omega)) ?_
    rintro v3 w3 ⟨ho3,hl3,hB3⟩
    refine Cv (hB2.trans hB3) ?_
    (refine De rfl rfl rfl ?_<;>(refine h_z ?_))
    repeat (first|refine Aw ?_|refine Ah rfl ?_|refine Ae rfl ?_)
    exact ret1 rfl rfl ⟨by simpa [coll,hat] using ho3,by simpa [look,hat] using hl3,hB1.trans (hB2.trans hB3)⟩
end
section
open Go.Shelf
def Tryz.lays189_ren:Go.Shelf.Ren:=⟨fun|189=>103|125=>106|257=>105|128=>116|129=>117|294=>107|295=>108|296=>109|297=>110|298=>111|299=>112|216=>113|300=>114|301=>115|328=>118|329=>119|330=>120|331=>121|332=>122|215=>123|343=>124|n=>n,fun|28=>22|3=>3|46=>186|0=>0|51=>198|53=>167|4=>4|183=>192|182=>191|131=>41|5=>5|9=>9|218=>200|222=>203|228=>205|229=>206|n=>n,fun|n=>n⟩
theorem Tryz.lays189:Go.Proofs.Lays.n189 Tryz.prog Tryz.lays189_ren:={
  mixed:=by kernel_rfl
  f125:=Tryz.func106.trans (congrArg some (by kernel_rfl))
  f128:=Tryz.func116.trans (congrArg some (by kernel_rfl))
  f129:=Tryz.func117.trans (congrArg some (by kernel_rfl))
  f189:=Tryz.func103.trans (congrArg some (by kernel_rfl))
  f215:=Tryz.func123.trans (congrArg some (by kernel_rfl))
  f216:=Tryz.func113.trans (congrArg some (by kernel_rfl))
  f257:=Tryz.func105.trans (congrArg some (by kernel_rfl))
  f294:=Tryz.func107.trans (congrArg some (by kernel_rfl))
  f295:=Tryz.func108.trans (congrArg some (by kernel_rfl))
  f296:=Tryz.func109.trans (congrArg some (by kernel_rfl))
  f297:=Tryz.func110.trans (congrArg some (by kernel_rfl))
  f298:=Tryz.func111.trans (congrArg some (by kernel_rfl))
  f299:=Tryz.func112.trans (congrArg some (by kernel_rfl))
  f300:=Tryz.func114.trans (congrArg some (by kernel_rfl))
  f301:=Tryz.func115.trans (congrArg some (by kernel_rfl))
  f328:=Tryz.func118.trans (congrArg some (by kernel_rfl))
  f329:=Tryz.func119.trans (congrArg some (by kernel_rfl))
  f330:=Tryz.func120.trans (congrArg some (by kernel_rfl))
  f331:=Tryz.func121.trans (congrArg some (by kernel_rfl))
  f332:=Tryz.func122.trans (congrArg some (by kernel_rfl))
  f343:=Tryz.func124.trans (congrArg some (by kernel_rfl))
  t0:=Tryz.underlying0
  a0:=Tryz.isAgg0
  z0:=Tryz.sizeOf0
  v0:=Tryz.zeroValue0
  t3:=Tryz.underlying3
  a3:=Tryz.isAgg3
  z3:=Tryz.sizeOf3
  v3:=Tryz.zeroValue3
  t4:=Tryz.underlying4
  a4:=Tryz.isAgg4
  z4:=Tryz.sizeOf4
  v4:=Tryz.zeroValue4
  t5:=Tryz.underlying5
  a5:=Tryz.isAgg5
  z5:=Tryz.sizeOf5
  v5:=Tryz.zeroValue5
  t9:=Tryz.underlying9
  a9:=Tryz.isAgg9
  z9:=Tryz.sizeOf9
  v9:=Tryz.zeroValue9
  t28:=Tryz.underlying22
  a28:=Tryz.isAgg22
  z28:=Tryz.sizeOf22
  v28:=Tryz.zeroValue22
  t46:=Tryz.underlying186
  a46:=Tryz.isAgg186
  z46:=Tryz.sizeOf186
  v46:=Tryz.zeroValue186
  t51:=Tryz.underlying198
  a51:=Tryz.isAgg198
  z51:=Tryz.sizeOf198
  v51:=Tryz.zeroValue198
  t53:=Tryz.underlying167
  a53:=Tryz.isAgg167
  z53:=Tryz.sizeOf167
  v53:=Tryz.zeroValue167
  t131:=Tryz.underlying41
  a131:=Tryz.isAgg41
  z131:=Tryz.sizeOf41
  v131:=Tryz.zeroValue41
  t182:=Tryz.underlying191
  a182:=Tryz.isAgg191
  z182:=Tryz.sizeOf191
  v182:=Tryz.zeroValue191
  t183:=Tryz.underlying192
  a183:=Tryz.isAgg192
  z183:=Tryz.sizeOf192
  v183:=Tryz.zeroValue192
  t218:=Tryz.underlying200
  a218:=Tryz.isAgg200
  z218:=Tryz.sizeOf200
  v218:=Tryz.zeroValue200
  t222:=Tryz.underlying203
  a222:=Tryz.isAgg203
  z222:=Tryz.sizeOf203
  v222:=Tryz.zeroValue203
  t228:=Tryz.underlying205
  a228:=Tryz.isAgg205
  z228:=Tryz.sizeOf205
  v228:=Tryz.zeroValue205
  t229:=Tryz.underlying206
  a229:=Tryz.isAgg206
  z229:=Tryz.sizeOf206
  v229:=Tryz.zeroValue206 }
open Go.Sort Go.RowKit in
theorem Tryz.slices_Sort_int (blk off cap:Nat) (zs:List Int) (w:World) (hH:Holds (Value.int .i64) w blk off zs.toArray) (hblk:blk < w.heap.size) (hsz:zs.length < 4611686018427387904) :
    Calls Tryz.prog 103 #[.slice (some ⟨blk,off,none⟩) zs.length cap] w fun e w' =>
      e=.returned (.tuple #[])∧∃ n os,w'=grow (putRow (Value.int .i64) (Sort.ahead w n) blk off (zs.mergeSort fun x y=>decide (x≤y)).toArray) os:=Any.slices_Sort_int Tryz.lays189 blk off cap zs w hH hblk hsz
open Go.RowKit Go.Sort in
theorem Tryz.slices_Sort_int_none (p:Option Addr) (cap:Nat) (w:World) :
    Calls Tryz.prog 103 #[.slice p 0 cap] w fun e w'=>e=.returned (.tuple #[])∧w'=w:=Any.slices_Sort_int_none Tryz.lays189 p cap w
end
section
open Go Go.RowKit
def sortL (xs:List Int):List Int:=xs.mergeSort fun x y=>decide (x≤y)
theorem Ee (xs:List Int):(sortL xs).length=xs.length:=List.length_mergeSort xs
theorem IU {w:World} {F:Nat→Prop}:∀ {xs:List Int} {cells:List Value},Chunks w F cells xs→cells=xs.map (Value.int .i64)∧∀ x∈xs,inI64 x
  | [],_,h=>⟨h,fun _ hx=>by simp at hx⟩
  | x :: xs,cells,⟨cs,rest,he,hr,hc⟩=>by
    obtain ⟨h1,h2⟩:=IU hc
    obtain ⟨h3,h4⟩:=hr
    refine ⟨by rw [he,h3,h1];rfl,fun y hy=>?_⟩
    rcases List.mem_cons.1 hy with rfl|hy
    · exact h4
    · exact h2 y hy
theorem IV {w:World} {F:Nat→Prop}:∀ {xs:List Int},(∀ x∈xs,inI64 x)→Chunks w F (xs.map (Value.int .i64)) xs
  | [],_=>rfl
  | x :: xs,h=>⟨[.int .i64 x],xs.map (Value.int .i64),rfl,⟨rfl,h x (by simp)⟩,IV fun y hy=>h y (by simp [hy])⟩
theorem sortInts {w:World} {base:Nat} {F:Nat→Prop} {v:Value} {xs:List Int} (h:Own w base F 3 v xs) (hl:xs.length≤1000000) :
    Fn Tryz.prog 103 [v] w fun r w'=>r=.tuple #[]∧Own w' base F 3 v (sortL xs)∧Kept w w' v:=by
  intro d
  rcases Nat.eq_zero_or_pos xs.length with h0|h0
  · have hx:xs=[]:=List.eq_nil_of_length_eq_zero h0
    subst hx
    have hv:∃ p c,v=.slice p 0 c:=by
      obtain ⟨cells,h1,_⟩:=h
      rcases h1.2 with ⟨rfl,_⟩|⟨g,cap,cur,rfl,_⟩
      · exact ⟨_,_,rfl⟩
      · exact ⟨_,_,rfl⟩
    obtain ⟨p,c,rfl⟩:=hv
    refine (Tryz.slices_Sort_int_none p c (dr w d)).mono fun e w' ⟨he,hw⟩=>⟨_,w,d,he,hw,rfl,by simpa [sortL] using h,⟨rfl,rfl,rfl,Nat.le_refl _,fun _ _ _=>rfl⟩⟩
  · obtain ⟨g,cap,cells,sp,rfl,hg,hFg,hb,hc,hlen,hnc,hcm,htot⟩:=h.open h0
    obtain ⟨rfl,hin⟩:=IU hc
    have hH:Go.Sort.Holds (Value.int .i64) (dr w d) g 0 xs.toArray:=fun j hj=>by
      have hj':j < xs.length:=by simpa using hj
      refine ⟨?_,by rw [Nat.zero_add];exact hb.frozen j⟩
      rw [Nat.zero_add]
      refine hb.cell ?_
      rw [List.getElem?_append_left (by simpa using hj'),List.getElem?_map,List.getElem?_eq_getElem hj']
      simp [hj']
    refine (Tryz.slices_Sort_int g 0 cap xs (dr w d) hH hb.lt (by omega)).mono fun e w' ⟨he,n,os,hw⟩=>⟨_,w',w'.drawn,he,rfl,rfl,?_,?_⟩
    · have hblk:Blk w' g 3 ((sortL xs).map (Value.int .i64) ++ sp):=by
        subst hw
        unfold Blk at hb ⊢
        have hsz:g < w.heap.size:=Blk.lt hb
        show ((w.heap.modify g _) ++ os)[g]?=_
        rw [Array.getElem?_append_left (by simpa using hsz),Array.getElem?_modify,if_pos rfl,hb]
        simp only [Option.map_some,Go.Sort.onCells]
        congr 2
        apply Array.ext
        · simp [Go.Sort.putCells,Ee]
        · intro i h1 h2
          simp only [Go.Sort.putCells,Array.getElem_mapIdx,Nat.zero_add,Nat.sub_zero,Nat.zero_le,true_and]
          have e1:(List.mergeSort xs fun x y=>decide (x≤y)).length=xs.length:=List.length_mergeSort xs
          by_cases hi:i < xs.length
          · rw [if_pos (by simpa [e1] using hi)]
            simp only [List.getElem_toArray]
            rw [List.getElem_append_left (by simpa [Ee] using hi),List.getElem_map]
            congr 1
            rw [getElem!_pos _ _ (by simpa [e1] using hi)]
            simp [sortL]
          · rw [if_neg (by simpa [e1] using hi)]
            simp only [List.getElem_toArray]
            rw [List.getElem_append_right (by simp;omega),List.getElem_append_right (by simp [Ee];omega)]
            simp [Ee]
      have:=Own.close (w:=w') (base:=base) (cap:=cap) hg hFg hblk (IV (F:=F) (w:=w') fun x hx=>hin x (by
        have:=(List.mergeSort_perm xs fun x y=>decide (x≤y)).mem_iff.1 hx
        exact this)) (by rw [Ee];exact hnc) hcm (by simpa [Ee] using htot)
      rwa [Ee] at this
    · subst hw
      refine ⟨rfl,rfl,rfl,?_,fun k hk hne=>?_⟩
      · show w.heap.size≤((w.heap.modify g _) ++ os).size
        simp
      · have hkg:g≠k:=fun e=>hne (by simp [Value.ownBlock,e])
        show ((w.heap.modify g _) ++ os)[k]?=_
        rw [Array.getElem?_append_left (by simpa using hk),Array.getElem?_modify,if_neg hkg]
end
section
open Go Go.RowKit
attribute [local irreducible] ewp owp hwp hwq hws Ev Evg Fn retPost loud loudS Res1
def GenR (w:World) (F:Nat→Prop) (gv:Value) (t:Tsk) (T:Tr):Prop :=
  ∃ gb a b c d r,gv=.pointer (some ⟨gb,0,none⟩)∧F gb∧Blk w gb 151 [a,b,c,d,r]∧Vb w F a t.vars∧Vb w F b t.init∧Vb w F c t.goal∧Vb w F d t.ops∧TrR w F T r
theorem MT (z:Value) (n:Nat) (hz:z.cells=#[z]):(madeCells z.cells (n * 1)).toList=List.replicate n z:=by
  rw [hz,Nat.mul_one]
  apply List.ext_getElem
  · simp [madeCells]
  · intro i h1 h2
    simp [madeCells,Nat.mod_one]
theorem JA {w:World} {F:Nat→Prop}:∀ n,Chunks w F (List.replicate n (.bool false)) (List.replicate n false)
  | 0=>rfl
  | n + 1=>⟨[.bool false],List.replicate n (.bool false),rfl,rfl,JA n⟩
noncomputable def findL (t:Tsk) (T:Tr) (s:List Int):List Int:=if bof (StateOk t.vars s)=true then sortL (coll s T) else []
noncomputable def findN (t:Tsk) (T:Tr) (s:List Int):Nat:=if bof (StateOk t.vars s)=true then (look s T (List.replicate s.length false)).count true else 0
theorem OO {l:List Bool} {k:Nat} {b:Bool} (h:l[k]?=some b):(l.take (k + 1)).count true=(l.take k).count true + if b=true then 1 else 0:=by
  rw [List.take_add_one,h,List.count_append]
  cases b<;>simp
theorem genFind {w:World} {gv sv:Value} {t:Tsk} {T:Tr} {s:List Int} (hg:GenR w (All w) gv t T) (hs:V w sv s) (hfit:StateOk t.vars s→Fits s T) (hlen:(coll s T).length≤1000000) (hsl:s.length≤1000000) :
    Fn Tryz.prog 94 [gv,sv] w fun v w'=>Ext w w'∧∃ u,v=.tuple #[u,.int .i64 (findN t T s:Int)]∧Own w' w.heap.size (All w) 3 u (findL t T s):=by
  obtain ⟨gb,a,b,c,d,r,rfl,hgb,hb1,hvars,hinit,hgoal,hops,hT⟩:=hg
  obtain ⟨Av,cv,rfl⟩:=hvars.form
  obtain ⟨As,cs,rfl⟩:=hs.form
  obtain ⟨rp,rfl⟩:=hT.form
  refine AH Tryz.func94 rfl Tryz.ntmps94 rfl ?_
  ((repeat (first|refine Aw ?_|refine Ah rfl ?_|refine Ae rfl ?_))<;>(refine Au rfl rfl ?_<;>refine Au rfl rfl ?_<;>(refine o_z ?_))<;>(repeat (first|refine Aw ?_|refine Ah rfl ?_|refine Ae rfl ?_))<;>(refine Ar rfl rfl ?_<;>refine GR rfl rfl ?_<;>refine Ar rfl rfl ?_<;>(first|(refine Ay rfl rfl ?_;refine Ar rfl rfl ?_)|refine At rfl rfl rfl rfl ?_)<;>(first|(refine Ay rfl rfl ?_;refine CI rfl rfl ?_)|refine At rfl rfl rfl rfl ?_)<;>(first|(refine Ay rfl rfl ?_;refine AG rfl rfl ?_)|refine At rfl rfl rfl rfl ?_)<;>(first|(refine Ay rfl rfl ?_;refine AG rfl rfl ?_)|refine At rfl rfl rfl rfl ?_)<;>(first|(refine Ay rfl rfl ?_;refine AE rfl rfl ?_)|refine At rfl rfl rfl rfl ?_)<;>(first|(refine Ay rfl rfl ?_;refine Ar rfl rfl ?_)|refine At rfl rfl rfl rfl ?_))<;>(repeat (first|refine Aw ?_|refine Ah rfl ?_|refine Ae rfl ?_)))
  refine Ay rfl rfl ?_
  refine CZ rfl rfl (taskProper hvars hs) ?_ ?_
  case refine_2 =>
    intro w1 hP hE1
    ((first|(refine Ay rfl rfl ?_;(first|refine CB rfl rfl ?_|refine CC rfl rfl ?_|refine DB rfl rfl ?_))|refine At rfl rfl rfl rfl ?_)<;>(first|refine AX rfl rfl rfl ?_|refine AT rfl rfl rfl ?_)<;>(refine o_z ?_))
    repeat (first|refine Aw ?_|refine Ah rfl ?_|refine Ae rfl ?_)
    ((repeat (first|refine Aw ?_|refine Ah rfl ?_|refine Ae rfl ?_))<;>(refine Au rfl rfl ?_<;>refine Au rfl rfl ?_<;>(refine o_z ?_))<;>(repeat (first|refine Aw ?_|refine Ah rfl ?_|refine Ae rfl ?_)))
    refine ret2 rfl (AB rfl) (AB rfl) ⟨hE1,.slice none 0 0,?_,?_⟩
    · rw [findN,Bd hP];rfl
    · rw [findL,Bd hP];exact Own.nil _ _ _ _
  intro w1 hok hE1
  replace hb1:=hb1.ext hE1
  ((first|(refine Ay rfl rfl ?_;(first|refine CB rfl rfl ?_|refine CC rfl rfl ?_|refine DB rfl rfl ?_))|refine At rfl rfl rfl rfl ?_)<;>(first|refine AX rfl rfl rfl ?_|refine AT rfl rfl rfl ?_)<;>(refine o_z ?_))
  repeat (first|refine Aw ?_|refine Ah rfl ?_|refine Ae rfl ?_)
  (refine Ar rfl rfl ?_<;>refine AP rfl rfl ?_)
  refine Ku rfl rfl (by omega) (by omega) rfl fun w2 hN2=>?_
  replace hb1:=hb1.ext hN2.ext
  have hE2:Ext w w2:=hE1.trans' hN2.ext
  have hl2:Own w2 w.heap.size (· < w.heap.size) 4 (.slice (some ⟨w1.heap.size,0,none⟩) s.length s.length) (List.replicate s.length false) :=
    (Own.made hN2 (by rw [MT _ _ rfl];exact JA _) (by simp) (by have:=hE1.size;omega) (by omega)).lower hE1.size
  (refine Au rfl rfl ?_<;>(refine o_z ?_))
  repeat (first|refine Aw ?_|refine Ah rfl ?_|refine Ae rfl ?_)
  (refine Ar rfl rfl ?_<;>refine CI rfl rfl ?_<;>refine AG rfl rfl ?_<;>refine AE rfl rfl ?_<;>refine Ar rfl rfl ?_<;>refine Ar rfl rfl ?_)
  refine Bu rfl rfl (collect w.heap.size s T w2 (.pointer rp) (.slice none 0 0) _ _ [] _ hE2.size (TrR.agree (hE2.agree fun _ h=>h) hT) (Vb.agree hs (hE2.agree fun _ h=>h)) (Own.nil _ _ _ _) hl2 (hfit hok) (by simp) (by simpa using hlen)) ?_
  rintro v3 w3 ⟨ho3,hl3,hB3⟩
  have hE3:Ext w w3:=hE2.trans hB3
  rw [List.nil_append] at ho3
  (refine Au rfl rfl ?_<;>(refine o_z ?_))
  repeat (first|refine Aw ?_|refine Ah rfl ?_|refine Ae rfl ?_)
  (refine Ar rfl rfl ?_)
  refine Bu rfl rfl (sortInts ho3 hlen) ?_
  rintro _ w4 ⟨rfl,ho4,hK4⟩
  have hE4:Ext w w4:=hE3.trans (ho3.fits (Nat.le_refl _) hE3.size hK4)
  have hl4:=hl3.kept hK4 (fun k hk=>⟨Nat.lt_of_lt_of_le hk hE3.size,fun he=>by have:=(ho3.lt k he).1;have:k < w.heap.size:=hk;omega⟩) (fun g hg=>hl3.own_ne ho3 (by decide) g hg)
  have hlv:Vb w4 _ (.slice (some ⟨w1.heap.size,0,none⟩) s.length s.length) (look s T (List.replicate s.length false)):=hl4.vb
  have hll:(look s T (List.replicate s.length false)).length=s.length:=by rw [GG];simp
  ((refine o_z ?_))
  repeat (first|refine Aw ?_|refine Ah rfl ?_|refine Ae rfl ?_)
  ((repeat (first|refine Aw ?_|refine Ah rfl ?_|refine Ae rfl ?_))<;>(refine Au rfl rfl ?_<;>(refine o_z ?_))<;>(repeat (first|refine Aw ?_|refine Ah rfl ?_|refine Ae rfl ?_))<;>(refine Ar rfl rfl ?_<;>refine AP rfl rfl ?_<;>refine Ar rfl rfl ?_<;>(refine o_z ?_))<;>(repeat (first|refine Aw ?_|refine Ah rfl ?_|refine Ae rfl ?_)))
  refine BR s.length (by omega) (fun n:Nat=>[(7,v3),(8,.int .i64 (n:Int)),(35,.slice (some ⟨w1.heap.size,0,none⟩) s.length s.length)]) (fun k n w'=>w'=w4∧n=((look s T (List.replicate s.length false)).take k).count true) 0
    ⟨rfl,by simp⟩ ⟨rfl,rfl,rfl,rfl,rfl,trivial⟩ (fun _=>⟨rfl,rfl⟩) ⟨rfl,rfl,rfl⟩ ⟨rfl,rfl⟩ ?_ ?_
  · rintro k n _ hk ⟨rfl,hn⟩
    obtain ⟨x,hx⟩:=AF (l:=look s T (List.replicate s.length false)) (k:=k) (by omega)
    obtain ⟨b2,o2,ce,he,_,_,hd1,rfl⟩:=hlv.elem hx
    injection he with he
    injection he with he1 he2
    subst he1;subst he2
    have hnl:n≤k:=by
      rw [hn]
      exact Nat.le_trans List.count_le_length (by rw [List.length_take];omega)
    have hst:=OO hx
    cases x
    · ((repeat (first|refine Aw ?_|refine Ah rfl ?_|refine Ae rfl ?_))<;>(refine Dg rfl rfl rfl ?_<;>refine AE rfl rfl ?_<;>refine Au rfl rfl ?_<;>(refine o_z ?_))<;>(repeat (first|refine Aw ?_|refine Ah rfl ?_|refine Ae rfl ?_))<;>(refine Ar rfl rfl ?_<;>(refine o_z ?_))<;>(repeat (first|refine Aw ?_|refine Ah rfl ?_|refine Ae rfl ?_)))
      exact ⟨n,⟨rfl,rfl,rfl,rfl,rfl,trivial⟩,rfl,by rw [hst,hn];simp⟩
    · ((repeat (first|refine Aw ?_|refine Ah rfl ?_|refine Ae rfl ?_))<;>(refine Dg rfl rfl rfl ?_<;>refine AE rfl rfl ?_<;>refine Au rfl rfl ?_<;>(refine o_z ?_))<;>(repeat (first|refine Aw ?_|refine Ah rfl ?_|refine Ae rfl ?_))<;>(refine Ar rfl rfl ?_<;>(refine o_z ?_))<;>(repeat (first|refine Aw ?_|refine Ah rfl ?_|refine Ae rfl ?_))<;>(refine Ar rfl rfl ?_<;>(first|refine Gx rfl rfl ?_|refine Gw rfl rfl rfl ?_)<;>refine Au rfl rfl ?_<;>(refine o_z ?_))<;>(repeat (first|refine Aw ?_|refine Ah rfl ?_|refine Ae rfl ?_)))
      exact ⟨n + 1,⟨rfl,rfl,rfl,rfl,rfl,trivial⟩,rfl,by rw [hst,hn];simp⟩
  rintro n _ ⟨rfl,hn⟩
  repeat (first|refine Aw ?_|refine Ah rfl ?_|refine Ae rfl ?_)
  ((repeat (first|refine Aw ?_|refine Ah rfl ?_|refine Ae rfl ?_))<;>(refine Ar rfl rfl ?_<;>refine Ar rfl rfl ?_<;>refine Au rfl rfl ?_<;>refine Au rfl rfl ?_<;>(refine o_z ?_))<;>(repeat (first|refine Aw ?_|refine Ah rfl ?_|refine Ae rfl ?_)))
  refine ret2 rfl (AB rfl) (AB rfl) ⟨hE4,v3,?_,?_⟩
  · rw [findN,Bo hok,if_pos rfl,hn,List.take_of_length_le (by omega)]
  · rw [findL,Bo hok,if_pos rfl]
    exact ho4
section
variable {w : World} {gv sv : Value} {t : Tsk} {T : Tr} {s : List Int}
theorem genApplicable (hg:GenR w (All w) gv t T) (hs:V w sv s) (hfit:StateOk t.vars s→Fits s T) (hlen:(coll s T).length≤1000000) (hsl:s.length≤1000000) :
    Fn Tryz.prog 82 [gv,sv] w fun v w'=>Ext w w'∧Own w' w.heap.size (All w) 3 v (findL t T s):=by
  refine AH Tryz.func82 rfl Tryz.ntmps82 rfl ?_
  ((repeat (first|refine Aw ?_|refine Ah rfl ?_|refine Ae rfl ?_))<;>(refine Au rfl rfl ?_<;>(refine o_z ?_))<;>(repeat (first|refine Aw ?_|refine Ah rfl ?_|refine Ae rfl ?_))<;>(refine Ar rfl rfl ?_<;>refine Ar rfl rfl ?_)<;>(repeat (first|refine Aw ?_|refine Ah rfl ?_|refine Ae rfl ?_)))
  refine Bu rfl rfl (genFind hg hs hfit hlen hsl) ?_
  rintro _ w1 ⟨hE,u,rfl,ho⟩
  (refine Ar rfl rfl ?_<;>refine BH rfl rfl rfl ?_<;>refine BH rfl rfl rfl ?_<;>refine Au rfl rfl ?_<;>refine Au rfl rfl ?_<;>(refine o_z ?_))
  repeat (first|refine Aw ?_|refine Ah rfl ?_|refine Ae rfl ?_)
  ((repeat (first|refine Aw ?_|refine Ah rfl ?_|refine Ae rfl ?_))<;>(refine Ar rfl rfl ?_<;>refine Au rfl rfl ?_<;>(refine o_z ?_))<;>(repeat (first|refine Aw ?_|refine Ah rfl ?_|refine Ae rfl ?_)))
  exact ret1 rfl rfl ⟨hE,ho⟩
theorem Own.form {α:Type} [Rp α] {w:World} {base:Nat} {F:Nat→Prop} {e:TypeId} {v:Value} {xs:List α} (h:Own w base F e v xs):∃ A c,v=.slice A xs.length c:=h.vb.form
end
structure Suc where
  op:Int
  state:List Int
instance:Rp Suc where
  isAgg:=true
  size:=2
  R w F cs x:=∃ v,cs=[.int .i64 x.op,v]∧Vb w F v x.state∧inI64 x.op
  len:=by rintro w F cs x ⟨v,rfl,_⟩;rfl
  one:=by rintro w F cs x ⟨v,rfl,h,_⟩ u hu;simp at hu;rcases hu with rfl|rfl<;>first|rfl|exact Vb.one rfl (by assumption)
  agree:=by rintro w w' F cs x ⟨v,rfl,h,h2⟩ ha;exact ⟨v,rfl,h.agree ha,h2⟩
  mono:=by rintro w F G cs x ⟨v,rfl,h,h2⟩ ha;exact ⟨v,rfl,h.mono ha,h2⟩
def sucOf (t:Tsk) (s:List Int) (op:Int):Suc:=⟨op,match t.ops[op.toNat]? with|some o=>succ o s|none=>s⟩
end
section
open Go Go.RowKit
attribute [local irreducible] ewp owp hwp hwq hws Ev Evg Fn retPost loud loudS Res1
def GenB (w:World) (F:Nat→Prop) (gv:Value) (t:Tsk):Prop :=
  ∃ gb a b c d rp,gv=.pointer (some ⟨gb,0,none⟩)∧F gb∧Blk w gb 151 [a,b,c,d,.pointer rp]∧Vb w F a t.vars∧Vb w F b t.init∧Vb w F c t.goal∧Vb w F d t.ops
theorem GenB.agree {w w':World} {F:Nat→Prop} {gv:Value} {t:Tsk} (h:GenB w F gv t) (ha:Agree F w w'):GenB w' F gv t:=by
  obtain ⟨gb,a,b,c,d,r,h1,h2,h3,h4,h5,h6,h7⟩:=h
  exact ⟨gb,a,b,c,d,r,h1,h2,h3.keep (ha gb h2),h4.agree ha,h5.agree ha,h6.agree ha,h7.agree ha⟩
theorem GenB.mono {w:World} {F G:Nat→Prop} {gv:Value} {t:Tsk} (h:GenB w F gv t) (ha:∀ k,F k→G k):GenB w G gv t:=by
  obtain ⟨gb,a,b,c,d,r,h1,h2,h3,h4,h5,h6,h7⟩:=h
  exact ⟨gb,a,b,c,d,r,h1,ha _ h2,h3,h4.mono ha,h5.mono ha,h6.mono ha,h7.mono ha⟩
theorem GenB.ext {w w':World} {gv:Value} {t:Tsk} (h:GenB w (All w) gv t) (hE:Ext w w'):GenB w' (All w') gv t:=(h.agree (hE.agree fun _ h=>h)).mono fun k hk=>Nat.lt_of_lt_of_le hk hE.size
def factOn (l:List Fct) (v:Int):Option Fct:=l.find? fun f=>decide (f.var=v)
def factV:Option Fct→Value
  | some f=>.tuple #[.agg #[.int .i64 f.var,.int .i64 f.val],.bool true]
  | none=>.tuple #[.agg #[.int .i64 0,.int .i64 0],.bool false]
theorem LY {α:Type} (p:α→Bool):∀ {l:List α} {k:Nat} {x:α},l[k]?=some x→p x=true→(∀ i,i < k→∀ y,l[i]?=some y→p y=false)→l.find? p=some x
  | [],_,_,h,_,_=>by simp at h
  | y :: l,0,x,h,hp,_=>by
    have:y=x:=by simpa using h
    subst this;simp [hp]
  | y :: l,k + 1,x,h,hp,hn=>by
    have hy:=hn 0 (by omega) y rfl
    rw [List.find?_cons,hy]
    exact LY p (k:=k) (by simpa using h) hp fun i hi z hz=>hn (i + 1) (by omega) z (by simpa using hz)
theorem PB {α:Type} (p:α→Bool) {l:List α} (hn:∀ i,i < l.length→∀ y,l[i]?=some y→p y=false):l.find? p=none:=by
  rw [List.find?_eq_none]
  intro x hx
  obtain ⟨i,hi⟩:=List.getElem?_of_mem hx
  simp [hn i (BI hi) x hi]
theorem genFact {w:World} {gv:Value} {t:Tsk} {j:Nat} {o:Opr} {v:Int} (hg:GenB w (All w) gv t) (ho:t.ops[j]?=some o) :
    Fn Tryz.prog 101 [gv,.int .i64 (j:Int),.int .i64 v] w fun r w'=>r=factV (factOn o.pre v)∧Ext w w':=by
  obtain ⟨gb,a,b,c,d,rp,rfl,hgb,hb0,hvars,hinit,hgoal,hops⟩:=hg
  obtain ⟨Ao,co,rfl⟩:=hops.form
  obtain ⟨b2,o2,ce,rfl,hbl,hjl,hd0,p,q,rfl,hp,hq,hc,hnm⟩:=hops.elem ho
  obtain ⟨Ap,cp,rfl⟩:=hp.form
  have hpl:=hp.len
  refine AH Tryz.func101 rfl Tryz.ntmps101 rfl ?_
  repeat (first|refine Aw ?_|refine Ah rfl ?_|refine Ae rfl ?_)
  refine Eu rfl fun w1 hN1=>?_
  have hres:=hN1.blk
  have hE1:Ext w w1:=hN1.ext
  have hb1:=hb0.ext hE1
  have hd1:=Jl hd0 hbl hE1
  (refine Au rfl rfl ?_<;>(refine o_z ?_))
  repeat (first|refine Aw ?_|refine Ah rfl ?_|refine Ae rfl ?_)
  ((repeat (first|refine Aw ?_|refine Ah rfl ?_|refine Ae rfl ?_))<;>(refine Ar rfl rfl ?_<;>refine CI rfl rfl ?_<;>refine AG rfl rfl ?_<;>refine AG rfl rfl ?_<;>refine AE rfl rfl ?_<;>refine Ar rfl rfl ?_<;>refine Dg rfl rfl rfl ?_<;>refine AG rfl rfl ?_<;>refine AE rfl rfl ?_<;>refine AP rfl rfl ?_<;>refine Ar rfl rfl ?_<;>(refine o_z ?_))<;>(repeat (first|refine Aw ?_|refine Ah rfl ?_|refine Ae rfl ?_)))
  refine BR o.pre.length (by omega) (fun _:Unit=>[(2,.int .i64 v),(6,.pointer (some ⟨w.heap.size,0,none⟩)),(18,.slice Ap o.pre.length cp)]) (fun k _ w'=>Ext w1 w'∧∀ i,i < k→∀ f,o.pre[i]?=some f→decide (f.var=v)=false) ()
    ⟨Below.refl _ _,fun i hi=>by omega⟩ ⟨rfl,rfl,rfl,rfl,rfl,trivial⟩ (fun _=>⟨rfl,rfl⟩) ⟨rfl,rfl,rfl⟩ ⟨rfl,rfl⟩ ?_ ?_
  · rintro k _ w2 hk ⟨hE2,hh⟩
    obtain ⟨f,hf⟩:=AF hk
    obtain ⟨b3,o3,ce,rfl,_,_,hd1,rfl,hr1,hr2⟩:=(hp.ext (hE1.trans' hE2)).elem hf
    ((repeat (first|refine Aw ?_|refine Ah rfl ?_|refine Ae rfl ?_))<;>(refine Dg rfl rfl rfl ?_<;>refine Bk rfl rfl ?_)<;>(repeat (first|refine Aw ?_|refine Ah rfl ?_|refine Ae rfl ?_)))
    refine Cp rfl rfl rfl (by simp [Value.cells,Value.oneCell']) fun w3 hN3=>?_
    have hb2:=hN3.blk
    have hE3:Ext w1 w3:=hE2.trans' hN3.ext
    replace hres:=hres.ext hE3
    ((refine o_z ?_))
    repeat (first|refine Aw ?_|refine Ah rfl ?_|refine Ae rfl ?_)
    ((repeat (first|refine Aw ?_|refine Ah rfl ?_|refine Ae rfl ?_))<;>(refine AG rfl rfl ?_<;>refine AE rfl rfl ?_<;>refine Ar rfl rfl ?_<;>(first|refine OE rfl rfl rfl ?_|refine OF rfl rfl rfl ?_|refine Ex rfl rfl rfl (fun _=>?_) fun _=>?_)<;>(refine o_z ?_))<;>(repeat (first|refine Aw ?_|refine Ah rfl ?_|refine Ae rfl ?_)))
    · (refine Bk rfl rfl ?_)
      refine Co rfl rfl hres rfl (Nat.le_refl _) (by simp [Value.cells,Value.oneCell']) fun w4 hU=>?_
      (refine Au rfl rfl ?_<;>(refine o_z ?_))
      repeat (first|refine Aw ?_|refine Ah rfl ?_|refine Ae rfl ?_)
      refine ret2 rfl (BM rfl rfl hU.blk.cellsAt) (AB rfl) ⟨?_,hE1.trans ((hE3.mono hE1.size).trans (hU.below (Nat.le_refl _)))⟩
      rw [factOn,LY _ hf (by simpa using ‹f.var=v›) hh]
      rfl
    · exact ⟨(),⟨rfl,rfl,rfl,rfl,rfl,trivial⟩,hE3,CR hh fun f' hf'=>by rw [hf] at hf';injection hf' with hf';subst hf';simpa using ‹¬ f.var=v›⟩
  rintro _ w2 ⟨hE2,hh⟩
  replace hres:=hres.ext hE2
  repeat (first|refine Aw ?_|refine Ah rfl ?_|refine Ae rfl ?_)
  (refine Cw rfl rfl rfl ?_)
  refine Co rfl rfl hres rfl (Nat.le_refl _) (by simp [Value.cells,Value.oneCell',setParts]) fun w4 hU=>?_
  (refine Au rfl rfl ?_<;>(refine o_z ?_))
  repeat (first|refine Aw ?_|refine Ah rfl ?_|refine Ae rfl ?_)
  refine ret2 rfl (BM rfl rfl hU.blk.cellsAt) (AB rfl) ⟨?_,hE1.trans ((hE2.mono hE1.size).trans (hU.below (Nat.le_refl _)))⟩
  rw [factOn,PB _ hh]
  rfl
theorem genBuild1 {w:World} {gv:Value} {t:Tsk} {j:Nat} {o:Opr} {v:Int} {g1 g2:Nat} {r1 r2:TypeId} (hg:GenB w (All w) gv t) (ho:t.ops[j]?=some o) (h1:Blk w g1 r1 [gv]) (h2:Blk w g2 r2 [.int .i64 v]) :
    Fn Tryz.prog 100 ([.int .i64 (j:Int)] ++ [.pointer (some ⟨g1,0,none⟩),.pointer (some ⟨g2,0,none⟩)]) w fun r w'=>r=.bool (factOn o.pre v).isSome∧Ext w w':=by
  have hb1:=h1
  have hb2:=h2
  refine AH Tryz.func100 rfl Tryz.ntmps100 rfl ?_
  ((repeat (first|refine Aw ?_|refine Ah rfl ?_|refine Ae rfl ?_))<;>(refine Au rfl rfl ?_<;>(refine o_z ?_))<;>(repeat (first|refine Aw ?_|refine Ah rfl ?_|refine Ae rfl ?_))<;>(refine AE rfl rfl ?_<;>refine Ar rfl rfl ?_<;>refine AE rfl rfl ?_)<;>(repeat (first|refine Aw ?_|refine Ah rfl ?_|refine Ae rfl ?_)))
  refine Bu rfl rfl (genFact hg ho) ?_
  rintro _ w1 ⟨rfl,hE1⟩
  cases hf:factOn o.pre v with
  | none =>
    simp only [factV]
    (refine Ar rfl rfl ?_<;>refine BH rfl rfl rfl ?_<;>refine BH rfl rfl rfl ?_)
    refine Cp rfl rfl rfl (by simp [Value.cells,Value.oneCell']) fun w2 hN2=>?_
    (refine Au rfl rfl ?_<;>(refine o_z ?_))
    repeat (first|refine Aw ?_|refine Ah rfl ?_|refine Ae rfl ?_)
    ((repeat (first|refine Aw ?_|refine Ah rfl ?_|refine Ae rfl ?_))<;>(refine Ar rfl rfl ?_<;>refine Au rfl rfl ?_<;>(refine o_z ?_))<;>(repeat (first|refine Aw ?_|refine Ah rfl ?_|refine Ae rfl ?_)))
    exact ret1 rfl rfl ⟨rfl,hE1.trans' hN2.ext⟩
  | some f =>
    simp only [factV]
    (refine Ar rfl rfl ?_<;>refine BH rfl rfl rfl ?_<;>refine BH rfl rfl rfl ?_)
    refine Cp rfl rfl rfl (by simp [Value.cells,Value.oneCell']) fun w2 hN2=>?_
    (refine Au rfl rfl ?_<;>(refine o_z ?_))
    repeat (first|refine Aw ?_|refine Ah rfl ?_|refine Ae rfl ?_)
    ((repeat (first|refine Aw ?_|refine Ah rfl ?_|refine Ae rfl ?_))<;>(refine Ar rfl rfl ?_<;>refine Au rfl rfl ?_<;>(refine o_z ?_))<;>(repeat (first|refine Aw ?_|refine Ah rfl ?_|refine Ae rfl ?_)))
    exact ret1 rfl rfl ⟨rfl,hE1.trans' hN2.ext⟩
end
section
open Go Go.RowKit
attribute [local irreducible] ewp owp hwp hwq hws Ev Evg Fn retPost loud loudS Res1
theorem indexFuncInts {w:World} {sv:Value} {xs:List (Int)} {g:FuncId} [Callable Tryz.prog g] {caps:List Value} {p:Int→Prop} (hs:V w sv xs)
    (hg:∀ v x w',x∈xs→Ext w w'→V w' v x→Fn Tryz.prog g ([v] ++ caps) w' fun r w''=>r=.bool (bof (p x))∧Ext w' w'') :
    Fn Tryz.prog 104 [sv,.func (.func g) #[] caps.toArray] w fun v w'=>((∃ k:Nat,v=.int .i64 (k:Int)∧∃ x∈xs,p x)∨(v=.int .i64 (-1)∧∀ x∈xs,¬ p x))∧Ext w w':=by
  obtain ⟨A,c,rfl⟩:=hs.form
  have hl:=hs.len
  refine AH Tryz.func104 rfl Tryz.ntmps104 rfl ?_
  ((repeat (first|refine Aw ?_|refine Ah rfl ?_|refine Ae rfl ?_))<;>(refine Au rfl rfl ?_<;>(refine o_z ?_))<;>(repeat (first|refine Aw ?_|refine Ah rfl ?_|refine Ae rfl ?_))<;>(refine Ar rfl rfl ?_<;>refine AP rfl rfl ?_<;>refine Ar rfl rfl ?_<;>(refine o_z ?_))<;>(repeat (first|refine Aw ?_|refine Ah rfl ?_|refine Ae rfl ?_)))
  refine BR xs.length (by omega) (fun _:Unit=>[(0,.slice A xs.length c),(1,.func (.func g) #[] caps.toArray)]) (fun k _ w'=>Ext w w'∧∀ i,i < k→∀ x,xs[i]?=some x→¬ p x) ()
    ⟨Below.refl _ _,fun i hi=>by omega⟩ ⟨rfl,rfl,rfl,rfl,trivial⟩ (fun _=>⟨rfl,rfl⟩) ⟨rfl,rfl,rfl⟩ ⟨rfl,rfl⟩ ?_ ?_
  · rintro k _ w1 hk ⟨hE,hh⟩
    obtain ⟨x,hx⟩:=AF hk
    obtain ⟨b,o,ce,rfl,_,_,hd1,hR⟩:=(hs.ext hE).elem hx
    obtain ⟨v,rfl⟩:=List.length_eq_one_iff.1 (Rp.len hR)
    ((repeat (first|refine Aw ?_|refine Ah rfl ?_|refine Ae rfl ?_))<;>(refine Ar rfl rfl ?_<;>refine Au rfl rfl ?_<;>(refine o_z ?_))<;>(repeat (first|refine Aw ?_|refine Ah rfl ?_|refine Ae rfl ?_))<;>(refine Ar rfl rfl ?_<;>refine Ar rfl rfl ?_<;>refine Ar rfl rfl ?_<;>refine Dg rfl rfl rfl ?_<;>refine AE rfl rfl ?_)<;>(repeat (first|refine Aw ?_|refine Ah rfl ?_|refine Ae rfl ?_)))
    refine LR rfl rfl rfl (hg v x w1 (List.mem_of_getElem? hx) hE hR) ?_
    rintro _ w2 ⟨rfl,hE2⟩
    by_cases hp:p x
    · rw [Bo hp]
      ((refine o_z ?_))
      repeat (first|refine Aw ?_|refine Ah rfl ?_|refine Ae rfl ?_)
      ((repeat (first|refine Aw ?_|refine Ah rfl ?_|refine Ae rfl ?_))<;>(refine Ar rfl rfl ?_<;>refine Au rfl rfl ?_<;>(refine o_z ?_))<;>(repeat (first|refine Aw ?_|refine Ah rfl ?_|refine Ae rfl ?_)))
      exact ret1 rfl rfl ⟨.inl ⟨k,rfl,x,List.mem_of_getElem? hx,hp⟩,hE.trans' hE2⟩
    · rw [Bd hp]
      ((refine o_z ?_))
      repeat (first|refine Aw ?_|refine Ah rfl ?_|refine Ae rfl ?_)
      exact ⟨(),⟨rfl,rfl,rfl,rfl,trivial⟩,hE.trans' hE2,CR hh fun x' hx'=>by rw [hx] at hx';injection hx' with hx';exact hx' ▸ hp⟩
  rintro _ w1 ⟨hE,hh⟩
  repeat (first|refine Aw ?_|refine Ah rfl ?_|refine Ae rfl ?_)
  ((repeat (first|refine Aw ?_|refine Ah rfl ?_|refine Ae rfl ?_))<;>(refine Au rfl rfl ?_<;>(refine o_z ?_))<;>(repeat (first|refine Aw ?_|refine Ah rfl ?_|refine Ae rfl ?_)))
  refine ret1 rfl rfl ⟨.inr ⟨rfl,fun x hx=>?_⟩,hE⟩
  obtain ⟨i,hi⟩:=List.getElem?_of_mem hx
  exact hh i (BI hi) x hi
theorem containsFuncInts {w:World} {sv:Value} {xs:List (Int)} {g:FuncId} [Callable Tryz.prog g] {caps:List Value} {p:Int→Prop} (hs:V w sv xs)
    (hg:∀ v x w',x∈xs→Ext w w'→V w' v x→Fn Tryz.prog g ([v] ++ caps) w' fun r w''=>r=.bool (bof (p x))∧Ext w' w'') :
    Fn Tryz.prog 99 [sv,.func (.func g) #[] caps.toArray] w fun v w'=>v=.bool (bof (∃ x∈xs,p x))∧Ext w w':=by
  refine AH Tryz.func99 rfl Tryz.ntmps99 rfl ?_
  ((repeat (first|refine Aw ?_|refine Ah rfl ?_|refine Ae rfl ?_))<;>(refine Au rfl rfl ?_<;>(refine o_z ?_))<;>(repeat (first|refine Aw ?_|refine Ah rfl ?_|refine Ae rfl ?_))<;>(refine Ar rfl rfl ?_<;>refine Ar rfl rfl ?_)<;>(repeat (first|refine Aw ?_|refine Ah rfl ?_|refine Ae rfl ?_)))
  refine Bu rfl rfl (indexFuncInts hs hg) ?_
  rintro v w1 ⟨h,hE⟩
  rcases h with ⟨k,rfl,h⟩|⟨rfl,h⟩
  · ((first|refine KX rfl rfl rfl ?_|refine KY rfl rfl rfl ?_)<;>refine Au rfl rfl ?_<;>(refine o_z ?_))
    repeat (first|refine Aw ?_|refine Ah rfl ?_|refine Ae rfl ?_)
    exact ret1 rfl rfl ⟨by rw [Bo h],hE⟩
  · ((first|refine KX rfl rfl rfl ?_|refine KY rfl rfl rfl ?_)<;>refine Au rfl rfl ?_<;>(refine o_z ?_))
    repeat (first|refine Aw ?_|refine Ah rfl ?_|refine Ae rfl ?_)
    exact ret1 rfl rfl ⟨by rw [Bd (fun ⟨x,hx,hp⟩=>h x hx hp)],hE⟩
end
end Go.Proofs.YtafdmfhdjfkooaaGreat

/- Own text: what the proof of repairCompiles_holds uses, part 3: rules, models and their proofs, plain laws. -/
import Derived.Test.YtafdmfhdjfkooaaGreatZCB
set_option linter.unusedVariables false
set_option linter.unusedSimpArgs false
namespace Go.Proofs.YtafdmfhdjfkooaaGreat
open Go Go.RowKit
section
open Go Go.RowKit
attribute [local irreducible] ewp owp hwp hwq hws Ev Evg Fn retPost loud loudS Res1
attribute [local irreducible] hwx loudX hwz zNext
structure Prt where
  op:Int
instance:Rp Prt where
  isAgg:=true
  size:=1
  R w F cs x:=cs=[.int .i64 x.op]∧inI64 x.op
  len:=by rintro w F cs x ⟨rfl,h0⟩;rfl
  one:=by rintro w F cs x ⟨rfl,h0⟩ u hu;simp at hu;rcases hu with rfl<;>first|rfl|exact Vb.one rfl (by assumption)
  agree:=by rintro w w' F cs x ⟨rfl,h0⟩ ha;exact ⟨rfl,h0⟩
  mono:=by rintro w F G cs x ⟨rfl,h0⟩ ha;exact ⟨rfl,h0⟩
noncomputable def Cp (x0:Opr) (x1:Int) (x2:Int):Option Opr :=
  bnd (AU x0.pre) fun q25=>bnd (appI 16 q25 [(⟨x1,x2⟩:Fct)]) fun u35=>bnd (AY x0.effs) fun q49=>bnd (chkI (x2 + 1)) fun n59=>bnd (appI 40 q49 [(⟨([]:List Fct),x1,n59⟩:Eff)]) fun u62=>some (⟨x0.name,x0.cost,u35,u62⟩:Opr)
theorem Fe {w:World} {A:Nat→Prop} (hA:∀ k,A k→k < w.heap.size) {vx0:Value} {x0:Opr} (hx0:Vb w A vx0 x0) {x1:Int} (rx1:inI64 x1) {x2:Int} (rx2:inI64 x2) {r:Opr} (hm:Cp x0 x1 x2=some r) :
    Fn Tryz.prog 53 [vx0,(.int .i64 x1),(.int .i64 x2)] w fun v w'=>Ext w w'∧OprS w w' (upA A w w') 64 v r:=by
 obtain ⟨O,hB,hA0⟩:=enter hA
 replace hx0:=hx0.mono hA0
 obtain ⟨cs4,rfl,v5,v6,rfl,h7,h10,r13,z14⟩:=hx0
 obtain ⟨A8,c9,rfl⟩:=h7.form
 obtain ⟨A11,c12,rfl⟩:=h10.form
 refine AJ Tryz.func53 rfl Tryz.ntmps53 rfl ?_
 unfold Cp at hm
 refine Ah (Ae (l_box 2 O rfl rfl fun g15 w16 O17 S18 h19=>?_))
 replace h19:Lc 2 w16 O17 g15 67 [(.string x0.name),(.int .i64 x0.cost),(.slice A8 x0.pre.length c9),(.slice A11 x0.effs.length c12)]:=h19
 refine AX 3 O17 rfl fun g20 w21 O22 S23 h24=>?_
 refine o_z ?_
 refine Ah (Ae (o_fa rfl rfl ?_))
 replace h19:=h19.st S23
 refine o_ld (hc:=Blk.cell (i:=2) (h19.1) rfl) rfl rfl ?_
 obtain ⟨q25,e26,hm⟩:=bs hm
 replace h7:=(h7.st S18).st S23
 refine CC 4 (by decide) (O:=O22) (BB Fr.lt h7 e26) rfl rfl fun A32 c33 w27 O28 S29 h30=>?_
 refine o_mv rfl rfl (o_mv rfl rfl (o_bd rfl rfl rfl ?_))
 obtain ⟨u35,e36,hm⟩:=bs hm
 obtain ⟨e36,e37,e38⟩:=AO e36
 refine CB rfl (a:=(⟨x1,x2⟩:Fct)) h30 (Vb.ofAgg (cs:=[(.int .i64 x1),(.int .i64 x2)]) (x:=(⟨x1,x2⟩:Fct)) rfl ⟨rfl,rx1,rx2⟩) (fun _=>rfl) rfl (by decide) (by decide) e37 e38 ⟨rfl,rfl⟩ fun g39 A40 c41 w42 O43 S44 h45=>?_
 rw [← e36] at h45 ⊢
 refine o_fa rfl rfl ?_
 replace h19:=(h19.st S29).st S44
 refine AK h19 rfl rfl rfl (Nat.le_of_ble_eq_true rfl) (by first|exact allOne rfl|simp [Value.cells,Value.oneCell',AI]) fun w47 S48 h19=>?_
 replace h19:Lc 2 w47 O43 g15 67 [(.string x0.name),(.int .i64 x0.cost),(.slice A40 u35.length c41),(.slice A11 x0.effs.length c12)]:=h19
 refine o_z ?_
 refine Ah (Ae (o_fa rfl rfl (o_ld (hc:=Blk.cell (i:=3) (h19.1) rfl) rfl rfl ?_)))
 obtain ⟨q49,e50,hm⟩:=bs hm
 replace h10:=((((h10.st S18).st S23).st S29).st S44).st S48
 refine CC 5 (by decide) (O:=O43) (Cz Fr.lt h10 e50) rfl rfl fun A56 c57 w51 O52 S53 h54=>?_
 refine o_mv rfl rfl (o_mv rfl rfl ?_)
 obtain ⟨n59,e60,hm⟩:=bs hm
 have r61:=(Bc e60)
 refine o_adE (he:=e60) rfl rfl rfl ?_
 refine o_bd rfl rfl rfl ?_
 obtain ⟨u62,e63,hm⟩:=bs hm
 obtain ⟨e63,e64,e65⟩:=AO e63
 refine CB rfl (a:=(⟨([]:List Fct),x1,n59⟩:Eff)) h54 (Vb.ofAgg (cs:=[(.slice none 0 0),(.int .i64 x1),(.int .i64 n59)]) (x:=(⟨([]:List Fct),x1,n59⟩:Eff)) rfl ⟨_,rfl,(Vb.nil _ _),rx1,r61⟩) (fun _=>rfl) rfl (by decide) (by decide) e64 e65 ⟨rfl,rfl⟩ fun g66 A67 c68 w69 O70 S71 h72=>?_
 rw [← e63] at h72 ⊢
 refine o_fa rfl rfl ?_
 replace h19:=(h19.st S53).st S71
 refine AK h19 rfl rfl rfl (Nat.le_of_ble_eq_true rfl) (by first|exact allOne rfl|simp [Value.cells,Value.oneCell',AI]) fun w74 S75 h19=>?_
 replace h19:Lc 2 w74 O70 g15 67 [(.string x0.name),(.int .i64 x0.cost),(.slice A40 u35.length c41),(.slice A67 u62.length c68)]:=h19
 refine o_z ?_
 refine Ah (Ae (o_la (hl:=rfl) (hc:=(h19.1).cellsAt) rfl rfl ?_))
 replace h24:=(((((h24.st S29).st S44).st S48).st S53).st S71).st S75
 refine AK h24 rfl rfl rfl (Nat.le_of_ble_eq_true rfl) (by first|exact allOne rfl|simp [Value.cells,Value.oneCell',AI]) fun w76 S77 h24=>?_
 replace h24:Lc 3 w76 O70 g20 67 [(.string x0.name),(.int .i64 x0.cost),(.slice A40 u35.length c41),(.slice A67 u62.length c68)]:=h24
 refine o_z ?_
 refine At ?_
 replace h45:=((((h45.st S48).st S53).st S71).st S75).st S77
 obtain ⟨O78,S79,h45⟩:=h45.freeze
 obtain rfl:=sm hm
 replace hB:=(((((((((hB.st S18).st S23).st S29).st S44).st S48).st S53).st S71).st S75).st S77).st S79
 replace h24:=h24.st S79
 replace h72:=((h72.st S75).st S77).st S79
 exact ret1v rfl (Bf (cs:=[(.string x0.name),(.int .i64 x0.cost),(.slice A40 u35.length c41),(.slice A67 u62.length c68)]) rfl rfl h24.1.cellsAt) ⟨hB.ext,Fr 0 w76 O78,_,_,fun k hk=>⟨hB.out k hk,hk.1⟩,rfl,h45,r13,z14,h72.outO hB (by decide)⟩
noncomputable def Bi (x0:Tsk) (x1:List ByteArray) (x2:Int):Option (Tsk×(List Prt)×Err) :=
  bnd (BY x0) fun q33=>if q33.n≠0 then (some ((⟨([]:List Int),([]:List Int),([]:List Fct),([]:List Opr)⟩:Tsk),([]:List Prt),(⟨q33.n⟩:Err))) else (bnd (if x2 < 0 then (some true) else (if 1000 < x2 then (some true) else (some false)):Option Bool) fun y44=>if y44=true then (some ((⟨([]:List Int),([]:List Int),([]:List Fct),([]:List Opr)⟩:Tsk),([]:List Prt),(⟨1⟩:Err))) else (if 63 < (x1.length:Int) then (some ((⟨([]:List Int),([]:List Int),([]:List Fct),([]:List Opr)⟩:Tsk),([]:List Prt),(⟨5⟩:Err))) else (bnd (chkI ((x1.length:Int) + 1)) fun n64=>bnd (Bl x0.vars) fun q66=>bnd (appI 8 q66 ([n64]:List Int)) fun u68=>bnd (Bl x0.init) fun q70=>bnd (appI 8 q70 ([0]:List Int)) fun u72=>bnd (AU x0.goal) fun q74=>bnd (appI 16 q74 ([(⟨(x0.vars.length:Int),(x1.length:Int)⟩:Fct)]:List Fct)) fun u76=>bnd (some (u68,u72,u76):Option ((List Int)×(List Int)×(List Fct))) fun y78=>bnd (rng (ρ:=Tsk×(List Prt)×Err) (fun (k214:Nat) (a215:Opr) (s212:(List Prt)×(List Opr))=>bnd (chkI (a215.cost + x2)) fun n257=>bnd (AU a215.pre) fun q262=>bnd (AY a215.effs) fun q272=>bnd (appI 72 s212.2 [(⟨a215.name,n257,q262,q272⟩:Opr)]) fun u288=>bnd (appI 8 s212.1 [(⟨(k214:Int)⟩:Prt)]) fun u300=>some (.next (u300,u288))) x0.ops 0 (([]:List Prt),([]:List Opr))) fun res210=>fin res210 fun (s318:(List Prt)×(List Opr))=>bnd (rng (ρ:=Tsk×(List Prt)×Err) (fun (k326:Nat) (a327:ByteArray) (s324:(List Prt)×(List Opr))=>bnd (rng (ρ:=Ctl ((List Prt)×(List Opr)) (Tsk×(List Prt)×Err)) (fun (k359:Nat) (a360:Opr) (s357:(List Prt)×(List Opr))=>if a360.name=a327 then (bnd (Cp a360 (x0.vars.length:Int) (k326:Int)) fun q403=>bnd (appI 72 s357.2 [q403]) fun u405=>bnd (appI 8 s357.1 [(⟨(k359:Int)⟩:Prt)]) fun u407=>some (.next (u407,u405))) else (some (.next (s357.1,s357.2)))) x0.ops 0 (s324.1,s324.2)) fun res355=>fin res355 fun (s563:(List Prt)×(List Opr))=>bnd (Cp (⟨(⟨#[]⟩:ByteArray),x2,([]:List Fct),([]:List Eff)⟩:Opr) (x0.vars.length:Int) (k326:Int)) fun q565=>bnd (appI 72 s563.2 [q565]) fun u587=>bnd (appI 8 s563.1 [(⟨(-1)⟩:Prt)]) fun u600=>if 4096 < (u587.length:Int) then (some (.brk (u600,u587))) else (some (.next (u600,u587)))) x1 0 (s318.1,s318.2)) fun res322=>fin res322 fun (s619:(List Prt)×(List Opr))=>bnd (rngN (ρ:=Tsk×(List Prt)×Err) (fun (k627:Nat) (s625:(List Opr))=>bnd (s625[k627]?) fun a646=>bnd (BM a646.effs) fun q663=>bnd (s625[k627]?) fun a671=>some (.next (s625.set k627 ({ a671 with effs:=q663 }:Opr)))) s619.2.length s619.2) fun res623=>fin res623 fun (s688:(List Opr))=>bnd (BY (⟨y78.1,y78.2.1,y78.2.2,s688⟩:Tsk)) fun q698=>if q698.n≠0 then (some ((⟨([]:List Int),([]:List Int),([]:List Fct),([]:List Opr)⟩:Tsk),([]:List Prt),(⟨q698.n⟩:Err))) else (some ((⟨y78.1,y78.2.1,y78.2.2,s688⟩:Tsk),s619.1,(⟨0⟩:Err))))))
set_option maxHeartbeats 1000000 in
theorem FB {w:World} {A:Nat→Prop} (hA:∀ k,A k→k < w.heap.size) {vx0:Value} {x0:Tsk} (hx0:Vb w A vx0 x0) {vx1:Value} {x1:List ByteArray} (hx1:Vb w A vx1 x1) {x2:Int} (rx2:inI64 x2) {r:Tsk×(List Prt)×Err} (hm:Bi x0 x1 x2=some r) :
    Fn Tryz.prog 30 [vx0,vx1,(.int .i64 x2)] w fun v w'=>Ext w w'∧T3 w' (upA A w w') v r:=by
 obtain ⟨O,hB,hA0⟩:=enter hA
 replace hx0:=hx0.mono hA0
 obtain ⟨cs4,rfl,v5,v6,v7,v8,rfl,h9,h12,h15,h18⟩:=hx0
 obtain ⟨A10,c11,rfl⟩:=h9.form
 obtain ⟨A13,c14,rfl⟩:=h12.form
 obtain ⟨A16,c17,rfl⟩:=h15.form
 obtain ⟨A19,c20,rfl⟩:=h18.form
 replace hx1:=hx1.mono hA0
 obtain ⟨A21,c22,rfl⟩:=hx1.form
 refine AJ Tryz.func30 rfl Tryz.ntmps30 rfl ?_
 unfold Bi at hm
 refine Ah (Ae (l_box 2 O rfl rfl fun g23 w24 O25 S26 h27=>?_))
 replace h27:Lc 2 w24 O25 g23 26 [(.slice A10 x0.vars.length c11),(.slice A13 x0.init.length c14),(.slice A16 x0.goal.length c17),(.slice A19 x0.ops.length c20)]:=h27
 refine AX 3 O25 rfl fun g28 w29 O30 S31 h32=>?_
 refine o_as rfl rfl (o_as rfl rfl (o_z ?_))
 refine Ah (Ah (Ae ?_))
 replace h27:=h27.st S31
 refine o_la (hl:=rfl) (hc:=(h27.1).cellsAt) rfl rfl ?_
 obtain ⟨q33,e34,hm⟩:=bs hm
 replace h9:=(h9.st S26).st S31
 replace h12:=(h12.st S26).st S31
 replace h15:=(h15.st S26).st S31
 replace h18:=(h18.st S26).st S31
 refine Bg (O:=O30) (A:=All w29) (R:=fun w' F v=>Vb w' F v q33) (He (fun _ h=>h) (Vb.mono (F:=Fr 0 w29 O30) (Vb.ofAgg (cs:=[(.slice A10 x0.vars.length c11),(.slice A13 x0.init.length c14),(.slice A16 x0.goal.length c17),(.slice A19 x0.ops.length c20)]) (x:=x0) rfl ⟨_,_,_,_,rfl,h9,h12,h15,h18⟩) Fr.lt) e34) rfl rfl fun v39 w35 O36 S37 h38=>?_
 obtain ⟨rfl,r40⟩:=h38.err
 refine o_as rfl rfl (o_z ?_)
 refine Ah (Ae (o_mv rfl rfl (o_rnS rfl rfl (fun c41=>?_) fun c41=>?_)))
 ·
  replace hm:=ip hm c41
  refine o_z ?_
  refine Ar rfl (Ah (Ae (o_bd rfl rfl rfl ?_)))
  refine o_mv rfl rfl ?_
  replace h32:=h32.st S37
  refine AK h32 rfl rfl rfl (Nat.le_of_ble_eq_true rfl) (by first|exact allOne rfl|simp [Value.cells,Value.oneCell',AI]) fun w42 S43 h32=>?_
  replace h32:Lc 3 w42 O36 g28 26 [(.slice none 0 0),(.slice none 0 0),(.slice none 0 0),(.slice none 0 0)]:=h32
  refine o_as rfl rfl (o_as rfl rfl (o_z ?_))
  refine At ?_
  obtain rfl:=sm hm
  replace hB:=(((hB.st S26).st S31).st S37).st S43
  exact ret3 rfl (Bf (cs:=[(.slice none 0 0),(.slice none 0 0),(.slice none 0 0),(.slice none 0 0)]) rfl rfl h32.1.cellsAt) (AF rfl) (AF rfl) ⟨hB.ext,_,_,_,rfl,(Vb.mono (F:=Fr 0 w42 O36) (Vb.ofAgg (cs:=[(.slice none 0 0),(.slice none 0 0),(.slice none 0 0),(.slice none 0 0)]) (x:=(⟨([]:List Int),([]:List Int),([]:List Fct),([]:List Opr)⟩:Tsk)) rfl ⟨_,_,_,_,rfl,(Vb.nil _ _),(Vb.nil _ _),(Vb.nil _ _),(Vb.nil _ _)⟩) hB.out),(Vb.mono (F:=Fr 0 w42 O36) (Vb.nil _ _) hB.out),(vErr r40)⟩
 ·
  replace hm:=im hm c41
  refine o_z ?_
  refine Aj rfl (Am (Ah (Ah ?_)))
  obtain ⟨y44,hy45,hm⟩:=bs hm
  refine AL (fun l' w'=>∃ (x47:Unit) (O':Lab),subs l' [(1,(.slice A21 x1.length c22)),(2,(.int .i64 x2)),(3,(.pointer (some ⟨g23,0,none⟩))),(6,(.pointer (some ⟨g28,0,none⟩))),(32,(.bool y44))]∧Bs w A w' O'∧Vb w' (Fr 0 w' O') (.slice A21 x1.length c22) x1∧Lc 2 w' O' g23 26 [(.slice A10 x0.vars.length c11),(.slice A13 x0.init.length c14),(.slice A16 x0.goal.length c17),(.slice A19 x0.ops.length c20)]∧Vb w' (Fr 0 w' O') (.slice A10 x0.vars.length c11) x0.vars∧Vb w' (Fr 0 w' O') (.slice A13 x0.init.length c14) x0.init∧Vb w' (Fr 0 w' O') (.slice A16 x0.goal.length c17) x0.goal∧Vb w' (Fr 0 w' O') (.slice A19 x0.ops.length c20) x0.ops∧Lc 3 w' O' g28 26 [(.slice none 0 0),(.slice none 0 0),(.slice none 0 0),(.slice none 0 0)]) ?_ ?_
  ·
   refine Ae (o_mv rfl rfl (o_ltS rfl rfl rfl (fun c48=>?_) fun c48=>?_))
   ·
    replace hy45:=ip hy45 c48
    refine o_mv rfl rfl (AB rfl rfl rfl rfl (AB rfl rfl rfl rfl (o_pt rfl rfl rfl (o_z ?_))))
    obtain rfl:=sm hy45
    replace hB:=((hB.st S26).st S31).st S37
    replace hx1:=((hx1.st S26).st S31).st S37
    replace h9:=h9.st S37
    replace h12:=h12.st S37
    replace h15:=h15.st S37
    replace h18:=h18.st S37
    replace h27:=h27.st S37
    replace h32:=h32.st S37
    exact ⟨(),_,⟨rfl,rfl,rfl,rfl,rfl,trivial⟩,hB,hx1,h27,h9,h12,h15,h18,h32⟩
   ·
    replace hy45:=im hy45 c48
    refine o_mv rfl rfl (AC rfl rfl (o_mv rfl rfl (AC rfl rfl (o_gtS rfl rfl rfl (fun c49=>?_) fun c49=>?_))))
    ·
     replace hy45:=ip hy45 c49
     refine o_pf rfl rfl rfl (o_z ?_)
     obtain rfl:=sm hy45
     replace hB:=((hB.st S26).st S31).st S37
     replace hx1:=((hx1.st S26).st S31).st S37
     replace h9:=h9.st S37
     replace h12:=h12.st S37
     replace h15:=h15.st S37
     replace h18:=h18.st S37
     replace h27:=h27.st S37
     replace h32:=h32.st S37
     exact ⟨(),_,⟨rfl,rfl,rfl,rfl,rfl,trivial⟩,hB,hx1,h27,h9,h12,h15,h18,h32⟩
    ·
     replace hy45:=im hy45 c49
     refine o_pf rfl rfl rfl (o_z ?_)
     obtain rfl:=sm hy45
     replace hB:=((hB.st S26).st S31).st S37
     replace hx1:=((hx1.st S26).st S31).st S37
     replace h9:=h9.st S37
     replace h12:=h12.st S37
     replace h15:=h15.st S37
     replace h18:=h18.st S37
     replace h27:=h27.st S37
     replace h32:=h32.st S37
     exact ⟨(),_,⟨rfl,rfl,rfl,rfl,rfl,trivial⟩,hB,hx1,h27,h9,h12,h15,h18,h32⟩
  replace hB:=((hB.st S26).st S31).st S37
  replace hx1:=((hx1.st S26).st S31).st S37
  replace h9:=h9.st S37
  replace h12:=h12.st S37
  replace h15:=h15.st S37
  replace h18:=h18.st S37
  replace h27:=h27.st S37
  replace h32:=h32.st S37
  rintro l50 w51 ⟨x47,O52,hs53,hB,hx1,h27,h9,h12,h15,h18,h32⟩
  refine AM _ hs53 ?_
  refine Ca rfl (fun c54=>?_) (fun c54=>?_)
  ·
   replace hm:=ip hm c54
   refine Ah (Ae (o_bd rfl rfl rfl ?_))
   refine o_miE rfl rfl ?_
   refine AK h32 rfl rfl rfl (Nat.le_of_ble_eq_true rfl) (by first|exact allOne rfl|simp [Value.cells,Value.oneCell',AI]) fun w55 S56 h32=>?_
   replace h32:Lc 3 w55 O52 g28 26 [(.slice none 0 0),(.slice none 0 0),(.slice none 0 0),(.slice none 0 0)]:=h32
   refine o_as rfl rfl (o_as rfl rfl (o_z ?_))
   refine At ?_
   obtain rfl:=sm hm
   replace hB:=hB.st S56
   exact ret3 rfl (Bf (cs:=[(.slice none 0 0),(.slice none 0 0),(.slice none 0 0),(.slice none 0 0)]) rfl rfl h32.1.cellsAt) (AF rfl) (AF rfl) ⟨hB.ext,_,_,_,rfl,(Vb.mono (F:=Fr 0 w55 O52) (Vb.ofAgg (cs:=[(.slice none 0 0),(.slice none 0 0),(.slice none 0 0),(.slice none 0 0)]) (x:=(⟨([]:List Int),([]:List Int),([]:List Fct),([]:List Opr)⟩:Tsk)) rfl ⟨_,_,_,_,rfl,(Vb.nil _ _),(Vb.nil _ _),(Vb.nil _ _),(Vb.nil _ _)⟩) hB.out),(Vb.mono (F:=Fr 0 w55 O52) (Vb.nil _ _) hB.out),(vErr (by decide))⟩
  ·
   replace hm:=im' hm c54
   refine Am (Ah (Ah (Ae (o_mv rfl rfl (o_ln rfl rfl ?_)))))
   have l58:x1.length≤9223372036854775807:=Nat.le_trans hx1.len.2.1 hx1.len.2.2
   have r57:inI64 (x1.length:Int):=rngNat l58
   refine o_gtS rfl rfl rfl (fun c59=>?_) fun c59=>?_
   ·
    replace hm:=ip hm c59
    refine o_z ?_
    refine Ar rfl (Ah (Ae (o_bd rfl rfl rfl ?_)))
    refine o_miE rfl rfl ?_
    refine AK h32 rfl rfl rfl (Nat.le_of_ble_eq_true rfl) (by first|exact allOne rfl|simp [Value.cells,Value.oneCell',AI]) fun w60 S61 h32=>?_
    replace h32:Lc 3 w60 O52 g28 26 [(.slice none 0 0),(.slice none 0 0),(.slice none 0 0),(.slice none 0 0)]:=h32
    refine o_as rfl rfl (o_as rfl rfl (o_z ?_))
    refine At ?_
    obtain rfl:=sm hm
    replace hB:=hB.st S61
    exact ret3 rfl (Bf (cs:=[(.slice none 0 0),(.slice none 0 0),(.slice none 0 0),(.slice none 0 0)]) rfl rfl h32.1.cellsAt) (AF rfl) (AF rfl) ⟨hB.ext,_,_,_,rfl,(Vb.mono (F:=Fr 0 w60 O52) (Vb.ofAgg (cs:=[(.slice none 0 0),(.slice none 0 0),(.slice none 0 0),(.slice none 0 0)]) (x:=(⟨([]:List Int),([]:List Int),([]:List Fct),([]:List Opr)⟩:Tsk)) rfl ⟨_,_,_,_,rfl,(Vb.nil _ _),(Vb.nil _ _),(Vb.nil _ _),(Vb.nil _ _)⟩) hB.out),(Vb.mono (F:=Fr 0 w60 O52) (Vb.nil _ _) hB.out),(vErr (by decide))⟩
   ·
    replace hm:=im hm c59
    refine o_z ?_
    refine Aj rfl (Am (Ah (Ae (o_fa rfl rfl (o_ld (hc:=Blk.cell (i:=0) (h27.1) rfl) rfl rfl ?_)))))
    refine o_ln rfl rfl ?_
    have l63:x0.vars.length≤9223372036854775807:=Nat.le_trans h9.len.2.1 h9.len.2.2
    have r62:inI64 (x0.vars.length:Int):=rngNat l63
    refine o_as rfl rfl (o_z ?_)
    refine Ah ?_
    obtain ⟨n64,e65,hm⟩:=bs hm
    obtain ⟨q66,e67,hm⟩:=bs hm
    obtain ⟨u68,e69,hm⟩:=bs hm
    obtain ⟨q70,e71,hm⟩:=bs hm
    obtain ⟨u72,e73,hm⟩:=bs hm
    obtain ⟨q74,e75,hm⟩:=bs hm
    obtain ⟨u76,e77,hm⟩:=bs hm
    obtain ⟨y78,hy79,hm⟩:=bs hm
    refine AL (fun l' w'=>∃ (x81:Nat×(Option Addr×Nat)×(Option Addr×Nat)×(Option Addr×Nat)) (O':Lab),subs l' [(1,(.slice A21 x1.length c22)),(2,(.int .i64 x2)),(3,(.pointer (some ⟨g23,0,none⟩))),(6,(.pointer (some ⟨g28,0,none⟩))),(10,(.int .i64 (x0.vars.length:Int))),(11,(.pointer (some ⟨x81.1,0,none⟩)))]∧Bs w A w' O'∧Vb w' (Fr 0 w' O') (.slice A21 x1.length c22) x1∧Lc 2 w' O' g23 26 [(.slice A10 x0.vars.length c11),(.slice A13 x0.init.length c14),(.slice A16 x0.goal.length c17),(.slice A19 x0.ops.length c20)]∧Vb w' (Fr 0 w' O') (.slice A10 x0.vars.length c11) x0.vars∧Vb w' (Fr 0 w' O') (.slice A13 x0.init.length c14) x0.init∧Vb w' (Fr 0 w' O') (.slice A16 x0.goal.length c17) x0.goal∧Vb w' (Fr 0 w' O') (.slice A19 x0.ops.length c20) x0.ops∧Lc 3 w' O' g28 26 [(.slice none 0 0),(.slice none 0 0),(.slice none 0 0),(.slice none 0 0)]∧Lc 7 w' O' x81.1 26 [(.slice x81.2.1.1 y78.1.length x81.2.1.2),(.slice x81.2.2.1.1 y78.2.1.length x81.2.2.1.2),(.slice x81.2.2.2.1 y78.2.2.length x81.2.2.2.2),(.slice none 0 0)]∧Rw 8 w' O' 3 (.slice x81.2.1.1 y78.1.length x81.2.1.2) y78.1∧Rw 9 w' O' 3 (.slice x81.2.2.1.1 y78.2.1.length x81.2.2.1.2) y78.2.1∧Rw 10 w' O' 62 (.slice x81.2.2.2.1 y78.2.2.length x81.2.2.2.2) y78.2.2) ?_ ?_
    ·
     refine Be [(7,[8]),(12,[9]),(21,[10])] O52 ?_
     refine x_pre (fuel:=20) [] [(0,true),(1,true),(3,true),(4,true),(5,true)] (by kernel_rfl) rfl ?_
     refine h_fa rfl rfl rfl (h_ldC (hc:=fun w' ⟨O',hq⟩=>Blk.cell (i:=0) ((h27.st hq (by decide)).1) rfl) rfl rfl rfl ?_)
     refine h_mv rfl rfl rfl (h_ln rfl rfl rfl ?_)
     have l90:x1.length≤9223372036854775807:=Nat.le_trans hx1.len.2.1 hx1.len.2.2
     have r89:inI64 (x1.length:Int):=rngNat l90
     have r91:=(Bc e65)
     refine h_adE (he:=e65) rfl rfl rfl rfl ?_
     refine AH ?_
     refine x_pre (fuel:=18) [8] [(8,true),(9,true)] (by kernel_rfl) rfl ?_
     refine h_fa rfl rfl rfl (h_ldC (hc:=fun w' ⟨O',hq⟩=>Blk.cell (i:=1) ((h27.st hq (by decide)).1) rfl) rfl rfl rfl ?_)
     refine AH ?_
     refine x_pre (fuel:=12) [8,9] [(13,true),(14,true),(16,true),(17,true),(18,true),(19,true)] (by kernel_rfl) rfl ?_
     refine h_fa rfl rfl rfl (h_ldC (hc:=fun w' ⟨O',hq⟩=>Blk.cell (i:=2) ((h27.st hq (by decide)).1) rfl) rfl rfl rfl ?_)
     refine h_mv rfl rfl rfl (h_mv rfl rfl rfl (h_ln rfl rfl rfl ?_))
     have l93:x1.length≤9223372036854775807:=Nat.le_trans hx1.len.2.1 hx1.len.2.2
     have r92:inI64 (x1.length:Int):=rngNat l93
     refine h_bd rfl rfl rfl rfl ?_
     refine AH ?_
     refine z_cut (z:=(zRow (α:=Int) 6 49 4 3 1 ([n64]:List Int))) [(48,(.int .i64 n64))] (Cy (by decide) rfl rfl rfl rfl rfl (fun _ _=>⟨(vInt r91),trivial⟩) (by decide) (by decide) rfl) fun hz94=>?_
     refine z_cut (z:=(zRow (α:=Int) 11 54 5 3 1 ([0]:List Int))) [] (Cy (by decide) rfl rfl rfl rfl rfl (fun _ _=>⟨(vInt (show inI64 (0) from by decide)),trivial⟩) (by decide) (by decide) rfl) fun hz95=>?_
     refine z_cut (z:=(zRow (α:=Fct) 20 63 6 62 1 ([(⟨(x0.vars.length:Int),(x1.length:Int)⟩:Fct)]:List Fct))) [(62,(.agg #[(.int .i64 (x0.vars.length:Int)),(.int .i64 (x1.length:Int))]))] (Cy (by decide) rfl rfl rfl rfl rfl (fun _ _=>⟨(Vb.ofAgg (cs:=[(.int .i64 (x0.vars.length:Int)),(.int .i64 (x1.length:Int))]) (x:=(⟨(x0.vars.length:Int),(x1.length:Int)⟩:Fct)) rfl ⟨rfl,r62,r92⟩),trivial⟩) (by decide) (by decide) rfl) fun hz96=>?_
     refine z_cut (z:=(zVar 23 11 7 26 [(.slice none 0 0),(.slice none 0 0),(.slice none 0 0),(.slice none 0 0)])) [] (JZ rfl rfl rfl) fun hz97=>?_
     refine Ix (zs:=[(zRow (α:=Int) 6 49 4 3 1 ([n64]:List Int)),(zRow (α:=Int) 11 54 5 3 1 ([0]:List Int)),(zRow (α:=Fct) 20 63 6 62 1 ([(⟨(x0.vars.length:Int),(x1.length:Int)⟩:Fct)]:List Fct)),(zVar 23 11 7 26 [(.slice none 0 0),(.slice none 0 0),(.slice none 0 0),(.slice none 0 0)])]) (fuel:=8) [(1,(.slice A21 x1.length c22)),(2,(.int .i64 x2)),(3,(.pointer (some ⟨g23,0,none⟩))),(6,(.pointer (some ⟨g28,0,none⟩))),(10,(.int .i64 (x0.vars.length:Int))),(44,(.slice A10 x0.vars.length c11)),(48,(.int .i64 n64)),(52,(.slice A13 x0.init.length c14)),(57,(.slice A16 x0.goal.length c17)),(62,(.agg #[(.int .i64 (x0.vars.length:Int)),(.int .i64 (x1.length:Int))]))] ⟨rfl,rfl,rfl,rfl,rfl,rfl,rfl,rfl,rfl,rfl,trivial⟩ rfl (by kernel_rfl) ?_
     refine Cm (m:=2) (by kernel_rfl) rfl (by kernel_rfl) (by kernel_rfl) ⟨⟨_,hz94,⟨rfl,trivial⟩⟩,⟨_,hz95,trivial⟩,⟨_,hz96,⟨rfl,trivial⟩⟩,⟨_,hz97,trivial⟩,trivial⟩ fun u98 w99 O100 S101 hF102=>?_
     refine Cn [(1,(.slice A21 x1.length c22)),(2,(.int .i64 x2)),(3,(.pointer (some ⟨g23,0,none⟩))),(6,(.pointer (some ⟨g28,0,none⟩))),(10,(.int .i64 (x0.vars.length:Int))),(11,(u98 11)),(44,(.slice A10 x0.vars.length c11)),(48,(.int .i64 n64)),(49,(u98 49)),(52,(.slice A13 x0.init.length c14)),(54,(u98 54)),(57,(.slice A16 x0.goal.length c17)),(62,(.agg #[(.int .i64 (x0.vars.length:Int)),(.int .i64 (x1.length:Int))])),(63,(u98 63))] ⟨rfl,rfl,rfl,rfl,rfl,rfl,rfl,rfl,rfl,rfl,rfl,rfl,rfl,rfl,trivial⟩ ?_
     replace h9:=h9.st S101
     refine CC 8 (by decide) (O:=O100) (Da Fr.lt h9 e67) rfl rfl fun A108 c109 w103 O104 S105 h106=>?_
     have hZ:=S105.lst [] (fun _ h=>h.elim)
     refine z_go (zs':=[(zRow (α:=Int) 6 49 4 3 1 ([n64]:List Int)),(zRow (α:=Int) 11 54 5 3 1 ([0]:List Int)),(zRow (α:=Fct) 20 63 6 62 1 ([(⟨(x0.vars.length:Int),(x1.length:Int)⟩:Fct)]:List Fct)),(zVar 23 11 7 26 [(.slice none 0 0),(.slice none 0 0),(.slice none 0 0),(.slice none 0 0)])]) [(7,[8]),(12,[9]),(21,[10])] [(1,(.slice A21 x1.length c22)),(2,(.int .i64 x2)),(3,(.pointer (some ⟨g23,0,none⟩))),(6,(.pointer (some ⟨g28,0,none⟩))),(10,(.int .i64 (x0.vars.length:Int))),(45,(.slice A108 q66.length c109)),(48,(.int .i64 n64)),(52,(.slice A13 x0.init.length c14)),(57,(.slice A16 x0.goal.length c17)),(62,(.agg #[(.int .i64 (x0.vars.length:Int)),(.int .i64 (x1.length:Int))]))] (by kernel_rfl) hZ (by kernel_rfl) ⟨rfl,rfl,rfl,rfl,trivial⟩ ⟨rfl,rfl,rfl,rfl,rfl,rfl,rfl,rfl,rfl,rfl,trivial⟩ ?_
     refine Cm (m:=7) (by kernel_rfl) rfl (by kernel_rfl) (by kernel_rfl) ⟨⟨_,hz94,⟨rfl,trivial⟩⟩,⟨_,hz95,trivial⟩,⟨_,hz96,⟨rfl,trivial⟩⟩,⟨_,hz97,trivial⟩,trivial⟩ fun u111 w112 O113 S114 hF115=>?_
     obtain ⟨g117,e116,h118⟩:=hF115.1 (by kernel_rfl)
     refine Cn [(1,(.slice A21 x1.length c22)),(2,(.int .i64 x2)),(3,(.pointer (some ⟨g23,0,none⟩))),(6,(.pointer (some ⟨g28,0,none⟩))),(10,(.int .i64 (x0.vars.length:Int))),(11,(u111 11)),(45,(.slice A108 q66.length c109)),(48,(.int .i64 n64)),(49,(.slice (some ⟨g117,0,none⟩) ([n64]:List Int).length 1)),(52,(.slice A13 x0.init.length c14)),(54,(u111 54)),(57,(.slice A16 x0.goal.length c17)),(62,(.agg #[(.int .i64 (x0.vars.length:Int)),(.int .i64 (x1.length:Int))])),(63,(u111 63))] ⟨rfl,rfl,rfl,rfl,rfl,rfl,rfl,rfl,(congrArg some e116),rfl,rfl,rfl,rfl,rfl,trivial⟩ ?_
     obtain ⟨e69,e120,e121⟩:=AO e69
     replace h106:=h106.st S114
     refine Bb rfl h106 (h118.rd) rfl rfl (by decide) e120 e121 rfl fun A122 c123 w124 O125 S126 h127=>?_
     rw [← e69] at h127 ⊢
     have hZ:=S126.lst [8] (fun _ h=>by cases h;decide)
     refine z_go (zs':=[(zRow (α:=Int) 11 54 5 3 1 ([0]:List Int)),(zRow (α:=Fct) 20 63 6 62 1 ([(⟨(x0.vars.length:Int),(x1.length:Int)⟩:Fct)]:List Fct)),(zVar 23 11 7 26 [(.slice none 0 0),(.slice none 0 0),(.slice none 0 0),(.slice none 0 0)])]) [(12,[9]),(21,[10])] [(1,(.slice A21 x1.length c22)),(2,(.int .i64 x2)),(3,(.pointer (some ⟨g23,0,none⟩))),(6,(.pointer (some ⟨g28,0,none⟩))),(10,(.int .i64 (x0.vars.length:Int))),(50,(.slice A122 u68.length c123)),(52,(.slice A13 x0.init.length c14)),(57,(.slice A16 x0.goal.length c17)),(62,(.agg #[(.int .i64 (x0.vars.length:Int)),(.int .i64 (x1.length:Int))]))] (by kernel_rfl) hZ (by kernel_rfl) ⟨rfl,rfl,rfl,trivial⟩ ⟨rfl,rfl,rfl,rfl,rfl,rfl,rfl,rfl,rfl,trivial⟩ ?_
     refine Cm (m:=10) (by kernel_rfl) rfl (by kernel_rfl) (by kernel_rfl) ⟨⟨_,hz95,trivial⟩,⟨_,hz96,⟨rfl,trivial⟩⟩,⟨_,hz97,trivial⟩,trivial⟩ fun u129 w130 O131 S132 hF133=>?_
     refine Cn [(1,(.slice A21 x1.length c22)),(2,(.int .i64 x2)),(3,(.pointer (some ⟨g23,0,none⟩))),(6,(.pointer (some ⟨g28,0,none⟩))),(10,(.int .i64 (x0.vars.length:Int))),(11,(u129 11)),(50,(.slice A122 u68.length c123)),(52,(.slice A13 x0.init.length c14)),(54,(u129 54)),(57,(.slice A16 x0.goal.length c17)),(62,(.agg #[(.int .i64 (x0.vars.length:Int)),(.int .i64 (x1.length:Int))])),(63,(u129 63))] ⟨rfl,rfl,rfl,rfl,rfl,rfl,rfl,rfl,rfl,rfl,rfl,rfl,trivial⟩ ?_
     replace h12:=((((h12.st S101).st S105).st S114).st S126).st S132
     refine CC 9 (by decide) (O:=O131) (Da Fr.lt h12 e71) rfl rfl fun A139 c140 w134 O135 S136 h137=>?_
     have hZ:=S136.lst [] (fun _ h=>h.elim)
     refine z_go (zs':=[(zRow (α:=Int) 11 54 5 3 1 ([0]:List Int)),(zRow (α:=Fct) 20 63 6 62 1 ([(⟨(x0.vars.length:Int),(x1.length:Int)⟩:Fct)]:List Fct)),(zVar 23 11 7 26 [(.slice none 0 0),(.slice none 0 0),(.slice none 0 0),(.slice none 0 0)])]) [(12,[9]),(21,[10])] [(1,(.slice A21 x1.length c22)),(2,(.int .i64 x2)),(3,(.pointer (some ⟨g23,0,none⟩))),(6,(.pointer (some ⟨g28,0,none⟩))),(10,(.int .i64 (x0.vars.length:Int))),(50,(.slice A122 u68.length c123)),(53,(.slice A139 q70.length c140)),(57,(.slice A16 x0.goal.length c17)),(62,(.agg #[(.int .i64 (x0.vars.length:Int)),(.int .i64 (x1.length:Int))]))] (by kernel_rfl) hZ (by kernel_rfl) ⟨rfl,rfl,rfl,trivial⟩ ⟨rfl,rfl,rfl,rfl,rfl,rfl,rfl,rfl,rfl,trivial⟩ ?_
     refine Cm (m:=12) (by kernel_rfl) rfl (by kernel_rfl) (by kernel_rfl) ⟨⟨_,hz95,trivial⟩,⟨_,hz96,⟨rfl,trivial⟩⟩,⟨_,hz97,trivial⟩,trivial⟩ fun u142 w143 O144 S145 hF146=>?_
     obtain ⟨g148,e147,h149⟩:=hF146.1 (by kernel_rfl)
     refine Cn [(1,(.slice A21 x1.length c22)),(2,(.int .i64 x2)),(3,(.pointer (some ⟨g23,0,none⟩))),(6,(.pointer (some ⟨g28,0,none⟩))),(10,(.int .i64 (x0.vars.length:Int))),(11,(u142 11)),(50,(.slice A122 u68.length c123)),(53,(.slice A139 q70.length c140)),(54,(.slice (some ⟨g148,0,none⟩) ([0]:List Int).length 1)),(57,(.slice A16 x0.goal.length c17)),(62,(.agg #[(.int .i64 (x0.vars.length:Int)),(.int .i64 (x1.length:Int))])),(63,(u142 63))] ⟨rfl,rfl,rfl,rfl,rfl,rfl,rfl,rfl,(congrArg some e147),rfl,rfl,rfl,trivial⟩ ?_
     obtain ⟨e73,e151,e152⟩:=AO e73
     replace h137:=h137.st S145
     refine Bb rfl h137 (h149.rd) rfl rfl (by decide) e151 e152 rfl fun A153 c154 w155 O156 S157 h158=>?_
     rw [← e73] at h158 ⊢
     have hZ:=S157.lst [9] (fun _ h=>by cases h;decide)
     refine z_go (zs':=[(zRow (α:=Fct) 20 63 6 62 1 ([(⟨(x0.vars.length:Int),(x1.length:Int)⟩:Fct)]:List Fct)),(zVar 23 11 7 26 [(.slice none 0 0),(.slice none 0 0),(.slice none 0 0),(.slice none 0 0)])]) [(21,[10])] [(1,(.slice A21 x1.length c22)),(2,(.int .i64 x2)),(3,(.pointer (some ⟨g23,0,none⟩))),(6,(.pointer (some ⟨g28,0,none⟩))),(10,(.int .i64 (x0.vars.length:Int))),(50,(.slice A122 u68.length c123)),(55,(.slice A153 u72.length c154)),(57,(.slice A16 x0.goal.length c17)),(62,(.agg #[(.int .i64 (x0.vars.length:Int)),(.int .i64 (x1.length:Int))]))] (by kernel_rfl) hZ (by kernel_rfl) ⟨rfl,rfl,trivial⟩ ⟨rfl,rfl,rfl,rfl,rfl,rfl,rfl,rfl,rfl,trivial⟩ ?_
     refine Cm (m:=15) (by kernel_rfl) rfl (by kernel_rfl) (by kernel_rfl) ⟨⟨_,hz96,⟨rfl,trivial⟩⟩,⟨_,hz97,trivial⟩,trivial⟩ fun u160 w161 O162 S163 hF164=>?_
     refine Cn [(1,(.slice A21 x1.length c22)),(2,(.int .i64 x2)),(3,(.pointer (some ⟨g23,0,none⟩))),(6,(.pointer (some ⟨g28,0,none⟩))),(10,(.int .i64 (x0.vars.length:Int))),(11,(u160 11)),(50,(.slice A122 u68.length c123)),(55,(.slice A153 u72.length c154)),(57,(.slice A16 x0.goal.length c17)),(62,(.agg #[(.int .i64 (x0.vars.length:Int)),(.int .i64 (x1.length:Int))])),(63,(u160 63))] ⟨rfl,rfl,rfl,rfl,rfl,rfl,rfl,rfl,rfl,rfl,rfl,trivial⟩ ?_
     replace h15:=((((((((h15.st S101).st S105).st S114).st S126).st S132).st S136).st S145).st S157).st S163
     refine CC 10 (by decide) (O:=O162) (BB Fr.lt h15 e75) rfl rfl fun A170 c171 w165 O166 S167 h168=>?_
     have hZ:=S167.lst [] (fun _ h=>h.elim)
     refine z_go (zs':=[(zRow (α:=Fct) 20 63 6 62 1 ([(⟨(x0.vars.length:Int),(x1.length:Int)⟩:Fct)]:List Fct)),(zVar 23 11 7 26 [(.slice none 0 0),(.slice none 0 0),(.slice none 0 0),(.slice none 0 0)])]) [(21,[10])] [(1,(.slice A21 x1.length c22)),(2,(.int .i64 x2)),(3,(.pointer (some ⟨g23,0,none⟩))),(6,(.pointer (some ⟨g28,0,none⟩))),(10,(.int .i64 (x0.vars.length:Int))),(50,(.slice A122 u68.length c123)),(55,(.slice A153 u72.length c154)),(58,(.slice A170 q74.length c171)),(62,(.agg #[(.int .i64 (x0.vars.length:Int)),(.int .i64 (x1.length:Int))]))] (by kernel_rfl) hZ (by kernel_rfl) ⟨rfl,rfl,trivial⟩ ⟨rfl,rfl,rfl,rfl,rfl,rfl,rfl,rfl,rfl,trivial⟩ ?_
     refine Cm (m:=21) (by kernel_rfl) rfl (by kernel_rfl) (by kernel_rfl) ⟨⟨_,hz96,⟨rfl,trivial⟩⟩,⟨_,hz97,trivial⟩,trivial⟩ fun u173 w174 O175 S176 hF177=>?_
     obtain ⟨g179,e178,h180⟩:=hF177.1 (by kernel_rfl)
     refine Cn [(1,(.slice A21 x1.length c22)),(2,(.int .i64 x2)),(3,(.pointer (some ⟨g23,0,none⟩))),(6,(.pointer (some ⟨g28,0,none⟩))),(10,(.int .i64 (x0.vars.length:Int))),(11,(u173 11)),(50,(.slice A122 u68.length c123)),(55,(.slice A153 u72.length c154)),(58,(.slice A170 q74.length c171)),(62,(.agg #[(.int .i64 (x0.vars.length:Int)),(.int .i64 (x1.length:Int))])),(63,(.slice (some ⟨g179,0,none⟩) ([(⟨(x0.vars.length:Int),(x1.length:Int)⟩:Fct)]:List Fct).length 1))] ⟨rfl,rfl,rfl,rfl,rfl,rfl,rfl,rfl,rfl,rfl,(congrArg some e178),trivial⟩ ?_
     obtain ⟨e77,e182,e183⟩:=AO e77
     replace h168:=h168.st S176
     refine Bb rfl h168 (h180.rd) rfl rfl (by decide) e182 e183 rfl fun A184 c185 w186 O187 S188 h189=>?_
     rw [← e77] at h189 ⊢
     have hZ:=S188.lst [10] (fun _ h=>by cases h;decide)
     refine z_go (zs':=[(zVar 23 11 7 26 [(.slice none 0 0),(.slice none 0 0),(.slice none 0 0),(.slice none 0 0)])]) [] [(1,(.slice A21 x1.length c22)),(2,(.int .i64 x2)),(3,(.pointer (some ⟨g23,0,none⟩))),(6,(.pointer (some ⟨g28,0,none⟩))),(10,(.int .i64 (x0.vars.length:Int))),(50,(.slice A122 u68.length c123)),(55,(.slice A153 u72.length c154)),(64,(.slice A184 u76.length c185))] (by kernel_rfl) hZ (by kernel_rfl) ⟨rfl,trivial⟩ ⟨rfl,rfl,rfl,rfl,rfl,rfl,rfl,rfl,trivial⟩ ?_
     refine KO (by kernel_rfl) (fun v191 hv192=>?_) ?_
     ·
      obtain ⟨g193,rfl,h194⟩:=hv192
      refine Hc ?_
      refine x_pre (fuel:=1) [] [(22,true)] (by kernel_rfl) rfl ?_
      refine h_bd rfl rfl rfl rfl ?_
      refine AH ?_
      refine x_one (i:=24) (by kernel_rfl) rfl ?_
      refine AK h194 rfl rfl rfl (Nat.le_of_ble_eq_true rfl) (by first|exact allOne rfl|simp [Value.cells,Value.oneCell',AI]) fun w195 S196 h194=>?_
      replace h194:Lc 7 w195 O187 g193 26 [(.slice A122 u68.length c123),(.slice A153 u72.length c154),(.slice A184 u76.length c185),(.slice none 0 0)]:=h194
      refine x_end (by kernel_rfl) ?_
      refine x_nil (by kernel_rfl) ?_
      obtain rfl:=sm hy79
      replace hB:=((((((((((((hB.st S101).st S105).st S114).st S126).st S132).st S136).st S145).st S157).st S163).st S167).st S176).st S188).st S196
      replace hx1:=((((((((((((hx1.st S101).st S105).st S114).st S126).st S132).st S136).st S145).st S157).st S163).st S167).st S176).st S188).st S196
      replace h9:=(((((((((((h9.st S105).st S114).st S126).st S132).st S136).st S145).st S157).st S163).st S167).st S176).st S188).st S196
      replace h12:=(((((((h12.st S136).st S145).st S157).st S163).st S167).st S176).st S188).st S196
      replace h15:=(((h15.st S167).st S176).st S188).st S196
      replace h18:=((((((((((((h18.st S101).st S105).st S114).st S126).st S132).st S136).st S145).st S157).st S163).st S167).st S176).st S188).st S196
      replace h27:=((((((((((((h27.st S101).st S105).st S114).st S126).st S132).st S136).st S145).st S157).st S163).st S167).st S176).st S188).st S196
      replace h32:=((((((((((((h32.st S101).st S105).st S114).st S126).st S132).st S136).st S145).st S157).st S163).st S167).st S176).st S188).st S196
      replace h127:=((((((((h127.st S132).st S136).st S145).st S157).st S163).st S167).st S176).st S188).st S196
      replace h158:=((((h158.st S163).st S167).st S176).st S188).st S196
      replace h189:=h189.st S196
      exact ⟨(g193,(A122,c123),(A153,c154),(A184,c185)),_,⟨rfl,rfl,rfl,rfl,rfl,rfl,trivial⟩,hB,hx1,h27,h9,h12,h15,h18,h32,h194,h127,h158,h189⟩
     ·
      refine Hc ?_
      refine x_pre (fuel:=2) [] [(22,true)] (by kernel_rfl) rfl ?_
      refine h_bd rfl rfl rfl rfl ?_
      refine AH ?_
      refine x_one (i:=23) (by kernel_rfl) rfl ?_
      refine AX 7 O187 rfl fun g197 w198 O199 S200 h201=>?_
      have hZ:=S200.lst [] (fun _ h=>h.elim)
      refine x_go [] hZ (by kernel_rfl) ?_
      refine x_one (i:=24) (by kernel_rfl) rfl ?_
      refine AK h201 rfl rfl rfl (Nat.le_of_ble_eq_true rfl) (by first|exact allOne rfl|simp [Value.cells,Value.oneCell',AI]) fun w202 S203 h201=>?_
      replace h201:Lc 7 w202 O199 g197 26 [(.slice A122 u68.length c123),(.slice A153 u72.length c154),(.slice A184 u76.length c185),(.slice none 0 0)]:=h201
      refine x_end (by kernel_rfl) ?_
      refine x_nil (by kernel_rfl) ?_
      obtain rfl:=sm hy79
      replace hB:=(((((((((((((hB.st S101).st S105).st S114).st S126).st S132).st S136).st S145).st S157).st S163).st S167).st S176).st S188).st S200).st S203
      replace hx1:=(((((((((((((hx1.st S101).st S105).st S114).st S126).st S132).st S136).st S145).st S157).st S163).st S167).st S176).st S188).st S200).st S203
      replace h9:=((((((((((((h9.st S105).st S114).st S126).st S132).st S136).st S145).st S157).st S163).st S167).st S176).st S188).st S200).st S203
      replace h12:=((((((((h12.st S136).st S145).st S157).st S163).st S167).st S176).st S188).st S200).st S203
      replace h15:=((((h15.st S167).st S176).st S188).st S200).st S203
      replace h18:=(((((((((((((h18.st S101).st S105).st S114).st S126).st S132).st S136).st S145).st S157).st S163).st S167).st S176).st S188).st S200).st S203
      replace h27:=(((((((((((((h27.st S101).st S105).st S114).st S126).st S132).st S136).st S145).st S157).st S163).st S167).st S176).st S188).st S200).st S203
      replace h32:=(((((((((((((h32.st S101).st S105).st S114).st S126).st S132).st S136).st S145).st S157).st S163).st S167).st S176).st S188).st S200).st S203
      replace h127:=(((((((((h127.st S132).st S136).st S145).st S157).st S163).st S167).st S176).st S188).st S200).st S203
      replace h158:=(((((h158.st S163).st S167).st S176).st S188).st S200).st S203
      replace h189:=(h189.st S200).st S203
      exact ⟨(g197,(A122,c123),(A153,c154),(A184,c185)),_,⟨rfl,rfl,rfl,rfl,rfl,rfl,trivial⟩,hB,hx1,h27,h9,h12,h15,h18,h32,h201,h127,h158,h189⟩
    rintro l204 w205 ⟨x81,O206,hs207,hB,hx1,h27,h9,h12,h15,h18,h32,h82,h83,h85,h87⟩
    refine AM _ hs207 ?_
    refine Ah (Ae (o_as rfl rfl (o_z ?_)))
    refine Ah (Ah (Ae (o_fa rfl rfl (o_ld (hc:=Blk.cell (i:=3) (h27.1) rfl) rfl rfl ?_))))
    refine o_ln rfl rfl ?_
    have l209:x0.ops.length≤9223372036854775807:=Nat.le_trans h18.len.2.1 h18.len.2.2
    have r208:inI64 (x0.ops.length:Int):=rngNat l209
    refine o_mv rfl rfl (o_z ?_)
    obtain ⟨res210,hL211,hm⟩:=bs hm
    refine AL (aft res210 (fun (s212:(List Prt)×(List Opr)) (x213:(Option Addr×Nat)×(Option Addr×Nat))=>[(1,(.slice A21 x1.length c22)),(2,(.int .i64 x2)),(3,(.pointer (some ⟨g23,0,none⟩))),(6,(.pointer (some ⟨g28,0,none⟩))),(10,(.int .i64 (x0.vars.length:Int))),(11,(.pointer (some ⟨x81.1,0,none⟩))),(12,(.slice x213.1.1 s212.1.length x213.1.2))]) (fun s212 x213 w'=>∃ O':Lab,Bs w A w' O'∧Vb w' (Fr 0 w' O') (.slice A21 x1.length c22) x1∧Lc 2 w' O' g23 26 [(.slice A10 x0.vars.length c11),(.slice A13 x0.init.length c14),(.slice A16 x0.goal.length c17),(.slice A19 x0.ops.length c20)]∧Vb w' (Fr 0 w' O') (.slice A10 x0.vars.length c11) x0.vars∧Vb w' (Fr 0 w' O') (.slice A13 x0.init.length c14) x0.init∧Vb w' (Fr 0 w' O') (.slice A16 x0.goal.length c17) x0.goal∧Vb w' (Fr 0 w' O') (.slice A19 x0.ops.length c20) x0.ops∧Lc 3 w' O' g28 26 [(.slice none 0 0),(.slice none 0 0),(.slice none 0 0),(.slice none 0 0)]∧Lc 7 w' O' x81.1 26 [(.slice x81.2.1.1 y78.1.length x81.2.1.2),(.slice x81.2.2.1.1 y78.2.1.length x81.2.2.1.2),(.slice x81.2.2.2.1 y78.2.2.length x81.2.2.2.2),(.slice x213.2.1 s212.2.length x213.2.2)]∧Rw 8 w' O' 3 (.slice x81.2.1.1 y78.1.length x81.2.1.2) y78.1∧Rw 9 w' O' 3 (.slice x81.2.2.1.1 y78.2.1.length x81.2.2.1.2) y78.2.1∧Rw 10 w' O' 62 (.slice x81.2.2.2.1 y78.2.2.length x81.2.2.2.2) y78.2.2∧NR Eff 14 w' O' 67 64 (.slice x213.2.1 s212.2.length x213.2.2) s212.2 none∧Rw 15 w' O' 74 (.slice x213.1.1 s212.1.length x213.1.2) s212.1)) ?_ ?_
    ·
     refine Al (Bh (σ:=(List Prt)×(List Opr)) (X:=(Option Addr×Nat)×(Option Addr×Nat)) (x0.ops.length) hL211 rfl l209 (fun (s212:(List Prt)×(List Opr)) (x213:(Option Addr×Nat)×(Option Addr×Nat))=>[(1,(.slice A21 x1.length c22)),(2,(.int .i64 x2)),(3,(.pointer (some ⟨g23,0,none⟩))),(6,(.pointer (some ⟨g28,0,none⟩))),(10,(.int .i64 (x0.vars.length:Int))),(11,(.pointer (some ⟨x81.1,0,none⟩))),(12,(.slice x213.1.1 s212.1.length x213.1.2)),(67,(.slice A19 x0.ops.length c20))]) _ (fun s212 x213 w'=>∃ O':Lab,Bs w A w' O'∧Vb w' (Fr 0 w' O') (.slice A21 x1.length c22) x1∧Lc 2 w' O' g23 26 [(.slice A10 x0.vars.length c11),(.slice A13 x0.init.length c14),(.slice A16 x0.goal.length c17),(.slice A19 x0.ops.length c20)]∧Vb w' (Fr 0 w' O') (.slice A10 x0.vars.length c11) x0.vars∧Vb w' (Fr 0 w' O') (.slice A13 x0.init.length c14) x0.init∧Vb w' (Fr 0 w' O') (.slice A16 x0.goal.length c17) x0.goal∧Vb w' (Fr 0 w' O') (.slice A19 x0.ops.length c20) x0.ops∧Lc 3 w' O' g28 26 [(.slice none 0 0),(.slice none 0 0),(.slice none 0 0),(.slice none 0 0)]∧Lc 7 w' O' x81.1 26 [(.slice x81.2.1.1 y78.1.length x81.2.1.2),(.slice x81.2.2.1.1 y78.2.1.length x81.2.2.1.2),(.slice x81.2.2.2.1 y78.2.2.length x81.2.2.2.2),(.slice x213.2.1 s212.2.length x213.2.2)]∧Rw 8 w' O' 3 (.slice x81.2.1.1 y78.1.length x81.2.1.2) y78.1∧Rw 9 w' O' 3 (.slice x81.2.2.1.1 y78.2.1.length x81.2.2.1.2) y78.2.1∧Rw 10 w' O' 62 (.slice x81.2.2.2.1 y78.2.2.length x81.2.2.2.2) y78.2.2∧NR Eff 14 w' O' 67 64 (.slice x213.2.1 s212.2.length x213.2.2) s212.2 none∧Rw 15 w' O' 74 (.slice x213.1.1 s212.1.length x213.1.2) s212.1) _ ((none,0),(none,0)) ⟨O206,hB,hx1,h27,h9,h12,h15,h18,h32,h82,h83,h85,h87,(NR.nil 14 (by decide)),(Rw.nil 15 (by decide))⟩ ⟨rfl,rfl,rfl,rfl,rfl,rfl,rfl,rfl,rfl,rfl,trivial⟩ (fun _ _=>⟨rfl,rfl⟩) (fun _ _=>⟨rfl,rfl,rfl,rfl,rfl,rfl,rfl,trivial⟩) (fun _ _ _ ⟨O',hB,hx1,h27,h9,h12,h15,h18,h32,h82,h83,h85,h87,h231,h229⟩=>⟨O',hB,hx1,h27,h9,h12,h15,h18,h32,h82,h83,h85,h87,h231,h229⟩) ⟨rfl,rfl,rfl⟩ ⟨rfl,rfl⟩ ?_)
     rintro k214 a215 s212 x213 w216 cc218 hx219 ⟨O217,hB,hx1,h27,h9,h12,h15,h18,h32,h82,h83,h85,h87,h231,h229⟩ hf220 hret221 hbrk222
     have rk214:inI64 (k214:Int):=rngK hx219 l209
     refine Ah (Ae (o_mv rfl rfl ?_))
     obtain ⟨b233,o234,ce235,hA236,hl237,hd238,v240,v241,rfl,h242,h245,r248,z249⟩:=h18.elem' hx219
     obtain ⟨A243,c244,rfl⟩:=h242.form
     obtain ⟨A246,c247,rfl⟩:=h245.form
     refine o_iaE (hA:=hA236) (hj:=rfl) (hlt:=hl237) rfl rfl rfl ?_
     refine o_la (hl:=rfl) (hc:=hd238) rfl rfl ?_
     refine AX 11 O217 rfl fun g250 w251 O252 S253 h254=>?_
     refine o_as rfl rfl (AK h254 rfl rfl rfl (Nat.le_of_ble_eq_true rfl) (by first|exact allOne rfl|simp [Value.cells,Value.oneCell',AI]) fun w255 S256 h254=>?_)
     replace h254:Lc 11 w255 O252 g250 67 [(.string a215.name),(.int .i64 a215.cost),(.slice A243 a215.pre.length c244),(.slice A246 a215.effs.length c247)]:=h254
     refine o_z ?_
     refine Ah (Ae (o_fa rfl rfl (o_ld (hc:=Blk.cell (i:=1) (h254.1) rfl) rfl rfl ?_)))
     refine o_mv rfl rfl ?_
     obtain ⟨n257,e258,hf220⟩:=bs hf220
     have r259:=(Bc e258)
     refine o_adE (he:=e258) rfl rfl rfl ?_
     refine o_fa rfl rfl (AK h254 rfl rfl rfl (Nat.le_of_ble_eq_true rfl) (by first|exact allOne rfl|simp [Value.cells,Value.oneCell',AI]) fun w260 S261 h254=>?_)
     replace h254:Lc 11 w260 O252 g250 67 [(.string a215.name),(.int .i64 n257),(.slice A243 a215.pre.length c244),(.slice A246 a215.effs.length c247)]:=h254
     refine o_z ?_
     refine Ah (Be [(7,[11])] O252 ?_)
     refine x_pre (fuel:=6) [] [(0,true),(1,true),(3,true),(4,true)] (by kernel_rfl) rfl ?_
     refine h_fa rfl rfl rfl (h_ldC (hc:=fun w' ⟨O',hq⟩=>Blk.cell (i:=2) ((h254.st hq (by decide)).1) rfl) rfl rfl rfl ?_)
     refine h_fa rfl rfl rfl (h_ldC (hc:=fun w' ⟨O',hq⟩=>Blk.cell (i:=3) ((h254.st hq (by decide)).1) rfl) rfl rfl rfl ?_)
     refine AH ?_
     refine x_one (i:=2) (by kernel_rfl) rfl ?_
     obtain ⟨q262,e263,hf220⟩:=bs hf220
     replace h242:=((h242.st S253).st S256).st S261
     refine CC 12 (by decide) (O:=O252) (BB Fr.lt h242 e263) rfl rfl fun A269 c270 w264 O265 S266 h267=>?_
     have hZ:=S266.lst [] (fun _ h=>h.elim)
     refine x_go [(7,[11])] hZ (by kernel_rfl) ?_
     refine x_pre (fuel:=4) [] [(6,true)] (by kernel_rfl) rfl ?_
     refine h_fa rfl rfl rfl (AH ?_)
     refine x_one (i:=5) (by kernel_rfl) rfl ?_
     obtain ⟨q272,e273,hf220⟩:=bs hf220
     replace h245:=(((h245.st S253).st S256).st S261).st S266
     refine CC 13 (by decide) (O:=O265) (Cz Fr.lt h245 e273) rfl rfl fun A279 c280 w274 O275 S276 h277=>?_
     have hZ:=S276.lst [] (fun _ h=>h.elim)
     refine x_go [(7,[11])] hZ (by kernel_rfl) ?_
     refine x_one (i:=7) (by kernel_rfl) rfl ?_
     replace h254:=(h254.st S266).st S276
     refine AK h254 rfl rfl rfl (Nat.le_of_ble_eq_true rfl) (by first|exact allOne rfl|simp [Value.cells,Value.oneCell',AI]) fun w282 S283 h254=>?_
     replace h254:Lc 11 w282 O275 g250 67 [(.string a215.name),(.int .i64 n257),(.slice A269 q262.length c270),(.slice A246 a215.effs.length c247)]:=h254
     have hZ:=S283.lst [11] (fun _ h=>by cases h;decide)
     refine x_go [] hZ (by kernel_rfl) ?_
     refine x_pre (fuel:=1) [] [(8,true)] (by kernel_rfl) rfl ?_
     refine h_fa rfl rfl rfl (AH ?_)
     refine x_one (i:=9) (by kernel_rfl) rfl ?_
     refine AK h254 rfl rfl rfl (Nat.le_of_ble_eq_true rfl) (by first|exact allOne rfl|simp [Value.cells,Value.oneCell',AI]) fun w284 S285 h254=>?_
     replace h254:Lc 11 w284 O275 g250 67 [(.string a215.name),(.int .i64 n257),(.slice A269 q262.length c270),(.slice A279 q272.length c280)]:=h254
     refine x_end (by kernel_rfl) ?_
     refine x_nil (by kernel_rfl) ?_
     refine Ae (o_fa rfl rfl ?_)
     replace h82:=((((((h82.st S253).st S256).st S261).st S266).st S276).st S283).st S285
     refine o_ld (hc:=Blk.cell (i:=3) (h82.1) rfl) rfl rfl ?_
     refine o_la (hl:=rfl) (hc:=(h254.1).cellsAt) rfl rfl ?_
     replace h267:=((h267.st S276).st S283).st S285
     obtain ⟨O286,S287,h267⟩:=h267.freeze
     obtain ⟨u288,e289,hf220⟩:=bs hf220
     obtain ⟨e289,e290,e291⟩:=AO e289
     replace h231:=(((((((h231.st S253).st S256).st S261).st S266).st S276).st S283).st S285).st S287
     replace h277:=((h277.st S283).st S285).st S287
     refine KN (β:=Eff) (j:=13) (cs:=[(.string a215.name),(.int .i64 n257),(.slice A269 q262.length c270),(.slice A279 q272.length c280)]) (a:=(⟨a215.name,n257,q262,q272⟩:Opr)) rfl rfl h231 rfl rfl (by first|exact allOne rfl|simp [Value.oneCell',AI]) ⟨_,_,rfl,h267,(Vb.nil _ _),r259,z249⟩ rfl h277 (by decide) (fun _=>rfl) rfl (by decide) (by decide) e290 e291 ⟨rfl,rfl⟩ fun g292 A293 c294 w295 O296 S297 h298=>?_
     rw [← e289] at h298 ⊢
     refine o_mv rfl rfl (o_mv rfl rfl (o_bd rfl rfl rfl ?_))
     obtain ⟨u300,e301,hf220⟩:=bs hf220
     obtain ⟨e301,e302,e303⟩:=AO e301
     replace h229:=((((((((h229.st S253).st S256).st S261).st S266).st S276).st S283).st S285).st S287).st S297
     refine CB rfl (a:=(⟨(k214:Int)⟩:Prt)) h229 (Vb.ofAgg (cs:=[(.int .i64 (k214:Int))]) (x:=(⟨(k214:Int)⟩:Prt)) rfl ⟨rfl,rk214⟩) (fun _=>rfl) rfl (by decide) (by decide) e302 e303 ⟨rfl,rfl⟩ fun g304 A305 c306 w307 O308 S309 h310=>?_
     rw [← e301] at h310 ⊢
     refine o_fa rfl rfl ?_
     replace h82:=((h82.st S287).st S297).st S309
     refine AK h82 rfl rfl rfl (Nat.le_of_ble_eq_true rfl) (by first|exact allOne rfl|simp [Value.cells,Value.oneCell',AI]) fun w312 S313 h82=>?_
     replace h82:Lc 7 w312 O308 x81.1 26 [(.slice x81.2.1.1 y78.1.length x81.2.1.2),(.slice x81.2.2.1.1 y78.2.1.length x81.2.2.1.2),(.slice x81.2.2.2.1 y78.2.2.length x81.2.2.2.2),(.slice A293 u288.length c294)]:=h82
     refine o_as rfl rfl (o_z ?_)
     obtain rfl:=sm hf220
     refine (?_:Exists _)
     replace hB:=((((((((((hB.st S253).st S256).st S261).st S266).st S276).st S283).st S285).st S287).st S297).st S309).st S313
     replace hx1:=((((((((((hx1.st S253).st S256).st S261).st S266).st S276).st S283).st S285).st S287).st S297).st S309).st S313
     replace h9:=((((((((((h9.st S253).st S256).st S261).st S266).st S276).st S283).st S285).st S287).st S297).st S309).st S313
     replace h12:=((((((((((h12.st S253).st S256).st S261).st S266).st S276).st S283).st S285).st S287).st S297).st S309).st S313
     replace h15:=((((((((((h15.st S253).st S256).st S261).st S266).st S276).st S283).st S285).st S287).st S297).st S309).st S313
     replace h18:=((((((((((h18.st S253).st S256).st S261).st S266).st S276).st S283).st S285).st S287).st S297).st S309).st S313
     replace h27:=((((((((((h27.st S253).st S256).st S261).st S266).st S276).st S283).st S285).st S287).st S297).st S309).st S313
     replace h32:=((((((((((h32.st S253).st S256).st S261).st S266).st S276).st S283).st S285).st S287).st S297).st S309).st S313
     replace h83:=((((((((((h83.st S253).st S256).st S261).st S266).st S276).st S283).st S285).st S287).st S297).st S309).st S313
     replace h85:=((((((((((h85.st S253).st S256).st S261).st S266).st S276).st S283).st S285).st S287).st S297).st S309).st S313
     replace h87:=((((((((((h87.st S253).st S256).st S261).st S266).st S276).st S283).st S285).st S287).st S297).st S309).st S313
     replace h298:=(h298.st S309).st S313
     replace h310:=h310.st S313
     exact ⟨_,((A305,c306),(A293,c294)),rfl,⟨rfl,rfl,rfl,rfl,rfl,rfl,rfl,rfl,rfl,rfl,trivial⟩,_,hB,hx1,h27,h9,h12,h15,h18,h32,h82,h83,h85,h87,h298,h310⟩
    rintro l314 w315 ⟨s318,x319,rfl,hs317,O316,hB,hx1,h27,h9,h12,h15,h18,h32,h82,h83,h85,h87,h231,h229⟩
    replace hm:=AR hm
    refine AM _ hs317 ?_
    refine Ah (Ah (Ae (o_mv rfl rfl (o_ln rfl rfl ?_))))
    have l321:x1.length≤9223372036854775807:=Nat.le_trans hx1.len.2.1 hx1.len.2.2
    have r320:inI64 (x1.length:Int):=rngNat l321
    refine o_mv rfl rfl (o_z ?_)
    obtain ⟨res322,hL323,hm⟩:=bs hm
    refine AL (aft res322 (fun (s324:(List Prt)×(List Opr)) (x325:(Option Addr×Nat)×(Option Addr×Nat))=>[(6,(.pointer (some ⟨g28,0,none⟩))),(11,(.pointer (some ⟨x81.1,0,none⟩))),(12,(.slice x325.1.1 s324.1.length x325.1.2))]) (fun s324 x325 w'=>∃ O':Lab,Bs w A w' O'∧Lc 3 w' O' g28 26 [(.slice none 0 0),(.slice none 0 0),(.slice none 0 0),(.slice none 0 0)]∧Lc 7 w' O' x81.1 26 [(.slice x81.2.1.1 y78.1.length x81.2.1.2),(.slice x81.2.2.1.1 y78.2.1.length x81.2.2.1.2),(.slice x81.2.2.2.1 y78.2.2.length x81.2.2.2.2),(.slice x325.2.1 s324.2.length x325.2.2)]∧Rw 8 w' O' 3 (.slice x81.2.1.1 y78.1.length x81.2.1.2) y78.1∧Rw 9 w' O' 3 (.slice x81.2.2.1.1 y78.2.1.length x81.2.2.1.2) y78.2.1∧Rw 10 w' O' 62 (.slice x81.2.2.2.1 y78.2.2.length x81.2.2.2.2) y78.2.2∧NR Eff 14 w' O' 67 64 (.slice x325.2.1 s324.2.length x325.2.2) s324.2 none∧Rw 15 w' O' 74 (.slice x325.1.1 s324.1.length x325.1.2) s324.1)) ?_ ?_
    ·
     refine Al (Bh (σ:=(List Prt)×(List Opr)) (X:=(Option Addr×Nat)×(Option Addr×Nat)) (x1.length) hL323 rfl l321 (fun (s324:(List Prt)×(List Opr)) (x325:(Option Addr×Nat)×(Option Addr×Nat))=>[(2,(.int .i64 x2)),(3,(.pointer (some ⟨g23,0,none⟩))),(6,(.pointer (some ⟨g28,0,none⟩))),(10,(.int .i64 (x0.vars.length:Int))),(11,(.pointer (some ⟨x81.1,0,none⟩))),(12,(.slice x325.1.1 s324.1.length x325.1.2)),(99,(.slice A21 x1.length c22))]) _ (fun s324 x325 w'=>∃ O':Lab,Bs w A w' O'∧Lc 2 w' O' g23 26 [(.slice A10 x0.vars.length c11),(.slice A13 x0.init.length c14),(.slice A16 x0.goal.length c17),(.slice A19 x0.ops.length c20)]∧Vb w' (Fr 0 w' O') (.slice A10 x0.vars.length c11) x0.vars∧Vb w' (Fr 0 w' O') (.slice A13 x0.init.length c14) x0.init∧Vb w' (Fr 0 w' O') (.slice A16 x0.goal.length c17) x0.goal∧Vb w' (Fr 0 w' O') (.slice A19 x0.ops.length c20) x0.ops∧Lc 3 w' O' g28 26 [(.slice none 0 0),(.slice none 0 0),(.slice none 0 0),(.slice none 0 0)]∧Lc 7 w' O' x81.1 26 [(.slice x81.2.1.1 y78.1.length x81.2.1.2),(.slice x81.2.2.1.1 y78.2.1.length x81.2.2.1.2),(.slice x81.2.2.2.1 y78.2.2.length x81.2.2.2.2),(.slice x325.2.1 s324.2.length x325.2.2)]∧Rw 8 w' O' 3 (.slice x81.2.1.1 y78.1.length x81.2.1.2) y78.1∧Rw 9 w' O' 3 (.slice x81.2.2.1.1 y78.2.1.length x81.2.2.1.2) y78.2.1∧Rw 10 w' O' 62 (.slice x81.2.2.2.1 y78.2.2.length x81.2.2.2.2) y78.2.2∧NR Eff 14 w' O' 67 64 (.slice x325.2.1 s324.2.length x325.2.2) s324.2 none∧Rw 15 w' O' 74 (.slice x325.1.1 s324.1.length x325.1.2) s324.1∧Vb w' (Fr 0 w' O') (.slice A21 x1.length c22) x1) _ ((x319.1.1,x319.1.2),(x319.2.1,x319.2.2)) ⟨O316,hB,h27,h9,h12,h15,h18,h32,h82,h83,h85,h87,h231,h229,hx1⟩ ⟨rfl,rfl,rfl,rfl,rfl,rfl,rfl,rfl,rfl,trivial⟩ (fun _ _=>⟨rfl,rfl⟩) (fun _ _=>⟨rfl,rfl,rfl,trivial⟩) (fun _ _ _ ⟨O',hB,h27,h9,h12,h15,h18,h32,h82,h83,h85,h87,h343,h341,hx1⟩=>⟨O',hB,h32,h82,h83,h85,h87,h343,h341⟩) ⟨rfl,rfl,rfl⟩ ⟨rfl,rfl⟩ ?_)
     rintro k326 a327 s324 x325 w328 cc330 hx331 ⟨O329,hB,h27,h9,h12,h15,h18,h32,h82,h83,h85,h87,h343,h341,hx1⟩ hf332 hret333 hbrk334
     have rk326:inI64 (k326:Int):=rngK hx331 l321
     refine Ah (Ae (o_mv rfl rfl ?_))
     obtain ⟨b345,o346,ce347,hA348,hl349,hd350,rfl,z352⟩:=hx1.elem' hx331
     refine o_iaE (hA:=hA348) (hj:=rfl) (hlt:=hl349) rfl rfl rfl ?_
     refine o_ld (hc:=cat0 hd350) rfl rfl ?_
     refine o_as rfl rfl (o_as rfl rfl (o_z ?_))
     refine Ah (Ah (Ae (o_fa rfl rfl (o_ld (hc:=Blk.cell (i:=3) (h27.1) rfl) rfl rfl ?_))))
     refine o_ln rfl rfl ?_
     have l354:x0.ops.length≤9223372036854775807:=Nat.le_trans h18.len.2.1 h18.len.2.2
     have r353:inI64 (x0.ops.length:Int):=rngNat l354
     refine o_mv rfl rfl (o_z ?_)
     obtain ⟨res355,hL356,hf332⟩:=bs hf332
     refine AL (aft res355 (fun (s357:(List Prt)×(List Opr)) (x358:(Option Addr×Nat)×(Option Addr×Nat))=>[(2,(.int .i64 x2)),(3,(.pointer (some ⟨g23,0,none⟩))),(6,(.pointer (some ⟨g28,0,none⟩))),(10,(.int .i64 (x0.vars.length:Int))),(11,(.pointer (some ⟨x81.1,0,none⟩))),(12,(.slice x358.1.1 s357.1.length x358.1.2)),(15,(.int .i64 (k326:Int))),(99,(.slice A21 x1.length c22)),(100,(.int .i64 (x1.length:Int))),(101,(.int .i64 (k326:Int)))]) (fun s357 x358 w'=>∃ O':Lab,Bs w A w' O'∧Lc 2 w' O' g23 26 [(.slice A10 x0.vars.length c11),(.slice A13 x0.init.length c14),(.slice A16 x0.goal.length c17),(.slice A19 x0.ops.length c20)]∧Vb w' (Fr 0 w' O') (.slice A10 x0.vars.length c11) x0.vars∧Vb w' (Fr 0 w' O') (.slice A13 x0.init.length c14) x0.init∧Vb w' (Fr 0 w' O') (.slice A16 x0.goal.length c17) x0.goal∧Vb w' (Fr 0 w' O') (.slice A19 x0.ops.length c20) x0.ops∧Lc 3 w' O' g28 26 [(.slice none 0 0),(.slice none 0 0),(.slice none 0 0),(.slice none 0 0)]∧Lc 7 w' O' x81.1 26 [(.slice x81.2.1.1 y78.1.length x81.2.1.2),(.slice x81.2.2.1.1 y78.2.1.length x81.2.2.1.2),(.slice x81.2.2.2.1 y78.2.2.length x81.2.2.2.2),(.slice x358.2.1 s357.2.length x358.2.2)]∧Rw 8 w' O' 3 (.slice x81.2.1.1 y78.1.length x81.2.1.2) y78.1∧Rw 9 w' O' 3 (.slice x81.2.2.1.1 y78.2.1.length x81.2.2.1.2) y78.2.1∧Rw 10 w' O' 62 (.slice x81.2.2.2.1 y78.2.2.length x81.2.2.2.2) y78.2.2∧NR Eff 14 w' O' 67 64 (.slice x358.2.1 s357.2.length x358.2.2) s357.2 none∧Rw 15 w' O' 74 (.slice x358.1.1 s357.1.length x358.1.2) s357.1∧Vb w' (Fr 0 w' O') (.slice A21 x1.length c22) x1)) ?_ ?_
     ·
      refine Al (Bh (σ:=(List Prt)×(List Opr)) (X:=(Option Addr×Nat)×(Option Addr×Nat)) (x0.ops.length) hL356 rfl l354 (fun (s357:(List Prt)×(List Opr)) (x358:(Option Addr×Nat)×(Option Addr×Nat))=>[(2,(.int .i64 x2)),(3,(.pointer (some ⟨g23,0,none⟩))),(6,(.pointer (some ⟨g28,0,none⟩))),(10,(.int .i64 (x0.vars.length:Int))),(11,(.pointer (some ⟨x81.1,0,none⟩))),(12,(.slice x358.1.1 s357.1.length x358.1.2)),(15,(.int .i64 (k326:Int))),(16,(.string a327)),(99,(.slice A21 x1.length c22)),(100,(.int .i64 (x1.length:Int))),(101,(.int .i64 (k326:Int))),(107,(.slice A19 x0.ops.length c20))]) _ (fun s357 x358 w'=>∃ O':Lab,Bs w A w' O'∧Lc 2 w' O' g23 26 [(.slice A10 x0.vars.length c11),(.slice A13 x0.init.length c14),(.slice A16 x0.goal.length c17),(.slice A19 x0.ops.length c20)]∧Vb w' (Fr 0 w' O') (.slice A10 x0.vars.length c11) x0.vars∧Vb w' (Fr 0 w' O') (.slice A13 x0.init.length c14) x0.init∧Vb w' (Fr 0 w' O') (.slice A16 x0.goal.length c17) x0.goal∧Vb w' (Fr 0 w' O') (.slice A19 x0.ops.length c20) x0.ops∧Lc 3 w' O' g28 26 [(.slice none 0 0),(.slice none 0 0),(.slice none 0 0),(.slice none 0 0)]∧Lc 7 w' O' x81.1 26 [(.slice x81.2.1.1 y78.1.length x81.2.1.2),(.slice x81.2.2.1.1 y78.2.1.length x81.2.2.1.2),(.slice x81.2.2.2.1 y78.2.2.length x81.2.2.2.2),(.slice x358.2.1 s357.2.length x358.2.2)]∧Rw 8 w' O' 3 (.slice x81.2.1.1 y78.1.length x81.2.1.2) y78.1∧Rw 9 w' O' 3 (.slice x81.2.2.1.1 y78.2.1.length x81.2.2.1.2) y78.2.1∧Rw 10 w' O' 62 (.slice x81.2.2.2.1 y78.2.2.length x81.2.2.2.2) y78.2.2∧NR Eff 14 w' O' 67 64 (.slice x358.2.1 s357.2.length x358.2.2) s357.2 none∧Rw 15 w' O' 74 (.slice x358.1.1 s357.1.length x358.1.2) s357.1∧Vb w' (Fr 0 w' O') (.slice A21 x1.length c22) x1) _ ((x325.1.1,x325.1.2),(x325.2.1,x325.2.2)) ⟨O329,hB,h27,h9,h12,h15,h18,h32,h82,h83,h85,h87,h343,h341,hx1⟩ ⟨rfl,rfl,rfl,rfl,rfl,rfl,rfl,rfl,rfl,rfl,rfl,rfl,rfl,rfl,trivial⟩ (fun _ _=>⟨rfl,rfl⟩) (fun _ _=>⟨rfl,rfl,rfl,rfl,rfl,rfl,rfl,rfl,rfl,rfl,trivial⟩) (fun _ _ _ ⟨O',hB,h27,h9,h12,h15,h18,h32,h82,h83,h85,h87,h376,h374,hx1⟩=>⟨O',hB,h27,h9,h12,h15,h18,h32,h82,h83,h85,h87,h376,h374,hx1⟩) ⟨rfl,rfl,rfl⟩ ⟨rfl,rfl⟩ ?_)
      rintro k359 a360 s357 x358 w361 cc363 hx364 ⟨O362,hB,h27,h9,h12,h15,h18,h32,h82,h83,h85,h87,h376,h374,hx1⟩ hf365 hret366 hbrk367
      have rk359:inI64 (k359:Int):=rngK hx364 l354
      refine Ah (Ae (o_mv rfl rfl ?_))
      obtain ⟨b378,o379,ce380,hA381,hl382,hd383,v385,v386,rfl,h387,h390,r393,z394⟩:=h18.elem' hx364
      obtain ⟨A388,c389,rfl⟩:=h387.form
      obtain ⟨A391,c392,rfl⟩:=h390.form
      refine o_iaE (hA:=hA381) (hj:=rfl) (hlt:=hl382) rfl rfl rfl ?_
      refine o_la (hl:=rfl) (hc:=hd383) rfl rfl ?_
      refine AX 16 O362 rfl fun g395 w396 O397 S398 h399=>?_
      refine o_as rfl rfl (AK h399 rfl rfl rfl (Nat.le_of_ble_eq_true rfl) (by first|exact allOne rfl|simp [Value.cells,Value.oneCell',AI]) fun w400 S401 h399=>?_)
      replace h399:Lc 16 w400 O397 g395 67 [(.string a360.name),(.int .i64 a360.cost),(.slice A388 a360.pre.length c389),(.slice A391 a360.effs.length c392)]:=h399
      refine o_z ?_
      refine Ah (Ae (o_fa rfl rfl (o_ld (hc:=Blk.cell (i:=0) (h399.1) rfl) rfl rfl ?_)))
      refine o_mv rfl rfl (o_teS rfl rfl rfl (fun c402=>?_) fun c402=>?_)
      ·
       replace hf365:=ip hf365 c402
       refine o_z ?_
       refine Ar rfl ?_
       obtain ⟨q403,e404,hf365⟩:=bs hf365
       obtain ⟨u405,e406,hf365⟩:=bs hf365
       obtain ⟨u407,e408,hf365⟩:=bs hf365
       refine Be [(6,[17]),(7,[14,18]),(12,[15]),(14,[7])] O397 ?_
       refine x_pre (fuel:=13) [] [(2,true),(3,true),(4,true)] (by kernel_rfl) rfl ?_
       refine h_laB (hl:=rfl) (hb:=fun w' ⟨O',hq⟩=>((h399.st hq (by decide)).1).cellsAt) rfl rfl rfl ?_
       refine h_mv rfl rfl rfl (h_mv rfl rfl rfl (AH ?_))
       refine x_pre (fuel:=11) [17] [(0,true),(1,true)] (by kernel_rfl) rfl ?_
       refine h_fa rfl rfl rfl ?_
       replace h82:=(h82.st S398).st S401
       refine h_ldC (hc:=fun w' ⟨O',hq⟩=>Blk.cell (i:=3) ((h82.st hq (by decide)).1) rfl) rfl rfl rfl ?_
       refine AH ?_
       refine x_pre (fuel:=8) [14,17,18] [(8,true),(9,true),(10,true)] (by kernel_rfl) rfl ?_
       refine h_mv rfl rfl rfl (h_mv rfl rfl rfl (h_bd rfl rfl rfl rfl ?_))
       refine AH ?_
       refine x_two (i:=5) (j:=11) (by kernel_rfl) rfl rfl ?_ ?_
       ·
        replace h387:=(h387.st S398).st S401
        replace h390:=(h390.st S398).st S401
        refine Gr 17 (by decide) (O:=O397) (Fe Fr.lt (Vb.ofAgg (cs:=[(.string a360.name),(.int .i64 a360.cost),(.slice A388 a360.pre.length c389),(.slice A391 a360.effs.length c392)]) (x:=a360) rfl ⟨_,_,rfl,h387,h390,r393,z394⟩) r62 rk326 e404) rfl rfl fun A414 c415 A416 c417 w409 O410 S411 h418 r419 z420 h421=>?_
        have hZ:=S411.lst [] (fun _ h=>h.elim)
        refine x_go [(6,[17]),(7,[14,18]),(12,[15]),(14,[7])] hZ (by kernel_rfl) ?_
        refine x_two (i:=6) (j:=11) (by kernel_rfl) rfl rfl ?_ ?_
        ·
         refine FM (β:=Eff) 18 (by decide) (j:=17) (cs:=[(.string q403.name),(.int .i64 q403.cost),(.slice A414 q403.pre.length c415),(.slice A416 q403.effs.length c417)]) (a:=q403) rfl rfl rfl rfl (by first|exact allOne rfl|simp [Value.oneCell',AI]) ⟨_,_,rfl,h418,(Vb.nil _ _),r419,z420⟩ rfl h421 (by decide) rfl (by decide) rfl fun g423 w424 O425 S426 h427=>?_
         have hZ:=S426.lst [17] (fun _ h=>by cases h;decide)
         refine x_go [(7,[14,18]),(12,[15]),(14,[7])] hZ (by kernel_rfl) ?_
         refine x_two (i:=7) (j:=11) (by kernel_rfl) rfl rfl ?_ ?_
         ·
          obtain ⟨e406,e429,e430⟩:=AO e406
          replace h376:=(((h376.st S398).st S401).st S411).st S426
          refine EH rfl h376 h427 (by decide) rfl rfl (by decide) e429 e430 rfl fun A431 c432 w433 O434 S435 h436=>?_
          rw [← e406] at h436 ⊢
          have hZ:=S435.lst [14,18] (by rintro _ (h|h)<;>cases h<;>decide)
          refine x_go [(12,[15]),(14,[7])] hZ (by kernel_rfl) ?_
          refine x_pre (fuel:=4) [15] [(13,true)] (by kernel_rfl) rfl ?_
          refine h_fa rfl rfl rfl (AH ?_)
          refine x_one (i:=11) (by kernel_rfl) rfl ?_
          refine Bd 19 (by decide) O434 (xs:=([(⟨(k359:Int)⟩:Prt)]:List Prt)) rfl rfl rfl rfl ⟨(Vb.ofAgg (cs:=[(.int .i64 (k359:Int))]) (x:=(⟨(k359:Int)⟩:Prt)) rfl ⟨rfl,rk359⟩),trivial⟩ (by decide) (by decide) rfl fun g438 w439 O440 S441 h442=>?_
          have hZ:=S441.lst [] (fun _ h=>h.elim)
          refine x_go [(12,[15]),(14,[7])] hZ (by kernel_rfl) ?_
          refine x_one (i:=12) (by kernel_rfl) rfl ?_
          obtain ⟨e408,e444,e445⟩:=AO e408
          replace h374:=(((((h374.st S398).st S401).st S411).st S426).st S435).st S441
          refine Bb rfl h374 (h442.rd) rfl rfl (by decide) e444 e445 rfl fun A446 c447 w448 O449 S450 h451=>?_
          rw [← e408] at h451 ⊢
          have hZ:=S450.lst [15] (fun _ h=>by cases h;decide)
          refine x_go [(14,[7])] hZ (by kernel_rfl) ?_
          refine x_one (i:=14) (by kernel_rfl) rfl ?_
          replace h82:=((((h82.st S411).st S426).st S435).st S441).st S450
          refine AK h82 rfl rfl rfl (Nat.le_of_ble_eq_true rfl) (by first|exact allOne rfl|simp [Value.cells,Value.oneCell',AI]) fun w453 S454 h82=>?_
          replace h82:Lc 7 w453 O449 x81.1 26 [(.slice x81.2.1.1 y78.1.length x81.2.1.2),(.slice x81.2.2.1.1 y78.2.1.length x81.2.2.1.2),(.slice x81.2.2.2.1 y78.2.2.length x81.2.2.2.2),(.slice A431 u405.length c432)]:=h82
          have hZ:=S454.lst [7] (fun _ h=>by cases h;decide)
          refine x_go [] hZ (by kernel_rfl) ?_
          refine x_pre (fuel:=0) [] [(15,true)] (by kernel_rfl) rfl ?_
          refine h_as rfl rfl rfl (AH ?_)
          refine x_nil (by kernel_rfl) ?_
          obtain rfl:=sm hf365
          refine (?_:Exists _)
          replace hB:=(((((((hB.st S398).st S401).st S411).st S426).st S435).st S441).st S450).st S454
          replace hx1:=(((((((hx1.st S398).st S401).st S411).st S426).st S435).st S441).st S450).st S454
          replace h9:=(((((((h9.st S398).st S401).st S411).st S426).st S435).st S441).st S450).st S454
          replace h12:=(((((((h12.st S398).st S401).st S411).st S426).st S435).st S441).st S450).st S454
          replace h15:=(((((((h15.st S398).st S401).st S411).st S426).st S435).st S441).st S450).st S454
          replace h18:=(((((((h18.st S398).st S401).st S411).st S426).st S435).st S441).st S450).st S454
          replace h27:=(((((((h27.st S398).st S401).st S411).st S426).st S435).st S441).st S450).st S454
          replace h32:=(((((((h32.st S398).st S401).st S411).st S426).st S435).st S441).st S450).st S454
          replace h83:=(((((((h83.st S398).st S401).st S411).st S426).st S435).st S441).st S450).st S454
          replace h85:=(((((((h85.st S398).st S401).st S411).st S426).st S435).st S441).st S450).st S454
          replace h87:=(((((((h87.st S398).st S401).st S411).st S426).st S435).st S441).st S450).st S454
          replace h436:=((h436.st S441).st S450).st S454
          replace h451:=h451.st S454
          exact ⟨_,((A446,c447),(A431,c432)),rfl,⟨rfl,rfl,rfl,rfl,rfl,rfl,rfl,rfl,rfl,rfl,rfl,rfl,rfl,rfl,trivial⟩,_,hB,h27,h9,h12,h15,h18,h32,h82,h83,h85,h87,h436,h451,hx1⟩
         ·
          refine Bd 19 (by decide) O425 (xs:=([(⟨(k359:Int)⟩:Prt)]:List Prt)) rfl rfl rfl rfl ⟨(Vb.ofAgg (cs:=[(.int .i64 (k359:Int))]) (x:=(⟨(k359:Int)⟩:Prt)) rfl ⟨rfl,rk359⟩),trivial⟩ (by decide) (by decide) rfl fun g455 w456 O457 S458 h459=>?_
          have hZ:=S458.lst [] (fun _ h=>h.elim)
          refine x_go [(7,[14,18]),(12,[15]),(14,[7])] hZ (by kernel_rfl) ?_
          refine x_one (i:=7) (by kernel_rfl) rfl ?_
          obtain ⟨e406,e461,e462⟩:=AO e406
          replace h376:=((((h376.st S398).st S401).st S411).st S426).st S458
          replace h427:=h427.st S458
          refine EH rfl h376 h427 (by decide) rfl rfl (by decide) e461 e462 rfl fun A463 c464 w465 O466 S467 h468=>?_
          rw [← e406] at h468 ⊢
          have hZ:=S467.lst [14,18] (by rintro _ (h|h)<;>cases h<;>decide)
          refine x_go [(12,[15]),(14,[7])] hZ (by kernel_rfl) ?_
          refine x_pre (fuel:=3) [15] [(13,true)] (by kernel_rfl) rfl ?_
          refine h_fa rfl rfl rfl (AH ?_)
          refine x_one (i:=12) (by kernel_rfl) rfl ?_
          obtain ⟨e408,e470,e471⟩:=AO e408
          replace h374:=(((((h374.st S398).st S401).st S411).st S426).st S458).st S467
          replace h459:=h459.st S467
          refine Bb rfl h374 (h459.rd) rfl rfl (by decide) e470 e471 rfl fun A472 c473 w474 O475 S476 h477=>?_
          rw [← e408] at h477 ⊢
          have hZ:=S476.lst [15] (fun _ h=>by cases h;decide)
          refine x_go [(14,[7])] hZ (by kernel_rfl) ?_
          refine x_one (i:=14) (by kernel_rfl) rfl ?_
          replace h82:=((((h82.st S411).st S426).st S458).st S467).st S476
          refine AK h82 rfl rfl rfl (Nat.le_of_ble_eq_true rfl) (by first|exact allOne rfl|simp [Value.cells,Value.oneCell',AI]) fun w479 S480 h82=>?_
          replace h82:Lc 7 w479 O475 x81.1 26 [(.slice x81.2.1.1 y78.1.length x81.2.1.2),(.slice x81.2.2.1.1 y78.2.1.length x81.2.2.1.2),(.slice x81.2.2.2.1 y78.2.2.length x81.2.2.2.2),(.slice A463 u405.length c464)]:=h82
          have hZ:=S480.lst [7] (fun _ h=>by cases h;decide)
          refine x_go [] hZ (by kernel_rfl) ?_
          refine x_pre (fuel:=0) [] [(15,true)] (by kernel_rfl) rfl ?_
          refine h_as rfl rfl rfl (AH ?_)
          refine x_nil (by kernel_rfl) ?_
          obtain rfl:=sm hf365
          refine (?_:Exists _)
          replace hB:=(((((((hB.st S398).st S401).st S411).st S426).st S458).st S467).st S476).st S480
          replace hx1:=(((((((hx1.st S398).st S401).st S411).st S426).st S458).st S467).st S476).st S480
          replace h9:=(((((((h9.st S398).st S401).st S411).st S426).st S458).st S467).st S476).st S480
          replace h12:=(((((((h12.st S398).st S401).st S411).st S426).st S458).st S467).st S476).st S480
          replace h15:=(((((((h15.st S398).st S401).st S411).st S426).st S458).st S467).st S476).st S480
          replace h18:=(((((((h18.st S398).st S401).st S411).st S426).st S458).st S467).st S476).st S480
          replace h27:=(((((((h27.st S398).st S401).st S411).st S426).st S458).st S467).st S476).st S480
          replace h32:=(((((((h32.st S398).st S401).st S411).st S426).st S458).st S467).st S476).st S480
          replace h83:=(((((((h83.st S398).st S401).st S411).st S426).st S458).st S467).st S476).st S480
          replace h85:=(((((((h85.st S398).st S401).st S411).st S426).st S458).st S467).st S476).st S480
          replace h87:=(((((((h87.st S398).st S401).st S411).st S426).st S458).st S467).st S476).st S480
          replace h468:=(h468.st S476).st S480
          replace h477:=h477.st S480
          exact ⟨_,((A472,c473),(A463,c464)),rfl,⟨rfl,rfl,rfl,rfl,rfl,rfl,rfl,rfl,rfl,rfl,rfl,rfl,rfl,rfl,trivial⟩,_,hB,h27,h9,h12,h15,h18,h32,h82,h83,h85,h87,h468,h477,hx1⟩
        ·
         refine Bd 19 (by decide) O410 (xs:=([(⟨(k359:Int)⟩:Prt)]:List Prt)) rfl rfl rfl rfl ⟨(Vb.ofAgg (cs:=[(.int .i64 (k359:Int))]) (x:=(⟨(k359:Int)⟩:Prt)) rfl ⟨rfl,rk359⟩),trivial⟩ (by decide) (by decide) rfl fun g481 w482 O483 S484 h485=>?_
         have hZ:=S484.lst [] (fun _ h=>h.elim)
         refine x_go [(6,[17]),(7,[14,18]),(12,[15]),(14,[7])] hZ (by kernel_rfl) ?_
         refine x_one (i:=6) (by kernel_rfl) rfl ?_
         replace h418:=h418.st S484
         replace h421:=h421.st S484
         refine FM (β:=Eff) 18 (by decide) (j:=17) (cs:=[(.string q403.name),(.int .i64 q403.cost),(.slice A414 q403.pre.length c415),(.slice A416 q403.effs.length c417)]) (a:=q403) rfl rfl rfl rfl (by first|exact allOne rfl|simp [Value.oneCell',AI]) ⟨_,_,rfl,h418,(Vb.nil _ _),r419,z420⟩ rfl h421 (by decide) rfl (by decide) rfl fun g487 w488 O489 S490 h491=>?_
         have hZ:=S490.lst [17] (fun _ h=>by cases h;decide)
         refine x_go [(7,[14,18]),(12,[15]),(14,[7])] hZ (by kernel_rfl) ?_
         refine x_one (i:=7) (by kernel_rfl) rfl ?_
         obtain ⟨e406,e493,e494⟩:=AO e406
         replace h376:=((((h376.st S398).st S401).st S411).st S484).st S490
         refine EH rfl h376 h491 (by decide) rfl rfl (by decide) e493 e494 rfl fun A495 c496 w497 O498 S499 h500=>?_
         rw [← e406] at h500 ⊢
         have hZ:=S499.lst [14,18] (by rintro _ (h|h)<;>cases h<;>decide)
         refine x_go [(12,[15]),(14,[7])] hZ (by kernel_rfl) ?_
         refine x_pre (fuel:=3) [15] [(13,true)] (by kernel_rfl) rfl ?_
         refine h_fa rfl rfl rfl (AH ?_)
         refine x_one (i:=12) (by kernel_rfl) rfl ?_
         obtain ⟨e408,e502,e503⟩:=AO e408
         replace h374:=(((((h374.st S398).st S401).st S411).st S484).st S490).st S499
         replace h485:=(h485.st S490).st S499
         refine Bb rfl h374 (h485.rd) rfl rfl (by decide) e502 e503 rfl fun A504 c505 w506 O507 S508 h509=>?_
         rw [← e408] at h509 ⊢
         have hZ:=S508.lst [15] (fun _ h=>by cases h;decide)
         refine x_go [(14,[7])] hZ (by kernel_rfl) ?_
         refine x_one (i:=14) (by kernel_rfl) rfl ?_
         replace h82:=((((h82.st S411).st S484).st S490).st S499).st S508
         refine AK h82 rfl rfl rfl (Nat.le_of_ble_eq_true rfl) (by first|exact allOne rfl|simp [Value.cells,Value.oneCell',AI]) fun w511 S512 h82=>?_
         replace h82:Lc 7 w511 O507 x81.1 26 [(.slice x81.2.1.1 y78.1.length x81.2.1.2),(.slice x81.2.2.1.1 y78.2.1.length x81.2.2.1.2),(.slice x81.2.2.2.1 y78.2.2.length x81.2.2.2.2),(.slice A495 u405.length c496)]:=h82
         have hZ:=S512.lst [7] (fun _ h=>by cases h;decide)
         refine x_go [] hZ (by kernel_rfl) ?_
         refine x_pre (fuel:=0) [] [(15,true)] (by kernel_rfl) rfl ?_
         refine h_as rfl rfl rfl (AH ?_)
         refine x_nil (by kernel_rfl) ?_
         obtain rfl:=sm hf365
         refine (?_:Exists _)
         replace hB:=(((((((hB.st S398).st S401).st S411).st S484).st S490).st S499).st S508).st S512
         replace hx1:=(((((((hx1.st S398).st S401).st S411).st S484).st S490).st S499).st S508).st S512
         replace h9:=(((((((h9.st S398).st S401).st S411).st S484).st S490).st S499).st S508).st S512
         replace h12:=(((((((h12.st S398).st S401).st S411).st S484).st S490).st S499).st S508).st S512
         replace h15:=(((((((h15.st S398).st S401).st S411).st S484).st S490).st S499).st S508).st S512
         replace h18:=(((((((h18.st S398).st S401).st S411).st S484).st S490).st S499).st S508).st S512
         replace h27:=(((((((h27.st S398).st S401).st S411).st S484).st S490).st S499).st S508).st S512
         replace h32:=(((((((h32.st S398).st S401).st S411).st S484).st S490).st S499).st S508).st S512
         replace h83:=(((((((h83.st S398).st S401).st S411).st S484).st S490).st S499).st S508).st S512
         replace h85:=(((((((h85.st S398).st S401).st S411).st S484).st S490).st S499).st S508).st S512
         replace h87:=(((((((h87.st S398).st S401).st S411).st S484).st S490).st S499).st S508).st S512
         replace h500:=(h500.st S508).st S512
         replace h509:=h509.st S512
         exact ⟨_,((A504,c505),(A495,c496)),rfl,⟨rfl,rfl,rfl,rfl,rfl,rfl,rfl,rfl,rfl,rfl,rfl,rfl,rfl,rfl,trivial⟩,_,hB,h27,h9,h12,h15,h18,h32,h82,h83,h85,h87,h500,h509,hx1⟩
       ·
        refine Bd 19 (by decide) O397 (xs:=([(⟨(k359:Int)⟩:Prt)]:List Prt)) rfl rfl rfl rfl ⟨(Vb.ofAgg (cs:=[(.int .i64 (k359:Int))]) (x:=(⟨(k359:Int)⟩:Prt)) rfl ⟨rfl,rk359⟩),trivial⟩ (by decide) (by decide) rfl fun g513 w514 O515 S516 h517=>?_
        have hZ:=S516.lst [] (fun _ h=>h.elim)
        refine x_go [(6,[17]),(7,[14,18]),(12,[15]),(14,[7])] hZ (by kernel_rfl) ?_
        refine x_one (i:=5) (by kernel_rfl) rfl ?_
        replace h387:=((h387.st S398).st S401).st S516
        replace h390:=((h390.st S398).st S401).st S516
        refine Gr 17 (by decide) (O:=O515) (Fe Fr.lt (Vb.ofAgg (cs:=[(.string a360.name),(.int .i64 a360.cost),(.slice A388 a360.pre.length c389),(.slice A391 a360.effs.length c392)]) (x:=a360) rfl ⟨_,_,rfl,h387,h390,r393,z394⟩) r62 rk326 e404) rfl rfl fun A524 c525 A526 c527 w519 O520 S521 h528 r529 z530 h531=>?_
        have hZ:=S521.lst [] (fun _ h=>h.elim)
        refine x_go [(6,[17]),(7,[14,18]),(12,[15]),(14,[7])] hZ (by kernel_rfl) ?_
        refine x_one (i:=6) (by kernel_rfl) rfl ?_
        refine FM (β:=Eff) 18 (by decide) (j:=17) (cs:=[(.string q403.name),(.int .i64 q403.cost),(.slice A524 q403.pre.length c525),(.slice A526 q403.effs.length c527)]) (a:=q403) rfl rfl rfl rfl (by first|exact allOne rfl|simp [Value.oneCell',AI]) ⟨_,_,rfl,h528,(Vb.nil _ _),r529,z530⟩ rfl h531 (by decide) rfl (by decide) rfl fun g533 w534 O535 S536 h537=>?_
        have hZ:=S536.lst [17] (fun _ h=>by cases h;decide)
        refine x_go [(7,[14,18]),(12,[15]),(14,[7])] hZ (by kernel_rfl) ?_
        refine x_one (i:=7) (by kernel_rfl) rfl ?_
        obtain ⟨e406,e539,e540⟩:=AO e406
        replace h376:=((((h376.st S398).st S401).st S516).st S521).st S536
        refine EH rfl h376 h537 (by decide) rfl rfl (by decide) e539 e540 rfl fun A541 c542 w543 O544 S545 h546=>?_
        rw [← e406] at h546 ⊢
        have hZ:=S545.lst [14,18] (by rintro _ (h|h)<;>cases h<;>decide)
        refine x_go [(12,[15]),(14,[7])] hZ (by kernel_rfl) ?_
        refine x_pre (fuel:=3) [15] [(13,true)] (by kernel_rfl) rfl ?_
        refine h_fa rfl rfl rfl (AH ?_)
        refine x_one (i:=12) (by kernel_rfl) rfl ?_
        obtain ⟨e408,e548,e549⟩:=AO e408
        replace h374:=(((((h374.st S398).st S401).st S516).st S521).st S536).st S545
        replace h517:=((h517.st S521).st S536).st S545
        refine Bb rfl h374 (h517.rd) rfl rfl (by decide) e548 e549 rfl fun A550 c551 w552 O553 S554 h555=>?_
        rw [← e408] at h555 ⊢
        have hZ:=S554.lst [15] (fun _ h=>by cases h;decide)
        refine x_go [(14,[7])] hZ (by kernel_rfl) ?_
        refine x_one (i:=14) (by kernel_rfl) rfl ?_
        replace h82:=((((h82.st S516).st S521).st S536).st S545).st S554
        refine AK h82 rfl rfl rfl (Nat.le_of_ble_eq_true rfl) (by first|exact allOne rfl|simp [Value.cells,Value.oneCell',AI]) fun w557 S558 h82=>?_
        replace h82:Lc 7 w557 O553 x81.1 26 [(.slice x81.2.1.1 y78.1.length x81.2.1.2),(.slice x81.2.2.1.1 y78.2.1.length x81.2.2.1.2),(.slice x81.2.2.2.1 y78.2.2.length x81.2.2.2.2),(.slice A541 u405.length c542)]:=h82
        have hZ:=S558.lst [7] (fun _ h=>by cases h;decide)
        refine x_go [] hZ (by kernel_rfl) ?_
        refine x_pre (fuel:=0) [] [(15,true)] (by kernel_rfl) rfl ?_
        refine h_as rfl rfl rfl (AH ?_)
        refine x_nil (by kernel_rfl) ?_
        obtain rfl:=sm hf365
        refine (?_:Exists _)
        replace hB:=(((((((hB.st S398).st S401).st S516).st S521).st S536).st S545).st S554).st S558
        replace hx1:=(((((((hx1.st S398).st S401).st S516).st S521).st S536).st S545).st S554).st S558
        replace h9:=(((((((h9.st S398).st S401).st S516).st S521).st S536).st S545).st S554).st S558
        replace h12:=(((((((h12.st S398).st S401).st S516).st S521).st S536).st S545).st S554).st S558
        replace h15:=(((((((h15.st S398).st S401).st S516).st S521).st S536).st S545).st S554).st S558
        replace h18:=(((((((h18.st S398).st S401).st S516).st S521).st S536).st S545).st S554).st S558
        replace h27:=(((((((h27.st S398).st S401).st S516).st S521).st S536).st S545).st S554).st S558
        replace h32:=(((((((h32.st S398).st S401).st S516).st S521).st S536).st S545).st S554).st S558
        replace h83:=(((((((h83.st S398).st S401).st S516).st S521).st S536).st S545).st S554).st S558
        replace h85:=(((((((h85.st S398).st S401).st S516).st S521).st S536).st S545).st S554).st S558
        replace h87:=(((((((h87.st S398).st S401).st S516).st S521).st S536).st S545).st S554).st S558
        replace h546:=(h546.st S554).st S558
        replace h555:=h555.st S558
        exact ⟨_,((A550,c551),(A541,c542)),rfl,⟨rfl,rfl,rfl,rfl,rfl,rfl,rfl,rfl,rfl,rfl,rfl,rfl,rfl,rfl,trivial⟩,_,hB,h27,h9,h12,h15,h18,h32,h82,h83,h85,h87,h546,h555,hx1⟩
      ·
       replace hf365:=im hf365 c402
       refine o_z ?_
       refine Aj rfl (Am ?_)
       obtain rfl:=sm hf365
       refine (?_:Exists _)
       replace hB:=(hB.st S398).st S401
       replace hx1:=(hx1.st S398).st S401
       replace h9:=(h9.st S398).st S401
       replace h12:=(h12.st S398).st S401
       replace h15:=(h15.st S398).st S401
       replace h18:=(h18.st S398).st S401
       replace h27:=(h27.st S398).st S401
       replace h32:=(h32.st S398).st S401
       replace h82:=(h82.st S398).st S401
       replace h83:=(h83.st S398).st S401
       replace h85:=(h85.st S398).st S401
       replace h87:=(h87.st S398).st S401
       replace h374:=(h374.st S398).st S401
       replace h376:=(h376.st S398).st S401
       exact ⟨_,((x358.1.1,x358.1.2),(x358.2.1,x358.2.2)),rfl,⟨rfl,rfl,rfl,rfl,rfl,rfl,rfl,rfl,rfl,rfl,rfl,rfl,rfl,rfl,trivial⟩,_,hB,h27,h9,h12,h15,h18,h32,h82,h83,h85,h87,h376,h374,hx1⟩
     rintro l559 w560 ⟨s563,x564,rfl,hs562,O561,hB,h27,h9,h12,h15,h18,h32,h82,h83,h85,h87,h376,h374,hx1⟩
     replace hf332:=AR hf332
     refine AM _ hs562 ?_
     refine Ah (Be [(7,[20]),(8,[14,21])] O561 ?_)
     refine x_pre (fuel:=7) [] [(2,true),(3,true),(4,true),(5,true)] (by kernel_rfl) rfl ?_
     refine h_mv rfl rfl rfl (h_bd rfl rfl rfl rfl ?_)
     refine h_mv rfl rfl rfl (h_mv rfl rfl rfl (AH ?_))
     refine x_pre (fuel:=5) [20] [(0,true),(1,true)] (by kernel_rfl) rfl ?_
     refine h_fa rfl rfl rfl (h_ldC (hc:=fun w' ⟨O',hq⟩=>Blk.cell (i:=3) ((h82.st hq (by decide)).1) rfl) rfl rfl rfl ?_)
     refine AH ?_
     refine x_one (i:=6) (by kernel_rfl) rfl ?_
     obtain ⟨q565,e566,hf332⟩:=bs hf332
     refine Gr 20 (by decide) (O:=O561) (Fe Fr.lt (Vb.ofAgg (cs:=[(.string (⟨#[]⟩:ByteArray)),(.int .i64 x2),(.slice none 0 0),(.slice none 0 0)]) (x:=(⟨(⟨#[]⟩:ByteArray),x2,([]:List Fct),([]:List Eff)⟩:Opr)) rfl ⟨_,_,rfl,(Vb.nil _ _),(Vb.nil _ _),rx2,(show (⟨#[]⟩:ByteArray).size≤9223372036854775807 from by decide)⟩) r62 rk326 e566) rfl rfl fun A572 c573 A574 c575 w567 O568 S569 h576 r577 z578 h579=>?_
     have hZ:=S569.lst [] (fun _ h=>h.elim)
     refine x_go [(7,[20]),(8,[14,21])] hZ (by kernel_rfl) ?_
     refine x_one (i:=7) (by kernel_rfl) rfl ?_
     refine FM (β:=Eff) 21 (by decide) (j:=20) (cs:=[(.string q565.name),(.int .i64 q565.cost),(.slice A572 q565.pre.length c573),(.slice A574 q565.effs.length c575)]) (a:=q565) rfl rfl rfl rfl (by first|exact allOne rfl|simp [Value.oneCell',AI]) ⟨_,_,rfl,h576,(Vb.nil _ _),r577,z578⟩ rfl h579 (by decide) rfl (by decide) rfl fun g581 w582 O583 S584 h585=>?_
     have hZ:=S584.lst [20] (fun _ h=>by cases h;decide)
     refine x_go [(8,[14,21])] hZ (by kernel_rfl) ?_
     refine x_one (i:=8) (by kernel_rfl) rfl ?_
     obtain ⟨u587,e588,hf332⟩:=bs hf332
     obtain ⟨e588,e589,e590⟩:=AO e588
     replace h376:=(h376.st S569).st S584
     refine EH rfl h376 h585 (by decide) rfl rfl (by decide) e589 e590 rfl fun A591 c592 w593 O594 S595 h596=>?_
     rw [← e588] at h596 ⊢
     have hZ:=S595.lst [14,21] (by rintro _ (h|h)<;>cases h<;>decide)
     refine x_go [] hZ (by kernel_rfl) ?_
     refine x_pre (fuel:=1) [] [(9,true)] (by kernel_rfl) rfl ?_
     refine h_fa rfl rfl rfl (AH ?_)
     refine x_one (i:=10) (by kernel_rfl) rfl ?_
     replace h82:=((h82.st S569).st S584).st S595
     refine AK h82 rfl rfl rfl (Nat.le_of_ble_eq_true rfl) (by first|exact allOne rfl|simp [Value.cells,Value.oneCell',AI]) fun w598 S599 h82=>?_
     replace h82:Lc 7 w598 O594 x81.1 26 [(.slice x81.2.1.1 y78.1.length x81.2.1.2),(.slice x81.2.2.1.1 y78.2.1.length x81.2.2.1.2),(.slice x81.2.2.2.1 y78.2.2.length x81.2.2.2.2),(.slice A591 u587.length c592)]:=h82
     refine x_end (by kernel_rfl) ?_
     refine x_nil (by kernel_rfl) ?_
     refine Ah (Ae (o_mv rfl rfl (o_bd rfl rfl rfl ?_)))
     obtain ⟨u600,e601,hf332⟩:=bs hf332
     obtain ⟨e601,e602,e603⟩:=AO e601
     replace h374:=(((h374.st S569).st S584).st S595).st S599
     refine CB rfl (a:=(⟨(-1)⟩:Prt)) h374 (Vb.ofAgg (cs:=[(.int .i64 (-1))]) (x:=(⟨(-1)⟩:Prt)) rfl ⟨rfl,(show inI64 (-1) from by decide)⟩) (fun _=>rfl) rfl (by decide) (by decide) e602 e603 ⟨rfl,rfl⟩ fun g604 A605 c606 w607 O608 S609 h610=>?_
     rw [← e601] at h610 ⊢
     refine o_as rfl rfl (o_z ?_)
     refine Ah (Ae (o_fa rfl rfl ?_))
     replace h82:=h82.st S609
     refine o_ld (hc:=Blk.cell (i:=3) (h82.1) rfl) rfl rfl ?_
     refine o_ln rfl rfl ?_
     replace h596:=(h596.st S599).st S609
     have l613:u587.length≤9223372036854775807:=Nat.le_trans h596.len.2.1 h596.len.2.2
     have r612:inI64 (u587.length:Int):=rngNat l613
     refine o_gtS rfl rfl rfl (fun c614=>?_) fun c614=>?_
     ·
      replace hf332:=ip hf332 c614
      refine o_z ?_
      refine Ar rfl (Au ?_)
      obtain rfl:=sm hf332
      refine (?_:Exists _)
      replace hB:=((((hB.st S569).st S584).st S595).st S599).st S609
      replace h32:=((((h32.st S569).st S584).st S595).st S599).st S609
      replace h83:=((((h83.st S569).st S584).st S595).st S599).st S609
      replace h85:=((((h85.st S569).st S584).st S595).st S599).st S609
      replace h87:=((((h87.st S569).st S584).st S595).st S599).st S609
      exact ⟨_,((A605,c606),(A591,c592)),hbrk334 _ rfl,⟨rfl,rfl,rfl,trivial⟩,_,hB,h32,h82,h83,h85,h87,h596,h610⟩
     ·
      replace hf332:=im hf332 c614
      refine o_z ?_
      refine Aj rfl (Am ?_)
      obtain rfl:=sm hf332
      refine (?_:Exists _)
      replace hB:=((((hB.st S569).st S584).st S595).st S599).st S609
      replace hx1:=((((hx1.st S569).st S584).st S595).st S599).st S609
      replace h9:=((((h9.st S569).st S584).st S595).st S599).st S609
      replace h12:=((((h12.st S569).st S584).st S595).st S599).st S609
      replace h15:=((((h15.st S569).st S584).st S595).st S599).st S609
      replace h18:=((((h18.st S569).st S584).st S595).st S599).st S609
      replace h27:=((((h27.st S569).st S584).st S595).st S599).st S609
      replace h32:=((((h32.st S569).st S584).st S595).st S599).st S609
      replace h83:=((((h83.st S569).st S584).st S595).st S599).st S609
      replace h85:=((((h85.st S569).st S584).st S595).st S599).st S609
      replace h87:=((((h87.st S569).st S584).st S595).st S599).st S609
      exact ⟨_,((A605,c606),(A591,c592)),rfl,⟨rfl,rfl,rfl,rfl,rfl,rfl,rfl,rfl,rfl,trivial⟩,_,hB,h27,h9,h12,h15,h18,h32,h82,h83,h85,h87,h596,h610,hx1⟩
    rintro l615 w616 ⟨s619,x620,rfl,hs618,O617,hB,h32,h82,h83,h85,h87,h343,h341⟩
    replace hm:=AR hm
    refine AM _ hs618 ?_
    refine Ah (Ah (Ae (o_fa rfl rfl (o_ld (hc:=Blk.cell (i:=3) (h82.1) rfl) rfl rfl ?_))))
    refine o_ln rfl rfl ?_
    have l622:s619.2.length≤9223372036854775807:=Nat.le_trans h343.len.2.1 h343.len.2.2
    have r621:inI64 (s619.2.length:Int):=rngNat l622
    refine o_mv rfl rfl (o_z ?_)
    obtain ⟨res623,hL624,hm⟩:=bs hm
    refine AL (aft res623 (fun (s625:(List Opr)) (x626:Unit)=>[(6,(.pointer (some ⟨g28,0,none⟩))),(11,(.pointer (some ⟨x81.1,0,none⟩))),(12,(.slice x620.1.1 s619.1.length x620.1.2))]) (fun s625 x626 w'=>∃ O':Lab,Bs w A w' O'∧Lc 3 w' O' g28 26 [(.slice none 0 0),(.slice none 0 0),(.slice none 0 0),(.slice none 0 0)]∧Lc 7 w' O' x81.1 26 [(.slice x81.2.1.1 y78.1.length x81.2.1.2),(.slice x81.2.2.1.1 y78.2.1.length x81.2.2.1.2),(.slice x81.2.2.2.1 y78.2.2.length x81.2.2.2.2),(.slice x620.2.1 s619.2.length x620.2.2)]∧Rw 8 w' O' 3 (.slice x81.2.1.1 y78.1.length x81.2.1.2) y78.1∧Rw 9 w' O' 3 (.slice x81.2.2.1.1 y78.2.1.length x81.2.2.1.2) y78.2.1∧Rw 10 w' O' 62 (.slice x81.2.2.2.1 y78.2.2.length x81.2.2.2.2) y78.2.2∧NR Eff 14 w' O' 67 64 (.slice x620.2.1 s619.2.length x620.2.2) s625 none∧Rw 15 w' O' 74 (.slice x620.1.1 s619.1.length x620.1.2) s619.1)) ?_ ?_
    ·
     refine Al (Gn (σ:=(List Opr)) (X:=Unit) (s619.2.length) hL624 l622 (fun (s625:(List Opr)) (x626:Unit)=>[(6,(.pointer (some ⟨g28,0,none⟩))),(11,(.pointer (some ⟨x81.1,0,none⟩))),(12,(.slice x620.1.1 s619.1.length x620.1.2))]) _ (fun s625 x626 w'=>∃ O':Lab,Bs w A w' O'∧Lc 3 w' O' g28 26 [(.slice none 0 0),(.slice none 0 0),(.slice none 0 0),(.slice none 0 0)]∧Lc 7 w' O' x81.1 26 [(.slice x81.2.1.1 y78.1.length x81.2.1.2),(.slice x81.2.2.1.1 y78.2.1.length x81.2.2.1.2),(.slice x81.2.2.2.1 y78.2.2.length x81.2.2.2.2),(.slice x620.2.1 s619.2.length x620.2.2)]∧Rw 8 w' O' 3 (.slice x81.2.1.1 y78.1.length x81.2.1.2) y78.1∧Rw 9 w' O' 3 (.slice x81.2.2.1.1 y78.2.1.length x81.2.2.1.2) y78.2.1∧Rw 10 w' O' 62 (.slice x81.2.2.2.1 y78.2.2.length x81.2.2.2.2) y78.2.2∧NR Eff 14 w' O' 67 64 (.slice x620.2.1 s619.2.length x620.2.2) s625 none∧Rw 15 w' O' 74 (.slice x620.1.1 s619.1.length x620.1.2) s619.1) _ () ⟨O617,hB,h32,h82,h83,h85,h87,h343,h341⟩ ⟨rfl,rfl,rfl,rfl,rfl,trivial⟩ (fun _ _=>⟨rfl,rfl⟩) (fun _ _=>⟨rfl,rfl,rfl,trivial⟩) (fun _ _ _ ⟨O',hB,h32,h82,h83,h85,h87,h644,h341⟩=>⟨O',hB,h32,h82,h83,h85,h87,h644,h341⟩) ⟨rfl,rfl,rfl⟩ ⟨rfl,rfl⟩ ?_)
     rintro k627 s625 x626 w629 cc631 hx632 ⟨O630,hB,h32,h82,h83,h85,h87,h644,h341⟩ hf633 hret634 hbrk635
     have rk627:inI64 (k627:Int):=rngKN hx632 l622
     refine Ah (Ae (o_mv rfl rfl (o_as rfl rfl (o_z ?_))))
     refine Be [(9,[14,25])] O630 ?_
     refine x_pre (fuel:=7) [] [(3,true),(4,true),(5,true),(6,true),(7,true),(8,true)] (by kernel_rfl) rfl ?_
     refine h_fa rfl rfl rfl (h_ldC (hc:=fun w' ⟨O',hq⟩=>Blk.cell (i:=3) ((h82.st hq (by decide)).1) rfl) rfl rfl rfl ?_)
     refine h_mv rfl rfl rfl ?_
     obtain ⟨a646,e647,hf633⟩:=bs hf633
     obtain ⟨b648,o649,hA651,hl652⟩:=h644.at e647
     refine h_iaE (hA:=hA651) (hj:=rfl) (hlt:=hl652) rfl rfl rfl rfl ?_
     refine h_fa rfl rfl rfl ?_
     obtain ⟨A655,c656,hc657,h658⟩:=NR.peek h644 hA651 e647
     replace h658:Vb w629 (FrS [14] w629 O630) (.slice A655 a646.effs.length c656) a646.effs:=h658
     refine h_ldC (hc:=fun w' ⟨O',hq⟩=>NR.stay h644 hA651 hq (by decide) hc657) rfl rfl rfl ?_
     refine AH ?_
     refine x_pre (fuel:=4) [14,25] [(0,true),(1,true),(2,true)] (by kernel_rfl) rfl ?_
     refine h_fa rfl rfl rfl (h_ldC (hc:=fun w' ⟨O',hq⟩=>Blk.cell (i:=3) ((h82.st hq (by decide)).1) rfl) rfl rfl rfl ?_)
     refine h_mv rfl rfl rfl (AH ?_)
     refine x_one (i:=9) (by kernel_rfl) rfl ?_
     obtain ⟨O659,S660,h644,h661⟩:=NR.take' h644 hA651 e647 hc657 25 (by decide) (by decide)
     replace h661:Rw 25 w629 O659 64 (.slice A655 a646.effs.length c656) a646.effs:=h661
     have hZ:=S660.lst [14] (fun _ h=>by cases h;decide)
     obtain ⟨q663,e664,hf633⟩:=bs hf633
     refine BA (O:=O659) (GQ h661 e664) rfl rfl fun v669 w665 O666 S667 h668=>?_
     obtain ⟨h670,rfl⟩:=h668
     replace hZ:=hZ.cmp S667 [14,25] (fun _ h=>by cases h;decide) rfl
     refine x_go [] hZ (by kernel_rfl) ?_
     refine x_pre (fuel:=1) [] [(10,true),(11,true)] (by kernel_rfl) rfl ?_
     obtain ⟨a671,e672,hf633⟩:=bs hf633
     replace h644:=h644.st S667
     obtain ⟨b673,o674,hA676,hl677⟩:=h644.at e672
     refine h_iaE (hA:=hA676) (hj:=rfl) (hlt:=hl677) rfl rfl rfl rfl ?_
     refine h_fa rfl rfl rfl (AH ?_)
     refine x_one (i:=12) (by kernel_rfl) rfl ?_
     refine LX (a:=a671) (off:=3) h644 h670 (by decide) hA676 e672 rfl rfl rfl rfl (by decide) fun w680 O681 S682 h683=>?_
     replace h683:NR Eff 14 w680 O681 67 64 (.slice x620.2.1 s619.2.length x620.2.2) (s625.set k627 ({ a671 with effs:=q663 }:Opr)) none:=h683
     refine x_end (by kernel_rfl) ?_
     refine x_nil (by kernel_rfl) ?_
     obtain rfl:=sm hf633
     refine (?_:Exists _)
     replace hB:=((hB.st S660).st S667).st S682
     replace h32:=((h32.st S660).st S667).st S682
     replace h82:=((h82.st S660).st S667).st S682
     replace h83:=((h83.st S660).st S667).st S682
     replace h85:=((h85.st S660).st S667).st S682
     replace h87:=((h87.st S660).st S667).st S682
     replace h341:=((h341.st S660).st S667).st S682
     exact ⟨_,(),rfl,⟨rfl,rfl,rfl,rfl,rfl,trivial⟩,_,hB,h32,h82,h83,h85,h87,h683,h341⟩
    rintro l684 w685 ⟨s688,x689,rfl,hs687,O686,hB,h32,h82,h83,h85,h87,h644,h341⟩
    replace hm:=AR hm
    refine AM _ hs687 ?_
    refine Ah (Ah (Ae (o_la (hl:=rfl) (hc:=(h82.1).cellsAt) rfl rfl ?_)))
    obtain ⟨O690,S691,h83⟩:=h83.freeze
    replace h85:=h85.st S691
    obtain ⟨O692,S693,h85⟩:=h85.freeze
    replace h87:=(h87.st S691).st S693
    obtain ⟨O694,S695,h87⟩:=h87.freeze
    replace h644:=((h644.st S691).st S693).st S695
    obtain ⟨O696,S697,h644⟩:=h644.freeze
    obtain ⟨q698,e699,hm⟩:=bs hm
    replace h83:=((h83.st S693).st S695).st S697
    replace h85:=(h85.st S695).st S697
    replace h87:=h87.st S697
    refine Bg (O:=O696) (A:=All w685) (R:=fun w' F v=>Vb w' F v q698) (He (fun _ h=>h) (Vb.mono (F:=Fr 0 w685 O696) (Vb.ofAgg (cs:=[(.slice x81.2.1.1 y78.1.length x81.2.1.2),(.slice x81.2.2.1.1 y78.2.1.length x81.2.2.1.2),(.slice x81.2.2.2.1 y78.2.2.length x81.2.2.2.2),(.slice x620.2.1 s619.2.length x620.2.2)]) (x:=(⟨y78.1,y78.2.1,y78.2.2,s688⟩:Tsk)) rfl ⟨_,_,_,_,rfl,h83,h85,h87,h644⟩) Fr.lt) e699) rfl rfl fun v704 w700 O701 S702 h703=>?_
    obtain ⟨rfl,r705⟩:=h703.err
    refine o_as rfl rfl (o_z ?_)
    refine Ah (Ae (o_mv rfl rfl (o_rnS rfl rfl (fun c706=>?_) fun c706=>?_)))
    ·
     replace hm:=ip hm c706
     refine o_z ?_
     refine Ar rfl (Ah (Ae (o_bd rfl rfl rfl ?_)))
     refine o_mv rfl rfl ?_
     replace h32:=((((h32.st S691).st S693).st S695).st S697).st S702
     refine AK h32 rfl rfl rfl (Nat.le_of_ble_eq_true rfl) (by first|exact allOne rfl|simp [Value.cells,Value.oneCell',AI]) fun w707 S708 h32=>?_
     replace h32:Lc 3 w707 O701 g28 26 [(.slice none 0 0),(.slice none 0 0),(.slice none 0 0),(.slice none 0 0)]:=h32
     refine o_as rfl rfl (o_as rfl rfl (o_z ?_))
     refine At ?_
     obtain rfl:=sm hm
     replace hB:=(((((hB.st S691).st S693).st S695).st S697).st S702).st S708
     exact ret3 rfl (Bf (cs:=[(.slice none 0 0),(.slice none 0 0),(.slice none 0 0),(.slice none 0 0)]) rfl rfl h32.1.cellsAt) (AF rfl) (AF rfl) ⟨hB.ext,_,_,_,rfl,(Vb.mono (F:=Fr 0 w707 O701) (Vb.ofAgg (cs:=[(.slice none 0 0),(.slice none 0 0),(.slice none 0 0),(.slice none 0 0)]) (x:=(⟨([]:List Int),([]:List Int),([]:List Fct),([]:List Opr)⟩:Tsk)) rfl ⟨_,_,_,_,rfl,(Vb.nil _ _),(Vb.nil _ _),(Vb.nil _ _),(Vb.nil _ _)⟩) hB.out),(Vb.mono (F:=Fr 0 w707 O701) (Vb.nil _ _) hB.out),(vErr r705)⟩
    ·
     replace hm:=im hm c706
     refine o_z ?_
     refine Aj rfl (Am (Ah (Ae ?_)))
     replace h82:=((((h82.st S691).st S693).st S695).st S697).st S702
     refine o_la (hl:=rfl) (hc:=(h82.1).cellsAt) rfl rfl ?_
     refine o_mv rfl rfl ?_
     replace h32:=((((h32.st S691).st S693).st S695).st S697).st S702
     refine AK h32 rfl rfl rfl (Nat.le_of_ble_eq_true rfl) (by first|exact allOne rfl|simp [Value.cells,Value.oneCell',AI]) fun w709 S710 h32=>?_
     replace h32:Lc 3 w709 O701 g28 26 [(.slice x81.2.1.1 y78.1.length x81.2.1.2),(.slice x81.2.2.1.1 y78.2.1.length x81.2.2.1.2),(.slice x81.2.2.2.1 y78.2.2.length x81.2.2.2.2),(.slice x620.2.1 s619.2.length x620.2.2)]:=h32
     refine o_as rfl rfl (o_as rfl rfl (o_z ?_))
     refine At ?_
     replace h341:=(((((h341.st S691).st S693).st S695).st S697).st S702).st S710
     obtain ⟨O711,S712,h341⟩:=h341.freeze
     obtain rfl:=sm hm
     replace hB:=((((((hB.st S691).st S693).st S695).st S697).st S702).st S710).st S712
     replace h32:=h32.st S712
     replace h83:=((h83.st S702).st S710).st S712
     replace h85:=((h85.st S702).st S710).st S712
     replace h87:=((h87.st S702).st S710).st S712
     replace h644:=((h644.st S702).st S710).st S712
     exact ret3 rfl (Bf (cs:=[(.slice x81.2.1.1 y78.1.length x81.2.1.2),(.slice x81.2.2.1.1 y78.2.1.length x81.2.2.1.2),(.slice x81.2.2.2.1 y78.2.2.length x81.2.2.2.2),(.slice x620.2.1 s619.2.length x620.2.2)]) rfl rfl h32.1.cellsAt) (AF rfl) (AF rfl) ⟨hB.ext,_,_,_,rfl,(Vb.mono (F:=Fr 0 w709 O711) (Vb.ofAgg (cs:=[(.slice x81.2.1.1 y78.1.length x81.2.1.2),(.slice x81.2.2.1.1 y78.2.1.length x81.2.2.1.2),(.slice x81.2.2.2.1 y78.2.2.length x81.2.2.2.2),(.slice x620.2.1 s619.2.length x620.2.2)]) (x:=(⟨y78.1,y78.2.1,y78.2.2,s688⟩:Tsk)) rfl ⟨_,_,_,_,rfl,h83,h85,h87,h644⟩) hB.out),(Vb.mono (F:=Fr 0 w709 O711) h341 hB.out),(vErr (show inI64 0 from by decide))⟩
end
section
open Go Go.RowKit
class TCon (P:Program) (t:TypeId):Prop where eq:∃ d,P.underlying t=some d∧(match d with|.interface _=>false|_=>true)=true
instance {P:Program} {t e:TypeId} [h:TPtr P t e]:TCon P t:=⟨⟨_,h.eq,rfl⟩⟩
instance {P:Program} {t:TypeId} [h:TAgg P t]:TCon P t:=⟨by obtain ⟨d,h1,h2⟩:=h.eq;exact ⟨d,h1,by cases d<;>first|rfl|cases h2⟩⟩
class TMth (P:Program) (t:TypeId) (name:String) (f:outParam FuncId) (b:outParam Bool):Prop where
  eq:((P.info? t).bind fun i=>i.methods.find? (·.name == name)).map (fun m=>(m.path.toList,m.func))=some ([],some (f,b))
def Mth (P:Program) (t:TypeId) (v:Value) (name:String) (w:World) (f:FuncId) (r:Value):Prop:=∀ d,(method (P.types.size + Made.depth) t v name).run P (dr w d)=.ok (f,r) (dr w d)
section
variable {P : Program} {t e : TypeId} {name : String} {f : FuncId} {w : World}
theorem TMth.row {b:Bool} (h:TMth P t name f b):∃ i m,P.info? t=some i∧i.methods.find? (·.name == name)=some m∧m.path.toList=[]∧m.func=some (f,b):=by
  obtain ⟨m,h1,h2⟩:=Option.map_eq_some_iff.1 h.eq
  obtain ⟨i,h3,h4⟩:=Option.bind_eq_some_iff.1 h1
  injection h2 with h5 h6
  exact ⟨i,m,h3,h4,h5,h6⟩
theorem Kb {v:Value} [hm:TMth P t name f true] [hp:TPtr P t e]:Mth P t v name w f v:=fun d=>by
  obtain ⟨i,m,h1,h2,h3,h4⟩:=hm.row
  show (method ((P.types.size + 99) + 1) t v name).run P (dr w d)=_
  rw [method]
  simp [typeInfo,h1,h2,h3,h4,follow,receiverAt,run_underlying hp.eq,Place.get]
theorem JL (ts:Array TypeId) (a:Addr) (x y:String):(Builtin.ssaWrapNilChk_ ts t #[.pointer (some a),strVal x,strVal y]).run P w=.ok (.pointer (some a)) w:=rfl
theorem EA {ad:Addr} {u:Value} [hm:TMth P t name f false] [hp:TPtr P t e] [TOne P e] (hc:w.cell? ad=some u):Mth P t (.pointer (some ad)) name w f u:=fun d=>by
  obtain ⟨i,m,h1,h2,h3,h4⟩:=hm.row
  have h5:m.path=#[]:=by cases hm':m.path;rw [hm'] at h3;simp at h3;rw [h3]
  have hl:(load ad).run P (dr w d)=.ok u (dr w d):=by simp [load,Sem.run,Ir,hc]
  show (method ((P.types.size + 99) + 1) t _ name).run P (dr w d)=_
  rw [method]
  simp [typeInfo,h1,h2,h4,h5,follow,receiverAt,run_underlying hp.eq,Place.get,JL,asAddr,loadVar,Ft,Ir,hc]
end
section
variable {P : Program} {n : Nat} {ops : Array Oper} {Q : Post} {rest : List Oper} {l : Env} {w : World} {d : Tmp} {ty : TypeId} {pos : String} {aft : Array Edge}
theorem Kc {f:FuncId} [hf:Callable P f] {y:Operand} {name:String} {t:TypeId} {v r:Value} {xs:List Operand} {vs:List Value} {ts:Array TypeId} {R:Value→World→Prop} (hm:Mth P t v name w f r) (hy:opv l y=some (.iface t v)) (hx:opvs l xs=some vs) (hd:Nat.blt d n=true) (hc:Fn P f (r :: vs) w R)
    (h:∀ v w',R v w'→owp P n ops Q rest ((d,v) :: l) w'):owp P n ops Q (⟨some d,.call { callee:=.invoke y name,args:=xs.toArray,argTypes:=ts },ty,pos,aft,none⟩ :: rest) l w :=
  Ga fun a e ha K hK=>by
    obtain ⟨fn,h1,h2,h3⟩:=hf.eq
    have h2':¬ fn.body=none:=fun e=>by rw [e] at h2;simp at h2
    have h3' : ¬ fn.name = "runtime.NumGoroutine" := fun e => by rw [e] at h3; simp at h3
    unfold Oper.wp
    have:(execOp a.eval ⟨some d,.call { callee:=.invoke y name,args:=xs.toArray,argTypes:=ts },ty,pos,aft,none⟩).run P (dr w e)=.ok (.enter f (r :: vs).toArray) (dr w e):=by
      simp [execOp,resolve,ha.eval hy,invoke,callMethod,hm e,callFunc,h1,h2',h3',ha.evals hx]
    rw [this]
    exact (hc e).mono fun _ _ ⟨v,w₀,d',he,hw,hR⟩=>by subst he;subst hw;exact hK _ _ (h v w₀ hR _ _ (ha.put hd v))
theorem Hf {T:Nat→Prop} {f:FuncId} [Callable P f] {y:Operand} {name:String} {t:TypeId} {v r:Value} {xs:List Operand} {vs:List Value} {ts:Array TypeId} {O:Lab} {R:Value→World→Lab→Prop}
    (hc:Fn P f (r :: vs) w fun v w'=>∃ O',St T w O w' O'∧R v w' O') (hm:Mth P t v name w f r) (hy:opv l y=some (.iface t v)) (hx:opvs l xs=some vs) (hd:Nat.blt d n=true)
    (h:∀ v w' O',St T w O w' O'→R v w' O'→owp P n ops Q rest ((d,v) :: l) w'):owp P n ops Q (⟨some d,.call { callee:=.invoke y name,args:=xs.toArray,argTypes:=ts },ty,pos,aft,none⟩ :: rest) l w :=
  Kc hm hy hx hd hc fun v w' ⟨O',hS,hR⟩=>h v w' O' hS hR
theorem Hg {f:FuncId} [Callable P f] {y:Operand} {name:String} {t:TypeId} {v r:Value} {xs:List Operand} {vs:List Value} {ts:Array TypeId} {O:Lab} {A:Nat→Prop} {R:World→(Nat→Prop)→Value→Prop} (hc:Fn P f (r :: vs) w fun v w'=>Ext w w'∧R w' (upA A w w') v) (hm:Mth P t v name w f r) (hy:opv l y=some (.iface t v)) (hx:opvs l xs=some vs) (hd:Nat.blt d n=true)
    (h:∀ v w' O',St nT w O w' O'→R w' (upA A w w') v→owp P n ops Q rest ((d,v) :: l) w'):owp P n ops Q (⟨some d,.call { callee:=.invoke y name,args:=xs.toArray,argTypes:=ts },ty,pos,aft,none⟩ :: rest) l w :=
  Kc hm hy hx hd hc fun v w' ⟨hE,hR⟩=>h v w' (upO O w.heap.size fun _=>0) (hE.st O _) hR
end
def quoT (a b:Int):Option Int:=if 0 < b then some (if 0≤a then a / b else -((-a) / b)) else none
theorem Kd {a b r:Int} (h:quoT a b=some r) (ha:inI64 a):inI64 r:=by
  unfold quoT at h
  split at h
  · rename_i hb
    rw [← sm h]
    unfold inI64 at *
    split
    · rename_i h0
      have:=Int.ediv_le_self b h0
      have:=Int.ediv_nonneg h0 (show 0≤b by omega)
      omega
    · have h0:0≤-a:=by omega
      have:=Int.ediv_le_self b h0
      have:=Int.ediv_nonneg h0 (show 0≤b by omega)
      omega
  · cases h
theorem LY {P:Program} {l:Env} {w:World} {dst:Option Tmp} {ty:TypeId} {pos:String} {aft:Array Edge} {t u:TypeId} {x y:Operand} {a b c:Int} (hx:opv l x=some (.int .i64 a)) (hy:opv l y=some (.int .i64 b)) (he:quoT a b=some c) (hr:inI64 a):Ev P ⟨dst,.binOp .quo t x y u,ty,pos,aft,none⟩ l w (.int .i64 c):=fun _ _ d ha=>by
  have hc:=Kd he hr
  unfold quoT at he
  split at he
  · rename_i hb
    have hn:b≠0:=by omega
    have h1:a.tdiv b=c:=by
      rw [← sm he]
      split
      · rename_i h0;exact Int.tdiv_eq_ediv_of_nonneg h0
      · rw [← Int.tdiv_eq_ediv_of_nonneg (show 0≤-a by omega),Int.neg_tdiv,Int.neg_neg]
    simp [execOp,ha.eval hx,ha.eval hy,eqGuard,binOp,Op.intDiv,hn,h1,wrap_i64 hc.1 hc.2]
  · cases he
structure An (t:TypeId) (α:Type) where
  x:α
instance {t:TypeId} {α:Type} [Rp α]:Rp (An t α) where
  isAgg:=false
  size:=1
  R w F cs a:=∃ v,cs=[.iface t v]∧Vb w F v a.x
  len:=by rintro w F cs x ⟨v,rfl,_⟩;rfl
  one:=by
    rintro w F cs x ⟨v,rfl,_⟩ u hu
    have:u=.iface t v:=by simpa using hu
    subst this;rfl
  agree:=by rintro w w' F cs x ⟨v,rfl,h⟩ ha;exact ⟨v,rfl,h.agree ha⟩
  mono:=by rintro w F G cs x ⟨v,rfl,h⟩ ha;exact ⟨v,rfl,h.mono ha⟩
theorem Vb.any {w:World} {F:Nat→Prop} {v:Value} {t:TypeId} {α:Type} [Rp α] {x:An t α} (h:Vb w F v x):∃ u,v=.iface t u∧Vb w F u x.x:=by
  obtain ⟨u,hu,h'⟩:=h
  exact ⟨u,by simpa using hu,h'⟩
theorem vAny {w:World} {F:Nat→Prop} {v:Value} {t:TypeId} {α:Type} [Rp α] {x:α} (h:Vb w F v x):Vb w F (.iface t v) (⟨x⟩:An t α):=⟨v,rfl,h⟩
section
variable {P : Program} {l : Env} {w : World} {dst : Option Tmp} {ty : TypeId} {pos : String} {aft : Array Edge}
theorem LZ {t:TypeId} [hk:TCon P t] {x:Operand} {v:Value} (hx:opv l x=some v):Ev P ⟨dst,.makeInterface t x,ty,pos,aft,none⟩ l w (.iface t v):=fun _ a d ha=>by
  obtain ⟨q,h1,h2⟩:=hk.eq
  cases q<;>first|(cases h2;done)|simp [execOp,ha.eval hx,Instr.makeInterface,run_underlying h1]
theorem Ma {s t:TypeId} [hk:TCon P t] {x:Operand} {v:Value} (hx:opv l x=some (.iface t v)):Ev P ⟨dst,.typeAssert x s t true,ty,pos,aft,none⟩ l w (.tuple #[v,.bool true]):=fun _ a d ha=>by
  obtain ⟨q,h1,h2⟩:=hk.eq
  cases q<;>first|(cases h2;done)|simp [execOp,ha.eval hx,Instr.typeAssert,run_underlying h1]
end
section
variable {P : Program} {n : Nat} {ops : Array Oper} {Q : Post} {S : World → Prop} {rest : List Oper} {r : List (Nat × Bool)} {l : Env} {w : World} {d i : Nat} {ty : TypeId} {pos : String} {aft : Array Edge}
theorem o_qtE {t u:TypeId} {x y:Operand} {a b c:Int} (hx:opv l x=some (.int .i64 a)) (hy:opv l y=some (.int .i64 b)) (hd:Nat.blt d n=true) (h:owp P n ops Q rest ((d,.int .i64 c) :: l) w) (he:quoT a b=some c:=by assumption) (hr:inI64 a:=by assumption):owp P n ops Q (⟨some d,.binOp .quo t x y u,ty,pos,aft,none⟩ :: rest) l w:=AT (LY hx hy he hr) hd h
theorem o_miA {t:TypeId} [TCon P t] {x:Operand} {v:Value} (hx:opv l x=some v) (hd:Nat.blt d n=true) (h:owp P n ops Q rest ((d,.iface t v) :: l) w):owp P n ops Q (⟨some d,.makeInterface t x,ty,pos,aft,none⟩ :: rest) l w:=AT (LZ hx) hd h
theorem o_taA {s t:TypeId} [TCon P t] {x:Operand} {v:Value} (hx:opv l x=some (.iface t v)) (hd:Nat.blt d n=true) (h:owp P n ops Q rest ((d,.tuple #[v,.bool true]) :: l) w):owp P n ops Q (⟨some d,.typeAssert x s t true,ty,pos,aft,none⟩ :: rest) l w:=AT (Ma hx) hd h
end
end
section
open Go Go.RowKit
attribute [local irreducible] ewp owp hwp hwq hws Ev Evg Fn retPost loud loudS Res1
attribute [local irreducible] hwx loudX
def Bx (xs:List U64):Option (List U64):=if xs.length * 8≤140737488355328∧xs.length≤9223372036854775807 then some xs else none
theorem EP {w:World} {A:Nat→Prop} (hA:∀ k,A k→k < w.heap.size) {v0:Value} {x0:List U64} (h0:Vb w A v0 x0) {r:List U64} (hm:Bx x0=some r) :
    Fn Tryz.prog 90 [v0] w fun v w'=>Ext w w'∧RowR w w' (upA A w w') 167 v r:=by
  obtain ⟨⟨hl,hl2⟩,rfl⟩:=DV hm
  obtain ⟨O,hB,hA0⟩:=enter hA
  replace h0:=h0.mono hA0
  obtain ⟨Ad,c,rfl⟩:=h0.form
  refine AJ Tryz.func90 rfl Tryz.ntmps90 rfl ?_
  cases Ad with
  | none =>
    have hx:x0=[]:=by
      cases x0 with
      | nil=>rfl
      | cons x xs=>obtain ⟨_,_,_,h,_⟩:=h0.elem (k:=0) (x:=x) rfl;cases h
    subst hx
    ((repeat (first|refine Ah ?_|refine Al ?_|refine Ae ?_|refine Am ?_|refine Au ?_|refine At ?_|refine Ar rfl ?_|refine Aj rfl ?_))<;>(refine o_as rfl rfl ?_<;>(first|refine Ay ?_|refine Az ?_|refine Aw ?_|refine AA ?_))<;>(repeat (first|refine Ah ?_|refine Al ?_|refine Ae ?_|refine Am ?_|refine Au ?_|refine At ?_|refine Ar rfl ?_|refine Aj rfl ?_))<;>(refine o_mv rfl rfl ?_<;>refine o_sn rfl rfl ?_<;>(first|refine Ay ?_|refine Az ?_|refine Aw ?_|refine AA ?_))<;>(repeat (first|refine Ah ?_|refine Al ?_|refine Ae ?_|refine Am ?_|refine Au ?_|refine At ?_|refine Ar rfl ?_|refine Aj rfl ?_))<;>(refine o_as rfl rfl ?_<;>(first|refine Ay ?_|refine Az ?_|refine Aw ?_|refine AA ?_))<;>(repeat (first|refine Ah ?_|refine Al ?_|refine Ae ?_|refine Am ?_|refine Au ?_|refine At ?_|refine Ar rfl ?_|refine Aj rfl ?_)))
    exact ret1 rfl rfl ⟨Below.refl _ _,RowR.nil⟩
  | some ad =>
    ((repeat (first|refine Ah ?_|refine Al ?_|refine Ae ?_|refine Am ?_|refine Au ?_|refine At ?_|refine Ar rfl ?_|refine Aj rfl ?_))<;>(refine o_as rfl rfl ?_<;>(first|refine Ay ?_|refine Az ?_|refine Aw ?_|refine AA ?_))<;>(repeat (first|refine Ah ?_|refine Al ?_|refine Ae ?_|refine Am ?_|refine Au ?_|refine At ?_|refine Ar rfl ?_|refine Aj rfl ?_))<;>(refine o_mv rfl rfl ?_<;>refine o_sn rfl rfl ?_<;>(first|refine Ay ?_|refine Az ?_|refine Aw ?_|refine AA ?_))<;>(repeat (first|refine Ah ?_|refine Al ?_|refine Ae ?_|refine Am ?_|refine Au ?_|refine At ?_|refine Ar rfl ?_|refine Aj rfl ?_)))
    refine Bd 2 (by decide) O (xs:=([]:List U64)) rfl rfl rfl rfl trivial (by decide) (by decide) rfl fun g w1 O1 S1 h1=>?_
    replace hB:=hB.st S1 (fun h=>h) (fun h=>h)
    replace h0:=h0.st S1 (fun h=>h)
    (refine o_mv rfl rfl ?_)
    refine Bb rfl h1 h0.rd rfl rfl (by decide) (by simpa using hl) (by simpa using hl2) rfl fun A2 c2 w2 O2 S2 h2=>?_
    replace hB:=hB.st S2 (by decide) (by decide)
    rw [List.nil_append] at h2 ⊢
    (refine o_as rfl rfl ?_<;>(first|refine Ay ?_|refine Az ?_|refine Aw ?_|refine AA ?_))
    repeat (first|refine Ah ?_|refine Al ?_|refine Ae ?_|refine Am ?_|refine Au ?_|refine At ?_|refine Ar rfl ?_|refine Aj rfl ?_)
    exact ret1 rfl rfl ⟨hB.ext,h2.out hB (by decide)⟩
structure PFd where
  word:Int
  bit:Int
  width:Int
  size:Int
instance:Rp PFd where
  isAgg:=true
  size:=4
  R w F cs x:=cs=[.int .i64 x.word,.int .i64 x.bit,.int .i64 x.width,.int .i64 x.size]∧inI64 x.word∧inI64 x.bit∧inI64 x.width∧inI64 x.size
  len:=by rintro w F cs x ⟨rfl,h0,h1,h2,h3⟩;rfl
  one:=by rintro w F cs x ⟨rfl,h0,h1,h2,h3⟩ u hu;simp at hu;rcases hu with rfl|rfl|rfl|rfl<;>first|rfl|exact Vb.one rfl (by assumption)
  agree:=by rintro w w' F cs x ⟨rfl,h0,h1,h2,h3⟩ ha;exact ⟨rfl,h0,h1,h2,h3⟩
  mono:=by rintro w F G cs x ⟨rfl,h0,h1,h2,h3⟩ ha;exact ⟨rfl,h0,h1,h2,h3⟩
structure Pkr where
  fields:List PFd
  words:Int
instance:Ow Pkr where
  R w F M v x:=∃ (g:Nat) (L:Lab) (c0:Value),v=.pointer (some ⟨g,0,none⟩)∧Blk w g 165 [c0,.int .i64 x.words]∧M g∧L g=0∧RwM w F (fun k=>M k∧L k=1) 169 c0 x.fields∧inI64 x.words
  agree:=by rintro w w' F M v x ⟨g,L,c0,rfl,hb,hM,hL,h0,h1⟩ a1 a2;exact ⟨g,L,c0,rfl,hb.keep (a2 g hM),hM,hL,h0.agree a1 fun k hk=>a2 k hk.1,h1⟩
  mono:=by rintro w F M F' M' v x ⟨g,L,c0,rfl,hb,hM,hL,h0,h1⟩ a1 a2 a3;exact ⟨g,L,c0,rfl,hb,a2 g hM,hL,h0.mono a1 (fun k hk=>⟨a2 k hk.1,hk.2⟩) fun k hf hm=>a3 k hf hm.1,h1⟩
instance:OwP Pkr:=⟨by rintro w F M v x ⟨g,L,c0,rfl,_⟩;exact ⟨g,rfl⟩⟩
theorem Pkr.opn {i:Nat} {w:World} {O:Lab} {p:Nat} {x:Pkr} (h:Ob i w O (.pointer (some ⟨p,0,none⟩)) x) (l0 l1:Nat) (hl:l0≠0∧l1≠0):∃ (O':Lab) (c0:Value),St (eT i) w O w O'∧(∀ k,Fr i w O k→∃ q,q∈[l0,l1]∧Fr q w O' k)∧Lc l0 w O' p 165 [c0,.int .i64 x.words]∧Rw l1 w O' 169 c0 x.fields∧inI64 x.words:=by
  obtain ⟨⟨g,L,c0,hv,hb,hM,hL,h0,h1⟩,hi⟩:=h
  obtain rfl:p=g:=by injection hv with hv;injection hv with hv;injection hv
  exact ⟨part O i L [l0,l1],c0,Ht hi,Gp (by simp),⟨hb,(DO (j:=0) rfl p ⟨hM,hL⟩).2⟩,h0.rw (CR hi) (DO (j:=1) rfl) hl.2,h1⟩
theorem Pkr.shut {w:World} {O:Lab} {p:Nat} {x:Pkr} {l0 l1:Nat} {c0:Value} (hd:¬ 0∈[l0,l1]∧[l0,l1].idxOf l0=0∧[l0,l1].idxOf l1=1) (hb:Lc l0 w O p 165 [c0,.int .i64 x.words]) (h0:Rw l1 w O 169 c0 x.fields) (h1:inI64 x.words):∃ O',St (·∈[l0,l1]) w O w O'∧(∀ k,Fr 0 w O k→Fr 0 w O' k)∧(∀ q,q∈[l0,l1]→∀ k,Fr q w O k→Fr l0 w O' k)∧Ob l0 w O' (.pointer (some ⟨p,0,none⟩)) x:=by
  have hb1:l0≠0:=fun e=>hd.1 (by simp [e])
  have hg:=Do (i:=l0) hd.2.1 (by simp) p ⟨hb.1.lt,hb.2⟩
  exact ⟨whole O l0 [l0,l1],Gq,BT hd.1,FK,⟨p,fun k=>[l0,l1].idxOf (O k),c0,rfl,hb.1,hg.1,hg.2,h0.m (BT hd.1) (Do hd.2.2 (by simp)) (fun k a b=>frNe0 hb1 k a b.1),h1⟩,hb1⟩
noncomputable def EI (x0:List Int):Option ((Option Pkr)×Err) :=
  if 64 < (x0.length:Int) then (some (none,(⟨5⟩:Err))) else (bnd (rng (ρ:=(Option Pkr)×Err) (fun (k25:Nat) (a26:Int) (s23:Int×Pkr)=>bnd (if a26 < 1 then (some true) else (if 64 < a26 then (some true) else (some false)):Option Bool) fun y48=>if y48=true then (some (.ret (none,(⟨1⟩:Err)))) else (bnd (lop (ρ:=Ctl (Int×Pkr) ((Option Pkr)×Err)) (fun (s61:Int)=>bnd (shlI 1 s61) fun n76=>if n76 < a26 then (bnd (chkI (s61 + 1)) fun n80=>some (.next n80)) else (some (.brk s61))) 0) fun res59=>fin res59 fun (s87:Int)=>bnd (bnd (chkI (s23.1 + s87)) fun n95=>if 64 < n95 then (bnd (chkI (s23.2.words + 1)) fun n109=>some (0,(⟨s23.2.fields,n109⟩:Pkr))) else (some (s23.1,s23.2)):Option (Int×Pkr)) fun y89=>bnd (chkI (y89.2.words - 1)) fun n133=>bnd (appI 32 y89.2.fields [(⟨n133,y89.1,s87,a26⟩:PFd)]) fun u142=>bnd (chkI (y89.1 + s87)) fun n155=>some (.next (n155,(⟨u142,y89.2.words⟩:Pkr))))) x0 0 (0,(⟨([]:List PFd),1⟩:Pkr))) fun res21=>fin res21 fun (s167:Int×Pkr)=>some ((some s167.2),(⟨0⟩:Err)))
theorem Kp {w:World} {O:Lab} {vx0:Value} {x0:List Int} (hx0:Vb w (Fr 0 w O) vx0 x0) (j0:Nat) (hj0:j0≠0) {r:(Option Pkr)×Err} (hm:EI x0=some r) :
    Fn Tryz.prog 89 [vx0] w fun v w'=>∃ O',St nT w O w' O'∧∃ v0 v1:Value,v=.tuple #[v0,v1]∧Obo j0 w' O' v0 r.1∧Vb w' (Fr 0 w' O') v1 r.2:=by
 obtain ⟨O0,hE,hz0⟩:=ent0 (w:=w) (O:=O)
 have hB:Bm w O0 w O0:=Bm.refl
 replace hx0:=hx0.mono hz0
 obtain ⟨A2,c3,rfl⟩:=hx0.form
 refine AJ Tryz.func89 rfl Tryz.ntmps89 rfl ?_
 unfold EI at hm
 refine Ah (Ae (o_as rfl rfl (o_as rfl rfl (o_z ?_))))
 refine Ah (Ah (Ae (o_mv rfl rfl (o_ln rfl rfl ?_))))
 have l5:x0.length≤9223372036854775807:=Nat.le_trans hx0.len.2.1 hx0.len.2.2
 have r4:inI64 (x0.length:Int):=rngNat l5
 refine o_gtS rfl rfl rfl (fun c6=>?_) fun c6=>?_
 ·
  replace hm:=ip hm c6
  refine o_z ?_
  refine Ar rfl (Ah (Ae (o_miE rfl rfl ?_)))
  refine o_as rfl rfl (o_as rfl rfl (o_z ?_))
  refine At ?_
  obtain rfl:=sm hm
  obtain ⟨O',hS',hz,hl⟩:=hE.leave (fun _=>0) rfl hB
  exact ret2 rfl (AF rfl) (AF rfl) ⟨O',hS',_,_,rfl,rfl,(vErr (by decide))⟩
 ·
  replace hm:=im hm c6
  refine o_z ?_
  refine Aj rfl (Am (Ah (Ae (o_bd rfl rfl rfl ?_))))
  refine l_box 2 O0 rfl rfl fun g7 w8 O9 S10 h11=>?_
  replace h11:Lc 2 w8 O9 g7 165 [(.slice none 0 0),(.int .i64 1)]:=h11
  refine o_as rfl rfl (o_z ?_)
  refine Ah (Ae (o_as rfl rfl (o_z ?_)))
  refine Ah (Ah (Ae (o_mv rfl rfl (o_ln rfl rfl ?_))))
  replace hx0:=hx0.st S10
  have l13:x0.length≤9223372036854775807:=Nat.le_trans hx0.len.2.1 hx0.len.2.2
  have r12:inI64 (x0.length:Int):=rngNat l13
  refine o_mv rfl rfl (o_z ?_)
  have h14:Rw 3 w8 O9 169 (.slice none 0 0) ([]:List PFd):=Rw.nil 3 (by decide)
  obtain ⟨O16,S17,hz19,ha20,h18⟩:=Pkr.shut (x:=(⟨([]:List PFd),1⟩:Pkr)) (l0:=2) (l1:=3) (by decide) h11 h14 (show inI64 (1) from by decide)
  obtain ⟨res21,hL22,hm⟩:=bs hm
  refine AL (aft res21 (fun (s23:Int×Pkr) (x24:Unit)=>[(4,(.pointer (some ⟨g7,0,none⟩)))]) (fun s23 x24 w'=>∃ O':Lab,Bm w O0 w' O'∧Ob 2 w' O' (.pointer (some ⟨g7,0,none⟩)) s23.2∧inI64 s23.1)) ?_ ?_
  ·
   refine Al ?_
   replace hB:=(hB.st S10).st S17
   replace hx0:=hx0.st S17
   refine Bh (σ:=Int×Pkr) (X:=Unit) (x0.length) hL22 rfl l13 (fun (s23:Int×Pkr) (x24:Unit)=>[(4,(.pointer (some ⟨g7,0,none⟩))),(5,(.int .i64 s23.1)),(15,(.slice A2 x0.length c3))]) _ (fun s23 x24 w'=>∃ O':Lab,Bm w O0 w' O'∧Ob 2 w' O' (.pointer (some ⟨g7,0,none⟩)) s23.2∧Vb w' (Fr 0 w' O') (.slice A2 x0.length c3) x0∧inI64 s23.1) _ () ⟨O16,hB,h18,hx0,(show inI64 (0) from by decide)⟩ ⟨rfl,rfl,rfl,rfl,rfl,trivial⟩ (fun _ _=>⟨rfl,rfl⟩) (fun _ _=>⟨rfl,trivial⟩) (fun _ _ _ ⟨O',hB,h39,hx0,r38⟩=>⟨O',hB,h39,r38⟩) ⟨rfl,rfl,rfl⟩ ⟨rfl,rfl⟩ ?_
   rintro k25 a26 s23 x24 w27 cc29 hx30 ⟨O28,hB,h39,hx0,r38⟩ hf31 hret32 hbrk33
   have rk25:inI64 (k25:Int):=rngK hx30 l13
   refine Ah (Ae ?_)
   obtain ⟨b40,o41,ce42,hA43,hl44,hd45,rfl,r47⟩:=hx0.elem' hx30
   refine o_iaE (hA:=hA43) (hj:=rfl) (hlt:=hl44) rfl rfl rfl ?_
   refine o_ld (hc:=cat0 hd45) rfl rfl ?_
   refine o_as rfl rfl (o_z ?_)
   refine Ah (Ah ?_)
   obtain ⟨y48,hy49,hf31⟩:=bs hf31
   refine AL (fun l' w'=>∃ (x51:Unit) (O':Lab),subs l' [(4,(.pointer (some ⟨g7,0,none⟩))),(5,(.int .i64 s23.1)),(7,(.int .i64 a26)),(15,(.slice A2 x0.length c3)),(16,(.int .i64 (x0.length:Int))),(17,(.int .i64 (k25:Int))),(26,(.bool y48))]∧Bm w O0 w' O'∧Ob 2 w' O' (.pointer (some ⟨g7,0,none⟩)) s23.2∧Vb w' (Fr 0 w' O') (.slice A2 x0.length c3) x0) ?_ ?_
   ·
    refine Ae (o_mv rfl rfl (o_ltS rfl rfl rfl (fun c52=>?_) fun c52=>?_))
    ·
     replace hy49:=ip hy49 c52
     refine o_mv rfl rfl (AB rfl rfl rfl rfl (AB rfl rfl rfl rfl (o_pt rfl rfl rfl (o_z ?_))))
     obtain rfl:=sm hy49
     exact ⟨(),_,⟨rfl,rfl,rfl,rfl,rfl,rfl,rfl,trivial⟩,hB,h39,hx0⟩
    ·
     replace hy49:=im hy49 c52
     refine o_mv rfl rfl (AC rfl rfl (o_mv rfl rfl (AC rfl rfl (o_gtS rfl rfl rfl (fun c53=>?_) fun c53=>?_))))
     ·
      replace hy49:=ip hy49 c53
      refine o_pf rfl rfl rfl (o_z ?_)
      obtain rfl:=sm hy49
      exact ⟨(),_,⟨rfl,rfl,rfl,rfl,rfl,rfl,rfl,trivial⟩,hB,h39,hx0⟩
     ·
      replace hy49:=im hy49 c53
      refine o_pf rfl rfl rfl (o_z ?_)
      obtain rfl:=sm hy49
      exact ⟨(),_,⟨rfl,rfl,rfl,rfl,rfl,rfl,rfl,trivial⟩,hB,h39,hx0⟩
   rintro l54 w55 ⟨x51,O56,hs57,hB,h39,hx0⟩
   refine AM _ hs57 ?_
   refine Ca rfl (fun c58=>?_) (fun c58=>?_)
   ·
    replace hf31:=ip hf31 c58
    refine Ah (Ae (o_miE rfl rfl ?_))
    refine o_as rfl rfl (o_as rfl rfl (o_z ?_))
    refine At ?_
    obtain rfl:=sm hf31
    obtain rfl:=hret32 _ rfl
    obtain rfl:=sm (BW hm)
    obtain ⟨O',hS',hz,hl⟩:=hE.leave (fun _=>0) rfl hB
    exact ret2 rfl (AF rfl) (AF rfl) ⟨O',hS',_,_,rfl,rfl,(vErr (by decide))⟩
   ·
    replace hf31:=im' hf31 c58
    refine Am (Ah (Ae (o_as rfl rfl (o_z ?_))))
    refine Ah ?_
    obtain ⟨res59,hL60,hf31⟩:=bs hf31
    refine AL (aft res59 (fun (s61:Int) (x62:Unit)=>[(4,(.pointer (some ⟨g7,0,none⟩))),(5,(.int .i64 s23.1)),(7,(.int .i64 a26)),(8,(.int .i64 s61)),(15,(.slice A2 x0.length c3)),(16,(.int .i64 (x0.length:Int))),(17,(.int .i64 (k25:Int)))]) (fun s61 x62 w'=>∃ O':Lab,Bm w O0 w' O'∧Ob 2 w' O' (.pointer (some ⟨g7,0,none⟩)) s23.2∧Vb w' (Fr 0 w' O') (.slice A2 x0.length c3) x0∧inI64 s61)) ?_ ?_
    ·
     refine Al (Fq (σ:=Int) (X:=Unit) hL60 (fun (s61:Int) (x62:Unit)=>[(4,(.pointer (some ⟨g7,0,none⟩))),(5,(.int .i64 s23.1)),(7,(.int .i64 a26)),(8,(.int .i64 s61)),(15,(.slice A2 x0.length c3)),(16,(.int .i64 (x0.length:Int))),(17,(.int .i64 (k25:Int)))]) _ (fun s61 x62 w'=>∃ O':Lab,Bm w O0 w' O'∧Ob 2 w' O' (.pointer (some ⟨g7,0,none⟩)) s23.2∧Vb w' (Fr 0 w' O') (.slice A2 x0.length c3) x0∧inI64 s61) _ () ⟨O56,hB,h39,hx0,(show inI64 (0) from by decide)⟩ ⟨rfl,rfl,rfl,rfl,rfl,rfl,rfl,trivial⟩ ?_)
     rintro s61 x62 w65 cc67 ⟨O66,hB,h39,hx0,r75⟩ hf69 hret70 hbrk71
     refine Ah (Ah (Ae (o_mv rfl rfl ?_)))
     obtain ⟨n76,e77,hf69⟩:=bs hf69
     have r78:=KX e77
     refine o_ish (he:=e77) rfl rfl rfl ?_
     refine o_mv rfl rfl (o_ltS rfl rfl rfl (fun c79=>?_) fun c79=>?_)
     ·
      replace hf69:=ip hf69 c79
      refine o_z ?_
      refine Ar rfl (Am (Al (Ae (o_mv rfl rfl ?_))))
      obtain ⟨n80,e81,hf69⟩:=bs hf69
      have r82:=(Bc e81)
      refine o_adE (he:=e81) rfl rfl rfl ?_
      refine o_as rfl rfl (o_z ?_)
      obtain rfl:=sm hf69
      refine (?_:Exists _)
      exact ⟨_,(),rfl,⟨rfl,rfl,rfl,rfl,rfl,rfl,rfl,trivial⟩,_,hB,h39,hx0,r82⟩
     ·
      replace hf69:=im hf69 c79
      refine o_z ?_
      refine Aj rfl (Au ?_)
      obtain rfl:=sm hf69
      refine (?_:Exists _)
      exact ⟨_,(),hbrk71 _ rfl,⟨rfl,rfl,rfl,rfl,rfl,rfl,rfl,trivial⟩,_,hB,h39,hx0,r75⟩
    rintro l83 w84 ⟨s87,x88,rfl,hs86,O85,hB,h39,hx0,r75⟩
    replace hf31:=AR hf31
    refine AM _ hs86 ?_
    refine Ah ?_
    obtain ⟨y89,hy90,hf31⟩:=bs hf31
    refine AL (fun l' w'=>∃ (x92:Unit) (O':Lab),subs l' [(4,(.pointer (some ⟨g7,0,none⟩))),(5,(.int .i64 y89.1)),(7,(.int .i64 a26)),(8,(.int .i64 s87)),(15,(.slice A2 x0.length c3)),(16,(.int .i64 (x0.length:Int))),(17,(.int .i64 (k25:Int)))]∧Bm w O0 w' O'∧Ob 2 w' O' (.pointer (some ⟨g7,0,none⟩)) y89.2∧Vb w' (Fr 0 w' O') (.slice A2 x0.length c3) x0∧inI64 y89.1) ?_ ?_
    ·
     refine Ah (Ae (o_mv rfl rfl (o_mv rfl rfl ?_)))
     obtain ⟨n95,e96,hy90⟩:=bs hy90
     have r97:=(Bc e96)
     refine o_adE (he:=e96) rfl rfl rfl ?_
     refine o_gtS rfl rfl rfl (fun c98=>?_) fun c98=>?_
     ·
      replace hy90:=ip hy90 c98
      refine o_z ?_
      refine Ar rfl (Ah (Ae (o_mv rfl rfl (o_nc rfl rfl ?_))))
      obtain ⟨O99,v103,S100,ha102,h101,h104,r108⟩:=Pkr.opn h39 2 4 (by decide)
      obtain ⟨A105,c106,rfl⟩:=h104.form
      refine o_fa rfl rfl (o_ld (hc:=Blk.cell (i:=1) (h101.1) rfl) rfl rfl ?_)
      obtain ⟨n109,e110,hy90⟩:=bs hy90
      have r111:=(Bc e110)
      refine o_adE (he:=e110) rfl rfl rfl ?_
      refine o_nc rfl rfl (o_fa rfl rfl (AK h101 rfl rfl rfl (Nat.le_of_ble_eq_true rfl) (by first|exact allOne rfl|simp [Value.cells,Value.oneCell',AI]) fun w112 S113 h101=>?_))
      replace h101:Lc 2 w112 O99 g7 165 [(.slice A105 s23.2.fields.length c106),(.int .i64 n109)]:=h101
      refine o_z ?_
      refine Ae (o_as rfl rfl (o_z ?_))
      replace h104:=h104.st S113
      obtain ⟨O114,S115,hz117,ha118,h116⟩:=Pkr.shut (x:=(⟨s23.2.fields,n109⟩:Pkr)) (l0:=2) (l1:=4) (by decide) h101 h104 r111
      obtain rfl:=sm hy90
      replace hB:=((hB.st S100).st S113).st S115
      replace hx0:=((hx0.st S100).st S113).st S115
      exact ⟨(),_,⟨rfl,rfl,rfl,rfl,rfl,rfl,rfl,trivial⟩,hB,h116,hx0,(show inI64 (0) from by decide)⟩
     ·
      replace hy90:=im hy90 c98
      refine o_z ?_
      refine Aj rfl (Am ?_)
      obtain rfl:=sm hy90
      exact ⟨(),_,⟨rfl,rfl,rfl,rfl,rfl,rfl,rfl,trivial⟩,hB,h39,hx0,r38⟩
    rintro l119 w120 ⟨x92,O121,hs122,hB,h94,hx0,r93⟩
    refine AM _ hs122 ?_
    refine Ah ?_
    obtain ⟨O123,v127,S124,ha126,h125,h128,r132⟩:=Pkr.opn h94 2 4 (by decide)
    obtain ⟨A129,c130,rfl⟩:=h128.form
    refine Be [(15,[4])] O123 ?_
    refine x_pre (fuel:=6) [] [(1,true),(2,true),(3,true),(4,true),(5,true),(6,true),(7,true),(8,true),(9,true),(10,true),(11,true),(12,true),(13,true)] (by kernel_rfl) rfl ?_
    refine h_mv rfl rfl rfl (h_nc rfl rfl rfl (h_fa rfl rfl rfl (h_ldC (hc:=fun w' ⟨O',hq⟩=>Blk.cell (i:=0) ((h125.st hq (by decide)).1) rfl) rfl rfl rfl ?_)))
    refine h_mv rfl rfl rfl (h_nc rfl rfl rfl (h_fa rfl rfl rfl (h_ldC (hc:=fun w' ⟨O',hq⟩=>Blk.cell (i:=1) ((h125.st hq (by decide)).1) rfl) rfl rfl rfl ?_)))
    obtain ⟨n133,e134,hf31⟩:=bs hf31
    have r135:=(Bc e134)
    refine h_sbE (he:=e134) rfl rfl rfl rfl ?_
    refine h_mv rfl rfl rfl (h_mv rfl rfl rfl (h_mv rfl rfl rfl (h_bd rfl rfl rfl rfl ?_)))
    refine AH ?_
    refine x_pre (fuel:=5) [4] [(0,true)] (by kernel_rfl) rfl ?_
    refine h_mv rfl rfl rfl (AH ?_)
    refine x_one (i:=14) (by kernel_rfl) rfl ?_
    refine Bd 5 (by decide) O123 (xs:=([(⟨n133,y89.1,s87,a26⟩:PFd)]:List PFd)) rfl rfl rfl rfl ⟨(Vb.ofAgg (cs:=[(.int .i64 n133),(.int .i64 y89.1),(.int .i64 s87),(.int .i64 a26)]) (x:=(⟨n133,y89.1,s87,a26⟩:PFd)) rfl ⟨rfl,r135,r93,r75,r47⟩),trivial⟩ (by decide) (by decide) rfl fun g136 w137 O138 S139 h140=>?_
    have hZ:=S139.lst [] (fun _ h=>h.elim)
    refine x_go [(15,[4])] hZ (by kernel_rfl) ?_
    refine x_one (i:=15) (by kernel_rfl) rfl ?_
    obtain ⟨u142,e143,hf31⟩:=bs hf31
    obtain ⟨e143,e144,e145⟩:=AO e143
    replace h128:=h128.st S139
    refine Bb rfl h128 (h140.rd) rfl rfl (by decide) e144 e145 rfl fun A146 c147 w148 O149 S150 h151=>?_
    rw [← e143] at h151 ⊢
    have hZ:=S150.lst [4] (fun _ h=>by cases h;decide)
    refine x_go [] hZ (by kernel_rfl) ?_
    refine x_pre (fuel:=1) [] [(16,true),(17,true)] (by kernel_rfl) rfl ?_
    refine h_nc rfl rfl rfl (h_fa rfl rfl rfl (AH ?_))
    refine x_one (i:=18) (by kernel_rfl) rfl ?_
    replace h125:=(h125.st S139).st S150
    refine AK h125 rfl rfl rfl (Nat.le_of_ble_eq_true rfl) (by first|exact allOne rfl|simp [Value.cells,Value.oneCell',AI]) fun w153 S154 h125=>?_
    replace h125:Lc 2 w153 O149 g7 165 [(.slice A146 u142.length c147),(.int .i64 y89.2.words)]:=h125
    refine x_end (by kernel_rfl) ?_
    refine x_nil (by kernel_rfl) ?_
    refine Ae (o_mv rfl rfl (o_mv rfl rfl ?_))
    obtain ⟨n155,e156,hf31⟩:=bs hf31
    have r157:=(Bc e156)
    refine o_adE (he:=e156) rfl rfl rfl ?_
    refine o_as rfl rfl (o_z ?_)
    replace h151:=h151.st S154
    obtain ⟨O158,S159,hz161,ha162,h160⟩:=Pkr.shut (x:=(⟨u142,y89.2.words⟩:Pkr)) (l0:=2) (l1:=4) (by decide) h125 h151 r132
    obtain rfl:=sm hf31
    refine (?_:Exists _)
    replace hB:=((((hB.st S124).st S139).st S150).st S154).st S159
    replace hx0:=((((hx0.st S124).st S139).st S150).st S154).st S159
    exact ⟨_,(),rfl,⟨rfl,rfl,rfl,rfl,rfl,trivial⟩,_,hB,h160,hx0,r157⟩
  replace hB:=(hB.st S10).st S17
  rintro l163 w164 ⟨s167,x168,rfl,hs166,O165,hB,h39,r38⟩
  replace hm:=AR hm
  refine AM _ hs166 ?_
  refine Ah (Ae (o_mv rfl rfl (o_as rfl rfl (o_as rfl rfl (o_z ?_)))))
  refine At ?_
  obtain rfl:=sm hm
  obtain ⟨O',hS',hz,hl⟩:=hE.leave (fun q=>if q=2 then j0 else 0) rfl hB
  exact ret2 rfl (AF rfl) (AF rfl) ⟨O',hS',_,_,rfl,(Ob.leave h39 hz (hl 2 (by decide) (by decide)) hj0),(vErr (show inI64 0 from by decide))⟩
noncomputable def Co (x0:PFd):Option U64 :=
  bnd (shlU (1:U64) x0.width) fun n12=>bnd (shlU (n12 - (1:U64)) x0.bit) fun n14=>some n14
theorem Fh {w:World} {A:Nat→Prop} (hA:∀ k,A k→k < w.heap.size) {vx0:Value} {x0:PFd} (hx0:Vb w A vx0 x0) {r:U64} (hm:Co x0=some r) :
    Fn Tryz.prog 92 [vx0] w fun v w'=>Ext w w'∧Vb w' (upA A w w') v r:=by
 obtain ⟨O,hB,hA0⟩:=enter hA
 replace hx0:=hx0.mono hA0
 obtain ⟨cs2,rfl,rfl,r3,r4,r5,r6⟩:=hx0
 refine AJ Tryz.func92 rfl Tryz.ntmps92 rfl ?_
 unfold Co at hm
 refine Ah (Ae (l_box 2 O rfl rfl fun g7 w8 O9 S10 h11=>?_))
 replace h11:Lc 2 w8 O9 g7 169 [(.int .i64 x0.word),(.int .i64 x0.bit),(.int .i64 x0.width),(.int .i64 x0.size)]:=h11
 refine o_as rfl rfl (o_z ?_)
 refine Ah (BH (·=w8) [(0,true),(1,true),(2,true),(3,true),(4,true),(5,true),(6,true),(7,true)] (by kernel_rfl) rfl (by kernel_rfl) rfl ?_)
 refine h_fa rfl rfl rfl (h_ldA (hc:=Blk.cell (i:=2) (h11.1) rfl) rfl rfl rfl ?_)
 obtain ⟨n12,e13,hm⟩:=bs hm
 refine h_ush (a:=(1:U64)) (he:=e13) rfl rfl rfl rfl ?_
 refine h_usb (a:=n12) (b:=(1:U64)) rfl rfl rfl rfl ?_
 refine h_fa rfl rfl rfl (h_ldA (hc:=Blk.cell (i:=1) (h11.1) rfl) rfl rfl rfl ?_)
 obtain ⟨n14,e15,hm⟩:=bs hm
 refine h_ush (a:=(n12 - (1:U64))) (he:=e15) rfl rfl rfl rfl ?_
 refine h_as rfl rfl rfl (h_z ?_)
 refine At ?_
 obtain rfl:=sm hm
 replace hB:=hB.st S10
 exact ret1v rfl (AF rfl) ⟨hB.ext,vU64⟩
noncomputable def CS (x0:PFd) (x1:List U64):Option Int :=
  bnd (atI x1 x0.word) fun a15=>bnd (Co x0) fun q26=>bnd (shrU (a15 &&& q26) x0.bit) fun n33=>some n33.toInt
theorem HM {w:World} {A:Nat→Prop} (hA:∀ k,A k→k < w.heap.size) {vx0:Value} {x0:PFd} (hx0:Vb w A vx0 x0) {vx1:Value} {x1:List U64} (hx1:Vb w A vx1 x1) {r:Int} (hm:CS x0 x1=some r) :
    Fn Tryz.prog 91 [vx0,vx1] w fun v w'=>Ext w w'∧Vb w' (upA A w w') v r:=by
 obtain ⟨O,hB,hA0⟩:=enter hA
 replace hx0:=hx0.mono hA0
 obtain ⟨cs3,rfl,rfl,r4,r5,r6,r7⟩:=hx0
 replace hx1:=hx1.mono hA0
 obtain ⟨A8,c9,rfl⟩:=hx1.form
 refine AJ Tryz.func91 rfl Tryz.ntmps91 rfl ?_
 unfold CS at hm
 refine Ah (Ae (l_box 2 O rfl rfl fun g10 w11 O12 S13 h14=>?_))
 replace h14:Lc 2 w11 O12 g10 169 [(.int .i64 x0.word),(.int .i64 x0.bit),(.int .i64 x0.width),(.int .i64 x0.size)]:=h14
 refine o_as rfl rfl (o_z ?_)
 refine Ah (Be [] O12 ?_)
 refine x_pre (fuel:=5) [] [(0,true),(1,true),(2,true),(3,true),(4,true),(5,true),(8,true),(9,true)] (by kernel_rfl) rfl ?_
 refine h_mv rfl rfl rfl (h_fa rfl rfl rfl (h_ldC (hc:=fun w' ⟨O',hq⟩=>Blk.cell (i:=0) ((h14.st hq (by decide)).1) rfl) rfl rfl rfl ?_))
 obtain ⟨a15,e16,hm⟩:=bs hm
 obtain ⟨p18,x17⟩:=AP e16
 replace hx1:=hx1.st S13
 obtain ⟨b19,o20,ce21,hA22,hF25,hl23,hd24,rfl⟩:=hx1.elem x17
 refine h_iaE (hA:=hA22) (hj:=(Int.toNat_of_nonneg p18).symm) (hlt:=hl23) rfl rfl rfl rfl ?_
 refine h_ldC (hc:=fun w' ⟨O',hq⟩=>cat0 (AQ (hq.agree (i:=0) (by decide)) hF25 hd24)) rfl rfl rfl ?_
 refine h_laB (hl:=rfl) (hb:=fun w' ⟨O',hq⟩=>((h14.st hq (by decide)).1).cellsAt) rfl rfl rfl ?_
 refine h_fa rfl rfl rfl (h_ldC (hc:=fun w' ⟨O',hq⟩=>Blk.cell (i:=1) ((h14.st hq (by decide)).1) rfl) rfl rfl rfl ?_)
 refine AH ?_
 refine x_one (i:=6) (by kernel_rfl) rfl ?_
 obtain ⟨q26,e27,hm⟩:=bs hm
 refine Bg (O:=O12) (A:=All w11) (R:=fun w' F v=>Vb w' F v q26) (Fh (fun _ h=>h) (Vb.mono (F:=Fr 0 w11 O12) (Vb.ofAgg (cs:=[(.int .i64 x0.word),(.int .i64 x0.bit),(.int .i64 x0.width),(.int .i64 x0.size)]) (x:=x0) rfl ⟨rfl,r4,r5,r6,r7⟩) Fr.lt) e27) rfl rfl fun v32 w28 O29 S30 h31=>?_
 obtain rfl:=h31.u64
 have hZ:=S30.lst [] (fun _ h=>h.elim)
 refine x_go [] hZ (by kernel_rfl) ?_
 refine x_pre (fuel:=0) [] [(7,true),(10,true),(11,true),(12,true)] (by kernel_rfl) rfl ?_
 refine h_uan (a:=a15) (b:=q26) rfl rfl rfl rfl ?_
 obtain ⟨n33,e34,hm⟩:=bs hm
 refine h_usr (a:=(a15 &&& q26)) (he:=e34) rfl rfl rfl rfl ?_
 refine h_cvI (a:=n33) rfl rfl rfl ?_
 refine h_as rfl rfl rfl (AH ?_)
 refine x_nil (by kernel_rfl) ?_
 refine At ?_
 obtain rfl:=sm hm
 replace hB:=(hB.st S13).st S30
 exact ret1v rfl (AF rfl) ⟨hB.ext,(vInt (toIntR _))⟩
noncomputable def CE (x0:Pkr) (x1:List Int):Option ((List U64)×Err) :=
  if (x1.length:Int)≠(x0.fields.length:Int) then (some (([]:List U64),(⟨2⟩:Err))) else (bnd (mkI 8 ((0:U64):U64) x0.words) fun u25=>bnd (rng (ρ:=(List U64)×Err) (fun (k50:Nat) (a51:PFd) (s48:(List U64))=>bnd (bnd (x1[k50]?) fun a87=>if a87 < 0 then (some true) else (bnd (x1[k50]?) fun a98=>if a51.size≤a98 then (some true) else (some false)):Option Bool) fun y83=>if y83=true then (some (.ret (([]:List U64),(⟨2⟩:Err)))) else (bnd (atI s48 a51.word) fun a114=>bnd (x1[k50]?) fun a125=>bnd (shlU (BitVec.ofInt 64 a125) a51.bit) fun n135=>bnd (atI s48 a51.word) fun a137=>some (.next (s48.set (a51.word:Int).toNat (a114 ||| n135))))) x0.fields 0 u25) fun res46=>fin res46 fun (s154:(List U64))=>some (s154,(⟨0⟩:Err)))
theorem Hh {w:World} {O:Lab} {p0 i0:Nat} {x0:Pkr} (hx0:Ob i0 w O (.pointer (some ⟨p0,0,none⟩)) x0) {vx1:Value} {x1:List Int} (hx1:Vb w (Fr 0 w O) vx1 x1) {r:(List U64)×Err} (hm:CE x0 x1=some r) :
    Fn Tryz.prog 95 [(.pointer (some ⟨p0,0,none⟩)),vx1] w fun v w'=>∃ O',St (eT i0) w O w' O'∧∃ v0 v1:Value,Ob i0 w' O' (.pointer (some ⟨p0,0,none⟩)) x0∧v=.tuple #[v0,v1]∧Vb w' (Fr 0 w' O') v0 r.1∧Vb w' (Fr 0 w' O') v1 r.2:=by
 obtain ⟨O0,hE,hz0,hl2⟩:=ent1 (w:=w) (O:=O) hx0.2
 have hx0':=Ob.leave hx0 hz0 hl2 (j:=2) (by decide)
 have hB:Bm w O0 w O0:=Bm.refl
 replace hx1:=hx1.mono hz0
 obtain ⟨A3,c4,rfl⟩:=hx1.form
 refine AJ Tryz.func95 rfl Tryz.ntmps95 rfl ?_
 unfold CE at hm
 refine Ah (Ae (o_as rfl rfl (o_as rfl rfl (o_z ?_))))
 refine Ah (Ah (Ae (o_mv rfl rfl (o_pn rfl rfl ?_))))
 refine o_z ?_
 refine Aj rfl (Am (Ah (Ah (Ae (o_mv rfl rfl (o_ln rfl rfl ?_))))))
 have l6:x1.length≤9223372036854775807:=Nat.le_trans hx1.len.2.1 hx1.len.2.2
 have r5:inI64 (x1.length:Int):=rngNat l6
 refine o_mv rfl rfl (o_nc rfl rfl ?_)
 obtain ⟨O7,v11,S8,ha10,h9,h12,r16⟩:=Pkr.opn hx0' 2 3 (by decide)
 obtain ⟨A13,c14,rfl⟩:=h12.form
 refine o_fa rfl rfl (o_ld (hc:=Blk.cell (i:=0) (h9.1) rfl) rfl rfl ?_)
 refine o_ln rfl rfl ?_
 have l18:x0.fields.length≤9223372036854775807:=Nat.le_trans h12.len.2.1 h12.len.2.2
 have r17:inI64 (x0.fields.length:Int):=rngNat l18
 refine o_neS rfl rfl rfl (fun c19=>?_) fun c19=>?_
 ·
  replace hm:=ip hm c19
  refine o_z ?_
  refine Ar rfl (Ah (Ae (o_miE rfl rfl ?_)))
  refine o_as rfl rfl (o_as rfl rfl (o_z ?_))
  refine At ?_
  obtain ⟨O20,S21,hz23,ha24,h22⟩:=Pkr.shut (x:=x0) (l0:=2) (l1:=3) (by decide) h9 h12 r16
  obtain rfl:=sm hm
  replace hB:=(hB.st S8).st S21
  obtain ⟨O',hS',hz,hl⟩:=hE.leave (fun q=>if q=2 then i0 else 0) rfl hB
  exact ret2 rfl (AF rfl) (AF rfl) ⟨O',hS',_,_,(Ob.leave h22 hz (hl 2 (by decide) (by decide)) hx0.2),rfl,(Vb.mono (Vb.nil _ _) hz),(vErr (by decide))⟩
 ·
  replace hm:=im hm c19
  refine o_z ?_
  refine Aj rfl (Am (Ah (Ae (o_mv rfl rfl (o_nc rfl rfl (o_fa rfl rfl (o_ld (hc:=Blk.cell (i:=1) (h9.1) rfl) rfl rfl ?_)))))))
  obtain ⟨u25,e26,hm⟩:=bs hm
  obtain ⟨m27,e28,e29,e30,e31⟩:=Gm e26
  refine Ia 4 (by decide) O7 (z0:=((0:U64):U64)) rfl rfl rfl rfl rfl e28 vU64 e29 e30 rfl fun g32 w33 O34 S35 h36=>?_
  rw [← e31] at h36 ⊢
  refine o_as rfl rfl (o_z ?_)
  refine Ah (Ah (Ae (o_mv rfl rfl (o_nc rfl rfl (o_fa rfl rfl ?_)))))
  replace h9:=h9.st S35
  refine o_ld (hc:=Blk.cell (i:=0) (h9.1) rfl) rfl rfl ?_
  refine o_ln rfl rfl ?_
  replace h12:=h12.st S35
  have l39:x0.fields.length≤9223372036854775807:=Nat.le_trans h12.len.2.1 h12.len.2.2
  have r38:inI64 (x0.fields.length:Int):=rngNat l39
  refine o_mv rfl rfl (o_z ?_)
  obtain ⟨O40,S41,hz43,ha44,h42⟩:=Pkr.shut (x:=x0) (l0:=2) (l1:=3) (by decide) h9 h12 r16
  have h45:=(h12.lend [3] (by decide)).shutS S41 hz43 ha44 [2] (by decide)
  obtain ⟨res46,hL47,hm⟩:=bs hm
  refine AL (aft res46 (fun (s48:(List U64)) (x49:Unit)=>[(6,(.slice (some ⟨g32,0,none⟩) u25.length m27))]) (fun s48 x49 w'=>∃ O':Lab,Bm w O0 w' O'∧Rw 4 w' O' 167 (.slice (some ⟨g32,0,none⟩) u25.length m27) s48∧Ob 2 w' O' (.pointer (some ⟨p0,0,none⟩)) x0)) ?_ ?_
  ·
   refine Al ?_
   replace hB:=((hB.st S8).st S35).st S41
   replace hx1:=((hx1.st S8).st S35).st S41
   replace h36:=h36.st S41
   refine Bh (σ:=(List U64)) (X:=Unit) (x0.fields.length) hL47 rfl l39 (fun (s48:(List U64)) (x49:Unit)=>[(1,(.slice A3 x1.length c4)),(6,(.slice (some ⟨g32,0,none⟩) u25.length m27)),(29,(.slice A13 x0.fields.length c14))]) _ (fun s48 x49 w'=>∃ O':Lab,Bm w O0 w' O'∧Vb w' (Fr 0 w' O') (.slice A3 x1.length c4) x1∧Rw 4 w' O' 167 (.slice (some ⟨g32,0,none⟩) u25.length m27) s48∧Vb w' (FrS [2] w' O') (.slice A13 x0.fields.length c14) x0.fields∧Ob 2 w' O' (.pointer (some ⟨p0,0,none⟩)) x0) _ () ⟨O40,hB,hx1,h36,h45,h42⟩ ⟨rfl,rfl,rfl,rfl,rfl,trivial⟩ (fun _ _=>⟨rfl,rfl⟩) (fun _ _=>⟨rfl,trivial⟩) (fun _ _ _ ⟨O',hB,hx1,h63,h45,h42⟩=>⟨O',hB,h63,h42⟩) ⟨rfl,rfl,rfl⟩ ⟨rfl,rfl⟩ ?_
   rintro k50 a51 s48 x49 w52 cc54 hx55 ⟨O53,hB,hx1,h63,h45,h42⟩ hf56 hret57 hbrk58
   have rk50:inI64 (k50:Int):=rngK hx55 l39
   refine Ah (Ae (o_mv rfl rfl ?_))
   obtain ⟨b65,o66,ce67,hA68,hl69,hd70,rfl,r72,r73,r74,r75⟩:=h45.elem' hx55
   refine o_iaE (hA:=hA68) (hj:=rfl) (hlt:=hl69) rfl rfl rfl ?_
   refine o_la (hl:=rfl) (hc:=hd70) rfl rfl ?_
   refine AX 5 O53 rfl fun g76 w77 O78 S79 h80=>?_
   replace h45:=h45.stS S79 id (fun _ _=>id)
   refine o_as rfl rfl (AK h80 rfl rfl rfl (Nat.le_of_ble_eq_true rfl) (by first|exact allOne rfl|simp [Value.cells,Value.oneCell',AI]) fun w81 S82 h80=>?_)
   replace h80:Lc 5 w81 O78 g76 169 [(.int .i64 a51.word),(.int .i64 a51.bit),(.int .i64 a51.width),(.int .i64 a51.size)]:=h80
   replace h45:=h45.stS S82 (by decide) (by decide)
   refine o_z ?_
   refine Ah (Ah ?_)
   obtain ⟨y83,hy84,hf56⟩:=bs hf56
   refine AL (fun l' w'=>∃ (x86:Unit) (O':Lab),subs l' [(1,(.slice A3 x1.length c4)),(6,(.slice (some ⟨g32,0,none⟩) u25.length m27)),(7,(.int .i64 (k50:Int))),(8,(.pointer (some ⟨g76,0,none⟩))),(29,(.slice A13 x0.fields.length c14)),(30,(.int .i64 (x0.fields.length:Int))),(31,(.int .i64 (k50:Int))),(49,(.bool y83))]∧Bm w O0 w' O'∧Vb w' (Fr 0 w' O') (.slice A3 x1.length c4) x1∧Rw 4 w' O' 167 (.slice (some ⟨g32,0,none⟩) u25.length m27) s48∧Lc 5 w' O' g76 169 [(.int .i64 a51.word),(.int .i64 a51.bit),(.int .i64 a51.width),(.int .i64 a51.size)]∧Vb w' (FrS [2] w' O') (.slice A13 x0.fields.length c14) x0.fields∧Ob 2 w' O' (.pointer (some ⟨p0,0,none⟩)) x0) ?_ ?_
   ·
    refine BH (·=w81) [(0,true),(1,true),(2,true),(3,true),(4,true),(5,true),(6,true),(7,true),(8,true),(9,true),(10,true),(11,true),(12,true),(13,true)] (by kernel_rfl) rfl (by kernel_rfl) rfl ?_
    refine h_mv rfl rfl rfl (h_mv rfl rfl rfl ?_)
    obtain ⟨a87,e88,hy84⟩:=bs hy84
    replace hx1:=(hx1.st S79).st S82
    obtain ⟨b89,o90,ce91,hA92,hl93,hd94,rfl,r96⟩:=hx1.elem' e88
    refine h_iaE (hA:=hA92) (hj:=rfl) (hlt:=hl93) rfl rfl rfl rfl ?_
    refine h_ldA (hc:=cat0 hd94) rfl rfl rfl ?_
    refine h_ltS rfl rfl rfl rfl (fun c97=>?_) fun c97=>?_
    ·
     replace hy84:=ip hy84 c97
     refine h_mv rfl rfl rfl (h_no rfl rfl rfl rfl rfl (h_no rfl rfl rfl rfl rfl (h_no rfl rfl rfl rfl rfl (h_no rfl rfl rfl rfl rfl (h_no rfl rfl rfl rfl rfl (h_no rfl rfl rfl rfl rfl (h_no rfl rfl rfl rfl rfl (h_pt rfl rfl rfl rfl (h_z ?_)))))))))
     obtain rfl:=sm hy84
     replace hB:=(hB.st S79).st S82
     replace h42:=(h42.st S79).st S82
     replace h63:=(h63.st S79).st S82
     exact ⟨(),_,⟨rfl,rfl,rfl,rfl,rfl,rfl,rfl,rfl,trivial⟩,hB,hx1,h63,h80,h45,h42⟩
    ·
     replace hy84:=im hy84 c97
     refine h_mv rfl rfl rfl (hwp_o rfl (AD rfl rfl (g_mv rfl rfl (hwp_o rfl (AD rfl rfl (g_mv rfl rfl (hwp_o rfl (AD rfl rfl ?_))))))))
     obtain ⟨a98,e99,hy84⟩:=bs hy84
     obtain ⟨b100,o101,ce102,hA103,hl104,hd105,rfl,r107⟩:=hx1.elem' e99
     refine g_iaE (hA:=hA103) (hj:=rfl) (hlt:=hl104) rfl rfl rfl ?_
     refine hwp_o rfl (AD rfl rfl (g_ldA (hc:=cat0 hd105) rfl rfl ?_))
     refine hwp_o rfl (AD rfl rfl (g_fa rfl rfl (hwp_o rfl (AD rfl rfl (g_ldA (hc:=Blk.cell (i:=3) (h80.1) rfl) rfl rfl ?_)))))
     refine hwp_o rfl (AD rfl rfl (AS (fun _ _=>AV rfl rfl) rfl (fun c108=>?_) (fun c108=>?_)))
     ·
      replace hy84:=ip hy84 c108
      refine h_pf rfl rfl rfl rfl (h_z ?_)
      obtain rfl:=sm hy84
      replace hB:=(hB.st S79).st S82
      replace h42:=(h42.st S79).st S82
      replace h63:=(h63.st S79).st S82
      exact ⟨(),_,⟨rfl,rfl,rfl,rfl,rfl,rfl,rfl,rfl,trivial⟩,hB,hx1,h63,h80,h45,h42⟩
     ·
      replace hy84:=im hy84 c108
      refine h_pf rfl rfl rfl rfl (h_z ?_)
      obtain rfl:=sm hy84
      replace hB:=(hB.st S79).st S82
      replace h42:=(h42.st S79).st S82
      replace h63:=(h63.st S79).st S82
      exact ⟨(),_,⟨rfl,rfl,rfl,rfl,rfl,rfl,rfl,rfl,trivial⟩,hB,hx1,h63,h80,h45,h42⟩
   replace hB:=(hB.st S79).st S82
   replace hx1:=(hx1.st S79).st S82
   replace h42:=(h42.st S79).st S82
   replace h63:=(h63.st S79).st S82
   rintro l109 w110 ⟨x86,O111,hs112,hB,hx1,h63,h80,h45,h42⟩
   refine AM _ hs112 ?_
   refine Ca rfl (fun c113=>?_) (fun c113=>?_)
   ·
    replace hf56:=ip hf56 c113
    refine Ah (Ae (o_miE rfl rfl ?_))
    refine o_as rfl rfl (o_as rfl rfl (o_z ?_))
    refine At ?_
    obtain rfl:=sm hf56
    obtain rfl:=hret57 _ rfl
    obtain rfl:=sm (BW hm)
    obtain ⟨O',hS',hz,hl⟩:=hE.leave (fun q=>if q=2 then i0 else 0) rfl hB
    exact ret2 rfl (AF rfl) (AF rfl) ⟨O',hS',_,_,(Ob.leave h42 hz (hl 2 (by decide) (by decide)) hx0.2),rfl,(Vb.mono (Vb.nil _ _) hz),(vErr (by decide))⟩
   ·
    replace hf56:=im' hf56 c113
    refine Am (Be [] O111 ?_)
    refine x_pre (fuel:=1) [] [(0,true),(1,true),(2,true),(3,true),(4,true),(5,true),(6,true),(7,true),(8,true),(9,true),(10,true),(11,true),(12,true),(13,true),(14,true)] (by kernel_rfl) rfl ?_
    refine h_mv rfl rfl rfl (h_fa rfl rfl rfl (h_ldC (hc:=fun w' ⟨O',hq⟩=>Blk.cell (i:=0) ((h80.st hq (by decide)).1) rfl) rfl rfl rfl ?_))
    obtain ⟨a114,e115,hf56⟩:=bs hf56
    obtain ⟨p117,x116⟩:=AP e115
    obtain ⟨b118,o119,ce120,hA121,hF124,hl122,hd123,rfl⟩:=h63.elemF x116
    refine h_iaE (hA:=hA121) (hj:=(Int.toNat_of_nonneg p117).symm) (hlt:=hl122) rfl rfl rfl rfl ?_
    refine h_ldC (hc:=fun w' ⟨O',hq⟩=>cat0 (AQ (hq.agree (i:=4) (by decide)) hF124 hd123)) rfl rfl rfl ?_
    refine h_mv rfl rfl rfl (h_mv rfl rfl rfl ?_)
    obtain ⟨a125,e126,hf56⟩:=bs hf56
    obtain ⟨b127,o128,ce129,hA130,hF133,hl131,hd132,rfl,r134⟩:=hx1.elem e126
    refine h_iaE (hA:=hA130) (hj:=rfl) (hlt:=hl131) rfl rfl rfl rfl ?_
    refine h_ldC (hc:=fun w' ⟨O',hq⟩=>cat0 (AQ (hq.agree (i:=0) (by decide)) hF133 hd132)) rfl rfl rfl ?_
    refine h_cvU rfl rfl rfl ?_
    refine h_fa rfl rfl rfl (h_ldC (hc:=fun w' ⟨O',hq⟩=>Blk.cell (i:=1) ((h80.st hq (by decide)).1) rfl) rfl rfl rfl ?_)
    obtain ⟨n135,e136,hf56⟩:=bs hf56
    refine h_ush (a:=(BitVec.ofInt 64 a125)) (he:=e136) rfl rfl rfl rfl ?_
    refine h_uor (a:=a114) (b:=n135) rfl rfl rfl rfl ?_
    obtain ⟨a137,e138,hf56⟩:=bs hf56
    obtain ⟨p140,x139⟩:=AP e138
    obtain ⟨b141,o142,ce143,hA144,hF147,hl145,hd146,rfl⟩:=h63.elemF x139
    refine h_iaE (hA:=hA144) (hj:=(Int.toNat_of_nonneg p140).symm) (hlt:=hl145) rfl rfl rfl rfl ?_
    refine AH ?_
    refine x_one (i:=15) (by kernel_rfl) rfl ?_
    refine Di rfl h63 (a:=(a114 ||| n135)) vU64 hA144 rfl rfl (Ba x139) fun w148 S149 h63=>?_
    replace h45:=h45.stS S149 (by decide) (by decide)
    refine x_end (by kernel_rfl) ?_
    refine x_nil (by kernel_rfl) ?_
    obtain rfl:=sm hf56
    refine (?_:Exists _)
    replace hB:=hB.st S149
    replace hx1:=hx1.st S149
    replace h42:=h42.st S149
    exact ⟨_,(),rfl,⟨rfl,rfl,rfl,rfl,rfl,trivial⟩,_,hB,hx1,h63,h45,h42⟩
  replace hB:=((hB.st S8).st S35).st S41
  rintro l150 w151 ⟨s154,x155,rfl,hs153,O152,hB,h63,h42⟩
  replace hm:=AR hm
  refine AM _ hs153 ?_
  refine Ah (Ae (o_mv rfl rfl (o_as rfl rfl (o_as rfl rfl (o_z ?_)))))
  refine At ?_
  obtain ⟨O156,S157,h63⟩:=h63.freeze
  obtain rfl:=sm hm
  replace hB:=hB.st S157
  obtain ⟨O',hS',hz,hl⟩:=hE.leave (fun q=>if q=2 then i0 else 0) rfl hB
  replace h42:=h42.st S157
  exact ret2 rfl (AF rfl) (AF rfl) ⟨O',hS',_,_,(Ob.leave h42 hz (hl 2 (by decide) (by decide)) hx0.2),rfl,(Vb.mono h63 hz),(vErr (show inI64 0 from by decide))⟩
noncomputable def Cf (x0:Pkr) (x1:List U64):Option ((List Int)×Err) :=
  if (x1.length:Int)≠x0.words then (some (([]:List Int),(⟨2⟩:Err))) else (bnd (mkI 8 (0:Int) (x0.fields.length:Int)) fun u25=>bnd (Bx x1) fun q38=>bnd (rng (ρ:=(List Int)×Err) (fun (k60:Nat) (a61:PFd) (s58:(List Int)×(List U64))=>bnd (CS a61 x1) fun q97=>bnd (s58.1[k60]?) fun a105=>bnd ((s58.1.set k60 q97)[k60]?) fun a117=>if a61.size≤a117 then (some (.ret (([]:List Int),(⟨2⟩:Err)))) else (bnd (atI s58.2 a61.word) fun a128=>bnd (Co a61) fun q139=>bnd (atI s58.2 a61.word) fun a146=>some (.next ((s58.1.set k60 q97),(s58.2.set (a61.word:Int).toNat (a128 &&& ~~~q139)))))) x0.fields 0 (u25,q38)) fun res56=>fin res56 fun (s163:(List Int)×(List U64))=>bnd (rng (ρ:=(List Int)×Err) (fun (k171:Nat) (a172:U64) (s169:Unit)=>bnd (s163.2[k171]?) fun a182=>if (a182.toNat:Int)≠((0:U64).toNat:Int) then (some (.ret (([]:List Int),(⟨2⟩:Err)))) else (some (.next ()))) q38 0 ()) fun res167=>fin res167 fun (s196:Unit)=>some (s163.1,(⟨0⟩:Err)))
theorem Gv {w:World} {O:Lab} {p0 i0:Nat} {x0:Pkr} (hx0:Ob i0 w O (.pointer (some ⟨p0,0,none⟩)) x0) {vx1:Value} {x1:List U64} (hx1:Vb w (Fr 0 w O) vx1 x1) {r:(List Int)×Err} (hm:Cf x0 x1=some r) :
    Fn Tryz.prog 80 [(.pointer (some ⟨p0,0,none⟩)),vx1] w fun v w'=>∃ O',St (eT i0) w O w' O'∧∃ v0 v1:Value,Ob i0 w' O' (.pointer (some ⟨p0,0,none⟩)) x0∧v=.tuple #[v0,v1]∧Vb w' (Fr 0 w' O') v0 r.1∧Vb w' (Fr 0 w' O') v1 r.2:=by
 obtain ⟨O0,hE,hz0,hl2⟩:=ent1 (w:=w) (O:=O) hx0.2
 have hx0':=Ob.leave hx0 hz0 hl2 (j:=2) (by decide)
 have hB:Bm w O0 w O0:=Bm.refl
 replace hx1:=hx1.mono hz0
 obtain ⟨A3,c4,rfl⟩:=hx1.form
 refine AJ Tryz.func80 rfl Tryz.ntmps80 rfl ?_
 unfold Cf at hm
 refine Ah (Ae (o_as rfl rfl (o_as rfl rfl (o_z ?_))))
 refine Ah (Ah (Ae (o_mv rfl rfl (o_pn rfl rfl ?_))))
 refine o_z ?_
 refine Aj rfl (Am (Ah (Ah (Ae (o_mv rfl rfl (o_ln rfl rfl ?_))))))
 have l6:x1.length≤9223372036854775807:=Nat.le_trans hx1.len.2.1 hx1.len.2.2
 have r5:inI64 (x1.length:Int):=rngNat l6
 refine o_mv rfl rfl (o_nc rfl rfl ?_)
 obtain ⟨O7,v11,S8,ha10,h9,h12,r16⟩:=Pkr.opn hx0' 2 3 (by decide)
 obtain ⟨A13,c14,rfl⟩:=h12.form
 refine o_fa rfl rfl (o_ld (hc:=Blk.cell (i:=1) (h9.1) rfl) rfl rfl ?_)
 refine o_neS rfl rfl rfl (fun c17=>?_) fun c17=>?_
 ·
  replace hm:=ip hm c17
  refine o_z ?_
  refine Ar rfl (Ah (Ae (o_miE rfl rfl ?_)))
  refine o_as rfl rfl (o_as rfl rfl (o_z ?_))
  refine At ?_
  obtain ⟨O18,S19,hz21,ha22,h20⟩:=Pkr.shut (x:=x0) (l0:=2) (l1:=3) (by decide) h9 h12 r16
  obtain rfl:=sm hm
  replace hB:=(hB.st S8).st S19
  obtain ⟨O',hS',hz,hl⟩:=hE.leave (fun q=>if q=2 then i0 else 0) rfl hB
  exact ret2 rfl (AF rfl) (AF rfl) ⟨O',hS',_,_,(Ob.leave h20 hz (hl 2 (by decide) (by decide)) hx0.2),rfl,(Vb.mono (Vb.nil _ _) hz),(vErr (by decide))⟩
 ·
  replace hm:=im hm c17
  refine o_z ?_
  refine Aj rfl (Am (Ah (Ae (o_mv rfl rfl (o_nc rfl rfl (o_fa rfl rfl (o_ld (hc:=Blk.cell (i:=0) (h9.1) rfl) rfl rfl ?_)))))))
  refine o_ln rfl rfl ?_
  have l24:x0.fields.length≤9223372036854775807:=Nat.le_trans h12.len.2.1 h12.len.2.2
  have r23:inI64 (x0.fields.length:Int):=rngNat l24
  obtain ⟨u25,e26,hm⟩:=bs hm
  obtain ⟨m27,e28,e29,e30,e31⟩:=Gm e26
  refine Ia 4 (by decide) O7 (z0:=(0:Int)) rfl rfl rfl rfl rfl e28 (vInt (show inI64 0 from by decide)) e29 e30 rfl fun g32 w33 O34 S35 h36=>?_
  rw [← e31] at h36 ⊢
  refine o_as rfl rfl (o_z ?_)
  refine Ah (Ae (o_mv rfl rfl ?_))
  obtain ⟨q38,e39,hm⟩:=bs hm
  replace hx1:=(hx1.st S8).st S35
  refine CC 5 (by decide) (O:=O34) (EP Fr.lt hx1 e39) rfl rfl fun A45 c46 w40 O41 S42 h43=>?_
  refine o_as rfl rfl (o_z ?_)
  refine Ah (Ah (Ae (o_mv rfl rfl (o_nc rfl rfl (o_fa rfl rfl ?_)))))
  replace h9:=(h9.st S35).st S42
  refine o_ld (hc:=Blk.cell (i:=0) (h9.1) rfl) rfl rfl ?_
  refine o_ln rfl rfl ?_
  replace h12:=(h12.st S35).st S42
  have l49:x0.fields.length≤9223372036854775807:=Nat.le_trans h12.len.2.1 h12.len.2.2
  have r48:inI64 (x0.fields.length:Int):=rngNat l49
  refine o_mv rfl rfl (o_z ?_)
  obtain ⟨O50,S51,hz53,ha54,h52⟩:=Pkr.shut (x:=x0) (l0:=2) (l1:=3) (by decide) h9 h12 r16
  have h55:=(h12.lend [3] (by decide)).shutS S51 hz53 ha54 [2] (by decide)
  obtain ⟨res56,hL57,hm⟩:=bs hm
  refine AL (aft res56 (fun (s58:(List Int)×(List U64)) (x59:Unit)=>[(6,(.slice (some ⟨g32,0,none⟩) u25.length m27)),(7,(.slice A45 q38.length c46))]) (fun s58 x59 w'=>∃ O':Lab,Bm w O0 w' O'∧Rw 4 w' O' 3 (.slice (some ⟨g32,0,none⟩) u25.length m27) s58.1∧Rw 5 w' O' 167 (.slice A45 q38.length c46) s58.2∧Ob 2 w' O' (.pointer (some ⟨p0,0,none⟩)) x0)) ?_ ?_
  ·
   refine Al ?_
   replace hB:=(((hB.st S8).st S35).st S42).st S51
   replace hx1:=(hx1.st S42).st S51
   replace h36:=(h36.st S42).st S51
   replace h43:=h43.st S51
   refine Bh (σ:=(List Int)×(List U64)) (X:=Unit) (x0.fields.length) hL57 rfl l49 (fun (s58:(List Int)×(List U64)) (x59:Unit)=>[(1,(.slice A3 x1.length c4)),(6,(.slice (some ⟨g32,0,none⟩) u25.length m27)),(7,(.slice A45 q38.length c46)),(34,(.slice A13 x0.fields.length c14))]) _ (fun s58 x59 w'=>∃ O':Lab,Bm w O0 w' O'∧Vb w' (Fr 0 w' O') (.slice A3 x1.length c4) x1∧Rw 4 w' O' 3 (.slice (some ⟨g32,0,none⟩) u25.length m27) s58.1∧Rw 5 w' O' 167 (.slice A45 q38.length c46) s58.2∧Vb w' (FrS [2] w' O') (.slice A13 x0.fields.length c14) x0.fields∧Ob 2 w' O' (.pointer (some ⟨p0,0,none⟩)) x0) _ () ⟨O50,hB,hx1,h36,h43,h55,h52⟩ ⟨rfl,rfl,rfl,rfl,rfl,rfl,trivial⟩ (fun _ _=>⟨rfl,rfl⟩) (fun _ _=>⟨rfl,rfl,trivial⟩) (fun _ _ _ ⟨O',hB,hx1,h75,h77,h55,h52⟩=>⟨O',hB,h75,h77,h52⟩) ⟨rfl,rfl,rfl⟩ ⟨rfl,rfl⟩ ?_
   rintro k60 a61 s58 x59 w62 cc64 hx65 ⟨O63,hB,hx1,h75,h77,h55,h52⟩ hf66 hret67 hbrk68
   have rk60:inI64 (k60:Int):=rngK hx65 l49
   refine Ah (Ae (o_mv rfl rfl ?_))
   obtain ⟨b79,o80,ce81,hA82,hl83,hd84,rfl,r86,r87,r88,r89⟩:=h55.elem' hx65
   refine o_iaE (hA:=hA82) (hj:=rfl) (hlt:=hl83) rfl rfl rfl ?_
   refine o_la (hl:=rfl) (hc:=hd84) rfl rfl ?_
   refine AX 6 O63 rfl fun g90 w91 O92 S93 h94=>?_
   replace h55:=h55.stS S93 id (fun _ _=>id)
   refine o_as rfl rfl (AK h94 rfl rfl rfl (Nat.le_of_ble_eq_true rfl) (by first|exact allOne rfl|simp [Value.cells,Value.oneCell',AI]) fun w95 S96 h94=>?_)
   replace h94:Lc 6 w95 O92 g90 169 [(.int .i64 a61.word),(.int .i64 a61.bit),(.int .i64 a61.width),(.int .i64 a61.size)]:=h94
   replace h55:=h55.stS S96 (by decide) (by decide)
   refine o_z ?_
   refine Ah (Ae (o_mv rfl rfl (o_mv rfl rfl (o_la (hl:=rfl) (hc:=(h94.1).cellsAt) rfl rfl ?_))))
   refine o_mv rfl rfl ?_
   obtain ⟨q97,e98,hf66⟩:=bs hf66
   replace hx1:=(hx1.st S93).st S96
   refine Bg (O:=O92) (A:=All w95) (R:=fun w' F v=>Vb w' F v q97) (HM (fun _ h=>h) (Vb.mono (F:=Fr 0 w95 O92) (Vb.ofAgg (cs:=[(.int .i64 a61.word),(.int .i64 a61.bit),(.int .i64 a61.width),(.int .i64 a61.size)]) (x:=a61) rfl ⟨rfl,r86,r87,r88,r89⟩) Fr.lt) (Vb.mono (F:=Fr 0 w95 O92) hx1 Fr.lt) e98) rfl rfl fun v103 w99 O100 S101 h102=>?_
   obtain ⟨rfl,r104⟩:=h102.int
   replace h55:=h55.stS S101 id (fun _ _=>id)
   obtain ⟨a105,e106,hf66⟩:=bs hf66
   replace h75:=((h75.st S93).st S96).st S101
   obtain ⟨b107,o108,ce109,hA110,hl111,hd112,rfl,r114⟩:=h75.elem e106
   refine o_iaE (hA:=hA110) (hj:=rfl) (hlt:=hl111) rfl rfl rfl ?_
   refine Di rfl h75 (a:=q97) (vInt r104) hA110 rfl rfl (Ba e106) fun w115 S116 h75=>?_
   replace h55:=h55.stS S116 (by decide) (by decide)
   refine o_z ?_
   refine Ah (Ah (BH (·=w115) [(0,true),(1,true),(2,true),(3,true),(4,true),(5,true),(6,true)] (by kernel_rfl) rfl (by kernel_rfl) rfl ?_))
   refine h_mv rfl rfl rfl (h_mv rfl rfl rfl ?_)
   obtain ⟨a117,e118,hf66⟩:=bs hf66
   obtain ⟨b119,o120,ce121,hA122,hl123,hd124,rfl,r126⟩:=h75.elem e118
   refine h_iaE (hA:=hA122) (hj:=rfl) (hlt:=hl123) rfl rfl rfl rfl ?_
   refine h_ldA (hc:=cat0 hd124) rfl rfl rfl ?_
   refine h_fa rfl rfl rfl ?_
   replace h94:=(h94.st S101).st S116
   refine h_ldA (hc:=Blk.cell (i:=3) (h94.1) rfl) rfl rfl rfl ?_
   refine h_geS rfl rfl rfl rfl (fun c127=>?_) fun c127=>?_
   ·
    replace hf66:=ip hf66 c127
    refine h_z ?_
    refine Ar rfl (Ah (Ae (o_miE rfl rfl ?_)))
    refine o_as rfl rfl (o_as rfl rfl (o_z ?_))
    refine At ?_
    obtain rfl:=sm hf66
    obtain rfl:=hret67 _ rfl
    obtain rfl:=sm (BW hm)
    replace hB:=(((hB.st S93).st S96).st S101).st S116
    obtain ⟨O',hS',hz,hl⟩:=hE.leave (fun q=>if q=2 then i0 else 0) rfl hB
    replace h52:=(((h52.st S93).st S96).st S101).st S116
    exact ret2 rfl (AF rfl) (AF rfl) ⟨O',hS',_,_,(Ob.leave h52 hz (hl 2 (by decide) (by decide)) hx0.2),rfl,(Vb.mono (Vb.nil _ _) hz),(vErr (by decide))⟩
   ·
    replace hf66:=im hf66 c127
    refine h_z ?_
    refine Aj rfl (Am (Be [] O100 ?_))
    refine x_pre (fuel:=4) [] [(0,true),(1,true),(2,true),(3,true),(4,true),(5,true)] (by kernel_rfl) rfl ?_
    refine h_mv rfl rfl rfl (h_fa rfl rfl rfl (h_ldC (hc:=fun w' ⟨O',hq⟩=>Blk.cell (i:=0) ((h94.st hq (by decide)).1) rfl) rfl rfl rfl ?_))
    obtain ⟨a128,e129,hf66⟩:=bs hf66
    obtain ⟨p131,x130⟩:=AP e129
    replace h77:=(((h77.st S93).st S96).st S101).st S116
    obtain ⟨b132,o133,ce134,hA135,hF138,hl136,hd137,rfl⟩:=h77.elemF x130
    refine h_iaE (hA:=hA135) (hj:=(Int.toNat_of_nonneg p131).symm) (hlt:=hl136) rfl rfl rfl rfl ?_
    refine h_ldC (hc:=fun w' ⟨O',hq⟩=>cat0 (AQ (hq.agree (i:=5) (by decide)) hF138 hd137)) rfl rfl rfl ?_
    refine h_laB (hl:=rfl) (hb:=fun w' ⟨O',hq⟩=>((h94.st hq (by decide)).1).cellsAt) rfl rfl rfl ?_
    refine AH ?_
    refine x_one (i:=6) (by kernel_rfl) rfl ?_
    obtain ⟨q139,e140,hf66⟩:=bs hf66
    refine Bg (O:=O100) (A:=All w115) (R:=fun w' F v=>Vb w' F v q139) (Fh (fun _ h=>h) (Vb.mono (F:=Fr 0 w115 O100) (Vb.ofAgg (cs:=[(.int .i64 a61.word),(.int .i64 a61.bit),(.int .i64 a61.width),(.int .i64 a61.size)]) (x:=a61) rfl ⟨rfl,r86,r87,r88,r89⟩) Fr.lt) e140) rfl rfl fun v145 w141 O142 S143 h144=>?_
    obtain rfl:=h144.u64
    have hZ:=S143.lst [] (fun _ h=>h.elim)
    replace h55:=h55.stS S143 id (fun _ _=>id)
    refine x_go [] hZ (by kernel_rfl) ?_
    refine x_pre (fuel:=1) [] [(7,true),(8,true)] (by kernel_rfl) rfl ?_
    refine h_uns (a:=a128) (b:=q139) rfl rfl rfl rfl ?_
    obtain ⟨a146,e147,hf66⟩:=bs hf66
    obtain ⟨p149,x148⟩:=AP e147
    replace h77:=h77.st S143
    obtain ⟨b150,o151,ce152,hA153,hF156,hl154,hd155,rfl⟩:=h77.elemF x148
    refine h_iaE (hA:=hA153) (hj:=(Int.toNat_of_nonneg p149).symm) (hlt:=hl154) rfl rfl rfl rfl ?_
    refine AH ?_
    refine x_one (i:=9) (by kernel_rfl) rfl ?_
    refine Di rfl h77 (a:=(a128 &&& ~~~q139)) vU64 hA153 rfl rfl (Ba x148) fun w157 S158 h77=>?_
    replace h55:=h55.stS S158 (by decide) (by decide)
    refine x_end (by kernel_rfl) ?_
    refine x_nil (by kernel_rfl) ?_
    obtain rfl:=sm hf66
    refine (?_:Exists _)
    replace hB:=(((((hB.st S93).st S96).st S101).st S116).st S143).st S158
    replace hx1:=(((hx1.st S101).st S116).st S143).st S158
    replace h52:=(((((h52.st S93).st S96).st S101).st S116).st S143).st S158
    replace h75:=(h75.st S143).st S158
    exact ⟨_,(),rfl,⟨rfl,rfl,rfl,rfl,rfl,rfl,trivial⟩,_,hB,hx1,h75,h77,h55,h52⟩
  replace hB:=(((hB.st S8).st S35).st S42).st S51
  rintro l159 w160 ⟨s163,x164,rfl,hs162,O161,hB,h75,h77,h52⟩
  replace hm:=AR hm
  refine AM _ hs162 ?_
  refine Ah (Ah (Ae (o_mv rfl rfl (o_ln rfl rfl ?_))))
  have l166:q38.length≤9223372036854775807:=Nat.le_trans h77.len.2.1 h77.len.2.2
  have r165:inI64 (q38.length:Int):=rngNat l166
  refine o_mv rfl rfl (o_z ?_)
  obtain ⟨res167,hL168,hm⟩:=bs hm
  refine AL (aft res167 (fun (s169:Unit) (x170:Unit)=>[(6,(.slice (some ⟨g32,0,none⟩) u25.length m27))]) (fun s169 x170 w'=>∃ O':Lab,Bm w O0 w' O'∧Rw 4 w' O' 3 (.slice (some ⟨g32,0,none⟩) u25.length m27) s163.1∧Ob 2 w' O' (.pointer (some ⟨p0,0,none⟩)) x0)) ?_ ?_
  ·
   refine Al (Bh (σ:=Unit) (X:=Unit) (q38.length) hL168 rfl l166 (fun (s169:Unit) (x170:Unit)=>[(6,(.slice (some ⟨g32,0,none⟩) u25.length m27)),(65,(.slice A45 q38.length c46))]) _ (fun s169 x170 w'=>∃ O':Lab,Bm w O0 w' O'∧Rw 4 w' O' 3 (.slice (some ⟨g32,0,none⟩) u25.length m27) s163.1∧Rw 5 w' O' 167 (.slice A45 q38.length c46) s163.2∧Ob 2 w' O' (.pointer (some ⟨p0,0,none⟩)) x0) _ () ⟨O161,hB,h75,h77,h52⟩ ⟨rfl,rfl,rfl,rfl,trivial⟩ (fun _ _=>⟨rfl,rfl⟩) (fun _ _=>⟨rfl,trivial⟩) (fun _ _ _ ⟨O',hB,h75,h77,h52⟩=>⟨O',hB,h75,h52⟩) ⟨rfl,rfl,rfl⟩ ⟨rfl,rfl⟩ ?_)
   rintro k171 a172 s169 x170 w173 cc175 hx176 ⟨O174,hB,h75,h77,h52⟩ hf177 hret178 hbrk179
   have rk171:inI64 (k171:Int):=rngK hx176 l166
   refine Ah (Ae ?_)
   obtain ⟨a182,e183,hf177⟩:=bs hf177
   obtain ⟨b184,o185,ce186,hA187,hl188,hd189,rfl⟩:=h77.elem e183
   refine o_iaE (hA:=hA187) (hj:=rfl) (hlt:=hl188) rfl rfl rfl ?_
   refine o_ld (hc:=cat0 hd189) rfl rfl ?_
   refine o_as rfl rfl (o_z ?_)
   refine Ah (Ae (o_mv rfl rfl (o_neS rfl rfl rfl (fun c191=>?_) fun c191=>?_)))
   ·
    replace hf177:=ip hf177 c191
    refine o_z ?_
    refine Ar rfl (Ah (Ae (o_miE rfl rfl ?_)))
    refine o_as rfl rfl (o_as rfl rfl (o_z ?_))
    refine At ?_
    obtain rfl:=sm hf177
    obtain rfl:=hret178 _ rfl
    obtain rfl:=sm (BW hm)
    obtain ⟨O',hS',hz,hl⟩:=hE.leave (fun q=>if q=2 then i0 else 0) rfl hB
    exact ret2 rfl (AF rfl) (AF rfl) ⟨O',hS',_,_,(Ob.leave h52 hz (hl 2 (by decide) (by decide)) hx0.2),rfl,(Vb.mono (Vb.nil _ _) hz),(vErr (by decide))⟩
   ·
    replace hf177:=im hf177 c191
    refine o_z ?_
    refine Aj rfl (Am ?_)
    obtain rfl:=sm hf177
    refine (?_:Exists _)
    exact ⟨_,(),rfl,⟨rfl,rfl,rfl,rfl,trivial⟩,_,hB,h75,h77,h52⟩
  rintro l192 w193 ⟨s196,x197,rfl,hs195,O194,hB,h75,h52⟩
  replace hm:=AR hm
  refine AM _ hs195 ?_
  refine Ah (Ae (o_mv rfl rfl (o_as rfl rfl (o_as rfl rfl (o_z ?_)))))
  refine At ?_
  obtain ⟨O198,S199,h75⟩:=h75.freeze
  obtain rfl:=sm hm
  replace hB:=hB.st S199
  obtain ⟨O',hS',hz,hl⟩:=hE.leave (fun q=>if q=2 then i0 else 0) rfl hB
  replace h52:=h52.st S199
  exact ret2 rfl (AF rfl) (AF rfl) ⟨O',hS',_,_,(Ob.leave h52 hz (hl 2 (by decide) (by decide)) hx0.2),rfl,(Vb.mono h75 hz),(vErr (show inI64 0 from by decide))⟩
noncomputable def CF (x0:Pkr) (x1:List U64):Option Int :=
  bnd (rng (ρ:=Int) (fun (k13:Nat) (a14:U64) (s11:U64)=>bnd (shrU ((s11 ^^^ a14) * (13787848793156543929:U64)) 29) fun n31=>some (.next (((s11 ^^^ a14) * (13787848793156543929:U64)) ^^^ n31))) x1 0 ((BitVec.ofInt 64 (x1.length:Int)) + (11400714819323198485:U64))) fun res9=>fin res9 fun (s37:U64)=>bnd (shrU s37 2) fun n39=>some n39.toInt
theorem Hi {w:World} {O:Lab} {p0 i0:Nat} {x0:Pkr} (hx0:Ob i0 w O (.pointer (some ⟨p0,0,none⟩)) x0) {vx1:Value} {x1:List U64} (hx1:Vb w (Fr 0 w O) vx1 x1) {r:Int} (hm:CF x0 x1=some r) :
    Fn Tryz.prog 96 [(.pointer (some ⟨p0,0,none⟩)),vx1] w fun v w'=>∃ O',St (eT i0) w O w' O'∧Ob i0 w' O' (.pointer (some ⟨p0,0,none⟩)) x0∧Vb w' (Fr 0 w' O') v r:=by
 obtain ⟨O0,hE,hz0,hl2⟩:=ent1 (w:=w) (O:=O) hx0.2
 have hx0':=Ob.leave hx0 hz0 hl2 (j:=2) (by decide)
 have hB:Bm w O0 w O0:=Bm.refl
 replace hx1:=hx1.mono hz0
 obtain ⟨A3,c4,rfl⟩:=hx1.form
 refine AJ Tryz.func96 rfl Tryz.ntmps96 rfl ?_
 unfold CF at hm
 refine Ah (Ae (o_as rfl rfl (o_z ?_)))
 refine Ah (Ah (Ae (o_mv rfl rfl (o_pn rfl rfl ?_))))
 refine o_z ?_
 refine Aj rfl (Am (Ah (Ae (o_mv rfl rfl (o_ln rfl rfl ?_)))))
 have l6:x1.length≤9223372036854775807:=Nat.le_trans hx1.len.2.1 hx1.len.2.2
 have r5:inI64 (x1.length:Int):=rngNat l6
 refine o_cvU rfl rfl ?_
 refine o_uad (a:=(BitVec.ofInt 64 (x1.length:Int))) (b:=(11400714819323198485:U64)) rfl rfl rfl ?_
 refine o_as rfl rfl (o_z ?_)
 refine Ah (Ah (Ae (o_mv rfl rfl (o_ln rfl rfl ?_))))
 have l8:x1.length≤9223372036854775807:=Nat.le_trans hx1.len.2.1 hx1.len.2.2
 have r7:inI64 (x1.length:Int):=rngNat l8
 refine o_mv rfl rfl (o_z ?_)
 obtain ⟨res9,hL10,hm⟩:=bs hm
 refine AL (aft res9 (fun (s11:U64) (x12:Unit)=>[(5,(.int .u64 s11.toNat))]) (fun s11 x12 w'=>∃ O':Lab,Bm w O0 w' O'∧Ob 2 w' O' (.pointer (some ⟨p0,0,none⟩)) x0)) ?_ ?_
 ·
  refine Al (Bh (σ:=U64) (X:=Unit) (x1.length) hL10 rfl l8 (fun (s11:U64) (x12:Unit)=>[(5,(.int .u64 s11.toNat)),(14,(.slice A3 x1.length c4))]) _ (fun s11 x12 w'=>∃ O':Lab,Bm w O0 w' O'∧Vb w' (Fr 0 w' O') (.slice A3 x1.length c4) x1∧Ob 2 w' O' (.pointer (some ⟨p0,0,none⟩)) x0) _ () ⟨O0,hB,hx1,hx0'⟩ ⟨rfl,rfl,rfl,rfl,trivial⟩ (fun _ _=>⟨rfl,rfl⟩) (fun _ _=>⟨rfl,trivial⟩) (fun _ _ _ ⟨O',hB,hx1,hx0'⟩=>⟨O',hB,hx0'⟩) ⟨rfl,rfl,rfl⟩ ⟨rfl,rfl⟩ ?_)
  rintro k13 a14 s11 x12 w15 cc17 hx18 ⟨O16,hB,hx1,hx0'⟩ hf19 hret20 hbrk21
  have rk13:inI64 (k13:Int):=rngK hx18 l8
  refine Ah (Ae ?_)
  obtain ⟨b24,o25,ce26,hA27,hl28,hd29,rfl⟩:=hx1.elem' hx18
  refine o_iaE (hA:=hA27) (hj:=rfl) (hlt:=hl28) rfl rfl rfl ?_
  refine o_ld (hc:=cat0 hd29) rfl rfl ?_
  refine o_as rfl rfl (o_z ?_)
  refine Ah (Ae (o_mv rfl rfl (o_mv rfl rfl (o_uxo (a:=s11) (b:=a14) rfl rfl rfl ?_))))
  refine o_as rfl rfl (o_z ?_)
  refine Ah (Ae (o_mv rfl rfl (o_uml (a:=(s11 ^^^ a14)) (b:=(13787848793156543929:U64)) rfl rfl rfl ?_)))
  refine o_as rfl rfl (o_z ?_)
  refine Ae (o_mv rfl rfl (o_mv rfl rfl ?_))
  obtain ⟨n31,e32,hf19⟩:=bs hf19
  refine o_usr (a:=((s11 ^^^ a14) * (13787848793156543929:U64))) (he:=e32) rfl rfl rfl ?_
  refine o_uxo (a:=((s11 ^^^ a14) * (13787848793156543929:U64))) (b:=n31) rfl rfl rfl ?_
  refine o_as rfl rfl (o_z ?_)
  obtain rfl:=sm hf19
  refine (?_:Exists _)
  exact ⟨_,(),rfl,⟨rfl,rfl,rfl,rfl,trivial⟩,_,hB,hx1,hx0'⟩
 rintro l33 w34 ⟨s37,x38,rfl,hs36,O35,hB,hx0'⟩
 replace hm:=AR hm
 refine AM _ hs36 ?_
 refine Ah (Ae (o_mv rfl rfl ?_))
 obtain ⟨n39,e40,hm⟩:=bs hm
 refine o_usr (a:=s37) (he:=e40) rfl rfl rfl ?_
 refine o_cvI (a:=n39) rfl rfl ?_
 refine o_as rfl rfl (o_z ?_)
 refine At ?_
 obtain rfl:=sm hm
 obtain ⟨O',hS',hz,hl⟩:=hE.leave (fun q=>if q=2 then i0 else 0) rfl hB
 exact ret1v rfl (AF rfl) ⟨O',hS',(Ob.leave hx0' hz (hl 2 (by decide) (by decide)) hx0.2),(vInt (toIntR _))⟩
noncomputable def By (x0:List U64) (x1:List U64):Option Bool :=
  if (x0.length:Int)≠(x1.length:Int) then (some false) else (bnd (rng (ρ:=Bool) (fun (k18:Nat) (a19:U64) (s16:Unit)=>bnd (x1[k18]?) fun a36=>if (a19.toNat:Int)≠(a36.toNat:Int) then (some (.ret false)) else (some (.next ()))) x0 0 ()) fun res14=>fin res14 fun (s50:Unit)=>some true)
theorem EQ {w:World} {A:Nat→Prop} (hA:∀ k,A k→k < w.heap.size) {vx0:Value} {x0:List U64} (hx0:Vb w A vx0 x0) {vx1:Value} {x1:List U64} (hx1:Vb w A vx1 x1) {r:Bool} (hm:By x0 x1=some r) :
    Fn Tryz.prog 97 [vx0,vx1] w fun v w'=>Ext w w'∧Vb w' (upA A w w') v r:=by
 obtain ⟨O,hB,hA0⟩:=enter hA
 replace hx0:=hx0.mono hA0
 obtain ⟨A3,c4,rfl⟩:=hx0.form
 replace hx1:=hx1.mono hA0
 obtain ⟨A5,c6,rfl⟩:=hx1.form
 refine AJ Tryz.func97 rfl Tryz.ntmps97 rfl ?_
 unfold By at hm
 refine Ah (Ae (o_as rfl rfl (o_z ?_)))
 refine Ah (Ah (Ae (o_mv rfl rfl (o_ln rfl rfl ?_))))
 have l8:x0.length≤9223372036854775807:=Nat.le_trans hx0.len.2.1 hx0.len.2.2
 have r7:inI64 (x0.length:Int):=rngNat l8
 refine o_mv rfl rfl (o_ln rfl rfl ?_)
 have l10:x1.length≤9223372036854775807:=Nat.le_trans hx1.len.2.1 hx1.len.2.2
 have r9:inI64 (x1.length:Int):=rngNat l10
 refine o_neS rfl rfl rfl (fun c11=>?_) fun c11=>?_
 ·
  replace hm:=ip hm c11
  refine o_z ?_
  refine Ar rfl (Ah (Ae (o_as rfl rfl (o_z ?_))))
  refine At ?_
  obtain rfl:=sm hm
  exact ret1v rfl (AF rfl) ⟨hB.ext,vBool⟩
 ·
  replace hm:=im hm c11
  refine o_z ?_
  refine Aj rfl (Am (Ah (Ah (Ae (o_mv rfl rfl (o_ln rfl rfl ?_))))))
  have l13:x0.length≤9223372036854775807:=Nat.le_trans hx0.len.2.1 hx0.len.2.2
  have r12:inI64 (x0.length:Int):=rngNat l13
  refine o_mv rfl rfl (o_z ?_)
  obtain ⟨res14,hL15,hm⟩:=bs hm
  refine AL (aft res14 (fun (s16:Unit) (x17:Unit)=>[]) (fun s16 x17 w'=>∃ O':Lab,Bs w A w' O')) ?_ ?_
  ·
   refine Al (Bh (σ:=Unit) (X:=Unit) (x0.length) hL15 rfl l13 (fun (s16:Unit) (x17:Unit)=>[(0,(.slice A3 x0.length c4)),(1,(.slice A5 x1.length c6))]) _ (fun s16 x17 w'=>∃ O':Lab,Bs w A w' O'∧Vb w' (Fr 0 w' O') (.slice A3 x0.length c4) x0∧Vb w' (Fr 0 w' O') (.slice A5 x1.length c6) x1) _ () ⟨O,hB,hx0,hx1⟩ ⟨rfl,rfl,rfl,rfl,trivial⟩ (fun _ _=>⟨rfl,rfl⟩) (fun _ _=>trivial) (fun _ _ _ ⟨O',hB,hx0,hx1⟩=>⟨O',hB⟩) ⟨rfl,rfl,rfl⟩ ⟨rfl,rfl⟩ ?_)
   rintro k18 a19 s16 x17 w20 cc22 hx23 ⟨O21,hB,hx0,hx1⟩ hf24 hret25 hbrk26
   have rk18:inI64 (k18:Int):=rngK hx23 l13
   refine Ah (Ae (o_mv rfl rfl (o_as rfl rfl (o_z ?_))))
   refine Ah (BH (·=w20) [(0,true),(1,true),(2,true),(3,true),(4,true),(5,true),(6,true),(7,true),(8,true)] (by kernel_rfl) rfl (by kernel_rfl) rfl ?_)
   refine h_mv rfl rfl rfl (h_mv rfl rfl rfl ?_)
   obtain ⟨b29,o30,ce31,hA32,hl33,hd34,rfl⟩:=hx0.elem' hx23
   refine h_iaE (hA:=hA32) (hj:=rfl) (hlt:=hl33) rfl rfl rfl rfl ?_
   refine h_ldA (hc:=cat0 hd34) rfl rfl rfl ?_
   refine h_mv rfl rfl rfl (h_mv rfl rfl rfl ?_)
   obtain ⟨a36,e37,hf24⟩:=bs hf24
   obtain ⟨b38,o39,ce40,hA41,hl42,hd43,rfl⟩:=hx1.elem' e37
   refine h_iaE (hA:=hA41) (hj:=rfl) (hlt:=hl42) rfl rfl rfl rfl ?_
   refine h_ldA (hc:=cat0 hd43) rfl rfl rfl ?_
   refine h_neS rfl rfl rfl rfl (fun c45=>?_) fun c45=>?_
   ·
    replace hf24:=ip hf24 c45
    refine h_z ?_
    refine Ar rfl (Ah (Ae (o_as rfl rfl (o_z ?_))))
    refine At ?_
    obtain rfl:=sm hf24
    obtain rfl:=hret25 _ rfl
    obtain rfl:=sm (BW hm)
    exact ret1v rfl (AF rfl) ⟨hB.ext,vBool⟩
   ·
    replace hf24:=im hf24 c45
    refine h_z ?_
    refine Aj rfl (Am ?_)
    obtain rfl:=sm hf24
    refine (?_:Exists _)
    exact ⟨_,(),rfl,⟨rfl,rfl,rfl,rfl,trivial⟩,_,hB,hx0,hx1⟩
  rintro l46 w47 ⟨s50,x51,rfl,hs49,O48,hB⟩
  replace hm:=AR hm
  refine AM _ hs49 ?_
  refine Ah (Ae (o_as rfl rfl (o_z ?_)))
  refine At ?_
  obtain rfl:=sm hm
  exact ret1v rfl (AF rfl) ⟨hB.ext,vBool⟩
end
section
open Go Go.RowKit
attribute [local irreducible] ewp owp hwp hwq hws Ev Evg Fn retPost loud loudS Res1
attribute [local irreducible] hwx loudX
instance:TMap Tryz.prog 140 3 22:=⟨Tryz.underlying140⟩
instance:TKey Tryz.prog 3 Int:=⟨Tryz.underlying3⟩
structure RLk where
  parent:Int
  op:Int
  cost:Int
structure REn where
  words:List U64
  link:RLk
instance:Rp REn where
  isAgg:=true
  size:=4
  R w F cs x:=∃ v0,cs=[v0,.int .i64 x.link.parent,.int .i64 x.link.op,.int .i64 x.link.cost]∧Vb w F v0 x.words∧inI64 x.link.parent∧inI64 x.link.op∧inI64 x.link.cost
  len:=by rintro w F cs x ⟨v0,rfl,h0,h1,h2,h3⟩;rfl
  one:=by rintro w F cs x ⟨v0,rfl,h0,h1,h2,h3⟩ u hu;simp at hu;rcases hu with rfl|rfl|rfl|rfl<;>first|rfl|exact Vb.one rfl (by assumption)
  agree:=by rintro w w' F cs x ⟨v0,rfl,h0,h1,h2,h3⟩ ha;exact ⟨v0,rfl,h0.agree ha,h1,h2,h3⟩
  mono:=by rintro w F G cs x ⟨v0,rfl,h0,h1,h2,h3⟩ ha;exact ⟨v0,rfl,h0.mono ha,h1,h2,h3⟩
structure Reg where
  packer:Pkr
  entries:List REn
  table:MapR 3 Int Int
instance:Ow Reg where
  R w F M v x:=∃ (g:Nat) (L:Lab) (c0 c1 c2:Value),v=.pointer (some ⟨g,0,none⟩)∧Blk w g 142 [c0,c1,c2]∧M g∧L g=0∧Ow.R w F (fun k=>M k∧L k=1) c0 x.packer∧RwM w F (fun k=>M k∧L k=2) 148 c1 x.entries∧Ow.R w F (fun k=>M k∧L k=3) c2 x.table
  agree:=by rintro w w' F M v x ⟨g,L,c0,c1,c2,rfl,hb,hM,hL,h0,h1,h2⟩ a1 a2;exact ⟨g,L,c0,c1,c2,rfl,hb.keep (a2 g hM),hM,hL,Ow.agree h0 a1 fun k hk=>a2 k hk.1,h1.agree a1 fun k hk=>a2 k hk.1,Ow.agree h2 a1 fun k hk=>a2 k hk.1⟩
  mono:=by rintro w F M F' M' v x ⟨g,L,c0,c1,c2,rfl,hb,hM,hL,h0,h1,h2⟩ a1 a2 a3;exact ⟨g,L,c0,c1,c2,rfl,hb,a2 g hM,hL,Ow.mono h0 a1 (fun k hk=>⟨a2 k hk.1,hk.2⟩) fun k hf hm=>a3 k hf hm.1,h1.mono a1 (fun k hk=>⟨a2 k hk.1,hk.2⟩) fun k hf hm=>a3 k hf hm.1,Ow.mono h2 a1 (fun k hk=>⟨a2 k hk.1,hk.2⟩) fun k hf hm=>a3 k hf hm.1⟩
instance:OwP Reg:=⟨by rintro w F M v x ⟨g,L,c0,c1,c2,rfl,_⟩;exact ⟨g,rfl⟩⟩
theorem Reg.opn {i:Nat} {w:World} {O:Lab} {p:Nat} {x:Reg} (h:Ob i w O (.pointer (some ⟨p,0,none⟩)) x) (l0 l1 l2 l3:Nat) (hl:l0≠0∧l1≠0∧l2≠0∧l3≠0):∃ (O':Lab) (c0 c1 c2:Value),St (eT i) w O w O'∧(∀ k,Fr i w O k→∃ q,q∈[l0,l1,l2,l3]∧Fr q w O' k)∧Lc l0 w O' p 142 [c0,c1,c2]∧Ob l1 w O' c0 x.packer∧Rw l2 w O' 148 c1 x.entries∧Ob l3 w O' c2 x.table:=by
  obtain ⟨⟨g,L,c0,c1,c2,hv,hb,hM,hL,h0,h1,h2⟩,hi⟩:=h
  obtain rfl:p=g:=by injection hv with hv;injection hv with hv;injection hv
  exact ⟨part O i L [l0,l1,l2,l3],c0,c1,c2,Ht hi,Gp (by simp),⟨hb,(DO (j:=0) rfl p ⟨hM,hL⟩).2⟩,⟨Ow.mono h0 (CR hi) (DO (j:=1) rfl) (frNe0 hl.2.1),hl.2.1⟩,h1.rw (CR hi) (DO (j:=2) rfl) hl.2.2.1,⟨Ow.mono h2 (CR hi) (DO (j:=3) rfl) (frNe0 hl.2.2.2),hl.2.2.2⟩⟩
theorem Reg.shut {w:World} {O:Lab} {p:Nat} {x:Reg} {l0 l1 l2 l3:Nat} {c0 c1 c2:Value} (hd:¬ 0∈[l0,l1,l2,l3]∧[l0,l1,l2,l3].idxOf l0=0∧[l0,l1,l2,l3].idxOf l1=1∧[l0,l1,l2,l3].idxOf l2=2∧[l0,l1,l2,l3].idxOf l3=3) (hb:Lc l0 w O p 142 [c0,c1,c2]) (h0:Ob l1 w O c0 x.packer) (h1:Rw l2 w O 148 c1 x.entries) (h2:Ob l3 w O c2 x.table):∃ O',St (·∈[l0,l1,l2,l3]) w O w O'∧(∀ k,Fr 0 w O k→Fr 0 w O' k)∧(∀ q,q∈[l0,l1,l2,l3]→∀ k,Fr q w O k→Fr l0 w O' k)∧Ob l0 w O' (.pointer (some ⟨p,0,none⟩)) x:=by
  have hb1:l0≠0:=fun e=>hd.1 (by simp [e])
  have hg:=Do (i:=l0) hd.2.1 (by simp) p ⟨hb.1.lt,hb.2⟩
  exact ⟨whole O l0 [l0,l1,l2,l3],Gq,BT hd.1,FK,⟨p,fun k=>[l0,l1,l2,l3].idxOf (O k),c0,c1,c2,rfl,hb.1,hg.1,hg.2,Ow.mono h0.1 (BT hd.1) (Do hd.2.2.1 (by simp)) (fun k a b=>frNe0 hb1 k a b.1),h1.m (BT hd.1) (Do hd.2.2.2.1 (by simp)) (fun k a b=>frNe0 hb1 k a b.1),Ow.mono h2.1 (BT hd.1) (Do hd.2.2.2.2 (by simp)) (fun k a b=>frNe0 hb1 k a b.1)⟩,hb1⟩
noncomputable def Dx (x0:List Int):Option ((Option Reg)×Err) :=
  bnd (EI x0) fun q4=>if q4.2.n≠0 then (some (none,(⟨q4.2.n⟩:Err))) else (bnd q4.1 fun o22=>some ((some (⟨o22,([]:List REn),(⟨[]⟩:MapR 3 Int Int)⟩:Reg)),(⟨0⟩:Err)))
theorem Iy {w:World} {O:Lab} {vx0:Value} {x0:List Int} (hx0:Vb w (Fr 0 w O) vx0 x0) (j0:Nat) (hj0:j0≠0) {r:(Option Reg)×Err} (hm:Dx x0=some r) :
    Fn Tryz.prog 77 [vx0] w fun v w'=>∃ O',St nT w O w' O'∧∃ v0 v1:Value,v=.tuple #[v0,v1]∧Obo j0 w' O' v0 r.1∧Vb w' (Fr 0 w' O') v1 r.2:=by
 obtain ⟨O0,hE,hz0⟩:=ent0 (w:=w) (O:=O)
 have hB:Bm w O0 w O0:=Bm.refl
 replace hx0:=hx0.mono hz0
 obtain ⟨A2,c3,rfl⟩:=hx0.form
 refine AJ Tryz.func77 rfl Tryz.ntmps77 rfl ?_
 unfold Dx at hm
 refine Ah (Ae (o_as rfl rfl (o_as rfl rfl (o_z ?_))))
 refine Ah (Ae (o_mv rfl rfl ?_))
 obtain ⟨q4,e5,hm⟩:=bs hm
 refine BA (O:=O0) (Kp hx0 2 (by decide) e5) rfl rfl fun v10 w6 O7 S8 h9=>?_
 obtain ⟨v11,v12,rfl,h13,h14⟩:=h9
 obtain ⟨rfl,r15⟩:=h14.err
 refine o_mv rfl rfl (o_ex rfl rfl rfl (o_ex rfl rfl rfl (o_as rfl rfl (o_as rfl rfl (o_z ?_)))))
 refine Ah (Ah (Ae (o_mv rfl rfl (o_rnS rfl rfl (fun c16=>?_) fun c16=>?_))))
 ·
  replace hm:=ip hm c16
  refine o_z ?_
  refine Ar rfl (Ah (Ae (o_mv rfl rfl (o_as rfl rfl (o_as rfl rfl (o_z ?_))))))
  refine At ?_
  obtain rfl:=sm hm
  replace hB:=hB.st S8
  obtain ⟨O',hS',hz,hl⟩:=hE.leave (fun _=>0) rfl hB
  exact ret2 rfl (AF rfl) (AF rfl) ⟨O',hS',_,_,rfl,rfl,(vErr r15)⟩
 ·
  replace hm:=im hm c16
  refine o_z ?_
  refine Aj rfl (Am (Ah (Ae (o_mv rfl rfl (KW (K:=Int) (V:=Int) 3 3 (by decide) O7 rfl fun p17 w18 O19 S20 h21=>?_)))))
  obtain ⟨o22,e23,hm⟩:=bs hm
  replace h13:=h13.st S20
  rw [e23] at h13
  obtain ⟨p24,rfl⟩:=Ob.ptr h13
  refine o_bd rfl rfl rfl ?_
  refine l_box 4 O19 rfl rfl fun g25 w26 O27 S28 h29=>?_
  replace h29:Lc 4 w26 O27 g25 142 [(.pointer (some ⟨p24,0,none⟩)),(.slice none 0 0),(.map (some p17))]:=h29
  refine o_as rfl rfl (o_as rfl rfl (o_z ?_))
  refine At ?_
  have h30:Rw 5 w26 O27 148 (.slice none 0 0) ([]:List REn):=Rw.nil 5 (by decide)
  replace h13:=h13.st S28
  replace h21:=h21.st S28
  obtain ⟨O32,S33,hz35,ha36,h34⟩:=Reg.shut (x:=(⟨o22,([]:List REn),(⟨[]⟩:MapR 3 Int Int)⟩:Reg)) (l0:=4) (l1:=2) (l2:=5) (l3:=3) (by decide) h29 h13 h30 h21
  obtain rfl:=sm hm
  replace hB:=(((hB.st S8).st S20).st S28).st S33
  obtain ⟨O',hS',hz,hl⟩:=hE.leave (fun q=>if q=4 then j0 else 0) rfl hB
  exact ret2 rfl (AF rfl) (AF rfl) ⟨O',hS',_,_,rfl,(Ob.leave h34 hz (hl 4 (by decide) (by decide)) hj0),(vErr (show inI64 0 from by decide))⟩
noncomputable def BU (x0:Reg) (x1:List Int):Option ((List U64)×Int×Int×Err) :=
  bnd (CE x0.packer x1) fun q20=>if q20.2.n≠0 then (some (([]:List U64),0,(-1),(⟨2⟩:Err))) else (bnd (CF x0.packer q20.1) fun q41=>bnd (rng (ρ:=(List U64)×Int×Int×Err) (fun (k66:Nat) (a67:Int) (s64:Unit)=>bnd (atI x0.entries a67) fun a100=>bnd (By a100.words q20.1) fun q118=>if q118=true then some (.ret (q20.1,q41,a67,(⟨0⟩:Err))) else some (.next ())) (mget ([]:List Int) x0.table.l q41) 0 ()) fun res62=>fin res62 fun (s139:Unit)=>some (q20.1,q41,(-1),(⟨0⟩:Err)))
theorem FC {w:World} {O:Lab} {p0 i0:Nat} {x0:Reg} (hx0:Ob i0 w O (.pointer (some ⟨p0,0,none⟩)) x0) {vx1:Value} {x1:List Int} (hx1:Vb w (Fr 0 w O) vx1 x1) {r:(List U64)×Int×Int×Err} (hm:BU x0 x1=some r) :
    Fn Tryz.prog 83 [(.pointer (some ⟨p0,0,none⟩)),vx1] w fun v w'=>∃ O',St (eT i0) w O w' O'∧∃ v0 v1 v2 v3:Value,Ob i0 w' O' (.pointer (some ⟨p0,0,none⟩)) x0∧v=.tuple #[v0,v1,v2,v3]∧Vb w' (Fr 0 w' O') v0 r.1∧Vb w' (Fr 0 w' O') v1 r.2.1∧Vb w' (Fr 0 w' O') v2 r.2.2.1∧Vb w' (Fr 0 w' O') v3 r.2.2.2:=by
 obtain ⟨O0,hE,hz0,hl2⟩:=ent1 (w:=w) (O:=O) hx0.2
 have hx0':=Ob.leave hx0 hz0 hl2 (j:=2) (by decide)
 have hB:Bm w O0 w O0:=Bm.refl
 replace hx1:=hx1.mono hz0
 obtain ⟨A3,c4,rfl⟩:=hx1.form
 refine AJ Tryz.func83 rfl Tryz.ntmps83 rfl ?_
 unfold BU at hm
 refine Ah (Ae (o_as rfl rfl (o_as rfl rfl (o_as rfl rfl (o_as rfl rfl (o_z ?_))))))
 refine Ah (Ae (o_mv rfl rfl (o_nc rfl rfl ?_)))
 obtain ⟨O5,v9,v12,v17,S6,ha8,h7,h10,h13,h18⟩:=Reg.opn hx0' 2 3 4 5 (by decide)
 obtain ⟨p11,rfl⟩:=h10.ptr
 obtain ⟨A14,c15,rfl⟩:=h13.form
 obtain ⟨p19,rfl⟩:=h18.mptr
 refine o_fa rfl rfl (o_ld (hc:=Blk.cell (i:=0) (h7.1) rfl) rfl rfl ?_)
 refine o_mv rfl rfl ?_
 obtain ⟨q20,e21,hm⟩:=bs hm
 replace hx1:=hx1.st S6
 refine BA (O:=O5) (Hh h10 hx1 e21) rfl rfl fun v26 w22 O23 S24 h25=>?_
 obtain ⟨v28,v29,h27,rfl,h30,h31⟩:=h25
 obtain ⟨A32,c33,rfl⟩:=h30.form
 obtain ⟨rfl,r34⟩:=h31.err
 refine o_mv rfl rfl (o_ex rfl rfl rfl (o_ex rfl rfl rfl (o_as rfl rfl (o_as rfl rfl (o_z ?_)))))
 refine Ah (Ah (Ae (o_mv rfl rfl (o_rnS rfl rfl (fun c35=>?_) fun c35=>?_))))
 ·
  replace hm:=ip hm c35
  refine o_z ?_
  refine Ar rfl (Ah (Ae (o_miE rfl rfl ?_)))
  refine o_as rfl rfl (o_as rfl rfl (o_as rfl rfl (o_as rfl rfl (o_z ?_))))
  refine At ?_
  replace h7:=h7.st S24
  replace h13:=h13.st S24
  replace h18:=h18.st S24
  obtain ⟨O36,S37,hz39,ha40,h38⟩:=Reg.shut (x:=x0) (l0:=2) (l1:=3) (l2:=4) (l3:=5) (by decide) h7 h27 h13 h18
  obtain rfl:=sm hm
  replace hB:=((hB.st S6).st S24).st S37
  obtain ⟨O',hS',hz,hl⟩:=hE.leave (fun q=>if q=2 then i0 else 0) rfl hB
  exact ret4 rfl (AF rfl) (AF rfl) (AF rfl) (AF rfl) ⟨O',hS',_,_,_,_,(Ob.leave h38 hz (hl 2 (by decide) (by decide)) hx0.2),rfl,(Vb.mono (Vb.nil _ _) hz),(vInt (show inI64 (0) from by decide)),(vInt (show inI64 (-1) from by decide)),(vErr (by decide))⟩
 ·
  replace hm:=im hm c35
  refine o_z ?_
  refine Aj rfl (Am (Ah (Ae (o_mv rfl rfl (o_nc rfl rfl (o_fa rfl rfl ?_))))))
  replace h7:=h7.st S24
  refine o_ld (hc:=Blk.cell (i:=0) (h7.1) rfl) rfl rfl ?_
  refine o_mv rfl rfl ?_
  obtain ⟨q41,e42,hm⟩:=bs hm
  refine BA (O:=O23) (Hi h27 h30 e42) rfl rfl fun v47 w43 O44 S45 h46=>?_
  obtain ⟨h48,h49⟩:=h46
  obtain ⟨rfl,r50⟩:=h49.int
  refine o_as rfl rfl (o_z ?_)
  refine Ah (Ah (Ae (o_mv rfl rfl (o_nc rfl rfl (o_fa rfl rfl ?_)))))
  replace h7:=h7.st S45
  refine o_ld (hc:=Blk.cell (i:=2) (h7.1) rfl) rfl rfl ?_
  refine o_mv rfl rfl ?_
  replace h18:=(h18.st S24).st S45
  obtain ⟨A53,c54,hl51,h52⟩:=MapR.get h18 q41
  refine o_lk q41 hl51 rfl rfl rfl ?_
  refine o_ln rfl rfl ?_
  have l56:(mget ([]:List Int) x0.table.l q41).length≤9223372036854775807:=Nat.le_trans h52.len.2.1 h52.len.2.2
  have r55:inI64 ((mget ([]:List Int) x0.table.l q41).length:Int):=rngNat l56
  refine o_mv rfl rfl (o_z ?_)
  replace h13:=(h13.st S24).st S45
  obtain ⟨O57,S58,hz60,ha61,h59⟩:=Reg.shut (x:=x0) (l0:=2) (l1:=3) (l2:=4) (l3:=5) (by decide) h7 h48 h13 h18
  replace h52:=h52.shutS S58 hz60 ha61 [2] (by decide)
  obtain ⟨res62,hL63,hm⟩:=bs hm
  refine AL (aft res62 (fun (s64:Unit) (x65:Unit)=>[(8,(.slice A32 q20.1.length c33)),(10,(.int .i64 q41))]) (fun s64 x65 w'=>∃ O':Lab,Bm w O0 w' O'∧Vb w' (Fr 0 w' O') (.slice A32 q20.1.length c33) q20.1∧Ob 2 w' O' (.pointer (some ⟨p0,0,none⟩)) x0)) ?_ ?_
  ·
   refine Al ?_
   replace hB:=(((hB.st S6).st S24).st S45).st S58
   replace h30:=(h30.st S45).st S58
   refine Bh (σ:=Unit) (X:=Unit) ((mget ([]:List Int) x0.table.l q41).length) hL63 rfl l56 (fun (s64:Unit) (x65:Unit)=>[(0,(.pointer (some ⟨p0,0,none⟩))),(8,(.slice A32 q20.1.length c33)),(10,(.int .i64 q41)),(36,(.slice A53 (mget ([]:List Int) x0.table.l q41).length c54))]) _ (fun s64 x65 w'=>∃ O':Lab,Bm w O0 w' O'∧Ob 2 w' O' (.pointer (some ⟨p0,0,none⟩)) x0∧Vb w' (Fr 0 w' O') (.slice A32 q20.1.length c33) q20.1∧Vb w' (FrS [2] w' O') (.slice A53 (mget ([]:List Int) x0.table.l q41).length c54) (mget ([]:List Int) x0.table.l q41)) _ () ⟨O57,hB,h59,h30,h52⟩ ⟨rfl,rfl,rfl,rfl,rfl,rfl,trivial⟩ (fun _ _=>⟨rfl,rfl⟩) (fun _ _=>⟨rfl,rfl,trivial⟩) (fun _ _ _ ⟨O',hB,h59,h30,h52⟩=>⟨O',hB,h30,h59⟩) ⟨rfl,rfl,rfl⟩ ⟨rfl,rfl⟩ ?_
   rintro k66 a67 s64 x65 w68 cc70 hx71 ⟨O69,hB,h59,h30,h52⟩ hf72 hret73 hbrk74
   have rk66:inI64 (k66:Int):=rngK hx71 l56
   refine Ah (Ae ?_)
   obtain ⟨b77,o78,ce79,hA80,hl81,hd82,rfl,r84⟩:=h52.elem' hx71
   refine o_iaE (hA:=hA80) (hj:=rfl) (hlt:=hl81) rfl rfl rfl ?_
   refine o_ld (hc:=cat0 hd82) rfl rfl ?_
   refine o_as rfl rfl (o_z ?_)
   refine Ah (Ae (o_mv rfl rfl (o_nc rfl rfl ?_)))
   obtain ⟨O85,v89,v92,v97,S86,ha88,h87,h90,h93,h98⟩:=Reg.opn h59 2 3 4 5 (by decide)
   obtain ⟨p91,rfl⟩:=h90.ptr
   obtain ⟨A94,c95,rfl⟩:=h93.form
   obtain ⟨p99,rfl⟩:=h98.mptr
   replace h52:=h52.opnS S86 (by decide) ha88 [2,3,4,5] (by decide)
   refine o_fa rfl rfl (o_ld (hc:=Blk.cell (i:=1) (h87.1) rfl) rfl rfl ?_)
   refine o_mv rfl rfl ?_
   obtain ⟨a100,e101,hf72⟩:=bs hf72
   obtain ⟨p103,x102⟩:=AP e101
   obtain ⟨b104,o105,ce106,hA107,hl108,hd109,v111,rfl,h112,r115,r116,r117⟩:=h93.elem x102
   obtain ⟨A113,c114,rfl⟩:=h112.form
   refine o_iaE (hA:=hA107) (hj:=(Int.toNat_of_nonneg p103).symm) (hlt:=hl108) rfl rfl rfl ?_
   refine o_fa rfl rfl (o_ld (hc:=cat0 hd109) rfl rfl ?_)
   refine o_mv rfl rfl ?_
   obtain ⟨q118,e119,hf72⟩:=bs hf72
   replace h30:=h30.st S86
   refine Bg (O:=O85) (A:=All w68) (R:=fun w' F v=>Vb w' F v q118) (EQ (fun _ h=>h) (Vb.mono (F:=Fr 0 w68 O85) h112 Fr.lt) (Vb.mono (F:=Fr 0 w68 O85) h30 Fr.lt) e119) rfl rfl fun v124 w120 O121 S122 h123=>?_
   obtain rfl:=h123.bool
   replace h52:=h52.stS S122 id (fun _ _=>id)
   cases q118
   case false =>
    replace hf72:=iF hf72
    refine o_z ?_
    refine Aj rfl (Am ?_)
    replace h87:=h87.st S122
    replace h90:=h90.st S122
    replace h93:=h93.st S122
    replace h98:=h98.st S122
    obtain ⟨O125,S126,hz128,ha129,h127⟩:=Reg.shut (x:=x0) (l0:=2) (l1:=3) (l2:=4) (l3:=5) (by decide) h87 h90 h93 h98
    replace h52:=h52.shutS S126 hz128 ha129 [2] (by decide)
    obtain rfl:=sm hf72
    refine (?_:Exists _)
    replace hB:=((hB.st S86).st S122).st S126
    replace h30:=(h30.st S122).st S126
    exact ⟨_,(),rfl,⟨rfl,rfl,rfl,rfl,rfl,rfl,trivial⟩,_,hB,h127,h30,h52⟩
   replace hf72:=iT hf72
   refine o_z ?_
   refine Ar rfl (Ah (Ae (o_mv rfl rfl (o_mv rfl rfl (o_mv rfl rfl (o_as rfl rfl (o_as rfl rfl (o_as rfl rfl (o_as rfl rfl (o_z ?_))))))))))
   refine At ?_
   replace h87:=h87.st S122
   replace h90:=h90.st S122
   replace h93:=h93.st S122
   replace h98:=h98.st S122
   obtain ⟨O130,S131,hz133,ha134,h132⟩:=Reg.shut (x:=x0) (l0:=2) (l1:=3) (l2:=4) (l3:=5) (by decide) h87 h90 h93 h98
   obtain rfl:=sm hf72
   obtain rfl:=hret73 _ rfl
   obtain rfl:=sm (BW hm)
   replace hB:=((hB.st S86).st S122).st S131
   obtain ⟨O',hS',hz,hl⟩:=hE.leave (fun q=>if q=2 then i0 else 0) rfl hB
   replace h30:=(h30.st S122).st S131
   exact ret4 rfl (AF rfl) (AF rfl) (AF rfl) (AF rfl) ⟨O',hS',_,_,_,_,(Ob.leave h132 hz (hl 2 (by decide) (by decide)) hx0.2),rfl,(Vb.mono h30 hz),(vInt r50),(vInt r84),(vErr (show inI64 0 from by decide))⟩
  replace hB:=(((hB.st S6).st S24).st S45).st S58
  replace h30:=(h30.st S45).st S58
  rintro l135 w136 ⟨s139,x140,rfl,hs138,O137,hB,h30,h59⟩
  replace hm:=AR hm
  refine AM _ hs138 ?_
  refine Ah (Ae (o_mv rfl rfl (o_mv rfl rfl (o_as rfl rfl (o_as rfl rfl (o_as rfl rfl (o_as rfl rfl (o_z ?_))))))))
  refine At ?_
  obtain rfl:=sm hm
  obtain ⟨O',hS',hz,hl⟩:=hE.leave (fun q=>if q=2 then i0 else 0) rfl hB
  exact ret4 rfl (AF rfl) (AF rfl) (AF rfl) (AF rfl) ⟨O',hS',_,_,_,_,(Ob.leave h59 hz (hl 2 (by decide) (by decide)) hx0.2),rfl,(Vb.mono h30 hz),(vInt r50),(vInt (show inI64 (-1) from by decide)),(vErr (show inI64 0 from by decide))⟩
noncomputable def BF (x0:Reg) (x1:List Int):Option (Int×Bool×Err×Reg) :=
  bnd (BU x0 x1) fun q5=>if q5.2.2.2.n≠0 then (some (0,false,(⟨q5.2.2.2.n⟩:Err),x0)) else (if 0≤q5.2.2.1 then (some (q5.2.2.1,false,(⟨0⟩:Err),x0)) else (if 65536≤(x0.entries.length:Int) then (some (0,false,(⟨10⟩:Err),x0)) else (bnd (appI 48 x0.entries [(⟨q5.1,(⟨(-1),(-1),0⟩:RLk)⟩:REn)]) fun u53=>bnd (appI 8 (mget ([]:List Int) x0.table.l q5.2.1) ([(x0.entries.length:Int)]:List Int)) fun u82=>some ((x0.entries.length:Int),true,(⟨0⟩:Err),(⟨x0.packer,u53,(⟨mput x0.table.l q5.2.1 u82⟩:MapR 3 Int Int)⟩:Reg)))))
theorem Eh {w:World} {O:Lab} {p0 i0:Nat} {x0:Reg} (hx0:Ob i0 w O (.pointer (some ⟨p0,0,none⟩)) x0) {vx1:Value} {x1:List Int} (hx1:Vb w (Fr 0 w O) vx1 x1) {r:Int×Bool×Err×Reg} (hm:BF x0 x1=some r) :
    Fn Tryz.prog 62 [(.pointer (some ⟨p0,0,none⟩)),vx1] w fun v w'=>∃ O',St (eT i0) w O w' O'∧∃ v0 v1 v2:Value,Ob i0 w' O' (.pointer (some ⟨p0,0,none⟩)) r.2.2.2∧v=.tuple #[v0,v1,v2]∧Vb w' (Fr 0 w' O') v0 r.1∧Vb w' (Fr 0 w' O') v1 r.2.1∧Vb w' (Fr 0 w' O') v2 r.2.2.1:=by
 obtain ⟨O0,hE,hz0,hl2⟩:=ent1 (w:=w) (O:=O) hx0.2
 have hx0':=Ob.leave hx0 hz0 hl2 (j:=2) (by decide)
 have hB:Bm w O0 w O0:=Bm.refl
 replace hx1:=hx1.mono hz0
 obtain ⟨A3,c4,rfl⟩:=hx1.form
 refine AJ Tryz.func62 rfl Tryz.ntmps62 rfl ?_
 unfold BF at hm
 refine Ah (Ae (o_as rfl rfl (o_as rfl rfl (o_as rfl rfl (o_z ?_)))))
 refine Ah (Ah (Ae (o_mv rfl rfl (o_pn rfl rfl ?_))))
 refine o_z ?_
 refine Aj rfl (Am (Ah (Ae (o_mv rfl rfl (o_mv rfl rfl ?_)))))
 obtain ⟨q5,e6,hm⟩:=bs hm
 refine BA (O:=O0) (FC hx0' hx1 e6) rfl rfl fun v11 w7 O8 S9 h10=>?_
 obtain ⟨v13,v14,v15,v16,h12,rfl,h17,h18,h19,h20⟩:=h10
 obtain ⟨A21,c22,rfl⟩:=h17.form
 obtain ⟨rfl,r23⟩:=h18.int
 obtain ⟨rfl,r24⟩:=h19.int
 obtain ⟨rfl,r25⟩:=h20.err
 refine o_mv rfl rfl (o_ex rfl rfl rfl (o_ex rfl rfl rfl (o_ex rfl rfl rfl (o_ex rfl rfl rfl (o_as rfl rfl (o_as rfl rfl (o_as rfl rfl (o_as rfl rfl (o_z ?_)))))))))
 refine Ah (Al (Ah (Ae (o_mv rfl rfl (o_rnS rfl rfl (fun c26=>?_) fun c26=>?_)))))
 ·
  replace hm:=ip hm c26
  refine o_as rfl rfl (o_z ?_)
  refine Ar rfl (Ah (Ae (o_mv rfl rfl (o_as rfl rfl (o_as rfl rfl (o_as rfl rfl (o_z ?_)))))))
  refine At ?_
  obtain rfl:=sm hm
  replace hB:=hB.st S9
  obtain ⟨O',hS',hz,hl⟩:=hE.leave (fun q=>if q=2 then i0 else 0) rfl hB
  exact ret3 rfl (AF rfl) (AF rfl) (AF rfl) ⟨O',hS',_,_,_,(Ob.leave h12 hz (hl 2 (by decide) (by decide)) hx0.2),rfl,(vInt (show inI64 (0) from by decide)),vBool,(vErr r25)⟩
 ·
  replace hm:=im hm c26
  refine o_as rfl rfl (o_z ?_)
  refine Aj rfl (Ah (Ae (o_mv rfl rfl (o_geS rfl rfl rfl (fun c27=>?_) fun c27=>?_))))
  ·
   replace hm:=ip hm c27
   refine o_as rfl rfl (o_z ?_)
   refine Ar rfl (Ah (Ae (o_mv rfl rfl (o_as rfl rfl (o_as rfl rfl (o_as rfl rfl (o_z ?_)))))))
   refine At ?_
   obtain rfl:=sm hm
   replace hB:=hB.st S9
   obtain ⟨O',hS',hz,hl⟩:=hE.leave (fun q=>if q=2 then i0 else 0) rfl hB
   exact ret3 rfl (AF rfl) (AF rfl) (AF rfl) ⟨O',hS',_,_,_,(Ob.leave h12 hz (hl 2 (by decide) (by decide)) hx0.2),rfl,(vInt r24),vBool,(vErr (show inI64 0 from by decide))⟩
  ·
   replace hm:=im hm c27
   refine o_as rfl rfl (o_z ?_)
   refine Aj rfl (Ah (Ae (o_mv rfl rfl (o_nc rfl rfl ?_))))
   obtain ⟨O28,v32,v35,v40,S29,ha31,h30,h33,h36,h41⟩:=Reg.opn h12 2 3 4 5 (by decide)
   obtain ⟨p34,rfl⟩:=h33.ptr
   obtain ⟨A37,c38,rfl⟩:=h36.form
   obtain ⟨p42,rfl⟩:=h41.mptr
   refine o_fa rfl rfl (o_ld (hc:=Blk.cell (i:=1) (h30.1) rfl) rfl rfl ?_)
   refine o_ln rfl rfl ?_
   have l44:x0.entries.length≤9223372036854775807:=Nat.le_trans h36.len.2.1 h36.len.2.2
   have r43:inI64 (x0.entries.length:Int):=rngNat l44
   refine o_geS rfl rfl rfl (fun c45=>?_) fun c45=>?_
   ·
    replace hm:=ip hm c45
    refine o_as rfl rfl (o_z ?_)
    refine Ar rfl (Ah (Ae (o_miE rfl rfl ?_)))
    refine o_as rfl rfl (o_as rfl rfl (o_as rfl rfl (o_z ?_)))
    refine At ?_
    obtain ⟨O46,S47,hz49,ha50,h48⟩:=Reg.shut (x:=x0) (l0:=2) (l1:=3) (l2:=4) (l3:=5) (by decide) h30 h33 h36 h41
    obtain rfl:=sm hm
    replace hB:=((hB.st S9).st S29).st S47
    obtain ⟨O',hS',hz,hl⟩:=hE.leave (fun q=>if q=2 then i0 else 0) rfl hB
    exact ret3 rfl (AF rfl) (AF rfl) (AF rfl) ⟨O',hS',_,_,_,(Ob.leave h48 hz (hl 2 (by decide) (by decide)) hx0.2),rfl,(vInt (show inI64 (0) from by decide)),vBool,(vErr (by decide))⟩
   ·
    replace hm:=im hm c45
    refine o_as rfl rfl (o_z ?_)
    refine Aj rfl (Am (Ah (Ae (o_mv rfl rfl (o_nc rfl rfl (o_fa rfl rfl (o_ld (hc:=Blk.cell (i:=1) (h30.1) rfl) rfl rfl ?_)))))))
    refine o_ln rfl rfl ?_
    have l52:x0.entries.length≤9223372036854775807:=Nat.le_trans h36.len.2.1 h36.len.2.2
    have r51:inI64 (x0.entries.length:Int):=rngNat l52
    refine o_as rfl rfl (o_z ?_)
    refine Ah (Ae (o_mv rfl rfl (o_mv rfl rfl (o_nc rfl rfl (o_fa rfl rfl (o_ld (hc:=Blk.cell (i:=1) (h30.1) rfl) rfl rfl ?_))))))
    refine o_mv rfl rfl (o_bd rfl rfl rfl ?_)
    refine o_bd rfl rfl rfl ?_
    obtain ⟨u53,e54,hm⟩:=bs hm
    obtain ⟨e54,e55,e56⟩:=AO e54
    replace h17:=h17.st S29
    refine CB rfl (a:=(⟨q5.1,(⟨(-1),(-1),0⟩:RLk)⟩:REn)) h36 (Vb.ofAgg (cs:=[(.slice A21 q5.1.length c22),(.int .i64 (-1)),(.int .i64 (-1)),(.int .i64 0)]) (x:=(⟨q5.1,(⟨(-1),(-1),0⟩:RLk)⟩:REn)) rfl ⟨_,rfl,h17,(show inI64 (-1) from by decide),(show inI64 (-1) from by decide),(show inI64 (0) from by decide)⟩) (fun _=>rfl) rfl (by decide) (by decide) e55 e56 ⟨rfl,rfl⟩ fun g57 A58 c59 w60 O61 S62 h63=>?_
    rw [← e54] at h63 ⊢
    refine o_nc rfl rfl (o_fa rfl rfl ?_)
    replace h30:=h30.st S62
    refine AK h30 rfl rfl rfl (Nat.le_of_ble_eq_true rfl) (by first|exact allOne rfl|simp [Value.cells,Value.oneCell',AI]) fun w65 S66 h30=>?_
    replace h30:Lc 2 w65 O61 p0 142 [(.pointer (some ⟨p34,0,none⟩)),(.slice A58 u53.length c59),(.map (some p42))]:=h30
    refine o_z ?_
    refine Ah (Be [(13,[5,7])] O61 ?_)
    refine x_pre (fuel:=8) [] [(5,true),(6,true),(7,true),(8,true),(9,true),(10,true),(11,true)] (by kernel_rfl) rfl ?_
    refine h_mv rfl rfl rfl (h_nc rfl rfl rfl (h_fa rfl rfl rfl (h_ldC (hc:=fun w' ⟨O',hq⟩=>Blk.cell (i:=2) ((h30.st hq (by decide)).1) rfl) rfl rfl rfl ?_)))
    refine h_mv rfl rfl rfl ?_
    replace h41:=(h41.st S62).st S66
    obtain ⟨A69,c70,hl67,h68⟩:=MapR.get h41 q5.2.1
    refine h_lk q5.2.1 (fun w' ⟨O',hq⟩=>hl67.keep (hq.agree (i:=5) (by decide) _ (MapR.at h41))) rfl rfl rfl rfl ?_
    refine h_mv rfl rfl rfl (AH ?_)
    refine x_pre (fuel:=3) [5,7] [(0,true),(1,true),(2,true),(3,true),(4,true)] (by kernel_rfl) rfl ?_
    refine h_mv rfl rfl rfl (h_nc rfl rfl rfl (h_fa rfl rfl rfl (h_ldC (hc:=fun w' ⟨O',hq⟩=>Blk.cell (i:=2) ((h30.st hq (by decide)).1) rfl) rfl rfl rfl ?_)))
    refine h_mv rfl rfl rfl (AH ?_)
    refine x_one (i:=12) (by kernel_rfl) rfl ?_
    refine Bd 6 (by decide) O61 (xs:=(([(x0.entries.length:Int)]:List Int):List Int)) rfl rfl rfl rfl ⟨(vInt r51),trivial⟩ (by decide) (by decide) rfl fun g71 w72 O73 S74 h75=>?_
    have hZ:=S74.lst [] (fun _ h=>h.elim)
    replace hl67:=hl67.keep (S74.agree (i:=5) id _ (MapR.at h41))
    replace h68:=h68.stS S74 id (fun _ _=>id)
    refine x_go [(13,[5,7])] hZ (by kernel_rfl) ?_
    refine x_one (i:=13) (by kernel_rfl) rfl ?_
    replace h41:=h41.st S74
    obtain ⟨O77,S78,h79,h80⟩:=MapR.take h41 hl67 7 (by decide) (by decide)
    have hZ:=S78.lst [5] (fun _ h=>by cases h;decide)
    obtain ⟨u82,e83,hm⟩:=bs hm
    obtain ⟨e83,e84,e85⟩:=AO e83
    replace h75:=h75.st S78
    refine Bb rfl h80 (h75.rd) rfl rfl (by decide) e84 e85 rfl fun A86 c87 w88 O89 S90 h91=>?_
    rw [← e83] at h91 ⊢
    replace hZ:=hZ.cmp S90 [5,7] (fun _ h=>by cases h;decide) rfl
    refine x_go [] hZ (by kernel_rfl) ?_
    refine x_one (i:=14) (by kernel_rfl) rfl ?_
    replace h79:=h79.st S90
    refine Lo h79 h91 (by decide) rfl rfl rfl fun w93 O94 S95 h96=>?_
    refine x_end (by kernel_rfl) ?_
    refine x_nil (by kernel_rfl) ?_
    refine Ah (Ae (o_mv rfl rfl (o_as rfl rfl (o_as rfl rfl (o_as rfl rfl (o_z ?_))))))
    refine At ?_
    replace h30:=(((h30.st S74).st S78).st S90).st S95
    replace h33:=(((((h33.st S62).st S66).st S74).st S78).st S90).st S95
    replace h63:=((((h63.st S66).st S74).st S78).st S90).st S95
    obtain ⟨O97,S98,hz100,ha101,h99⟩:=Reg.shut (x:=(⟨x0.packer,u53,(⟨mput x0.table.l q5.2.1 u82⟩:MapR 3 Int Int)⟩:Reg)) (l0:=2) (l1:=3) (l2:=4) (l3:=5) (by decide) h30 h33 h63 h96
    obtain rfl:=sm hm
    replace hB:=((((((((hB.st S9).st S29).st S62).st S66).st S74).st S78).st S90).st S95).st S98
    obtain ⟨O',hS',hz,hl⟩:=hE.leave (fun q=>if q=2 then i0 else 0) rfl hB
    exact ret3 rfl (AF rfl) (AF rfl) (AF rfl) ⟨O',hS',_,_,_,(Ob.leave h99 hz (hl 2 (by decide) (by decide)) hx0.2),rfl,(vInt r51),vBool,(vErr (show inI64 0 from by decide))⟩
noncomputable def Bn (x0:Reg) (x1:Int):Option Bool :=
  bnd (if 0≤x1 then (if x1 < (x0.entries.length:Int) then (some true) else (some false)) else (some false):Option Bool) fun y3=>some y3
theorem Cr {w:World} {O:Lab} {p0 i0:Nat} {x0:Reg} (hx0:Ob i0 w O (.pointer (some ⟨p0,0,none⟩)) x0) {x1:Int} (rx1:inI64 x1) {r:Bool} (hm:Bn x0 x1=some r) :
    Fn Tryz.prog 79 [(.pointer (some ⟨p0,0,none⟩)),(.int .i64 x1)] w fun v w'=>∃ O',St (eT i0) w O w' O'∧Ob i0 w' O' (.pointer (some ⟨p0,0,none⟩)) x0∧Vb w' (Fr 0 w' O') v r:=by
 obtain ⟨O0,hE,hz0,hl2⟩:=ent1 (w:=w) (O:=O) hx0.2
 have hx0':=Ob.leave hx0 hz0 hl2 (j:=2) (by decide)
 have hB:Bm w O0 w O0:=Bm.refl
 refine AJ Tryz.func79 rfl Tryz.ntmps79 rfl ?_
 unfold Bn at hm
 refine Ah (Ae (o_as rfl rfl (o_z ?_)))
 refine Ah ?_
 obtain ⟨y3,hy4,hm⟩:=bs hm
 refine AL (fun l' w'=>∃ (x6:Unit) (O':Lab),subs l' [(4,(.bool y3))]∧Bm w O0 w' O'∧Ob 2 w' O' (.pointer (some ⟨p0,0,none⟩)) x0) ?_ ?_
 ·
  refine Ae (o_mv rfl rfl (o_geS rfl rfl rfl (fun c7=>?_) fun c7=>?_))
  ·
   replace hy4:=ip hy4 c7
   refine o_mv rfl rfl (AC rfl rfl (o_mv rfl rfl (AC rfl rfl (o_mv rfl rfl (AC rfl rfl (o_nc rfl rfl (AC rfl rfl ?_)))))))
   obtain ⟨O8,v12,v15,v20,S9,ha11,h10,h13,h16,h21⟩:=Reg.opn hx0' 2 3 4 5 (by decide)
   obtain ⟨p14,rfl⟩:=h13.ptr
   obtain ⟨A17,c18,rfl⟩:=h16.form
   obtain ⟨p22,rfl⟩:=h21.mptr
   refine o_fa rfl rfl (AC rfl rfl (o_ld (hc:=Blk.cell (i:=1) (h10.1) rfl) rfl rfl ?_))
   refine AC rfl rfl (o_ln rfl rfl ?_)
   have l24:x0.entries.length≤9223372036854775807:=Nat.le_trans h16.len.2.1 h16.len.2.2
   have r23:inI64 (x0.entries.length:Int):=rngNat l24
   refine AC rfl rfl (o_ltS rfl rfl rfl (fun c25=>?_) fun c25=>?_)
   ·
    replace hy4:=ip hy4 c25
    refine o_pt rfl rfl rfl (o_as rfl rfl (o_z ?_))
    obtain ⟨O26,S27,hz29,ha30,h28⟩:=Reg.shut (x:=x0) (l0:=2) (l1:=3) (l2:=4) (l3:=5) (by decide) h10 h13 h16 h21
    obtain rfl:=sm hy4
    replace hB:=(hB.st S9).st S27
    exact ⟨(),_,⟨rfl,trivial⟩,hB,h28⟩
   ·
    replace hy4:=im hy4 c25
    refine o_pt rfl rfl rfl (o_as rfl rfl (o_z ?_))
    obtain ⟨O31,S32,hz34,ha35,h33⟩:=Reg.shut (x:=x0) (l0:=2) (l1:=3) (l2:=4) (l3:=5) (by decide) h10 h13 h16 h21
    obtain rfl:=sm hy4
    replace hB:=(hB.st S9).st S32
    exact ⟨(),_,⟨rfl,trivial⟩,hB,h33⟩
  ·
   replace hy4:=im hy4 c7
   refine o_mv rfl rfl (AB rfl rfl rfl rfl (AB rfl rfl rfl rfl (AB rfl rfl rfl rfl (AB rfl rfl rfl rfl (AB rfl rfl rfl rfl (AB rfl rfl rfl rfl (AB rfl rfl rfl rfl (o_pf rfl rfl rfl (o_as rfl rfl (o_z ?_))))))))))
   obtain rfl:=sm hy4
   exact ⟨(),_,⟨rfl,trivial⟩,hB,hx0'⟩
 rintro l36 w37 ⟨x6,O38,hs39,hB,h24⟩
 refine AM _ hs39 ?_
 refine At ?_
 obtain rfl:=sm hm
 obtain ⟨O',hS',hz,hl⟩:=hE.leave (fun q=>if q=2 then i0 else 0) rfl hB
 exact ret1v rfl (AF rfl) ⟨O',hS',(Ob.leave h24 hz (hl 2 (by decide) (by decide)) hx0.2),vBool⟩
noncomputable def BP (x0:Reg) (x1:Int):Option ((List Int)×Err) :=
  bnd (Bn x0 x1) fun q3=>if q3=true then bnd (atI x0.entries x1) fun a27=>bnd (Cf x0.packer a27.words) fun q45=>some (q45.1,(⟨q45.2.n⟩:Err)) else some (([]:List Int),(⟨1⟩:Err))
theorem Fj {w:World} {O:Lab} {p0 i0:Nat} {x0:Reg} (hx0:Ob i0 w O (.pointer (some ⟨p0,0,none⟩)) x0) {x1:Int} (rx1:inI64 x1) {r:(List Int)×Err} (hm:BP x0 x1=some r) :
    Fn Tryz.prog 58 [(.pointer (some ⟨p0,0,none⟩)),(.int .i64 x1)] w fun v w'=>∃ O',St (eT i0) w O w' O'∧∃ v0 v1:Value,Ob i0 w' O' (.pointer (some ⟨p0,0,none⟩)) x0∧v=.tuple #[v0,v1]∧Vb w' (Fr 0 w' O') v0 r.1∧Vb w' (Fr 0 w' O') v1 r.2:=by
 obtain ⟨O0,hE,hz0,hl2⟩:=ent1 (w:=w) (O:=O) hx0.2
 have hx0':=Ob.leave hx0 hz0 hl2 (j:=2) (by decide)
 have hB:Bm w O0 w O0:=Bm.refl
 refine AJ Tryz.func58 rfl Tryz.ntmps58 rfl ?_
 unfold BP at hm
 refine Ah (Ae (o_as rfl rfl (o_as rfl rfl (o_z ?_))))
 refine Ah (Al (Ah (Ae (o_mv rfl rfl (o_pn rfl rfl ?_)))))
 refine o_as rfl rfl (o_z ?_)
 refine Aj rfl (Ah (Ae (o_mv rfl rfl (o_mv rfl rfl ?_))))
 obtain ⟨q3,e4,hm⟩:=bs hm
 refine BA (O:=O0) (Cr hx0' rx1 e4) rfl rfl fun v9 w5 O6 S7 h8=>?_
 obtain ⟨h10,h11⟩:=h8
 obtain rfl:=h11.bool
 cases q3
 case false =>
  replace hm:=iF hm
  refine o_nf rfl rfl (o_as rfl rfl (o_z ?_))
  refine Ar rfl (Ah (Ae (o_miE rfl rfl ?_)))
  refine o_as rfl rfl (o_as rfl rfl (o_z ?_))
  refine At ?_
  obtain rfl:=sm hm
  replace hB:=hB.st S7
  obtain ⟨O',hS',hz,hl⟩:=hE.leave (fun q=>if q=2 then i0 else 0) rfl hB
  exact ret2 rfl (AF rfl) (AF rfl) ⟨O',hS',_,_,(Ob.leave h10 hz (hl 2 (by decide) (by decide)) hx0.2),rfl,(Vb.mono (Vb.nil _ _) hz),(vErr (by decide))⟩
 replace hm:=iT hm
 refine o_nt rfl rfl (o_as rfl rfl (o_z ?_))
 refine Aj rfl (Am (Ah ?_))
 obtain ⟨O12,v16,v19,v24,S13,ha15,h14,h17,h20,h25⟩:=Reg.opn h10 2 3 4 5 (by decide)
 obtain ⟨p18,rfl⟩:=h17.ptr
 obtain ⟨A21,c22,rfl⟩:=h20.form
 obtain ⟨p26,rfl⟩:=h25.mptr
 refine Be [(12,[3])] O12 ?_
 refine x_pre (fuel:=5) [] [(0,true),(1,true),(2,true),(3,true),(4,true),(5,true),(6,true),(7,true),(8,true),(9,true),(10,true),(11,true)] (by kernel_rfl) rfl ?_
 refine h_mv rfl rfl rfl (h_nc rfl rfl rfl (h_fa rfl rfl rfl (h_ldC (hc:=fun w' ⟨O',hq⟩=>Blk.cell (i:=0) ((h14.st hq (by decide)).1) rfl) rfl rfl rfl ?_)))
 refine h_mv rfl rfl rfl (h_nc rfl rfl rfl (h_fa rfl rfl rfl (h_ldC (hc:=fun w' ⟨O',hq⟩=>Blk.cell (i:=1) ((h14.st hq (by decide)).1) rfl) rfl rfl rfl ?_)))
 refine h_mv rfl rfl rfl ?_
 obtain ⟨a27,e28,hm⟩:=bs hm
 obtain ⟨p30,x29⟩:=AP e28
 obtain ⟨b31,o32,ce33,hA34,hF37,hl35,hd36,v38,rfl,h39,r42,r43,r44⟩:=h20.elemF x29
 obtain ⟨A40,c41,rfl⟩:=h39.form
 refine h_iaE (hA:=hA34) (hj:=(Int.toNat_of_nonneg p30).symm) (hlt:=hl35) rfl rfl rfl rfl ?_
 refine h_fa rfl rfl rfl (h_ldC (hc:=fun w' ⟨O',hq⟩=>cat0 (AQ (hq.agree (i:=4) (by decide)) hF37 hd36)) rfl rfl rfl ?_)
 refine AH ?_
 refine x_one (i:=12) (by kernel_rfl) rfl ?_
 obtain ⟨q45,e46,hm⟩:=bs hm
 refine BA (O:=O12) (Gv h17 h39 e46) rfl rfl fun v51 w47 O48 S49 h50=>?_
 obtain ⟨v53,v54,h52,rfl,h55,h56⟩:=h50
 obtain ⟨A57,c58,rfl⟩:=h55.form
 obtain ⟨rfl,r59⟩:=h56.err
 have hZ:=S49.lst [3] (fun _ h=>by cases h;decide)
 refine x_go [] hZ (by kernel_rfl) ?_
 refine x_pre (fuel:=0) [] [(13,true),(14,true),(15,true),(16,true)] (by kernel_rfl) rfl ?_
 refine h_ex rfl rfl rfl rfl (h_ex rfl rfl rfl rfl (h_as rfl rfl rfl (h_as rfl rfl rfl (AH ?_))))
 refine x_nil (by kernel_rfl) ?_
 refine At ?_
 replace h14:=h14.st S49
 replace h20:=h20.st S49
 replace h25:=h25.st S49
 obtain ⟨O60,S61,hz63,ha64,h62⟩:=Reg.shut (x:=x0) (l0:=2) (l1:=3) (l2:=4) (l3:=5) (by decide) h14 h52 h20 h25
 obtain rfl:=sm hm
 replace hB:=(((hB.st S7).st S13).st S49).st S61
 obtain ⟨O',hS',hz,hl⟩:=hE.leave (fun q=>if q=2 then i0 else 0) rfl hB
 replace h55:=h55.st S61
 exact ret2 rfl (AF rfl) (AF rfl) ⟨O',hS',_,_,(Ob.leave h62 hz (hl 2 (by decide) (by decide)) hx0.2),rfl,(Vb.mono h55 hz),(vErr r59)⟩
noncomputable def BD (x0:Reg) (x1:Int) (x2:Int) (x3:Int) (x4:Int):Option (Err×Reg) :=
  bnd (bnd (Bn x0 x1) fun q10=>if q10=true then if x2≠(-1) then (bnd (Bn x0 x2) fun q20=>if q20=true then some false else some true) else (some false) else some true:Option Bool) fun y6=>if y6=true then (some ((⟨1⟩:Err),x0)) else (bnd (atI x0.entries x1) fun a49=>some ((⟨0⟩:Err),(⟨x0.packer,(x0.entries.set (x1:Int).toNat ({ a49 with link:=(⟨x2,x3,x4⟩:RLk) }:REn)),x0.table⟩:Reg)))
theorem EZ {w:World} {O:Lab} {p0 i0:Nat} {x0:Reg} (hx0:Ob i0 w O (.pointer (some ⟨p0,0,none⟩)) x0) {x1:Int} (rx1:inI64 x1) {x2:Int} (rx2:inI64 x2) {x3:Int} (rx3:inI64 x3) {x4:Int} (rx4:inI64 x4) {r:Err×Reg} (hm:BD x0 x1 x2 x3 x4=some r) :
    Fn Tryz.prog 63 [(.pointer (some ⟨p0,0,none⟩)),(.int .i64 x1),(.int .i64 x2),(.int .i64 x3),(.int .i64 x4)] w fun v w'=>∃ O',St (eT i0) w O w' O'∧Ob i0 w' O' (.pointer (some ⟨p0,0,none⟩)) r.2∧Vb w' (Fr 0 w' O') v r.1:=by
 obtain ⟨O0,hE,hz0,hl2⟩:=ent1 (w:=w) (O:=O) hx0.2
 have hx0':=Ob.leave hx0 hz0 hl2 (j:=2) (by decide)
 have hB:Bm w O0 w O0:=Bm.refl
 refine AJ Tryz.func63 rfl Tryz.ntmps63 rfl ?_
 unfold BD at hm
 refine Ah (Ae (o_as rfl rfl (o_z ?_)))
 refine Ah (Al (Ah (Ae (o_mv rfl rfl (o_pn rfl rfl ?_)))))
 refine o_as rfl rfl (o_z ?_)
 refine Aj rfl (Ah ?_)
 obtain ⟨y6,hy7,hm⟩:=bs hm
 refine AL (fun l' w'=>∃ (x9:Unit) (O':Lab),subs l' [(0,(.pointer (some ⟨p0,0,none⟩))),(1,(.int .i64 x1)),(2,(.int .i64 x2)),(3,(.int .i64 x3)),(4,(.int .i64 x4)),(15,(.bool y6))]∧Bm w O0 w' O'∧Ob 2 w' O' (.pointer (some ⟨p0,0,none⟩)) x0) ?_ ?_
 ·
  refine Ae (o_mv rfl rfl (o_mv rfl rfl ?_))
  obtain ⟨q10,e11,hy7⟩:=bs hy7
  refine BA (O:=O0) (Cr hx0' rx1 e11) rfl rfl fun v16 w12 O13 S14 h15=>?_
  obtain ⟨h17,h18⟩:=h15
  obtain rfl:=h18.bool
  cases q10
  case false =>
   replace hy7:=iF hy7
   refine o_nf rfl rfl (o_mv rfl rfl (AB rfl rfl rfl rfl (AB rfl rfl rfl rfl (AB rfl rfl rfl rfl (AB rfl rfl rfl rfl (AB rfl rfl rfl rfl (AB rfl rfl rfl rfl (AB rfl rfl rfl rfl (AB rfl rfl rfl rfl (o_pt rfl rfl rfl (o_as rfl rfl (o_z ?_))))))))))))
   obtain rfl:=sm hy7
   replace hB:=hB.st S14
   exact ⟨(),_,⟨rfl,rfl,rfl,rfl,rfl,rfl,trivial⟩,hB,h17⟩
  replace hy7:=iT hy7
  refine o_nt rfl rfl (o_mv rfl rfl (AC rfl rfl (o_mv rfl rfl (AC rfl rfl (o_neS rfl rfl rfl (fun c19=>?_) fun c19=>?_)))))
  ·
   replace hy7:=ip hy7 c19
   refine AC rfl rfl (o_mv rfl rfl (AC rfl rfl (o_mv rfl rfl (AC rfl rfl (o_mv rfl rfl (AC rfl rfl ?_))))))
   obtain ⟨q20,e21,hy7⟩:=bs hy7
   refine BA (O:=O13) (Cr h17 rx2 e21) rfl rfl fun v26 w22 O23 S24 h25=>?_
   obtain ⟨h27,h28⟩:=h25
   obtain rfl:=h28.bool
   cases q20
   case false =>
    replace hy7:=iF hy7
    refine AC rfl rfl (o_nf rfl rfl (AC rfl rfl (o_pt rfl rfl rfl (o_pf rfl rfl rfl (o_as rfl rfl (o_z ?_))))))
    obtain rfl:=sm hy7
    replace hB:=(hB.st S14).st S24
    exact ⟨(),_,⟨rfl,rfl,rfl,rfl,rfl,rfl,trivial⟩,hB,h27⟩
   replace hy7:=iT hy7
   refine AC rfl rfl (o_nt rfl rfl (AC rfl rfl (o_pt rfl rfl rfl (o_pf rfl rfl rfl (o_as rfl rfl (o_z ?_))))))
   obtain rfl:=sm hy7
   replace hB:=(hB.st S14).st S24
   exact ⟨(),_,⟨rfl,rfl,rfl,rfl,rfl,rfl,trivial⟩,hB,h27⟩
  ·
   replace hy7:=im hy7 c19
   refine AC rfl rfl (o_mv rfl rfl (AB rfl rfl rfl rfl (AB rfl rfl rfl rfl (AB rfl rfl rfl rfl (AB rfl rfl rfl rfl (AC rfl rfl (o_pf rfl rfl rfl (o_pf rfl rfl rfl (o_as rfl rfl (o_z ?_))))))))))
   obtain rfl:=sm hy7
   replace hB:=hB.st S14
   exact ⟨(),_,⟨rfl,rfl,rfl,rfl,rfl,rfl,trivial⟩,hB,h17⟩
 rintro l29 w30 ⟨x9,O31,hs32,hB,h13⟩
 refine AM _ hs32 ?_
 refine Ca rfl (fun c33=>?_) (fun c33=>?_)
 ·
  replace hm:=ip hm c33
  refine Ah (Ae (o_miE rfl rfl ?_))
  refine o_as rfl rfl (o_z ?_)
  refine At ?_
  obtain rfl:=sm hm
  obtain ⟨O',hS',hz,hl⟩:=hE.leave (fun q=>if q=2 then i0 else 0) rfl hB
  exact ret1v rfl (AF rfl) ⟨O',hS',(Ob.leave h13 hz (hl 2 (by decide) (by decide)) hx0.2),(vErr (by decide))⟩
 ·
  replace hm:=im' hm c33
  refine Am (Ah (Ae (o_mv rfl rfl (o_nc rfl rfl ?_))))
  obtain ⟨O34,v38,v41,v46,S35,ha37,h36,h39,h42,h47⟩:=Reg.opn h13 2 3 4 5 (by decide)
  obtain ⟨p40,rfl⟩:=h39.ptr
  obtain ⟨A43,c44,rfl⟩:=h42.form
  obtain ⟨p48,rfl⟩:=h47.mptr
  refine o_fa rfl rfl (o_ld (hc:=Blk.cell (i:=1) (h36.1) rfl) rfl rfl ?_)
  refine o_mv rfl rfl (o_mv rfl rfl (o_mv rfl rfl (o_mv rfl rfl (o_bd rfl rfl rfl ?_))))
  obtain ⟨a49,e50,hm⟩:=bs hm
  obtain ⟨p52,x51⟩:=AP e50
  obtain ⟨b53,o54,ce55,hA56,hl57,hd58,v60,rfl,h61,r64,r65,r66⟩:=h42.elem x51
  obtain ⟨A62,c63,rfl⟩:=h61.form
  refine o_iaE (hA:=hA56) (hj:=(Int.toNat_of_nonneg p52).symm) (hlt:=hl57) rfl rfl rfl ?_
  refine o_fa rfl rfl (Ha (a:=a49) (a':=({ a49 with link:=(⟨x2,x3,x4⟩:RLk) }:REn)) (off:=1) h42 hA56 x51 rfl rfl rfl (Nat.le_of_ble_eq_true rfl) (by first|exact allOne rfl|simp [Value.cells,Value.oneCell',AI]) (by rintro ce ⟨v69,rfl,h70,r73,r74,r75⟩;exact ⟨_,rfl,h70,rx2,rx3,rx4⟩) fun w67 S68 h42=>?_)
  refine o_z ?_
  refine Ah (Ae (o_as rfl rfl (o_z ?_)))
  refine At ?_
  replace h36:=h36.st S68
  replace h39:=h39.st S68
  replace h47:=h47.st S68
  obtain ⟨O76,S77,hz79,ha80,h78⟩:=Reg.shut (x:=(⟨x0.packer,(x0.entries.set (x1:Int).toNat ({ a49 with link:=(⟨x2,x3,x4⟩:RLk) }:REn)),x0.table⟩:Reg)) (l0:=2) (l1:=3) (l2:=4) (l3:=5) (by decide) (by have q:=h36;rw [← ((by simp:(x0.entries.set (x1:Int).toNat ({ a49 with link:=(⟨x2,x3,x4⟩:RLk) }:REn)).length=x0.entries.length).trans rfl)] at q;exact q) h39 h42.relen h47
  obtain rfl:=sm hm
  replace hB:=((hB.st S35).st S68).st S77
  obtain ⟨O',hS',hz,hl⟩:=hE.leave (fun q=>if q=2 then i0 else 0) rfl hB
  exact ret1v rfl (AF rfl) ⟨O',hS',(Ob.leave h78 hz (hl 2 (by decide) (by decide)) hx0.2),(vErr (show inI64 0 from by decide))⟩
noncomputable def BQ (x0:List Int):Option (List Int) :=
  bnd (chkI ((x0.length:Int) - 1)) fun n4=>bnd (lop (ρ:=(List Int)) (fun (s9:(List Int)×Int×Int)=>if s9.2.1 < s9.2.2 then (bnd (atI s9.1 s9.2.2) fun a31=>bnd (atI s9.1 s9.2.1) fun a43=>bnd (atI s9.1 s9.2.1) fun a55=>bnd (atI (s9.1.set (s9.2.1:Int).toNat a31) s9.2.2) fun a69=>bnd (chkI (s9.2.1 + 1)) fun n83=>bnd (chkI (s9.2.2 - 1)) fun n86=>some (.next (((s9.1.set (s9.2.1:Int).toNat a31).set (s9.2.2:Int).toNat a43),n83,n86))) else (some (.brk (s9.1,s9.2.1,s9.2.2)))) (x0,0,n4)) fun res7=>fin res7 fun (s93:(List Int)×Int×Int)=>some s93.1
theorem Fk {w:World} {O:Lab} {A0:Option Addr} {m0 c0 i0:Nat} {x0:List Int} (hx0:Rw i0 w O 3 (.slice A0 m0 c0) x0) {r:(List Int)} (hm:BQ x0=some r) :
    Fn Tryz.prog 93 [(.slice A0 m0 c0)] w fun v w'=>∃ O',St (eT i0) w O w' O'∧Rw i0 w' O' 3 (.slice A0 m0 c0) r:=by
 obtain ⟨O0,hE,hz0,hl2⟩:=ent1 (w:=w) (O:=O) hx0.2.2
 obtain rfl:m0=x0.length:=hx0.len.1
 have hx0':=Rw.leave hx0 hz0 hl2 (j:=2) (by decide)
 have hB:Bm w O0 w O0:=Bm.refl
 refine AJ Tryz.func93 rfl Tryz.ntmps93 rfl ?_
 unfold BQ at hm
 refine Ah (Ae (o_mv rfl rfl (o_ln rfl rfl ?_)))
 have l3:x0.length≤9223372036854775807:=Nat.le_trans hx0'.len.2.1 hx0'.len.2.2
 have r2:inI64 (x0.length:Int):=rngNat l3
 obtain ⟨n4,e5,hm⟩:=bs hm
 have r6:=(Bc e5)
 refine o_sbE (he:=e5) rfl rfl rfl ?_
 refine o_as rfl rfl (o_as rfl rfl (o_z ?_))
 obtain ⟨res7,hL8,hm⟩:=bs hm
 refine AL (aft res7 (fun (s9:(List Int)×Int×Int) (x10:Unit)=>[(0,(.slice A0 x0.length c0))]) (fun s9 x10 w'=>∃ O':Lab,Bm w O0 w' O'∧Rw 2 w' O' 3 (.slice A0 x0.length c0) s9.1∧inI64 s9.2.1∧inI64 s9.2.2)) ?_ ?_
 ·
  refine Al (Fq (σ:=(List Int)×Int×Int) (X:=Unit) hL8 (fun (s9:(List Int)×Int×Int) (x10:Unit)=>[(0,(.slice A0 x0.length c0)),(2,(.int .i64 s9.2.1)),(3,(.int .i64 s9.2.2))]) _ (fun s9 x10 w'=>∃ O':Lab,Bm w O0 w' O'∧Rw 2 w' O' 3 (.slice A0 x0.length c0) s9.1∧inI64 s9.2.1∧inI64 s9.2.2) _ () ⟨O0,hB,hx0',(show inI64 (0) from by decide),r6⟩ ⟨rfl,rfl,rfl,trivial⟩ ?_)
  rintro s9 x10 w13 cc15 ⟨O14,hB,h26,r28,r29⟩ hf17 hret18 hbrk19
  refine Ah (Ah (Ae (o_mv rfl rfl (o_mv rfl rfl (o_ltS rfl rfl rfl (fun c30=>?_) fun c30=>?_)))))
  ·
   replace hf17:=ip hf17 c30
   refine o_z ?_
   refine Ar rfl (Am (Ah (Al (Be [(13,[2])] O14 ?_))))
   refine x_pre (fuel:=5) [] [(0,true),(1,true),(4,true),(5,true),(6,true),(7,true),(8,true),(9,true),(10,true),(11,true),(12,true)] (by kernel_rfl) rfl ?_
   refine h_mv rfl rfl rfl (h_mv rfl rfl rfl (h_mv rfl rfl rfl (h_mv rfl rfl rfl ?_)))
   obtain ⟨a31,e32,hf17⟩:=bs hf17
   obtain ⟨p34,x33⟩:=AP e32
   obtain ⟨b35,o36,ce37,hA38,hF41,hl39,hd40,rfl,r42⟩:=h26.elemF x33
   refine h_iaE (hA:=hA38) (hj:=(Int.toNat_of_nonneg p34).symm) (hlt:=hl39) rfl rfl rfl rfl ?_
   refine h_ldC (hc:=fun w' ⟨O',hq⟩=>cat0 (AQ (hq.agree (i:=2) (by decide)) hF41 hd40)) rfl rfl rfl ?_
   refine h_mv rfl rfl rfl (h_mv rfl rfl rfl ?_)
   obtain ⟨a43,e44,hf17⟩:=bs hf17
   obtain ⟨p46,x45⟩:=AP e44
   obtain ⟨b47,o48,ce49,hA50,hF53,hl51,hd52,rfl,r54⟩:=h26.elemF x45
   refine h_iaE (hA:=hA50) (hj:=(Int.toNat_of_nonneg p46).symm) (hlt:=hl51) rfl rfl rfl rfl ?_
   refine h_ldC (hc:=fun w' ⟨O',hq⟩=>cat0 (AQ (hq.agree (i:=2) (by decide)) hF53 hd52)) rfl rfl rfl ?_
   obtain ⟨a55,e56,hf17⟩:=bs hf17
   obtain ⟨p58,x57⟩:=AP e56
   obtain ⟨b59,o60,ce61,hA62,hF65,hl63,hd64,rfl,r66⟩:=h26.elemF x57
   refine h_iaE (hA:=hA62) (hj:=(Int.toNat_of_nonneg p58).symm) (hlt:=hl63) rfl rfl rfl rfl ?_
   refine AH ?_
   refine x_pre (fuel:=3) [2] [(2,true),(3,true)] (by kernel_rfl) rfl ?_
   refine h_mv rfl rfl rfl (h_mv rfl rfl rfl (AH ?_))
   refine x_one (i:=13) (by kernel_rfl) rfl ?_
   refine Di rfl h26 (a:=a31) (vInt r42) hA62 rfl rfl (Ba x57) fun w67 S68 h26=>?_
   have hZ:=S68.lst [2] (fun _ h=>by cases h;decide)
   refine x_go [] hZ (by kernel_rfl) ?_
   refine x_pre (fuel:=1) [] [(14,true)] (by kernel_rfl) rfl ?_
   obtain ⟨a69,e70,hf17⟩:=bs hf17
   obtain ⟨p72,x71⟩:=AP e70
   obtain ⟨b73,o74,ce75,hA76,hF79,hl77,hd78,rfl,r80⟩:=h26.elemF x71
   refine h_iaE (hA:=hA76) (hj:=(Int.toNat_of_nonneg p72).symm) (hlt:=hl77) rfl rfl rfl rfl ?_
   refine AH ?_
   refine x_one (i:=15) (by kernel_rfl) rfl ?_
   refine Di rfl h26 (a:=a43) (vInt r54) hA76 rfl rfl (Ba x71) fun w81 S82 h26=>?_
   refine x_end (by kernel_rfl) ?_
   refine x_nil (by kernel_rfl) ?_
   refine Ae (o_mv rfl rfl ?_)
   obtain ⟨n83,e84,hf17⟩:=bs hf17
   have r85:=(Bc e84)
   refine o_adE (he:=e84) rfl rfl rfl ?_
   refine o_mv rfl rfl ?_
   obtain ⟨n86,e87,hf17⟩:=bs hf17
   have r88:=(Bc e87)
   refine o_sbE (he:=e87) rfl rfl rfl ?_
   refine o_as rfl rfl (o_as rfl rfl (o_z ?_))
   obtain rfl:=sm hf17
   refine (?_:Exists _)
   replace hB:=(hB.st S68).st S82
   exact ⟨_,(),rfl,⟨rfl,rfl,rfl,trivial⟩,_,hB,h26,r85,r88⟩
  ·
   replace hf17:=im hf17 c30
   refine o_z ?_
   refine Aj rfl (Au ?_)
   obtain rfl:=sm hf17
   refine (?_:Exists _)
   exact ⟨_,(),hbrk19 _ rfl,⟨rfl,trivial⟩,_,hB,h26,r28,r29⟩
 rintro l89 w90 ⟨s93,x94,rfl,hs92,O91,hB,h26,r28,r29⟩
 replace hm:=AR hm
 obtain rfl:=sm hm
 obtain ⟨O',hS',hz,hl⟩:=hE.leave (fun q=>if q=2 then i0 else 0) rfl hB
 exact ret0n rfl  ⟨O',hS',(Rw.leave h26 hz (hl 2 (by decide) (by decide)) hx0.2.2)⟩
noncomputable def BV (x0:Reg) (x1:Int):Option ((List Int)×Err) :=
  bnd (Bn x0 x1) fun q3=>if q3=true then bnd (lop (ρ:=(List Int)×Err) (fun (s14:Int×(List Int))=>bnd (atI x0.entries s14.1) fun a48=>if a48.link.parent < 0 then (bnd (BQ s14.2) fun q74=>some (.ret (q74,(⟨0⟩:Err)))) else (bnd (appI 8 s14.2 [a48.link.op]) fun u89=>if (x0.entries.length:Int) < (u89.length:Int) then (some (.ret (([]:List Int),(⟨21⟩:Err)))) else (some (.next (a48.link.parent,u89))))) (x1,([]:List Int))) fun res12=>fin res12 fun (_:Int×(List Int))=>none else some (([]:List Int),(⟨1⟩:Err))
theorem FD {w:World} {O:Lab} {p0 i0:Nat} {x0:Reg} (hx0:Ob i0 w O (.pointer (some ⟨p0,0,none⟩)) x0) {x1:Int} (rx1:inI64 x1) {r:(List Int)×Err} (hm:BV x0 x1=some r) :
    Fn Tryz.prog 81 [(.pointer (some ⟨p0,0,none⟩)),(.int .i64 x1)] w fun v w'=>∃ O',St (eT i0) w O w' O'∧∃ v0 v1:Value,Ob i0 w' O' (.pointer (some ⟨p0,0,none⟩)) x0∧v=.tuple #[v0,v1]∧Vb w' (Fr 0 w' O') v0 r.1∧Vb w' (Fr 0 w' O') v1 r.2:=by
 obtain ⟨O0,hE,hz0,hl2⟩:=ent1 (w:=w) (O:=O) hx0.2
 have hx0':=Ob.leave hx0 hz0 hl2 (j:=2) (by decide)
 have hB:Bm w O0 w O0:=Bm.refl
 refine AJ Tryz.func81 rfl Tryz.ntmps81 rfl ?_
 unfold BV at hm
 refine Ah (Ae (o_as rfl rfl (o_as rfl rfl (o_z ?_))))
 refine Ah (Al (Ah (Ae (o_mv rfl rfl (o_pn rfl rfl ?_)))))
 refine o_as rfl rfl (o_z ?_)
 refine Aj rfl (Ah (Ae (o_mv rfl rfl (o_mv rfl rfl ?_))))
 obtain ⟨q3,e4,hm⟩:=bs hm
 refine BA (O:=O0) (Cr hx0' rx1 e4) rfl rfl fun v9 w5 O6 S7 h8=>?_
 obtain ⟨h10,h11⟩:=h8
 obtain rfl:=h11.bool
 cases q3
 case false =>
  replace hm:=iF hm
  refine o_nf rfl rfl (o_as rfl rfl (o_z ?_))
  refine Ar rfl (Ah (Ae (o_miE rfl rfl ?_)))
  refine o_as rfl rfl (o_as rfl rfl (o_z ?_))
  refine At ?_
  obtain rfl:=sm hm
  replace hB:=hB.st S7
  obtain ⟨O',hS',hz,hl⟩:=hE.leave (fun q=>if q=2 then i0 else 0) rfl hB
  exact ret2 rfl (AF rfl) (AF rfl) ⟨O',hS',_,_,(Ob.leave h10 hz (hl 2 (by decide) (by decide)) hx0.2),rfl,(Vb.mono (Vb.nil _ _) hz),(vErr (by decide))⟩
 replace hm:=iT hm
 refine o_nt rfl rfl (o_as rfl rfl (o_z ?_))
 refine Aj rfl (Am (Ah (Ae (o_as rfl rfl (o_z ?_)))))
 obtain ⟨res12,hL13,hm⟩:=bs hm
 refine AL (aft res12 (fun (s14:Int×(List Int)) (x15:(Option Addr×Nat))=>[]) (fun s14 x15 w'=>False)) ?_ ?_
 ·
  refine Al ?_
  replace hB:=hB.st S7
  refine Fq (σ:=Int×(List Int)) (X:=(Option Addr×Nat)) hL13 (fun (s14:Int×(List Int)) (x15:(Option Addr×Nat))=>[(0,(.pointer (some ⟨p0,0,none⟩))),(1,(.int .i64 s14.1)),(6,(.slice x15.1 s14.2.length x15.2))]) _ (fun s14 x15 w'=>∃ O':Lab,Bm w O0 w' O'∧Ob 2 w' O' (.pointer (some ⟨p0,0,none⟩)) x0∧Rw 8 w' O' 3 (.slice x15.1 s14.2.length x15.2) s14.2∧inI64 s14.1) _ (none,0) ⟨O6,hB,h10,(Rw.nil 8 (by decide)),rx1⟩ ⟨rfl,rfl,rfl,trivial⟩ ?_
  rintro s14 x15 w18 cc20 ⟨O19,hB,h10,h31,r30⟩ hf22 hret23 hbrk24
  refine Al (Ah (Ae (o_mv rfl rfl (o_nc rfl rfl ?_))))
  obtain ⟨O33,v37,v40,v45,S34,ha36,h35,h38,h41,h46⟩:=Reg.opn h10 2 3 4 5 (by decide)
  obtain ⟨p39,rfl⟩:=h38.ptr
  obtain ⟨A42,c43,rfl⟩:=h41.form
  obtain ⟨p47,rfl⟩:=h46.mptr
  refine o_fa rfl rfl (o_ld (hc:=Blk.cell (i:=1) (h35.1) rfl) rfl rfl ?_)
  refine o_mv rfl rfl ?_
  obtain ⟨a48,e49,hf22⟩:=bs hf22
  obtain ⟨p51,x50⟩:=AP e49
  obtain ⟨b52,o53,ce54,hA55,hl56,hd57,v59,rfl,h60,r63,r64,r65⟩:=h41.elem x50
  obtain ⟨A61,c62,rfl⟩:=h60.form
  refine o_iaE (hA:=hA55) (hj:=(Int.toNat_of_nonneg p51).symm) (hlt:=hl56) rfl rfl rfl ?_
  refine o_fa rfl rfl (o_la (hl:=rfl) (hc:=(Jm 1 3 hd57)) rfl rfl ?_)
  refine AX 6 O33 rfl fun g66 w67 O68 S69 h70=>?_
  refine AK h70 rfl rfl rfl (Nat.le_of_ble_eq_true rfl) (by first|exact allOne rfl|simp [Value.cells,Value.oneCell',AI]) fun w71 S72 h70=>?_
  replace h70:Lc 6 w71 O68 g66 146 [(.int .i64 a48.link.parent),(.int .i64 a48.link.op),(.int .i64 a48.link.cost)]:=h70
  refine o_z ?_
  refine Ah (Ah (Ae (o_fa rfl rfl (o_ld (hc:=Blk.cell (i:=0) (h70.1) rfl) rfl rfl ?_))))
  refine o_ltS rfl rfl rfl (fun c73=>?_) fun c73=>?_
  ·
   replace hf22:=ip hf22 c73
   refine o_z ?_
   refine Ar rfl (Ah (Ae (o_mv rfl rfl ?_)))
   obtain ⟨q74,e75,hf22⟩:=bs hf22
   replace h31:=((h31.st S34).st S69).st S72
   refine BA (O:=O68) (Fk h31 e75) rfl rfl fun v80 w76 O77 S78 h81=>?_
   refine o_z ?_
   refine Ah (Ae (o_mv rfl rfl (o_as rfl rfl (o_as rfl rfl (o_z ?_)))))
   refine At ?_
   obtain ⟨O82,S83,h81⟩:=h81.freeze
   replace h35:=(((h35.st S69).st S72).st S78).st S83
   replace h38:=(((h38.st S69).st S72).st S78).st S83
   replace h41:=(((h41.st S69).st S72).st S78).st S83
   replace h46:=(((h46.st S69).st S72).st S78).st S83
   obtain ⟨O84,S85,hz87,ha88,h86⟩:=Reg.shut (x:=x0) (l0:=2) (l1:=3) (l2:=4) (l3:=5) (by decide) h35 h38 h41 h46
   obtain rfl:=sm hf22
   obtain rfl:=hret23 _ rfl
   obtain rfl:=sm (BW hm)
   replace hB:=(((((hB.st S34).st S69).st S72).st S78).st S83).st S85
   obtain ⟨O',hS',hz,hl⟩:=hE.leave (fun q=>if q=2 then i0 else 0) rfl hB
   replace h81:=h81.st S85
   exact ret2 rfl (AF rfl) (AF rfl) ⟨O',hS',_,_,(Ob.leave h86 hz (hl 2 (by decide) (by decide)) hx0.2),rfl,(Vb.mono h81 hz),(vErr (show inI64 0 from by decide))⟩
  ·
   replace hf22:=im hf22 c73
   refine o_z ?_
   refine Aj rfl (Am (Ah (Ae (o_mv rfl rfl (o_fa rfl rfl (o_ld (hc:=Blk.cell (i:=1) (h70.1) rfl) rfl rfl ?_))))))
   obtain ⟨u89,e90,hf22⟩:=bs hf22
   obtain ⟨e90,e91,e92⟩:=AO e90
   replace h31:=((h31.st S34).st S69).st S72
   refine CB rfl (a:=a48.link.op) h31 (vInt r64) (fun _=>rfl) rfl (by decide) (by decide) e91 e92 ⟨rfl,rfl⟩ fun g93 A94 c95 w96 O97 S98 h99=>?_
   rw [← e90] at h99 ⊢
   refine o_as rfl rfl (o_z ?_)
   refine Ah (Ah (Ae (o_mv rfl rfl (o_ln rfl rfl ?_))))
   have l102:u89.length≤9223372036854775807:=Nat.le_trans h99.len.2.1 h99.len.2.2
   have r101:inI64 (u89.length:Int):=rngNat l102
   refine o_mv rfl rfl (o_nc rfl rfl (o_fa rfl rfl ?_))
   replace h35:=((h35.st S69).st S72).st S98
   refine o_ld (hc:=Blk.cell (i:=1) (h35.1) rfl) rfl rfl ?_
   refine o_ln rfl rfl ?_
   replace h41:=((h41.st S69).st S72).st S98
   have l104:x0.entries.length≤9223372036854775807:=Nat.le_trans h41.len.2.1 h41.len.2.2
   have r103:inI64 (x0.entries.length:Int):=rngNat l104
   refine o_gtS rfl rfl rfl (fun c105=>?_) fun c105=>?_
   ·
    replace hf22:=ip hf22 c105
    refine o_z ?_
    refine Ar rfl (Ah (Ae (o_miE rfl rfl ?_)))
    refine o_as rfl rfl (o_as rfl rfl (o_z ?_))
    refine At ?_
    replace h38:=((h38.st S69).st S72).st S98
    replace h46:=((h46.st S69).st S72).st S98
    obtain ⟨O106,S107,hz109,ha110,h108⟩:=Reg.shut (x:=x0) (l0:=2) (l1:=3) (l2:=4) (l3:=5) (by decide) h35 h38 h41 h46
    obtain rfl:=sm hf22
    obtain rfl:=hret23 _ rfl
    obtain rfl:=sm (BW hm)
    replace hB:=((((hB.st S34).st S69).st S72).st S98).st S107
    obtain ⟨O',hS',hz,hl⟩:=hE.leave (fun q=>if q=2 then i0 else 0) rfl hB
    exact ret2 rfl (AF rfl) (AF rfl) ⟨O',hS',_,_,(Ob.leave h108 hz (hl 2 (by decide) (by decide)) hx0.2),rfl,(Vb.mono (Vb.nil _ _) hz),(vErr (by decide))⟩
   ·
    replace hf22:=im hf22 c105
    refine o_z ?_
    refine Aj rfl (Am (Ae (o_fa rfl rfl ?_)))
    replace h70:=h70.st S98
    refine o_ld (hc:=Blk.cell (i:=0) (h70.1) rfl) rfl rfl ?_
    refine o_as rfl rfl (o_z ?_)
    replace h38:=((h38.st S69).st S72).st S98
    replace h46:=((h46.st S69).st S72).st S98
    obtain ⟨O111,S112,hz114,ha115,h113⟩:=Reg.shut (x:=x0) (l0:=2) (l1:=3) (l2:=4) (l3:=5) (by decide) h35 h38 h41 h46
    obtain rfl:=sm hf22
    refine (?_:Exists _)
    replace hB:=((((hB.st S34).st S69).st S72).st S98).st S112
    replace h99:=h99.st S112
    exact ⟨_,(A94,c95),rfl,⟨rfl,rfl,rfl,trivial⟩,_,hB,h113,h99,r63⟩
 rintro l116 w117 ⟨s120,x121,_,_,hE⟩
 exact hE.elim
end
section
open Go Go.RowKit
attribute [local irreducible] ewp owp hwp hwq hws Ev Evg Fn retPost loud loudS Res1
attribute [local irreducible] hwx loudX
structure Itm where
  cost:Int
  order:Int
  id:Int
instance:Rp Itm where
  isAgg:=true
  size:=3
  R w F cs x:=cs=[.int .i64 x.cost,.int .i64 x.order,.int .i64 x.id]∧inI64 x.cost∧inI64 x.order∧inI64 x.id
  len:=by rintro w F cs x ⟨rfl,h0,h1,h2⟩;rfl
  one:=by rintro w F cs x ⟨rfl,h0,h1,h2⟩ u hu;simp at hu;rcases hu with rfl|rfl|rfl<;>first|rfl|exact Vb.one rfl (by assumption)
  agree:=by rintro w w' F cs x ⟨rfl,h0,h1,h2⟩ ha;exact ⟨rfl,h0,h1,h2⟩
  mono:=by rintro w F G cs x ⟨rfl,h0,h1,h2⟩ ha;exact ⟨rfl,h0,h1,h2⟩
instance : TMth Tryz.prog 95 "Len" 56 false := ⟨by kernel_rfl⟩
instance : TMth Tryz.prog 95 "Less" 142 false := ⟨by kernel_rfl⟩
instance : TMth Tryz.prog 95 "Pop" 143 true := ⟨by kernel_rfl⟩
instance : TMth Tryz.prog 95 "Push" 144 true := ⟨by kernel_rfl⟩
instance : TMth Tryz.prog 95 "Swap" 145 false := ⟨by kernel_rfl⟩
noncomputable def BN (x0:List Itm):Option Int :=
  some (x0.length:Int)
theorem DQ {w:World} {A:Nat→Prop} (hA:∀ k,A k→k < w.heap.size) {vx0:Value} {x0:List Itm} (hx0:Vb w A vx0 x0) {r:Int} (hm:BN x0=some r) :
    Fn Tryz.prog 56 [vx0] w fun v w'=>Ext w w'∧Vb w' (upA A w w') v r:=by
 obtain ⟨O,hB,hA0⟩:=enter hA
 replace hx0:=hx0.mono hA0
 obtain ⟨A2,c3,rfl⟩:=hx0.form
 refine AJ Tryz.func56 rfl Tryz.ntmps56 rfl ?_
 unfold BN at hm
 refine Ah (Ae (o_as rfl rfl (o_z ?_)))
 refine Ah (Ae (o_mv rfl rfl (o_ln rfl rfl ?_)))
 have l5:x0.length≤9223372036854775807:=Nat.le_trans hx0.len.2.1 hx0.len.2.2
 have r4:inI64 (x0.length:Int):=rngNat l5
 refine o_as rfl rfl (o_z ?_)
 refine At ?_
 obtain rfl:=sm hm
 exact ret1v rfl (AF rfl) ⟨hB.ext,(vInt r4)⟩
noncomputable def BJ (x0:List Itm) (x1:Int) (x2:Int):Option Bool :=
  bnd (bnd (atI x0 x1) fun a10=>bnd (atI x0 x2) fun a24=>if a10.cost < a24.cost then (some true) else (bnd (atI x0 x1) fun a39=>bnd (atI x0 x2) fun a53=>if a39.cost=a53.cost then (bnd (atI x0 x1) fun a68=>bnd (atI x0 x2) fun a82=>if a68.order < a82.order then (some true) else (some false)) else (some false)):Option Bool) fun y6=>some y6
theorem DE {w:World} {A:Nat→Prop} (hA:∀ k,A k→k < w.heap.size) {vx0:Value} {x0:List Itm} (hx0:Vb w A vx0 x0) {x1:Int} (rx1:inI64 x1) {x2:Int} (rx2:inI64 x2) {r:Bool} (hm:BJ x0 x1 x2=some r) :
    Fn Tryz.prog 142 [vx0,(.int .i64 x1),(.int .i64 x2)] w fun v w'=>Ext w w'∧Vb w' (upA A w w') v r:=by
 obtain ⟨O,hB,hA0⟩:=enter hA
 replace hx0:=hx0.mono hA0
 obtain ⟨A4,c5,rfl⟩:=hx0.form
 refine AJ Tryz.func142 rfl Tryz.ntmps142 rfl ?_
 unfold BJ at hm
 refine Ah (Ae (o_as rfl rfl (o_z ?_)))
 refine Ah ?_
 obtain ⟨y6,hy7,hm⟩:=bs hm
 refine AL (fun l' w'=>∃ (x9:Unit) (O':Lab),subs l' [(6,(.bool y6))]∧Bs w A w' O') ?_ ?_
 ·
  refine BH (·=w) [(0,true),(1,true),(2,true),(3,true),(4,true),(5,true),(6,true),(7,true),(8,true),(9,true),(10,true),(11,true),(12,true),(13,true),(14,true),(15,true),(16,true),(17,true),(18,true),(19,true),(20,true),(21,true),(22,true),(23,true),(24,true),(25,true),(26,true),(27,true),(28,true),(29,true),(30,true),(31,true),(32,true),(33,true),(34,true),(35,true),(36,true),(37,true)] (by kernel_rfl) rfl (by kernel_rfl) rfl ?_
  refine h_mv rfl rfl rfl (h_mv rfl rfl rfl ?_)
  obtain ⟨a10,e11,hy7⟩:=bs hy7
  obtain ⟨p13,x12⟩:=AP e11
  obtain ⟨b14,o15,ce16,hA17,hl18,hd19,rfl,r21,r22,r23⟩:=hx0.elem' x12
  refine h_iaE (hA:=hA17) (hj:=(Int.toNat_of_nonneg p13).symm) (hlt:=hl18) rfl rfl rfl rfl ?_
  refine h_fa rfl rfl rfl (h_ldA (hc:=cat0 hd19) rfl rfl rfl ?_)
  refine h_mv rfl rfl rfl (h_mv rfl rfl rfl ?_)
  obtain ⟨a24,e25,hy7⟩:=bs hy7
  obtain ⟨p27,x26⟩:=AP e25
  obtain ⟨b28,o29,ce30,hA31,hl32,hd33,rfl,r35,r36,r37⟩:=hx0.elem' x26
  refine h_iaE (hA:=hA31) (hj:=(Int.toNat_of_nonneg p27).symm) (hlt:=hl32) rfl rfl rfl rfl ?_
  refine h_fa rfl rfl rfl (h_ldA (hc:=cat0 hd33) rfl rfl rfl ?_)
  refine h_ltS rfl rfl rfl rfl (fun c38=>?_) fun c38=>?_
  ·
   replace hy7:=ip hy7 c38
   refine h_mv rfl rfl rfl (h_no rfl rfl rfl rfl rfl (h_no rfl rfl rfl rfl rfl (h_no rfl rfl rfl rfl rfl (h_no rfl rfl rfl rfl rfl (h_no rfl rfl rfl rfl rfl (h_no rfl rfl rfl rfl rfl (h_no rfl rfl rfl rfl rfl (h_no rfl rfl rfl rfl rfl (h_no rfl rfl rfl rfl rfl (h_no rfl rfl rfl rfl rfl (h_no rfl rfl rfl rfl rfl (h_no rfl rfl rfl rfl rfl (h_no rfl rfl rfl rfl rfl (h_no rfl rfl rfl rfl rfl ?_))))))))))))))
   refine h_no rfl rfl rfl rfl rfl (h_no rfl rfl rfl rfl rfl (h_no rfl rfl rfl rfl rfl (h_no rfl rfl rfl rfl rfl (h_no rfl rfl rfl rfl rfl (h_no rfl rfl rfl rfl rfl (h_no rfl rfl rfl rfl rfl (h_no rfl rfl rfl rfl rfl (h_no rfl rfl rfl rfl rfl (h_no rfl rfl rfl rfl rfl (h_pt rfl rfl rfl rfl (h_as rfl rfl rfl (h_z ?_))))))))))))
   obtain rfl:=sm hy7
   exact ⟨(),_,⟨rfl,trivial⟩,hB⟩
  ·
   replace hy7:=im hy7 c38
   refine h_mv rfl rfl rfl (hwp_o rfl (AD rfl rfl (g_mv rfl rfl (hwp_o rfl (AD rfl rfl (g_mv rfl rfl (hwp_o rfl (AD rfl rfl ?_))))))))
   obtain ⟨a39,e40,hy7⟩:=bs hy7
   obtain ⟨p42,x41⟩:=AP e40
   obtain ⟨b43,o44,ce45,hA46,hl47,hd48,rfl,r50,r51,r52⟩:=hx0.elem' x41
   refine g_iaE (hA:=hA46) (hj:=(Int.toNat_of_nonneg p42).symm) (hlt:=hl47) rfl rfl rfl ?_
   refine hwp_o rfl (AD rfl rfl (g_fa rfl rfl (hwp_o rfl (AD rfl rfl (g_ldA (hc:=cat0 hd48) rfl rfl ?_)))))
   refine hwp_o rfl (AD rfl rfl (g_mv rfl rfl (hwp_o rfl (AD rfl rfl (g_mv rfl rfl (hwp_o rfl (AD rfl rfl ?_)))))))
   obtain ⟨a53,e54,hy7⟩:=bs hy7
   obtain ⟨p56,x55⟩:=AP e54
   obtain ⟨b57,o58,ce59,hA60,hl61,hd62,rfl,r64,r65,r66⟩:=hx0.elem' x55
   refine g_iaE (hA:=hA60) (hj:=(Int.toNat_of_nonneg p56).symm) (hlt:=hl61) rfl rfl rfl ?_
   refine hwp_o rfl (AD rfl rfl (g_fa rfl rfl (hwp_o rfl (AD rfl rfl (g_ldA (hc:=cat0 hd62) rfl rfl ?_)))))
   refine hwp_o rfl (AD rfl rfl (AS (fun _ _=>Fu rfl rfl) rfl (fun c67=>?_) (fun c67=>?_)))
   ·
    replace hy7:=ip hy7 c67
    refine hwp_o rfl (AD rfl rfl (g_mv rfl rfl (hwp_o rfl (AD rfl rfl (g_mv rfl rfl (hwp_o rfl (AD rfl rfl (g_mv rfl rfl (hwp_o rfl (AD rfl rfl ?_))))))))))
    obtain ⟨a68,e69,hy7⟩:=bs hy7
    obtain ⟨p71,x70⟩:=AP e69
    obtain ⟨b72,o73,ce74,hA75,hl76,hd77,rfl,r79,r80,r81⟩:=hx0.elem' x70
    refine g_iaE (hA:=hA75) (hj:=(Int.toNat_of_nonneg p71).symm) (hlt:=hl76) rfl rfl rfl ?_
    refine hwp_o rfl (AD rfl rfl (g_fa rfl rfl (hwp_o rfl (AD rfl rfl (g_ldA (hc:=cat1 hd77) rfl rfl ?_)))))
    refine hwp_o rfl (AD rfl rfl (g_mv rfl rfl (hwp_o rfl (AD rfl rfl (g_mv rfl rfl (hwp_o rfl (AD rfl rfl ?_)))))))
    obtain ⟨a82,e83,hy7⟩:=bs hy7
    obtain ⟨p85,x84⟩:=AP e83
    obtain ⟨b86,o87,ce88,hA89,hl90,hd91,rfl,r93,r94,r95⟩:=hx0.elem' x84
    refine g_iaE (hA:=hA89) (hj:=(Int.toNat_of_nonneg p85).symm) (hlt:=hl90) rfl rfl rfl ?_
    refine hwp_o rfl (AD rfl rfl (g_fa rfl rfl (hwp_o rfl (AD rfl rfl (g_ldA (hc:=cat1 hd91) rfl rfl ?_)))))
    refine hwp_o rfl (AD rfl rfl (AS (fun _ _=>BO rfl rfl) rfl (fun c96=>?_) (fun c96=>?_)))
    ·
     replace hy7:=ip hy7 c96
     refine hwp_o rfl (AD rfl rfl (g_pt rfl rfl rfl (h_pf rfl rfl rfl rfl (h_as rfl rfl rfl (h_z ?_)))))
     obtain rfl:=sm hy7
     exact ⟨(),_,⟨rfl,trivial⟩,hB⟩
    ·
     replace hy7:=im hy7 c96
     refine hwp_o rfl (AD rfl rfl (g_pt rfl rfl rfl (h_pf rfl rfl rfl rfl (h_as rfl rfl rfl (h_z ?_)))))
     obtain rfl:=sm hy7
     exact ⟨(),_,⟨rfl,trivial⟩,hB⟩
   ·
    replace hy7:=im hy7 c67
    refine hwp_o rfl (AD rfl rfl (g_mv rfl rfl (h_no rfl rfl rfl rfl rfl (h_no rfl rfl rfl rfl rfl (h_no rfl rfl rfl rfl rfl (h_no rfl rfl rfl rfl rfl (h_no rfl rfl rfl rfl rfl (h_no rfl rfl rfl rfl rfl (h_no rfl rfl rfl rfl rfl (h_no rfl rfl rfl rfl rfl (h_no rfl rfl rfl rfl rfl (h_no rfl rfl rfl rfl rfl (h_no rfl rfl rfl rfl rfl (hwp_o rfl ?_))))))))))))))
    refine AD rfl rfl (g_pf rfl rfl rfl (h_pf rfl rfl rfl rfl (h_as rfl rfl rfl (h_z ?_))))
    obtain rfl:=sm hy7
    exact ⟨(),_,⟨rfl,trivial⟩,hB⟩
 rintro l97 w98 ⟨x9,O99,hs100,hB⟩
 refine AM _ hs100 ?_
 refine At ?_
 obtain rfl:=sm hm
 exact ret1v rfl (AF rfl) ⟨hB.ext,vBool⟩
noncomputable def BK (x0:List Itm) (x1:Int) (x2:Int):Option (List Itm) :=
  bnd (atI x0 x2) fun a4=>bnd (atI x0 x1) fun a18=>bnd (atI x0 x1) fun a32=>bnd (atI (x0.set (x1:Int).toNat a4) x2) fun a48=>some ((x0.set (x1:Int).toNat a4).set (x2:Int).toNat a18)
theorem DF {w:World} {O:Lab} {A0:Option Addr} {m0 c0 i0:Nat} {x0:List Itm} (hx0:Rw i0 w O 97 (.slice A0 m0 c0) x0) {x1:Int} (rx1:inI64 x1) {x2:Int} (rx2:inI64 x2) {r:(List Itm)} (hm:BK x0 x1 x2=some r) :
    Fn Tryz.prog 145 [(.slice A0 m0 c0),(.int .i64 x1),(.int .i64 x2)] w fun v w'=>∃ O',St (eT i0) w O w' O'∧Rw i0 w' O' 97 (.slice A0 m0 c0) r:=by
 obtain ⟨O0,hE,hz0,hl2⟩:=ent1 (w:=w) (O:=O) hx0.2.2
 obtain rfl:m0=x0.length:=hx0.len.1
 have hx0':=Rw.leave hx0 hz0 hl2 (j:=2) (by decide)
 have hB:Bm w O0 w O0:=Bm.refl
 refine AJ Tryz.func145 rfl Tryz.ntmps145 rfl ?_
 unfold BK at hm
 refine Be [(13,[2])] O0 ?_
 refine x_pre (fuel:=5) [] [(0,true),(1,true),(4,true),(5,true),(6,true),(7,true),(8,true),(9,true),(10,true),(11,true),(12,true)] (by kernel_rfl) rfl ?_
 refine h_mv rfl rfl rfl (h_mv rfl rfl rfl (h_mv rfl rfl rfl (h_mv rfl rfl rfl ?_)))
 obtain ⟨a4,e5,hm⟩:=bs hm
 obtain ⟨p7,x6⟩:=AP e5
 obtain ⟨b8,o9,ce10,hA11,hF14,hl12,hd13,rfl,r15,r16,r17⟩:=hx0'.elemF x6
 refine h_iaE (hA:=hA11) (hj:=(Int.toNat_of_nonneg p7).symm) (hlt:=hl12) rfl rfl rfl rfl ?_
 refine h_laB (hl:=rfl) (hb:=fun w' ⟨O',hq⟩=>(AQ (hq.agree (i:=2) (by decide)) hF14 hd13)) rfl rfl rfl ?_
 refine h_mv rfl rfl rfl (h_mv rfl rfl rfl ?_)
 obtain ⟨a18,e19,hm⟩:=bs hm
 obtain ⟨p21,x20⟩:=AP e19
 obtain ⟨b22,o23,ce24,hA25,hF28,hl26,hd27,rfl,r29,r30,r31⟩:=hx0'.elemF x20
 refine h_iaE (hA:=hA25) (hj:=(Int.toNat_of_nonneg p21).symm) (hlt:=hl26) rfl rfl rfl rfl ?_
 refine h_laB (hl:=rfl) (hb:=fun w' ⟨O',hq⟩=>(AQ (hq.agree (i:=2) (by decide)) hF28 hd27)) rfl rfl rfl ?_
 obtain ⟨a32,e33,hm⟩:=bs hm
 obtain ⟨p35,x34⟩:=AP e33
 obtain ⟨b36,o37,ce38,hA39,hF42,hl40,hd41,rfl,r43,r44,r45⟩:=hx0'.elemF x34
 refine h_iaE (hA:=hA39) (hj:=(Int.toNat_of_nonneg p35).symm) (hlt:=hl40) rfl rfl rfl rfl ?_
 refine AH ?_
 refine x_pre (fuel:=3) [2] [(2,true),(3,true)] (by kernel_rfl) rfl ?_
 refine h_mv rfl rfl rfl (h_mv rfl rfl rfl (AH ?_))
 refine x_one (i:=13) (by kernel_rfl) rfl ?_
 refine Di rfl hx0' (a:=a4) (Vb.ofAgg (cs:=[(.int .i64 a4.cost),(.int .i64 a4.order),(.int .i64 a4.id)]) (x:=a4) rfl ⟨rfl,r15,r16,r17⟩) hA39 rfl rfl (Ba x34) fun w46 S47 hx0'=>?_
 have hZ:=S47.lst [2] (fun _ h=>by cases h;decide)
 refine x_go [] hZ (by kernel_rfl) ?_
 refine x_pre (fuel:=1) [] [(14,true)] (by kernel_rfl) rfl ?_
 obtain ⟨a48,e49,hm⟩:=bs hm
 obtain ⟨p51,x50⟩:=AP e49
 obtain ⟨b52,o53,ce54,hA55,hF58,hl56,hd57,rfl,r59,r60,r61⟩:=hx0'.elemF x50
 refine h_iaE (hA:=hA55) (hj:=(Int.toNat_of_nonneg p51).symm) (hlt:=hl56) rfl rfl rfl rfl ?_
 refine AH ?_
 refine x_one (i:=15) (by kernel_rfl) rfl ?_
 refine Di rfl hx0' (a:=a18) (Vb.ofAgg (cs:=[(.int .i64 a18.cost),(.int .i64 a18.order),(.int .i64 a18.id)]) (x:=a18) rfl ⟨rfl,r29,r30,r31⟩) hA55 rfl rfl (Ba x50) fun w62 S63 hx0'=>?_
 refine x_end (by kernel_rfl) ?_
 refine x_nil (by kernel_rfl) ?_
 obtain rfl:=sm hm
 replace hB:=(hB.st S47).st S63
 obtain ⟨O',hS',hz,hl⟩:=hE.leave (fun q=>if q=2 then i0 else 0) rfl hB
 exact ret0n rfl  ⟨O',hS',(Rw.leave hx0' hz (hl 2 (by decide) (by decide)) hx0.2.2)⟩
noncomputable def Cg (x0:BxR 99 97 Itm) (x1:An 97 Itm):Option (BxR 99 97 Itm) :=
  bnd (appI 24 x0.l [x1.x]) fun u31=>some (⟨u31⟩:BxR 99 97 Itm)
theorem Gw {w:World} {O:Lab} {p0 i0:Nat} {x0:BxR 99 97 Itm} (hx0:Ob i0 w O (.pointer (some ⟨p0,0,none⟩)) x0) {vx1:Value} {x1:An 97 Itm} (hx1:Vb w (Fr 0 w O) vx1 x1) {r:(BxR 99 97 Itm)} (hm:Cg x0 x1=some r) :
    Fn Tryz.prog 144 [(.pointer (some ⟨p0,0,none⟩)),vx1] w fun v w'=>∃ O',St (eT i0) w O w' O'∧Ob i0 w' O' (.pointer (some ⟨p0,0,none⟩)) r:=by
 obtain ⟨O0,hE,hz0,hl2⟩:=ent1 (w:=w) (O:=O) hx0.2
 have hx0':=Ob.leave hx0 hz0 hl2 (j:=2) (by decide)
 have hB:Bm w O0 w O0:=Bm.refl
 replace hx1:=hx1.mono hz0
 obtain ⟨v3,rfl,h4⟩:=hx1.any
 obtain ⟨cs5,rfl,rfl,r6,r7,r8⟩:=h4
 refine AJ Tryz.func144 rfl Tryz.ntmps144 rfl ?_
 unfold Cg at hm
 refine Ah (Ae (o_mv rfl rfl (o_taA rfl rfl ?_)))
 refine o_mv rfl rfl (o_ex rfl rfl rfl (o_ex rfl rfl rfl (AX 3 O0 rfl fun g9 w10 O11 S12 h13=>?_)))
 refine AK h13 rfl rfl rfl (Nat.le_of_ble_eq_true rfl) (by first|exact allOne rfl|simp [Value.cells,Value.oneCell',AI]) fun w14 S15 h13=>?_
 replace h13:Lc 3 w14 O11 g9 97 [(.int .i64 x1.x.cost),(.int .i64 x1.x.order),(.int .i64 x1.x.id)]:=h13
 refine o_as rfl rfl (o_z ?_)
 refine Ah (Ae (o_mv rfl rfl (o_z ?_)))
 refine Ar rfl ?_
 replace hx0':=(hx0'.st S12).st S15
 obtain ⟨O16,v20,S17,ha19,h18,h21⟩:=BxR.opn hx0' 2 4 (by decide)
 obtain ⟨A22,c23,rfl⟩:=h21.form
 refine Be [(6,[4])] O16 ?_
 refine x_pre (fuel:=5) [] [(1,true),(2,true),(3,true),(4,true)] (by kernel_rfl) rfl ?_
 refine h_mv rfl rfl rfl (h_nc rfl rfl rfl (h_ldC (hc:=fun w' ⟨O',hq⟩=>Blk.cell (i:=0) ((h18.st hq (by decide)).1) rfl) rfl rfl rfl ?_))
 replace h13:=h13.st S17
 refine h_laB (hl:=rfl) (hb:=fun w' ⟨O',hq⟩=>((h13.st hq (by decide)).1).cellsAt) rfl rfl rfl ?_
 refine AH ?_
 refine x_pre (fuel:=4) [4] [(0,true)] (by kernel_rfl) rfl ?_
 refine h_mv rfl rfl rfl (AH ?_)
 refine x_one (i:=5) (by kernel_rfl) rfl ?_
 refine Bd 5 (by decide) O16 (xs:=([x1.x]:List Itm)) rfl rfl rfl rfl ⟨(Vb.ofAgg (cs:=[(.int .i64 x1.x.cost),(.int .i64 x1.x.order),(.int .i64 x1.x.id)]) (x:=x1.x) rfl ⟨rfl,r6,r7,r8⟩),trivial⟩ (by decide) (by decide) rfl fun g25 w26 O27 S28 h29=>?_
 have hZ:=S28.lst [] (fun _ h=>h.elim)
 refine x_go [(6,[4])] hZ (by kernel_rfl) ?_
 refine x_one (i:=6) (by kernel_rfl) rfl ?_
 obtain ⟨u31,e32,hm⟩:=bs hm
 obtain ⟨e32,e33,e34⟩:=AO e32
 replace h21:=h21.st S28
 refine Bb rfl h21 (h29.rd) rfl rfl (by decide) e33 e34 rfl fun A35 c36 w37 O38 S39 h40=>?_
 rw [← e32] at h40 ⊢
 have hZ:=S39.lst [4] (fun _ h=>by cases h;decide)
 refine x_go [] hZ (by kernel_rfl) ?_
 refine x_pre (fuel:=1) [] [(7,true)] (by kernel_rfl) rfl ?_
 refine h_nc rfl rfl rfl (AH ?_)
 refine x_one (i:=8) (by kernel_rfl) rfl ?_
 replace h18:=(h18.st S28).st S39
 refine AK h18 rfl rfl rfl (Nat.le_of_ble_eq_true rfl) (by first|exact allOne rfl|simp [Value.cells,Value.oneCell',AI]) fun w42 S43 h18=>?_
 replace h18:Lc 2 w42 O38 p0 99 [(.slice A35 u31.length c36)]:=h18
 refine x_end (by kernel_rfl) ?_
 refine x_nil (by kernel_rfl) ?_
 replace h40:=h40.st S43
 obtain ⟨O44,S45,hz47,ha48,h46⟩:=BxR.shut (x:=(⟨u31⟩:BxR 99 97 Itm)) (l0:=2) (l1:=4) (by decide) h18 h40
 obtain rfl:=sm hm
 replace hB:=((((((hB.st S12).st S15).st S17).st S28).st S39).st S43).st S45
 obtain ⟨O',hS',hz,hl⟩:=hE.leave (fun q=>if q=2 then i0 else 0) rfl hB
 exact ret0n rfl  ⟨O',hS',(Ob.leave h46 hz (hl 2 (by decide) (by decide)) hx0.2)⟩
noncomputable def Cu (x0:BxR 99 97 Itm):Option ((An 97 Itm)×(BxR 99 97 Itm)) :=
  bnd (chkI ((x0.l.length:Int) - 1)) fun n13=>bnd (atI x0.l n13) fun a16=>bnd (cutI x0.l 0 n13) fun u37=>some ((⟨a16⟩:An 97 Itm),(⟨u37⟩:BxR 99 97 Itm))
theorem GR {w:World} {O:Lab} {p0 i0:Nat} {x0:BxR 99 97 Itm} (hx0:Ob i0 w O (.pointer (some ⟨p0,0,none⟩)) x0) {r:(An 97 Itm)×(BxR 99 97 Itm)} (hm:Cu x0=some r) :
    Fn Tryz.prog 143 [(.pointer (some ⟨p0,0,none⟩))] w fun v w'=>∃ O',St (eT i0) w O w' O'∧Ob i0 w' O' (.pointer (some ⟨p0,0,none⟩)) r.2∧Vb w' (Fr 0 w' O') v r.1:=by
 obtain ⟨O0,hE,hz0,hl2⟩:=ent1 (w:=w) (O:=O) hx0.2
 have hx0':=Ob.leave hx0 hz0 hl2 (j:=2) (by decide)
 have hB:Bm w O0 w O0:=Bm.refl
 refine AJ Tryz.func143 rfl Tryz.ntmps143 rfl ?_
 unfold Cu at hm
 refine Ah (Ae (o_as rfl rfl (o_z ?_)))
 refine Ah (Ae (o_mv rfl rfl (o_nc rfl rfl ?_)))
 obtain ⟨O2,v6,S3,ha5,h4,h7⟩:=BxR.opn hx0' 2 3 (by decide)
 obtain ⟨A8,c9,rfl⟩:=h7.form
 refine o_ld (hc:=Blk.cell (i:=0) (h4.1) rfl) rfl rfl ?_
 refine o_ln rfl rfl ?_
 have l12:x0.l.length≤9223372036854775807:=Nat.le_trans h7.len.2.1 h7.len.2.2
 have r11:inI64 (x0.l.length:Int):=rngNat l12
 obtain ⟨n13,e14,hm⟩:=bs hm
 have r15:=(Bc e14)
 refine o_sbE (he:=e14) rfl rfl rfl ?_
 refine o_as rfl rfl (o_z ?_)
 refine Ah (Ae (o_mv rfl rfl (o_nc rfl rfl (o_ld (hc:=Blk.cell (i:=0) (h4.1) rfl) rfl rfl ?_))))
 refine o_mv rfl rfl ?_
 obtain ⟨a16,e17,hm⟩:=bs hm
 obtain ⟨p19,x18⟩:=AP e17
 obtain ⟨b20,o21,ce22,hA23,hl24,hd25,rfl,r27,r28,r29⟩:=h7.elem x18
 refine o_iaE (hA:=hA23) (hj:=(Int.toNat_of_nonneg p19).symm) (hlt:=hl24) rfl rfl rfl ?_
 refine o_la (hl:=rfl) (hc:=hd25) rfl rfl ?_
 refine AX 4 O2 rfl fun g30 w31 O32 S33 h34=>?_
 refine AK h34 rfl rfl rfl (Nat.le_of_ble_eq_true rfl) (by first|exact allOne rfl|simp [Value.cells,Value.oneCell',AI]) fun w35 S36 h34=>?_
 replace h34:Lc 4 w35 O32 g30 97 [(.int .i64 a16.cost),(.int .i64 a16.order),(.int .i64 a16.id)]:=h34
 refine o_z ?_
 refine Ah (Ae (o_mv rfl rfl (o_mv rfl rfl (o_nc rfl rfl ?_))))
 replace h4:=(h4.st S33).st S36
 refine o_ld (hc:=Blk.cell (i:=0) (h4.1) rfl) rfl rfl ?_
 refine o_mv rfl rfl ?_
 obtain ⟨u37,e38,hm⟩:=bs hm
 replace h7:=(h7.st S33).st S36
 obtain ⟨h39,e40⟩:=cutRw h7 e38
 refine LN (hc:=e40) rfl rfl rfl ?_
 refine o_nc rfl rfl (AK h4 rfl rfl rfl (Nat.le_of_ble_eq_true rfl) (by first|exact allOne rfl|simp [Value.cells,Value.oneCell',AI]) fun w42 S43 h4=>?_)
 replace h4:Lc 2 w42 O32 p0 99 [(.slice A8 u37.length c9)]:=h4
 refine o_z ?_
 refine Ah (Ae ?_)
 replace h34:=h34.st S43
 refine o_la (hl:=rfl) (hc:=(h34.1).cellsAt) rfl rfl ?_
 refine o_miA rfl rfl ?_
 refine o_as rfl rfl (o_z ?_)
 refine At ?_
 replace h39:=h39.st S43
 obtain ⟨O44,S45,hz47,ha48,h46⟩:=BxR.shut (x:=(⟨u37⟩:BxR 99 97 Itm)) (l0:=2) (l1:=3) (by decide) h4 h39
 obtain rfl:=sm hm
 replace hB:=((((hB.st S3).st S33).st S36).st S43).st S45
 obtain ⟨O',hS',hz,hl⟩:=hE.leave (fun q=>if q=2 then i0 else 0) rfl hB
 exact ret1v rfl (AF rfl) ⟨O',hS',(Ob.leave h46 hz (hl 2 (by decide) (by decide)) hx0.2),(vAny (Vb.ofAgg (cs:=[(.int .i64 a16.cost),(.int .i64 a16.order),(.int .i64 a16.id)]) (x:=a16) rfl ⟨rfl,r27,r28,r29⟩))⟩
noncomputable def Cv (x0:BxR 99 97 Itm) (x1:Int):Option (BxR 99 97 Itm) :=
  bnd (lop (ρ:=(BxR 99 97 Itm)) (fun (s5:Int×(BxR 99 97 Itm))=>bnd (chkI (s5.1 - 1)) fun n22=>bnd (quoT n22 2) fun n25=>bnd (if n25=s5.1 then (some true) else (bnd (BJ s5.2.l s5.1 n25) fun q42=>if q42=true then some false else some true):Option Bool) fun y28=>if y28=true then (some (.brk (s5.1,s5.2))) else (bnd (BK s5.2.l n25 s5.1) fun q73=>some (.next (n25,(⟨q73⟩:BxR 99 97 Itm))))) (x1,x0)) fun res3=>fin res3 fun (s90:Int×(BxR 99 97 Itm))=>some s90.2
theorem GS {w:World} {O:Lab} {p0 i0:Nat} {x0:BxR 99 97 Itm} (hx0:Ob i0 w O (.pointer (some ⟨p0,0,none⟩)) x0) {x1:Int} (rx1:inI64 x1) {r:(BxR 99 97 Itm)} (hm:Cv x0 x1=some r) :
    Fn Tryz.prog 84 [(.iface 95 (.pointer (some ⟨p0,0,none⟩))),(.int .i64 x1)] w fun v w'=>∃ O',St (eT i0) w O w' O'∧Ob i0 w' O' (.pointer (some ⟨p0,0,none⟩)) r:=by
 obtain ⟨O0,hE,hz0,hl2⟩:=ent1 (w:=w) (O:=O) hx0.2
 have hx0':=Ob.leave hx0 hz0 hl2 (j:=2) (by decide)
 have hB:Bm w O0 w O0:=Bm.refl
 refine AJ Tryz.func84 rfl Tryz.ntmps84 rfl ?_
 unfold Cv at hm
 obtain ⟨res3,hL4,hm⟩:=bs hm
 refine AL (aft res3 (fun (s5:Int×(BxR 99 97 Itm)) (x6:Unit)=>[]) (fun s5 x6 w'=>∃ O':Lab,Bm w O0 w' O'∧Ob 2 w' O' (.pointer (some ⟨p0,0,none⟩)) s5.2∧inI64 s5.1)) ?_ ?_
 ·
  refine Al (Fq (σ:=Int×(BxR 99 97 Itm)) (X:=Unit) hL4 (fun (s5:Int×(BxR 99 97 Itm)) (x6:Unit)=>[(0,(.iface 95 (.pointer (some ⟨p0,0,none⟩)))),(1,(.int .i64 s5.1))]) _ (fun s5 x6 w'=>∃ O':Lab,Bm w O0 w' O'∧Ob 2 w' O' (.pointer (some ⟨p0,0,none⟩)) s5.2∧inI64 s5.1) _ () ⟨O0,hB,hx0',rx1⟩ ⟨rfl,rfl,trivial⟩ ?_)
  rintro s5 x6 w9 cc11 ⟨O10,hB,h21,r20⟩ hf13 hret14 hbrk15
  refine Al (Ah (Ae (o_mv rfl rfl ?_)))
  obtain ⟨n22,e23,hf13⟩:=bs hf13
  have r24:=(Bc e23)
  refine o_sbE (he:=e23) rfl rfl rfl ?_
  obtain ⟨n25,e26,hf13⟩:=bs hf13
  have r27:=Kd e26 r24
  refine o_qtE (he:=e26) (hr:=r24) rfl rfl rfl ?_
  refine o_as rfl rfl (o_z ?_)
  refine Ah (Ah ?_)
  obtain ⟨y28,hy29,hf13⟩:=bs hf13
  refine AL (fun l' w'=>∃ (x31:Unit) (O':Lab),subs l' [(0,(.iface 95 (.pointer (some ⟨p0,0,none⟩)))),(1,(.int .i64 s5.1)),(4,(.int .i64 n25)),(17,(.bool y28))]∧Bm w O0 w' O'∧Ob 2 w' O' (.pointer (some ⟨p0,0,none⟩)) s5.2) ?_ ?_
  ·
   refine Ae (o_mv rfl rfl (o_mv rfl rfl (o_eeS rfl rfl rfl (fun c32=>?_) fun c32=>?_)))
   ·
    replace hy29:=ip hy29 c32
    refine o_mv rfl rfl (AB rfl rfl rfl rfl (AB rfl rfl rfl rfl (AB rfl rfl rfl rfl (AB rfl rfl rfl rfl (AB rfl rfl rfl rfl (o_pt rfl rfl rfl (o_z ?_)))))))
    obtain rfl:=sm hy29
    exact ⟨(),_,⟨rfl,rfl,rfl,rfl,trivial⟩,hB,h21⟩
   ·
    replace hy29:=im hy29 c32
    refine o_mv rfl rfl (AC rfl rfl (o_mv rfl rfl (AC rfl rfl (o_mv rfl rfl (AC rfl rfl (o_mv rfl rfl (AC rfl rfl ?_)))))))
    obtain ⟨O33,v37,S34,ha36,h35,h38⟩:=BxR.opn h21 2 3 (by decide)
    obtain ⟨A39,c40,rfl⟩:=h38.form
    obtain ⟨q42,e43,hy29⟩:=bs hy29
    refine Hg (O:=O33) (A:=All w9) (R:=fun w' F v=>Vb w' F v q42) (DE (fun _ h=>h) (h38).all r20 r27 e43) (EA (Blk.cell (i:=0) h35.1 rfl)) rfl rfl rfl fun v48 w44 O45 S46 h47=>?_
    obtain rfl:=h47.bool
    cases q42
    case false =>
     replace hy29:=iF hy29
     refine AC rfl rfl (o_nf rfl rfl (o_pf rfl rfl rfl (o_z ?_)))
     replace h35:=h35.st S46
     replace h38:=h38.st S46
     obtain ⟨O49,S50,hz52,ha53,h51⟩:=BxR.shut (x:=s5.2) (l0:=2) (l1:=3) (by decide) h35 h38
     obtain rfl:=sm hy29
     replace hB:=((hB.st S34).st S46).st S50
     exact ⟨(),_,⟨rfl,rfl,rfl,rfl,trivial⟩,hB,h51⟩
    replace hy29:=iT hy29
    refine AC rfl rfl (o_nt rfl rfl (o_pf rfl rfl rfl (o_z ?_)))
    replace h35:=h35.st S46
    replace h38:=h38.st S46
    obtain ⟨O54,S55,hz57,ha58,h56⟩:=BxR.shut (x:=s5.2) (l0:=2) (l1:=3) (by decide) h35 h38
    obtain rfl:=sm hy29
    replace hB:=((hB.st S34).st S46).st S55
    exact ⟨(),_,⟨rfl,rfl,rfl,rfl,trivial⟩,hB,h56⟩
  rintro l59 w60 ⟨x31,O61,hs62,hB,h21⟩
  refine AM _ hs62 ?_
  refine Ca rfl (fun c63=>?_) (fun c63=>?_)
  ·
   replace hf13:=ip hf13 c63
   refine Au ?_
   obtain rfl:=sm hf13
   refine (?_:Exists _)
   exact ⟨_,(),hbrk15 _ rfl,trivial,_,hB,h21,r20⟩
  ·
   replace hf13:=im' hf13 c63
   refine Am (Ah (Ae (o_mv rfl rfl (o_mv rfl rfl (o_mv rfl rfl ?_)))))
   obtain ⟨O64,v68,S65,ha67,h66,h69⟩:=BxR.opn h21 2 3 (by decide)
   obtain ⟨A70,c71,rfl⟩:=h69.form
   obtain ⟨q73,e74,hf13⟩:=bs hf13
   refine Hf (O:=O64) (DF h69 r27 r20 e74) (EA (Blk.cell (i:=0) h66.1 rfl)) rfl rfl rfl fun v79 w75 O76 S77 h80=>?_
   refine o_z ?_
   refine Ae (o_mv rfl rfl (o_as rfl rfl (o_z ?_)))
   replace h66:=h66.st S77
   obtain ⟨O81,S82,hz84,ha85,h83⟩:=BxR.shut (x:=(⟨q73⟩:BxR 99 97 Itm)) (l0:=2) (l1:=3) (by decide) (by have q:=h66;rw [← h80.len.1.symm] at q;exact q) h80.relen
   obtain rfl:=sm hf13
   refine (?_:Exists _)
   replace hB:=((hB.st S65).st S77).st S82
   exact ⟨_,(),rfl,⟨rfl,rfl,trivial⟩,_,hB,h83,r27⟩
 rintro l86 w87 ⟨s90,x91,rfl,hs89,O88,hB,h21,r20⟩
 replace hm:=AR hm
 obtain rfl:=sm hm
 obtain ⟨O',hS',hz,hl⟩:=hE.leave (fun q=>if q=2 then i0 else 0) rfl hB
 exact ret0n rfl  ⟨O',hS',(Ob.leave h21 hz (hl 2 (by decide) (by decide)) hx0.2)⟩
noncomputable def Cc (x0:BxR 99 97 Itm) (x1:Int) (x2:Int):Option (Bool×(BxR 99 97 Itm)) :=
  bnd (lop (ρ:=Bool×(BxR 99 97 Itm)) (fun (s6:Int×(BxR 99 97 Itm))=>bnd (chkI (2 * s6.1)) fun n23=>bnd (chkI (n23 + 1)) fun n26=>bnd (if x2≤n26 then (some true) else (if n26 < 0 then (some true) else (some false)):Option Bool) fun y29=>if y29=true then (some (.brk (s6.1,s6.2))) else (bnd (bnd (chkI (n26 + 1)) fun n45=>bnd (if n45 < x2 then (bnd (BJ s6.2.l n45 n26) fun q62=>if q62=true then some true else some false) else (some false):Option Bool) fun y48=>if y48=true then (some n45) else (some n26):Option Int) fun y40=>bnd (BJ s6.2.l y40 s6.1) fun q97=>if q97=true then bnd (BK s6.2.l s6.1 y40) fun q109=>some (.next (y40,(⟨q109⟩:BxR 99 97 Itm))) else some (.brk (s6.1,s6.2)))) (x1,x0)) fun res4=>fin res4 fun (s126:Int×(BxR 99 97 Itm))=>bnd (if x1 < s126.1 then (some true) else (some false):Option Bool) fun y128=>some (y128,s126.2)
theorem Gd {w:World} {O:Lab} {p0 i0:Nat} {x0:BxR 99 97 Itm} (hx0:Ob i0 w O (.pointer (some ⟨p0,0,none⟩)) x0) {x1:Int} (rx1:inI64 x1) {x2:Int} (rx2:inI64 x2) {r:Bool×(BxR 99 97 Itm)} (hm:Cc x0 x1 x2=some r) :
    Fn Tryz.prog 78 [(.iface 95 (.pointer (some ⟨p0,0,none⟩))),(.int .i64 x1),(.int .i64 x2)] w fun v w'=>∃ O',St (eT i0) w O w' O'∧Ob i0 w' O' (.pointer (some ⟨p0,0,none⟩)) r.2∧Vb w' (Fr 0 w' O') v r.1:=by
 obtain ⟨O0,hE,hz0,hl2⟩:=ent1 (w:=w) (O:=O) hx0.2
 have hx0':=Ob.leave hx0 hz0 hl2 (j:=2) (by decide)
 have hB:Bm w O0 w O0:=Bm.refl
 refine AJ Tryz.func78 rfl Tryz.ntmps78 rfl ?_
 unfold Cc at hm
 refine Ah (Ae (o_as rfl rfl (o_z ?_)))
 refine Ah (Ae (o_mv rfl rfl (o_as rfl rfl (o_z ?_))))
 refine Ah ?_
 obtain ⟨res4,hL5,hm⟩:=bs hm
 refine AL (aft res4 (fun (s6:Int×(BxR 99 97 Itm)) (x7:Unit)=>[(1,(.int .i64 x1)),(7,(.int .i64 s6.1))]) (fun s6 x7 w'=>∃ O':Lab,Bm w O0 w' O'∧Ob 2 w' O' (.pointer (some ⟨p0,0,none⟩)) s6.2∧inI64 s6.1)) ?_ ?_
 ·
  refine Al (Fq (σ:=Int×(BxR 99 97 Itm)) (X:=Unit) hL5 (fun (s6:Int×(BxR 99 97 Itm)) (x7:Unit)=>[(0,(.iface 95 (.pointer (some ⟨p0,0,none⟩)))),(1,(.int .i64 x1)),(2,(.int .i64 x2)),(7,(.int .i64 s6.1))]) _ (fun s6 x7 w'=>∃ O':Lab,Bm w O0 w' O'∧Ob 2 w' O' (.pointer (some ⟨p0,0,none⟩)) s6.2∧inI64 s6.1) _ () ⟨O0,hB,hx0',rx1⟩ ⟨rfl,rfl,rfl,rfl,trivial⟩ ?_)
  rintro s6 x7 w10 cc12 ⟨O11,hB,h22,r21⟩ hf14 hret15 hbrk16
  refine Al (Ah (Ae (o_mv rfl rfl ?_)))
  obtain ⟨n23,e24,hf14⟩:=bs hf14
  have r25:=(Bc e24)
  refine o_mlE (he:=e24) rfl rfl rfl ?_
  obtain ⟨n26,e27,hf14⟩:=bs hf14
  have r28:=(Bc e27)
  refine o_adE (he:=e27) rfl rfl rfl ?_
  refine o_as rfl rfl (o_z ?_)
  refine Ah (Ah ?_)
  obtain ⟨y29,hy30,hf14⟩:=bs hf14
  refine AL (fun l' w'=>∃ (x32:Unit) (O':Lab),subs l' [(0,(.iface 95 (.pointer (some ⟨p0,0,none⟩)))),(1,(.int .i64 x1)),(2,(.int .i64 x2)),(7,(.int .i64 s6.1)),(8,(.int .i64 n26)),(21,(.bool y29))]∧Bm w O0 w' O'∧Ob 2 w' O' (.pointer (some ⟨p0,0,none⟩)) s6.2) ?_ ?_
  ·
   refine Ae (o_mv rfl rfl (o_mv rfl rfl (o_geS rfl rfl rfl (fun c33=>?_) fun c33=>?_)))
   ·
    replace hy30:=ip hy30 c33
    refine o_mv rfl rfl (AB rfl rfl rfl rfl (AB rfl rfl rfl rfl (o_pt rfl rfl rfl (o_z ?_))))
    obtain rfl:=sm hy30
    exact ⟨(),_,⟨rfl,rfl,rfl,rfl,rfl,rfl,trivial⟩,hB,h22⟩
   ·
    replace hy30:=im hy30 c33
    refine o_mv rfl rfl (AC rfl rfl (o_mv rfl rfl (AC rfl rfl (o_ltS rfl rfl rfl (fun c34=>?_) fun c34=>?_))))
    ·
     replace hy30:=ip hy30 c34
     refine o_pf rfl rfl rfl (o_z ?_)
     obtain rfl:=sm hy30
     exact ⟨(),_,⟨rfl,rfl,rfl,rfl,rfl,rfl,trivial⟩,hB,h22⟩
    ·
     replace hy30:=im hy30 c34
     refine o_pf rfl rfl rfl (o_z ?_)
     obtain rfl:=sm hy30
     exact ⟨(),_,⟨rfl,rfl,rfl,rfl,rfl,rfl,trivial⟩,hB,h22⟩
  rintro l35 w36 ⟨x32,O37,hs38,hB,h22⟩
  refine AM _ hs38 ?_
  refine Ca rfl (fun c39=>?_) (fun c39=>?_)
  ·
   replace hf14:=ip hf14 c39
   refine Au ?_
   obtain rfl:=sm hf14
   refine (?_:Exists _)
   exact ⟨_,(),hbrk16 _ rfl,⟨rfl,rfl,trivial⟩,_,hB,h22,r21⟩
  ·
   replace hf14:=im' hf14 c39
   refine Am (Ah (Ae (o_mv rfl rfl (o_as rfl rfl (o_z ?_)))))
   refine Ah ?_
   obtain ⟨y40,hy41,hf14⟩:=bs hf14
   refine AL (fun l' w'=>∃ (x43:Unit) (O':Lab),subs l' [(0,(.iface 95 (.pointer (some ⟨p0,0,none⟩)))),(1,(.int .i64 x1)),(2,(.int .i64 x2)),(7,(.int .i64 s6.1)),(9,(.int .i64 y40))]∧Bm w O0 w' O'∧Ob 2 w' O' (.pointer (some ⟨p0,0,none⟩)) s6.2∧inI64 y40) ?_ ?_
   ·
    refine Ah (Ae (o_mv rfl rfl ?_))
    obtain ⟨n45,e46,hy41⟩:=bs hy41
    have r47:=(Bc e46)
    refine o_adE (he:=e46) rfl rfl rfl ?_
    refine o_as rfl rfl (o_z ?_)
    refine Ah ?_
    obtain ⟨y48,hy49,hy41⟩:=bs hy41
    refine AL (fun l' w'=>∃ (x51:Unit) (O':Lab),subs l' [(0,(.iface 95 (.pointer (some ⟨p0,0,none⟩)))),(1,(.int .i64 x1)),(2,(.int .i64 x2)),(7,(.int .i64 s6.1)),(9,(.int .i64 n26)),(10,(.int .i64 n45)),(33,(.bool y48))]∧Bm w O0 w' O'∧Ob 2 w' O' (.pointer (some ⟨p0,0,none⟩)) s6.2) ?_ ?_
    ·
     refine Ae (o_mv rfl rfl (o_mv rfl rfl (o_ltS rfl rfl rfl (fun c52=>?_) fun c52=>?_)))
     ·
      replace hy49:=ip hy49 c52
      refine o_mv rfl rfl (AC rfl rfl (o_mv rfl rfl (AC rfl rfl (o_mv rfl rfl (AC rfl rfl (o_mv rfl rfl (AC rfl rfl ?_)))))))
      obtain ⟨O53,v57,S54,ha56,h55,h58⟩:=BxR.opn h22 2 3 (by decide)
      obtain ⟨A59,c60,rfl⟩:=h58.form
      obtain ⟨q62,e63,hy49⟩:=bs hy49
      refine Hg (O:=O53) (A:=All w36) (R:=fun w' F v=>Vb w' F v q62) (DE (fun _ h=>h) (h58).all r47 r28 e63) (EA (Blk.cell (i:=0) h55.1 rfl)) rfl rfl rfl fun v68 w64 O65 S66 h67=>?_
      obtain rfl:=h67.bool
      cases q62
      case false =>
       replace hy49:=iF hy49
       refine o_pt rfl rfl rfl (o_z ?_)
       replace h55:=h55.st S66
       replace h58:=h58.st S66
       obtain ⟨O69,S70,hz72,ha73,h71⟩:=BxR.shut (x:=s6.2) (l0:=2) (l1:=3) (by decide) h55 h58
       obtain rfl:=sm hy49
       replace hB:=((hB.st S54).st S66).st S70
       exact ⟨(),_,⟨rfl,rfl,rfl,rfl,rfl,rfl,rfl,trivial⟩,hB,h71⟩
      replace hy49:=iT hy49
      refine o_pt rfl rfl rfl (o_z ?_)
      replace h55:=h55.st S66
      replace h58:=h58.st S66
      obtain ⟨O74,S75,hz77,ha78,h76⟩:=BxR.shut (x:=s6.2) (l0:=2) (l1:=3) (by decide) h55 h58
      obtain rfl:=sm hy49
      replace hB:=((hB.st S54).st S66).st S75
      exact ⟨(),_,⟨rfl,rfl,rfl,rfl,rfl,rfl,rfl,trivial⟩,hB,h76⟩
     ·
      replace hy49:=im hy49 c52
      refine o_mv rfl rfl (AB rfl rfl rfl rfl (AB rfl rfl rfl rfl (AB rfl rfl rfl rfl (AB rfl rfl rfl rfl (o_pf rfl rfl rfl (o_z ?_))))))
      obtain rfl:=sm hy49
      exact ⟨(),_,⟨rfl,rfl,rfl,rfl,rfl,rfl,rfl,trivial⟩,hB,h22⟩
    rintro l79 w80 ⟨x51,O81,hs82,hB,h67⟩
    refine AM _ hs82 ?_
    refine Ca rfl (fun c83=>?_) (fun c83=>?_)
    ·
     replace hy41:=ip hy41 c83
     refine Ae (o_mv rfl rfl (o_as rfl rfl (o_z ?_)))
     obtain rfl:=sm hy41
     exact ⟨(),_,⟨rfl,rfl,rfl,rfl,rfl,trivial⟩,hB,h67,r47⟩
    ·
     replace hy41:=im' hy41 c83
     refine Am ?_
     obtain rfl:=sm hy41
     exact ⟨(),_,⟨rfl,rfl,rfl,rfl,rfl,trivial⟩,hB,h67,r28⟩
   rintro l84 w85 ⟨x43,O86,hs87,hB,h62,r44⟩
   refine AM _ hs87 ?_
   refine Ah (Ah (Ae (o_mv rfl rfl (o_mv rfl rfl (o_mv rfl rfl ?_)))))
   obtain ⟨O88,v92,S89,ha91,h90,h93⟩:=BxR.opn h62 2 3 (by decide)
   obtain ⟨A94,c95,rfl⟩:=h93.form
   obtain ⟨q97,e98,hf14⟩:=bs hf14
   refine Hg (O:=O88) (A:=All w85) (R:=fun w' F v=>Vb w' F v q97) (DE (fun _ h=>h) (h93).all r44 r21 e98) (EA (Blk.cell (i:=0) h90.1 rfl)) rfl rfl rfl fun v103 w99 O100 S101 h102=>?_
   obtain rfl:=h102.bool
   cases q97
   case false =>
    replace hf14:=iF hf14
    refine o_nf rfl rfl (o_z ?_)
    refine Ar rfl (Au ?_)
    replace h90:=h90.st S101
    replace h93:=h93.st S101
    obtain ⟨O104,S105,hz107,ha108,h106⟩:=BxR.shut (x:=s6.2) (l0:=2) (l1:=3) (by decide) h90 h93
    obtain rfl:=sm hf14
    refine (?_:Exists _)
    replace hB:=((hB.st S89).st S101).st S105
    exact ⟨_,(),hbrk16 _ rfl,⟨rfl,rfl,trivial⟩,_,hB,h106,r21⟩
   replace hf14:=iT hf14
   refine o_nt rfl rfl (o_z ?_)
   refine Aj rfl (Am (Ah (Ae (o_mv rfl rfl (o_mv rfl rfl (o_mv rfl rfl ?_))))))
   obtain ⟨q109,e110,hf14⟩:=bs hf14
   replace h90:=h90.st S101
   replace h93:=h93.st S101
   refine Hf (O:=O100) (DF h93 r21 r44 e110) (EA (Blk.cell (i:=0) h90.1 rfl)) rfl rfl rfl fun v115 w111 O112 S113 h116=>?_
   refine o_z ?_
   refine Ae (o_mv rfl rfl (o_as rfl rfl (o_z ?_)))
   replace h90:=h90.st S113
   obtain ⟨O117,S118,hz120,ha121,h119⟩:=BxR.shut (x:=(⟨q109⟩:BxR 99 97 Itm)) (l0:=2) (l1:=3) (by decide) (by have q:=h90;rw [← h116.len.1.symm] at q;exact q) h116.relen
   obtain rfl:=sm hf14
   refine (?_:Exists _)
   replace hB:=(((hB.st S89).st S101).st S113).st S118
   exact ⟨_,(),rfl,⟨rfl,rfl,rfl,rfl,trivial⟩,_,hB,h119,r44⟩
 rintro l122 w123 ⟨s126,x127,rfl,hs125,O124,hB,h22,r21⟩
 replace hm:=AR hm
 refine AM _ hs125 ?_
 refine Ah ?_
 obtain ⟨y128,hy129,hm⟩:=bs hm
 refine AL (fun l' w'=>∃ (x131:Unit) (O':Lab),subs l' [(6,(.bool y128))]∧Bm w O0 w' O'∧Ob 2 w' O' (.pointer (some ⟨p0,0,none⟩)) s126.2) ?_ ?_
 ·
  refine Ae (o_mv rfl rfl (o_mv rfl rfl (o_gtS rfl rfl rfl (fun c132=>?_) fun c132=>?_)))
  ·
   replace hy129:=ip hy129 c132
   refine o_as rfl rfl (o_z ?_)
   obtain rfl:=sm hy129
   exact ⟨(),_,⟨rfl,trivial⟩,hB,h22⟩
  ·
   replace hy129:=im hy129 c132
   refine o_as rfl rfl (o_z ?_)
   obtain rfl:=sm hy129
   exact ⟨(),_,⟨rfl,trivial⟩,hB,h22⟩
 rintro l133 w134 ⟨x131,O135,hs136,hB,h22⟩
 refine AM _ hs136 ?_
 refine At ?_
 obtain rfl:=sm hm
 obtain ⟨O',hS',hz,hl⟩:=hE.leave (fun q=>if q=2 then i0 else 0) rfl hB
 exact ret1v rfl (AF rfl) ⟨O',hS',(Ob.leave h22 hz (hl 2 (by decide) (by decide)) hx0.2),vBool⟩
noncomputable def Cd (x0:BxR 99 97 Itm) (x1:An 97 Itm):Option (BxR 99 97 Itm) :=
  bnd (Cg x0 (⟨x1.x⟩:An 97 Itm)) fun q9=>bnd (BN q9.l) fun q26=>bnd (chkI (q26 - 1)) fun n34=>bnd (Cv q9 n34) fun q42=>some q42
theorem Ge {w:World} {O:Lab} {p0 i0:Nat} {x0:BxR 99 97 Itm} (hx0:Ob i0 w O (.pointer (some ⟨p0,0,none⟩)) x0) {vx1:Value} {x1:An 97 Itm} (hx1:Vb w (Fr 0 w O) vx1 x1) {r:(BxR 99 97 Itm)} (hm:Cd x0 x1=some r) :
    Fn Tryz.prog 64 [(.iface 95 (.pointer (some ⟨p0,0,none⟩))),vx1] w fun v w'=>∃ O',St (eT i0) w O w' O'∧Ob i0 w' O' (.pointer (some ⟨p0,0,none⟩)) r:=by
 obtain ⟨O0,hE,hz0,hl2⟩:=ent1 (w:=w) (O:=O) hx0.2
 have hx0':=Ob.leave hx0 hz0 hl2 (j:=2) (by decide)
 have hB:Bm w O0 w O0:=Bm.refl
 replace hx1:=hx1.mono hz0
 obtain ⟨v3,rfl,h4⟩:=hx1.any
 obtain ⟨cs5,rfl,rfl,r6,r7,r8⟩:=h4
 refine AJ Tryz.func64 rfl Tryz.ntmps64 rfl ?_
 unfold Cd at hm
 refine Ah (Ae (o_mv rfl rfl (o_mv rfl rfl ?_)))
 obtain ⟨q9,e10,hm⟩:=bs hm
 refine Hf (O:=O0) (Gw hx0' (vAny (Vb.ofAgg (cs:=[(.int .i64 x1.x.cost),(.int .i64 x1.x.order),(.int .i64 x1.x.id)]) (x:=x1.x) rfl ⟨rfl,r6,r7,r8⟩)) e10) Kb rfl rfl rfl fun v15 w11 O12 S13 h16=>?_
 refine o_z ?_
 refine Ae (o_mv rfl rfl (o_mv rfl rfl ?_))
 obtain ⟨O17,v21,S18,ha20,h19,h22⟩:=BxR.opn h16 2 3 (by decide)
 obtain ⟨A23,c24,rfl⟩:=h22.form
 obtain ⟨q26,e27,hm⟩:=bs hm
 refine Hg (O:=O17) (A:=All w11) (R:=fun w' F v=>Vb w' F v q26) (DQ (fun _ h=>h) (h22).all e27) (EA (Blk.cell (i:=0) h19.1 rfl)) rfl rfl rfl fun v32 w28 O29 S30 h31=>?_
 obtain ⟨rfl,r33⟩:=h31.int
 obtain ⟨n34,e35,hm⟩:=bs hm
 have r36:=(Bc e35)
 refine o_sbE (he:=e35) rfl rfl rfl ?_
 replace h19:=h19.st S30
 replace h22:=h22.st S30
 obtain ⟨O37,S38,hz40,ha41,h39⟩:=BxR.shut (x:=q9) (l0:=2) (l1:=3) (by decide) h19 h22
 obtain ⟨q42,e43,hm⟩:=bs hm
 refine BA (O:=O37) (GS h39 r36 e43) rfl rfl fun v48 w44 O45 S46 h49=>?_
 refine o_z ?_
 obtain rfl:=sm hm
 replace hB:=((((hB.st S13).st S18).st S30).st S38).st S46
 obtain ⟨O',hS',hz,hl⟩:=hE.leave (fun q=>if q=2 then i0 else 0) rfl hB
 exact ret0n rfl  ⟨O',hS',(Ob.leave h49 hz (hl 2 (by decide) (by decide)) hx0.2)⟩
noncomputable def Ch (x0:BxR 99 97 Itm):Option ((An 97 Itm)×(BxR 99 97 Itm)) :=
  bnd (BN x0.l) fun q11=>bnd (chkI (q11 - 1)) fun n19=>bnd (BK x0.l 0 n19) fun q22=>bnd (Cc (⟨q22⟩:BxR 99 97 Itm) 0 n19) fun q35=>bnd (Cu q35.2) fun q44=>some ((⟨q44.1.x⟩:An 97 Itm),q44.2)
theorem Gx {w:World} {O:Lab} {p0 i0:Nat} {x0:BxR 99 97 Itm} (hx0:Ob i0 w O (.pointer (some ⟨p0,0,none⟩)) x0) {r:(An 97 Itm)×(BxR 99 97 Itm)} (hm:Ch x0=some r) :
    Fn Tryz.prog 57 [(.iface 95 (.pointer (some ⟨p0,0,none⟩)))] w fun v w'=>∃ O',St (eT i0) w O w' O'∧Ob i0 w' O' (.pointer (some ⟨p0,0,none⟩)) r.2∧Vb w' (Fr 0 w' O') v r.1:=by
 obtain ⟨O0,hE,hz0,hl2⟩:=ent1 (w:=w) (O:=O) hx0.2
 have hx0':=Ob.leave hx0 hz0 hl2 (j:=2) (by decide)
 have hB:Bm w O0 w O0:=Bm.refl
 refine AJ Tryz.func57 rfl Tryz.ntmps57 rfl ?_
 unfold Ch at hm
 refine Ah (Ae (o_as rfl rfl (o_z ?_)))
 refine Ah (Ae (o_mv rfl rfl ?_))
 obtain ⟨O2,v6,S3,ha5,h4,h7⟩:=BxR.opn hx0' 2 3 (by decide)
 obtain ⟨A8,c9,rfl⟩:=h7.form
 obtain ⟨q11,e12,hm⟩:=bs hm
 refine Hg (O:=O2) (A:=All w) (R:=fun w' F v=>Vb w' F v q11) (DQ (fun _ h=>h) (h7).all e12) (EA (Blk.cell (i:=0) h4.1 rfl)) rfl rfl rfl fun v17 w13 O14 S15 h16=>?_
 obtain ⟨rfl,r18⟩:=h16.int
 obtain ⟨n19,e20,hm⟩:=bs hm
 have r21:=(Bc e20)
 refine o_sbE (he:=e20) rfl rfl rfl ?_
 refine o_as rfl rfl (o_z ?_)
 refine Ah (Ae (o_mv rfl rfl (o_mv rfl rfl ?_)))
 obtain ⟨q22,e23,hm⟩:=bs hm
 replace h4:=h4.st S15
 replace h7:=h7.st S15
 refine Hf (O:=O14) (DF h7 (show inI64 (0) from by decide) r21 e23) (EA (Blk.cell (i:=0) h4.1 rfl)) rfl rfl rfl fun v28 w24 O25 S26 h29=>?_
 refine o_z ?_
 refine Ah (Ae (o_mv rfl rfl (o_mv rfl rfl ?_)))
 replace h4:=h4.st S26
 obtain ⟨O30,S31,hz33,ha34,h32⟩:=BxR.shut (x:=(⟨q22⟩:BxR 99 97 Itm)) (l0:=2) (l1:=3) (by decide) (by have q:=h4;rw [← h29.len.1.symm] at q;exact q) h29.relen
 obtain ⟨q35,e36,hm⟩:=bs hm
 refine BA (O:=O30) (Gd h32 (show inI64 (0) from by decide) r21 e36) rfl rfl fun v41 w37 O38 S39 h40=>?_
 obtain ⟨h42,h43⟩:=h40
 obtain rfl:=h43.bool
 refine o_z ?_
 refine Ah (Ae (o_mv rfl rfl ?_))
 obtain ⟨q44,e45,hm⟩:=bs hm
 refine Hf (O:=O38) (GR h42 e45) Kb rfl rfl rfl fun v50 w46 O47 S48 h49=>?_
 obtain ⟨h51,h52⟩:=h49
 obtain ⟨v53,rfl,h54⟩:=h52.any
 obtain ⟨cs55,rfl,rfl,r56,r57,r58⟩:=h54
 refine o_as rfl rfl (o_z ?_)
 refine At ?_
 obtain rfl:=sm hm
 replace hB:=(((((hB.st S3).st S15).st S26).st S31).st S39).st S48
 obtain ⟨O',hS',hz,hl⟩:=hE.leave (fun q=>if q=2 then i0 else 0) rfl hB
 exact ret1v rfl (AF rfl) ⟨O',hS',(Ob.leave h51 hz (hl 2 (by decide) (by decide)) hx0.2),(vAny (Vb.ofAgg (cs:=[(.int .i64 q44.1.x.cost),(.int .i64 q44.1.x.order),(.int .i64 q44.1.x.id)]) (x:=q44.1.x) rfl ⟨rfl,r56,r57,r58⟩))⟩
end
section
open Go Go.RowKit
def effsOn (s:List Int):List Eff→List Int→List Int
  | [],out=>out
  | e :: r,out=>effsOn s r (if holdsB e.cond s=true then out.set e.var.toNat e.val else out)
def succ (o:Opr) (s:List Int):List Int:=effsOn s o.effs s
end
section
open Go Go.RowKit
attribute [local irreducible] ewp owp hwp hwq hws Ev Evg Fn retPost loud loudS Res1
theorem cloneInts {w:World} {sv:Value} {xs:List Int} (hs:V w sv xs) (hl:xs.length * 8≤140737488355328) :
    Fn Tryz.prog 50 [sv] w fun v w'=>Own w' w.heap.size (All w) 3 v xs∧Ext w w':=by
  obtain ⟨A,c,rfl⟩:=hs.form
  refine AJ Tryz.func50 rfl Tryz.ntmps50 rfl ?_
  cases A with
  | none =>
    have hx:xs=[]:=by
      cases xs with
      | nil=>rfl
      | cons x xs=>obtain ⟨_,_,_,h,_⟩:=hs.elem (k:=0) (x:=x) rfl;cases h
    subst hx
    ((repeat (first|refine Ah ?_|refine Al ?_|refine Ae ?_|refine Am ?_|refine Au ?_|refine At ?_|refine Ar rfl ?_|refine Aj rfl ?_))<;>(refine o_as rfl rfl ?_<;>(first|refine Ay ?_|refine Az ?_|refine Aw ?_|refine AA ?_))<;>(repeat (first|refine Ah ?_|refine Al ?_|refine Ae ?_|refine Am ?_|refine Au ?_|refine At ?_|refine Ar rfl ?_|refine Aj rfl ?_))<;>(refine o_mv rfl rfl ?_<;>refine o_sn rfl rfl ?_<;>(first|refine Ay ?_|refine Az ?_|refine Aw ?_|refine AA ?_))<;>(repeat (first|refine Ah ?_|refine Al ?_|refine Ae ?_|refine Am ?_|refine Au ?_|refine At ?_|refine Ar rfl ?_|refine Aj rfl ?_))<;>(refine o_as rfl rfl ?_<;>(first|refine Ay ?_|refine Az ?_|refine Aw ?_|refine AA ?_))<;>(repeat (first|refine Ah ?_|refine Al ?_|refine Ae ?_|refine Am ?_|refine Au ?_|refine At ?_|refine Ar rfl ?_|refine Aj rfl ?_)))
    exact ret1 rfl rfl ⟨Own.nil _ _ _ _,Below.refl _ _⟩
  | some ad =>
    ((repeat (first|refine Ah ?_|refine Al ?_|refine Ae ?_|refine Am ?_|refine Au ?_|refine At ?_|refine Ar rfl ?_|refine Aj rfl ?_))<;>(refine o_as rfl rfl ?_<;>(first|refine Ay ?_|refine Az ?_|refine Aw ?_|refine AA ?_))<;>(repeat (first|refine Ah ?_|refine Al ?_|refine Ae ?_|refine Am ?_|refine Au ?_|refine At ?_|refine Ar rfl ?_|refine Aj rfl ?_))<;>(refine o_mv rfl rfl ?_<;>refine o_sn rfl rfl ?_<;>(first|refine Ay ?_|refine Az ?_|refine Aw ?_|refine AA ?_))<;>(repeat (first|refine Ah ?_|refine Al ?_|refine Ae ?_|refine Am ?_|refine Au ?_|refine At ?_|refine Ar rfl ?_|refine Aj rfl ?_)))
    refine Dg rfl rfl rfl (by simp) (by decide) rfl fun w1 hN=>?_
    have hE:=hN.ext
    have hown:Own w1 w.heap.size (All w) 3 (.slice (some ⟨w.heap.size,0,none⟩) 0 0) ([]:List Int):=Own.made hN rfl rfl (Nat.lt_irrefl _) (by decide)
    (refine o_mv rfl rfl ?_)
    refine FO rfl rfl rfl hown (fun k hk=>Nat.lt_of_lt_of_le hk hE.size) hE.size (Vb.agree hs (hE.agree fun _ h=>h)) (by decide) (by simpa using hl) (by simp;omega) rfl fun v' w2 ho hK=>?_
    (refine o_as rfl rfl ?_<;>(first|refine Ay ?_|refine Az ?_|refine Aw ?_|refine AA ?_))
    repeat (first|refine Ah ?_|refine Al ?_|refine Ae ?_|refine Am ?_|refine Au ?_|refine At ?_|refine Ar rfl ?_|refine Aj rfl ?_)
    refine ret1 rfl rfl ⟨by simpa using ho,hE.trans (hown.fits (Nat.le_refl _) hE.size hK)⟩
theorem cloneFacts {w:World} {sv:Value} {xs:List Fct} (hs:V w sv xs) (hl:xs.length * 16≤140737488355328) :
    Fn Tryz.prog 51 [sv] w fun v w'=>Own w' w.heap.size (All w) 62 v xs∧Ext w w':=by
  obtain ⟨A,c,rfl⟩:=hs.form
  refine AJ Tryz.func51 rfl Tryz.ntmps51 rfl ?_
  cases A with
  | none =>
    have hx:xs=[]:=by
      cases xs with
      | nil=>rfl
      | cons x xs=>obtain ⟨_,_,_,h,_⟩:=hs.elem (k:=0) (x:=x) rfl;cases h
    subst hx
    ((repeat (first|refine Ah ?_|refine Al ?_|refine Ae ?_|refine Am ?_|refine Au ?_|refine At ?_|refine Ar rfl ?_|refine Aj rfl ?_))<;>(refine o_as rfl rfl ?_<;>(first|refine Ay ?_|refine Az ?_|refine Aw ?_|refine AA ?_))<;>(repeat (first|refine Ah ?_|refine Al ?_|refine Ae ?_|refine Am ?_|refine Au ?_|refine At ?_|refine Ar rfl ?_|refine Aj rfl ?_))<;>(refine o_mv rfl rfl ?_<;>refine o_sn rfl rfl ?_<;>(first|refine Ay ?_|refine Az ?_|refine Aw ?_|refine AA ?_))<;>(repeat (first|refine Ah ?_|refine Al ?_|refine Ae ?_|refine Am ?_|refine Au ?_|refine At ?_|refine Ar rfl ?_|refine Aj rfl ?_))<;>(refine o_as rfl rfl ?_<;>(first|refine Ay ?_|refine Az ?_|refine Aw ?_|refine AA ?_))<;>(repeat (first|refine Ah ?_|refine Al ?_|refine Ae ?_|refine Am ?_|refine Au ?_|refine At ?_|refine Ar rfl ?_|refine Aj rfl ?_)))
    exact ret1 rfl rfl ⟨Own.nil _ _ _ _,Below.refl _ _⟩
  | some ad =>
    ((repeat (first|refine Ah ?_|refine Al ?_|refine Ae ?_|refine Am ?_|refine Au ?_|refine At ?_|refine Ar rfl ?_|refine Aj rfl ?_))<;>(refine o_as rfl rfl ?_<;>(first|refine Ay ?_|refine Az ?_|refine Aw ?_|refine AA ?_))<;>(repeat (first|refine Ah ?_|refine Al ?_|refine Ae ?_|refine Am ?_|refine Au ?_|refine At ?_|refine Ar rfl ?_|refine Aj rfl ?_))<;>(refine o_mv rfl rfl ?_<;>refine o_sn rfl rfl ?_<;>(first|refine Ay ?_|refine Az ?_|refine Aw ?_|refine AA ?_))<;>(repeat (first|refine Ah ?_|refine Al ?_|refine Ae ?_|refine Am ?_|refine Au ?_|refine At ?_|refine Ar rfl ?_|refine Aj rfl ?_)))
    refine Dg rfl rfl rfl (by simp) (by decide) rfl fun w1 hN=>?_
    have hE:=hN.ext
    have hown:Own w1 w.heap.size (All w) 62 (.slice (some ⟨w.heap.size,0,none⟩) 0 0) ([]:List Fct):=Own.made hN rfl rfl (Nat.lt_irrefl _) (by decide)
    (refine o_mv rfl rfl ?_)
    refine FO rfl rfl rfl hown (fun k hk=>Nat.lt_of_lt_of_le hk hE.size) hE.size (Vb.agree hs (hE.agree fun _ h=>h)) (by decide) (by simpa using hl) (by simp;omega) rfl fun v' w2 ho hK=>?_
    (refine o_as rfl rfl ?_<;>(first|refine Ay ?_|refine Az ?_|refine Aw ?_|refine AA ?_))
    repeat (first|refine Ah ?_|refine Al ?_|refine Ae ?_|refine Am ?_|refine Au ?_|refine At ?_|refine Ar rfl ?_|refine Aj rfl ?_)
    refine ret1 rfl rfl ⟨by simpa using ho,hE.trans (hown.fits (Nat.le_refl _) hE.size hK)⟩
def applK (t:Tsk) (s:List Int) (k:Nat):List Int:=((List.range k).filter fun i=>match t.ops[i]? with|some o=>holdsB o.pre s|none=>false).map fun i:Nat=>(i:Int)
def appl (t:Tsk) (s:List Int):List Int:=applK t s t.ops.length
end
section
open Go Go.RowKit
attribute [local irreducible] ewp owp hwp hwq hws Ev Evg Fn retPost loud loudS Res1
inductive Tr where
  | nil
  | leaf (ops:List Int)
  | node (nx many:Nat) (vals:Nat→Tr) (rest:Tr)
def TrR (w:World) (F:Nat→Prop):Tr→Value→Prop
  | .nil,p=>p=.pointer none
  | .leaf ops,p=>∃ g ov,p=.pointer (some ⟨g,0,none⟩)∧F g∧Blk w g 184 [ov,.bool true,.int .i64 0,.slice none 0 0,.pointer none]∧Vb w F ov ops
  | .node nx k vals rest,p=>∃ g A c rp,p=.pointer (some ⟨g,0,none⟩)∧F g∧Blk w g 184 [.slice none 0 0,.bool false,.int .i64 (nx:Int),.slice A k c,.pointer rp]∧TrR w F rest (.pointer rp) ∧
      ∀ i,i < k→∃ b o q,A=some ⟨b,o,none⟩∧F b∧w.cell? ⟨b,o + i,none⟩=some (.pointer q)∧TrR w F (vals i) (.pointer q)
theorem TrR.agree {w w':World} {F:Nat→Prop} (ha:Agree F w w'):∀ {T:Tr} {p:Value},TrR w F T p→TrR w' F T p
  | .nil,_,h=>h
  | .leaf ops,_,⟨g,ov,h1,h2,h3,h4⟩=>⟨g,ov,h1,h2,h3.keep (ha g h2),h4.agree ha⟩
  | .node nx k vals rest,_,⟨g,A,c,rp,h1,h2,h3,h4,h5⟩=>⟨g,A,c,rp,h1,h2,h3.keep (ha g h2),TrR.agree ha h4,fun i hi=>by
      obtain ⟨b,o,q,g1,g2,g3,g4⟩:=h5 i hi
      exact ⟨b,o,q,g1,g2,(ha.cell g2).trans g3,TrR.agree ha g4⟩⟩
theorem TrR.mono {w:World} {F G:Nat→Prop} (hk:∀ k,F k→G k):∀ {T:Tr} {p:Value},TrR w F T p→TrR w G T p
  | .nil,_,h=>h
  | .leaf ops,_,⟨g,ov,h1,h2,h3,h4⟩=>⟨g,ov,h1,hk _ h2,h3,h4.mono hk⟩
  | .node nx k vals rest,_,⟨g,A,c,rp,h1,h2,h3,h4,h5⟩=>⟨g,A,c,rp,h1,hk _ h2,h3,TrR.mono hk h4,fun i hi=>by
      obtain ⟨b,o,q,g1,g2,g3,g4⟩:=h5 i hi
      exact ⟨b,o,q,g1,hk _ g2,g3,TrR.mono hk g4⟩⟩
theorem TrR.form {w:World} {F:Nat→Prop}:∀ {T:Tr} {p:Value},TrR w F T p→∃ q,p=.pointer q
  | .nil,_,h=>⟨none,h⟩
  | .leaf _,_,⟨_,_,h,_⟩=>⟨_,h⟩
  | .node ..,_,⟨_,_,_,_,h,_⟩=>⟨_,h⟩
def atN (s:List Int) (i:Nat):Nat:=(s[i]?.getD 0).toNat
def coll (s:List Int):Tr→List Int
  | .nil=>[]
  | .leaf ops=>ops
  | .node nx _ vals rest=>coll s (vals (atN s nx)) ++ coll s rest
def look (s:List Int):Tr→List Bool→List Bool
  | .nil,l=>l
  | .leaf _,l=>l
  | .node nx _ vals rest,l=>look s rest (look s (vals (atN s nx)) (l.set nx true))
def Fits (s:List Int):Tr→Prop
  | .nil=>True
  | .leaf _=>True
  | .node nx k vals rest=>(∃ x:Nat,s[nx]?=some (x:Int)∧x < k)∧Fits s (vals (atN s nx))∧Fits s rest
theorem EV (s:List Int):∀ (T:Tr) (l:List Bool),(look s T l).length=l.length
  | .nil,_=>rfl
  | .leaf _,_=>rfl
  | .node nx k vals rest,l=>by rw [look,EV s rest,EV s (vals _)];simp
theorem Own.own_ne {α β:Type} [Rp α] [Rp β] {w:World} {b1 b2:Nat} {F G:Nat→Prop} {e1 e2:TypeId} {u v:Value} {xs:List α} {ys:List β} (h:Own w b1 F e1 u xs) (k:Own w b2 G e2 v ys) (hne:e1≠e2):∀ g,u.ownBlock=some g→v.ownBlock≠some g:=by
  intro g hg hv
  obtain ⟨c1,h1,_⟩:=h
  obtain ⟨c2,h2,_⟩:=k
  rcases h1.2 with ⟨rfl,_⟩|⟨g1,cap1,cur1,rfl,_,hh1,_⟩
  · simp [Value.ownBlock] at hg
  · rcases h2.2 with ⟨rfl,_⟩|⟨g2,cap2,cur2,rfl,_,hh2,_⟩
    · simp [Value.ownBlock] at hv
    · have e1':g1=g:=by simpa [Value.ownBlock] using hg
      have e2':g2=g:=by simpa [Value.ownBlock] using hv
      subst e1';subst e2'
      rw [hh1] at hh2
      injection hh2 with hh2
      injection hh2 with _ ht
      exact hne ht
theorem Own.kept {α:Type} [Rp α] {w w':World} {base:Nat} {F:Nat→Prop} {e:TypeId} {v u:Value} {xs:List α} (h:Own w base F e v xs) (hK:Kept w w' u) (hF:∀ k,F k→k < w.heap.size∧u.ownBlock≠some k) (hne:∀ g,v.ownBlock=some g→u.ownBlock≠some g):Own w' base F e v xs :=
  h.agree (fun k hk=>hK.block k (hF k hk).1 (hF k hk).2) fun g hg=>hK.block g (h.lt g hg).2 (hne g hg)
theorem collect (B:Nat) (s:List Int):∀ (T:Tr) (w:World) (p ov sv lv:Value) (out:List Int) (looked:List Bool),B≤w.heap.size→TrR w (· < B) T p→Vb w (· < B) sv s→Own w B (· < B) 3 ov out→Own w B (· < B) 4 lv looked →
    Fits s T→looked.length=s.length→out.length + (coll s T).length≤1000000 →
    Fn Tryz.prog 102 [p,ov,sv,lv] w fun v w'=>Own w' B (· < B) 3 v (out ++ coll s T)∧Own w' B (· < B) 4 lv (look s T looked)∧Below B w w':=by
  intro T
  induction T with
  | nil =>
    intro w p ov sv lv out looked hB hT hs ho hl _ _ hlen
    have hp:p=.pointer none:=hT
    subst hp
    refine AJ Tryz.func102 rfl Tryz.ntmps102 rfl ?_
    ((repeat (first|refine Ah ?_|refine Al ?_|refine Ae ?_|refine Am ?_|refine Au ?_|refine At ?_|refine Ar rfl ?_|refine Aj rfl ?_))<;>(refine o_as rfl rfl ?_<;>(first|refine Ay ?_|refine Az ?_|refine Aw ?_|refine AA ?_))<;>(repeat (first|refine Ah ?_|refine Al ?_|refine Ae ?_|refine Am ?_|refine Au ?_|refine At ?_|refine Ar rfl ?_|refine Aj rfl ?_))<;>(refine o_mv rfl rfl ?_<;>refine o_pn rfl rfl ?_<;>(first|refine Ay ?_|refine Az ?_|refine Aw ?_|refine AA ?_))<;>(repeat (first|refine Ah ?_|refine Al ?_|refine Ae ?_|refine Am ?_|refine Au ?_|refine At ?_|refine Ar rfl ?_|refine Aj rfl ?_))<;>(refine o_mv rfl rfl ?_<;>refine o_as rfl rfl ?_<;>(first|refine Ay ?_|refine Az ?_|refine Aw ?_|refine AA ?_))<;>(repeat (first|refine Ah ?_|refine Al ?_|refine Ae ?_|refine Am ?_|refine Au ?_|refine At ?_|refine Ar rfl ?_|refine Aj rfl ?_)))
    exact ret1 rfl rfl ⟨by simpa [coll] using ho,hl,Below.refl _ _⟩
  | leaf ops =>
    intro w p ov sv lv out looked hB hT hs ho hl _ _ hlen
    obtain ⟨g,opv',rfl,hg,hb1,hops⟩:=hT
    refine AJ Tryz.func102 rfl Tryz.ntmps102 rfl ?_
    ((repeat (first|refine Ah ?_|refine Al ?_|refine Ae ?_|refine Am ?_|refine Au ?_|refine At ?_|refine Ar rfl ?_|refine Aj rfl ?_))<;>(refine o_as rfl rfl ?_<;>(first|refine Ay ?_|refine Az ?_|refine Aw ?_|refine AA ?_))<;>(repeat (first|refine Ah ?_|refine Al ?_|refine Ae ?_|refine Am ?_|refine Au ?_|refine At ?_|refine Ar rfl ?_|refine Aj rfl ?_))<;>(refine o_mv rfl rfl ?_<;>refine o_pn rfl rfl ?_<;>(first|refine Ay ?_|refine Az ?_|refine Aw ?_|refine AA ?_))<;>(repeat (first|refine Ah ?_|refine Al ?_|refine Ae ?_|refine Am ?_|refine Au ?_|refine At ?_|refine Ar rfl ?_|refine Aj rfl ?_))<;>(refine o_mv rfl rfl ?_<;>refine o_nc rfl rfl ?_<;>refine o_fa rfl rfl ?_<;>refine o_ld rfl rfl ?_<;>(first|refine Ay ?_|refine Az ?_|refine Aw ?_|refine AA ?_))<;>(repeat (first|refine Ah ?_|refine Al ?_|refine Ae ?_|refine Am ?_|refine Au ?_|refine At ?_|refine Ar rfl ?_|refine Aj rfl ?_))<;>(refine o_mv rfl rfl ?_<;>refine o_mv rfl rfl ?_<;>refine o_nc rfl rfl ?_<;>refine o_fa rfl rfl ?_<;>refine o_ld rfl rfl ?_)<;>(repeat (first|refine Ah ?_|refine Al ?_|refine Ae ?_|refine Am ?_|refine Au ?_|refine At ?_|refine Ar rfl ?_|refine Aj rfl ?_)))
    simp only [coll] at hlen
    refine FO rfl rfl rfl ho (fun k hk=>Nat.lt_of_lt_of_le hk hB) hB hops (by decide) (by omega) (by omega) rfl fun v' w1 ho1 hK=>?_
    (refine o_as rfl rfl ?_<;>(first|refine Ay ?_|refine Az ?_|refine Aw ?_|refine AA ?_))
    repeat (first|refine Ah ?_|refine Al ?_|refine Ae ?_|refine Am ?_|refine Au ?_|refine At ?_|refine Ar rfl ?_|refine Aj rfl ?_)
    refine ret1 rfl rfl ⟨ho1,?_,ho.fits (Nat.le_refl _) hB hK⟩
    exact hl.kept hK (fun k hk=>⟨Nat.lt_of_lt_of_le hk hB,fun he=>by have:=(ho.lt k he).1;have:k < B:=hk;omega⟩) (fun g hg=>hl.own_ne ho (by decide) g hg)
  | node nx k vals rest ih1 ih2 =>
    intro w p ov sv lv out looked hB hT hs ho hl hfit hll hlen
    obtain ⟨g,A,c,rp,rfl,hg,hb1,hrest,hvals⟩:=hT
    obtain ⟨⟨x,hx,hxk⟩,hfit1,hfit2⟩:=hfit
    obtain ⟨bv,ovv,q,rfl,hbv,hcv,hq⟩:=hvals x hxk
    obtain ⟨As,cs,rfl⟩:=hs.form
    obtain ⟨bs,os,ce,rfl,hbs,_,hds,rfl,_⟩:=hs.elem hx
    have hnx:=Bj hx
    have hat:atN s nx=x:=by simp [atN,hx]
    obtain ⟨gl,capl,_,_,rfl,_⟩:=hl.open (by omega)
    refine AJ Tryz.func102 rfl Tryz.ntmps102 rfl ?_
    have hll':nx < looked.length:=by omega
    ((repeat (first|refine Ah ?_|refine Al ?_|refine Ae ?_|refine Am ?_|refine Au ?_|refine At ?_|refine Ar rfl ?_|refine Aj rfl ?_))<;>(refine o_as rfl rfl ?_<;>(first|refine Ay ?_|refine Az ?_|refine Aw ?_|refine AA ?_))<;>(repeat (first|refine Ah ?_|refine Al ?_|refine Ae ?_|refine Am ?_|refine Au ?_|refine At ?_|refine Ar rfl ?_|refine Aj rfl ?_))<;>(refine o_mv rfl rfl ?_<;>refine o_pn rfl rfl ?_<;>(first|refine Ay ?_|refine Az ?_|refine Aw ?_|refine AA ?_))<;>(repeat (first|refine Ah ?_|refine Al ?_|refine Ae ?_|refine Am ?_|refine Au ?_|refine At ?_|refine Ar rfl ?_|refine Aj rfl ?_))<;>(refine o_mv rfl rfl ?_<;>refine o_nc rfl rfl ?_<;>refine o_fa rfl rfl ?_<;>refine o_ld rfl rfl ?_<;>(first|refine Ay ?_|refine Az ?_|refine Aw ?_|refine AA ?_))<;>(repeat (first|refine Ah ?_|refine Al ?_|refine Ae ?_|refine Am ?_|refine Au ?_|refine At ?_|refine Ar rfl ?_|refine Aj rfl ?_))<;>(refine o_mv rfl rfl ?_<;>refine o_mv rfl rfl ?_<;>refine o_nc rfl rfl ?_<;>refine o_fa rfl rfl ?_<;>refine o_ld rfl rfl ?_<;>refine o_ia rfl rfl rfl ?_)<;>(repeat (first|refine Ah ?_|refine Al ?_|refine Ae ?_|refine Am ?_|refine Au ?_|refine At ?_|refine Ar rfl ?_|refine Aj rfl ?_)))
    refine HC (i:=nx) (a:=true) rfl rfl rfl hl hll' (show Vb w (· < B) (.bool true) true from rfl) fun w1 hl1 hK1 hz1=>?_
    have hB1:Below B w w1:=hl.fits (Nat.le_refl _) hB hK1
    have ho1:Own w1 B (· < B) 3 ov out:=ho.kept hK1 (fun k hk=>⟨Nat.lt_of_lt_of_le hk hB,fun he=>by have:=(hl.lt k he).1;have:k < B:=hk;omega⟩) (fun g hg=>ho.own_ne hl (by decide) g hg)
    ((first|refine Ay ?_|refine Az ?_|refine Aw ?_|refine AA ?_))
    repeat (first|refine Ah ?_|refine Al ?_|refine Ae ?_|refine Am ?_|refine Au ?_|refine At ?_|refine Ar rfl ?_|refine Aj rfl ?_)
    have hag:∀ w',Below B w1 w'→Agree (· < B) w w':=fun w' h k hk=>(hB1.trans h).block k hk
    replace hb1:∀ w',Below B w1 w'→Blk w' g 184 [.slice none 0 0,.bool false,.int .i64 (nx:Int),.slice (some ⟨bv,ovv,none⟩) k c,.pointer rp]:=fun w' h=>hb1.keep (hag w' h g hg)
    have hd1:∀ w',Below B w1 w'→cellsAt w' bs (os + nx * 1) [.int .i64 (x:Int)]:=fun w' h=>AQ (hag w' h) hbs hds
    have hc1:∀ w',Below B w1 w'→w'.cell? ⟨bv,ovv + x * 1,none⟩=some (.pointer q):=fun w' h=>by rw [Nat.mul_one];exact ((hag w' h).cell hbv).trans hcv
    refine BH (Below B w1) [(0,true),(1,true),(2,true),(3,true),(4,true),(5,true),(6,true),(7,true),(8,true),(9,true),(10,true),(11,true),(12,true),(13,true),(14,true),(15,true),(16,true),(17,true),(18,true),(19,true),(21,true),(22,true),(20,false),(23,false),(24,true)] (by kernel_rfl) rfl (by kernel_rfl) (Below.refl _ _) ?_
    (refine h_mv rfl rfl rfl ?_<;>refine h_nc rfl rfl rfl ?_<;>refine h_fa rfl rfl rfl ?_<;>(first|refine h_ldB rfl rfl rfl ?_|refine h_ldC rfl rfl rfl ?_)<;>refine h_mv rfl rfl rfl ?_<;>refine h_nc rfl rfl rfl ?_<;>refine h_fa rfl rfl rfl ?_<;>(first|refine h_ldB rfl rfl rfl ?_|refine h_ldC rfl rfl rfl ?_)<;>refine h_mv rfl rfl rfl ?_<;>refine h_mv rfl rfl rfl ?_<;>refine h_nc rfl rfl rfl ?_<;>refine h_fa rfl rfl rfl ?_<;>(first|refine h_ldB rfl rfl rfl ?_|refine h_ldC rfl rfl rfl ?_)<;>refine h_ia rfl rfl rfl rfl ?_<;>(first|refine h_ldB rfl rfl rfl ?_|refine h_ldC rfl rfl rfl ?_)<;>refine h_ia rfl rfl rfl rfl ?_<;>(first|refine h_ldB rfl rfl rfl ?_|refine h_ldC rfl rfl rfl ?_)<;>refine h_mv rfl rfl rfl ?_<;>refine h_mv rfl rfl rfl ?_<;>refine h_mv rfl rfl rfl ?_<;>refine h_mv rfl rfl rfl ?_<;>refine h_mv rfl rfl rfl ?_)
    refine Bk rfl ?_
    simp only [coll,hat,List.length_append] at hlen
    refine AZ rfl rfl (ih1 x w1 (.pointer q) ov _ _ out (looked.set nx true) (Nat.le_trans hB hB1.size) (TrR.agree (hag w1 (Below.refl _ _)) hq) (hs.agree (hag w1 (Below.refl _ _))) ho1 hl1 (hat ▸ hfit1) (by simpa using hll) (by omega)) ?_
    rintro v2 w2 ⟨ho2,hl2,hB2⟩
    refine Bz hB2 ?_
    refine Bk rfl ?_
    refine AZ rfl rfl (ih2 w2 (.pointer rp) v2 _ _ (out ++ coll s (vals x)) (look s (vals x) (looked.set nx true)) (Nat.le_trans hB (hB1.trans hB2).size) (TrR.agree (hag w2 hB2) hrest) (hs.agree (hag w2 hB2)) ho2 hl2 hfit2 (by rw [EV];simpa using hll) (by rw [List.length_append];omega)) ?_
    rintro v3 w3 ⟨ho3,hl3,hB3⟩
    refine Bz (hB2.trans hB3) ?_
    (refine h_as rfl rfl rfl ?_<;>(first|refine AH ?_|refine BI ?_|refine BE ?_))
    repeat (first|refine Ah ?_|refine Al ?_|refine Ae ?_|refine Am ?_|refine Au ?_|refine At ?_|refine Ar rfl ?_|refine Aj rfl ?_)
    exact ret1 rfl rfl ⟨by simpa [coll,hat] using ho3,by simpa [look,hat] using hl3,hB1.trans (hB2.trans hB3)⟩
end
section
open Go.Shelf
def Tryz.lays189_ren:Go.Shelf.Ren:=⟨fun|189=>103|125=>106|257=>105|128=>116|129=>117|294=>107|295=>108|296=>109|297=>110|298=>111|299=>112|216=>113|300=>114|301=>115|328=>118|329=>119|330=>120|331=>121|332=>122|215=>123|343=>124|n=>n,fun|28=>22|3=>3|46=>186|0=>0|51=>198|53=>167|4=>4|183=>192|182=>191|131=>41|5=>5|9=>9|218=>200|222=>203|228=>205|229=>206|n=>n,fun|n=>n⟩
theorem Tryz.lays189:Go.Proofs.Lays.n189 Tryz.prog Tryz.lays189_ren:={
  mixed:=by kernel_rfl
  f125:=Tryz.func106.trans (congrArg some (by kernel_rfl))
  f128:=Tryz.func116.trans (congrArg some (by kernel_rfl))
  f129:=Tryz.func117.trans (congrArg some (by kernel_rfl))
  f189:=Tryz.func103.trans (congrArg some (by kernel_rfl))
  f215:=Tryz.func123.trans (congrArg some (by kernel_rfl))
  f216:=Tryz.func113.trans (congrArg some (by kernel_rfl))
  f257:=Tryz.func105.trans (congrArg some (by kernel_rfl))
  f294:=Tryz.func107.trans (congrArg some (by kernel_rfl))
  f295:=Tryz.func108.trans (congrArg some (by kernel_rfl))
  f296:=Tryz.func109.trans (congrArg some (by kernel_rfl))
  f297:=Tryz.func110.trans (congrArg some (by kernel_rfl))
  f298:=Tryz.func111.trans (congrArg some (by kernel_rfl))
  f299:=Tryz.func112.trans (congrArg some (by kernel_rfl))
  f300:=Tryz.func114.trans (congrArg some (by kernel_rfl))
  f301:=Tryz.func115.trans (congrArg some (by kernel_rfl))
  f328:=Tryz.func118.trans (congrArg some (by kernel_rfl))
  f329:=Tryz.func119.trans (congrArg some (by kernel_rfl))
  f330:=Tryz.func120.trans (congrArg some (by kernel_rfl))
  f331:=Tryz.func121.trans (congrArg some (by kernel_rfl))
  f332:=Tryz.func122.trans (congrArg some (by kernel_rfl))
  f343:=Tryz.func124.trans (congrArg some (by kernel_rfl))
  t0:=Tryz.underlying0
  a0:=Tryz.isAgg0
  z0:=Tryz.sizeOf0
  v0:=Tryz.zeroValue0
  t3:=Tryz.underlying3
  a3:=Tryz.isAgg3
  z3:=Tryz.sizeOf3
  v3:=Tryz.zeroValue3
  t4:=Tryz.underlying4
  a4:=Tryz.isAgg4
  z4:=Tryz.sizeOf4
  v4:=Tryz.zeroValue4
  t5:=Tryz.underlying5
  a5:=Tryz.isAgg5
  z5:=Tryz.sizeOf5
  v5:=Tryz.zeroValue5
  t9:=Tryz.underlying9
  a9:=Tryz.isAgg9
  z9:=Tryz.sizeOf9
  v9:=Tryz.zeroValue9
  t28:=Tryz.underlying22
  a28:=Tryz.isAgg22
  z28:=Tryz.sizeOf22
  v28:=Tryz.zeroValue22
  t46:=Tryz.underlying186
  a46:=Tryz.isAgg186
  z46:=Tryz.sizeOf186
  v46:=Tryz.zeroValue186
  t51:=Tryz.underlying198
  a51:=Tryz.isAgg198
  z51:=Tryz.sizeOf198
  v51:=Tryz.zeroValue198
  t53:=Tryz.underlying167
  a53:=Tryz.isAgg167
  z53:=Tryz.sizeOf167
  v53:=Tryz.zeroValue167
  t131:=Tryz.underlying41
  a131:=Tryz.isAgg41
  z131:=Tryz.sizeOf41
  v131:=Tryz.zeroValue41
  t182:=Tryz.underlying191
  a182:=Tryz.isAgg191
  z182:=Tryz.sizeOf191
  v182:=Tryz.zeroValue191
  t183:=Tryz.underlying192
  a183:=Tryz.isAgg192
  z183:=Tryz.sizeOf192
  v183:=Tryz.zeroValue192
  t218:=Tryz.underlying200
  a218:=Tryz.isAgg200
  z218:=Tryz.sizeOf200
  v218:=Tryz.zeroValue200
  t222:=Tryz.underlying203
  a222:=Tryz.isAgg203
  z222:=Tryz.sizeOf203
  v222:=Tryz.zeroValue203
  t228:=Tryz.underlying205
  a228:=Tryz.isAgg205
  z228:=Tryz.sizeOf205
  v228:=Tryz.zeroValue205
  t229:=Tryz.underlying206
  a229:=Tryz.isAgg206
  z229:=Tryz.sizeOf206
  v229:=Tryz.zeroValue206 }
open Go.Sort Go.RowKit in
theorem Tryz.slices_Sort_int (blk off cap:Nat) (zs:List Int) (w:World) (hH:Holds (Value.int .i64) w blk off zs.toArray) (hblk:blk < w.heap.size) (hsz:zs.length < 4611686018427387904) :
    Calls Tryz.prog 103 #[.slice (some ⟨blk,off,none⟩) zs.length cap] w fun e w' =>
      e=.returned (.tuple #[])∧∃ n os,w'=grow (putRow (Value.int .i64) (Sort.ahead w n) blk off (zs.mergeSort fun x y=>decide (x≤y)).toArray) os:=Any.slices_Sort_int Tryz.lays189 blk off cap zs w hH hblk hsz
open Go.RowKit Go.Sort in
theorem Tryz.slices_Sort_int_none (p:Option Addr) (cap:Nat) (w:World) :
    Calls Tryz.prog 103 #[.slice p 0 cap] w fun e w'=>e=.returned (.tuple #[])∧w'=w:=Any.slices_Sort_int_none Tryz.lays189 p cap w
end
section
open Go Go.RowKit
def sortL (xs:List Int):List Int:=xs.mergeSort fun x y=>decide (x≤y)
theorem CT (xs:List Int):(sortL xs).length=xs.length:=List.length_mergeSort xs
theorem GI {w:World} {F:Nat→Prop}:∀ {xs:List Int} {cells:List Value},Chunks w F cells xs→cells=xs.map (Value.int .i64)∧∀ x∈xs,inI64 x
  | [],_,h=>⟨h,fun _ hx=>by simp at hx⟩
  | x :: xs,cells,⟨cs,rest,he,hr,hc⟩=>by
    obtain ⟨h1,h2⟩:=GI hc
    obtain ⟨h3,h4⟩:=hr
    refine ⟨by rw [he,h3,h1];rfl,fun y hy=>?_⟩
    rcases List.mem_cons.1 hy with rfl|hy
    · exact h4
    · exact h2 y hy
theorem GJ {w:World} {F:Nat→Prop}:∀ {xs:List Int},(∀ x∈xs,inI64 x)→Chunks w F (xs.map (Value.int .i64)) xs
  | [],_=>rfl
  | x :: xs,h=>⟨[.int .i64 x],xs.map (Value.int .i64),rfl,⟨rfl,h x (by simp)⟩,GJ fun y hy=>h y (by simp [hy])⟩
theorem sortInts {w:World} {base:Nat} {F:Nat→Prop} {v:Value} {xs:List Int} (h:Own w base F 3 v xs) (hl:xs.length≤1000000) :
    Fn Tryz.prog 103 [v] w fun r w'=>r=.tuple #[]∧Own w' base F 3 v (sortL xs)∧Kept w w' v:=by
  intro d
  rcases Nat.eq_zero_or_pos xs.length with h0|h0
  · have hx:xs=[]:=List.eq_nil_of_length_eq_zero h0
    subst hx
    have hv:∃ p c,v=.slice p 0 c:=by
      obtain ⟨cells,h1,_⟩:=h
      rcases h1.2 with ⟨rfl,_⟩|⟨g,cap,cur,rfl,_⟩
      · exact ⟨_,_,rfl⟩
      · exact ⟨_,_,rfl⟩
    obtain ⟨p,c,rfl⟩:=hv
    refine (Tryz.slices_Sort_int_none p c (dr w d)).mono fun e w' ⟨he,hw⟩=>⟨_,w,d,he,hw,rfl,by simpa [sortL] using h,⟨rfl,rfl,rfl,Nat.le_refl _,fun _ _ _=>rfl⟩⟩
  · obtain ⟨g,cap,cells,sp,rfl,hg,hFg,hb,hc,hlen,hnc,hcm,htot⟩:=h.open h0
    obtain ⟨rfl,hin⟩:=GI hc
    have hH:Go.Sort.Holds (Value.int .i64) (dr w d) g 0 xs.toArray:=fun j hj=>by
      have hj':j < xs.length:=by simpa using hj
      refine ⟨?_,by rw [Nat.zero_add];exact hb.frozen j⟩
      rw [Nat.zero_add]
      refine hb.cell ?_
      rw [List.getElem?_append_left (by simpa using hj'),List.getElem?_map,List.getElem?_eq_getElem hj']
      simp [hj']
    refine (Tryz.slices_Sort_int g 0 cap xs (dr w d) hH hb.lt (by omega)).mono fun e w' ⟨he,n,os,hw⟩=>⟨_,w',w'.drawn,he,rfl,rfl,?_,?_⟩
    · have hblk:Blk w' g 3 ((sortL xs).map (Value.int .i64) ++ sp):=by
        subst hw
        unfold Blk at hb ⊢
        have hsz:g < w.heap.size:=Blk.lt hb
        show ((w.heap.modify g _) ++ os)[g]?=_
        rw [Array.getElem?_append_left (by simpa using hsz),Array.getElem?_modify,if_pos rfl,hb]
        simp only [Option.map_some,Go.Sort.onCells]
        congr 2
        apply Array.ext
        · simp [Go.Sort.putCells,CT]
        · intro i h1 h2
          simp only [Go.Sort.putCells,Array.getElem_mapIdx,Nat.zero_add,Nat.sub_zero,Nat.zero_le,true_and]
          have e1:(List.mergeSort xs fun x y=>decide (x≤y)).length=xs.length:=List.length_mergeSort xs
          by_cases hi:i < xs.length
          · rw [if_pos (by simpa [e1] using hi)]
            simp only [List.getElem_toArray]
            rw [List.getElem_append_left (by simpa [CT] using hi),List.getElem_map]
            congr 1
            rw [getElem!_pos _ _ (by simpa [e1] using hi)]
            simp [sortL]
          · rw [if_neg (by simpa [e1] using hi)]
            simp only [List.getElem_toArray]
            rw [List.getElem_append_right (by simp;omega),List.getElem_append_right (by simp [CT];omega)]
            simp [CT]
      have:=Own.close (w:=w') (base:=base) (cap:=cap) hg hFg hblk (GJ (F:=F) (w:=w') fun x hx=>hin x (by
        have:=(List.mergeSort_perm xs fun x y=>decide (x≤y)).mem_iff.1 hx
        exact this)) (by rw [CT];exact hnc) hcm (by simpa [CT] using htot)
      rwa [CT] at this
    · subst hw
      refine ⟨rfl,rfl,rfl,?_,fun k hk hne=>?_⟩
      · show w.heap.size≤((w.heap.modify g _) ++ os).size
        simp
      · have hkg:g≠k:=fun e=>hne (by simp [Value.ownBlock,e])
        show ((w.heap.modify g _) ++ os)[k]?=_
        rw [Array.getElem?_append_left (by simpa using hk),Array.getElem?_modify,if_neg hkg]
end
end Go.Proofs.YtafdmfhdjfkooaaGreat

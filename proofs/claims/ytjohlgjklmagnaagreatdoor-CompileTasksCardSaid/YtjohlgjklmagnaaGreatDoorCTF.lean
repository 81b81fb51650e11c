/- Own text: what the proof of compileTasks_holds uses, part 6: rules, models and their proofs, plain laws. -/
import Derived.Test.YtjohlgjklmagnaaGreatDoorCTE
set_option linter.unusedVariables false
set_option linter.unusedSimpArgs false
namespace Go.Proofs.YtjohlgjklmagnaaGreatDoor
open Go Go.RowKit Go.Proofs.Tryz
section
open Go Go.RowKit
attribute [local irreducible] ewp owp hwp hwq Ev Evg Fn retPost Res1
attribute [local irreducible] hwx loudX
noncomputable def EM (x0:Tpl):Option Tsk :=
  bnd (Fa x0) fun q29=>bnd (mkI 8 (0:Int) (q29.vars.length:Int)) fun u67=>bnd (Cn [x0.goal,[(⟨q29.phase,0⟩:Fct)]]) fun q203=>bnd (rng (ρ:=Tsk) (fun (k219:Nat) (a220:Job) (s217:(List Fct)×(List Opr))=>bnd (q29.state[k219]?) fun a274=>bnd (appI 16 s217.1 [(⟨a274,0⟩:Fct)]) fun u284=>bnd (EC q29 a220.start a220.atStart) fun q296=>bnd (q29.state[k219]?) fun a311=>bnd (q29.flag[k219]?) fun a313=>bnd (q29.state[k219]?) fun a315=>bnd (catI (⟨#[115,116,97,114,116,32]⟩:ByteArray) a220.name) fun n317=>bnd (Cn ([a220.start,q296.1,([(⟨a311,0⟩:Fct),(⟨a313,0⟩:Fct),(⟨q29.phase,0⟩:Fct)]:List Fct)]:List (List Fct))) fun q319=>bnd (Cu q319 (q29.vars.length:Int)) fun q321=>bnd (Cn ([a220.atStart,([(⟨a315,a220.dur⟩:Fct)]:List Fct),q296.2]:List (List Fct))) fun q323=>bnd (CX q323) fun q325=>bnd (appI 72 s217.2 [(⟨n317,0,q321,q325⟩:Opr)]) fun u327=>bnd (EC q29 a220.fin a220.atEnd) fun q571=>bnd (q29.state[k219]?) fun a586=>bnd (chkI (a220.dur + 1)) fun n588=>bnd (q29.state[k219]?) fun a590=>bnd (q29.flag[k219]?) fun a592=>bnd (catI (⟨#[101,110,100,32]⟩:ByteArray) a220.name) fun n594=>bnd (Cn ([a220.fin,q571.1,([(⟨a586,n588⟩:Fct),(⟨q29.phase,0⟩:Fct)]:List Fct)]:List (List Fct))) fun q596=>bnd (Cu q596 (q29.vars.length:Int)) fun q598=>bnd (Cn ([a220.atEnd,([(⟨a590,0⟩:Fct),(⟨a592,1⟩:Fct)]:List Fct),q571.2]:List (List Fct))) fun q600=>bnd (CX q600) fun q602=>bnd (appI 72 u327 [(⟨n594,0,q598,q602⟩:Opr)]) fun u604=>some (.next (u284,u604))) x0.jobs 0 (q203,([]:List Opr))) fun res215=>fin res215 fun (s853:(List Fct)×(List Opr))=>bnd (Cu s853.1 (q29.vars.length:Int)) fun q857=>if (x0.jobs.length:Int)=0 then (some (⟨q29.vars,(cpyL u67 x0.init),q857,s853.2⟩:Tsk)) else (bnd (CX ([(⟨q29.phase,1⟩:Fct)]:List Fct)) fun q877=>bnd (appI 72 s853.2 [(⟨(⟨#[116,105,99,107]⟩:ByteArray),0,([(⟨q29.phase,0⟩:Fct)]:List Fct),q877⟩:Opr)]) fun u879=>bnd (rng (ρ:=Tsk) (fun (k999:Nat) (a1000:Job) (s997:(List Opr))=>bnd (chkI (a1000.dur + 1)) fun n1050=>bnd (natI n1050) fun N1066=>bnd (rngN (ρ:=Ctl (List Opr) Tsk) (fun (k1057:Nat) (s1055:(List Opr))=>bnd (q29.state[k999]?) fun a1072=>bnd (chkI ((k999:Int) + 1)) fun n1082=>bnd (if 0 < (k1057:Int) then (bnd (Cn [[(⟨a1072,(k1057:Int)⟩:Fct),(⟨q29.phase,n1082⟩:Fct)],a1000.over]) fun q1107=>some q1107) else (some [(⟨a1072,(k1057:Int)⟩:Fct),(⟨q29.phase,n1082⟩:Fct)]):Option (List Fct)) fun y1091=>bnd (if 1 < (k1057:Int) then (bnd (q29.state[k999]?) fun a1132=>bnd (chkI ((k1057:Int) - 1)) fun n1142=>bnd (appI 16 ([]:List Fct) [(⟨a1132,n1142⟩:Fct)]) fun u1147=>some u1147) else (some ([]:List Fct)):Option (List Fct)) fun y1125=>bnd (if (k1057:Int)=1 then (bnd (q29.state[k999]?) fun a1170=>bnd (chkI (a1000.dur + 1)) fun n1180=>bnd (appI 16 y1125 [(⟨a1170,n1180⟩:Fct)]) fun u1189=>some u1189) else (some y1125):Option (List Fct)) fun y1163=>bnd (chkI ((k999:Int) + 2)) fun n1204=>bnd (catI (⟨#[119,97,105,116,32]⟩:ByteArray) a1000.name) fun n1206=>bnd (catI n1206 (⟨#[32]⟩:ByteArray)) fun n1208=>bnd (Dd (k1057:Int)) fun q1210=>bnd (catI n1208 q1210) fun n1212=>bnd (Cu y1091 (q29.vars.length:Int)) fun q1214=>bnd (appI 16 y1163 [(⟨q29.phase,n1204⟩:Fct)]) fun u1216=>bnd (CX u1216) fun q1218=>bnd (appI 72 s1055 [(⟨n1212,0,q1214,q1218⟩:Opr)]) fun u1220=>some (.next u1220)) N1066 s997) fun res1053=>fin res1053 fun (s1383:(List Opr))=>some (.next s1383)) x0.jobs 0 u879) fun res995=>fin res995 fun (s1389:(List Opr))=>bnd (chkI ((x0.jobs.length:Int) + 1)) fun n1393=>bnd (rng (ρ:=Tsk) (fun (k1415:Nat) (a1416:Int) (s1413:(List Eff))=>bnd (appI 40 s1413 [(⟨([]:List Fct),a1416,0⟩:Eff)]) fun u1438=>some (.next u1438)) q29.flag 0 ([]:List Eff)) fun res1411=>fin res1411 fun (s1456:(List Eff))=>bnd (rng (ρ:=Tsk) (fun (k1464:Nat) (a1465:Int) (s1462:(List Eff))=>bnd (if 0≤a1465 then (bnd (appI 40 s1462 [(⟨([]:List Fct),a1465,0⟩:Eff)]) fun u1508=>some u1508) else (some s1462):Option (List Eff)) fun y1479=>bnd (q29.read[k1464]?) fun a1525=>if 0≤a1525 then (bnd (q29.read[k1464]?) fun a1536=>bnd (appI 40 y1479 [(⟨([]:List Fct),a1536,0⟩:Eff)]) fun u1552=>some (.next u1552)) else (some (.next y1479))) q29.write 0 s1456) fun res1460=>fin res1460 fun (s1569:(List Eff))=>bnd (appI 40 s1569 [(⟨([]:List Fct),q29.phase,0⟩:Eff)]) fun u1571=>bnd (appI 72 s1389 [(⟨(⟨#[97,100,118,97,110,99,101]⟩:ByteArray),1,[(⟨q29.phase,n1393⟩:Fct)],u1571⟩:Opr)]) fun u1589=>some (⟨q29.vars,(cpyL u67 x0.init),q857,u1589⟩:Tsk))
set_option maxHeartbeats 1000000 in
theorem LV {w:World} {A:Nat→Prop} (hA:∀ k,A k→k < w.heap.size) {vx0:Value} {x0:Tpl} (uS:Vb w A vx0 x0) {r:Tsk} (hm:EM x0=some r) :
    Fn prog 16 [vx0] w fun v w'=>Ext w w'∧Vb w' (upA A w w') v r:=by
 obtain ⟨O,hB,hA0⟩:=enter hA
 replace uS:=uS.mono hA0
 obtain ⟨cs2,rfl,v3,v4,v5,v6,rfl,h7,a4,b4,t3⟩:=uS
 obtain ⟨A8,c9,rfl⟩:=h7.form
 obtain ⟨e8,f8,rfl⟩:=a4.form
 obtain ⟨g8,h8,rfl⟩:=b4.form
 obtain ⟨n6,o6,rfl⟩:=t3.form
 refine AL func16 rfl ntmps16 ?_
 unfold EM at hm
 refine Ab (Aa (BL 2 O rfl fun u7 w20 bZ kJ s3=>?_))
 replace s3:Lc 2 w20 bZ u7 26 [(.slice A8 x0.vars.length c9),(.slice e8 x0.init.length f8),(.slice g8 x0.goal.length h8),(.slice n6 x0.jobs.length o6)]:=s3
 refine AU 3 bZ fun n5 w25 O26 rF j1=>?_
 refine o_z ?_
 refine Ab (Aa ?_)
 replace s3:=s3.st rF
 refine Bd (hl:=rfl) (hc:=(s3.1).cellsAt) rfl ?_
 obtain ⟨a0,e30,hm⟩:=bs hm
 replace h7:=(h7.st kJ).st rF
 replace a4:=(a4.st kJ).st rF
 replace b4:=(b4.st kJ).st rF
 replace t3:=(t3.st kJ).st rF
 refine Cc (O:=O26) (Mo Fr.lt (Vb.ofAgg (cs:=[(.slice A8 x0.vars.length c9),(.slice e8 x0.init.length f8),(.slice g8 x0.goal.length h8),(.slice n6 x0.jobs.length o6)]) (x:=x0) rfl ⟨_,_,_,_,rfl,h7,a4,b4,t3⟩) e30) rfl fun v35 w31 O32 zB h34=>?_
 obtain ⟨cs36,rfl,v37,v38,v39,v40,v41,rfl,a1,y1,e2,u2,z1,z9⟩:=h34
 obtain ⟨p6,q6,rfl⟩:=a1.form
 obtain ⟨j6,k6,rfl⟩:=y1.form
 obtain ⟨r6,s6,rfl⟩:=e2.form
 obtain ⟨t6,u6,rfl⟩:=u2.form
 obtain ⟨h6,i6,rfl⟩:=z1.form
 refine AU 4 O32 fun p5 w59 cZ o8 p0=>?_
 refine Az p0 rfl rfl rfl (AJ) (allOne) fun w63 p8 p0=>?_
 replace p0:Lc 4 w63 cZ p5 97 [(.slice p6 a0.state.length q6),(.slice j6 a0.flag.length k6),(.slice r6 a0.write.length s6),(.slice t6 a0.read.length u6),(.int .i64 a0.phase),(.slice h6 a0.vars.length i6)]:=p0
 refine o_z ?_
 refine Ab (Aa (Ax rfl (At (hc:=Blk.cell (i:=5) (p0.1) rfl) rfl ?_)))
 refine AS rfl ?_
 replace z1:=(z1.st o8).st p8
 have l66:a0.vars.length≤9223372036854775807:=Nat.le_trans z1.len.2.1 z1.len.2.2
 have lJ:inI64 (a0.vars.length:Int):=rngNat l66
 refine Am rfl (o_z ?_)
 refine Ab ?_
 obtain ⟨v2,e68,hm⟩:=bs hm
 refine Br [] cZ ?_
 refine AP (fuel:=4) [] [(0,true),(1,true),(2,true)] rfl ?_
 refine AT rfl rfl (AV (hc:=bCell p0 5 rfl) rfl rfl ?_)
 refine AX rfl rfl (AC ?_)
 refine GX (l0:=[(1,(.pointer (some ⟨u7,0,none⟩))),(2,(.pointer (some ⟨n5,0,none⟩))),(3,(.pointer (some ⟨p5,0,none⟩))),(4,(.int .i64 (a0.vars.length:Int))),(26,(.slice h6 a0.vars.length i6)),(27,(.int .i64 (a0.vars.length:Int)))]) (zs:=[⟨3,28,fun v w O=>∃ (lS:Option Addr),∃ (mS:Nat),v=(.slice lS v2.length mS)∧Rw 5 w O 3 (.slice lS v2.length mS) v2⟩,⟨4,29,fun v w O=>∃ (nS:Option Addr),∃ (oS:Nat),∃ (pS:Option Addr),∃ (qS:Nat),v=(.agg #[(.slice nS a0.vars.length oS),(.slice pS v2.length qS),(.slice none 0 0),(.slice none 0 0)])∧Vb w (Fr 0 w O) (.slice nS a0.vars.length oS) a0.vars∧Rw 5 w O 3 (.slice pS v2.length qS) v2⟩,⟨5,5,fun v w O=>∃ (rS:Nat),v=(.pointer (some ⟨rS,0,none⟩))∧Lc 6 w O rS 31 [(.slice none 0 0),(.slice none 0 0),(.slice none 0 0),(.slice none 0 0)]⟩]) #[true,true,true,true,true,true,false] 1 [] ⟨rfl,rfl,rfl,rfl,rfl,rfl,trivial⟩ ⟨⟨fun _ _ _ _ _ ⟨lS,mS,e,h71⟩ hS=>⟨lS,mS,e,h71.st hS id id⟩,?_⟩,⟨fun _ _ _ _ _ ⟨nS,oS,pS,qS,e,h75,h78⟩ hS=>⟨nS,oS,pS,qS,e,h75.st hS id,h78.st hS id id⟩,?_⟩,⟨fun _ _ _ _ _ ⟨rS,e,h81⟩ hS=>⟨rS,e,h81.st hS id⟩,?_⟩,trivial⟩ ?_ rfl
 ·
  refine ⟨_,rfl,fun l82 w83 O84 S85 vS hD87=>?_⟩
  refine ⟨[(27,(.int .i64 (a0.vars.length:Int)))],⟨Ar vS 27 _ rfl,trivial⟩,fun Q88 hQ89=>?_⟩
  obtain ⟨m90,e91,e92,e93,e94⟩:=Lf e68
  refine Ns 5 O84 (z0:=(0:Int)) rfl rfl rfl rfl rfl e91 (vInt (iI64 0)) e92 e93 rfl fun g95 w96 O97 S98 dZ=>?_
  rw [← e94] at dZ ⊢
  refine Bo (hQ89 _ _ ⟨_,_,rfl,S98,⟨_,_,rfl,dZ⟩⟩)
 ·
  refine ⟨_,rfl,fun l113 wS xS yS mJ hD118=>?_⟩
  obtain ⟨_,zS,nJ,oJ,rfl,sF⟩:=hD118.at 0 rfl (by kernel_rfl)
  replace sF:Rw 5 wS xS 3 (.slice nJ v2.length oJ) v2:=sF
  refine ⟨[(26,(.slice h6 a0.vars.length i6)),(28,(.slice nJ v2.length oJ))],⟨Ar mJ 26 _ rfl,zS,trivial⟩,fun Q119 hQ120=>?_⟩
  refine Cl rfl rfl ?_
  replace z1:=z1.st yS
  refine Bo (hQ120 _ _ ⟨_,_,rfl,St.refl _ _ _,⟨_,_,_,_,rfl,z1,sF⟩⟩)
 ·
  refine ⟨_,rfl,fun l147 w148 aT S150 eZ hD152=>?_⟩
  refine ⟨[],trivial,fun Q153 hQ154=>?_⟩
  refine AU 6 aT fun g155 w156 O157 bT cT=>?_
  refine Bo (hQ154 _ _ ⟨_,_,rfl,bT,⟨_,rfl,cT⟩⟩)
 intro l166 aC cA z4 k9 hD171
 obtain ⟨_,dT,r0,rfl,b0⟩:=hD171.at 2 rfl rfl
 replace b0:Lc 6 aC cA r0 31 [(.slice none 0 0),(.slice none 0 0),(.slice none 0 0),(.slice none 0 0)]:=b0
 obtain ⟨_,eT,s0,t0,u0,v0,rfl,h0,e0⟩:=hD171.at 1 rfl rfl
 replace h0:Vb aC (Fr 0 aC cA) (.slice s0 a0.vars.length t0) a0.vars:=h0
 replace e0:Rw 5 aC cA 3 (.slice u0 v2.length v0) v2:=e0
 refine GW [(1,(.pointer (some ⟨u7,0,none⟩))),(2,(.pointer (some ⟨n5,0,none⟩))),(3,(.pointer (some ⟨p5,0,none⟩))),(4,(.int .i64 (a0.vars.length:Int))),(5,(.pointer (some ⟨r0,0,none⟩))),(29,(.agg #[(.slice s0 a0.vars.length t0),(.slice u0 v2.length v0),(.slice none 0 0),(.slice none 0 0)]))] ⟨Ar k9 1 _ rfl,Ar k9 2 _ rfl,Ar k9 3 _ rfl,Ar k9 4 _ rfl,dT,eT,trivial⟩ ?_
 refine AD (i:=6) rfl ?_
 refine Az b0 rfl rfl rfl (AJ) (allOne) fun fT f4 b0=>?_
 replace b0:Lc 6 fT cA r0 31 [(.slice s0 a0.vars.length t0),(.slice u0 v2.length v0),(.slice none 0 0),(.slice none 0 0)]:=b0
 refine BF ?_
 refine Bv ?_
 refine Ab (Aa (Ax rfl (At (hc:=Blk.cell (i:=1) (b0.1) rfl) rfl ?_)))
 refine Ax rfl ?_
 replace s3:=((((s3.st zB).st o8).st p8).st z4).st f4
 refine At (hc:=Blk.cell (i:=1) (s3.1) rfl) rfl ?_
 replace a4:=((((a4.st zB).st o8).st p8).st z4).st f4
 replace e0:=e0.st f4
 refine Px e0 a4 rfl rfl rfl fun w185 u3 e0 _=>?_
 refine o_z ?_
 refine Ab (Aa (Ax rfl ?_))
 replace s3:=s3.st u3
 refine At (hc:=Blk.cell (i:=2) (s3.1) rfl) rfl ?_
 refine Ax rfl ?_
 replace p0:=((p0.st z4).st f4).st u3
 refine At (hc:=Blk.cell (i:=4) (p0.1) rfl) rfl ?_
 refine Cl rfl rfl ?_
 refine AQ 7 cA (xs:=([(⟨a0.phase,0⟩:Fct)]:List Fct)) rfl rfl rfl ⟨(Vb.ofAgg (cs:=[(.int .i64 a0.phase),(.int .i64 0)]) (x:=(⟨a0.phase,0⟩:Fct)) rfl ⟨rfl,z9,(iI64 0)⟩),trivial⟩ fun g187 w188 O189 o3 tF=>?_
 obtain ⟨gT,p3,tF⟩:=tF.freeze
 replace b4:=(((((((b4.st zB).st o8).st p8).st z4).st f4).st u3).st o3).st p3
 refine AQ 8 gT (xs:=([x0.goal,[(⟨a0.phase,0⟩:Fct)]]:List (List Fct))) rfl rfl rfl ⟨b4,tF,trivial⟩ fun g195 w196 O197 l3 uF=>?_
 obtain ⟨hT,m3,uF⟩:=uF.freeze
 obtain ⟨q203,iT,hm⟩:=bs hm
 refine CZ 9 (O:=hT) (Fb Fr.lt uF iT) rfl fun jT kT w205 lT n3 mT=>?_
 refine Am rfl (o_z ?_)
 refine Ab (Ab (Aa (Ax rfl ?_)))
 replace s3:=((((s3.st o3).st p3).st l3).st m3).st n3
 refine At (hc:=Blk.cell (i:=3) (s3.1) rfl) rfl ?_
 refine AS rfl ?_
 replace t3:=((((((((((t3.st zB).st o8).st p8).st z4).st f4).st u3).st o3).st p3).st l3).st m3).st n3
 have vF:x0.jobs.length≤9223372036854775807:=Nat.le_trans t3.len.2.1 t3.len.2.2
 have r213:inI64 (x0.jobs.length:Int):=rngNat vF
 refine Ak rfl (o_z ?_)
 obtain ⟨wF,pJ,hm⟩:=bs hm
 refine Ay (aft wF (fun (q5:(List Fct)×(List Opr)) (g4:(Option Addr×Nat)×(Option Addr×Nat))=>[(1,(.pointer (some ⟨u7,0,none⟩))),(2,(.pointer (some ⟨n5,0,none⟩))),(3,(.pointer (some ⟨p5,0,none⟩))),(4,(.int .i64 (a0.vars.length:Int))),(5,(.pointer (some ⟨r0,0,none⟩))),(6,(.slice g4.1.1 q5.1.length g4.1.2))]) (fun q5 g4 w'=>∃ O':Lab,Bs w A w' O'∧Lc 2 w' O' u7 26 [(.slice A8 x0.vars.length c9),(.slice e8 x0.init.length f8),(.slice g8 x0.goal.length h8),(.slice n6 x0.jobs.length o6)]∧Vb w' (Fr 0 w' O') (.slice A8 x0.vars.length c9) x0.vars∧Vb w' (Fr 0 w' O') (.slice e8 x0.init.length f8) x0.init∧Vb w' (Fr 0 w' O') (.slice g8 x0.goal.length h8) x0.goal∧Vb w' (Fr 0 w' O') (.slice n6 x0.jobs.length o6) x0.jobs∧Lc 3 w' O' n5 31 [(.slice none 0 0),(.slice none 0 0),(.slice none 0 0),(.slice none 0 0)]∧Lc 4 w' O' p5 97 [(.slice p6 a0.state.length q6),(.slice j6 a0.flag.length k6),(.slice r6 a0.write.length s6),(.slice t6 a0.read.length u6),(.int .i64 a0.phase),(.slice h6 a0.vars.length i6)]∧Vb w' (Fr 0 w' O') (.slice p6 a0.state.length q6) a0.state∧Vb w' (Fr 0 w' O') (.slice j6 a0.flag.length k6) a0.flag∧Vb w' (Fr 0 w' O') (.slice r6 a0.write.length s6) a0.write∧Vb w' (Fr 0 w' O') (.slice t6 a0.read.length u6) a0.read∧Vb w' (Fr 0 w' O') (.slice h6 a0.vars.length i6) a0.vars∧Lc 6 w' O' r0 31 [(.slice s0 a0.vars.length t0),(.slice u0 v2.length v0),(.slice none 0 0),(.slice g4.2.1 q5.2.length g4.2.2)]∧Vb w' (Fr 0 w' O') (.slice s0 a0.vars.length t0) a0.vars∧Rw 5 w' O' 3 (.slice u0 v2.length v0) (cpyL v2 x0.init)∧Rw 18 w' O' 82 (.slice g4.2.1 q5.2.length g4.2.2) q5.2∧Rw 9 w' O' 78 (.slice g4.1.1 q5.1.length g4.1.2) q5.1)) ?_ ?_
 ·
  refine AK ?_
  replace hB:=((((((((((((hB.st kJ).st rF).st zB).st o8).st p8).st z4).st f4).st u3).st o3).st p3).st l3).st m3).st n3
  replace h7:=((((((((((h7.st zB).st o8).st p8).st z4).st f4).st u3).st o3).st p3).st l3).st m3).st n3
  replace a4:=(((((a4.st u3).st o3).st p3).st l3).st m3).st n3
  replace b4:=((b4.st l3).st m3).st n3
  replace j1:=((((((((((j1.st zB).st o8).st p8).st z4).st f4).st u3).st o3).st p3).st l3).st m3).st n3
  replace a1:=(((((((((a1.st o8).st p8).st z4).st f4).st u3).st o3).st p3).st l3).st m3).st n3
  replace y1:=(((((((((y1.st o8).st p8).st z4).st f4).st u3).st o3).st p3).st l3).st m3).st n3
  replace e2:=(((((((((e2.st o8).st p8).st z4).st f4).st u3).st o3).st p3).st l3).st m3).st n3
  replace u2:=(((((((((u2.st o8).st p8).st z4).st f4).st u3).st o3).st p3).st l3).st m3).st n3
  replace z1:=(((((((z1.st z4).st f4).st u3).st o3).st p3).st l3).st m3).st n3
  replace p0:=((((p0.st o3).st p3).st l3).st m3).st n3
  replace b0:=(((((b0.st u3).st o3).st p3).st l3).st m3).st n3
  replace h0:=((((((h0.st f4).st u3).st o3).st p3).st l3).st m3).st n3
  replace e0:=((((e0.st o3).st p3).st l3).st m3).st n3
  refine AY (σ:=(List Fct)×(List Opr)) (X:=(Option Addr×Nat)×(Option Addr×Nat)) (x0.jobs.length) pJ rfl vF (fun (q5:(List Fct)×(List Opr)) (g4:(Option Addr×Nat)×(Option Addr×Nat))=>[(1,(.pointer (some ⟨u7,0,none⟩))),(2,(.pointer (some ⟨n5,0,none⟩))),(3,(.pointer (some ⟨p5,0,none⟩))),(4,(.int .i64 (a0.vars.length:Int))),(5,(.pointer (some ⟨r0,0,none⟩))),(6,(.slice g4.1.1 q5.1.length g4.1.2)),(44,(.slice n6 x0.jobs.length o6))]) _ (fun q5 g4 w'=>∃ O':Lab,Bs w A w' O'∧Lc 2 w' O' u7 26 [(.slice A8 x0.vars.length c9),(.slice e8 x0.init.length f8),(.slice g8 x0.goal.length h8),(.slice n6 x0.jobs.length o6)]∧Vb w' (Fr 0 w' O') (.slice A8 x0.vars.length c9) x0.vars∧Vb w' (Fr 0 w' O') (.slice e8 x0.init.length f8) x0.init∧Vb w' (Fr 0 w' O') (.slice g8 x0.goal.length h8) x0.goal∧Vb w' (Fr 0 w' O') (.slice n6 x0.jobs.length o6) x0.jobs∧Lc 3 w' O' n5 31 [(.slice none 0 0),(.slice none 0 0),(.slice none 0 0),(.slice none 0 0)]∧Lc 4 w' O' p5 97 [(.slice p6 a0.state.length q6),(.slice j6 a0.flag.length k6),(.slice r6 a0.write.length s6),(.slice t6 a0.read.length u6),(.int .i64 a0.phase),(.slice h6 a0.vars.length i6)]∧Vb w' (Fr 0 w' O') (.slice p6 a0.state.length q6) a0.state∧Vb w' (Fr 0 w' O') (.slice j6 a0.flag.length k6) a0.flag∧Vb w' (Fr 0 w' O') (.slice r6 a0.write.length s6) a0.write∧Vb w' (Fr 0 w' O') (.slice t6 a0.read.length u6) a0.read∧Vb w' (Fr 0 w' O') (.slice h6 a0.vars.length i6) a0.vars∧Lc 6 w' O' r0 31 [(.slice s0 a0.vars.length t0),(.slice u0 v2.length v0),(.slice none 0 0),(.slice g4.2.1 q5.2.length g4.2.2)]∧Vb w' (Fr 0 w' O') (.slice s0 a0.vars.length t0) a0.vars∧Rw 5 w' O' 3 (.slice u0 v2.length v0) (cpyL v2 x0.init)∧Rw 18 w' O' 82 (.slice g4.2.1 q5.2.length g4.2.2) q5.2∧Rw 9 w' O' 78 (.slice g4.1.1 q5.1.length g4.1.2) q5.1) _ ((jT,kT),(none,0)) ⟨lT,hB,s3,h7,a4,b4,t3,j1,p0,a1,y1,e2,u2,z1,b0,h0,e0,(Rw.nil 18 (by decide)),mT⟩ ⟨rfl,rfl,rfl,rfl,rfl,rfl,rfl,rfl,rfl,trivial⟩ (fun _ _=>⟨rfl,rfl⟩) (fun _ _=>⟨rfl,rfl,rfl,rfl,rfl,rfl,trivial⟩) (fun _ _ _ ⟨O',hB,s3,h7,a4,b4,t3,j1,p0,a1,y1,e2,u2,z1,b0,h0,e0,w6,q8⟩=>⟨O',hB,s3,h7,a4,b4,t3,j1,p0,a1,y1,e2,u2,z1,b0,h0,e0,w6,q8⟩) ⟨rfl,rfl,rfl⟩ ⟨rfl,rfl⟩ ?_
  rintro b9 k0 q5 g4 w221 fZ sD ⟨nT,hB,s3,h7,a4,b4,t3,j1,p0,a1,y1,e2,u2,z1,b0,h0,e0,w6,q8⟩ i0 sS tS
  have rk219:inI64 (b9:Int):=rngK sD vF
  refine Ab (Aa (Ak rfl ?_))
  obtain ⟨b238,o239,gZ,qJ,rJ,sJ,v245,v246,v247,v248,v249,rfl,d9,oT,e9,f9,g9,z265,pT⟩:=t3.elem' sD
  obtain ⟨xF,yF,rfl⟩:=d9.form
  obtain ⟨qT,rT,rfl⟩:=oT.form
  obtain ⟨zF,aG,rfl⟩:=e9.form
  obtain ⟨bG,cG,rfl⟩:=f9.form
  obtain ⟨dG,eG,rfl⟩:=g9.form
  refine Bi (hA:=qJ) (hj:=rfl) (hlt:=rJ) rfl rfl ?_
  refine Bd (hl:=rfl) (hc:=sJ) rfl ?_
  refine AU 10 nT fun fG w268 sT t4 h4=>?_
  refine Am rfl (Az h4 rfl rfl rfl (AJ) (allOne) fun tT u4 h4=>?_)
  replace h4:Lc 10 tT sT fG 66 [(.string k0.name),(.int .i64 k0.dur),(.slice xF k0.start.length yF),(.slice qT k0.over.length rT),(.slice zF k0.fin.length aG),(.slice bG k0.atStart.length cG),(.slice dG k0.atEnd.length eG)]:=h4
  refine o_z ?_
  refine Ab (Aa (Ak rfl (Ax rfl ?_)))
  replace p0:=(p0.st t4).st u4
  refine At (hc:=Blk.cell (i:=0) (p0.1) rfl) rfl ?_
  refine Ak rfl ?_
  obtain ⟨gG,uT,i0⟩:=bs i0
  replace a1:=(a1.st t4).st u4
  obtain ⟨b276,o277,iZ,tJ,uJ,vJ,rfl,vT⟩:=a1.elem' uT
  refine Bi (hA:=tJ) (hj:=rfl) (hlt:=uJ) rfl rfl ?_
  refine At (hc:=cat0 vJ) rfl ?_
  refine Cl rfl rfl ?_
  obtain ⟨bC,hG,i0⟩:=bs i0
  obtain ⟨hG,wT,xT⟩:=AI hG
  replace q8:=(q8.st t4).st u4
  refine BC rfl (a:=(⟨gG,0⟩:Fct)) q8 (Vb.ofAgg (cs:=[(.int .i64 gG),(.int .i64 0)]) (x:=(⟨gG,0⟩:Fct)) rfl ⟨rfl,vT,(iI64 0)⟩) (fun _=>rfl) rfl wT xT ⟨rfl,rfl⟩ fun g288 dA eA w291 yT w4 wJ=>?_
  rw [← hG] at wJ ⊢
  refine Am rfl (o_z ?_)
  refine Ab (Aa ?_)
  replace p0:=p0.st w4
  refine Bd (hl:=rfl) (hc:=(p0.1).cellsAt) rfl ?_
  refine Ax rfl ?_
  replace h4:=h4.st w4
  refine At (hc:=Blk.cell (i:=2) (h4.1) rfl) rfl ?_
  refine Ax rfl (At (hc:=Blk.cell (i:=5) (h4.1) rfl) rfl ?_)
  obtain ⟨j5,zT,i0⟩:=bs i0
  replace a1:=a1.st w4
  replace y1:=((y1.st t4).st u4).st w4
  replace e2:=((e2.st t4).st u4).st w4
  replace u2:=((u2.st t4).st u4).st w4
  replace z1:=((z1.st t4).st u4).st w4
  replace d9:=((d9.st t4).st u4).st w4
  replace f9:=((f9.st t4).st u4).st w4
  refine GV (O:=yT) (R:=fun w' F v=>T2 w' F v j5) (Jz Fr.lt (Vb.ofAgg (cs:=[(.slice p6 a0.state.length q6),(.slice j6 a0.flag.length k6),(.slice r6 a0.write.length s6),(.slice t6 a0.read.length u6),(.int .i64 a0.phase),(.slice h6 a0.vars.length i6)]) (x:=a0) rfl ⟨_,_,_,_,_,rfl,a1,y1,e2,u2,z1,z9⟩) d9 f9 zT) rfl rfl fun v302 w298 aU i4 bU=>?_
  obtain ⟨v303,v304,rfl,cC,dC⟩:=bU
  obtain ⟨xJ,yJ,rfl⟩:=cC.form
  obtain ⟨zJ,aK,rfl⟩:=dC.form
  refine Ak rfl (DU rfl rfl (DU rfl rfl (Am rfl (Am rfl (o_z ?_)))))
  refine Ab ?_
  obtain ⟨r5,cU,i0⟩:=bs i0
  obtain ⟨s5,dU,i0⟩:=bs i0
  obtain ⟨t5,eU,i0⟩:=bs i0
  obtain ⟨fA,bK,i0⟩:=bs i0
  obtain ⟨aA,fU,i0⟩:=bs i0
  obtain ⟨r8,gU,i0⟩:=bs i0
  obtain ⟨q323,hU,i0⟩:=bs i0
  obtain ⟨iG,iU,i0⟩:=bs i0
  obtain ⟨jG,kG,i0⟩:=bs i0
  refine Br [(41,[15]),(42,[16]),(45,[18])] aU ?_
  refine AP (fuel:=13) [15,16,18] [(0,true),(1,true),(2,true),(3,true),(5,true),(6,true),(7,true),(8,true),(9,true),(10,true),(14,true),(15,true),(16,true),(20,true),(21,true),(22,true),(26,true),(28,true),(29,true),(30,true),(31,true),(32,true),(35,true),(36,true),(39,true),(11,true),(12,true),(13,true),(17,true),(18,true),(19,true),(33,true),(34,true),(37,true),(4,true)] rfl ?_
  refine AT rfl rfl ?_
  replace b0:=(((b0.st t4).st u4).st w4).st i4
  refine AV (hc:=bCell b0 3 rfl) rfl rfl ?_
  refine AT rfl rfl ?_
  replace h4:=h4.st i4
  refine AV (hc:=bCell h4 0 rfl) rfl rfl ?_
  refine AT rfl rfl (AV (hc:=bCell h4 2 rfl) rfl rfl ?_)
  refine AX rfl rfl (AT rfl rfl ?_)
  replace p0:=p0.st i4
  refine AV (hc:=bCell p0 0 rfl) rfl rfl ?_
  refine AX rfl rfl (AT rfl rfl (AV (hc:=bCell p0 1 rfl) rfl rfl ?_))
  refine AX rfl rfl (AT rfl rfl (AV (hc:=bCell p0 4 rfl) rfl rfl ?_))
  refine Cq rfl rfl rfl ?_
  refine AX rfl rfl (AT rfl rfl (AV (hc:=bCell h4 5 rfl) rfl rfl ?_))
  refine AT rfl rfl (AV (hc:=bCell p0 0 rfl) rfl rfl ?_)
  refine AX rfl rfl (AT rfl rfl (AV (hc:=bCell h4 1 rfl) rfl rfl ?_))
  refine AX rfl rfl ?_
  replace a1:=a1.st i4
  obtain ⟨b329,o330,jZ,cK,dK,eK,fK,rfl,jU⟩:=a1.elem cU
  refine CK (hA:=cK) (hj:=rfl) (hlt:=eK) rfl rfl rfl ?_
  refine AV (hc:=fun w' ⟨O',hq⟩=>cat0 (Bp (hq.agree (i:=0) (by decide)) dK fK)) rfl rfl ?_
  refine Cq rfl rfl rfl ?_
  replace y1:=y1.st i4
  obtain ⟨b337,o338,kZ,gK,hK,iK,jK,rfl,kU⟩:=y1.elem dU
  refine CK (hA:=gK) (hj:=rfl) (hlt:=iK) rfl rfl rfl ?_
  refine AV (hc:=fun w' ⟨O',hq⟩=>cat0 (Bp (hq.agree (i:=0) (by decide)) hK jK)) rfl rfl ?_
  refine Cq rfl rfl rfl ?_
  obtain ⟨b345,o346,mZ,kK,lK,mK,nK,rfl,lU⟩:=a1.elem eU
  refine CK (hA:=kK) (hj:=rfl) (hlt:=mK) rfl rfl rfl ?_
  refine AV (hc:=fun w' ⟨O',hq⟩=>cat0 (Bp (hq.agree (i:=0) (by decide)) lK nK)) rfl rfl ?_
  refine Cq rfl rfl rfl ?_
  refine Hq (he:=bK) rfl rfl rfl ?_
  refine AC ?_
  refine GX (l0:=[(1,(.pointer (some ⟨u7,0,none⟩))),(2,(.pointer (some ⟨n5,0,none⟩))),(3,(.pointer (some ⟨p5,0,none⟩))),(4,(.int .i64 (a0.vars.length:Int))),(5,(.pointer (some ⟨r0,0,none⟩))),(6,(.slice dA bC.length eA)),(7,(.int .i64 (b9:Int))),(8,(.pointer (some ⟨fG,0,none⟩))),(44,(.slice n6 x0.jobs.length o6)),(45,(.int .i64 (x0.jobs.length:Int))),(46,(.int .i64 (b9:Int))),(70,(.slice g4.2.1 q5.2.length g4.2.2)),(73,(.string fA)),(75,(.slice xF k0.start.length yF)),(76,(.slice xJ j5.1.length yJ)),(82,(.agg #[(.int .i64 r5),(.int .i64 0)])),(88,(.agg #[(.int .i64 s5),(.int .i64 0)])),(91,(.agg #[(.int .i64 a0.phase),(.int .i64 0)])),(95,(.int .i64 (a0.vars.length:Int))),(98,(.slice bG k0.atStart.length cG)),(106,(.agg #[(.int .i64 t5),(.int .i64 k0.dur)])),(108,(.slice zJ j5.2.length aK))]) (zs:=[⟨23,92,fun v w O=>∃ (eC:Option Addr),∃ (fC:Nat),v=(.slice eC ([(⟨r5,0⟩:Fct),(⟨s5,0⟩:Fct),(⟨a0.phase,0⟩:Fct)]:List Fct).length fC)∧Vb w (Fr 0 w O) (.slice eC ([(⟨r5,0⟩:Fct),(⟨s5,0⟩:Fct),(⟨a0.phase,0⟩:Fct)]:List Fct).length fC) ([(⟨r5,0⟩:Fct),(⟨s5,0⟩:Fct),(⟨a0.phase,0⟩:Fct)]:List Fct)⟩,⟨24,93,fun v w O=>∃ (gC:Option Addr),∃ (hC:Nat),v=(.slice gC ([k0.start,j5.1,([(⟨r5,0⟩:Fct),(⟨s5,0⟩:Fct),(⟨a0.phase,0⟩:Fct)]:List Fct)]:List (List Fct)).length hC)∧Vb w (Fr 0 w O) (.slice gC ([k0.start,j5.1,([(⟨r5,0⟩:Fct),(⟨s5,0⟩:Fct),(⟨a0.phase,0⟩:Fct)]:List Fct)]:List (List Fct)).length hC) ([k0.start,j5.1,([(⟨r5,0⟩:Fct),(⟨s5,0⟩:Fct),(⟨a0.phase,0⟩:Fct)]:List Fct)]:List (List Fct))⟩,⟨25,94,fun v w O=>∃ (iC:Option Addr),∃ (jC:Nat),v=(.slice iC aA.length jC)∧Vb w (Fr 0 w O) (.slice iC aA.length jC) aA⟩,⟨27,96,fun v w O=>∃ (kC:Option Addr),∃ (lC:Nat),v=(.slice kC r8.length lC)∧Vb w (Fr 0 w O) (.slice kC r8.length lC) r8⟩,⟨38,107,fun v w O=>∃ (mC:Option Addr),∃ (nC:Nat),v=(.slice mC ([(⟨t5,k0.dur⟩:Fct)]:List Fct).length nC)∧Vb w (Fr 0 w O) (.slice mC ([(⟨t5,k0.dur⟩:Fct)]:List Fct).length nC) ([(⟨t5,k0.dur⟩:Fct)]:List Fct)⟩,⟨40,109,fun v w O=>∃ (oC:Option Addr),∃ (pC:Nat),v=(.slice oC ([k0.atStart,([(⟨t5,k0.dur⟩:Fct)]:List Fct),j5.2]:List (List Fct)).length pC)∧Vb w (Fr 0 w O) (.slice oC ([k0.atStart,([(⟨t5,k0.dur⟩:Fct)]:List Fct),j5.2]:List (List Fct)).length pC) ([k0.atStart,([(⟨t5,k0.dur⟩:Fct)]:List Fct),j5.2]:List (List Fct))⟩]) #[true,true,true,true,true,true,true,true,true,true,true,true,true,true,true,true,true,true,true,true,true,true,true,true,true,true,true,true,true,true,true,true,true,true,true,true,true,true,true,true,true,false,false,false,false,false,false,false] 7 [(41,[15]),(42,[16]),(45,[18])] ⟨rfl,rfl,rfl,rfl,rfl,rfl,rfl,rfl,rfl,rfl,rfl,rfl,rfl,rfl,rfl,rfl,rfl,rfl,rfl,rfl,rfl,rfl,trivial⟩ ⟨⟨fun _ _ _ _ _ ⟨eC,fC,e,mU⟩ hS=>⟨eC,fC,e,mU.st hS id⟩,?_⟩,⟨fun _ _ _ _ _ ⟨gC,hC,e,nU⟩ hS=>⟨gC,hC,e,nU.st hS id⟩,?_⟩,⟨fun _ _ _ _ _ ⟨iC,jC,e,oU⟩ hS=>⟨iC,jC,e,oU.st hS id⟩,?_⟩,⟨fun _ _ _ _ _ ⟨kC,lC,e,pU⟩ hS=>⟨kC,lC,e,pU.st hS id⟩,?_⟩,⟨fun _ _ _ _ _ ⟨mC,nC,e,qU⟩ hS=>⟨mC,nC,e,qU.st hS id⟩,?_⟩,⟨fun _ _ _ _ _ ⟨oC,pC,e,rU⟩ hS=>⟨oC,pC,e,rU.st hS id⟩,?_⟩,trivial⟩ ?_ rfl
  ·
   refine ⟨_,rfl,fun l371 w372 sU S374 gA hD376=>?_⟩
   refine ⟨[(82,(.agg #[(.int .i64 r5),(.int .i64 0)])),(88,(.agg #[(.int .i64 s5),(.int .i64 0)])),(91,(.agg #[(.int .i64 a0.phase),(.int .i64 0)]))],⟨Ar gA 82 _ rfl,Ar gA 88 _ rfl,Ar gA 91 _ rfl,trivial⟩,fun Q377 hQ378=>?_⟩
   refine CT sU (xs:=([(⟨r5,0⟩:Fct),(⟨s5,0⟩:Fct),(⟨a0.phase,0⟩:Fct)]:List Fct)) rfl rfl rfl ⟨(Vb.ofAgg (cs:=[(.int .i64 r5),(.int .i64 0)]) (x:=(⟨r5,0⟩:Fct)) rfl ⟨rfl,jU,(iI64 0)⟩),(Vb.ofAgg (cs:=[(.int .i64 s5),(.int .i64 0)]) (x:=(⟨s5,0⟩:Fct)) rfl ⟨rfl,kU,(iI64 0)⟩),(Vb.ofAgg (cs:=[(.int .i64 a0.phase),(.int .i64 0)]) (x:=(⟨a0.phase,0⟩:Fct)) rfl ⟨rfl,z9,(iI64 0)⟩),trivial⟩ fun g379 w380 O381 tU uU=>?_
   refine Bo (hQ378 _ _ ⟨_,_,rfl,tU,⟨_,_,rfl,uU⟩⟩)
  ·
   refine ⟨_,rfl,fun l393 oK pK qK tD hD398=>?_⟩
   obtain ⟨_,vU,rK,sK,rfl,lG⟩:=hD398.at 0 rfl (by kernel_rfl)
   replace lG:Vb oK (Fr 0 oK pK) (.slice rK ([(⟨r5,0⟩:Fct),(⟨s5,0⟩:Fct),(⟨a0.phase,0⟩:Fct)]:List Fct).length sK) ([(⟨r5,0⟩:Fct),(⟨s5,0⟩:Fct),(⟨a0.phase,0⟩:Fct)]:List Fct):=lG
   refine ⟨[(75,(.slice xF k0.start.length yF)),(76,(.slice xJ j5.1.length yJ)),(92,(.slice rK ([(⟨r5,0⟩:Fct),(⟨s5,0⟩:Fct),(⟨a0.phase,0⟩:Fct)]:List Fct).length sK))],⟨Ar tD 75 _ rfl,Ar tD 76 _ rfl,vU,trivial⟩,fun Q399 hQ400=>?_⟩
   replace d9:=(d9.st i4).st qK
   replace cC:=cC.st qK
   refine CT pK (xs:=([k0.start,j5.1,([(⟨r5,0⟩:Fct),(⟨s5,0⟩:Fct),(⟨a0.phase,0⟩:Fct)]:List Fct)]:List (List Fct))) rfl rfl rfl ⟨d9,cC,lG,trivial⟩ fun g405 w406 O407 wU xU=>?_
   refine Bo (hQ400 _ _ ⟨_,_,rfl,wU,⟨_,_,rfl,xU⟩⟩)
  ·
   refine ⟨_,rfl,fun l419 tK uK S422 nZ hD424=>?_⟩
   obtain ⟨_,yU,vK,wK,rfl,mG⟩:=hD424.at 1 rfl (by kernel_rfl)
   replace mG:Vb tK (Fr 0 tK uK) (.slice vK ([k0.start,j5.1,([(⟨r5,0⟩:Fct),(⟨s5,0⟩:Fct),(⟨a0.phase,0⟩:Fct)]:List Fct)]:List (List Fct)).length wK) ([k0.start,j5.1,([(⟨r5,0⟩:Fct),(⟨s5,0⟩:Fct),(⟨a0.phase,0⟩:Fct)]:List Fct)]:List (List Fct)):=mG
   refine ⟨[(93,(.slice vK ([k0.start,j5.1,([(⟨r5,0⟩:Fct),(⟨s5,0⟩:Fct),(⟨a0.phase,0⟩:Fct)]:List Fct)]:List (List Fct)).length wK))],⟨yU,trivial⟩,fun Q425 hQ426=>?_⟩
   refine LP (O:=uK) (Fb Fr.lt mG fU) rfl rfl fun A436 c437 w431 O432 zU aV=>?_
   refine Bo (hQ426 _ _ ⟨_,_,rfl,zU,⟨_,_,rfl,aV⟩⟩)
  ·
   refine ⟨_,rfl,fun l447 xK yK S450 zK hD452=>?_⟩
   obtain ⟨_,bV,aL,bL,rfl,nG⟩:=hD452.at 2 rfl (by kernel_rfl)
   replace nG:Vb xK (Fr 0 xK yK) (.slice aL aA.length bL) aA:=nG
   refine ⟨[(94,(.slice aL aA.length bL)),(95,(.int .i64 (a0.vars.length:Int)))],⟨bV,Ar zK 95 _ rfl,trivial⟩,fun Q453 hQ454=>?_⟩
   refine Cc (O:=yK) (En Fr.lt nG lJ gU) rfl fun v463 w459 O460 cV cL=>?_
   obtain ⟨A464,c465,rfl⟩:=cL.form
   refine Bo (hQ454 _ _ ⟨_,_,rfl,cV,⟨_,_,rfl,cL⟩⟩)
  ·
   refine ⟨_,rfl,fun l475 w476 dV S478 dL hD480=>?_⟩
   refine ⟨[(106,(.agg #[(.int .i64 t5),(.int .i64 k0.dur)]))],⟨Ar dL 106 _ rfl,trivial⟩,fun Q481 hQ482=>?_⟩
   refine CT dV (xs:=([(⟨t5,k0.dur⟩:Fct)]:List Fct)) rfl rfl rfl ⟨(Vb.ofAgg (cs:=[(.int .i64 t5),(.int .i64 k0.dur)]) (x:=(⟨t5,k0.dur⟩:Fct)) rfl ⟨rfl,lU,pT⟩),trivial⟩ fun g483 w484 O485 eV fV=>?_
   refine Bo (hQ482 _ _ ⟨_,_,rfl,eV,⟨_,_,rfl,fV⟩⟩)
  ·
   refine ⟨_,rfl,fun l497 eL fL gL uD hD502=>?_⟩
   obtain ⟨_,gV,hL,iL,rfl,oG⟩:=hD502.at 4 rfl (by kernel_rfl)
   replace oG:Vb eL (Fr 0 eL fL) (.slice hL ([(⟨t5,k0.dur⟩:Fct)]:List Fct).length iL) ([(⟨t5,k0.dur⟩:Fct)]:List Fct):=oG
   refine ⟨[(98,(.slice bG k0.atStart.length cG)),(107,(.slice hL ([(⟨t5,k0.dur⟩:Fct)]:List Fct).length iL)),(108,(.slice zJ j5.2.length aK))],⟨Ar uD 98 _ rfl,gV,Ar uD 108 _ rfl,trivial⟩,fun Q503 hQ504=>?_⟩
   replace f9:=(f9.st i4).st gL
   replace dC:=dC.st gL
   refine CT fL (xs:=([k0.atStart,([(⟨t5,k0.dur⟩:Fct)]:List Fct),j5.2]:List (List Fct))) rfl rfl rfl ⟨f9,oG,dC,trivial⟩ fun g509 w510 O511 hV iV=>?_
   refine Bo (hQ504 _ _ ⟨_,_,rfl,hV,⟨_,_,rfl,iV⟩⟩)
  intro l523 qC pG a5 d5 hD528
  obtain ⟨_,jV,qG,rG,rfl,iA⟩:=hD528.at 3 rfl rfl
  replace iA:Vb qC (Fr 0 qC pG) (.slice qG r8.length rG) r8:=iA
  obtain ⟨_,kV,jL,kL,rfl,sG⟩:=hD528.at 5 rfl rfl
  replace sG:Vb qC (Fr 0 qC pG) (.slice jL ([k0.atStart,([(⟨t5,k0.dur⟩:Fct)]:List Fct),j5.2]:List (List Fct)).length kL) ([k0.atStart,([(⟨t5,k0.dur⟩:Fct)]:List Fct),j5.2]:List (List Fct)):=sG
  refine GW [(1,(.pointer (some ⟨u7,0,none⟩))),(2,(.pointer (some ⟨n5,0,none⟩))),(3,(.pointer (some ⟨p5,0,none⟩))),(4,(.int .i64 (a0.vars.length:Int))),(5,(.pointer (some ⟨r0,0,none⟩))),(6,(.slice dA bC.length eA)),(7,(.int .i64 (b9:Int))),(8,(.pointer (some ⟨fG,0,none⟩))),(44,(.slice n6 x0.jobs.length o6)),(45,(.int .i64 (x0.jobs.length:Int))),(46,(.int .i64 (b9:Int))),(70,(.slice g4.2.1 q5.2.length g4.2.2)),(73,(.string fA)),(96,(.slice qG r8.length rG)),(109,(.slice jL ([k0.atStart,([(⟨t5,k0.dur⟩:Fct)]:List Fct),j5.2]:List (List Fct)).length kL))] ⟨Ar d5 1 _ rfl,Ar d5 2 _ rfl,Ar d5 3 _ rfl,Ar d5 4 _ rfl,Ar d5 5 _ rfl,Ar d5 6 _ rfl,Ar d5 7 _ rfl,Ar d5 8 _ rfl,Ar d5 44 _ rfl,Ar d5 45 _ rfl,Ar d5 46 _ rfl,Ar d5 70 _ rfl,Ar d5 73 _ rfl,jV,kV,trivial⟩ ?_
  refine AD (i:=41) rfl ?_
  refine CZ 16 (O:=pG) (Fb Fr.lt sG hU) rfl fun A542 c543 w537 O538 j4 tG=>?_
  have hZ:=lZ j4
  refine AN [(42,[16]),(45,[18])] hZ ?_
  refine AD (i:=42) rfl ?_
  obtain ⟨lV,k4,tG⟩:=tG.freeze
  have hZ:=k4.lst [16] (fun _ h=>by cases h;decide)
  refine Cc (O:=lV) (ED Fr.lt tG iU) rfl fun v551 w547 mV l4 lL=>?_
  obtain ⟨nV,oV,rfl⟩:=lL.form
  replace hZ:=hZ.cmp l4 [16] (fun _ h=>h.elim) rfl
  refine AN [(45,[18])] hZ ?_
  refine AP (fuel:=4) [] [(43,true)] rfl ?_
  refine Cq rfl rfl rfl ?_
  refine AC ?_
  refine AD (i:=44) rfl ?_
  replace iA:=((iA.st j4).st k4).st l4
  refine AQ 17 mV (xs:=([(⟨fA,0,r8,iG⟩:Opr)]:List Opr)) rfl rfl rfl ⟨(Vb.ofAgg (cs:=[(.string fA),(.int .i64 0),(.slice qG r8.length rG),(.slice nV iG.length oV)]) (x:=(⟨fA,0,r8,iG⟩:Opr)) rfl ⟨_,_,rfl,iA,lL,(iI64 0),(GP bK)⟩),trivial⟩ fun g554 w555 O556 x4 pV=>?_
  have hZ:=lZ x4
  refine AN [(45,[18])] hZ ?_
  refine AD (i:=45) rfl ?_
  obtain ⟨kG,qV,rV⟩:=AI kG
  replace w6:=((((((((w6.st t4).st u4).st w4).st i4).st a5).st j4).st k4).st l4).st x4
  refine AZ rfl w6 (pV.rd) rfl rfl qV rV fun uG vG w564 mL b5 rC=>?_
  rw [← kG] at rC ⊢
  have hZ:=b5.lst [18] (fun _ h=>by cases h;decide)
  refine AN [] hZ ?_
  refine AP (fuel:=1) [] [(46,true)] rfl ?_
  refine AT rfl rfl (AC ?_)
  refine AD (i:=47) rfl ?_
  replace b0:=(((((b0.st a5).st j4).st k4).st l4).st x4).st b5
  refine Az b0 rfl rfl rfl (AJ) (allOne) fun sV e5 b0=>?_
  replace b0:Lc 6 sV mL r0 31 [(.slice s0 a0.vars.length t0),(.slice u0 v2.length v0),(.slice none 0 0),(.slice uG jG.length vG)]:=b0
  refine BF ?_
  refine Bv ?_
  refine Ab (Aa ?_)
  replace p0:=((((((p0.st a5).st j4).st k4).st l4).st x4).st b5).st e5
  refine Bd (hl:=rfl) (hc:=(p0.1).cellsAt) rfl ?_
  refine Ax rfl ?_
  replace h4:=((((((h4.st a5).st j4).st k4).st l4).st x4).st b5).st e5
  refine At (hc:=Blk.cell (i:=4) (h4.1) rfl) rfl ?_
  refine Ax rfl (At (hc:=Blk.cell (i:=6) (h4.1) rfl) rfl ?_)
  obtain ⟨k5,tV,i0⟩:=bs i0
  replace a1:=((((((a1.st a5).st j4).st k4).st l4).st x4).st b5).st e5
  replace y1:=((((((y1.st a5).st j4).st k4).st l4).st x4).st b5).st e5
  replace e2:=(((((((e2.st i4).st a5).st j4).st k4).st l4).st x4).st b5).st e5
  replace u2:=(((((((u2.st i4).st a5).st j4).st k4).st l4).st x4).st b5).st e5
  replace z1:=(((((((z1.st i4).st a5).st j4).st k4).st l4).st x4).st b5).st e5
  replace e9:=((((((((((e9.st t4).st u4).st w4).st i4).st a5).st j4).st k4).st l4).st x4).st b5).st e5
  replace g9:=((((((((((g9.st t4).st u4).st w4).st i4).st a5).st j4).st k4).st l4).st x4).st b5).st e5
  refine GV (O:=mL) (R:=fun w' F v=>T2 w' F v k5) (Jz Fr.lt (Vb.ofAgg (cs:=[(.slice p6 a0.state.length q6),(.slice j6 a0.flag.length k6),(.slice r6 a0.write.length s6),(.slice t6 a0.read.length u6),(.int .i64 a0.phase),(.slice h6 a0.vars.length i6)]) (x:=a0) rfl ⟨_,_,_,_,_,rfl,a1,y1,e2,u2,z1,z9⟩) e9 g9 tV) rfl rfl fun v577 w573 uV c5 vV=>?_
  obtain ⟨v578,v579,rfl,sC,tC⟩:=vV
  obtain ⟨nL,oL,rfl⟩:=sC.form
  obtain ⟨pL,qL,rfl⟩:=tC.form
  refine Ak rfl (DU rfl rfl (DU rfl rfl (Am rfl (Am rfl (o_z ?_)))))
  obtain ⟨u5,wV,i0⟩:=bs i0
  obtain ⟨w5,rL,i0⟩:=bs i0
  obtain ⟨x5,xV,i0⟩:=bs i0
  obtain ⟨y5,yV,i0⟩:=bs i0
  obtain ⟨jA,sL,i0⟩:=bs i0
  obtain ⟨bA,zV,i0⟩:=bs i0
  obtain ⟨s8,aW,i0⟩:=bs i0
  obtain ⟨q600,bW,i0⟩:=bs i0
  obtain ⟨wG,cW,i0⟩:=bs i0
  obtain ⟨dW,xG,i0⟩:=bs i0
  refine Br [(42,[23]),(43,[24]),(46,[18])] uV ?_
  refine AP (fuel:=13) [18,23,24] [(0,true),(1,true),(2,true),(3,true),(5,true),(6,true),(7,true),(8,true),(9,true),(10,true),(13,true),(14,true),(17,true),(18,true),(19,true),(23,true),(25,true),(26,true),(27,true),(28,true),(29,true),(33,true),(34,true),(35,true),(40,true),(11,true),(12,true),(15,true),(16,true),(30,true),(31,true),(32,true),(36,true),(37,true),(38,true),(4,true)] rfl ?_
  refine AT rfl rfl ?_
  replace b0:=b0.st c5
  refine AV (hc:=bCell b0 3 rfl) rfl rfl ?_
  refine AT rfl rfl ?_
  replace h4:=h4.st c5
  refine AV (hc:=bCell h4 0 rfl) rfl rfl ?_
  refine AT rfl rfl (AV (hc:=bCell h4 4 rfl) rfl rfl ?_)
  refine AX rfl rfl (AT rfl rfl ?_)
  replace p0:=p0.st c5
  refine AV (hc:=bCell p0 0 rfl) rfl rfl ?_
  refine AX rfl rfl (AT rfl rfl (AV (hc:=bCell h4 1 rfl) rfl rfl ?_))
  refine AT rfl rfl (AV (hc:=bCell p0 4 rfl) rfl rfl ?_)
  refine Cq rfl rfl rfl ?_
  refine AX rfl rfl (AT rfl rfl (AV (hc:=bCell h4 6 rfl) rfl rfl ?_))
  refine AT rfl rfl (AV (hc:=bCell p0 0 rfl) rfl rfl ?_)
  refine AX rfl rfl (AT rfl rfl (AV (hc:=bCell p0 1 rfl) rfl rfl ?_))
  refine AX rfl rfl (AX rfl rfl ?_)
  replace a1:=a1.st c5
  obtain ⟨b606,o607,oZ,tL,uL,vL,wL,rfl,eW⟩:=a1.elem wV
  refine CK (hA:=tL) (hj:=rfl) (hlt:=vL) rfl rfl rfl ?_
  refine AV (hc:=fun w' ⟨O',hq⟩=>cat0 (Bp (hq.agree (i:=0) (by decide)) uL wL)) rfl rfl ?_
  have fW:=(Bq rL)
  refine Hp (he:=rL) rfl rfl rfl ?_
  refine Cq rfl rfl rfl ?_
  obtain ⟨b615,o616,pZ,xL,yL,zL,aM,rfl,gW⟩:=a1.elem xV
  refine CK (hA:=xL) (hj:=rfl) (hlt:=zL) rfl rfl rfl ?_
  refine AV (hc:=fun w' ⟨O',hq⟩=>cat0 (Bp (hq.agree (i:=0) (by decide)) yL aM)) rfl rfl ?_
  refine Cq rfl rfl rfl ?_
  replace y1:=y1.st c5
  obtain ⟨b623,o624,qZ,bM,cM,dM,eM,rfl,hW⟩:=y1.elem yV
  refine CK (hA:=bM) (hj:=rfl) (hlt:=dM) rfl rfl rfl ?_
  refine AV (hc:=fun w' ⟨O',hq⟩=>cat0 (Bp (hq.agree (i:=0) (by decide)) cM eM)) rfl rfl ?_
  refine Cq rfl rfl rfl ?_
  refine Hq (he:=sL) rfl rfl rfl ?_
  refine AC ?_
  refine GX (l0:=[(1,(.pointer (some ⟨u7,0,none⟩))),(2,(.pointer (some ⟨n5,0,none⟩))),(3,(.pointer (some ⟨p5,0,none⟩))),(4,(.int .i64 (a0.vars.length:Int))),(5,(.pointer (some ⟨r0,0,none⟩))),(6,(.slice dA bC.length eA)),(44,(.slice n6 x0.jobs.length o6)),(45,(.int .i64 (x0.jobs.length:Int))),(46,(.int .i64 (b9:Int))),(126,(.slice uG jG.length vG)),(129,(.string jA)),(131,(.slice zF k0.fin.length aG)),(132,(.slice nL k5.1.length oL)),(141,(.agg #[(.int .i64 u5),(.int .i64 w5)])),(144,(.agg #[(.int .i64 a0.phase),(.int .i64 0)])),(148,(.int .i64 (a0.vars.length:Int))),(151,(.slice dG k0.atEnd.length eG)),(157,(.agg #[(.int .i64 x5),(.int .i64 0)])),(163,(.agg #[(.int .i64 y5),(.int .i64 1)])),(165,(.slice pL k5.2.length qL))]) (zs:=[⟨20,145,fun v w O=>∃ (uC:Option Addr),∃ (vC:Nat),v=(.slice uC ([(⟨u5,w5⟩:Fct),(⟨a0.phase,0⟩:Fct)]:List Fct).length vC)∧Vb w (Fr 0 w O) (.slice uC ([(⟨u5,w5⟩:Fct),(⟨a0.phase,0⟩:Fct)]:List Fct).length vC) ([(⟨u5,w5⟩:Fct),(⟨a0.phase,0⟩:Fct)]:List Fct)⟩,⟨21,146,fun v w O=>∃ (wC:Option Addr),∃ (xC:Nat),v=(.slice wC ([k0.fin,k5.1,([(⟨u5,w5⟩:Fct),(⟨a0.phase,0⟩:Fct)]:List Fct)]:List (List Fct)).length xC)∧Vb w (Fr 0 w O) (.slice wC ([k0.fin,k5.1,([(⟨u5,w5⟩:Fct),(⟨a0.phase,0⟩:Fct)]:List Fct)]:List (List Fct)).length xC) ([k0.fin,k5.1,([(⟨u5,w5⟩:Fct),(⟨a0.phase,0⟩:Fct)]:List Fct)]:List (List Fct))⟩,⟨22,147,fun v w O=>∃ (yC:Option Addr),∃ (zC:Nat),v=(.slice yC bA.length zC)∧Vb w (Fr 0 w O) (.slice yC bA.length zC) bA⟩,⟨24,149,fun v w O=>∃ (aD:Option Addr),∃ (bD:Nat),v=(.slice aD s8.length bD)∧Vb w (Fr 0 w O) (.slice aD s8.length bD) s8⟩,⟨39,164,fun v w O=>∃ (cD:Option Addr),∃ (dD:Nat),v=(.slice cD ([(⟨x5,0⟩:Fct),(⟨y5,1⟩:Fct)]:List Fct).length dD)∧Vb w (Fr 0 w O) (.slice cD ([(⟨x5,0⟩:Fct),(⟨y5,1⟩:Fct)]:List Fct).length dD) ([(⟨x5,0⟩:Fct),(⟨y5,1⟩:Fct)]:List Fct)⟩,⟨41,166,fun v w O=>∃ (eD:Option Addr),∃ (fD:Nat),v=(.slice eD ([k0.atEnd,([(⟨x5,0⟩:Fct),(⟨y5,1⟩:Fct)]:List Fct),k5.2]:List (List Fct)).length fD)∧Vb w (Fr 0 w O) (.slice eD ([k0.atEnd,([(⟨x5,0⟩:Fct),(⟨y5,1⟩:Fct)]:List Fct),k5.2]:List (List Fct)).length fD) ([k0.atEnd,([(⟨x5,0⟩:Fct),(⟨y5,1⟩:Fct)]:List Fct),k5.2]:List (List Fct))⟩]) #[true,true,true,true,true,true,true,true,true,true,true,true,true,true,true,true,true,true,true,true,true,true,true,true,true,true,true,true,true,true,true,true,true,true,true,true,true,true,true,true,true,true,false,false,false,false,false,false,false] 7 [(42,[23]),(43,[24]),(46,[18])] ⟨rfl,rfl,rfl,rfl,rfl,rfl,rfl,rfl,rfl,rfl,rfl,rfl,rfl,rfl,rfl,rfl,rfl,rfl,rfl,rfl,trivial⟩ ⟨⟨fun _ _ _ _ _ ⟨uC,vC,e,iW⟩ hS=>⟨uC,vC,e,iW.st hS id⟩,?_⟩,⟨fun _ _ _ _ _ ⟨wC,xC,e,jW⟩ hS=>⟨wC,xC,e,jW.st hS id⟩,?_⟩,⟨fun _ _ _ _ _ ⟨yC,zC,e,kW⟩ hS=>⟨yC,zC,e,kW.st hS id⟩,?_⟩,⟨fun _ _ _ _ _ ⟨aD,bD,e,lW⟩ hS=>⟨aD,bD,e,lW.st hS id⟩,?_⟩,⟨fun _ _ _ _ _ ⟨cD,dD,e,mW⟩ hS=>⟨cD,dD,e,mW.st hS id⟩,?_⟩,⟨fun _ _ _ _ _ ⟨eD,fD,e,nW⟩ hS=>⟨eD,fD,e,nW.st hS id⟩,?_⟩,trivial⟩ ?_ rfl
  ·
   refine ⟨_,rfl,fun l649 w650 oW S652 vD hD654=>?_⟩
   refine ⟨[(141,(.agg #[(.int .i64 u5),(.int .i64 w5)])),(144,(.agg #[(.int .i64 a0.phase),(.int .i64 0)]))],⟨Ar vD 141 _ rfl,Ar vD 144 _ rfl,trivial⟩,fun Q655 hQ656=>?_⟩
   refine CT oW (xs:=([(⟨u5,w5⟩:Fct),(⟨a0.phase,0⟩:Fct)]:List Fct)) rfl rfl rfl ⟨(Vb.ofAgg (cs:=[(.int .i64 u5),(.int .i64 w5)]) (x:=(⟨u5,w5⟩:Fct)) rfl ⟨rfl,eW,fW⟩),(Vb.ofAgg (cs:=[(.int .i64 a0.phase),(.int .i64 0)]) (x:=(⟨a0.phase,0⟩:Fct)) rfl ⟨rfl,z9,(iI64 0)⟩),trivial⟩ fun g657 w658 O659 pW qW=>?_
   refine Bo (hQ656 _ _ ⟨_,_,rfl,pW,⟨_,_,rfl,qW⟩⟩)
  ·
   refine ⟨_,rfl,fun l671 fM gM hM wD hD676=>?_⟩
   obtain ⟨_,rW,iM,jM,rfl,yG⟩:=hD676.at 0 rfl (by kernel_rfl)
   replace yG:Vb fM (Fr 0 fM gM) (.slice iM ([(⟨u5,w5⟩:Fct),(⟨a0.phase,0⟩:Fct)]:List Fct).length jM) ([(⟨u5,w5⟩:Fct),(⟨a0.phase,0⟩:Fct)]:List Fct):=yG
   refine ⟨[(131,(.slice zF k0.fin.length aG)),(132,(.slice nL k5.1.length oL)),(145,(.slice iM ([(⟨u5,w5⟩:Fct),(⟨a0.phase,0⟩:Fct)]:List Fct).length jM))],⟨Ar wD 131 _ rfl,Ar wD 132 _ rfl,rW,trivial⟩,fun Q677 hQ678=>?_⟩
   replace e9:=(e9.st c5).st hM
   replace sC:=sC.st hM
   refine CT gM (xs:=([k0.fin,k5.1,([(⟨u5,w5⟩:Fct),(⟨a0.phase,0⟩:Fct)]:List Fct)]:List (List Fct))) rfl rfl rfl ⟨e9,sC,yG,trivial⟩ fun g683 w684 O685 sW tW=>?_
   refine Bo (hQ678 _ _ ⟨_,_,rfl,sW,⟨_,_,rfl,tW⟩⟩)
  ·
   refine ⟨_,rfl,fun l697 kM lM S700 rZ hD702=>?_⟩
   obtain ⟨_,uW,mM,nM,rfl,zG⟩:=hD702.at 1 rfl (by kernel_rfl)
   replace zG:Vb kM (Fr 0 kM lM) (.slice mM ([k0.fin,k5.1,([(⟨u5,w5⟩:Fct),(⟨a0.phase,0⟩:Fct)]:List Fct)]:List (List Fct)).length nM) ([k0.fin,k5.1,([(⟨u5,w5⟩:Fct),(⟨a0.phase,0⟩:Fct)]:List Fct)]:List (List Fct)):=zG
   refine ⟨[(146,(.slice mM ([k0.fin,k5.1,([(⟨u5,w5⟩:Fct),(⟨a0.phase,0⟩:Fct)]:List Fct)]:List (List Fct)).length nM))],⟨uW,trivial⟩,fun Q703 hQ704=>?_⟩
   refine LP (O:=lM) (Fb Fr.lt zG zV) rfl rfl fun A714 c715 w709 O710 vW wW=>?_
   refine Bo (hQ704 _ _ ⟨_,_,rfl,vW,⟨_,_,rfl,wW⟩⟩)
  ·
   refine ⟨_,rfl,fun l725 oM pM S728 qM hD730=>?_⟩
   obtain ⟨_,xW,rM,sM,rfl,aH⟩:=hD730.at 2 rfl (by kernel_rfl)
   replace aH:Vb oM (Fr 0 oM pM) (.slice rM bA.length sM) bA:=aH
   refine ⟨[(147,(.slice rM bA.length sM)),(148,(.int .i64 (a0.vars.length:Int)))],⟨xW,Ar qM 148 _ rfl,trivial⟩,fun Q731 hQ732=>?_⟩
   refine Cc (O:=pM) (En Fr.lt aH lJ aW) rfl fun v741 w737 O738 yW tM=>?_
   obtain ⟨A742,c743,rfl⟩:=tM.form
   refine Bo (hQ732 _ _ ⟨_,_,rfl,yW,⟨_,_,rfl,tM⟩⟩)
  ·
   refine ⟨_,rfl,fun l753 w754 zW S756 xD hD758=>?_⟩
   refine ⟨[(157,(.agg #[(.int .i64 x5),(.int .i64 0)])),(163,(.agg #[(.int .i64 y5),(.int .i64 1)]))],⟨Ar xD 157 _ rfl,Ar xD 163 _ rfl,trivial⟩,fun Q759 hQ760=>?_⟩
   refine CT zW (xs:=([(⟨x5,0⟩:Fct),(⟨y5,1⟩:Fct)]:List Fct)) rfl rfl rfl ⟨(Vb.ofAgg (cs:=[(.int .i64 x5),(.int .i64 0)]) (x:=(⟨x5,0⟩:Fct)) rfl ⟨rfl,gW,(iI64 0)⟩),(Vb.ofAgg (cs:=[(.int .i64 y5),(.int .i64 1)]) (x:=(⟨y5,1⟩:Fct)) rfl ⟨rfl,hW,(iI64 1)⟩),trivial⟩ fun g761 w762 O763 aX bX=>?_
   refine Bo (hQ760 _ _ ⟨_,_,rfl,aX,⟨_,_,rfl,bX⟩⟩)
  ·
   refine ⟨_,rfl,fun l775 uM vM wM yD hD780=>?_⟩
   obtain ⟨_,cX,xM,yM,rfl,bH⟩:=hD780.at 4 rfl (by kernel_rfl)
   replace bH:Vb uM (Fr 0 uM vM) (.slice xM ([(⟨x5,0⟩:Fct),(⟨y5,1⟩:Fct)]:List Fct).length yM) ([(⟨x5,0⟩:Fct),(⟨y5,1⟩:Fct)]:List Fct):=bH
   refine ⟨[(151,(.slice dG k0.atEnd.length eG)),(164,(.slice xM ([(⟨x5,0⟩:Fct),(⟨y5,1⟩:Fct)]:List Fct).length yM)),(165,(.slice pL k5.2.length qL))],⟨Ar yD 151 _ rfl,cX,Ar yD 165 _ rfl,trivial⟩,fun Q781 hQ782=>?_⟩
   replace g9:=(g9.st c5).st wM
   replace tC:=tC.st wM
   refine CT vM (xs:=([k0.atEnd,([(⟨x5,0⟩:Fct),(⟨y5,1⟩:Fct)]:List Fct),k5.2]:List (List Fct))) rfl rfl rfl ⟨g9,bH,tC,trivial⟩ fun g787 w788 O789 dX eX=>?_
   refine Bo (hQ782 _ _ ⟨_,_,rfl,dX,⟨_,_,rfl,eX⟩⟩)
  intro l801 gD cH z5 b6 hD806
  obtain ⟨_,fX,dH,eH,rfl,kA⟩:=hD806.at 3 rfl rfl
  replace kA:Vb gD (Fr 0 gD cH) (.slice dH s8.length eH) s8:=kA
  obtain ⟨_,gX,zM,aN,rfl,fH⟩:=hD806.at 5 rfl rfl
  replace fH:Vb gD (Fr 0 gD cH) (.slice zM ([k0.atEnd,([(⟨x5,0⟩:Fct),(⟨y5,1⟩:Fct)]:List Fct),k5.2]:List (List Fct)).length aN) ([k0.atEnd,([(⟨x5,0⟩:Fct),(⟨y5,1⟩:Fct)]:List Fct),k5.2]:List (List Fct)):=fH
  refine GW [(1,(.pointer (some ⟨u7,0,none⟩))),(2,(.pointer (some ⟨n5,0,none⟩))),(3,(.pointer (some ⟨p5,0,none⟩))),(4,(.int .i64 (a0.vars.length:Int))),(5,(.pointer (some ⟨r0,0,none⟩))),(6,(.slice dA bC.length eA)),(44,(.slice n6 x0.jobs.length o6)),(45,(.int .i64 (x0.jobs.length:Int))),(46,(.int .i64 (b9:Int))),(126,(.slice uG jG.length vG)),(129,(.string jA)),(149,(.slice dH s8.length eH)),(166,(.slice zM ([k0.atEnd,([(⟨x5,0⟩:Fct),(⟨y5,1⟩:Fct)]:List Fct),k5.2]:List (List Fct)).length aN))] ⟨Ar b6 1 _ rfl,Ar b6 2 _ rfl,Ar b6 3 _ rfl,Ar b6 4 _ rfl,Ar b6 5 _ rfl,Ar b6 6 _ rfl,Ar b6 44 _ rfl,Ar b6 45 _ rfl,Ar b6 46 _ rfl,Ar b6 126 _ rfl,Ar b6 129 _ rfl,fX,gX,trivial⟩ ?_
  refine AD (i:=42) rfl ?_
  refine CZ 24 (O:=cH) (Fb Fr.lt fH bW) rfl fun A820 c821 w815 O816 f5 gH=>?_
  have hZ:=lZ f5
  refine AN [(43,[24]),(46,[18])] hZ ?_
  refine AD (i:=43) rfl ?_
  obtain ⟨hX,g5,gH⟩:=gH.freeze
  have hZ:=g5.lst [24] (fun _ h=>by cases h;decide)
  refine Cc (O:=hX) (ED Fr.lt gH cW) rfl fun v829 w825 iX h5 bN=>?_
  obtain ⟨jX,kX,rfl⟩:=bN.form
  replace hZ:=hZ.cmp h5 [24] (fun _ h=>h.elim) rfl
  refine AN [(46,[18])] hZ ?_
  refine AP (fuel:=4) [] [(44,true)] rfl ?_
  refine Cq rfl rfl rfl ?_
  refine AC ?_
  refine AD (i:=45) rfl ?_
  replace kA:=((kA.st f5).st g5).st h5
  refine AQ 25 iX (xs:=([(⟨jA,0,s8,wG⟩:Opr)]:List Opr)) rfl rfl rfl ⟨(Vb.ofAgg (cs:=[(.string jA),(.int .i64 0),(.slice dH s8.length eH),(.slice jX wG.length kX)]) (x:=(⟨jA,0,s8,wG⟩:Opr)) rfl ⟨_,_,rfl,kA,bN,(iI64 0),(GP sL)⟩),trivial⟩ fun g832 w833 O834 l5 lX=>?_
  have hZ:=lZ l5
  refine AN [(46,[18])] hZ ?_
  refine AD (i:=46) rfl ?_
  obtain ⟨xG,mX,nX⟩:=AI xG
  replace rC:=((((((rC.st e5).st c5).st z5).st f5).st g5).st h5).st l5
  refine AZ rfl rC (lX.rd) rfl rfl mX nX fun cN dN w842 oX a6 eN=>?_
  rw [← xG] at eN ⊢
  have hZ:=a6.lst [18] (fun _ h=>by cases h;decide)
  refine AN [] hZ ?_
  refine AP (fuel:=1) [] [(47,true)] rfl ?_
  refine AT rfl rfl (AC ?_)
  refine AD (i:=48) rfl ?_
  replace b0:=(((((b0.st z5).st f5).st g5).st h5).st l5).st a6
  refine Az b0 rfl rfl rfl (AJ) (allOne) fun pX c6 b0=>?_
  replace b0:Lc 6 pX oX r0 31 [(.slice s0 a0.vars.length t0),(.slice u0 v2.length v0),(.slice none 0 0),(.slice cN dW.length dN)]:=b0
  refine BF ?_
  refine Bv ?_
  obtain rfl:=sm i0
  exact show Exists _ from ⟨_,((dA,eA),(cN,dN)),rfl,⟨rfl,rfl,rfl,rfl,rfl,rfl,rfl,rfl,rfl,trivial⟩,_,((((((((((((((((((hB.st t4).st u4).st w4).st i4).st a5).st j4).st k4).st l4).st x4).st b5).st e5).st c5).st z5).st f5).st g5).st h5).st l5).st a6).st c6,((((((((((((((((((s3.st t4).st u4).st w4).st i4).st a5).st j4).st k4).st l4).st x4).st b5).st e5).st c5).st z5).st f5).st g5).st h5).st l5).st a6).st c6,((((((((((((((((((h7.st t4).st u4).st w4).st i4).st a5).st j4).st k4).st l4).st x4).st b5).st e5).st c5).st z5).st f5).st g5).st h5).st l5).st a6).st c6,((((((((((((((((((a4.st t4).st u4).st w4).st i4).st a5).st j4).st k4).st l4).st x4).st b5).st e5).st c5).st z5).st f5).st g5).st h5).st l5).st a6).st c6,((((((((((((((((((b4.st t4).st u4).st w4).st i4).st a5).st j4).st k4).st l4).st x4).st b5).st e5).st c5).st z5).st f5).st g5).st h5).st l5).st a6).st c6,((((((((((((((((((t3.st t4).st u4).st w4).st i4).st a5).st j4).st k4).st l4).st x4).st b5).st e5).st c5).st z5).st f5).st g5).st h5).st l5).st a6).st c6,((((((((((((((((((j1.st t4).st u4).st w4).st i4).st a5).st j4).st k4).st l4).st x4).st b5).st e5).st c5).st z5).st f5).st g5).st h5).st l5).st a6).st c6,((((((p0.st z5).st f5).st g5).st h5).st l5).st a6).st c6,((((((a1.st z5).st f5).st g5).st h5).st l5).st a6).st c6,((((((y1.st z5).st f5).st g5).st h5).st l5).st a6).st c6,(((((((e2.st c5).st z5).st f5).st g5).st h5).st l5).st a6).st c6,(((((((u2.st c5).st z5).st f5).st g5).st h5).st l5).st a6).st c6,(((((((z1.st c5).st z5).st f5).st g5).st h5).st l5).st a6).st c6,b0,((((((((((((((((((h0.st t4).st u4).st w4).st i4).st a5).st j4).st k4).st l4).st x4).st b5).st e5).st c5).st z5).st f5).st g5).st h5).st l5).st a6).st c6,((((((((((((((((((e0.st t4).st u4).st w4).st i4).st a5).st j4).st k4).st l4).st x4).st b5).st e5).st c5).st z5).st f5).st g5).st h5).st l5).st a6).st c6,eN.st c6,(((((((((((((((wJ.st i4).st a5).st j4).st k4).st l4).st x4).st b5).st e5).st c5).st z5).st f5).st g5).st h5).st l5).st a6).st c6⟩
 replace hB:=((((((((((((hB.st kJ).st rF).st zB).st o8).st p8).st z4).st f4).st u3).st o3).st p3).st l3).st m3).st n3
 replace h7:=((((((((((h7.st zB).st o8).st p8).st z4).st f4).st u3).st o3).st p3).st l3).st m3).st n3
 replace a4:=(((((a4.st u3).st o3).st p3).st l3).st m3).st n3
 replace b4:=((b4.st l3).st m3).st n3
 replace j1:=((((((((((j1.st zB).st o8).st p8).st z4).st f4).st u3).st o3).st p3).st l3).st m3).st n3
 replace a1:=(((((((((a1.st o8).st p8).st z4).st f4).st u3).st o3).st p3).st l3).st m3).st n3
 replace y1:=(((((((((y1.st o8).st p8).st z4).st f4).st u3).st o3).st p3).st l3).st m3).st n3
 replace e2:=(((((((((e2.st o8).st p8).st z4).st f4).st u3).st o3).st p3).st l3).st m3).st n3
 replace u2:=(((((((((u2.st o8).st p8).st z4).st f4).st u3).st o3).st p3).st l3).st m3).st n3
 replace z1:=(((((((z1.st z4).st f4).st u3).st o3).st p3).st l3).st m3).st n3
 replace p0:=((((p0.st o3).st p3).st l3).st m3).st n3
 replace b0:=(((((b0.st u3).st o3).st p3).st l3).st m3).st n3
 replace h0:=((((((h0.st f4).st u3).st o3).st p3).st l3).st m3).st n3
 replace e0:=((((e0.st o3).st p3).st l3).st m3).st n3
 rintro l849 w850 ⟨h9,y7,rfl,fN,O851,hB,s3,h7,a4,b4,t3,j1,p0,a1,y1,e2,u2,z1,b0,h0,e0,w6,q8⟩
 replace hm:=AR hm
 refine AH _ fN ?_
 refine Ab (Aa (Ak rfl (Ak rfl ?_)))
 obtain ⟨qX,a3,q8⟩:=q8.freeze
 obtain ⟨q0,rX,hm⟩:=bs hm
 refine Cc (O:=qX) (En Fr.lt q8 lJ rX) rfl fun v863 w859 hH b3 o0=>?_
 obtain ⟨r2,s2,rfl⟩:=o0.form
 refine Ax rfl ?_
 replace b0:=(b0.st a3).st b3
 refine Az b0 rfl rfl rfl (AJ) (allOne) fun sX t2 b0=>?_
 replace b0:Lc 6 sX hH r0 31 [(.slice s0 a0.vars.length t0),(.slice u0 v2.length v0),(.slice r2 q0.length s2),(.slice y7.2.1 h9.2.length y7.2.2)]:=b0
 refine o_z ?_
 refine Ab (Ab (Aa (Ax rfl ?_)))
 replace s3:=((s3.st a3).st b3).st t2
 refine At (hc:=Blk.cell (i:=3) (s3.1) rfl) rfl ?_
 refine AS rfl ?_
 replace t3:=((t3.st a3).st b3).st t2
 have tX:x0.jobs.length≤9223372036854775807:=Nat.le_trans t3.len.2.1 t3.len.2.2
 have r868:inI64 (x0.jobs.length:Int):=rngNat tX
 refine GU rfl rfl (fun iH=>?_) fun iH=>?_
 ·
  replace hm:=ip hm iH
  refine o_z ?_
  refine Ah rfl (Ab (Aa (Bd (hl:=rfl) (hc:=(b0.1).cellsAt) rfl ?_)))
  replace j1:=((j1.st a3).st b3).st t2
  refine Az j1 rfl rfl rfl (AJ) (allOne) fun gN lA j1=>?_
  replace j1:Lc 3 gN hH n5 31 [(.slice s0 a0.vars.length t0),(.slice u0 v2.length v0),(.slice r2 q0.length s2),(.slice y7.2.1 h9.2.length y7.2.2)]:=j1
  refine o_z ?_
  refine AF ?_
  replace e0:=(((e0.st a3).st b3).st t2).st lA
  obtain ⟨O873,mA,e0⟩:=e0.freeze
  replace w6:=((((w6.st a3).st b3).st t2).st lA).st mA
  obtain ⟨uX,nA,w6⟩:=w6.freeze
  obtain rfl:=sm hm
  replace hB:=(((((hB.st a3).st b3).st t2).st lA).st mA).st nA
  replace j1:=(j1.st mA).st nA
  replace h0:=(((((h0.st a3).st b3).st t2).st lA).st mA).st nA
  replace e0:=e0.st nA
  replace o0:=(((o0.st t2).st lA).st mA).st nA
  exact ret1v rfl (Er (cs:=[(.slice s0 a0.vars.length t0),(.slice u0 v2.length v0),(.slice r2 q0.length s2),(.slice y7.2.1 h9.2.length y7.2.2)]) rfl rfl j1.1.cellsAt) ⟨hB.ext,(Vb.mono (F:=Fr 0 gN uX) (Vb.ofAgg (cs:=[(.slice s0 a0.vars.length t0),(.slice u0 v2.length v0),(.slice r2 q0.length s2),(.slice y7.2.1 h9.2.length y7.2.2)]) (x:=(⟨a0.vars,(cpyL v2 x0.init),q0,h9.2⟩:Tsk)) rfl ⟨_,_,_,_,rfl,h0,e0,o0,w6⟩) hB.out)⟩
 replace hm:=im hm iH
 refine o_z ?_
 refine Ae rfl (AO (Ab ?_))
 obtain ⟨t8,vX,hm⟩:=bs hm
 obtain ⟨wX,jH,hm⟩:=bs hm
 refine Br [(12,[26]),(13,[18])] hH ?_
 refine AP (fuel:=8) [18,26] [(0,true),(1,true),(2,true),(3,true),(4,true),(6,true),(7,true),(8,true)] rfl ?_
 refine AT rfl rfl (AV (hc:=bCell b0 3 rfl) rfl rfl ?_)
 refine AT rfl rfl ?_
 replace p0:=((p0.st a3).st b3).st t2
 refine AV (hc:=bCell p0 4 rfl) rfl rfl ?_
 refine Cq rfl rfl rfl ?_
 refine AT rfl rfl (AV (hc:=bCell p0 4 rfl) rfl rfl ?_)
 refine Cq rfl rfl rfl ?_
 refine AC ?_
 refine GX (l0:=[(1,(.pointer (some ⟨u7,0,none⟩))),(2,(.pointer (some ⟨n5,0,none⟩))),(3,(.pointer (some ⟨p5,0,none⟩))),(4,(.int .i64 (a0.vars.length:Int))),(5,(.pointer (some ⟨r0,0,none⟩))),(184,(.slice y7.2.1 h9.2.length y7.2.2)),(187,(.agg #[(.int .i64 a0.phase),(.int .i64 0)])),(191,(.agg #[(.int .i64 a0.phase),(.int .i64 1)]))]) (zs:=[⟨5,188,fun v w O=>∃ (hD:Option Addr),∃ (iD:Nat),v=(.slice hD ([(⟨a0.phase,0⟩:Fct)]:List Fct).length iD)∧Vb w (Fr 0 w O) (.slice hD ([(⟨a0.phase,0⟩:Fct)]:List Fct).length iD) ([(⟨a0.phase,0⟩:Fct)]:List Fct)⟩,⟨9,192,fun v w O=>∃ (jD:Option Addr),∃ (kD:Nat),v=(.slice jD ([(⟨a0.phase,1⟩:Fct)]:List Fct).length kD)∧Vb w (Fr 0 w O) (.slice jD ([(⟨a0.phase,1⟩:Fct)]:List Fct).length kD) ([(⟨a0.phase,1⟩:Fct)]:List Fct)⟩,⟨10,193,fun v w O=>∃ (lD:Option Addr),∃ (mD:Nat),v=(.slice lD t8.length mD)∧Vb w (Fr 0 w O) (.slice lD t8.length mD) t8⟩]) #[true,true,true,true,true,true,true,true,true,true,true,false,false,false,false,false] 5 [(12,[26]),(13,[18])] ⟨rfl,rfl,rfl,rfl,rfl,rfl,rfl,rfl,trivial⟩ ⟨⟨fun _ _ _ _ _ ⟨hD,iD,e,xX⟩ hS=>⟨hD,iD,e,xX.st hS id⟩,?_⟩,⟨fun _ _ _ _ _ ⟨jD,kD,e,yX⟩ hS=>⟨jD,kD,e,yX.st hS id⟩,?_⟩,⟨fun _ _ _ _ _ ⟨lD,mD,e,zX⟩ hS=>⟨lD,mD,e,zX.st hS id⟩,?_⟩,trivial⟩ ?_ rfl
 ·
  refine ⟨_,rfl,fun l890 w891 aY S893 hN hD895=>?_⟩
  refine ⟨[(187,(.agg #[(.int .i64 a0.phase),(.int .i64 0)]))],⟨Ar hN 187 _ rfl,trivial⟩,fun Q896 hQ897=>?_⟩
  refine CT aY (xs:=([(⟨a0.phase,0⟩:Fct)]:List Fct)) rfl rfl rfl ⟨(Vb.ofAgg (cs:=[(.int .i64 a0.phase),(.int .i64 0)]) (x:=(⟨a0.phase,0⟩:Fct)) rfl ⟨rfl,z9,(iI64 0)⟩),trivial⟩ fun g898 w899 O900 bY cY=>?_
  refine Bo (hQ897 _ _ ⟨_,_,rfl,bY,⟨_,_,rfl,cY⟩⟩)
 ·
  refine ⟨_,rfl,fun l912 w913 dY S915 iN hD917=>?_⟩
  refine ⟨[(191,(.agg #[(.int .i64 a0.phase),(.int .i64 1)]))],⟨Ar iN 191 _ rfl,trivial⟩,fun Q918 hQ919=>?_⟩
  refine CT dY (xs:=([(⟨a0.phase,1⟩:Fct)]:List Fct)) rfl rfl rfl ⟨(Vb.ofAgg (cs:=[(.int .i64 a0.phase),(.int .i64 1)]) (x:=(⟨a0.phase,1⟩:Fct)) rfl ⟨rfl,z9,(iI64 1)⟩),trivial⟩ fun g920 w921 O922 eY fY=>?_
  refine Bo (hQ919 _ _ ⟨_,_,rfl,eY,⟨_,_,rfl,fY⟩⟩)
 ·
  refine ⟨_,rfl,fun l934 jN kN S937 sZ hD939=>?_⟩
  obtain ⟨_,gY,lN,mN,rfl,kH⟩:=hD939.at 1 rfl (by kernel_rfl)
  replace kH:Vb jN (Fr 0 jN kN) (.slice lN ([(⟨a0.phase,1⟩:Fct)]:List Fct).length mN) ([(⟨a0.phase,1⟩:Fct)]:List Fct):=kH
  refine ⟨[(192,(.slice lN ([(⟨a0.phase,1⟩:Fct)]:List Fct).length mN))],⟨gY,trivial⟩,fun Q940 hQ941=>?_⟩
  refine Cc (O:=kN) (ED Fr.lt kH vX) rfl fun v950 w946 O947 hY nN=>?_
  obtain ⟨A951,c952,rfl⟩:=nN.form
  refine Bo (hQ941 _ _ ⟨_,_,rfl,hY,⟨_,_,rfl,nN⟩⟩)
 intro l962 nD lH d3 i8 hD967
 obtain ⟨_,iY,mH,nH,rfl,oH⟩:=hD967.at 0 rfl rfl
 replace oH:Vb nD (Fr 0 nD lH) (.slice mH ([(⟨a0.phase,0⟩:Fct)]:List Fct).length nH) ([(⟨a0.phase,0⟩:Fct)]:List Fct):=oH
 obtain ⟨_,jY,pH,qH,rfl,rH⟩:=hD967.at 2 rfl rfl
 replace rH:Vb nD (Fr 0 nD lH) (.slice pH t8.length qH) t8:=rH
 refine GW [(1,(.pointer (some ⟨u7,0,none⟩))),(2,(.pointer (some ⟨n5,0,none⟩))),(3,(.pointer (some ⟨p5,0,none⟩))),(4,(.int .i64 (a0.vars.length:Int))),(5,(.pointer (some ⟨r0,0,none⟩))),(184,(.slice y7.2.1 h9.2.length y7.2.2)),(188,(.slice mH ([(⟨a0.phase,0⟩:Fct)]:List Fct).length nH)),(193,(.slice pH t8.length qH))] ⟨Ar i8 1 _ rfl,Ar i8 2 _ rfl,Ar i8 3 _ rfl,Ar i8 4 _ rfl,Ar i8 5 _ rfl,Ar i8 184 _ rfl,iY,jY,trivial⟩ ?_
 refine AP (fuel:=4) [] [(11,true)] rfl ?_
 refine Cq rfl rfl rfl ?_
 refine AC ?_
 refine AD (i:=12) rfl ?_
 refine AQ 28 lH (xs:=([(⟨(⟨#[116,105,99,107]⟩:ByteArray),0,([(⟨a0.phase,0⟩:Fct)]:List Fct),t8⟩:Opr)]:List Opr)) rfl rfl rfl ⟨(Vb.ofAgg (cs:=[(.string (⟨#[116,105,99,107]⟩:ByteArray)),(.int .i64 0),(.slice mH ([(⟨a0.phase,0⟩:Fct)]:List Fct).length nH),(.slice pH t8.length qH)]) (x:=(⟨(⟨#[116,105,99,107]⟩:ByteArray),0,([(⟨a0.phase,0⟩:Fct)]:List Fct),t8⟩:Opr)) rfl ⟨_,_,rfl,oH,rH,(iI64 0),(show (⟨#[116,105,99,107]⟩:ByteArray).size≤9223372036854775807 from by decide)⟩),trivial⟩ fun g976 w977 O978 c3 kY=>?_
 have hZ:=lZ c3
 refine AN [(13,[18])] hZ ?_
 refine AD (i:=13) rfl ?_
 obtain ⟨jH,lY,mY⟩:=AI jH
 replace w6:=((((w6.st a3).st b3).st t2).st d3).st c3
 refine AZ rfl w6 (kY.rd) rfl rfl lY mY fun oN pN w986 qN e3 oD=>?_
 rw [← jH] at oD ⊢
 have hZ:=e3.lst [18] (fun _ h=>by cases h;decide)
 refine AN [] hZ ?_
 refine AP (fuel:=1) [] [(14,true)] rfl ?_
 refine AT rfl rfl (AC ?_)
 refine AD (i:=15) rfl ?_
 replace b0:=((b0.st d3).st c3).st e3
 refine Az b0 rfl rfl rfl (AJ) (allOne) fun nY f3 b0=>?_
 replace b0:Lc 6 nY qN r0 31 [(.slice s0 a0.vars.length t0),(.slice u0 v2.length v0),(.slice r2 q0.length s2),(.slice oN wX.length pN)]:=b0
 refine BF ?_
 refine Bv ?_
 refine Ab (Ab (Aa (Ax rfl ?_)))
 replace s3:=(((s3.st d3).st c3).st e3).st f3
 refine At (hc:=Blk.cell (i:=3) (s3.1) rfl) rfl ?_
 refine AS rfl ?_
 replace t3:=(((t3.st d3).st c3).st e3).st f3
 have sH:x0.jobs.length≤9223372036854775807:=Nat.le_trans t3.len.2.1 t3.len.2.2
 have r993:inI64 (x0.jobs.length:Int):=rngNat sH
 refine Ak rfl (o_z ?_)
 obtain ⟨tH,rN,hm⟩:=bs hm
 refine Ay (aft tH (fun (c8:(List Opr)) (x6:(Option Addr×Nat))=>[(1,(.pointer (some ⟨u7,0,none⟩))),(2,(.pointer (some ⟨n5,0,none⟩))),(3,(.pointer (some ⟨p5,0,none⟩))),(5,(.pointer (some ⟨r0,0,none⟩)))]) (fun c8 x6 w'=>∃ O':Lab,Bs w A w' O'∧Lc 2 w' O' u7 26 [(.slice A8 x0.vars.length c9),(.slice e8 x0.init.length f8),(.slice g8 x0.goal.length h8),(.slice n6 x0.jobs.length o6)]∧Vb w' (Fr 0 w' O') (.slice A8 x0.vars.length c9) x0.vars∧Vb w' (Fr 0 w' O') (.slice e8 x0.init.length f8) x0.init∧Vb w' (Fr 0 w' O') (.slice g8 x0.goal.length h8) x0.goal∧Vb w' (Fr 0 w' O') (.slice n6 x0.jobs.length o6) x0.jobs∧Lc 3 w' O' n5 31 [(.slice none 0 0),(.slice none 0 0),(.slice none 0 0),(.slice none 0 0)]∧Lc 4 w' O' p5 97 [(.slice p6 a0.state.length q6),(.slice j6 a0.flag.length k6),(.slice r6 a0.write.length s6),(.slice t6 a0.read.length u6),(.int .i64 a0.phase),(.slice h6 a0.vars.length i6)]∧Vb w' (Fr 0 w' O') (.slice p6 a0.state.length q6) a0.state∧Vb w' (Fr 0 w' O') (.slice j6 a0.flag.length k6) a0.flag∧Vb w' (Fr 0 w' O') (.slice r6 a0.write.length s6) a0.write∧Vb w' (Fr 0 w' O') (.slice t6 a0.read.length u6) a0.read∧Vb w' (Fr 0 w' O') (.slice h6 a0.vars.length i6) a0.vars∧Lc 6 w' O' r0 31 [(.slice s0 a0.vars.length t0),(.slice u0 v2.length v0),(.slice r2 q0.length s2),(.slice x6.1 c8.length x6.2)]∧Vb w' (Fr 0 w' O') (.slice s0 a0.vars.length t0) a0.vars∧Rw 5 w' O' 3 (.slice u0 v2.length v0) (cpyL v2 x0.init)∧Vb w' (Fr 0 w' O') (.slice r2 q0.length s2) q0∧Rw 18 w' O' 82 (.slice x6.1 c8.length x6.2) c8)) ?_ ?_
 ·
  refine AK ?_
  replace hB:=((((((hB.st a3).st b3).st t2).st d3).st c3).st e3).st f3
  replace h7:=((((((h7.st a3).st b3).st t2).st d3).st c3).st e3).st f3
  replace a4:=((((((a4.st a3).st b3).st t2).st d3).st c3).st e3).st f3
  replace b4:=((((((b4.st a3).st b3).st t2).st d3).st c3).st e3).st f3
  replace j1:=((((((j1.st a3).st b3).st t2).st d3).st c3).st e3).st f3
  replace a1:=((((((a1.st a3).st b3).st t2).st d3).st c3).st e3).st f3
  replace y1:=((((((y1.st a3).st b3).st t2).st d3).st c3).st e3).st f3
  replace e2:=((((((e2.st a3).st b3).st t2).st d3).st c3).st e3).st f3
  replace u2:=((((((u2.st a3).st b3).st t2).st d3).st c3).st e3).st f3
  replace z1:=((((((z1.st a3).st b3).st t2).st d3).st c3).st e3).st f3
  replace p0:=(((p0.st d3).st c3).st e3).st f3
  replace h0:=((((((h0.st a3).st b3).st t2).st d3).st c3).st e3).st f3
  replace e0:=((((((e0.st a3).st b3).st t2).st d3).st c3).st e3).st f3
  replace o0:=((((o0.st t2).st d3).st c3).st e3).st f3
  replace oD:=oD.st f3
  refine AY (σ:=(List Opr)) (X:=(Option Addr×Nat)) (x0.jobs.length) rN rfl sH (fun (c8:(List Opr)) (x6:(Option Addr×Nat))=>[(1,(.pointer (some ⟨u7,0,none⟩))),(2,(.pointer (some ⟨n5,0,none⟩))),(3,(.pointer (some ⟨p5,0,none⟩))),(4,(.int .i64 (a0.vars.length:Int))),(5,(.pointer (some ⟨r0,0,none⟩))),(199,(.slice n6 x0.jobs.length o6))]) _ (fun c8 x6 w'=>∃ O':Lab,Bs w A w' O'∧Lc 2 w' O' u7 26 [(.slice A8 x0.vars.length c9),(.slice e8 x0.init.length f8),(.slice g8 x0.goal.length h8),(.slice n6 x0.jobs.length o6)]∧Vb w' (Fr 0 w' O') (.slice A8 x0.vars.length c9) x0.vars∧Vb w' (Fr 0 w' O') (.slice e8 x0.init.length f8) x0.init∧Vb w' (Fr 0 w' O') (.slice g8 x0.goal.length h8) x0.goal∧Vb w' (Fr 0 w' O') (.slice n6 x0.jobs.length o6) x0.jobs∧Lc 3 w' O' n5 31 [(.slice none 0 0),(.slice none 0 0),(.slice none 0 0),(.slice none 0 0)]∧Lc 4 w' O' p5 97 [(.slice p6 a0.state.length q6),(.slice j6 a0.flag.length k6),(.slice r6 a0.write.length s6),(.slice t6 a0.read.length u6),(.int .i64 a0.phase),(.slice h6 a0.vars.length i6)]∧Vb w' (Fr 0 w' O') (.slice p6 a0.state.length q6) a0.state∧Vb w' (Fr 0 w' O') (.slice j6 a0.flag.length k6) a0.flag∧Vb w' (Fr 0 w' O') (.slice r6 a0.write.length s6) a0.write∧Vb w' (Fr 0 w' O') (.slice t6 a0.read.length u6) a0.read∧Vb w' (Fr 0 w' O') (.slice h6 a0.vars.length i6) a0.vars∧Lc 6 w' O' r0 31 [(.slice s0 a0.vars.length t0),(.slice u0 v2.length v0),(.slice r2 q0.length s2),(.slice x6.1 c8.length x6.2)]∧Vb w' (Fr 0 w' O') (.slice s0 a0.vars.length t0) a0.vars∧Rw 5 w' O' 3 (.slice u0 v2.length v0) (cpyL v2 x0.init)∧Vb w' (Fr 0 w' O') (.slice r2 q0.length s2) q0∧Rw 18 w' O' 82 (.slice x6.1 c8.length x6.2) c8) _ (oN,pN) ⟨qN,hB,s3,h7,a4,b4,t3,j1,p0,a1,y1,e2,u2,z1,b0,h0,e0,o0,oD⟩ ⟨rfl,rfl,rfl,rfl,rfl,rfl,rfl,rfl,trivial⟩ (fun _ _=>⟨rfl,rfl⟩) (fun _ _=>⟨rfl,rfl,rfl,rfl,trivial⟩) (fun _ _ _ ⟨O',hB,s3,h7,a4,b4,t3,j1,p0,a1,y1,e2,u2,z1,b0,h0,e0,o0,w0⟩=>⟨O',hB,s3,h7,a4,b4,t3,j1,p0,a1,y1,e2,u2,z1,b0,h0,e0,o0,w0⟩) ⟨rfl,rfl,rfl⟩ ⟨rfl,rfl⟩ ?_
  rintro d8 c0 c8 x6 tZ oY oA ⟨sN,hB,s3,h7,a4,b4,t3,j1,p0,a1,y1,e2,u2,z1,b0,h0,e0,o0,w0⟩ m5 tN uN
  have rk999:inI64 (d8:Int):=rngK oA sH
  refine Ab (Aa (Ak rfl ?_))
  obtain ⟨uZ,vZ,pY,uH,vH,wH,wZ,xZ,yZ,zZ,v1025,rfl,g3,w2,h3,i3,j3,z1041,r1042⟩:=t3.elem' oA
  obtain ⟨y6,z6,rfl⟩:=g3.form
  obtain ⟨a7,b7,rfl⟩:=w2.form
  obtain ⟨c7,d7,rfl⟩:=h3.form
  obtain ⟨e7,f7,rfl⟩:=i3.form
  obtain ⟨g7,i7,rfl⟩:=j3.form
  refine Bi (hA:=uH) (hj:=rfl) (hlt:=vH) rfl rfl ?_
  refine Bd (hl:=rfl) (hc:=wH) rfl ?_
  refine AU 29 sN fun j7 w1044 zD m0 b1=>?_
  refine Am rfl (Az b1 rfl rfl rfl (AJ) (allOne) fun vN n0 b1=>?_)
  replace b1:Lc 29 vN zD j7 66 [(.string c0.name),(.int .i64 c0.dur),(.slice y6 c0.start.length z6),(.slice a7 c0.over.length b7),(.slice c7 c0.fin.length d7),(.slice e7 c0.atStart.length f7),(.slice g7 c0.atEnd.length i7)]:=b1
  refine o_z ?_
  refine Ab (Aa (Ax rfl (At (hc:=Blk.cell (i:=1) (b1.1) rfl) rfl ?_)))
  obtain ⟨n1050,aE,m5⟩:=bs m5
  have bE:=(Bq aE)
  refine Dn (he:=aE) rfl rfl ?_
  refine Ak rfl (o_z ?_)
  obtain ⟨l9,z7,m5⟩:=bs m5
  replace z7:=Hx z7
  obtain ⟨pD,xH,m5⟩:=bs m5
  refine Ay (aft pD (fun (q3:(List Opr)) (f2:(Option Addr×Nat))=>[(1,(.pointer (some ⟨u7,0,none⟩))),(2,(.pointer (some ⟨n5,0,none⟩))),(3,(.pointer (some ⟨p5,0,none⟩))),(4,(.int .i64 (a0.vars.length:Int))),(5,(.pointer (some ⟨r0,0,none⟩))),(199,(.slice n6 x0.jobs.length o6)),(200,(.int .i64 (x0.jobs.length:Int))),(201,(.int .i64 (d8:Int)))]) (fun q3 f2 w'=>∃ O':Lab,Bs w A w' O'∧Lc 2 w' O' u7 26 [(.slice A8 x0.vars.length c9),(.slice e8 x0.init.length f8),(.slice g8 x0.goal.length h8),(.slice n6 x0.jobs.length o6)]∧Vb w' (Fr 0 w' O') (.slice A8 x0.vars.length c9) x0.vars∧Vb w' (Fr 0 w' O') (.slice e8 x0.init.length f8) x0.init∧Vb w' (Fr 0 w' O') (.slice g8 x0.goal.length h8) x0.goal∧Vb w' (Fr 0 w' O') (.slice n6 x0.jobs.length o6) x0.jobs∧Lc 3 w' O' n5 31 [(.slice none 0 0),(.slice none 0 0),(.slice none 0 0),(.slice none 0 0)]∧Lc 4 w' O' p5 97 [(.slice p6 a0.state.length q6),(.slice j6 a0.flag.length k6),(.slice r6 a0.write.length s6),(.slice t6 a0.read.length u6),(.int .i64 a0.phase),(.slice h6 a0.vars.length i6)]∧Vb w' (Fr 0 w' O') (.slice p6 a0.state.length q6) a0.state∧Vb w' (Fr 0 w' O') (.slice j6 a0.flag.length k6) a0.flag∧Vb w' (Fr 0 w' O') (.slice r6 a0.write.length s6) a0.write∧Vb w' (Fr 0 w' O') (.slice t6 a0.read.length u6) a0.read∧Vb w' (Fr 0 w' O') (.slice h6 a0.vars.length i6) a0.vars∧Lc 6 w' O' r0 31 [(.slice s0 a0.vars.length t0),(.slice u0 v2.length v0),(.slice r2 q0.length s2),(.slice f2.1 q3.length f2.2)]∧Vb w' (Fr 0 w' O') (.slice s0 a0.vars.length t0) a0.vars∧Rw 5 w' O' 3 (.slice u0 v2.length v0) (cpyL v2 x0.init)∧Vb w' (Fr 0 w' O') (.slice r2 q0.length s2) q0∧Rw 18 w' O' 82 (.slice f2.1 q3.length f2.2) q3)) ?_ ?_
  ·
   refine AK ?_
   replace hB:=(hB.st m0).st n0
   replace h7:=(h7.st m0).st n0
   replace a4:=(a4.st m0).st n0
   replace b4:=(b4.st m0).st n0
   replace t3:=(t3.st m0).st n0
   replace s3:=(s3.st m0).st n0
   replace j1:=(j1.st m0).st n0
   replace a1:=(a1.st m0).st n0
   replace y1:=(y1.st m0).st n0
   replace e2:=(e2.st m0).st n0
   replace u2:=(u2.st m0).st n0
   replace z1:=(z1.st m0).st n0
   replace p0:=(p0.st m0).st n0
   replace b0:=(b0.st m0).st n0
   replace h0:=(h0.st m0).st n0
   replace e0:=(e0.st m0).st n0
   replace o0:=(o0.st m0).st n0
   replace w0:=(w0.st m0).st n0
   replace g3:=(g3.st m0).st n0
   replace w2:=(w2.st m0).st n0
   replace h3:=(h3.st m0).st n0
   replace i3:=(i3.st m0).st n0
   replace j3:=(j3.st m0).st n0
   refine Fp (σ:=(List Opr)) (X:=(Option Addr×Nat)) l9 xH (FH z7 bE) (fun (q3:(List Opr)) (f2:(Option Addr×Nat))=>[(1,(.pointer (some ⟨u7,0,none⟩))),(2,(.pointer (some ⟨n5,0,none⟩))),(3,(.pointer (some ⟨p5,0,none⟩))),(4,(.int .i64 (a0.vars.length:Int))),(5,(.pointer (some ⟨r0,0,none⟩))),(11,(.int .i64 (d8:Int))),(12,(.pointer (some ⟨j7,0,none⟩))),(199,(.slice n6 x0.jobs.length o6)),(200,(.int .i64 (x0.jobs.length:Int))),(201,(.int .i64 (d8:Int)))]) _ (fun q3 f2 w'=>∃ O':Lab,Bs w A w' O'∧Lc 2 w' O' u7 26 [(.slice A8 x0.vars.length c9),(.slice e8 x0.init.length f8),(.slice g8 x0.goal.length h8),(.slice n6 x0.jobs.length o6)]∧Vb w' (Fr 0 w' O') (.slice A8 x0.vars.length c9) x0.vars∧Vb w' (Fr 0 w' O') (.slice e8 x0.init.length f8) x0.init∧Vb w' (Fr 0 w' O') (.slice g8 x0.goal.length h8) x0.goal∧Vb w' (Fr 0 w' O') (.slice n6 x0.jobs.length o6) x0.jobs∧Lc 3 w' O' n5 31 [(.slice none 0 0),(.slice none 0 0),(.slice none 0 0),(.slice none 0 0)]∧Lc 4 w' O' p5 97 [(.slice p6 a0.state.length q6),(.slice j6 a0.flag.length k6),(.slice r6 a0.write.length s6),(.slice t6 a0.read.length u6),(.int .i64 a0.phase),(.slice h6 a0.vars.length i6)]∧Vb w' (Fr 0 w' O') (.slice p6 a0.state.length q6) a0.state∧Vb w' (Fr 0 w' O') (.slice j6 a0.flag.length k6) a0.flag∧Vb w' (Fr 0 w' O') (.slice r6 a0.write.length s6) a0.write∧Vb w' (Fr 0 w' O') (.slice t6 a0.read.length u6) a0.read∧Vb w' (Fr 0 w' O') (.slice h6 a0.vars.length i6) a0.vars∧Lc 6 w' O' r0 31 [(.slice s0 a0.vars.length t0),(.slice u0 v2.length v0),(.slice r2 q0.length s2),(.slice f2.1 q3.length f2.2)]∧Vb w' (Fr 0 w' O') (.slice s0 a0.vars.length t0) a0.vars∧Rw 5 w' O' 3 (.slice u0 v2.length v0) (cpyL v2 x0.init)∧Vb w' (Fr 0 w' O') (.slice r2 q0.length s2) q0∧Rw 18 w' O' 82 (.slice f2.1 q3.length f2.2) q3∧Lc 29 w' O' j7 66 [(.string c0.name),(.int .i64 c0.dur),(.slice y6 c0.start.length z6),(.slice a7 c0.over.length b7),(.slice c7 c0.fin.length d7),(.slice e7 c0.atStart.length f7),(.slice g7 c0.atEnd.length i7)]∧Vb w' (Fr 0 w' O') (.slice y6 c0.start.length z6) c0.start∧Vb w' (Fr 0 w' O') (.slice a7 c0.over.length b7) c0.over∧Vb w' (Fr 0 w' O') (.slice c7 c0.fin.length d7) c0.fin∧Vb w' (Fr 0 w' O') (.slice e7 c0.atStart.length f7) c0.atStart∧Vb w' (Fr 0 w' O') (.slice g7 c0.atEnd.length i7) c0.atEnd) _ (x6.1,x6.2) ⟨zD,hB,s3,h7,a4,b4,t3,j1,p0,a1,y1,e2,u2,z1,b0,h0,e0,o0,w0,b1,g3,w2,h3,i3,j3⟩ ⟨rfl,(congrArg (fun z=>some (Value.int .i64 z)) z7),rfl,rfl,rfl,rfl,rfl,rfl,rfl,rfl,rfl,rfl,trivial⟩ (fun _ _=>⟨rfl,rfl⟩) (fun _ _=>⟨rfl,rfl,rfl,rfl,rfl,rfl,rfl,rfl,trivial⟩) (fun _ _ _ ⟨O',hB,s3,h7,a4,b4,t3,j1,p0,a1,y1,e2,u2,z1,b0,h0,e0,o0,g2,b1,g3,w2,h3,i3,j3⟩=>⟨O',hB,s3,h7,a4,b4,t3,j1,p0,a1,y1,e2,u2,z1,b0,h0,e0,o0,g2⟩) ⟨rfl,rfl,rfl⟩ ⟨rfl,rfl⟩ ?_
   rintro d6 q3 f2 w1059 qY yH ⟨cE,hB,s3,h7,a4,b4,t3,j1,p0,a1,y1,e2,u2,z1,b0,h0,e0,o0,g2,b1,g3,w2,h3,i3,j3⟩ j0 wN xN
   have rk1057:inI64 (d6:Int):=rngKN yH (FH z7 bE)
   refine Ab (Aa (Ak rfl (Am rfl (o_z ?_))))
   refine Ab (Br [] cE ?_)
   refine AP (fuel:=3) [] [(0,true),(1,true),(2,true),(3,true),(4,true),(5,true),(6,true),(7,true),(8,true),(9,true),(10,true),(11,true)] rfl ?_
   refine AT rfl rfl (AV (hc:=bCell p0 0 rfl) rfl rfl ?_)
   refine AX rfl rfl ?_
   obtain ⟨m9,yN,j0⟩:=bs j0
   obtain ⟨b1074,o1075,rY,zH,aI,bI,cI,rfl,zN⟩:=a1.elem yN
   refine CK (hA:=zH) (hj:=rfl) (hlt:=bI) rfl rfl rfl ?_
   refine AV (hc:=fun w' ⟨O',hq⟩=>cat0 (Bp (hq.agree (i:=0) (by decide)) aI cI)) rfl rfl ?_
   refine AX rfl rfl (Cq rfl rfl rfl ?_)
   refine AT rfl rfl (AV (hc:=bCell p0 4 rfl) rfl rfl ?_)
   refine AX rfl rfl ?_
   obtain ⟨n9,dE,j0⟩:=bs j0
   have aO:=(Bq dE)
   refine Hp (he:=dE) rfl rfl rfl ?_
   refine Cq rfl rfl rfl ?_
   refine AC ?_
   refine AD (i:=12) rfl ?_
   refine AQ 30 cE (xs:=([(⟨m9,(d6:Int)⟩:Fct),(⟨a0.phase,n9⟩:Fct)]:List Fct)) rfl rfl rfl ⟨(Vb.ofAgg (cs:=[(.int .i64 m9),(.int .i64 (d6:Int))]) (x:=(⟨m9,(d6:Int)⟩:Fct)) rfl ⟨rfl,zN,rk1057⟩),(Vb.ofAgg (cs:=[(.int .i64 a0.phase),(.int .i64 n9)]) (x:=(⟨a0.phase,n9⟩:Fct)) rfl ⟨rfl,z9,aO⟩),trivial⟩ fun bO w1086 O1087 d0 j8=>?_
   have hZ:=lZ d0
   refine AN [] hZ ?_
   refine AP (fuel:=0) [] [(13,true),(14,true)] rfl ?_
   refine Nr rfl rfl rfl (Nr rfl rfl rfl (AC ?_))
   refine Bv ?_
   refine Ab ?_
   obtain ⟨k7,e6,j0⟩:=bs j0
   refine Ay (fun l' w'=>∃ (i5:(Option Addr×Nat)) (O':Lab),subs l' [(1,(.pointer (some ⟨u7,0,none⟩))),(2,(.pointer (some ⟨n5,0,none⟩))),(3,(.pointer (some ⟨p5,0,none⟩))),(4,(.int .i64 (a0.vars.length:Int))),(5,(.pointer (some ⟨r0,0,none⟩))),(11,(.int .i64 (d8:Int))),(12,(.pointer (some ⟨j7,0,none⟩))),(13,(.int .i64 (d6:Int))),(14,(.slice i5.1 k7.length i5.2)),(15,(.slice none 0 0)),(199,(.slice n6 x0.jobs.length o6)),(200,(.int .i64 (x0.jobs.length:Int))),(201,(.int .i64 (d8:Int))),(208,(.int .i64 (l9:Int))),(209,(.int .i64 (d6:Int)))]∧Bs w A w' O'∧Lc 2 w' O' u7 26 [(.slice A8 x0.vars.length c9),(.slice e8 x0.init.length f8),(.slice g8 x0.goal.length h8),(.slice n6 x0.jobs.length o6)]∧Vb w' (Fr 0 w' O') (.slice A8 x0.vars.length c9) x0.vars∧Vb w' (Fr 0 w' O') (.slice e8 x0.init.length f8) x0.init∧Vb w' (Fr 0 w' O') (.slice g8 x0.goal.length h8) x0.goal∧Vb w' (Fr 0 w' O') (.slice n6 x0.jobs.length o6) x0.jobs∧Lc 3 w' O' n5 31 [(.slice none 0 0),(.slice none 0 0),(.slice none 0 0),(.slice none 0 0)]∧Lc 4 w' O' p5 97 [(.slice p6 a0.state.length q6),(.slice j6 a0.flag.length k6),(.slice r6 a0.write.length s6),(.slice t6 a0.read.length u6),(.int .i64 a0.phase),(.slice h6 a0.vars.length i6)]∧Vb w' (Fr 0 w' O') (.slice p6 a0.state.length q6) a0.state∧Vb w' (Fr 0 w' O') (.slice j6 a0.flag.length k6) a0.flag∧Vb w' (Fr 0 w' O') (.slice r6 a0.write.length s6) a0.write∧Vb w' (Fr 0 w' O') (.slice t6 a0.read.length u6) a0.read∧Vb w' (Fr 0 w' O') (.slice h6 a0.vars.length i6) a0.vars∧Lc 6 w' O' r0 31 [(.slice s0 a0.vars.length t0),(.slice u0 v2.length v0),(.slice r2 q0.length s2),(.slice f2.1 q3.length f2.2)]∧Vb w' (Fr 0 w' O') (.slice s0 a0.vars.length t0) a0.vars∧Rw 5 w' O' 3 (.slice u0 v2.length v0) (cpyL v2 x0.init)∧Vb w' (Fr 0 w' O') (.slice r2 q0.length s2) q0∧Rw 18 w' O' 82 (.slice f2.1 q3.length f2.2) q3∧Lc 29 w' O' j7 66 [(.string c0.name),(.int .i64 c0.dur),(.slice y6 c0.start.length z6),(.slice a7 c0.over.length b7),(.slice c7 c0.fin.length d7),(.slice e7 c0.atStart.length f7),(.slice g7 c0.atEnd.length i7)]∧Vb w' (Fr 0 w' O') (.slice y6 c0.start.length z6) c0.start∧Vb w' (Fr 0 w' O') (.slice a7 c0.over.length b7) c0.over∧Vb w' (Fr 0 w' O') (.slice c7 c0.fin.length d7) c0.fin∧Vb w' (Fr 0 w' O') (.slice e7 c0.atStart.length f7) c0.atStart∧Vb w' (Fr 0 w' O') (.slice g7 c0.atEnd.length i7) c0.atEnd∧Vb w' (Fr 0 w' O') (.slice i5.1 k7.length i5.2) k7) ?_ ?_
   ·
    refine Ab (Aa (Ak rfl (BW rfl rfl (fun pA=>?_) fun pA=>?_)))
    ·
     replace e6:=ip e6 pA
     refine o_z ?_
     refine Ah rfl (Aa (Ak rfl (Ax rfl ?_)))
     replace b1:=b1.st d0
     refine At (hc:=Blk.cell (i:=3) (b1.1) rfl) rfl ?_
     obtain ⟨cO,h2,j8⟩:=j8.freeze
     replace w2:=(w2.st d0).st h2
     refine AQ 31 cO (xs:=([[(⟨m9,(d6:Int)⟩:Fct),(⟨a0.phase,n9⟩:Fct)],c0.over]:List (List Fct))) rfl rfl rfl ⟨j8,w2,trivial⟩ fun g1099 w1100 O1101 i2 qA=>?_
     obtain ⟨dO,j2,qA⟩:=qA.freeze
     obtain ⟨q1107,eO,e6⟩:=bs e6
     refine CZ 32 (O:=dO) (Fb Fr.lt qA eO) rfl fun fO gO w1109 O1110 k2 rA=>?_
     refine Am rfl (o_z ?_)
     obtain ⟨O1117,l2,rA⟩:=rA.freeze
     obtain rfl:=sm e6
     exact ⟨(fO,gO),_,⟨rfl,rfl,rfl,rfl,rfl,rfl,rfl,rfl,rfl,rfl,rfl,rfl,rfl,rfl,rfl,trivial⟩,(((((hB.st d0).st h2).st i2).st j2).st k2).st l2,(((((s3.st d0).st h2).st i2).st j2).st k2).st l2,(((((h7.st d0).st h2).st i2).st j2).st k2).st l2,(((((a4.st d0).st h2).st i2).st j2).st k2).st l2,(((((b4.st d0).st h2).st i2).st j2).st k2).st l2,(((((t3.st d0).st h2).st i2).st j2).st k2).st l2,(((((j1.st d0).st h2).st i2).st j2).st k2).st l2,(((((p0.st d0).st h2).st i2).st j2).st k2).st l2,(((((a1.st d0).st h2).st i2).st j2).st k2).st l2,(((((y1.st d0).st h2).st i2).st j2).st k2).st l2,(((((e2.st d0).st h2).st i2).st j2).st k2).st l2,(((((u2.st d0).st h2).st i2).st j2).st k2).st l2,(((((z1.st d0).st h2).st i2).st j2).st k2).st l2,(((((b0.st d0).st h2).st i2).st j2).st k2).st l2,(((((h0.st d0).st h2).st i2).st j2).st k2).st l2,(((((e0.st d0).st h2).st i2).st j2).st k2).st l2,(((((o0.st d0).st h2).st i2).st j2).st k2).st l2,(((((g2.st d0).st h2).st i2).st j2).st k2).st l2,((((b1.st h2).st i2).st j2).st k2).st l2,(((((g3.st d0).st h2).st i2).st j2).st k2).st l2,(((w2.st i2).st j2).st k2).st l2,(((((h3.st d0).st h2).st i2).st j2).st k2).st l2,(((((i3.st d0).st h2).st i2).st j2).st k2).st l2,(((((j3.st d0).st h2).st i2).st j2).st k2).st l2,rA⟩
    replace e6:=im e6 pA
    refine o_z ?_
    refine Ae rfl (AO ?_)
    obtain ⟨O1119,m2,j8⟩:=j8.freeze
    obtain rfl:=sm e6
    exact ⟨((some ⟨bO,0,none⟩),2),_,⟨rfl,rfl,rfl,rfl,rfl,rfl,rfl,rfl,rfl,rfl,rfl,rfl,rfl,rfl,rfl,trivial⟩,(hB.st d0).st m2,(s3.st d0).st m2,(h7.st d0).st m2,(a4.st d0).st m2,(b4.st d0).st m2,(t3.st d0).st m2,(j1.st d0).st m2,(p0.st d0).st m2,(a1.st d0).st m2,(y1.st d0).st m2,(e2.st d0).st m2,(u2.st d0).st m2,(z1.st d0).st m2,(b0.st d0).st m2,(h0.st d0).st m2,(e0.st d0).st m2,(o0.st d0).st m2,(g2.st d0).st m2,(b1.st d0).st m2,(g3.st d0).st m2,(w2.st d0).st m2,(h3.st d0).st m2,(i3.st d0).st m2,(j3.st d0).st m2,j8⟩
   replace hB:=hB.st d0
   replace h7:=h7.st d0
   replace a4:=a4.st d0
   replace b4:=b4.st d0
   replace t3:=t3.st d0
   replace s3:=s3.st d0
   replace j1:=j1.st d0
   replace a1:=a1.st d0
   replace y1:=y1.st d0
   replace e2:=e2.st d0
   replace u2:=u2.st d0
   replace z1:=z1.st d0
   replace p0:=p0.st d0
   replace b0:=b0.st d0
   replace h0:=h0.st d0
   replace e0:=e0.st d0
   replace o0:=o0.st d0
   replace g3:=g3.st d0
   replace w2:=w2.st d0
   replace h3:=h3.st d0
   replace i3:=i3.st d0
   replace j3:=j3.st d0
   replace b1:=b1.st d0
   replace g2:=g2.st d0
   rintro l1121 hO ⟨i5,iO,dI,hB,s3,h7,a4,b4,t3,j1,p0,a1,y1,e2,u2,z1,b0,h0,e0,o0,g2,b1,g3,w2,h3,i3,j3,m4⟩
   refine AH _ dI ?_
   refine Ab ?_
   obtain ⟨sA,y3,j0⟩:=bs j0
   refine Ay (fun l' w'=>∃ (a8:(Option Addr×Nat)) (O':Lab),subs l' [(1,(.pointer (some ⟨u7,0,none⟩))),(2,(.pointer (some ⟨n5,0,none⟩))),(3,(.pointer (some ⟨p5,0,none⟩))),(4,(.int .i64 (a0.vars.length:Int))),(5,(.pointer (some ⟨r0,0,none⟩))),(11,(.int .i64 (d8:Int))),(12,(.pointer (some ⟨j7,0,none⟩))),(13,(.int .i64 (d6:Int))),(14,(.slice i5.1 k7.length i5.2)),(15,(.slice a8.1 sA.length a8.2)),(199,(.slice n6 x0.jobs.length o6)),(200,(.int .i64 (x0.jobs.length:Int))),(201,(.int .i64 (d8:Int))),(208,(.int .i64 (l9:Int))),(209,(.int .i64 (d6:Int)))]∧Bs w A w' O'∧Lc 2 w' O' u7 26 [(.slice A8 x0.vars.length c9),(.slice e8 x0.init.length f8),(.slice g8 x0.goal.length h8),(.slice n6 x0.jobs.length o6)]∧Vb w' (Fr 0 w' O') (.slice A8 x0.vars.length c9) x0.vars∧Vb w' (Fr 0 w' O') (.slice e8 x0.init.length f8) x0.init∧Vb w' (Fr 0 w' O') (.slice g8 x0.goal.length h8) x0.goal∧Vb w' (Fr 0 w' O') (.slice n6 x0.jobs.length o6) x0.jobs∧Lc 3 w' O' n5 31 [(.slice none 0 0),(.slice none 0 0),(.slice none 0 0),(.slice none 0 0)]∧Lc 4 w' O' p5 97 [(.slice p6 a0.state.length q6),(.slice j6 a0.flag.length k6),(.slice r6 a0.write.length s6),(.slice t6 a0.read.length u6),(.int .i64 a0.phase),(.slice h6 a0.vars.length i6)]∧Vb w' (Fr 0 w' O') (.slice p6 a0.state.length q6) a0.state∧Vb w' (Fr 0 w' O') (.slice j6 a0.flag.length k6) a0.flag∧Vb w' (Fr 0 w' O') (.slice r6 a0.write.length s6) a0.write∧Vb w' (Fr 0 w' O') (.slice t6 a0.read.length u6) a0.read∧Vb w' (Fr 0 w' O') (.slice h6 a0.vars.length i6) a0.vars∧Lc 6 w' O' r0 31 [(.slice s0 a0.vars.length t0),(.slice u0 v2.length v0),(.slice r2 q0.length s2),(.slice f2.1 q3.length f2.2)]∧Vb w' (Fr 0 w' O') (.slice s0 a0.vars.length t0) a0.vars∧Rw 5 w' O' 3 (.slice u0 v2.length v0) (cpyL v2 x0.init)∧Vb w' (Fr 0 w' O') (.slice r2 q0.length s2) q0∧Rw 18 w' O' 82 (.slice f2.1 q3.length f2.2) q3∧Lc 29 w' O' j7 66 [(.string c0.name),(.int .i64 c0.dur),(.slice y6 c0.start.length z6),(.slice a7 c0.over.length b7),(.slice c7 c0.fin.length d7),(.slice e7 c0.atStart.length f7),(.slice g7 c0.atEnd.length i7)]∧Vb w' (Fr 0 w' O') (.slice y6 c0.start.length z6) c0.start∧Vb w' (Fr 0 w' O') (.slice a7 c0.over.length b7) c0.over∧Vb w' (Fr 0 w' O') (.slice c7 c0.fin.length d7) c0.fin∧Vb w' (Fr 0 w' O') (.slice e7 c0.atStart.length f7) c0.atStart∧Vb w' (Fr 0 w' O') (.slice g7 c0.atEnd.length i7) c0.atEnd∧Vb w' (Fr 0 w' O') (.slice i5.1 k7.length i5.2) k7∧Rw 33 w' O' 78 (.slice a8.1 sA.length a8.2) sA) ?_ ?_
   ·
    refine Ab (Aa (Ak rfl (BW rfl rfl (fun tA=>?_) fun tA=>?_)))
    ·
     replace y3:=ip y3 tA
     refine o_z ?_
     refine Ah rfl (Aa (Ak rfl (Ax rfl (At (hc:=Blk.cell (i:=0) (p0.1) rfl) rfl ?_))))
     refine Ak rfl ?_
     obtain ⟨uA,jO,y3⟩:=bs y3
     obtain ⟨b1134,o1135,sY,eI,fI,gI,rfl,kO⟩:=a1.elem' jO
     refine Bi (hA:=eI) (hj:=rfl) (hlt:=fI) rfl rfl ?_
     refine At (hc:=cat0 gI) rfl ?_
     refine Ak rfl ?_
     obtain ⟨vA,eE,y3⟩:=bs y3
     have lO:=(Bq eE)
     refine Kq (he:=eE) rfl rfl rfl ?_
     refine Cl rfl rfl ?_
     have mO:Rw 33 hO iO 78 (.slice none 0 0) ([]:List Fct):=Rw.nil 33 (by decide)
     obtain ⟨u1147,wA,y3⟩:=bs y3
     obtain ⟨wA,nO,oO⟩:=AI wA
     refine BC rfl (a:=(⟨uA,vA⟩:Fct)) mO (Vb.ofAgg (cs:=[(.int .i64 uA),(.int .i64 vA)]) (x:=(⟨uA,vA⟩:Fct)) rfl ⟨rfl,kO,lO⟩) (fun _=>rfl) rfl nO oO ⟨rfl,rfl⟩ fun g1151 pO qO w1154 O1155 a2 fE=>?_
     rw [← wA] at fE ⊢
     refine Am rfl (o_z ?_)
     obtain rfl:=sm y3
     exact ⟨(pO,qO),_,⟨rfl,rfl,rfl,rfl,rfl,rfl,rfl,rfl,rfl,rfl,rfl,rfl,rfl,rfl,rfl,trivial⟩,hB.st a2,s3.st a2,h7.st a2,a4.st a2,b4.st a2,t3.st a2,j1.st a2,p0.st a2,a1.st a2,y1.st a2,e2.st a2,u2.st a2,z1.st a2,b0.st a2,h0.st a2,e0.st a2,o0.st a2,g2.st a2,b1.st a2,g3.st a2,w2.st a2,h3.st a2,i3.st a2,j3.st a2,m4.st a2,fE⟩
    replace y3:=im y3 tA
    refine o_z ?_
    refine Ae rfl (AO ?_)
    obtain rfl:=sm y3
    exact ⟨(none,0),_,⟨rfl,rfl,rfl,rfl,rfl,rfl,rfl,rfl,rfl,rfl,rfl,rfl,rfl,rfl,rfl,trivial⟩,hB,s3,h7,a4,b4,t3,j1,p0,a1,y1,e2,u2,z1,b0,h0,e0,o0,g2,b1,g3,w2,h3,i3,j3,m4,(Rw.nil 33 (by decide))⟩
   rintro l1159 w1160 ⟨a8,gE,hI,hB,s3,h7,a4,b4,t3,j1,p0,a1,y1,e2,u2,z1,b0,h0,e0,o0,g2,b1,g3,w2,h3,i3,j3,m4,o9⟩
   refine AH _ hI ?_
   refine Ab ?_
   obtain ⟨xA,z3,j0⟩:=bs j0
   refine Ay (fun l' w'=>∃ (u8:(Option Addr×Nat)) (O':Lab),subs l' [(1,(.pointer (some ⟨u7,0,none⟩))),(2,(.pointer (some ⟨n5,0,none⟩))),(3,(.pointer (some ⟨p5,0,none⟩))),(4,(.int .i64 (a0.vars.length:Int))),(5,(.pointer (some ⟨r0,0,none⟩))),(11,(.int .i64 (d8:Int))),(12,(.pointer (some ⟨j7,0,none⟩))),(13,(.int .i64 (d6:Int))),(14,(.slice i5.1 k7.length i5.2)),(15,(.slice u8.1 xA.length u8.2)),(199,(.slice n6 x0.jobs.length o6)),(200,(.int .i64 (x0.jobs.length:Int))),(201,(.int .i64 (d8:Int))),(208,(.int .i64 (l9:Int))),(209,(.int .i64 (d6:Int)))]∧Bs w A w' O'∧Lc 2 w' O' u7 26 [(.slice A8 x0.vars.length c9),(.slice e8 x0.init.length f8),(.slice g8 x0.goal.length h8),(.slice n6 x0.jobs.length o6)]∧Vb w' (Fr 0 w' O') (.slice A8 x0.vars.length c9) x0.vars∧Vb w' (Fr 0 w' O') (.slice e8 x0.init.length f8) x0.init∧Vb w' (Fr 0 w' O') (.slice g8 x0.goal.length h8) x0.goal∧Vb w' (Fr 0 w' O') (.slice n6 x0.jobs.length o6) x0.jobs∧Lc 3 w' O' n5 31 [(.slice none 0 0),(.slice none 0 0),(.slice none 0 0),(.slice none 0 0)]∧Lc 4 w' O' p5 97 [(.slice p6 a0.state.length q6),(.slice j6 a0.flag.length k6),(.slice r6 a0.write.length s6),(.slice t6 a0.read.length u6),(.int .i64 a0.phase),(.slice h6 a0.vars.length i6)]∧Vb w' (Fr 0 w' O') (.slice p6 a0.state.length q6) a0.state∧Vb w' (Fr 0 w' O') (.slice j6 a0.flag.length k6) a0.flag∧Vb w' (Fr 0 w' O') (.slice r6 a0.write.length s6) a0.write∧Vb w' (Fr 0 w' O') (.slice t6 a0.read.length u6) a0.read∧Vb w' (Fr 0 w' O') (.slice h6 a0.vars.length i6) a0.vars∧Lc 6 w' O' r0 31 [(.slice s0 a0.vars.length t0),(.slice u0 v2.length v0),(.slice r2 q0.length s2),(.slice f2.1 q3.length f2.2)]∧Vb w' (Fr 0 w' O') (.slice s0 a0.vars.length t0) a0.vars∧Rw 5 w' O' 3 (.slice u0 v2.length v0) (cpyL v2 x0.init)∧Vb w' (Fr 0 w' O') (.slice r2 q0.length s2) q0∧Rw 18 w' O' 82 (.slice f2.1 q3.length f2.2) q3∧Lc 29 w' O' j7 66 [(.string c0.name),(.int .i64 c0.dur),(.slice y6 c0.start.length z6),(.slice a7 c0.over.length b7),(.slice c7 c0.fin.length d7),(.slice e7 c0.atStart.length f7),(.slice g7 c0.atEnd.length i7)]∧Vb w' (Fr 0 w' O') (.slice y6 c0.start.length z6) c0.start∧Vb w' (Fr 0 w' O') (.slice a7 c0.over.length b7) c0.over∧Vb w' (Fr 0 w' O') (.slice c7 c0.fin.length d7) c0.fin∧Vb w' (Fr 0 w' O') (.slice e7 c0.atStart.length f7) c0.atStart∧Vb w' (Fr 0 w' O') (.slice g7 c0.atEnd.length i7) c0.atEnd∧Vb w' (Fr 0 w' O') (.slice i5.1 k7.length i5.2) k7∧Rw 33 w' O' 78 (.slice u8.1 xA.length u8.2) xA) ?_ ?_
   ·
    refine Ab (Aa (Ak rfl (GU rfl rfl (fun yA=>?_) fun yA=>?_)))
    ·
     replace z3:=ip z3 yA
     refine o_z ?_
     refine Ah rfl (Br [(11,[33])] gE ?_)
     refine AP (fuel:=3) [] [(0,true),(1,true),(2,true),(3,true),(4,true),(5,true),(6,true),(7,true),(8,true),(9,true)] rfl ?_
     refine AX rfl rfl (AT rfl rfl (AV (hc:=bCell p0 0 rfl) rfl rfl ?_))
     refine AX rfl rfl ?_
     obtain ⟨zA,rO,z3⟩:=bs z3
     obtain ⟨b1172,o1173,tY,iI,jI,kI,lI,rfl,sO⟩:=a1.elem rO
     refine CK (hA:=iI) (hj:=rfl) (hlt:=kI) rfl rfl rfl ?_
     refine AV (hc:=fun w' ⟨O',hq⟩=>cat0 (Bp (hq.agree (i:=0) (by decide)) jI lI)) rfl rfl ?_
     refine AT rfl rfl (AV (hc:=bCell b1 1 rfl) rfl rfl ?_)
     obtain ⟨aB,hE,z3⟩:=bs z3
     have tO:=(Bq hE)
     refine Hp (he:=hE) rfl rfl rfl ?_
     refine Cq rfl rfl rfl ?_
     refine AC ?_
     refine AD (i:=10) rfl ?_
     refine AQ 34 gE (xs:=([(⟨zA,aB⟩:Fct)]:List Fct)) rfl rfl rfl ⟨(Vb.ofAgg (cs:=[(.int .i64 zA),(.int .i64 aB)]) (x:=(⟨zA,aB⟩:Fct)) rfl ⟨rfl,sO,tO⟩),trivial⟩ fun g1183 w1184 O1185 c1 uO=>?_
     have hZ:=lZ c1
     refine AN [(11,[33])] hZ ?_
     refine AD (i:=11) rfl ?_
     obtain ⟨u1189,bB,z3⟩:=bs z3
     obtain ⟨bB,vO,wO⟩:=AI bB
     replace o9:=o9.st c1
     refine AZ rfl o9 (uO.rd) rfl rfl vO wO fun xO yO w1195 O1196 k1 iE=>?_
     rw [← bB] at iE ⊢
     have hZ:=k1.lst [33] (fun _ h=>by cases h;decide)
     refine AN [] hZ ?_
     refine AP (fuel:=0) [] [(12,true)] rfl ?_
     refine Nr rfl rfl rfl (AC ?_)
     refine Bv ?_
     obtain rfl:=sm z3
     exact ⟨(xO,yO),_,⟨rfl,rfl,rfl,rfl,rfl,rfl,rfl,rfl,rfl,rfl,rfl,rfl,rfl,rfl,rfl,trivial⟩,(hB.st c1).st k1,(s3.st c1).st k1,(h7.st c1).st k1,(a4.st c1).st k1,(b4.st c1).st k1,(t3.st c1).st k1,(j1.st c1).st k1,(p0.st c1).st k1,(a1.st c1).st k1,(y1.st c1).st k1,(e2.st c1).st k1,(u2.st c1).st k1,(z1.st c1).st k1,(b0.st c1).st k1,(h0.st c1).st k1,(e0.st c1).st k1,(o0.st c1).st k1,(g2.st c1).st k1,(b1.st c1).st k1,(g3.st c1).st k1,(w2.st c1).st k1,(h3.st c1).st k1,(i3.st c1).st k1,(j3.st c1).st k1,(m4.st c1).st k1,iE⟩
    replace z3:=im z3 yA
    refine o_z ?_
    refine Ae rfl (AO ?_)
    obtain rfl:=sm z3
    exact ⟨(a8.1,a8.2),_,⟨rfl,rfl,rfl,rfl,rfl,rfl,rfl,rfl,rfl,rfl,rfl,rfl,rfl,rfl,rfl,trivial⟩,hB,s3,h7,a4,b4,t3,j1,p0,a1,y1,e2,u2,z1,b0,h0,e0,o0,g2,b1,g3,w2,h3,i3,j3,m4,o9⟩
   rintro l1200 w1201 ⟨u8,cB,mI,hB,s3,h7,a4,b4,t3,j1,p0,a1,y1,e2,u2,z1,b0,h0,e0,o0,g2,b1,g3,w2,h3,i3,j3,m4,l7⟩
   refine AH _ mI ?_
   obtain ⟨m7,jE,j0⟩:=bs j0
   obtain ⟨n1206,zO,j0⟩:=bs j0
   obtain ⟨n1208,aP,j0⟩:=bs j0
   obtain ⟨q1210,kE,j0⟩:=bs j0
   obtain ⟨n7,v8,j0⟩:=bs j0
   obtain ⟨o7,dB,j0⟩:=bs j0
   obtain ⟨u1216,p7,j0⟩:=bs j0
   obtain ⟨q7,eB,j0⟩:=bs j0
   obtain ⟨fB,r7,j0⟩:=bs j0
   refine Br [(19,[33]),(20,[33]),(23,[18])] cB ?_
   refine AP (fuel:=17) [] [(6,true),(9,true),(10,true),(12,true),(13,true),(14,true),(15,true),(16,true),(17,true)] rfl ?_
   refine AX rfl rfl (AX rfl rfl (AX rfl rfl (AX rfl rfl (AT rfl rfl (AV (hc:=bCell p0 4 rfl) rfl rfl ?_)))))
   refine AX rfl rfl ?_
   have gB:=(Bq jE)
   refine Hp (he:=jE) rfl rfl rfl ?_
   refine Cq rfl rfl rfl ?_
   refine AC ?_
   refine AP (fuel:=11) [33] [(0,true),(1,true),(2,true),(3,true),(4,true),(5,true)] rfl ?_
   refine AT rfl rfl (AV (hc:=bCell b0 3 rfl) rfl rfl ?_)
   refine AT rfl rfl (AV (hc:=bCell b1 0 rfl) rfl rfl ?_)
   refine Hq (he:=zO) rfl rfl rfl ?_
   refine Hq (he:=aP) rfl rfl rfl ?_
   refine AC ?_
   refine EJ (i:=7) (j:=18) rfl rfl ?_ ?_
   ·
    refine AM (O:=cB) (Hk (fun _ h=>h) rk1057 kE) rfl fun v1227 w1223 lE f0 bP=>?_
    obtain ⟨rfl,z1228⟩:=bP.str
    have hZ:=lZ f0
    refine AN [(19,[33]),(20,[33]),(23,[18])] hZ ?_
    refine AP (fuel:=9) [33] [(8,true)] rfl ?_
    refine Hq (he:=v8) rfl rfl rfl ?_
    refine AC ?_
    refine EJ (i:=11) (j:=18) rfl rfl ?_ ?_
    ·
     replace m4:=m4.st f0
     refine Cc (O:=lE) (En Fr.lt m4 lJ dB) rfl fun v1233 w1229 cP l1 p9=>?_
     obtain ⟨dP,eP,rfl⟩:=p9.form
     have hZ:=lZ l1
     refine AN [(19,[33]),(20,[33]),(23,[18])] hZ ?_
     refine AD (i:=18) rfl ?_
     refine AQ 35 cP (xs:=([(⟨a0.phase,m7⟩:Fct)]:List Fct)) rfl rfl rfl ⟨(Vb.ofAgg (cs:=[(.int .i64 a0.phase),(.int .i64 m7)]) (x:=(⟨a0.phase,m7⟩:Fct)) rfl ⟨rfl,z9,gB⟩),trivial⟩ fun g1236 w1237 O1238 d1 fP=>?_
     have hZ:=lZ d1
     refine AN [(19,[33]),(20,[33]),(23,[18])] hZ ?_
     refine AD (i:=19) rfl ?_
     obtain ⟨p7,gP,hP⟩:=AI p7
     replace l7:=((l7.st f0).st l1).st d1
     refine AZ rfl l7 (fP.rd) rfl rfl gP hP fun A1244 c1245 w1246 O1247 m1 q9=>?_
     rw [← p7] at q9 ⊢
     have hZ:=m1.lst [33] (fun _ h=>by cases h;decide)
     refine AN [(20,[33]),(23,[18])] hZ ?_
     refine AD (i:=20) rfl ?_
     obtain ⟨iP,n1,q9⟩:=q9.freeze
     have hZ:=n1.lst [33] (fun _ h=>by cases h;decide)
     refine Cc (O:=iP) (ED Fr.lt q9 eB) rfl fun v1257 w1253 jP o1 mE=>?_
     obtain ⟨kP,lP,rfl⟩:=mE.form
     replace hZ:=hZ.cmp o1 [33] (fun _ h=>h.elim) rfl
     refine AN [(23,[18])] hZ ?_
     refine AP (fuel:=4) [] [(21,true)] rfl ?_
     refine Cq rfl rfl rfl ?_
     refine AC ?_
     refine AD (i:=22) rfl ?_
     replace p9:=(((p9.st d1).st m1).st n1).st o1
     refine AQ 36 jP (xs:=([(⟨n7,0,o7,q7⟩:Opr)]:List Opr)) rfl rfl rfl ⟨(Vb.ofAgg (cs:=[(.string n7),(.int .i64 0),(.slice dP o7.length eP),(.slice kP q7.length lP)]) (x:=(⟨n7,0,o7,q7⟩:Opr)) rfl ⟨_,_,rfl,p9,mE,(iI64 0),(GP v8)⟩),trivial⟩ fun g1260 w1261 O1262 b2 mP=>?_
     have hZ:=lZ b2
     refine AN [(23,[18])] hZ ?_
     refine AD (i:=23) rfl ?_
     obtain ⟨r7,nP,oP⟩:=AI r7
     replace g2:=((((((g2.st f0).st l1).st d1).st m1).st n1).st o1).st b2
     refine AZ rfl g2 (mP.rd) rfl rfl nP oP fun nE oE w1270 pP n2 pE=>?_
     rw [← r7] at pE ⊢
     have hZ:=n2.lst [18] (fun _ h=>by cases h;decide)
     refine AN [] hZ ?_
     refine AP (fuel:=1) [] [(24,true)] rfl ?_
     refine AT rfl rfl (AC ?_)
     refine AD (i:=25) rfl ?_
     replace b0:=(((((((b0.st f0).st l1).st d1).st m1).st n1).st o1).st b2).st n2
     refine Az b0 rfl rfl rfl (AJ) (allOne) fun qP x2 b0=>?_
     replace b0:Lc 6 qP pP r0 31 [(.slice s0 a0.vars.length t0),(.slice u0 v2.length v0),(.slice r2 q0.length s2),(.slice nE fB.length oE)]:=b0
     refine BF ?_
     refine Bv ?_
     obtain rfl:=sm j0
     exact show Exists _ from ⟨_,(nE,oE),rfl,⟨rfl,rfl,rfl,rfl,rfl,rfl,rfl,rfl,rfl,rfl,rfl,rfl,trivial⟩,_,((((((((hB.st f0).st l1).st d1).st m1).st n1).st o1).st b2).st n2).st x2,((((((((s3.st f0).st l1).st d1).st m1).st n1).st o1).st b2).st n2).st x2,((((((((h7.st f0).st l1).st d1).st m1).st n1).st o1).st b2).st n2).st x2,((((((((a4.st f0).st l1).st d1).st m1).st n1).st o1).st b2).st n2).st x2,((((((((b4.st f0).st l1).st d1).st m1).st n1).st o1).st b2).st n2).st x2,((((((((t3.st f0).st l1).st d1).st m1).st n1).st o1).st b2).st n2).st x2,((((((((j1.st f0).st l1).st d1).st m1).st n1).st o1).st b2).st n2).st x2,((((((((p0.st f0).st l1).st d1).st m1).st n1).st o1).st b2).st n2).st x2,((((((((a1.st f0).st l1).st d1).st m1).st n1).st o1).st b2).st n2).st x2,((((((((y1.st f0).st l1).st d1).st m1).st n1).st o1).st b2).st n2).st x2,((((((((e2.st f0).st l1).st d1).st m1).st n1).st o1).st b2).st n2).st x2,((((((((u2.st f0).st l1).st d1).st m1).st n1).st o1).st b2).st n2).st x2,((((((((z1.st f0).st l1).st d1).st m1).st n1).st o1).st b2).st n2).st x2,b0,((((((((h0.st f0).st l1).st d1).st m1).st n1).st o1).st b2).st n2).st x2,((((((((e0.st f0).st l1).st d1).st m1).st n1).st o1).st b2).st n2).st x2,((((((((o0.st f0).st l1).st d1).st m1).st n1).st o1).st b2).st n2).st x2,pE.st x2,((((((((b1.st f0).st l1).st d1).st m1).st n1).st o1).st b2).st n2).st x2,((((((((g3.st f0).st l1).st d1).st m1).st n1).st o1).st b2).st n2).st x2,((((((((w2.st f0).st l1).st d1).st m1).st n1).st o1).st b2).st n2).st x2,((((((((h3.st f0).st l1).st d1).st m1).st n1).st o1).st b2).st n2).st x2,((((((((i3.st f0).st l1).st d1).st m1).st n1).st o1).st b2).st n2).st x2,((((((((j3.st f0).st l1).st d1).st m1).st n1).st o1).st b2).st n2).st x2⟩
    refine AQ 35 lE (xs:=([(⟨a0.phase,m7⟩:Fct)]:List Fct)) rfl rfl rfl ⟨(Vb.ofAgg (cs:=[(.int .i64 a0.phase),(.int .i64 m7)]) (x:=(⟨a0.phase,m7⟩:Fct)) rfl ⟨rfl,z9,gB⟩),trivial⟩ fun g1277 w1278 rP e1 iB=>?_
    have hZ:=lZ e1
    refine AN [(19,[33]),(20,[33]),(23,[18])] hZ ?_
    refine AD (i:=11) rfl ?_
    replace m4:=(m4.st f0).st e1
    refine Cc (O:=rP) (En Fr.lt m4 lJ dB) rfl fun v1287 w1283 O1284 f1 r9=>?_
    obtain ⟨sP,tP,rfl⟩:=r9.form
    have hZ:=lZ f1
    refine AN [(19,[33]),(20,[33]),(23,[18])] hZ ?_
    refine AD (i:=19) rfl ?_
    obtain ⟨p7,uP,vP⟩:=AI p7
    replace l7:=((l7.st f0).st e1).st f1
    replace iB:=iB.st f1
    refine AZ rfl l7 (iB.rd) rfl rfl uP vP fun A1292 c1293 w1294 O1295 p1 s9=>?_
    rw [← p7] at s9 ⊢
    have hZ:=p1.lst [33] (fun _ h=>by cases h;decide)
    refine AN [(20,[33]),(23,[18])] hZ ?_
    refine AD (i:=20) rfl ?_
    obtain ⟨wP,q1,s9⟩:=s9.freeze
    have hZ:=q1.lst [33] (fun _ h=>by cases h;decide)
    refine Cc (O:=wP) (ED Fr.lt s9 eB) rfl fun v1305 w1301 xP r1 qE=>?_
    obtain ⟨yP,zP,rfl⟩:=qE.form
    replace hZ:=hZ.cmp r1 [33] (fun _ h=>h.elim) rfl
    refine AN [(23,[18])] hZ ?_
    refine AP (fuel:=4) [] [(21,true)] rfl ?_
    refine Cq rfl rfl rfl ?_
    refine AC ?_
    refine AD (i:=22) rfl ?_
    replace r9:=((r9.st p1).st q1).st r1
    refine AQ 36 xP (xs:=([(⟨n7,0,o7,q7⟩:Opr)]:List Opr)) rfl rfl rfl ⟨(Vb.ofAgg (cs:=[(.string n7),(.int .i64 0),(.slice sP o7.length tP),(.slice yP q7.length zP)]) (x:=(⟨n7,0,o7,q7⟩:Opr)) rfl ⟨_,_,rfl,r9,qE,(iI64 0),(GP v8)⟩),trivial⟩ fun g1308 w1309 O1310 c2 aQ=>?_
    have hZ:=lZ c2
    refine AN [(23,[18])] hZ ?_
    refine AD (i:=23) rfl ?_
    obtain ⟨r7,bQ,cQ⟩:=AI r7
    replace g2:=((((((g2.st f0).st e1).st f1).st p1).st q1).st r1).st c2
    refine AZ rfl g2 (aQ.rd) rfl rfl bQ cQ fun rE sE w1318 dQ o2 tE=>?_
    rw [← r7] at tE ⊢
    have hZ:=o2.lst [18] (fun _ h=>by cases h;decide)
    refine AN [] hZ ?_
    refine AP (fuel:=1) [] [(24,true)] rfl ?_
    refine AT rfl rfl (AC ?_)
    refine AD (i:=25) rfl ?_
    replace b0:=(((((((b0.st f0).st e1).st f1).st p1).st q1).st r1).st c2).st o2
    refine Az b0 rfl rfl rfl (AJ) (allOne) fun eQ y2 b0=>?_
    replace b0:Lc 6 eQ dQ r0 31 [(.slice s0 a0.vars.length t0),(.slice u0 v2.length v0),(.slice r2 q0.length s2),(.slice rE fB.length sE)]:=b0
    refine BF ?_
    refine Bv ?_
    obtain rfl:=sm j0
    exact show Exists _ from ⟨_,(rE,sE),rfl,⟨rfl,rfl,rfl,rfl,rfl,rfl,rfl,rfl,rfl,rfl,rfl,rfl,trivial⟩,_,((((((((hB.st f0).st e1).st f1).st p1).st q1).st r1).st c2).st o2).st y2,((((((((s3.st f0).st e1).st f1).st p1).st q1).st r1).st c2).st o2).st y2,((((((((h7.st f0).st e1).st f1).st p1).st q1).st r1).st c2).st o2).st y2,((((((((a4.st f0).st e1).st f1).st p1).st q1).st r1).st c2).st o2).st y2,((((((((b4.st f0).st e1).st f1).st p1).st q1).st r1).st c2).st o2).st y2,((((((((t3.st f0).st e1).st f1).st p1).st q1).st r1).st c2).st o2).st y2,((((((((j1.st f0).st e1).st f1).st p1).st q1).st r1).st c2).st o2).st y2,((((((((p0.st f0).st e1).st f1).st p1).st q1).st r1).st c2).st o2).st y2,((((((((a1.st f0).st e1).st f1).st p1).st q1).st r1).st c2).st o2).st y2,((((((((y1.st f0).st e1).st f1).st p1).st q1).st r1).st c2).st o2).st y2,((((((((e2.st f0).st e1).st f1).st p1).st q1).st r1).st c2).st o2).st y2,((((((((u2.st f0).st e1).st f1).st p1).st q1).st r1).st c2).st o2).st y2,((((((((z1.st f0).st e1).st f1).st p1).st q1).st r1).st c2).st o2).st y2,b0,((((((((h0.st f0).st e1).st f1).st p1).st q1).st r1).st c2).st o2).st y2,((((((((e0.st f0).st e1).st f1).st p1).st q1).st r1).st c2).st o2).st y2,((((((((o0.st f0).st e1).st f1).st p1).st q1).st r1).st c2).st o2).st y2,tE.st y2,((((((((b1.st f0).st e1).st f1).st p1).st q1).st r1).st c2).st o2).st y2,((((((((g3.st f0).st e1).st f1).st p1).st q1).st r1).st c2).st o2).st y2,((((((((w2.st f0).st e1).st f1).st p1).st q1).st r1).st c2).st o2).st y2,((((((((h3.st f0).st e1).st f1).st p1).st q1).st r1).st c2).st o2).st y2,((((((((i3.st f0).st e1).st f1).st p1).st q1).st r1).st c2).st o2).st y2,((((((((j3.st f0).st e1).st f1).st p1).st q1).st r1).st c2).st o2).st y2⟩
   refine AQ 35 cB (xs:=([(⟨a0.phase,m7⟩:Fct)]:List Fct)) rfl rfl rfl ⟨(Vb.ofAgg (cs:=[(.int .i64 a0.phase),(.int .i64 m7)]) (x:=(⟨a0.phase,m7⟩:Fct)) rfl ⟨rfl,z9,gB⟩),trivial⟩ fun g1325 w1326 fQ g1 jB=>?_
   have hZ:=lZ g1
   refine AN [(19,[33]),(20,[33]),(23,[18])] hZ ?_
   refine AD (i:=7) rfl ?_
   refine AM (O:=fQ) (Hk (fun _ h=>h) rk1057 kE) rfl fun v1335 w1331 gQ y0 hQ=>?_
   obtain ⟨rfl,z1336⟩:=hQ.str
   have hZ:=lZ y0
   refine AN [(19,[33]),(20,[33]),(23,[18])] hZ ?_
   refine AP (fuel:=8) [33] [(8,true)] rfl ?_
   refine Hq (he:=v8) rfl rfl rfl ?_
   refine AC ?_
   refine AD (i:=11) rfl ?_
   replace m4:=(m4.st g1).st y0
   refine Cc (O:=gQ) (En Fr.lt m4 lJ dB) rfl fun v1341 w1337 O1338 h1 t9=>?_
   obtain ⟨iQ,jQ,rfl⟩:=t9.form
   have hZ:=lZ h1
   refine AN [(19,[33]),(20,[33]),(23,[18])] hZ ?_
   refine AD (i:=19) rfl ?_
   obtain ⟨p7,kQ,lQ⟩:=AI p7
   replace l7:=((l7.st g1).st y0).st h1
   replace jB:=(jB.st y0).st h1
   refine AZ rfl l7 (jB.rd) rfl rfl kQ lQ fun A1346 c1347 w1348 O1349 s1 u9=>?_
   rw [← p7] at u9 ⊢
   have hZ:=s1.lst [33] (fun _ h=>by cases h;decide)
   refine AN [(20,[33]),(23,[18])] hZ ?_
   refine AD (i:=20) rfl ?_
   obtain ⟨mQ,t1,u9⟩:=u9.freeze
   have hZ:=t1.lst [33] (fun _ h=>by cases h;decide)
   refine Cc (O:=mQ) (ED Fr.lt u9 eB) rfl fun v1359 w1355 nQ u1 uE=>?_
   obtain ⟨oQ,pQ,rfl⟩:=uE.form
   replace hZ:=hZ.cmp u1 [33] (fun _ h=>h.elim) rfl
   refine AN [(23,[18])] hZ ?_
   refine AP (fuel:=4) [] [(21,true)] rfl ?_
   refine Cq rfl rfl rfl ?_
   refine AC ?_
   refine AD (i:=22) rfl ?_
   replace t9:=((t9.st s1).st t1).st u1
   refine AQ 36 nQ (xs:=([(⟨n7,0,o7,q7⟩:Opr)]:List Opr)) rfl rfl rfl ⟨(Vb.ofAgg (cs:=[(.string n7),(.int .i64 0),(.slice iQ o7.length jQ),(.slice oQ q7.length pQ)]) (x:=(⟨n7,0,o7,q7⟩:Opr)) rfl ⟨_,_,rfl,t9,uE,(iI64 0),(GP v8)⟩),trivial⟩ fun g1362 w1363 O1364 d2 qQ=>?_
   have hZ:=lZ d2
   refine AN [(23,[18])] hZ ?_
   refine AD (i:=23) rfl ?_
   obtain ⟨r7,rQ,sQ⟩:=AI r7
   replace g2:=((((((g2.st g1).st y0).st h1).st s1).st t1).st u1).st d2
   refine AZ rfl g2 (qQ.rd) rfl rfl rQ sQ fun vE wE w1372 tQ p2 xE=>?_
   rw [← r7] at xE ⊢
   have hZ:=p2.lst [18] (fun _ h=>by cases h;decide)
   refine AN [] hZ ?_
   refine AP (fuel:=1) [] [(24,true)] rfl ?_
   refine AT rfl rfl (AC ?_)
   refine AD (i:=25) rfl ?_
   replace b0:=(((((((b0.st g1).st y0).st h1).st s1).st t1).st u1).st d2).st p2
   refine Az b0 rfl rfl rfl (AJ) (allOne) fun uQ z2 b0=>?_
   replace b0:Lc 6 uQ tQ r0 31 [(.slice s0 a0.vars.length t0),(.slice u0 v2.length v0),(.slice r2 q0.length s2),(.slice vE fB.length wE)]:=b0
   refine BF ?_
   refine Bv ?_
   obtain rfl:=sm j0
   exact show Exists _ from ⟨_,(vE,wE),rfl,⟨rfl,rfl,rfl,rfl,rfl,rfl,rfl,rfl,rfl,rfl,rfl,rfl,trivial⟩,_,((((((((hB.st g1).st y0).st h1).st s1).st t1).st u1).st d2).st p2).st z2,((((((((s3.st g1).st y0).st h1).st s1).st t1).st u1).st d2).st p2).st z2,((((((((h7.st g1).st y0).st h1).st s1).st t1).st u1).st d2).st p2).st z2,((((((((a4.st g1).st y0).st h1).st s1).st t1).st u1).st d2).st p2).st z2,((((((((b4.st g1).st y0).st h1).st s1).st t1).st u1).st d2).st p2).st z2,((((((((t3.st g1).st y0).st h1).st s1).st t1).st u1).st d2).st p2).st z2,((((((((j1.st g1).st y0).st h1).st s1).st t1).st u1).st d2).st p2).st z2,((((((((p0.st g1).st y0).st h1).st s1).st t1).st u1).st d2).st p2).st z2,((((((((a1.st g1).st y0).st h1).st s1).st t1).st u1).st d2).st p2).st z2,((((((((y1.st g1).st y0).st h1).st s1).st t1).st u1).st d2).st p2).st z2,((((((((e2.st g1).st y0).st h1).st s1).st t1).st u1).st d2).st p2).st z2,((((((((u2.st g1).st y0).st h1).st s1).st t1).st u1).st d2).st p2).st z2,((((((((z1.st g1).st y0).st h1).st s1).st t1).st u1).st d2).st p2).st z2,b0,((((((((h0.st g1).st y0).st h1).st s1).st t1).st u1).st d2).st p2).st z2,((((((((e0.st g1).st y0).st h1).st s1).st t1).st u1).st d2).st p2).st z2,((((((((o0.st g1).st y0).st h1).st s1).st t1).st u1).st d2).st p2).st z2,xE.st z2,((((((((b1.st g1).st y0).st h1).st s1).st t1).st u1).st d2).st p2).st z2,((((((((g3.st g1).st y0).st h1).st s1).st t1).st u1).st d2).st p2).st z2,((((((((w2.st g1).st y0).st h1).st s1).st t1).st u1).st d2).st p2).st z2,((((((((h3.st g1).st y0).st h1).st s1).st t1).st u1).st d2).st p2).st z2,((((((((i3.st g1).st y0).st h1).st s1).st t1).st u1).st d2).st p2).st z2,((((((((j3.st g1).st y0).st h1).st s1).st t1).st u1).st d2).st p2).st z2⟩
  replace hB:=(hB.st m0).st n0
  replace h7:=(h7.st m0).st n0
  replace a4:=(a4.st m0).st n0
  replace b4:=(b4.st m0).st n0
  replace t3:=(t3.st m0).st n0
  replace s3:=(s3.st m0).st n0
  replace j1:=(j1.st m0).st n0
  replace a1:=(a1.st m0).st n0
  replace y1:=(y1.st m0).st n0
  replace e2:=(e2.st m0).st n0
  replace u2:=(u2.st m0).st n0
  replace z1:=(z1.st m0).st n0
  replace p0:=(p0.st m0).st n0
  replace b0:=(b0.st m0).st n0
  replace h0:=(h0.st m0).st n0
  replace e0:=(e0.st m0).st n0
  replace o0:=(o0.st m0).st n0
  rintro l1379 w1380 ⟨s1383,yE,rfl,f6,O1381,hB,s3,h7,a4,b4,t3,j1,p0,a1,y1,e2,u2,z1,b0,h0,e0,o0,g2⟩
  replace m5:=AR m5
  obtain rfl:=sm m5
  exact show Exists _ from ⟨_,(yE.1,yE.2),rfl,⟨(Ar f6 _ _ rfl),(Ar f6 _ _ rfl),(Ar f6 _ _ rfl),(Ar f6 _ _ rfl),(Ar f6 _ _ rfl),(Ar f6 _ _ rfl),(Ar f6 _ _ rfl),(Ar f6 _ _ rfl),trivial⟩,_,hB,s3,h7,a4,b4,t3,j1,p0,a1,y1,e2,u2,z1,b0,h0,e0,o0,g2⟩
 replace hB:=((((((hB.st a3).st b3).st t2).st d3).st c3).st e3).st f3
 replace h7:=((((((h7.st a3).st b3).st t2).st d3).st c3).st e3).st f3
 replace a4:=((((((a4.st a3).st b3).st t2).st d3).st c3).st e3).st f3
 replace b4:=((((((b4.st a3).st b3).st t2).st d3).st c3).st e3).st f3
 replace j1:=((((((j1.st a3).st b3).st t2).st d3).st c3).st e3).st f3
 replace a1:=((((((a1.st a3).st b3).st t2).st d3).st c3).st e3).st f3
 replace y1:=((((((y1.st a3).st b3).st t2).st d3).st c3).st e3).st f3
 replace e2:=((((((e2.st a3).st b3).st t2).st d3).st c3).st e3).st f3
 replace u2:=((((((u2.st a3).st b3).st t2).st d3).st c3).st e3).st f3
 replace z1:=((((((z1.st a3).st b3).st t2).st d3).st c3).st e3).st f3
 replace p0:=(((p0.st d3).st c3).st e3).st f3
 replace h0:=((((((h0.st a3).st b3).st t2).st d3).st c3).st e3).st f3
 replace e0:=((((((e0.st a3).st b3).st t2).st d3).st c3).st e3).st f3
 replace o0:=((((o0.st t2).st d3).st c3).st e3).st f3
 rintro l1385 w1386 ⟨n4,k3,rfl,nI,vQ,hB,s3,h7,a4,b4,t3,j1,p0,a1,y1,e2,u2,z1,b0,h0,e0,o0,w0⟩
 replace hm:=AR hm
 refine AH _ nI ?_
 refine Ab (Aa (Ax rfl (At (hc:=Blk.cell (i:=4) (p0.1) rfl) rfl ?_)))
 refine Ax rfl (At (hc:=Blk.cell (i:=3) (s3.1) rfl) rfl ?_)
 refine AS rfl ?_
 have wQ:x0.jobs.length≤9223372036854775807:=Nat.le_trans t3.len.2.1 t3.len.2.2
 have r1391:inI64 (x0.jobs.length:Int):=rngNat wQ
 obtain ⟨v1,zE,hm⟩:=bs hm
 have xQ:=(Bq zE)
 refine Dn (he:=zE) rfl rfl ?_
 refine Cl rfl rfl ?_
 refine AQ 37 vQ (xs:=([(⟨a0.phase,v1⟩:Fct)]:List Fct)) rfl rfl rfl ⟨(Vb.ofAgg (cs:=[(.int .i64 a0.phase),(.int .i64 v1)]) (x:=(⟨a0.phase,v1⟩:Fct)) rfl ⟨rfl,z9,xQ⟩),trivial⟩ fun c4 w1397 yQ q2 i1=>?_
 refine Cl rfl rfl ?_
 refine AU 38 yQ fun o4 w1403 aF w1 g0=>?_
 refine Az g0 rfl rfl rfl (AJ) (allOne) fun zQ x1 g0=>?_
 replace g0:Lc 38 zQ aF o4 82 [(.string (⟨#[97,100,118,97,110,99,101]⟩:ByteArray)),(.int .i64 1),(.slice (some ⟨c4,0,none⟩) [(⟨a0.phase,v1⟩:Fct)].length 1),(.slice none 0 0)]:=g0
 refine o_z ?_
 refine Ab (Ab (Aa (Ax rfl ?_)))
 replace p0:=((p0.st q2).st w1).st x1
 refine At (hc:=Blk.cell (i:=1) (p0.1) rfl) rfl ?_
 refine AS rfl ?_
 replace y1:=((y1.st q2).st w1).st x1
 have kB:a0.flag.length≤9223372036854775807:=Nat.le_trans y1.len.2.1 y1.len.2.2
 have r1409:inI64 (a0.flag.length:Int):=rngNat kB
 refine Ak rfl (o_z ?_)
 obtain ⟨qD,oI,hm⟩:=bs hm
 refine Ay (aft qD (fun (l6:(List Eff)) (o5:(Option Addr×Nat))=>[(2,(.pointer (some ⟨n5,0,none⟩))),(3,(.pointer (some ⟨p5,0,none⟩))),(5,(.pointer (some ⟨r0,0,none⟩))),(16,(.pointer (some ⟨o4,0,none⟩)))]) (fun l6 o5 w'=>∃ O':Lab,Bs w A w' O'∧Lc 3 w' O' n5 31 [(.slice none 0 0),(.slice none 0 0),(.slice none 0 0),(.slice none 0 0)]∧Lc 4 w' O' p5 97 [(.slice p6 a0.state.length q6),(.slice j6 a0.flag.length k6),(.slice r6 a0.write.length s6),(.slice t6 a0.read.length u6),(.int .i64 a0.phase),(.slice h6 a0.vars.length i6)]∧Vb w' (Fr 0 w' O') (.slice p6 a0.state.length q6) a0.state∧Vb w' (Fr 0 w' O') (.slice j6 a0.flag.length k6) a0.flag∧Vb w' (Fr 0 w' O') (.slice r6 a0.write.length s6) a0.write∧Vb w' (Fr 0 w' O') (.slice t6 a0.read.length u6) a0.read∧Vb w' (Fr 0 w' O') (.slice h6 a0.vars.length i6) a0.vars∧Lc 6 w' O' r0 31 [(.slice s0 a0.vars.length t0),(.slice u0 v2.length v0),(.slice r2 q0.length s2),(.slice k3.1 n4.length k3.2)]∧Vb w' (Fr 0 w' O') (.slice s0 a0.vars.length t0) a0.vars∧Rw 5 w' O' 3 (.slice u0 v2.length v0) (cpyL v2 x0.init)∧Vb w' (Fr 0 w' O') (.slice r2 q0.length s2) q0∧Rw 18 w' O' 82 (.slice k3.1 n4.length k3.2) n4∧Lc 38 w' O' o4 82 [(.string (⟨#[97,100,118,97,110,99,101]⟩:ByteArray)),(.int .i64 1),(.slice (some ⟨c4,0,none⟩) [(⟨a0.phase,v1⟩:Fct)].length 1),(.slice o5.1 l6.length o5.2)]∧Rw 37 w' O' 78 (.slice (some ⟨c4,0,none⟩) [(⟨a0.phase,v1⟩:Fct)].length 1) [(⟨a0.phase,v1⟩:Fct)]∧Rw 39 w' O' 85 (.slice o5.1 l6.length o5.2) l6)) ?_ ?_
 ·
  refine AK ?_
  replace hB:=((hB.st q2).st w1).st x1
  replace j1:=((j1.st q2).st w1).st x1
  replace a1:=((a1.st q2).st w1).st x1
  replace e2:=((e2.st q2).st w1).st x1
  replace u2:=((u2.st q2).st w1).st x1
  replace z1:=((z1.st q2).st w1).st x1
  replace b0:=((b0.st q2).st w1).st x1
  replace h0:=((h0.st q2).st w1).st x1
  replace e0:=((e0.st q2).st w1).st x1
  replace o0:=((o0.st q2).st w1).st x1
  replace w0:=((w0.st q2).st w1).st x1
  replace i1:=(i1.st w1).st x1
  refine AY (σ:=(List Eff)) (X:=(Option Addr×Nat)) (a0.flag.length) oI rfl kB (fun (l6:(List Eff)) (o5:(Option Addr×Nat))=>[(2,(.pointer (some ⟨n5,0,none⟩))),(3,(.pointer (some ⟨p5,0,none⟩))),(5,(.pointer (some ⟨r0,0,none⟩))),(16,(.pointer (some ⟨o4,0,none⟩))),(296,(.slice j6 a0.flag.length k6))]) _ (fun l6 o5 w'=>∃ O':Lab,Bs w A w' O'∧Lc 3 w' O' n5 31 [(.slice none 0 0),(.slice none 0 0),(.slice none 0 0),(.slice none 0 0)]∧Lc 4 w' O' p5 97 [(.slice p6 a0.state.length q6),(.slice j6 a0.flag.length k6),(.slice r6 a0.write.length s6),(.slice t6 a0.read.length u6),(.int .i64 a0.phase),(.slice h6 a0.vars.length i6)]∧Vb w' (Fr 0 w' O') (.slice p6 a0.state.length q6) a0.state∧Vb w' (Fr 0 w' O') (.slice j6 a0.flag.length k6) a0.flag∧Vb w' (Fr 0 w' O') (.slice r6 a0.write.length s6) a0.write∧Vb w' (Fr 0 w' O') (.slice t6 a0.read.length u6) a0.read∧Vb w' (Fr 0 w' O') (.slice h6 a0.vars.length i6) a0.vars∧Lc 6 w' O' r0 31 [(.slice s0 a0.vars.length t0),(.slice u0 v2.length v0),(.slice r2 q0.length s2),(.slice k3.1 n4.length k3.2)]∧Vb w' (Fr 0 w' O') (.slice s0 a0.vars.length t0) a0.vars∧Rw 5 w' O' 3 (.slice u0 v2.length v0) (cpyL v2 x0.init)∧Vb w' (Fr 0 w' O') (.slice r2 q0.length s2) q0∧Rw 18 w' O' 82 (.slice k3.1 n4.length k3.2) n4∧Lc 38 w' O' o4 82 [(.string (⟨#[97,100,118,97,110,99,101]⟩:ByteArray)),(.int .i64 1),(.slice (some ⟨c4,0,none⟩) [(⟨a0.phase,v1⟩:Fct)].length 1),(.slice o5.1 l6.length o5.2)]∧Rw 37 w' O' 78 (.slice (some ⟨c4,0,none⟩) [(⟨a0.phase,v1⟩:Fct)].length 1) [(⟨a0.phase,v1⟩:Fct)]∧Rw 39 w' O' 85 (.slice o5.1 l6.length o5.2) l6) _ (none,0) ⟨aF,hB,j1,p0,a1,y1,e2,u2,z1,b0,h0,e0,o0,w0,g0,i1,(Rw.nil 39 (by decide))⟩ ⟨rfl,rfl,rfl,rfl,rfl,rfl,rfl,trivial⟩ (fun _ _=>⟨rfl,rfl⟩) (fun _ _=>⟨rfl,rfl,rfl,rfl,trivial⟩) (fun _ _ _ ⟨O',hB,j1,p0,a1,y1,e2,u2,z1,b0,h0,e0,o0,w0,g0,i1,w8⟩=>⟨O',hB,j1,p0,a1,y1,e2,u2,z1,b0,h0,e0,o0,w0,g0,i1,w8⟩) ⟨rfl,rfl,rfl⟩ ⟨rfl,rfl⟩ ?_
  rintro aR lB l6 o5 w1417 uY mB ⟨O1418,hB,j1,p0,a1,y1,e2,u2,z1,b0,h0,e0,o0,w0,g0,i1,w8⟩ i9 bR cR
  have rk1415:inI64 (aR:Int):=rngK mB kB
  refine Ab (Aa ?_)
  obtain ⟨b1430,o1431,vY,pI,qI,rI,rfl,dR⟩:=y1.elem' mB
  refine Bi (hA:=pI) (hj:=rfl) (hlt:=qI) rfl rfl ?_
  refine At (hc:=cat0 rI) rfl ?_
  refine Am rfl (o_z ?_)
  refine Aa (Ax rfl (At (hc:=Blk.cell (i:=3) (g0.1) rfl) rfl ?_))
  refine Ak rfl (Cl rfl rfl ?_)
  obtain ⟨eR,nB,i9⟩:=bs i9
  obtain ⟨nB,fR,gR⟩:=AI nB
  refine BC rfl (a:=(⟨([]:List Fct),lB,0⟩:Eff)) w8 (Vb.ofAgg (cs:=[(.slice none 0 0),(.int .i64 lB),(.int .i64 0)]) (x:=(⟨([]:List Fct),lB,0⟩:Eff)) rfl ⟨_,rfl,(Vb.nil _ _),dR,(iI64 0)⟩) (fun _=>rfl) rfl fR gR ⟨rfl,rfl⟩ fun g1442 bF cF w1445 hR p4 dF=>?_
  rw [← nB] at dF ⊢
  refine Ax rfl ?_
  replace g0:=g0.st p4
  refine Az g0 rfl rfl rfl (AJ) (allOne) fun iR q4 g0=>?_
  replace g0:Lc 38 iR hR o4 82 [(.string (⟨#[97,100,118,97,110,99,101]⟩:ByteArray)),(.int .i64 1),(.slice (some ⟨c4,0,none⟩) [(⟨a0.phase,v1⟩:Fct)].length 1),(.slice bF eR.length cF)]:=g0
  refine o_z ?_
  obtain rfl:=sm i9
  exact show Exists _ from ⟨_,(bF,cF),rfl,⟨rfl,rfl,rfl,rfl,rfl,rfl,rfl,trivial⟩,_,(hB.st p4).st q4,(j1.st p4).st q4,(p0.st p4).st q4,(a1.st p4).st q4,(y1.st p4).st q4,(e2.st p4).st q4,(u2.st p4).st q4,(z1.st p4).st q4,(b0.st p4).st q4,(h0.st p4).st q4,(e0.st p4).st q4,(o0.st p4).st q4,(w0.st p4).st q4,g0,(i1.st p4).st q4,dF.st q4⟩
 replace hB:=((hB.st q2).st w1).st x1
 replace j1:=((j1.st q2).st w1).st x1
 replace a1:=((a1.st q2).st w1).st x1
 replace e2:=((e2.st q2).st w1).st x1
 replace u2:=((u2.st q2).st w1).st x1
 replace z1:=((z1.st q2).st w1).st x1
 replace b0:=((b0.st q2).st w1).st x1
 replace h0:=((h0.st q2).st w1).st x1
 replace e0:=((e0.st q2).st w1).st x1
 replace o0:=((o0.st q2).st w1).st x1
 replace w0:=((w0.st q2).st w1).st x1
 replace i1:=(i1.st w1).st x1
 rintro l1452 w1453 ⟨s1456,eF,rfl,sI,jR,hB,j1,p0,a1,y1,e2,u2,z1,b0,h0,e0,o0,w0,g0,i1,w8⟩
 replace hm:=AR hm
 refine AH _ sI ?_
 refine Ab (Ab (Aa (Ax rfl (At (hc:=Blk.cell (i:=2) (p0.1) rfl) rfl ?_))))
 refine AS rfl ?_
 have oB:a0.write.length≤9223372036854775807:=Nat.le_trans e2.len.2.1 e2.len.2.2
 have r1458:inI64 (a0.write.length:Int):=rngNat oB
 refine Ak rfl (o_z ?_)
 obtain ⟨rD,tI,hm⟩:=bs hm
 refine Ay (aft rD (fun (m6:(List Eff)) (y4:(Option Addr×Nat))=>[(2,(.pointer (some ⟨n5,0,none⟩))),(3,(.pointer (some ⟨p5,0,none⟩))),(5,(.pointer (some ⟨r0,0,none⟩))),(16,(.pointer (some ⟨o4,0,none⟩)))]) (fun m6 y4 w'=>∃ O':Lab,Bs w A w' O'∧Lc 3 w' O' n5 31 [(.slice none 0 0),(.slice none 0 0),(.slice none 0 0),(.slice none 0 0)]∧Lc 4 w' O' p5 97 [(.slice p6 a0.state.length q6),(.slice j6 a0.flag.length k6),(.slice r6 a0.write.length s6),(.slice t6 a0.read.length u6),(.int .i64 a0.phase),(.slice h6 a0.vars.length i6)]∧Vb w' (Fr 0 w' O') (.slice p6 a0.state.length q6) a0.state∧Vb w' (Fr 0 w' O') (.slice j6 a0.flag.length k6) a0.flag∧Vb w' (Fr 0 w' O') (.slice r6 a0.write.length s6) a0.write∧Vb w' (Fr 0 w' O') (.slice t6 a0.read.length u6) a0.read∧Vb w' (Fr 0 w' O') (.slice h6 a0.vars.length i6) a0.vars∧Lc 6 w' O' r0 31 [(.slice s0 a0.vars.length t0),(.slice u0 v2.length v0),(.slice r2 q0.length s2),(.slice k3.1 n4.length k3.2)]∧Vb w' (Fr 0 w' O') (.slice s0 a0.vars.length t0) a0.vars∧Rw 5 w' O' 3 (.slice u0 v2.length v0) (cpyL v2 x0.init)∧Vb w' (Fr 0 w' O') (.slice r2 q0.length s2) q0∧Rw 18 w' O' 82 (.slice k3.1 n4.length k3.2) n4∧Lc 38 w' O' o4 82 [(.string (⟨#[97,100,118,97,110,99,101]⟩:ByteArray)),(.int .i64 1),(.slice (some ⟨c4,0,none⟩) [(⟨a0.phase,v1⟩:Fct)].length 1),(.slice y4.1 m6.length y4.2)]∧Rw 37 w' O' 78 (.slice (some ⟨c4,0,none⟩) [(⟨a0.phase,v1⟩:Fct)].length 1) [(⟨a0.phase,v1⟩:Fct)]∧Rw 39 w' O' 85 (.slice y4.1 m6.length y4.2) m6)) ?_ ?_
 ·
  refine AK (AY (σ:=(List Eff)) (X:=(Option Addr×Nat)) (a0.write.length) tI rfl oB (fun (m6:(List Eff)) (y4:(Option Addr×Nat))=>[(2,(.pointer (some ⟨n5,0,none⟩))),(3,(.pointer (some ⟨p5,0,none⟩))),(5,(.pointer (some ⟨r0,0,none⟩))),(16,(.pointer (some ⟨o4,0,none⟩)))]) _ (fun m6 y4 w'=>∃ O':Lab,Bs w A w' O'∧Lc 3 w' O' n5 31 [(.slice none 0 0),(.slice none 0 0),(.slice none 0 0),(.slice none 0 0)]∧Lc 4 w' O' p5 97 [(.slice p6 a0.state.length q6),(.slice j6 a0.flag.length k6),(.slice r6 a0.write.length s6),(.slice t6 a0.read.length u6),(.int .i64 a0.phase),(.slice h6 a0.vars.length i6)]∧Vb w' (Fr 0 w' O') (.slice p6 a0.state.length q6) a0.state∧Vb w' (Fr 0 w' O') (.slice j6 a0.flag.length k6) a0.flag∧Vb w' (Fr 0 w' O') (.slice r6 a0.write.length s6) a0.write∧Vb w' (Fr 0 w' O') (.slice t6 a0.read.length u6) a0.read∧Vb w' (Fr 0 w' O') (.slice h6 a0.vars.length i6) a0.vars∧Lc 6 w' O' r0 31 [(.slice s0 a0.vars.length t0),(.slice u0 v2.length v0),(.slice r2 q0.length s2),(.slice k3.1 n4.length k3.2)]∧Vb w' (Fr 0 w' O') (.slice s0 a0.vars.length t0) a0.vars∧Rw 5 w' O' 3 (.slice u0 v2.length v0) (cpyL v2 x0.init)∧Vb w' (Fr 0 w' O') (.slice r2 q0.length s2) q0∧Rw 18 w' O' 82 (.slice k3.1 n4.length k3.2) n4∧Lc 38 w' O' o4 82 [(.string (⟨#[97,100,118,97,110,99,101]⟩:ByteArray)),(.int .i64 1),(.slice (some ⟨c4,0,none⟩) [(⟨a0.phase,v1⟩:Fct)].length 1),(.slice y4.1 m6.length y4.2)]∧Rw 37 w' O' 78 (.slice (some ⟨c4,0,none⟩) [(⟨a0.phase,v1⟩:Fct)].length 1) [(⟨a0.phase,v1⟩:Fct)]∧Rw 39 w' O' 85 (.slice y4.1 m6.length y4.2) m6) _ (eF.1,eF.2) ⟨jR,hB,j1,p0,a1,y1,e2,u2,z1,b0,h0,e0,o0,w0,g0,i1,w8⟩ ⟨rfl,rfl,rfl,rfl,rfl,rfl,trivial⟩ (fun _ _=>⟨rfl,rfl⟩) (fun _ _=>⟨rfl,rfl,rfl,rfl,trivial⟩) (fun _ _ _ ⟨O',hB,j1,p0,a1,y1,e2,u2,z1,b0,h0,e0,o0,w0,g0,i1,v7⟩=>⟨O',hB,j1,p0,a1,y1,e2,u2,z1,b0,h0,e0,o0,w0,g0,i1,v7⟩) ⟨rfl,rfl,rfl⟩ ⟨rfl,rfl⟩ ?_)
  rintro pB qB m6 y4 w1466 wY j9 ⟨fF,hB,j1,p0,a1,y1,e2,u2,z1,b0,h0,e0,o0,w0,g0,i1,v7⟩ r3 kR lR
  have rk1464:inI64 (pB:Int):=rngK j9 oB
  refine Ab (Aa (Ak rfl (Am rfl (o_z ?_))))
  refine Ab ?_
  obtain ⟨rB,g6,r3⟩:=bs r3
  refine Ay (fun l' w'=>∃ (b8:(Option Addr×Nat)) (O':Lab),subs l' [(2,(.pointer (some ⟨n5,0,none⟩))),(3,(.pointer (some ⟨p5,0,none⟩))),(5,(.pointer (some ⟨r0,0,none⟩))),(16,(.pointer (some ⟨o4,0,none⟩))),(19,(.int .i64 (pB:Int))),(312,(.int .i64 (a0.write.length:Int))),(313,(.int .i64 (pB:Int)))]∧Bs w A w' O'∧Lc 3 w' O' n5 31 [(.slice none 0 0),(.slice none 0 0),(.slice none 0 0),(.slice none 0 0)]∧Lc 4 w' O' p5 97 [(.slice p6 a0.state.length q6),(.slice j6 a0.flag.length k6),(.slice r6 a0.write.length s6),(.slice t6 a0.read.length u6),(.int .i64 a0.phase),(.slice h6 a0.vars.length i6)]∧Vb w' (Fr 0 w' O') (.slice p6 a0.state.length q6) a0.state∧Vb w' (Fr 0 w' O') (.slice j6 a0.flag.length k6) a0.flag∧Vb w' (Fr 0 w' O') (.slice r6 a0.write.length s6) a0.write∧Vb w' (Fr 0 w' O') (.slice t6 a0.read.length u6) a0.read∧Vb w' (Fr 0 w' O') (.slice h6 a0.vars.length i6) a0.vars∧Lc 6 w' O' r0 31 [(.slice s0 a0.vars.length t0),(.slice u0 v2.length v0),(.slice r2 q0.length s2),(.slice k3.1 n4.length k3.2)]∧Vb w' (Fr 0 w' O') (.slice s0 a0.vars.length t0) a0.vars∧Rw 5 w' O' 3 (.slice u0 v2.length v0) (cpyL v2 x0.init)∧Vb w' (Fr 0 w' O') (.slice r2 q0.length s2) q0∧Rw 18 w' O' 82 (.slice k3.1 n4.length k3.2) n4∧Lc 38 w' O' o4 82 [(.string (⟨#[97,100,118,97,110,99,101]⟩:ByteArray)),(.int .i64 1),(.slice (some ⟨c4,0,none⟩) [(⟨a0.phase,v1⟩:Fct)].length 1),(.slice b8.1 rB.length b8.2)]∧Rw 37 w' O' 78 (.slice (some ⟨c4,0,none⟩) [(⟨a0.phase,v1⟩:Fct)].length 1) [(⟨a0.phase,v1⟩:Fct)]∧Rw 39 w' O' 85 (.slice b8.1 rB.length b8.2) rB) ?_ ?_
  ·
   refine Ab (Aa (Ax rfl (At (hc:=Blk.cell (i:=2) (p0.1) rfl) rfl ?_)))
   refine Ak rfl ?_
   obtain ⟨b1485,o1486,xY,uI,vI,wI,rfl,r1492⟩:=e2.elem' j9
   refine Bi (hA:=uI) (hj:=rfl) (hlt:=vI) rfl rfl ?_
   refine At (hc:=cat0 wI) rfl ?_
   refine ET rfl rfl (fun sB=>?_) fun sB=>?_
   ·
    replace g6:=ip g6 sB
    refine o_z ?_
    refine Ah rfl (Br [(9,[39])] fF ?_)
    refine AP (fuel:=4) [] [(0,true),(1,true),(2,true),(3,true),(4,true),(5,true),(6,true),(7,true)] rfl ?_
    refine AT rfl rfl (AV (hc:=bCell g0 3 rfl) rfl rfl ?_)
    refine AT rfl rfl (AV (hc:=bCell p0 2 rfl) rfl rfl ?_)
    refine AX rfl rfl ?_
    obtain ⟨b1494,o1495,yY,xI,yI,zI,aJ,rfl,mR⟩:=e2.elem j9
    refine CK (hA:=xI) (hj:=rfl) (hlt:=zI) rfl rfl rfl ?_
    refine AV (hc:=fun w' ⟨O',hq⟩=>cat0 (Bp (hq.agree (i:=0) (by decide)) yI aJ)) rfl rfl ?_
    refine Cq rfl rfl rfl ?_
    refine AC ?_
    refine AD (i:=8) rfl ?_
    refine AQ 40 fF (xs:=([(⟨([]:List Fct),qB,0⟩:Eff)]:List Eff)) rfl rfl rfl ⟨(Vb.ofAgg (cs:=[(.slice none 0 0),(.int .i64 qB),(.int .i64 0)]) (x:=(⟨([]:List Fct),qB,0⟩:Eff)) rfl ⟨_,rfl,(Vb.nil _ _),mR,(iI64 0)⟩),trivial⟩ fun g1502 w1503 O1504 w3 nR=>?_
    have hZ:=lZ w3
    refine AN [(9,[39])] hZ ?_
    refine AD (i:=9) rfl ?_
    obtain ⟨oR,tB,g6⟩:=bs g6
    obtain ⟨tB,pR,qR⟩:=AI tB
    replace v7:=v7.st w3
    refine AZ rfl v7 (nR.rd) rfl rfl pR qR fun gF hF w1514 rR d4 iF=>?_
    rw [← tB] at iF ⊢
    have hZ:=d4.lst [39] (fun _ h=>by cases h;decide)
    refine AN [] hZ ?_
    refine AP (fuel:=1) [] [(10,true)] rfl ?_
    refine AT rfl rfl (AC ?_)
    refine AD (i:=11) rfl ?_
    replace g0:=(g0.st w3).st d4
    refine Az g0 rfl rfl rfl (AJ) (allOne) fun sR r4 g0=>?_
    replace g0:Lc 38 sR rR o4 82 [(.string (⟨#[97,100,118,97,110,99,101]⟩:ByteArray)),(.int .i64 1),(.slice (some ⟨c4,0,none⟩) [(⟨a0.phase,v1⟩:Fct)].length 1),(.slice gF oR.length hF)]:=g0
    refine BF ?_
    refine Bv ?_
    obtain rfl:=sm g6
    exact ⟨(gF,hF),_,⟨rfl,rfl,rfl,rfl,rfl,rfl,rfl,trivial⟩,((hB.st w3).st d4).st r4,((j1.st w3).st d4).st r4,((p0.st w3).st d4).st r4,((a1.st w3).st d4).st r4,((y1.st w3).st d4).st r4,((e2.st w3).st d4).st r4,((u2.st w3).st d4).st r4,((z1.st w3).st d4).st r4,((b0.st w3).st d4).st r4,((h0.st w3).st d4).st r4,((e0.st w3).st d4).st r4,((o0.st w3).st d4).st r4,((w0.st w3).st d4).st r4,g0,((i1.st w3).st d4).st r4,iF.st r4⟩
   replace g6:=im g6 sB
   refine o_z ?_
   refine Ae rfl (AO ?_)
   obtain rfl:=sm g6
   exact ⟨(y4.1,y4.2),_,⟨rfl,rfl,rfl,rfl,rfl,rfl,rfl,trivial⟩,hB,j1,p0,a1,y1,e2,u2,z1,b0,h0,e0,o0,w0,g0,i1,v7⟩
  rintro l1521 w1522 ⟨b8,jF,bJ,hB,j1,p0,a1,y1,e2,u2,z1,b0,h0,e0,o0,w0,g0,i1,v9⟩
  refine AH _ bJ ?_
  refine Ab (Aa (Ax rfl (At (hc:=Blk.cell (i:=3) (p0.1) rfl) rfl ?_)))
  refine Ak rfl ?_
  obtain ⟨a1525,tR,r3⟩:=bs r3
  obtain ⟨b1527,o1528,zY,cJ,dJ,eJ,rfl,r1534⟩:=u2.elem' tR
  refine Bi (hA:=cJ) (hj:=rfl) (hlt:=dJ) rfl rfl ?_
  refine At (hc:=cat0 eJ) rfl ?_
  refine ET rfl rfl (fun uB=>?_) fun uB=>?_
  ·
   replace r3:=ip r3 uB
   refine o_z ?_
   refine Ah rfl (Br [(9,[39])] jF ?_)
   refine AP (fuel:=4) [] [(0,true),(1,true),(2,true),(3,true),(4,true),(5,true),(6,true),(7,true)] rfl ?_
   refine AT rfl rfl (AV (hc:=bCell g0 3 rfl) rfl rfl ?_)
   refine AT rfl rfl (AV (hc:=bCell p0 3 rfl) rfl rfl ?_)
   refine AX rfl rfl ?_
   obtain ⟨vB,uR,r3⟩:=bs r3
   obtain ⟨b1538,o1539,aZ,fJ,gJ,hJ,iJ,rfl,vR⟩:=u2.elem uR
   refine CK (hA:=fJ) (hj:=rfl) (hlt:=hJ) rfl rfl rfl ?_
   refine AV (hc:=fun w' ⟨O',hq⟩=>cat0 (Bp (hq.agree (i:=0) (by decide)) gJ iJ)) rfl rfl ?_
   refine Cq rfl rfl rfl ?_
   refine AC ?_
   refine AD (i:=8) rfl ?_
   refine AQ 41 jF (xs:=([(⟨([]:List Fct),vB,0⟩:Eff)]:List Eff)) rfl rfl rfl ⟨(Vb.ofAgg (cs:=[(.slice none 0 0),(.int .i64 vB),(.int .i64 0)]) (x:=(⟨([]:List Fct),vB,0⟩:Eff)) rfl ⟨_,rfl,(Vb.nil _ _),vR,(iI64 0)⟩),trivial⟩ fun g1546 w1547 O1548 x3 wR=>?_
   have hZ:=lZ x3
   refine AN [(9,[39])] hZ ?_
   refine AD (i:=9) rfl ?_
   obtain ⟨xR,wB,r3⟩:=bs r3
   obtain ⟨wB,yR,zR⟩:=AI wB
   replace v9:=v9.st x3
   refine AZ rfl v9 (wR.rd) rfl rfl yR zR fun kF lF w1558 aS e4 mF=>?_
   rw [← wB] at mF ⊢
   have hZ:=e4.lst [39] (fun _ h=>by cases h;decide)
   refine AN [] hZ ?_
   refine AP (fuel:=1) [] [(10,true)] rfl ?_
   refine AT rfl rfl (AC ?_)
   refine AD (i:=11) rfl ?_
   replace g0:=(g0.st x3).st e4
   refine Az g0 rfl rfl rfl (AJ) (allOne) fun bS s4 g0=>?_
   replace g0:Lc 38 bS aS o4 82 [(.string (⟨#[97,100,118,97,110,99,101]⟩:ByteArray)),(.int .i64 1),(.slice (some ⟨c4,0,none⟩) [(⟨a0.phase,v1⟩:Fct)].length 1),(.slice kF xR.length lF)]:=g0
   refine BF ?_
   refine Bv ?_
   obtain rfl:=sm r3
   exact show Exists _ from ⟨_,(kF,lF),rfl,⟨rfl,rfl,rfl,rfl,rfl,rfl,trivial⟩,_,((hB.st x3).st e4).st s4,((j1.st x3).st e4).st s4,((p0.st x3).st e4).st s4,((a1.st x3).st e4).st s4,((y1.st x3).st e4).st s4,((e2.st x3).st e4).st s4,((u2.st x3).st e4).st s4,((z1.st x3).st e4).st s4,((b0.st x3).st e4).st s4,((h0.st x3).st e4).st s4,((e0.st x3).st e4).st s4,((o0.st x3).st e4).st s4,((w0.st x3).st e4).st s4,g0,((i1.st x3).st e4).st s4,mF.st s4⟩
  replace r3:=im r3 uB
  refine o_z ?_
  refine Ae rfl (AO ?_)
  obtain rfl:=sm r3
  exact show Exists _ from ⟨_,(b8.1,b8.2),rfl,⟨rfl,rfl,rfl,rfl,rfl,rfl,trivial⟩,_,hB,j1,p0,a1,y1,e2,u2,z1,b0,h0,e0,o0,w0,g0,i1,v9⟩
 rintro l1565 w1566 ⟨s1569,x1570,rfl,jJ,O1567,hB,j1,p0,a1,y1,e2,u2,z1,b0,h0,e0,o0,w0,g0,i1,v7⟩
 replace hm:=AR hm
 refine AH _ jJ ?_
 refine Ab (Aa (Ax rfl (At (hc:=Blk.cell (i:=3) (g0.1) rfl) rfl ?_)))
 refine Ax rfl (At (hc:=Blk.cell (i:=4) (p0.1) rfl) rfl ?_)
 refine Cl rfl rfl ?_
 obtain ⟨w9,xB,hm⟩:=bs hm
 obtain ⟨xB,cS,dS⟩:=AI xB
 refine BC rfl (a:=(⟨([]:List Fct),a0.phase,0⟩:Eff)) v7 (Vb.ofAgg (cs:=[(.slice none 0 0),(.int .i64 a0.phase),(.int .i64 0)]) (x:=(⟨([]:List Fct),a0.phase,0⟩:Eff)) rfl ⟨_,rfl,(Vb.nil _ _),z9,(iI64 0)⟩) (fun _=>rfl) rfl cS dS ⟨rfl,rfl⟩ fun g1575 nF oF w1578 eS s7 k8=>?_
 rw [← xB] at k8 ⊢
 refine Ax rfl ?_
 replace g0:=g0.st s7
 refine Az g0 rfl rfl rfl (AJ) (allOne) fun fS t7 g0=>?_
 replace g0:Lc 38 fS eS o4 82 [(.string (⟨#[97,100,118,97,110,99,101]⟩:ByteArray)),(.int .i64 1),(.slice (some ⟨c4,0,none⟩) [(⟨a0.phase,v1⟩:Fct)].length 1),(.slice nF w9.length oF)]:=g0
 refine o_z ?_
 refine Ab (Aa (Ax rfl ?_))
 replace b0:=(b0.st s7).st t7
 refine At (hc:=Blk.cell (i:=3) (b0.1) rfl) rfl ?_
 refine Bd (hl:=rfl) (hc:=(g0.1).cellsAt) rfl ?_
 replace i1:=(i1.st s7).st t7
 obtain ⟨O1585,w7,i1⟩:=i1.freeze
 replace k8:=(k8.st t7).st w7
 obtain ⟨O1587,x7,k8⟩:=k8.freeze
 obtain ⟨x8,yB,hm⟩:=bs hm
 obtain ⟨yB,gS,iS⟩:=AI yB
 replace w0:=(((w0.st s7).st t7).st w7).st x7
 replace i1:=i1.st x7
 refine BC rfl (a:=(⟨(⟨#[97,100,118,97,110,99,101]⟩:ByteArray),1,[(⟨a0.phase,v1⟩:Fct)],w9⟩:Opr)) w0 (Vb.ofAgg (cs:=[(.string (⟨#[97,100,118,97,110,99,101]⟩:ByteArray)),(.int .i64 1),(.slice (some ⟨c4,0,none⟩) [(⟨a0.phase,v1⟩:Fct)].length 1),(.slice nF w9.length oF)]) (x:=(⟨(⟨#[97,100,118,97,110,99,101]⟩:ByteArray),1,[(⟨a0.phase,v1⟩:Fct)],w9⟩:Opr)) rfl ⟨_,_,rfl,i1,k8,(iI64 1),(show (⟨#[97,100,118,97,110,99,101]⟩:ByteArray).size≤9223372036854775807 from by decide)⟩) (fun _=>rfl) rfl gS iS ⟨rfl,rfl⟩ fun g1593 x9 y9 w1596 pF l8 m8=>?_
 rw [← yB] at m8 ⊢
 refine Ax rfl ?_
 replace b0:=((b0.st w7).st x7).st l8
 refine Az b0 rfl rfl rfl (AJ) (allOne) fun jS n8 b0=>?_
 replace b0:Lc 6 jS pF r0 31 [(.slice s0 a0.vars.length t0),(.slice u0 v2.length v0),(.slice r2 q0.length s2),(.slice x9 x8.length y9)]:=b0
 refine o_z ?_
 refine Ab (Aa (Bd (hl:=rfl) (hc:=(b0.1).cellsAt) rfl ?_))
 replace j1:=(((((j1.st s7).st t7).st w7).st x7).st l8).st n8
 refine Az j1 rfl rfl rfl (AJ) (allOne) fun qF y8 j1=>?_
 replace j1:Lc 3 qF pF n5 31 [(.slice s0 a0.vars.length t0),(.slice u0 v2.length v0),(.slice r2 q0.length s2),(.slice x9 x8.length y9)]:=j1
 refine o_z ?_
 refine AF ?_
 replace e0:=((((((e0.st s7).st t7).st w7).st x7).st l8).st n8).st y8
 obtain ⟨O1605,z8,e0⟩:=e0.freeze
 replace m8:=((m8.st n8).st y8).st z8
 obtain ⟨kS,a9,m8⟩:=m8.freeze
 obtain rfl:=sm hm
 replace hB:=((((((((hB.st s7).st t7).st w7).st x7).st l8).st n8).st y8).st z8).st a9
 replace j1:=(j1.st z8).st a9
 replace h0:=((((((((h0.st s7).st t7).st w7).st x7).st l8).st n8).st y8).st z8).st a9
 replace e0:=e0.st a9
 replace o0:=((((((((o0.st s7).st t7).st w7).st x7).st l8).st n8).st y8).st z8).st a9
 exact ret1v rfl (Er (cs:=[(.slice s0 a0.vars.length t0),(.slice u0 v2.length v0),(.slice r2 q0.length s2),(.slice x9 x8.length y9)]) rfl rfl j1.1.cellsAt) ⟨hB.ext,(Vb.mono (F:=Fr 0 qF kS) (Vb.ofAgg (cs:=[(.slice s0 a0.vars.length t0),(.slice u0 v2.length v0),(.slice r2 q0.length s2),(.slice x9 x8.length y9)]) (x:=(⟨a0.vars,(cpyL v2 x0.init),q0,x8⟩:Tsk)) rfl ⟨_,_,_,_,rfl,h0,e0,o0,m8⟩) hB.out)⟩
end
section
open Go Go.RowKit
attribute [local irreducible] ewp owp hwp hwq Ev Evg Fn retPost Res1
noncomputable def FD (x0:Tsk):Option Bool :=
  bnd (if 64 < (x0.vars.length:Int) then (some true) else (if 4096 < (x0.ops.length:Int) then (some true) else (if 64 < (x0.goal.length:Int) then (some true) else (some false))):Option Bool) fun y24=>bnd (rng (ρ:=Bool) (fun (k47:Nat) (a48:Opr) (s45:Bool)=>bnd (if s45=true then (some true) else (if 64 < (a48.pre.length:Int) then (some true) else (if 64 < (a48.effs.length:Int) then (some true) else (some false))):Option Bool) fun y82=>bnd (rng (ρ:=Ctl Bool Bool) (fun (k103:Nat) (a104:Eff) (s101:Bool)=>if s101=true then (some (.next true)) else (if 64 < (a104.cond.length:Int) then (some (.next true)) else (some (.next false)))) a48.effs 0 y82) fun res99=>fin res99 fun (s142:Bool)=>some (.next s142)) x0.ops 0 y24) fun res43=>fin res43 fun (s148:Bool)=>some s148
theorem MU {w:World} {A:Nat→Prop} (hA:∀ k,A k→k < w.heap.size) {vx0:Value} {x0:Tsk} (t1:Vb w A vx0 x0) {r:Bool} (hm:FD x0=some r) :
    Fn prog 55 [vx0] w fun v w'=>Ext w w'∧Vb w' (upA A w w') v r:=by
 obtain ⟨O,hB,b3⟩:=enter hA
 replace t1:=t1.mono b3
 obtain ⟨n4,rfl,v3,v4,v5,v6,rfl,h7,a1,o0,b0⟩:=t1
 obtain ⟨A8,c9,rfl⟩:=h7.form
 obtain ⟨u1,v1,rfl⟩:=a1.form
 obtain ⟨w1,x1,rfl⟩:=o0.form
 obtain ⟨r0,s0,rfl⟩:=b0.form
 refine AL func55 rfl ntmps55 ?_
 unfold FD at hm
 refine Ab (Aa (BL 2 O rfl fun y1 c3 d3 i0 t0=>?_))
 replace t0:Lc 2 c3 d3 y1 31 [(.slice A8 x0.vars.length c9),(.slice u1 x0.init.length v1),(.slice w1 x0.goal.length x1),(.slice r0 x0.ops.length s0)]:=t0
 refine Am rfl (o_z ?_)
 refine Ab ?_
 obtain ⟨e3,c0,hm⟩:=bs hm
 refine Ay (fun l' w'=>∃ (f3:Unit) (O':Lab),subs l' [(1,(.pointer (some ⟨y1,0,none⟩))),(3,(.bool e3))]∧Bs w A w' O'∧Lc 2 w' O' y1 31 [(.slice A8 x0.vars.length c9),(.slice u1 x0.init.length v1),(.slice w1 x0.goal.length x1),(.slice r0 x0.ops.length s0)]∧Vb w' (Fr 0 w' O') (.slice A8 x0.vars.length c9) x0.vars∧Vb w' (Fr 0 w' O') (.slice u1 x0.init.length v1) x0.init∧Vb w' (Fr 0 w' O') (.slice w1 x0.goal.length x1) x0.goal∧Vb w' (Fr 0 w' O') (.slice r0 x0.ops.length s0) x0.ops) ?_ ?_
 ·
  refine Aa (Ax rfl (At (hc:=Blk.cell (i:=0) (t0.1) rfl) rfl ?_))
  refine AS rfl ?_
  replace h7:=h7.st i0
  have g3:x0.vars.length≤9223372036854775807:=Nat.le_trans h7.len.2.1 h7.len.2.2
  have o4:inI64 (x0.vars.length:Int):=rngNat g3
  refine BW rfl rfl (fun z1=>?_) fun z1=>?_
  ·
   replace c0:=ip c0 z1
   refine Ak rfl (Al rfl rfl (Al rfl rfl (Al rfl rfl (Al rfl rfl (Bn rfl rfl (Ak rfl (Al rfl rfl (Al rfl rfl (Al rfl rfl (Al rfl rfl (Bn rfl rfl (Am rfl (o_z ?_)))))))))))))
   obtain rfl:=sm c0
   exact ⟨(),_,⟨rfl,rfl,trivial⟩,hB.st i0,t0,h7,a1.st i0,o0.st i0,b0.st i0⟩
  replace c0:=im c0 z1
  refine Ak rfl (An rfl rfl (Ax rfl (An rfl rfl (At (hc:=Blk.cell (i:=3) (t0.1) rfl) rfl ?_))))
  refine An rfl rfl (AS rfl ?_)
  replace b0:=b0.st i0
  have h3:x0.ops.length≤9223372036854775807:=Nat.le_trans b0.len.2.1 b0.len.2.2
  have p4:inI64 (x0.ops.length:Int):=rngNat h3
  refine An rfl rfl (BW rfl rfl (fun a2=>?_) fun a2=>?_)
  ·
   replace c0:=ip c0 a2
   refine Bc rfl rfl (Ak rfl (Al rfl rfl (Al rfl rfl (Al rfl rfl (Al rfl rfl (Bn rfl rfl (Am rfl (o_z ?_))))))))
   obtain rfl:=sm c0
   exact ⟨(),_,⟨rfl,rfl,trivial⟩,hB.st i0,t0,h7,a1.st i0,o0.st i0,b0⟩
  replace c0:=im c0 a2
  refine Bc rfl rfl (Ak rfl (An rfl rfl (Ax rfl (An rfl rfl (At (hc:=Blk.cell (i:=2) (t0.1) rfl) rfl ?_)))))
  refine An rfl rfl (AS rfl ?_)
  replace o0:=o0.st i0
  have i3:x0.goal.length≤9223372036854775807:=Nat.le_trans o0.len.2.1 o0.len.2.2
  have q4:inI64 (x0.goal.length:Int):=rngNat i3
  refine An rfl rfl (BW rfl rfl (fun b2=>?_) fun b2=>?_)
  ·
   replace c0:=ip c0 b2
   refine Bc rfl rfl (Am rfl (o_z ?_))
   obtain rfl:=sm c0
   exact ⟨(),_,⟨rfl,rfl,trivial⟩,hB.st i0,t0,h7,a1.st i0,o0,b0⟩
  replace c0:=im c0 b2
  refine Bc rfl rfl (Am rfl (o_z ?_))
  obtain rfl:=sm c0
  exact ⟨(),_,⟨rfl,rfl,trivial⟩,hB.st i0,t0,h7,a1.st i0,o0,b0⟩
 replace hB:=hB.st i0
 replace h7:=h7.st i0
 replace a1:=a1.st i0
 replace o0:=o0.st i0
 replace b0:=b0.st i0
 rintro r4 s4 ⟨f3,j3,c2,hB,t0,h7,a1,o0,b0⟩
 refine AH _ c2 ?_
 refine Ab (Ab (Aa (Ax rfl (At (hc:=Blk.cell (i:=3) (t0.1) rfl) rfl ?_))))
 refine AS rfl ?_
 have d2:x0.ops.length≤9223372036854775807:=Nat.le_trans b0.len.2.1 b0.len.2.2
 have t4:inI64 (x0.ops.length:Int):=rngNat d2
 refine Ak rfl (o_z ?_)
 obtain ⟨e1,e2,hm⟩:=bs hm
 refine Ay (aft e1 (fun (c1:Bool) (p1:Unit)=>[(3,(.bool c1))]) (fun c1 p1 w'=>∃ O':Lab,Bs w A w' O')) ?_ ?_
 ·
  refine AK (AY (σ:=Bool) (X:=Unit) (x0.ops.length) e2 rfl d2 (fun (c1:Bool) (p1:Unit)=>[(3,(.bool c1)),(25,(.slice r0 x0.ops.length s0))]) _ (fun c1 p1 w'=>∃ O':Lab,Bs w A w' O'∧Vb w' (Fr 0 w' O') (.slice r0 x0.ops.length s0) x0.ops) _ () ⟨j3,hB,b0⟩ ⟨rfl,rfl,rfl,rfl,trivial⟩ (fun _ _=>⟨rfl,rfl⟩) (fun _ _=>⟨rfl,trivial⟩) (fun _ _ _ ⟨O',hB,b0⟩=>⟨O',hB⟩) ⟨rfl,rfl,rfl⟩ ⟨rfl,rfl⟩ ?_)
  rintro q1 e0 c1 p1 u4 k3 f1 ⟨l3,hB,b0⟩ l0 f2 g2
  have rk47:inI64 (q1:Int):=rngK f1 d2
  refine Ab (Aa ?_)
  obtain ⟨w4,x4,m3,h2,i2,j2,y4,z4,rfl,p0,f0,a5,b5⟩:=b0.elem' f1
  obtain ⟨k2,l2,rfl⟩:=p0.form
  obtain ⟨g1,h1,rfl⟩:=f0.form
  refine Bi (hA:=h2) (hj:=rfl) (hlt:=i2) rfl rfl ?_
  refine Bd (hl:=rfl) (hc:=j2) rfl ?_
  refine AU 3 l3 fun m2 c5 n3 j0 q0=>?_
  refine Az q0 rfl rfl rfl (AJ) (allOne) fun o3 k0 q0=>?_
  replace q0:Lc 3 o3 n3 m2 82 [(.string e0.name),(.int .i64 e0.cost),(.slice k2 e0.pre.length l2),(.slice g1 e0.effs.length h1)]:=q0
  refine o_z ?_
  refine Ab ?_
  obtain ⟨p3,d0,l0⟩:=bs l0
  refine Ay (fun l' w'=>∃ (q3:Unit) (O':Lab),subs l' [(3,(.bool p3)),(5,(.pointer (some ⟨m2,0,none⟩))),(25,(.slice r0 x0.ops.length s0)),(26,(.int .i64 (x0.ops.length:Int))),(27,(.int .i64 (q1:Int)))]∧Bs w A w' O'∧Lc 3 w' O' m2 82 [(.string e0.name),(.int .i64 e0.cost),(.slice k2 e0.pre.length l2),(.slice g1 e0.effs.length h1)]∧Vb w' (Fr 0 w' O') (.slice k2 e0.pre.length l2) e0.pre∧Vb w' (Fr 0 w' O') (.slice g1 e0.effs.length h1) e0.effs∧Vb w' (Fr 0 w' O') (.slice r0 x0.ops.length s0) x0.ops) ?_ ?_
  ·
   refine Aa (Ak rfl (Ak rfl ?_))
   rcases Bool.eq_false_or_eq_true c1 with i1|i1
   ·
    try rw [i1]
    replace d0:=ip d0 i1
    refine Al rfl rfl (Al rfl rfl (Al rfl rfl (Al rfl rfl (Bn rfl rfl (Ak rfl (Al rfl rfl (Al rfl rfl (Al rfl rfl (Al rfl rfl (Bn rfl rfl (Am rfl (o_z ?_))))))))))))
    obtain rfl:=sm d0
    exact ⟨(),_,⟨rfl,rfl,rfl,rfl,rfl,trivial⟩,(hB.st j0).st k0,q0,(p0.st j0).st k0,(f0.st j0).st k0,(b0.st j0).st k0⟩
   try rw [i1]
   replace d0:=im' d0 i1
   refine An rfl rfl (Ax rfl (An rfl rfl (At (hc:=Blk.cell (i:=2) (q0.1) rfl) rfl ?_)))
   refine An rfl rfl (AS rfl ?_)
   replace p0:=(p0.st j0).st k0
   have r3:e0.pre.length≤9223372036854775807:=Nat.le_trans p0.len.2.1 p0.len.2.2
   have d5:inI64 (e0.pre.length:Int):=rngNat r3
   refine An rfl rfl (BW rfl rfl (fun n2=>?_) fun n2=>?_)
   ·
    replace d0:=ip d0 n2
    refine Bc rfl rfl (Ak rfl (Al rfl rfl (Al rfl rfl (Al rfl rfl (Al rfl rfl (Bn rfl rfl (Am rfl (o_z ?_))))))))
    obtain rfl:=sm d0
    exact ⟨(),_,⟨rfl,rfl,rfl,rfl,rfl,trivial⟩,(hB.st j0).st k0,q0,p0,(f0.st j0).st k0,(b0.st j0).st k0⟩
   replace d0:=im d0 n2
   refine Bc rfl rfl (Ak rfl (An rfl rfl (Ax rfl (An rfl rfl (At (hc:=Blk.cell (i:=3) (q0.1) rfl) rfl ?_)))))
   refine An rfl rfl (AS rfl ?_)
   replace f0:=(f0.st j0).st k0
   have s3:e0.effs.length≤9223372036854775807:=Nat.le_trans f0.len.2.1 f0.len.2.2
   have e5:inI64 (e0.effs.length:Int):=rngNat s3
   refine An rfl rfl (BW rfl rfl (fun o2=>?_) fun o2=>?_)
   ·
    replace d0:=ip d0 o2
    refine Bc rfl rfl (Am rfl (o_z ?_))
    obtain rfl:=sm d0
    exact ⟨(),_,⟨rfl,rfl,rfl,rfl,rfl,trivial⟩,(hB.st j0).st k0,q0,p0,f0,(b0.st j0).st k0⟩
   replace d0:=im d0 o2
   refine Bc rfl rfl (Am rfl (o_z ?_))
   obtain rfl:=sm d0
   exact ⟨(),_,⟨rfl,rfl,rfl,rfl,rfl,trivial⟩,(hB.st j0).st k0,q0,p0,f0,(b0.st j0).st k0⟩
  replace hB:=(hB.st j0).st k0
  replace b0:=(b0.st j0).st k0
  replace p0:=(p0.st j0).st k0
  replace f0:=(f0.st j0).st k0
  rintro f5 g5 ⟨q3,t3,p2,hB,q0,p0,f0,b0⟩
  refine AH _ p2 ?_
  refine Ab (Aa (Ax rfl (At (hc:=Blk.cell (i:=3) (q0.1) rfl) rfl ?_)))
  refine AS rfl ?_
  have q2:e0.effs.length≤9223372036854775807:=Nat.le_trans f0.len.2.1 f0.len.2.2
  have h5:inI64 (e0.effs.length:Int):=rngNat q2
  refine Ak rfl (o_z ?_)
  obtain ⟨j1,k1,l0⟩:=bs l0
  refine Ay (aft j1 (fun (m0:Bool) (z0:Unit)=>[(3,(.bool m0)),(25,(.slice r0 x0.ops.length s0)),(26,(.int .i64 (x0.ops.length:Int))),(27,(.int .i64 (q1:Int)))]) (fun m0 z0 w'=>∃ O':Lab,Bs w A w' O'∧Vb w' (Fr 0 w' O') (.slice r0 x0.ops.length s0) x0.ops)) ?_ ?_
  ·
   refine AK (AY (σ:=Bool) (X:=Unit) (e0.effs.length) k1 rfl q2 (fun (m0:Bool) (z0:Unit)=>[(3,(.bool m0)),(25,(.slice r0 x0.ops.length s0)),(26,(.int .i64 (x0.ops.length:Int))),(27,(.int .i64 (q1:Int))),(45,(.slice g1 e0.effs.length h1))]) _ (fun m0 z0 w'=>∃ O':Lab,Bs w A w' O'∧Vb w' (Fr 0 w' O') (.slice r0 x0.ops.length s0) x0.ops∧Vb w' (Fr 0 w' O') (.slice g1 e0.effs.length h1) e0.effs) _ () ⟨t3,hB,b0,f0⟩ ⟨rfl,rfl,rfl,rfl,rfl,rfl,rfl,trivial⟩ (fun _ _=>⟨rfl,rfl⟩) (fun _ _=>⟨rfl,rfl,rfl,rfl,trivial⟩) (fun _ _ _ ⟨O',hB,b0,f0⟩=>⟨O',hB,b0⟩) ⟨rfl,rfl,rfl⟩ ⟨rfl,rfl⟩ ?_)
   rintro r2 u0 m0 z0 u3 z2 b1 ⟨s2,hB,b0,f0⟩ a0 r1 s1
   have rk103:inI64 (r2:Int):=rngK b1 q2
   refine Ab (Aa ?_)
   obtain ⟨w3,x3,a3,l1,m1,n1,y3,rfl,v0,z3,a4⟩:=f0.elem' b1
   obtain ⟨t2,u2,rfl⟩:=v0.form
   refine Bi (hA:=l1) (hj:=rfl) (hlt:=m1) rfl rfl ?_
   refine Bd (hl:=rfl) (hc:=n1) rfl ?_
   refine AU 4 s2 fun v2 b4 w2 g0 w0=>?_
   refine Az w0 rfl rfl rfl (AJ) (allOne) fun x2 h0 w0=>?_
   replace w0:Lc 4 x2 w2 v2 85 [(.slice t2 u0.cond.length u2),(.int .i64 u0.var),(.int .i64 u0.val)]:=w0
   refine o_z ?_
   refine Aa (Ak rfl (Ak rfl ?_))
   rcases Bool.eq_false_or_eq_true m0 with y0|y0
   ·
    try rw [y0]
    replace a0:=ip a0 y0
    refine Al rfl rfl (Al rfl rfl (Al rfl rfl (Al rfl rfl (Bn rfl rfl (Am rfl (o_z ?_))))))
    obtain rfl:=sm a0
    exact show Exists _ from ⟨_,(),rfl,⟨rfl,rfl,rfl,rfl,rfl,rfl,rfl,trivial⟩,_,(hB.st g0).st h0,(b0.st g0).st h0,(f0.st g0).st h0⟩
   try rw [y0]
   replace a0:=im' a0 y0
   refine An rfl rfl (Ax rfl (An rfl rfl (At (hc:=Blk.cell (i:=0) (w0.1) rfl) rfl ?_)))
   refine An rfl rfl (AS rfl ?_)
   replace v0:=(v0.st g0).st h0
   have y2:u0.cond.length≤9223372036854775807:=Nat.le_trans v0.len.2.1 v0.len.2.2
   have c4:inI64 (u0.cond.length:Int):=rngNat y2
   refine An rfl rfl (BW rfl rfl (fun d1=>?_) fun d1=>?_)
   ·
    replace a0:=ip a0 d1
    refine Bc rfl rfl (Am rfl (o_z ?_))
    obtain rfl:=sm a0
    exact show Exists _ from ⟨_,(),rfl,⟨rfl,rfl,rfl,rfl,rfl,rfl,rfl,trivial⟩,_,(hB.st g0).st h0,(b0.st g0).st h0,(f0.st g0).st h0⟩
   replace a0:=im a0 d1
   refine Bc rfl rfl (Am rfl (o_z ?_))
   obtain rfl:=sm a0
   exact show Exists _ from ⟨_,(),rfl,⟨rfl,rfl,rfl,rfl,rfl,rfl,rfl,trivial⟩,_,(hB.st g0).st h0,(b0.st g0).st h0,(f0.st g0).st h0⟩
  rintro d4 e4 ⟨f4,g4,rfl,n0,h4,hB,b0⟩
  replace l0:=AR l0
  obtain rfl:=sm l0
  exact show Exists _ from ⟨_,(),rfl,⟨(Ar n0 _ _ rfl),(Ar n0 _ _ rfl),(Ar n0 _ _ rfl),(Ar n0 _ _ rfl),trivial⟩,_,hB,b0⟩
 rintro i4 j4 ⟨k4,l4,rfl,o1,m4,hB⟩
 replace hm:=AR hm
 refine AH _ o1 ?_
 refine Ab (Aa (Ak rfl (Am rfl (o_z ?_))))
 refine AF ?_
 obtain rfl:=sm hm
 exact ret1v rfl (AA rfl) ⟨hB.ext,vBool⟩
noncomputable def EN (x0:Tsk):Option Bool :=
  bnd (rng (ρ:=Bool) (fun (k30:Nat) (a31:Int) (s28:Bool)=>if s28=true then (some (.next true)) else (if a31 < 1 then (some (.next true)) else (if 64 < a31 then (some (.next true)) else (some (.next false))))) x0.vars 0 false) fun res26=>fin res26 fun (s56:Bool)=>bnd (rng (ρ:=Bool) (fun (k64:Nat) (a65:Opr) (s62:Bool)=>if s62=true then (some (.next true)) else (if a65.cost < 0 then (some (.next true)) else (if 1048576 < a65.cost then (some (.next true)) else (some (.next false))))) x0.ops 0 s56) fun res60=>fin res60 fun (s106:Bool)=>some s106
theorem LW {w:World} {A:Nat→Prop} (hA:∀ k,A k→k < w.heap.size) {vx0:Value} {x0:Tsk} (g1:Vb w A vx0 x0) {r:Bool} (hm:EN x0=some r) :
    Fn prog 56 [vx0] w fun v w'=>Ext w w'∧Vb w' (upA A w w') v r:=by
 obtain ⟨O,hB,z1⟩:=enter hA
 replace g1:=g1.mono z1
 obtain ⟨x2,rfl,v3,v4,v5,v6,rfl,h7,d0,e0,c0⟩:=g1
 obtain ⟨A8,c9,rfl⟩:=h7.form
 obtain ⟨q0,r0,rfl⟩:=d0.form
 obtain ⟨s0,t0,rfl⟩:=e0.form
 obtain ⟨j0,k0,rfl⟩:=c0.form
 refine AL func56 rfl ntmps56 ?_
 unfold EN at hm
 refine Ab (Aa (BL 2 O rfl fun u0 a2 y1 g0 f0=>?_))
 replace f0:Lc 2 a2 y1 u0 31 [(.slice A8 x0.vars.length c9),(.slice q0 x0.init.length r0),(.slice s0 x0.goal.length t0),(.slice j0 x0.ops.length k0)]:=f0
 refine Am rfl (o_z ?_)
 refine Ab (Aa (Am rfl (o_z ?_)))
 refine Ab (Ab (Aa (Ax rfl (At (hc:=Blk.cell (i:=0) (f0.1) rfl) rfl ?_))))
 refine AS rfl ?_
 replace h7:=h7.st g0
 have h1:x0.vars.length≤9223372036854775807:=Nat.le_trans h7.len.2.1 h7.len.2.2
 have y2:inI64 (x0.vars.length:Int):=rngNat h1
 refine Ak rfl (o_z ?_)
 obtain ⟨v0,i1,hm⟩:=bs hm
 refine Ay (aft v0 (fun (l0:Bool) (d1:Unit)=>[(1,(.pointer (some ⟨u0,0,none⟩))),(3,(.bool l0))]) (fun l0 d1 w'=>∃ O':Lab,Bs w A w' O'∧Lc 2 w' O' u0 31 [(.slice A8 x0.vars.length c9),(.slice q0 x0.init.length r0),(.slice s0 x0.goal.length t0),(.slice j0 x0.ops.length k0)]∧Vb w' (Fr 0 w' O') (.slice A8 x0.vars.length c9) x0.vars∧Vb w' (Fr 0 w' O') (.slice q0 x0.init.length r0) x0.init∧Vb w' (Fr 0 w' O') (.slice s0 x0.goal.length t0) x0.goal∧Vb w' (Fr 0 w' O') (.slice j0 x0.ops.length k0) x0.ops)) ?_ ?_
 ·
  refine AK ?_
  replace hB:=hB.st g0
  replace d0:=d0.st g0
  replace e0:=e0.st g0
  replace c0:=c0.st g0
  refine AY (σ:=Bool) (X:=Unit) (x0.vars.length) i1 rfl h1 (fun (l0:Bool) (d1:Unit)=>[(1,(.pointer (some ⟨u0,0,none⟩))),(3,(.bool l0)),(9,(.slice A8 x0.vars.length c9))]) _ (fun l0 d1 w'=>∃ O':Lab,Bs w A w' O'∧Lc 2 w' O' u0 31 [(.slice A8 x0.vars.length c9),(.slice q0 x0.init.length r0),(.slice s0 x0.goal.length t0),(.slice j0 x0.ops.length k0)]∧Vb w' (Fr 0 w' O') (.slice A8 x0.vars.length c9) x0.vars∧Vb w' (Fr 0 w' O') (.slice q0 x0.init.length r0) x0.init∧Vb w' (Fr 0 w' O') (.slice s0 x0.goal.length t0) x0.goal∧Vb w' (Fr 0 w' O') (.slice j0 x0.ops.length k0) x0.ops) _ () ⟨y1,hB,f0,h7,d0,e0,c0⟩ ⟨rfl,rfl,rfl,rfl,rfl,trivial⟩ (fun _ _=>⟨rfl,rfl⟩) (fun _ _=>⟨rfl,rfl,trivial⟩) (fun _ _ _ ⟨O',hB,f0,h7,d0,e0,c0⟩=>⟨O',hB,f0,h7,d0,e0,c0⟩) ⟨rfl,rfl,rfl⟩ ⟨rfl,rfl⟩ ?_
  rintro b2 z2 l0 d1 a3 c2 w0 ⟨b3,hB,f0,h7,d0,e0,c0⟩ a0 j1 k1
  have rk30:inI64 (b2:Int):=rngK w0 h1
  refine Ab (Aa ?_)
  obtain ⟨c3,d3,d2,l1,m1,n1,rfl,e3⟩:=h7.elem' w0
  refine Bi (hA:=l1) (hj:=rfl) (hlt:=m1) rfl rfl ?_
  refine At (hc:=cat0 n1) rfl ?_
  refine Am rfl (o_z ?_)
  refine Aa (Ak rfl (Ak rfl ?_))
  rcases Bool.eq_false_or_eq_true l0 with y0|y0
  ·
   try rw [y0]
   replace a0:=ip a0 y0
   refine Al rfl rfl (Al rfl rfl (Bn rfl rfl (Ak rfl (Al rfl rfl (Al rfl rfl (Bn rfl rfl (Am rfl (o_z ?_))))))))
   obtain rfl:=sm a0
   exact show Exists _ from ⟨_,(),rfl,⟨rfl,rfl,rfl,rfl,rfl,trivial⟩,_,hB,f0,h7,d0,e0,c0⟩
  try rw [y0]
  replace a0:=im' a0 y0
  refine An rfl rfl (Ak rfl (An rfl rfl (Dm rfl rfl (fun o1=>?_) fun o1=>?_)))
  ·
   replace a0:=ip a0 o1
   refine Bc rfl rfl (Ak rfl (Al rfl rfl (Al rfl rfl (Bn rfl rfl (Am rfl (o_z ?_))))))
   obtain rfl:=sm a0
   exact show Exists _ from ⟨_,(),rfl,⟨rfl,rfl,rfl,rfl,rfl,trivial⟩,_,hB,f0,h7,d0,e0,c0⟩
  replace a0:=im a0 o1
  refine Bc rfl rfl (Ak rfl (An rfl rfl (Ak rfl (An rfl rfl (BW rfl rfl (fun p1=>?_) fun p1=>?_)))))
  ·
   replace a0:=ip a0 p1
   refine Bc rfl rfl (Am rfl (o_z ?_))
   obtain rfl:=sm a0
   exact show Exists _ from ⟨_,(),rfl,⟨rfl,rfl,rfl,rfl,rfl,trivial⟩,_,hB,f0,h7,d0,e0,c0⟩
  replace a0:=im a0 p1
  refine Bc rfl rfl (Am rfl (o_z ?_))
  obtain rfl:=sm a0
  exact show Exists _ from ⟨_,(),rfl,⟨rfl,rfl,rfl,rfl,rfl,trivial⟩,_,hB,f0,h7,d0,e0,c0⟩
 replace hB:=hB.st g0
 replace d0:=d0.st g0
 replace e0:=e0.st g0
 replace c0:=c0.st g0
 rintro f3 g3 ⟨h3,i3,rfl,q1,e2,hB,f0,h7,d0,e0,c0⟩
 replace hm:=AR hm
 refine AH _ q1 ?_
 refine Ab (Ab (Aa (Ax rfl (At (hc:=Blk.cell (i:=3) (f0.1) rfl) rfl ?_))))
 refine AS rfl ?_
 have r1:x0.ops.length≤9223372036854775807:=Nat.le_trans c0.len.2.1 c0.len.2.2
 have j3:inI64 (x0.ops.length:Int):=rngNat r1
 refine Ak rfl (o_z ?_)
 obtain ⟨z0,s1,hm⟩:=bs hm
 refine Ay (aft z0 (fun (m0:Bool) (e1:Unit)=>[(3,(.bool m0))]) (fun m0 e1 w'=>∃ O':Lab,Bs w A w' O')) ?_ ?_
 ·
  refine AK (AY (σ:=Bool) (X:=Unit) (x0.ops.length) s1 rfl r1 (fun (m0:Bool) (e1:Unit)=>[(3,(.bool m0)),(26,(.slice j0 x0.ops.length k0))]) _ (fun m0 e1 w'=>∃ O':Lab,Bs w A w' O'∧Vb w' (Fr 0 w' O') (.slice j0 x0.ops.length k0) x0.ops) _ () ⟨e2,hB,c0⟩ ⟨rfl,rfl,rfl,rfl,trivial⟩ (fun _ _=>⟨rfl,rfl⟩) (fun _ _=>⟨rfl,trivial⟩) (fun _ _ _ ⟨O',hB,c0⟩=>⟨O',hB⟩) ⟨rfl,rfl,rfl⟩ ⟨rfl,rfl⟩ ?_)
  rintro f2 f1 m0 e1 k3 g2 a1 ⟨h2,hB,c0⟩ b0 t1 u1
  have rk64:inI64 (f2:Int):=rngK a1 r1
  refine Ab (Aa ?_)
  obtain ⟨l3,m3,i2,v1,w1,x1,n3,o3,rfl,j2,k2,p3,q3⟩:=c0.elem' a1
  obtain ⟨l2,m2,rfl⟩:=j2.form
  obtain ⟨n2,o2,rfl⟩:=k2.form
  refine Bi (hA:=v1) (hj:=rfl) (hlt:=w1) rfl rfl ?_
  refine Bd (hl:=rfl) (hc:=x1) rfl ?_
  refine AU 3 h2 fun p2 r3 q2 h0 p0=>?_
  refine Az p0 rfl rfl rfl (AJ) (allOne) fun r2 i0 p0=>?_
  replace p0:Lc 3 r2 q2 p2 82 [(.string f1.name),(.int .i64 f1.cost),(.slice l2 f1.pre.length m2),(.slice n2 f1.effs.length o2)]:=p0
  refine o_z ?_
  refine Aa (Ak rfl (Ak rfl ?_))
  rcases Bool.eq_false_or_eq_true m0 with b1|b1
  ·
   try rw [b1]
   replace b0:=ip b0 b1
   refine Al rfl rfl (Al rfl rfl (Al rfl rfl (Bn rfl rfl (Ak rfl (Al rfl rfl (Al rfl rfl (Al rfl rfl (Bn rfl rfl (Am rfl (o_z ?_))))))))))
   obtain rfl:=sm b0
   exact show Exists _ from ⟨_,(),rfl,⟨rfl,rfl,rfl,rfl,trivial⟩,_,(hB.st h0).st i0,(c0.st h0).st i0⟩
  try rw [b1]
  replace b0:=im' b0 b1
  refine An rfl rfl (Ax rfl (An rfl rfl (At (hc:=Blk.cell (i:=1) (p0.1) rfl) rfl ?_)))
  refine An rfl rfl (Dm rfl rfl (fun n0=>?_) fun n0=>?_)
  ·
   replace b0:=ip b0 n0
   refine Bc rfl rfl (Ak rfl (Al rfl rfl (Al rfl rfl (Al rfl rfl (Bn rfl rfl (Am rfl (o_z ?_)))))))
   obtain rfl:=sm b0
   exact show Exists _ from ⟨_,(),rfl,⟨rfl,rfl,rfl,rfl,trivial⟩,_,(hB.st h0).st i0,(c0.st h0).st i0⟩
  replace b0:=im b0 n0
  refine Bc rfl rfl (Ak rfl (An rfl rfl (Ax rfl (An rfl rfl (At (hc:=Blk.cell (i:=1) (p0.1) rfl) rfl ?_)))))
  refine An rfl rfl (BW rfl rfl (fun o0=>?_) fun o0=>?_)
  ·
   replace b0:=ip b0 o0
   refine Bc rfl rfl (Am rfl (o_z ?_))
   obtain rfl:=sm b0
   exact show Exists _ from ⟨_,(),rfl,⟨rfl,rfl,rfl,rfl,trivial⟩,_,(hB.st h0).st i0,(c0.st h0).st i0⟩
  replace b0:=im b0 o0
  refine Bc rfl rfl (Am rfl (o_z ?_))
  obtain rfl:=sm b0
  exact show Exists _ from ⟨_,(),rfl,⟨rfl,rfl,rfl,rfl,trivial⟩,_,(hB.st h0).st i0,(c0.st h0).st i0⟩
 rintro s2 t2 ⟨u2,v2,rfl,c1,w2,hB⟩
 replace hm:=AR hm
 refine AH _ c1 ?_
 refine Ab (Aa (Ak rfl (Am rfl (o_z ?_))))
 refine AF ?_
 obtain rfl:=sm hm
 exact ret1v rfl (AA rfl) ⟨hB.ext,vBool⟩
noncomputable def Ed (x0:Tsk):Option Bool :=
  bnd (bnd (FW x0.vars x0.init) fun q28=>if q28=true then bnd (Dt x0.vars x0.goal) fun q35=>if q35=true then some false else some true else some true:Option Bool) fun y24=>bnd (rng (ρ:=Bool) (fun (k52:Nat) (a53:Opr) (s50:Bool)=>bnd (if s50=true then (some true) else (bnd (Dt x0.vars a53.pre) fun q92=>if q92=true then some false else some true):Option Bool) fun y87=>bnd (rng (ρ:=Ctl Bool Bool) (fun (k109:Nat) (a110:Eff) (s107:Bool)=>if s107=true then (some (.next true)) else (bnd (Dt x0.vars a110.cond) fun q141=>if q141=true then bnd (Dt x0.vars [(⟨a110.var,a110.val⟩:Fct)]) fun q154=>if q154=true then some (.next false) else some (.next true) else some (.next true))) a53.effs 0 y87) fun res105=>fin res105 fun (s165:Bool)=>some (.next s165)) x0.ops 0 y24) fun res48=>fin res48 fun (s171:Bool)=>some s171
theorem KB {w:World} {A:Nat→Prop} (hA:∀ k,A k→k < w.heap.size) {vx0:Value} {x0:Tsk} (g2:Vb w A vx0 x0) {r:Bool} (hm:Ed x0=some r) :
    Fn prog 57 [vx0] w fun v w'=>Ext w w'∧Vb w' (upA A w w') v r:=by
 obtain ⟨O,hB,o3⟩:=enter hA
 replace g2:=g2.mono o3
 obtain ⟨j5,rfl,v3,v4,v5,v6,rfl,h7,g0,h0,i0⟩:=g2
 obtain ⟨A8,c9,rfl⟩:=h7.form
 obtain ⟨c1,d1,rfl⟩:=g0.form
 obtain ⟨e1,f1,rfl⟩:=h0.form
 obtain ⟨u0,v0,rfl⟩:=i0.form
 refine AL func57 rfl ntmps57 ?_
 unfold Ed at hm
 refine Ab (Aa (BL 2 O rfl fun g1 p3 k3 w0 d0=>?_))
 replace d0:Lc 2 p3 k3 g1 31 [(.slice A8 x0.vars.length c9),(.slice c1 x0.init.length d1),(.slice e1 x0.goal.length f1),(.slice u0 x0.ops.length v0)]:=d0
 refine Am rfl (o_z ?_)
 refine Ab ?_
 obtain ⟨q3,f0,hm⟩:=bs hm
 refine Ay (fun l' w'=>∃ (r3:Unit) (O':Lab),subs l' [(1,(.pointer (some ⟨g1,0,none⟩))),(3,(.bool q3))]∧Bs w A w' O'∧Lc 2 w' O' g1 31 [(.slice A8 x0.vars.length c9),(.slice c1 x0.init.length d1),(.slice e1 x0.goal.length f1),(.slice u0 x0.ops.length v0)]∧Vb w' (Fr 0 w' O') (.slice A8 x0.vars.length c9) x0.vars∧Vb w' (Fr 0 w' O') (.slice c1 x0.init.length d1) x0.init∧Vb w' (Fr 0 w' O') (.slice e1 x0.goal.length f1) x0.goal∧Vb w' (Fr 0 w' O') (.slice u0 x0.ops.length v0) x0.ops) ?_ ?_
 ·
  refine Aa (Ax rfl (At (hc:=Blk.cell (i:=0) (d0.1) rfl) rfl ?_))
  refine Ax rfl (At (hc:=Blk.cell (i:=1) (d0.1) rfl) rfl ?_)
  obtain ⟨s3,t3,f0⟩:=bs f0
  replace h7:=h7.st w0
  replace g0:=g0.st w0
  refine AM (O:=k3) (JT (fun _ h=>h) (vMo h7) (vMo g0) t3) rfl fun k5 l5 u3 y0 w3=>?_
  obtain rfl:=w3.bool
  cases s3
  case false =>
   replace f0:=iF f0
   refine Dl rfl (Ak rfl (Al rfl rfl (Al rfl rfl (Al rfl rfl (Al rfl rfl (Al rfl rfl (Al rfl rfl (Bn rfl rfl (Am rfl (o_z ?_))))))))))
   obtain rfl:=sm f0
   exact ⟨(),_,⟨rfl,rfl,trivial⟩,(hB.st w0).st y0,d0.st y0,h7.st y0,g0.st y0,(h0.st w0).st y0,(i0.st w0).st y0⟩
  replace f0:=iT f0
  refine Dk rfl (Ak rfl (An rfl rfl (Ax rfl (An rfl rfl ?_))))
  replace d0:=d0.st y0
  refine At (hc:=Blk.cell (i:=0) (d0.1) rfl) rfl ?_
  refine An rfl rfl (Ax rfl (An rfl rfl (At (hc:=Blk.cell (i:=2) (d0.1) rfl) rfl ?_)))
  refine An rfl rfl ?_
  obtain ⟨x3,y3,f0⟩:=bs f0
  replace h7:=h7.st y0
  replace h0:=(h0.st w0).st y0
  refine AM (O:=u3) (Fy (fun _ h=>h) (vMo h7) (vMo h0) y3) rfl fun m5 n5 o5 b1 z3=>?_
  obtain rfl:=z3.bool
  cases x3
  case false =>
   replace f0:=iF f0
   refine An rfl rfl (Dl rfl (Bc rfl rfl (Am rfl (o_z ?_))))
   obtain rfl:=sm f0
   exact ⟨(),_,⟨rfl,rfl,trivial⟩,((hB.st w0).st y0).st b1,d0.st b1,h7.st b1,(g0.st y0).st b1,h0.st b1,((i0.st w0).st y0).st b1⟩
  replace f0:=iT f0
  refine An rfl rfl (Dk rfl (Bc rfl rfl (Am rfl (o_z ?_))))
  obtain rfl:=sm f0
  exact ⟨(),_,⟨rfl,rfl,trivial⟩,((hB.st w0).st y0).st b1,d0.st b1,h7.st b1,(g0.st y0).st b1,h0.st b1,((i0.st w0).st y0).st b1⟩
 replace hB:=hB.st w0
 replace h7:=h7.st w0
 replace g0:=g0.st w0
 replace h0:=h0.st w0
 replace i0:=i0.st w0
 rintro p5 q5 ⟨r3,a4,h2,hB,d0,h7,g0,h0,i0⟩
 refine AH _ h2 ?_
 refine Ab (Ab (Aa (Ax rfl (At (hc:=Blk.cell (i:=3) (d0.1) rfl) rfl ?_))))
 refine AS rfl ?_
 have i2:x0.ops.length≤9223372036854775807:=Nat.le_trans i0.len.2.1 i0.len.2.2
 have r5:inI64 (x0.ops.length:Int):=rngNat i2
 refine Ak rfl (o_z ?_)
 obtain ⟨q1,j2,hm⟩:=bs hm
 refine Ay (aft q1 (fun (n1:Bool) (c2:Unit)=>[(3,(.bool n1))]) (fun n1 c2 w'=>∃ O':Lab,Bs w A w' O')) ?_ ?_
 ·
  refine AK (AY (σ:=Bool) (X:=Unit) (x0.ops.length) j2 rfl i2 (fun (n1:Bool) (c2:Unit)=>[(1,(.pointer (some ⟨g1,0,none⟩))),(3,(.bool n1)),(23,(.slice u0 x0.ops.length v0))]) _ (fun n1 c2 w'=>∃ O':Lab,Bs w A w' O'∧Lc 2 w' O' g1 31 [(.slice A8 x0.vars.length c9),(.slice c1 x0.init.length d1),(.slice e1 x0.goal.length f1),(.slice u0 x0.ops.length v0)]∧Vb w' (Fr 0 w' O') (.slice A8 x0.vars.length c9) x0.vars∧Vb w' (Fr 0 w' O') (.slice c1 x0.init.length d1) x0.init∧Vb w' (Fr 0 w' O') (.slice e1 x0.goal.length f1) x0.goal∧Vb w' (Fr 0 w' O') (.slice u0 x0.ops.length v0) x0.ops) _ () ⟨a4,hB,d0,h7,g0,h0,i0⟩ ⟨rfl,rfl,rfl,rfl,rfl,trivial⟩ (fun _ _=>⟨rfl,rfl⟩) (fun _ _=>⟨rfl,trivial⟩) (fun _ _ _ ⟨O',hB,d0,h7,g0,h0,i0⟩=>⟨O',hB⟩) ⟨rfl,rfl,rfl⟩ ⟨rfl,rfl⟩ ?_)
  rintro d2 q0 n1 c2 s5 b4 r1 ⟨c4,hB,d0,h7,g0,h0,i0⟩ z0 k2 l2
  have rk52:inI64 (d2:Int):=rngK r1 i2
  refine Ab (Aa ?_)
  obtain ⟨t5,u5,d4,m2,n2,o2,w5,x5,rfl,i1,s0,y5,z5⟩:=i0.elem' r1
  obtain ⟨p2,q2,rfl⟩:=i1.form
  obtain ⟨s1,t1,rfl⟩:=s0.form
  refine Bi (hA:=m2) (hj:=rfl) (hlt:=n2) rfl rfl ?_
  refine Bd (hl:=rfl) (hc:=o2) rfl ?_
  refine AU 3 c4 fun r2 a6 l3 j0 j1=>?_
  refine Az j1 rfl rfl rfl (AJ) (allOne) fun e4 k0 j1=>?_
  replace j1:Lc 3 e4 l3 r2 82 [(.string q0.name),(.int .i64 q0.cost),(.slice p2 q0.pre.length q2),(.slice s1 q0.effs.length t1)]:=j1
  refine o_z ?_
  refine Ab ?_
  obtain ⟨f4,m0,z0⟩:=bs z0
  refine Ay (fun l' w'=>∃ (g4:Unit) (O':Lab),subs l' [(1,(.pointer (some ⟨g1,0,none⟩))),(3,(.bool f4)),(5,(.pointer (some ⟨r2,0,none⟩))),(23,(.slice u0 x0.ops.length v0)),(24,(.int .i64 (x0.ops.length:Int))),(25,(.int .i64 (d2:Int)))]∧Bs w A w' O'∧Lc 2 w' O' g1 31 [(.slice A8 x0.vars.length c9),(.slice c1 x0.init.length d1),(.slice e1 x0.goal.length f1),(.slice u0 x0.ops.length v0)]∧Vb w' (Fr 0 w' O') (.slice A8 x0.vars.length c9) x0.vars∧Vb w' (Fr 0 w' O') (.slice c1 x0.init.length d1) x0.init∧Vb w' (Fr 0 w' O') (.slice e1 x0.goal.length f1) x0.goal∧Vb w' (Fr 0 w' O') (.slice u0 x0.ops.length v0) x0.ops∧Lc 3 w' O' r2 82 [(.string q0.name),(.int .i64 q0.cost),(.slice p2 q0.pre.length q2),(.slice s1 q0.effs.length t1)]∧Vb w' (Fr 0 w' O') (.slice p2 q0.pre.length q2) q0.pre∧Vb w' (Fr 0 w' O') (.slice s1 q0.effs.length t1) q0.effs) ?_ ?_
  ·
   refine Aa (Ak rfl (Ak rfl ?_))
   rcases Bool.eq_false_or_eq_true n1 with u1|u1
   ·
    try rw [u1]
    replace m0:=ip m0 u1
    refine Al rfl rfl (Al rfl rfl (Al rfl rfl (Al rfl rfl (Al rfl rfl (Al rfl rfl (Bn rfl rfl (Am rfl (o_z ?_))))))))
    obtain rfl:=sm m0
    exact ⟨(),_,⟨rfl,rfl,rfl,rfl,rfl,rfl,trivial⟩,(hB.st j0).st k0,(d0.st j0).st k0,(h7.st j0).st k0,(g0.st j0).st k0,(h0.st j0).st k0,(i0.st j0).st k0,j1,(i1.st j0).st k0,(s0.st j0).st k0⟩
   try rw [u1]
   replace m0:=im' m0 u1
   refine An rfl rfl (Ax rfl (An rfl rfl ?_))
   replace d0:=(d0.st j0).st k0
   refine At (hc:=Blk.cell (i:=0) (d0.1) rfl) rfl ?_
   refine An rfl rfl (Ax rfl (An rfl rfl (At (hc:=Blk.cell (i:=2) (j1.1) rfl) rfl ?_)))
   refine An rfl rfl ?_
   obtain ⟨h4,i4,m0⟩:=bs m0
   replace h7:=(h7.st j0).st k0
   replace i1:=(i1.st j0).st k0
   refine AM (O:=l3) (Fy (fun _ h=>h) (vMo h7) (vMo i1) i4) rfl fun b6 c6 d6 r0 j4=>?_
   obtain rfl:=j4.bool
   cases h4
   case false =>
    replace m0:=iF m0
    refine An rfl rfl (Dl rfl (Bc rfl rfl (Am rfl (o_z ?_))))
    obtain rfl:=sm m0
    exact ⟨(),_,⟨rfl,rfl,rfl,rfl,rfl,rfl,trivial⟩,((hB.st j0).st k0).st r0,d0.st r0,h7.st r0,((g0.st j0).st k0).st r0,((h0.st j0).st k0).st r0,((i0.st j0).st k0).st r0,j1.st r0,i1.st r0,((s0.st j0).st k0).st r0⟩
   replace m0:=iT m0
   refine An rfl rfl (Dk rfl (Bc rfl rfl (Am rfl (o_z ?_))))
   obtain rfl:=sm m0
   exact ⟨(),_,⟨rfl,rfl,rfl,rfl,rfl,rfl,trivial⟩,((hB.st j0).st k0).st r0,d0.st r0,h7.st r0,((g0.st j0).st k0).st r0,((h0.st j0).st k0).st r0,((i0.st j0).st k0).st r0,j1.st r0,i1.st r0,((s0.st j0).st k0).st r0⟩
  replace hB:=(hB.st j0).st k0
  replace h7:=(h7.st j0).st k0
  replace g0:=(g0.st j0).st k0
  replace h0:=(h0.st j0).st k0
  replace i0:=(i0.st j0).st k0
  replace d0:=(d0.st j0).st k0
  replace i1:=(i1.st j0).st k0
  replace s0:=(s0.st j0).st k0
  rintro e6 k4 ⟨g4,s2,v1,hB,d0,h7,g0,h0,i0,j1,i1,s0⟩
  refine AH _ v1 ?_
  refine Ab (Aa (Ax rfl (At (hc:=Blk.cell (i:=3) (j1.1) rfl) rfl ?_)))
  refine AS rfl ?_
  have o1:q0.effs.length≤9223372036854775807:=Nat.le_trans s0.len.2.1 s0.len.2.2
  have l4:inI64 (q0.effs.length:Int):=rngNat o1
  refine Ak rfl (o_z ?_)
  obtain ⟨p1,w1,z0⟩:=bs z0
  refine Ay (aft p1 (fun (a1:Bool) (k1:Unit)=>[(1,(.pointer (some ⟨g1,0,none⟩))),(3,(.bool a1)),(23,(.slice u0 x0.ops.length v0)),(24,(.int .i64 (x0.ops.length:Int))),(25,(.int .i64 (d2:Int)))]) (fun a1 k1 w'=>∃ O':Lab,Bs w A w' O'∧Lc 2 w' O' g1 31 [(.slice A8 x0.vars.length c9),(.slice c1 x0.init.length d1),(.slice e1 x0.goal.length f1),(.slice u0 x0.ops.length v0)]∧Vb w' (Fr 0 w' O') (.slice A8 x0.vars.length c9) x0.vars∧Vb w' (Fr 0 w' O') (.slice c1 x0.init.length d1) x0.init∧Vb w' (Fr 0 w' O') (.slice e1 x0.goal.length f1) x0.goal∧Vb w' (Fr 0 w' O') (.slice u0 x0.ops.length v0) x0.ops)) ?_ ?_
  ·
   refine AK (AY (σ:=Bool) (X:=Unit) (q0.effs.length) w1 rfl o1 (fun (a1:Bool) (k1:Unit)=>[(1,(.pointer (some ⟨g1,0,none⟩))),(3,(.bool a1)),(23,(.slice u0 x0.ops.length v0)),(24,(.int .i64 (x0.ops.length:Int))),(25,(.int .i64 (d2:Int))),(39,(.slice s1 q0.effs.length t1))]) _ (fun a1 k1 w'=>∃ O':Lab,Bs w A w' O'∧Lc 2 w' O' g1 31 [(.slice A8 x0.vars.length c9),(.slice c1 x0.init.length d1),(.slice e1 x0.goal.length f1),(.slice u0 x0.ops.length v0)]∧Vb w' (Fr 0 w' O') (.slice A8 x0.vars.length c9) x0.vars∧Vb w' (Fr 0 w' O') (.slice c1 x0.init.length d1) x0.init∧Vb w' (Fr 0 w' O') (.slice e1 x0.goal.length f1) x0.goal∧Vb w' (Fr 0 w' O') (.slice u0 x0.ops.length v0) x0.ops∧Vb w' (Fr 0 w' O') (.slice s1 q0.effs.length t1) q0.effs) _ () ⟨s2,hB,d0,h7,g0,h0,i0,s0⟩ ⟨rfl,rfl,rfl,rfl,rfl,rfl,rfl,rfl,trivial⟩ (fun _ _=>⟨rfl,rfl⟩) (fun _ _=>⟨rfl,rfl,rfl,rfl,rfl,trivial⟩) (fun _ _ _ ⟨O',hB,d0,h7,g0,h0,i0,s0⟩=>⟨O',hB,d0,h7,g0,h0,i0⟩) ⟨rfl,rfl,rfl⟩ ⟨rfl,rfl⟩ ?_)
   rintro t2 o0 a1 k1 m4 m3 m1 ⟨u2,hB,d0,h7,g0,h0,i0,s0⟩ a0 e2 f2
   have rk109:inI64 (t2:Int):=rngK m1 o1
   refine Ab (Aa ?_)
   obtain ⟨n4,o4,n3,x1,y1,z1,p4,rfl,l1,v2,w2⟩:=s0.elem' m1
   obtain ⟨x2,y2,rfl⟩:=l1.form
   refine Bi (hA:=x1) (hj:=rfl) (hlt:=y1) rfl rfl ?_
   refine Bd (hl:=rfl) (hc:=z1) rfl ?_
   refine AU 4 u2 fun z2 q4 a2 b0 p0=>?_
   refine Az p0 rfl rfl rfl (AJ) (allOne) fun a3 c0 p0=>?_
   replace p0:Lc 4 a3 a2 z2 85 [(.slice x2 o0.cond.length y2),(.int .i64 o0.var),(.int .i64 o0.val)]:=p0
   refine o_z ?_
   refine Aa (Ak rfl (Ak rfl ?_))
   rcases Bool.eq_false_or_eq_true a1 with h1|h1
   ·
    try rw [h1]
    replace a0:=ip a0 h1
    refine Al rfl rfl (Al rfl rfl (Al rfl rfl (Al rfl rfl (Al rfl rfl (Al rfl rfl (Bn rfl rfl (Ak rfl (Al rfl rfl (Al rfl rfl (Al rfl rfl (Al rfl rfl (Al rfl rfl (Al rfl rfl (Al rfl rfl ?_))))))))))))))
    refine Al rfl rfl (Al rfl rfl (Al rfl rfl (Bn rfl rfl (Am rfl (o_z ?_)))))
    obtain rfl:=sm a0
    exact show Exists _ from ⟨_,(),rfl,⟨rfl,rfl,rfl,rfl,rfl,rfl,rfl,rfl,trivial⟩,_,(hB.st b0).st c0,(d0.st b0).st c0,(h7.st b0).st c0,(g0.st b0).st c0,(h0.st b0).st c0,(i0.st b0).st c0,(s0.st b0).st c0⟩
   try rw [h1]
   replace a0:=im' a0 h1
   refine An rfl rfl (Ax rfl (An rfl rfl ?_))
   replace d0:=(d0.st b0).st c0
   refine At (hc:=Blk.cell (i:=0) (d0.1) rfl) rfl ?_
   refine An rfl rfl (Ax rfl (An rfl rfl (At (hc:=Blk.cell (i:=0) (p0.1) rfl) rfl ?_)))
   refine An rfl rfl ?_
   obtain ⟨b3,c3,a0⟩:=bs a0
   replace h7:=(h7.st b0).st c0
   replace l1:=(l1.st b0).st c0
   refine AM (O:=a2) (Fy (fun _ h=>h) (vMo h7) (vMo l1) c3) rfl fun r4 s4 d3 e0 e3=>?_
   obtain rfl:=e3.bool
   cases b3
   case false =>
    replace a0:=iF a0
    refine An rfl rfl (Dl rfl (Bc rfl rfl (Ak rfl (Al rfl rfl (Al rfl rfl (Al rfl rfl (Al rfl rfl (Al rfl rfl (Al rfl rfl (Al rfl rfl (Al rfl rfl (Al rfl rfl (Al rfl rfl (Bn rfl rfl ?_))))))))))))))
    refine Am rfl (o_z ?_)
    obtain rfl:=sm a0
    exact show Exists _ from ⟨_,(),rfl,⟨rfl,rfl,rfl,rfl,rfl,rfl,rfl,rfl,trivial⟩,_,((hB.st b0).st c0).st e0,d0.st e0,h7.st e0,((g0.st b0).st c0).st e0,((h0.st b0).st c0).st e0,((i0.st b0).st c0).st e0,((s0.st b0).st c0).st e0⟩
   replace a0:=iT a0
   refine An rfl rfl (Dk rfl (Bc rfl rfl (Ak rfl (An rfl rfl (Ax rfl (An rfl rfl ?_))))))
   replace d0:=d0.st e0
   refine At (hc:=Blk.cell (i:=0) (d0.1) rfl) rfl ?_
   refine An rfl rfl (Ax rfl (An rfl rfl ?_))
   replace p0:=p0.st e0
   refine At (hc:=Blk.cell (i:=1) (p0.1) rfl) rfl ?_
   refine An rfl rfl (Ax rfl (An rfl rfl (At (hc:=Blk.cell (i:=2) (p0.1) rfl) rfl ?_)))
   refine An rfl rfl (Cl rfl rfl ?_)
   refine An rfl rfl (AQ 5 d3 (xs:=([(⟨o0.var,o0.val⟩:Fct)]:List Fct)) rfl rfl rfl ⟨(Vb.ofAgg (cs:=[(.int .i64 o0.var),(.int .i64 o0.val)]) (x:=(⟨o0.var,o0.val⟩:Fct)) rfl ⟨rfl,v2,w2⟩),trivial⟩ fun t4 u4 f3 n0 g3=>?_)
   refine An rfl rfl ?_
   obtain ⟨h3,i3,a0⟩:=bs a0
   replace h7:=(h7.st e0).st n0
   refine AM (O:=f3) (Fy (fun _ h=>h) (vMo h7) (g3).all i3) rfl fun w4 x4 y4 l0 j3=>?_
   obtain rfl:=j3.bool
   cases h3
   case false =>
    replace a0:=iF a0
    refine An rfl rfl (Dl rfl (Bc rfl rfl (Am rfl (o_z ?_))))
    obtain rfl:=sm a0
    exact show Exists _ from ⟨_,(),rfl,⟨rfl,rfl,rfl,rfl,rfl,rfl,rfl,rfl,trivial⟩,_,((((hB.st b0).st c0).st e0).st n0).st l0,(d0.st n0).st l0,h7.st l0,((((g0.st b0).st c0).st e0).st n0).st l0,((((h0.st b0).st c0).st e0).st n0).st l0,((((i0.st b0).st c0).st e0).st n0).st l0,((((s0.st b0).st c0).st e0).st n0).st l0⟩
   replace a0:=iT a0
   refine An rfl rfl (Dk rfl (Bc rfl rfl (Am rfl (o_z ?_))))
   obtain rfl:=sm a0
   exact show Exists _ from ⟨_,(),rfl,⟨rfl,rfl,rfl,rfl,rfl,rfl,rfl,rfl,trivial⟩,_,((((hB.st b0).st c0).st e0).st n0).st l0,(d0.st n0).st l0,h7.st l0,((((g0.st b0).st c0).st e0).st n0).st l0,((((h0.st b0).st c0).st e0).st n0).st l0,((((i0.st b0).st c0).st e0).st n0).st l0,((((s0.st b0).st c0).st e0).st n0).st l0⟩
  rintro z4 a5 ⟨b5,c5,rfl,t0,d5,hB,d0,h7,g0,h0,i0⟩
  replace z0:=AR z0
  obtain rfl:=sm z0
  exact show Exists _ from ⟨_,(),rfl,⟨(Ar t0 _ _ rfl),(Ar t0 _ _ rfl),(Ar t0 _ _ rfl),(Ar t0 _ _ rfl),(Ar t0 _ _ rfl),trivial⟩,_,hB,d0,h7,g0,h0,i0⟩
 rintro e5 f5 ⟨g5,h5,rfl,b2,i5,hB⟩
 replace hm:=AR hm
 refine AH _ b2 ?_
 refine Ab (Aa (Ak rfl (Am rfl (o_z ?_))))
 refine AF ?_
 obtain rfl:=sm hm
 exact ret1v rfl (AA rfl) ⟨hB.ext,vBool⟩
noncomputable def Ew (x0:Tsk):Option Bool :=
  bnd (rng (ρ:=Bool) (fun (k30:Nat) (a31:Opr) (s28:Bool)=>bnd (if s28=true then (some true) else (if 256 < (a31.name.size:Int) then (some true) else (some false)):Option Bool) fun y65=>bnd (rngN (ρ:=Ctl Bool Bool) (fun (k81:Nat) (s79:Bool)=>if s79=true then (some (.next true)) else (bnd (bytI a31.name (k81:Int)) fun n93=>if n93 < 32 then (some (.next true)) else (bnd (bytI a31.name (k81:Int)) fun n97=>if 126 < n97 then (some (.next true)) else (some (.next false))))) a31.name.size y65) fun res77=>fin res77 fun (s105:Bool)=>some (.next s105)) x0.ops 0 false) fun res26=>fin res26 fun (s111:Bool)=>some s111
theorem Lr {w:World} {A:Nat→Prop} (hA:∀ k,A k→k < w.heap.size) {vx0:Value} {x0:Tsk} (f1:Vb w A vx0 x0) {r:Bool} (hm:Ew x0=some r) :
    Fn prog 58 [vx0] w fun v w'=>Ext w w'∧Vb w' (upA A w w') v r:=by
 obtain ⟨O,hB,b2⟩:=enter hA
 replace f1:=f1.mono b2
 obtain ⟨e3,rfl,v3,v4,v5,v6,rfl,h7,c2,d2,b0⟩:=f1
 obtain ⟨A8,c9,rfl⟩:=h7.form
 obtain ⟨e2,f2,rfl⟩:=c2.form
 obtain ⟨g2,h2,rfl⟩:=d2.form
 obtain ⟨l0,m0,rfl⟩:=b0.form
 refine AL func58 rfl ntmps58 ?_
 unfold Ew at hm
 refine Ab (Aa (BL 2 O rfl fun i2 j2 w1 g1 h1=>?_))
 replace h1:Lc 2 j2 w1 i2 31 [(.slice A8 x0.vars.length c9),(.slice e2 x0.init.length f2),(.slice g2 x0.goal.length h2),(.slice l0 x0.ops.length m0)]:=h1
 refine Am rfl (o_z ?_)
 refine Ab (Aa (Am rfl (o_z ?_)))
 refine Ab (Ab (Aa (Ax rfl (At (hc:=Blk.cell (i:=3) (h1.1) rfl) rfl ?_))))
 refine AS rfl ?_
 replace b0:=b0.st g1
 have i1:x0.ops.length≤9223372036854775807:=Nat.le_trans b0.len.2.1 b0.len.2.2
 have f3:inI64 (x0.ops.length:Int):=rngNat i1
 refine Ak rfl (o_z ?_)
 obtain ⟨q0,j1,hm⟩:=bs hm
 refine Ay (aft q0 (fun (n0:Bool) (c1:Unit)=>[(3,(.bool n0))]) (fun n0 c1 w'=>∃ O':Lab,Bs w A w' O')) ?_ ?_
 ·
  refine AK ?_
  replace hB:=hB.st g1
  refine AY (σ:=Bool) (X:=Unit) (x0.ops.length) j1 rfl i1 (fun (n0:Bool) (c1:Unit)=>[(3,(.bool n0)),(8,(.slice l0 x0.ops.length m0))]) _ (fun n0 c1 w'=>∃ O':Lab,Bs w A w' O'∧Vb w' (Fr 0 w' O') (.slice l0 x0.ops.length m0) x0.ops) _ () ⟨w1,hB,b0⟩ ⟨rfl,rfl,rfl,rfl,trivial⟩ (fun _ _=>⟨rfl,rfl⟩) (fun _ _=>⟨rfl,trivial⟩) (fun _ _ _ ⟨O',hB,b0⟩=>⟨O',hB⟩) ⟨rfl,rfl,rfl⟩ ⟨rfl,rfl⟩ ?_
  rintro d1 c0 n0 c1 g3 k2 r0 ⟨l2,hB,b0⟩ h0 k1 l1
  have rk30:inI64 (d1:Int):=rngK r0 i1
  refine Ab (Aa ?_)
  obtain ⟨h3,i3,m2,m1,n1,o1,j3,k3,rfl,i0,j0,l3,x1⟩:=b0.elem' r0
  obtain ⟨s0,t0,rfl⟩:=i0.form
  obtain ⟨u0,v0,rfl⟩:=j0.form
  refine Bi (hA:=m1) (hj:=rfl) (hlt:=n1) rfl rfl ?_
  refine Bd (hl:=rfl) (hc:=o1) rfl ?_
  refine AU 3 l2 fun w0 m3 n2 f0 e0=>?_
  refine Az e0 rfl rfl rfl (AJ) (allOne) fun o2 g0 e0=>?_
  replace e0:Lc 3 o2 n2 w0 82 [(.string c0.name),(.int .i64 c0.cost),(.slice s0 c0.pre.length t0),(.slice u0 c0.effs.length v0)]:=e0
  refine o_z ?_
  refine Ab ?_
  obtain ⟨p2,d0,h0⟩:=bs h0
  refine Ay (fun l' w'=>∃ (q2:Unit) (O':Lab),subs l' [(3,(.bool p2)),(5,(.pointer (some ⟨w0,0,none⟩))),(8,(.slice l0 x0.ops.length m0)),(9,(.int .i64 (x0.ops.length:Int))),(10,(.int .i64 (d1:Int)))]∧Bs w A w' O'∧Lc 3 w' O' w0 82 [(.string c0.name),(.int .i64 c0.cost),(.slice s0 c0.pre.length t0),(.slice u0 c0.effs.length v0)]∧Vb w' (Fr 0 w' O') (.slice s0 c0.pre.length t0) c0.pre∧Vb w' (Fr 0 w' O') (.slice u0 c0.effs.length v0) c0.effs∧Vb w' (Fr 0 w' O') (.slice l0 x0.ops.length m0) x0.ops) ?_ ?_
  ·
   refine Aa (Ak rfl (Ak rfl ?_))
   rcases Bool.eq_false_or_eq_true n0 with y0|y0
   ·
    try rw [y0]
    replace d0:=ip d0 y0
    refine Al rfl rfl (Al rfl rfl (Al rfl rfl (Al rfl rfl (Bn rfl rfl (Am rfl (o_z ?_))))))
    obtain rfl:=sm d0
    exact ⟨(),_,⟨rfl,rfl,rfl,rfl,rfl,trivial⟩,(hB.st f0).st g0,e0,(i0.st f0).st g0,(j0.st f0).st g0,(b0.st f0).st g0⟩
   try rw [y0]
   replace d0:=im' d0 y0
   refine An rfl rfl (Ax rfl (An rfl rfl (At (hc:=Blk.cell (i:=0) (e0.1) rfl) rfl ?_)))
   refine An rfl rfl (ID rfl ?_)
   have n3:inI64 (c0.name.size:Int):=rngNat x1
   refine An rfl rfl (BW rfl rfl (fun p1=>?_) fun p1=>?_)
   ·
    replace d0:=ip d0 p1
    refine Bc rfl rfl (Am rfl (o_z ?_))
    obtain rfl:=sm d0
    exact ⟨(),_,⟨rfl,rfl,rfl,rfl,rfl,trivial⟩,(hB.st f0).st g0,e0,(i0.st f0).st g0,(j0.st f0).st g0,(b0.st f0).st g0⟩
   replace d0:=im d0 p1
   refine Bc rfl rfl (Am rfl (o_z ?_))
   obtain rfl:=sm d0
   exact ⟨(),_,⟨rfl,rfl,rfl,rfl,rfl,trivial⟩,(hB.st f0).st g0,e0,(i0.st f0).st g0,(j0.st f0).st g0,(b0.st f0).st g0⟩
  replace hB:=(hB.st f0).st g0
  replace b0:=(b0.st f0).st g0
  replace i0:=(i0.st f0).st g0
  replace j0:=(j0.st f0).st g0
  rintro o3 p3 ⟨q2,r2,q1,hB,e0,i0,j0,b0⟩
  refine AH _ q1 ?_
  refine Ab (Aa (Ax rfl (At (hc:=Blk.cell (i:=0) (e0.1) rfl) rfl ?_)))
  refine ID rfl ?_
  have y1:inI64 (c0.name.size:Int):=rngNat x1
  refine Ak rfl (o_z ?_)
  obtain ⟨z0,r1,h0⟩:=bs h0
  refine Ay (aft z0 (fun (o0:Bool) (e1:Unit)=>[(3,(.bool o0)),(8,(.slice l0 x0.ops.length m0)),(9,(.int .i64 (x0.ops.length:Int))),(10,(.int .i64 (d1:Int)))]) (fun o0 e1 w'=>∃ O':Lab,Bs w A w' O'∧Vb w' (Fr 0 w' O') (.slice l0 x0.ops.length m0) x0.ops)) ?_ ?_
  ·
   refine AK (Fp (σ:=Bool) (X:=Unit) (c0.name.size) r1 (rngNat' y1) (fun (o0:Bool) (e1:Unit)=>[(3,(.bool o0)),(5,(.pointer (some ⟨w0,0,none⟩))),(8,(.slice l0 x0.ops.length m0)),(9,(.int .i64 (x0.ops.length:Int))),(10,(.int .i64 (d1:Int)))]) _ (fun o0 e1 w'=>∃ O':Lab,Bs w A w' O'∧Lc 3 w' O' w0 82 [(.string c0.name),(.int .i64 c0.cost),(.slice s0 c0.pre.length t0),(.slice u0 c0.effs.length v0)]∧Vb w' (Fr 0 w' O') (.slice s0 c0.pre.length t0) c0.pre∧Vb w' (Fr 0 w' O') (.slice u0 c0.effs.length v0) c0.effs∧Vb w' (Fr 0 w' O') (.slice l0 x0.ops.length m0) x0.ops) _ () ⟨r2,hB,e0,i0,j0,b0⟩ ⟨rfl,rfl,rfl,rfl,rfl,rfl,rfl,trivial⟩ (fun _ _=>⟨rfl,rfl⟩) (fun _ _=>⟨rfl,rfl,rfl,rfl,trivial⟩) (fun _ _ _ ⟨O',hB,e0,i0,j0,b0⟩=>⟨O',hB,b0⟩) ⟨rfl,rfl,rfl⟩ ⟨rfl,rfl⟩ ?_)
   rintro s2 o0 e1 q3 t2 s1 ⟨r3,hB,e0,i0,j0,b0⟩ a0 t1 u1
   have rk81:inI64 (s2:Int):=rngKN s1 (rngNat' y1)
   refine Ab (Aa (Ak rfl (Am rfl (o_z ?_))))
   refine Aa (Ak rfl (Ak rfl ?_))
   rcases Bool.eq_false_or_eq_true o0 with a1|a1
   ·
    try rw [a1]
    replace a0:=ip a0 a1
    refine Al rfl rfl (Al rfl rfl (Al rfl rfl (Al rfl rfl (Al rfl rfl (Bn rfl rfl (Ak rfl (Al rfl rfl (Al rfl rfl (Al rfl rfl (Al rfl rfl (Al rfl rfl (Bn rfl rfl (Am rfl (o_z ?_))))))))))))))
    obtain rfl:=sm a0
    exact show Exists _ from ⟨_,(),rfl,⟨rfl,rfl,rfl,rfl,rfl,rfl,rfl,trivial⟩,_,hB,e0,i0,j0,b0⟩
   try rw [a1]
   replace a0:=im' a0 a1
   refine An rfl rfl (Ax rfl (An rfl rfl (At (hc:=Blk.cell (i:=0) (e0.1) rfl) rfl ?_)))
   refine An rfl rfl (Ak rfl (An rfl rfl ?_))
   obtain ⟨s3,z1,a0⟩:=bs a0
   have t3:=Hi z1
   refine Kr (he:=z1) rfl rfl rfl ?_
   refine An rfl rfl (Dm rfl rfl (fun v1=>?_) fun v1=>?_)
   ·
    replace a0:=ip a0 v1
    refine Bc rfl rfl (Ak rfl (Al rfl rfl (Al rfl rfl (Al rfl rfl (Al rfl rfl (Al rfl rfl (Bn rfl rfl (Am rfl (o_z ?_)))))))))
    obtain rfl:=sm a0
    exact show Exists _ from ⟨_,(),rfl,⟨rfl,rfl,rfl,rfl,rfl,rfl,rfl,trivial⟩,_,hB,e0,i0,j0,b0⟩
   replace a0:=im a0 v1
   refine Bc rfl rfl (Ak rfl (An rfl rfl (Ax rfl (An rfl rfl (At (hc:=Blk.cell (i:=0) (e0.1) rfl) rfl ?_)))))
   refine An rfl rfl (Ak rfl (An rfl rfl ?_))
   obtain ⟨u3,a2,a0⟩:=bs a0
   have w3:=Hi a2
   refine Kr (he:=a2) rfl rfl rfl ?_
   refine An rfl rfl (BW rfl rfl (fun p0=>?_) fun p0=>?_)
   ·
    replace a0:=ip a0 p0
    refine Bc rfl rfl (Am rfl (o_z ?_))
    obtain rfl:=sm a0
    exact show Exists _ from ⟨_,(),rfl,⟨rfl,rfl,rfl,rfl,rfl,rfl,rfl,trivial⟩,_,hB,e0,i0,j0,b0⟩
   replace a0:=im a0 p0
   refine Bc rfl rfl (Am rfl (o_z ?_))
   obtain rfl:=sm a0
   exact show Exists _ from ⟨_,(),rfl,⟨rfl,rfl,rfl,rfl,rfl,rfl,rfl,trivial⟩,_,hB,e0,i0,j0,b0⟩
  rintro u2 v2 ⟨w2,x2,rfl,k0,y2,hB,b0⟩
  replace h0:=AR h0
  obtain rfl:=sm h0
  exact show Exists _ from ⟨_,(),rfl,⟨(Ar k0 _ _ rfl),(Ar k0 _ _ rfl),(Ar k0 _ _ rfl),(Ar k0 _ _ rfl),trivial⟩,_,hB,b0⟩
 replace hB:=hB.st g1
 rintro z2 a3 ⟨b3,c3,rfl,b1,d3,hB⟩
 replace hm:=AR hm
 refine AH _ b1 ?_
 refine Ab (Aa (Ak rfl (Am rfl (o_z ?_))))
 refine AF ?_
 obtain rfl:=sm hm
 exact ret1v rfl (AA rfl) ⟨hB.ext,vBool⟩
noncomputable def FE (x0:Tsk):Option Int :=
  bnd (FD x0) fun q24=>if q24=true then some 5 else bnd (EN x0) fun q31=>if q31=true then some 1 else bnd (Ed x0) fun q38=>if q38=true then some 2 else bnd (Ew x0) fun q45=>if q45=true then some 8 else some 0
theorem MV {w:World} {A:Nat→Prop} (hA:∀ k,A k→k < w.heap.size) {vx0:Value} {x0:Tsk} (o0:Vb w A vx0 x0) {r:Int} (hm:FE x0=some r) :
    Fn prog 17 [vx0] w fun v w'=>Ext w w'∧Vb w' (upA A w w') v r:=by
 obtain ⟨O,hB,v0⟩:=enter hA
 replace o0:=o0.mono v0
 obtain ⟨n1,rfl,v3,v4,v5,v6,rfl,h7,a0,b0,c0⟩:=o0
 obtain ⟨A8,c9,rfl⟩:=h7.form
 obtain ⟨i0,j0,rfl⟩:=a0.form
 obtain ⟨k0,l0,rfl⟩:=b0.form
 obtain ⟨m0,n0,rfl⟩:=c0.form
 refine AL func17 rfl ntmps17 ?_
 unfold FE at hm
 refine Ab (Aa (BL 2 O rfl fun w0 q0 p0 f0 d0=>?_))
 replace d0:Lc 2 q0 p0 w0 31 [(.slice A8 x0.vars.length c9),(.slice i0 x0.init.length j0),(.slice k0 x0.goal.length l0),(.slice m0 x0.ops.length n0)]:=d0
 refine Am rfl (o_z ?_)
 refine Ab (AK (Ab (Aa (Bd (hl:=rfl) (hc:=(d0.1).cellsAt) rfl ?_))))
 obtain ⟨y0,z0,hm⟩:=bs hm
 replace h7:=h7.st f0
 replace a0:=a0.st f0
 replace b0:=b0.st f0
 replace c0:=c0.st f0
 refine AM (O:=p0) (MU (fun _ h=>h) (Vb.mono (F:=Fr 0 q0 p0) (Vb.ofAgg (cs:=[(.slice A8 x0.vars.length c9),(.slice i0 x0.init.length j0),(.slice k0 x0.goal.length l0),(.slice m0 x0.ops.length n0)]) (x:=x0) rfl ⟨_,_,_,_,rfl,h7,a0,b0,c0⟩) Fr.lt) z0) rfl fun o1 a1 r0 e0 b1=>?_
 obtain rfl:=b1.bool
 cases y0
 case false =>
  replace hm:=iF hm
  refine Am rfl (o_z ?_)
  refine Ae rfl (Ab (Aa ?_))
  replace d0:=d0.st e0
  refine Bd (hl:=rfl) (hc:=(d0.1).cellsAt) rfl ?_
  obtain ⟨c1,d1,hm⟩:=bs hm
  replace h7:=h7.st e0
  replace a0:=a0.st e0
  replace b0:=b0.st e0
  replace c0:=c0.st e0
  refine AM (O:=r0) (LW (fun _ h=>h) (Vb.mono (F:=Fr 0 a1 r0) (Vb.ofAgg (cs:=[(.slice A8 x0.vars.length c9),(.slice i0 x0.init.length j0),(.slice k0 x0.goal.length l0),(.slice m0 x0.ops.length n0)]) (x:=x0) rfl ⟨_,_,_,_,rfl,h7,a0,b0,c0⟩) Fr.lt) d1) rfl fun p1 e1 s0 g0 f1=>?_
  obtain rfl:=f1.bool
  cases c1
  case false =>
   replace hm:=iF hm
   refine Am rfl (o_z ?_)
   refine Ae rfl (Ab (Aa ?_))
   replace d0:=d0.st g0
   refine Bd (hl:=rfl) (hc:=(d0.1).cellsAt) rfl ?_
   obtain ⟨g1,h1,hm⟩:=bs hm
   replace h7:=h7.st g0
   replace a0:=a0.st g0
   replace b0:=b0.st g0
   replace c0:=c0.st g0
   refine AM (O:=s0) (KB (fun _ h=>h) (Vb.mono (F:=Fr 0 e1 s0) (Vb.ofAgg (cs:=[(.slice A8 x0.vars.length c9),(.slice i0 x0.init.length j0),(.slice k0 x0.goal.length l0),(.slice m0 x0.ops.length n0)]) (x:=x0) rfl ⟨_,_,_,_,rfl,h7,a0,b0,c0⟩) Fr.lt) h1) rfl fun q1 i1 t0 h0 j1=>?_
   obtain rfl:=j1.bool
   cases g1
   case false =>
    replace hm:=iF hm
    refine Am rfl (o_z ?_)
    refine Ae rfl (Ab (Aa ?_))
    replace d0:=d0.st h0
    refine Bd (hl:=rfl) (hc:=(d0.1).cellsAt) rfl ?_
    obtain ⟨k1,l1,hm⟩:=bs hm
    replace h7:=h7.st h0
    replace a0:=a0.st h0
    replace b0:=b0.st h0
    replace c0:=c0.st h0
    refine AM (O:=t0) (Lr (fun _ h=>h) (Vb.mono (F:=Fr 0 i1 t0) (Vb.ofAgg (cs:=[(.slice A8 x0.vars.length c9),(.slice i0 x0.init.length j0),(.slice k0 x0.goal.length l0),(.slice m0 x0.ops.length n0)]) (x:=x0) rfl ⟨_,_,_,_,rfl,h7,a0,b0,c0⟩) Fr.lt) l1) rfl fun r1 s1 t1 u0 m1=>?_
    obtain rfl:=m1.bool
    cases k1
    case false =>
     replace hm:=iF hm
     refine Am rfl (o_z ?_)
     refine Ae rfl (AO (Ab (Aa (Am rfl (o_z ?_)))))
     refine AF ?_
     obtain rfl:=sm hm
     replace hB:=((((hB.st f0).st e0).st g0).st h0).st u0
     exact ret1v rfl (AA rfl) ⟨hB.ext,(vInt (iI64 0))⟩
    replace hm:=iT hm
    refine Am rfl (o_z ?_)
    refine Ah rfl (Ab (Aa (Am rfl (o_z ?_))))
    refine AF ?_
    obtain rfl:=sm hm
    replace hB:=((((hB.st f0).st e0).st g0).st h0).st u0
    exact ret1v rfl (AA rfl) ⟨hB.ext,(vInt (iI64 8))⟩
   replace hm:=iT hm
   refine Am rfl (o_z ?_)
   refine Ah rfl (Ab (Aa (Am rfl (o_z ?_))))
   refine AF ?_
   obtain rfl:=sm hm
   replace hB:=(((hB.st f0).st e0).st g0).st h0
   exact ret1v rfl (AA rfl) ⟨hB.ext,(vInt (iI64 2))⟩
  replace hm:=iT hm
  refine Am rfl (o_z ?_)
  refine Ah rfl (Ab (Aa (Am rfl (o_z ?_))))
  refine AF ?_
  obtain rfl:=sm hm
  replace hB:=((hB.st f0).st e0).st g0
  exact ret1v rfl (AA rfl) ⟨hB.ext,(vInt (iI64 1))⟩
 replace hm:=iT hm
 refine Am rfl (o_z ?_)
 refine Ah rfl (Ab (Aa (Am rfl (o_z ?_))))
 refine AF ?_
 obtain rfl:=sm hm
 replace hB:=(hB.st f0).st e0
 exact ret1v rfl (AA rfl) ⟨hB.ext,(vInt (iI64 5))⟩
end
section
open Go Go.RowKit
attribute [local irreducible] ewp owp hwp hwq Ev Evg Fn retPost Res1
attribute [local irreducible] hwx loudX
noncomputable def Ex (x0:List Fct) (x1:List Fct):Option Bool :=
  if (x0.length:Int)≠(x1.length:Int) then (some false) else (bnd (rng (ρ:=Bool) (fun (k18:Nat) (a19:Fct) (s16:Unit)=>bnd (x1[k18]?) fun a38=>if ¬ (a19.var=a38.var∧a19.val=a38.val) then (some (.ret false)) else (some (.next ()))) x0 0 ()) fun res14=>fin res14 fun (s54:Unit)=>some true)
theorem Ii {w:World} {A:Nat→Prop} (hA:∀ k,A k→k < w.heap.size) {vx0:Value} {x0:List Fct} (b0:Vb w A vx0 x0) {vx1:Value} {x1:List Fct} (c0:Vb w A vx1 x1) {r:Bool} (hm:Ex x0 x1=some r) :
    Fn prog 47 [vx0,vx1] w fun v w'=>Ext w w'∧Vb w' (upA A w w') v r:=by
 obtain ⟨O,hB,u0⟩:=enter hA
 replace b0:=b0.mono u0
 obtain ⟨A3,c4,rfl⟩:=b0.form
 replace c0:=c0.mono u0
 obtain ⟨A5,c6,rfl⟩:=c0.form
 refine AL func47 rfl ntmps47 ?_
 unfold Ex at hm
 refine Ab (Aa (Am rfl (o_z ?_)))
 refine Ab (Ab (Aa (Ak rfl (AS rfl ?_))))
 have l8:x0.length≤9223372036854775807:=Nat.le_trans b0.len.2.1 b0.len.2.2
 have r7:inI64 (x0.length:Int):=rngNat l8
 refine Ak rfl (AS rfl ?_)
 have v0:x1.length≤9223372036854775807:=Nat.le_trans c0.len.2.1 c0.len.2.2
 have r9:inI64 (x1.length:Int):=rngNat v0
 refine HL rfl rfl (fun i0=>?_) fun i0=>?_
 ·
  replace hm:=ip hm i0
  refine o_z ?_
  refine Ah rfl (Ab (Aa (Am rfl (o_z ?_))))
  refine AF ?_
  obtain rfl:=sm hm
  exact ret1v rfl (AA rfl) ⟨hB.ext,vBool⟩
 replace hm:=im hm i0
 refine o_z ?_
 refine Ae rfl (AO (Ab (Ab (Aa (Ak rfl (AS rfl ?_))))))
 have j0:x0.length≤9223372036854775807:=Nat.le_trans b0.len.2.1 b0.len.2.2
 have d1:inI64 (x0.length:Int):=rngNat j0
 refine Ak rfl (o_z ?_)
 obtain ⟨e0,k0,hm⟩:=bs hm
 refine Ay (aft e0 (fun (g0:Unit) (h0:Unit)=>[]) (fun g0 h0 w'=>∃ O':Lab,Bs w A w' O')) ?_ ?_
 ·
  refine AK (AY (σ:=Unit) (X:=Unit) (x0.length) k0 rfl j0 (fun (g0:Unit) (h0:Unit)=>[(0,(.slice A3 x0.length c4)),(1,(.slice A5 x1.length c6))]) _ (fun g0 h0 w'=>∃ O':Lab,Bs w A w' O'∧Vb w' (Fr 0 w' O') (.slice A3 x0.length c4) x0∧Vb w' (Fr 0 w' O') (.slice A5 x1.length c6) x1) _ () ⟨O,hB,b0,c0⟩ ⟨rfl,rfl,rfl,rfl,trivial⟩ (fun _ _=>⟨rfl,rfl⟩) (fun _ _=>trivial) (fun _ _ _ ⟨O',hB,b0,c0⟩=>⟨O',hB⟩) ⟨rfl,rfl,rfl⟩ ⟨rfl,rfl⟩ ?_)
  rintro w0 e1 g0 h0 y0 z0 f0 ⟨f1,hB,b0,c0⟩ a0 d0 l0
  have rk18:inI64 (w0:Int):=rngK f0 j0
  refine Ab (Aa (Ak rfl (Am rfl (o_z ?_))))
  refine Ab (FU (·=y0) [(0,true),(1,true),(2,true),(3,true),(4,true),(5,true),(6,true),(7,true),(8,true)] rfl rfl ?_)
  refine AX rfl rfl (AX rfl rfl ?_)
  obtain ⟨g1,h1,a1,m0,n0,o0,rfl,i1,j1⟩:=b0.elem' f0
  refine CK (hA:=m0) (hj:=rfl) (hlt:=n0) rfl rfl rfl ?_
  refine Nb (hl:=rfl) (hc:=o0) rfl rfl rfl ?_
  refine AX rfl rfl (AX rfl rfl ?_)
  obtain ⟨k1,b1,a0⟩:=bs a0
  obtain ⟨l1,m1,c1,p0,q0,r0,rfl,n1,o1⟩:=c0.elem' b1
  refine CK (hA:=p0) (hj:=rfl) (hlt:=q0) rfl rfl rfl ?_
  refine Nb (hl:=rfl) (hc:=r0) rfl rfl rfl ?_
  refine Sd rfl rfl rfl rfl (fun s0=>?_) fun s0=>?_
  ·
   replace a0:=ip a0 s0
   refine h_z ?_
   refine Ah rfl (Ab (Aa (Am rfl (o_z ?_))))
   refine AF ?_
   obtain rfl:=sm a0
   obtain rfl:=d0 _ rfl
   obtain rfl:=sm (BY hm)
   exact ret1v rfl (AA rfl) ⟨hB.ext,vBool⟩
  replace a0:=im a0 s0
  refine h_z ?_
  refine Ae rfl (AO ?_)
  obtain rfl:=sm a0
  exact show Exists _ from ⟨_,(),rfl,⟨rfl,rfl,rfl,rfl,trivial⟩,_,hB,b0,c0⟩
 rintro p1 q1 ⟨r1,s1,rfl,t0,t1,hB⟩
 replace hm:=AR hm
 refine AH _ t0 ?_
 refine Ab (Aa (Am rfl (o_z ?_)))
 refine AF ?_
 obtain rfl:=sm hm
 exact ret1v rfl (AA rfl) ⟨hB.ext,vBool⟩
noncomputable def Fc (x0:List Eff) (x1:List Eff):Option Bool :=
  if (x0.length:Int)≠(x1.length:Int) then (some false) else (bnd (rng (ρ:=Bool) (fun (k18:Nat) (a19:Eff) (s16:Unit)=>bnd (bnd (x1[k18]?) fun a46=>if a19.var≠a46.var then (some true) else (bnd (x1[k18]?) fun a75=>if a19.val≠a75.val then (some true) else (bnd (x1[k18]?) fun a104=>bnd (Ex a19.cond a104.cond) fun q119=>if q119=true then some false else some true)):Option Bool) fun y29=>if y29=true then (some (.ret false)) else (some (.next ()))) x0 0 ()) fun res14=>fin res14 fun (s135:Unit)=>some true)
theorem Mp {w:World} {A:Nat→Prop} (hA:∀ k,A k→k < w.heap.size) {vx0:Value} {x0:List Eff} (b0:Vb w A vx0 x0) {vx1:Value} {x1:List Eff} (c0:Vb w A vx1 x1) {r:Bool} (hm:Fc x0 x1=some r) :
    Fn prog 48 [vx0,vx1] w fun v w'=>Ext w w'∧Vb w' (upA A w w') v r:=by
 obtain ⟨O,hB,y1⟩:=enter hA
 replace b0:=b0.mono y1
 obtain ⟨A3,c4,rfl⟩:=b0.form
 replace c0:=c0.mono y1
 obtain ⟨A5,c6,rfl⟩:=c0.form
 refine AL func48 rfl ntmps48 ?_
 unfold Fc at hm
 refine Ab (Aa (Am rfl (o_z ?_)))
 refine Ab (Ab (Aa (Ak rfl (AS rfl ?_))))
 have l8:x0.length≤9223372036854775807:=Nat.le_trans b0.len.2.1 b0.len.2.2
 have r7:inI64 (x0.length:Int):=rngNat l8
 refine Ak rfl (AS rfl ?_)
 have d2:x1.length≤9223372036854775807:=Nat.le_trans c0.len.2.1 c0.len.2.2
 have r9:inI64 (x1.length:Int):=rngNat d2
 refine HL rfl rfl (fun s0=>?_) fun s0=>?_
 ·
  replace hm:=ip hm s0
  refine o_z ?_
  refine Ah rfl (Ab (Aa (Am rfl (o_z ?_))))
  refine AF ?_
  obtain rfl:=sm hm
  exact ret1v rfl (AA rfl) ⟨hB.ext,vBool⟩
 replace hm:=im hm s0
 refine o_z ?_
 refine Ae rfl (AO (Ab (Ab (Aa (Ak rfl (AS rfl ?_))))))
 have t0:x0.length≤9223372036854775807:=Nat.le_trans b0.len.2.1 b0.len.2.2
 have p3:inI64 (x0.length:Int):=rngNat t0
 refine Ak rfl (o_z ?_)
 obtain ⟨i0,u0,hm⟩:=bs hm
 refine Ay (aft i0 (fun (q0:Unit) (r0:Unit)=>[]) (fun q0 r0 w'=>∃ O':Lab,Bs w A w' O')) ?_ ?_
 ·
  refine AK (AY (σ:=Unit) (X:=Unit) (x0.length) u0 rfl t0 (fun (q0:Unit) (r0:Unit)=>[(0,(.slice A3 x0.length c4)),(1,(.slice A5 x1.length c6))]) _ (fun q0 r0 w'=>∃ O':Lab,Bs w A w' O'∧Vb w' (Fr 0 w' O') (.slice A3 x0.length c4) x0∧Vb w' (Fr 0 w' O') (.slice A5 x1.length c6) x1) _ () ⟨O,hB,b0,c0⟩ ⟨rfl,rfl,rfl,rfl,trivial⟩ (fun _ _=>⟨rfl,rfl⟩) (fun _ _=>trivial) (fun _ _ _ ⟨O',hB,b0,c0⟩=>⟨O',hB⟩) ⟨rfl,rfl,rfl⟩ ⟨rfl,rfl⟩ ?_)
  rintro z1 q3 q0 r0 r3 e2 f0 ⟨a2,hB,b0,c0⟩ d0 g0 v0
  have rk18:inI64 (z1:Int):=rngK f0 t0
  refine Ab (Aa (Ak rfl (Am rfl (o_z ?_))))
  refine Ab ?_
  obtain ⟨f2,a0,d0⟩:=bs d0
  refine Ay (fun l' w'=>∃ (g2:Unit) (O':Lab),subs l' [(0,(.slice A3 x0.length c4)),(1,(.slice A5 x1.length c6)),(12,(.int .i64 (x0.length:Int))),(13,(.int .i64 (z1:Int))),(53,(.bool f2))]∧Bs w A w' O'∧Vb w' (Fr 0 w' O') (.slice A3 x0.length c4) x0∧Vb w' (Fr 0 w' O') (.slice A5 x1.length c6) x1) ?_ ?_
  ·
   refine Br [] a2 ?_
   refine AP (fuel:=3) [] [(0,true),(1,true),(2,true),(3,true),(4,true),(5,true),(6,true),(7,true),(8,true),(9,true),(10,true),(11,true),(12,true),(13,true),(14,true),(15,true),(16,true),(17,true),(18,true),(19,true),(20,true),(21,true),(22,true),(23,true),(24,true),(25,true),(26,true),(27,true),(28,true),(29,true),(30,true),(31,true),(32,true),(33,true),(34,true)] rfl ?_
   refine AX rfl rfl (AX rfl rfl ?_)
   obtain ⟨s3,t3,h2,w0,y0,z0,a1,u3,rfl,i2,v3,w3⟩:=b0.elem f0
   obtain ⟨x3,y3,rfl⟩:=i2.form
   refine CK (hA:=w0) (hj:=rfl) (hlt:=z0) rfl rfl rfl ?_
   refine AT rfl rfl (AV (hc:=fun w' ⟨O',hq⟩=>cat1 (Bp (hq.agree (i:=0) (by decide)) y0 a1)) rfl rfl ?_)
   refine AX rfl rfl (AX rfl rfl ?_)
   obtain ⟨z3,j2,a0⟩:=bs a0
   obtain ⟨a4,b4,k2,b1,c1,d1,e1,d4,rfl,l2,e4,f4⟩:=c0.elem j2
   obtain ⟨g4,h4,rfl⟩:=l2.form
   refine CK (hA:=b1) (hj:=rfl) (hlt:=d1) rfl rfl rfl ?_
   refine AT rfl rfl (AV (hc:=fun w' ⟨O',hq⟩=>cat1 (Bp (hq.agree (i:=0) (by decide)) c1 e1)) rfl rfl ?_)
   refine QK rfl rfl rfl rfl (fun f1=>?_) fun f1=>?_
   ·
    replace a0:=ip a0 f1
    refine AX rfl rfl (CR rfl rfl rfl (CR rfl rfl rfl (CR rfl rfl rfl (CR rfl rfl rfl (CR rfl rfl rfl (CR rfl rfl rfl (CR rfl rfl rfl (CR rfl rfl rfl (CR rfl rfl rfl (CR rfl rfl rfl (CR rfl rfl rfl (DN rfl rfl rfl (AX rfl rfl (CR rfl rfl rfl ?_))))))))))))))
    refine CR rfl rfl rfl (CR rfl rfl rfl (CR rfl rfl rfl (CR rfl rfl rfl (CR rfl rfl rfl (CR rfl rfl rfl (CR rfl rfl rfl (CR rfl rfl rfl (CR rfl rfl rfl (AC ?_)))))))))
    refine AD (i:=35) rfl ?_
    refine Al rfl rfl (AN [] (lZ (St.refl nT _ _)) ?_)
    refine AP (fuel:=0) [] [(36,true),(37,true)] rfl ?_
    refine CR rfl rfl rfl (DN rfl rfl rfl (AC ?_))
    refine Bv ?_
    obtain rfl:=sm a0
    exact ⟨(),_,⟨rfl,rfl,rfl,rfl,rfl,trivial⟩,hB,b0,c0⟩
   replace a0:=im a0 f1
   refine AX rfl rfl (AB rfl (Aw rfl rfl (CC rfl (AB rfl (Aw rfl rfl (CC rfl (AB rfl (Aw rfl rfl ?_))))))))
   obtain ⟨i4,j4,m2,g1,h1,i1,j1,k4,rfl,n2,l4,m4⟩:=b0.elem f0
   obtain ⟨n4,o4,rfl⟩:=n2.form
   refine Ng (hA:=g1) (hj:=rfl) (hlt:=i1) rfl rfl rfl ?_
   refine AB rfl (Aw rfl rfl (CH rfl (AB rfl (Aw rfl rfl (Nc (hc:=fun w' ⟨O',hq⟩=>cat2 (Bp (hq.agree (i:=0) (by decide)) h1 j1)) rfl rfl ?_)))))
   refine AB rfl (Aw rfl rfl (CC rfl (AB rfl (Aw rfl rfl (CC rfl (AB rfl (Aw rfl rfl ?_)))))))
   obtain ⟨p4,o2,a0⟩:=bs a0
   obtain ⟨q4,r4,p2,k1,l1,m1,n1,s4,rfl,q2,t4,u4⟩:=c0.elem o2
   obtain ⟨v4,w4,rfl⟩:=q2.form
   refine Ng (hA:=k1) (hj:=rfl) (hlt:=m1) rfl rfl rfl ?_
   refine AB rfl (Aw rfl rfl (CH rfl (AB rfl (Aw rfl rfl (Nc (hc:=fun w' ⟨O',hq⟩=>cat2 (Bp (hq.agree (i:=0) (by decide)) l1 n1)) rfl rfl ?_)))))
   refine AB rfl (Aw rfl rfl (BB (fun _ _=>FP rfl rfl) (fun o1=>?_) (fun o1=>?_)))
   ·
    replace a0:=ip a0 o1
    refine DE rfl rfl rfl (AX rfl rfl (CR rfl rfl rfl (CR rfl rfl rfl (CR rfl rfl rfl (CR rfl rfl rfl (CR rfl rfl rfl (CR rfl rfl rfl (CR rfl rfl rfl (CR rfl rfl rfl (CR rfl rfl rfl (CR rfl rfl rfl (AC ?_))))))))))))
    refine AD (i:=35) rfl ?_
    refine Al rfl rfl (AN [] (lZ (St.refl nT _ _)) ?_)
    refine AP (fuel:=0) [] [(36,true),(37,true)] rfl ?_
    refine CR rfl rfl rfl (DN rfl rfl rfl (AC ?_))
    refine Bv ?_
    obtain rfl:=sm a0
    exact ⟨(),_,⟨rfl,rfl,rfl,rfl,rfl,trivial⟩,hB,b0,c0⟩
   replace a0:=im a0 o1
   refine DE rfl rfl rfl (AX rfl rfl (AB rfl (Aw rfl rfl (CC rfl (AB rfl (Aw rfl rfl (CC rfl (AB rfl (Aw rfl rfl ?_)))))))))
   obtain ⟨x4,y4,r2,p1,q1,r1,s1,z4,rfl,b2,s2,t2⟩:=b0.elem f0
   obtain ⟨u2,v2,rfl⟩:=b2.form
   refine Ng (hA:=p1) (hj:=rfl) (hlt:=r1) rfl rfl rfl ?_
   refine AB rfl (Aw rfl rfl (CH rfl (AB rfl (Aw rfl rfl (Nc (hc:=fun w' ⟨O',hq⟩=>cat0 (Bp (hq.agree (i:=0) (by decide)) q1 s1)) rfl rfl ?_)))))
   refine AB rfl (Aw rfl rfl (CC rfl (AB rfl (Aw rfl rfl (CC rfl (AB rfl (Aw rfl rfl ?_)))))))
   obtain ⟨w2,t1,a0⟩:=bs a0
   obtain ⟨x2,y2,c2,j0,k0,l0,m0,z2,rfl,n0,a3,b3⟩:=c0.elem t1
   obtain ⟨c3,d3,rfl⟩:=n0.form
   refine Ng (hA:=j0) (hj:=rfl) (hlt:=l0) rfl rfl rfl ?_
   refine AB rfl (Aw rfl rfl (CH rfl (AB rfl (Aw rfl rfl (Nc (hc:=fun w' ⟨O',hq⟩=>cat0 (Bp (hq.agree (i:=0) (by decide)) k0 m0)) rfl rfl ?_)))))
   refine AC ?_
   refine AD (i:=35) rfl ?_
   refine An rfl rfl ?_
   obtain ⟨u1,v1,a0⟩:=bs a0
   refine AM (O:=a2) (Ii (fun _ h=>h) (vMo b2) (vMo n0) v1) rfl fun e3 f3 g3 e0 w1=>?_
   obtain rfl:=w1.bool
   have hZ:=lZ e0
   cases u1
   case false =>
    replace a0:=iF a0
    refine AN [] hZ ?_
    refine AP (fuel:=0) [] [(36,true),(37,true)] rfl ?_
    refine AB rfl (Aw rfl rfl (Sn rfl rfl (DE rfl rfl rfl (AC ?_))))
    refine Bv ?_
    obtain rfl:=sm a0
    exact ⟨(),_,⟨rfl,rfl,rfl,rfl,rfl,trivial⟩,hB.st e0,b0.st e0,c0.st e0⟩
   replace a0:=iT a0
   refine AN [] hZ ?_
   refine AP (fuel:=0) [] [(36,true),(37,true)] rfl ?_
   refine AB rfl (Aw rfl rfl (Sm rfl rfl (DE rfl rfl rfl (AC ?_))))
   refine Bv ?_
   obtain rfl:=sm a0
   exact ⟨(),_,⟨rfl,rfl,rfl,rfl,rfl,trivial⟩,hB.st e0,b0.st e0,c0.st e0⟩
  rintro h3 i3 ⟨g2,j3,o0,hB,b0,c0⟩
  refine AH _ o0 ?_
  refine Cd rfl (fun h0=>?_) (fun h0=>?_)
  ·
   replace d0:=ip d0 h0
   refine Ab (Aa (Am rfl (o_z ?_)))
   refine AF ?_
   obtain rfl:=sm d0
   obtain rfl:=g0 _ rfl
   obtain rfl:=sm (BY hm)
   exact ret1v rfl (AA rfl) ⟨hB.ext,vBool⟩
  replace d0:=im' d0 h0
  refine AO ?_
  obtain rfl:=sm d0
  exact show Exists _ from ⟨_,(),rfl,⟨rfl,rfl,rfl,rfl,trivial⟩,_,hB,b0,c0⟩
 rintro k3 l3 ⟨m3,n3,rfl,p0,o3,hB⟩
 replace hm:=AR hm
 refine AH _ p0 ?_
 refine Ab (Aa (Am rfl (o_z ?_)))
 refine AF ?_
 obtain rfl:=sm hm
 exact ret1v rfl (AA rfl) ⟨hB.ext,vBool⟩
noncomputable def Ey (x0:Tsk) (x1:Tsk):Option Bool :=
  bnd (bnd (Ej x0.vars x1.vars) fun q51=>if q51=true then bnd (Ej x0.init x1.init) fun q58=>if q58=true then bnd (Ex x0.goal x1.goal) fun q65=>if q65=true then if (x0.ops.length:Int)≠(x1.ops.length:Int) then (some true) else (some false) else some true else some true else some true:Option Bool) fun y47=>if y47=true then (some false) else (bnd (rng (ρ:=Bool) (fun (k88:Nat) (a89:Opr) (s86:Unit)=>bnd (x1.ops[k88]?) fun a99=>bnd (if a89.name≠a99.name then (some true) else (if a89.cost≠a99.cost then (some true) else (bnd (Ex a89.pre a99.pre) fun q199=>if q199=true then bnd (Fc a89.effs a99.effs) fun q206=>if q206=true then some false else some true else some true)):Option Bool) fun y193=>if y193=true then (some (.ret false)) else (some (.next ()))) x0.ops 0 ()) fun res84=>fin res84 fun (s222:Unit)=>some true)
theorem Ij {w:World} {A:Nat→Prop} (hA:∀ k,A k→k < w.heap.size) {vx0:Value} {x0:Tsk} (g3:Vb w A vx0 x0) {vx1:Value} {x1:Tsk} (h3:Vb w A vx1 x1) {r:Bool} (hm:Ey x0 x1=some r) :
    Fn prog 14 [vx0,vx1] w fun v w'=>Ext w w'∧Vb w' (upA A w w') v r:=by
 obtain ⟨O,hB,k4⟩:=enter hA
 replace g3:=g3.mono k4
 obtain ⟨b7,rfl,v4,v5,v6,v7,rfl,h8,t0,u0,r0⟩:=g3
 obtain ⟨A9,m1,rfl⟩:=h8.form
 obtain ⟨n1,o1,rfl⟩:=t0.form
 obtain ⟨p1,q1,rfl⟩:=u0.form
 obtain ⟨r1,s1,rfl⟩:=r0.form
 replace h3:=h3.mono k4
 obtain ⟨r4,rfl,c7,d7,e7,f7,rfl,v0,w0,y0,s0⟩:=h3
 obtain ⟨t1,u1,rfl⟩:=v0.form
 obtain ⟨v1,w1,rfl⟩:=w0.form
 obtain ⟨y1,z1,rfl⟩:=y0.form
 obtain ⟨a2,b2,rfl⟩:=s0.form
 refine AL func14 rfl ntmps14 ?_
 unfold Ey at hm
 refine Ab (Aa (BL 2 O rfl fun e1 s4 l4 k0 i0=>?_))
 replace i0:Lc 2 s4 l4 e1 31 [(.slice A9 x0.vars.length m1),(.slice n1 x0.init.length o1),(.slice p1 x0.goal.length q1),(.slice r1 x0.ops.length s1)]:=i0
 refine BL 3 l4 rfl fun f1 t4 m4 j0 n0=>?_
 replace n0:Lc 3 t4 m4 f1 31 [(.slice t1 x1.vars.length u1),(.slice v1 x1.init.length w1),(.slice y1 x1.goal.length z1),(.slice a2 x1.ops.length b2)]:=n0
 refine Am rfl (o_z ?_)
 refine Ab (Ab ?_)
 obtain ⟨u4,f0,hm⟩:=bs hm
 refine Ay (fun l' w'=>∃ (w4:Unit) (O':Lab),subs l' [(2,(.pointer (some ⟨e1,0,none⟩))),(3,(.pointer (some ⟨f1,0,none⟩))),(38,(.bool u4))]∧Bs w A w' O'∧Lc 2 w' O' e1 31 [(.slice A9 x0.vars.length m1),(.slice n1 x0.init.length o1),(.slice p1 x0.goal.length q1),(.slice r1 x0.ops.length s1)]∧Vb w' (Fr 0 w' O') (.slice A9 x0.vars.length m1) x0.vars∧Vb w' (Fr 0 w' O') (.slice n1 x0.init.length o1) x0.init∧Vb w' (Fr 0 w' O') (.slice p1 x0.goal.length q1) x0.goal∧Vb w' (Fr 0 w' O') (.slice r1 x0.ops.length s1) x0.ops∧Lc 3 w' O' f1 31 [(.slice t1 x1.vars.length u1),(.slice v1 x1.init.length w1),(.slice y1 x1.goal.length z1),(.slice a2 x1.ops.length b2)]∧Vb w' (Fr 0 w' O') (.slice t1 x1.vars.length u1) x1.vars∧Vb w' (Fr 0 w' O') (.slice v1 x1.init.length w1) x1.init∧Vb w' (Fr 0 w' O') (.slice y1 x1.goal.length z1) x1.goal∧Vb w' (Fr 0 w' O') (.slice a2 x1.ops.length b2) x1.ops) ?_ ?_
 ·
  refine Aa (Ax rfl ?_)
  replace i0:=i0.st j0
  refine At (hc:=Blk.cell (i:=0) (i0.1) rfl) rfl ?_
  refine Ax rfl (At (hc:=Blk.cell (i:=0) (n0.1) rfl) rfl ?_)
  obtain ⟨x4,y4,f0⟩:=bs f0
  replace h8:=(h8.st k0).st j0
  replace v0:=(v0.st k0).st j0
  refine AM (O:=m4) (Hs (fun _ h=>h) (vMo h8) (vMo v0) y4) rfl fun g7 h7 z4 h0 a5=>?_
  obtain rfl:=a5.bool
  cases x4
  case false =>
   replace f0:=iF f0
   refine Dl rfl (Ak rfl (Al rfl rfl (Al rfl rfl (Al rfl rfl (Al rfl rfl (Al rfl rfl (Al rfl rfl (Bn rfl rfl (Ak rfl (Al rfl rfl (Al rfl rfl (Al rfl rfl (Al rfl rfl (Al rfl rfl ?_))))))))))))))
   refine Al rfl rfl (Bn rfl rfl (Ak rfl (Al rfl rfl (Al rfl rfl (Al rfl rfl (Al rfl rfl (Al rfl rfl (Al rfl rfl (Al rfl rfl (Bn rfl rfl (o_z ?_)))))))))))
   obtain rfl:=sm f0
   exact ⟨(),_,⟨rfl,rfl,rfl,trivial⟩,((hB.st k0).st j0).st h0,i0.st h0,h8.st h0,((t0.st k0).st j0).st h0,((u0.st k0).st j0).st h0,((r0.st k0).st j0).st h0,n0.st h0,v0.st h0,((w0.st k0).st j0).st h0,((y0.st k0).st j0).st h0,((s0.st k0).st j0).st h0⟩
  replace f0:=iT f0
  refine Dk rfl (Ak rfl (An rfl rfl (Ax rfl (An rfl rfl ?_))))
  replace i0:=i0.st h0
  refine At (hc:=Blk.cell (i:=1) (i0.1) rfl) rfl ?_
  refine An rfl rfl (Ax rfl (An rfl rfl ?_))
  replace n0:=n0.st h0
  refine At (hc:=Blk.cell (i:=1) (n0.1) rfl) rfl ?_
  refine An rfl rfl ?_
  obtain ⟨b5,c5,f0⟩:=bs f0
  replace t0:=((t0.st k0).st j0).st h0
  replace w0:=((w0.st k0).st j0).st h0
  refine AM (O:=z4) (Hs (fun _ h=>h) (vMo t0) (vMo w0) c5) rfl fun i7 j7 d5 m0 e5=>?_
  obtain rfl:=e5.bool
  cases b5
  case false =>
   replace f0:=iF f0
   refine An rfl rfl (Dl rfl (Bc rfl rfl (Ak rfl (Al rfl rfl (Al rfl rfl (Al rfl rfl (Al rfl rfl (Al rfl rfl (Al rfl rfl (Bn rfl rfl (Ak rfl (Al rfl rfl (Al rfl rfl (Al rfl rfl ?_))))))))))))))
   refine Al rfl rfl (Al rfl rfl (Al rfl rfl (Al rfl rfl (Bn rfl rfl (o_z ?_)))))
   obtain rfl:=sm f0
   exact ⟨(),_,⟨rfl,rfl,rfl,trivial⟩,(((hB.st k0).st j0).st h0).st m0,i0.st m0,(h8.st h0).st m0,t0.st m0,(((u0.st k0).st j0).st h0).st m0,(((r0.st k0).st j0).st h0).st m0,n0.st m0,(v0.st h0).st m0,w0.st m0,(((y0.st k0).st j0).st h0).st m0,(((s0.st k0).st j0).st h0).st m0⟩
  replace f0:=iT f0
  refine An rfl rfl (Dk rfl (Bc rfl rfl (Ak rfl (An rfl rfl (Ax rfl (An rfl rfl ?_))))))
  replace i0:=i0.st m0
  refine At (hc:=Blk.cell (i:=2) (i0.1) rfl) rfl ?_
  refine An rfl rfl (Ax rfl (An rfl rfl ?_))
  replace n0:=n0.st m0
  refine At (hc:=Blk.cell (i:=2) (n0.1) rfl) rfl ?_
  refine An rfl rfl ?_
  obtain ⟨f5,g5,f0⟩:=bs f0
  replace u0:=(((u0.st k0).st j0).st h0).st m0
  replace y0:=(((y0.st k0).st j0).st h0).st m0
  refine AM (O:=d5) (Ii (fun _ h=>h) (vMo u0) (vMo y0) g5) rfl fun k7 l7 m7 o0 h5=>?_
  obtain rfl:=h5.bool
  cases f5
  case false =>
   replace f0:=iF f0
   refine An rfl rfl (Dl rfl (Bc rfl rfl (Ak rfl (Al rfl rfl (Al rfl rfl (Al rfl rfl (Al rfl rfl (Al rfl rfl (Al rfl rfl (Al rfl rfl (Bn rfl rfl (o_z ?_))))))))))))
   obtain rfl:=sm f0
   exact ⟨(),_,⟨rfl,rfl,rfl,trivial⟩,((((hB.st k0).st j0).st h0).st m0).st o0,i0.st o0,((h8.st h0).st m0).st o0,(t0.st m0).st o0,u0.st o0,((((r0.st k0).st j0).st h0).st m0).st o0,n0.st o0,((v0.st h0).st m0).st o0,(w0.st m0).st o0,y0.st o0,((((s0.st k0).st j0).st h0).st m0).st o0⟩
  replace f0:=iT f0
  refine An rfl rfl (Dk rfl (Bc rfl rfl (Ak rfl (An rfl rfl (Ax rfl (An rfl rfl ?_))))))
  replace i0:=i0.st o0
  refine At (hc:=Blk.cell (i:=3) (i0.1) rfl) rfl ?_
  refine An rfl rfl (AS rfl ?_)
  replace r0:=((((r0.st k0).st j0).st h0).st m0).st o0
  have i5:x0.ops.length≤9223372036854775807:=Nat.le_trans r0.len.2.1 r0.len.2.2
  have n7:inI64 (x0.ops.length:Int):=rngNat i5
  refine An rfl rfl (Ax rfl (An rfl rfl ?_))
  replace n0:=n0.st o0
  refine At (hc:=Blk.cell (i:=3) (n0.1) rfl) rfl ?_
  refine An rfl rfl (AS rfl ?_)
  replace s0:=((((s0.st k0).st j0).st h0).st m0).st o0
  have j5:x1.ops.length≤9223372036854775807:=Nat.le_trans s0.len.2.1 s0.len.2.2
  have o7:inI64 (x1.ops.length:Int):=rngNat j5
  refine An rfl rfl (HL rfl rfl (fun i3=>?_) fun i3=>?_)
  ·
   replace f0:=ip f0 i3
   refine Bc rfl rfl (o_z ?_)
   obtain rfl:=sm f0
   exact ⟨(),_,⟨rfl,rfl,rfl,trivial⟩,((((hB.st k0).st j0).st h0).st m0).st o0,i0,((h8.st h0).st m0).st o0,(t0.st m0).st o0,u0.st o0,r0,n0,((v0.st h0).st m0).st o0,(w0.st m0).st o0,y0.st o0,s0⟩
  replace f0:=im f0 i3
  refine Bc rfl rfl (o_z ?_)
  obtain rfl:=sm f0
  exact ⟨(),_,⟨rfl,rfl,rfl,trivial⟩,((((hB.st k0).st j0).st h0).st m0).st o0,i0,((h8.st h0).st m0).st o0,(t0.st m0).st o0,u0.st o0,r0,n0,((v0.st h0).st m0).st o0,(w0.st m0).st o0,y0.st o0,s0⟩
 replace hB:=(hB.st k0).st j0
 replace h8:=(h8.st k0).st j0
 replace t0:=(t0.st k0).st j0
 replace u0:=(u0.st k0).st j0
 replace r0:=(r0.st k0).st j0
 replace v0:=(v0.st k0).st j0
 replace w0:=(w0.st k0).st j0
 replace y0:=(y0.st k0).st j0
 replace s0:=(s0.st k0).st j0
 replace i0:=i0.st j0
 rintro p7 q7 ⟨w4,k5,j3,hB,i0,h8,t0,u0,r0,n0,v0,w0,y0,s0⟩
 refine AH _ j3 ?_
 refine Cd rfl (fun k3=>?_) (fun k3=>?_)
 ·
  replace hm:=ip hm k3
  refine Ab (Aa (Am rfl (o_z ?_)))
  refine AF ?_
  obtain rfl:=sm hm
  exact ret1v rfl (AA rfl) ⟨hB.ext,vBool⟩
 replace hm:=im' hm k3
 refine AO (Ab (Ab (Aa (Ax rfl (At (hc:=Blk.cell (i:=3) (i0.1) rfl) rfl ?_)))))
 refine AS rfl ?_
 have l3:x0.ops.length≤9223372036854775807:=Nat.le_trans r0.len.2.1 r0.len.2.2
 have r7:inI64 (x0.ops.length:Int):=rngNat l3
 refine Ak rfl (o_z ?_)
 obtain ⟨q2,m3,hm⟩:=bs hm
 refine Ay (aft q2 (fun (d3:Unit) (e3:Unit)=>[]) (fun d3 e3 w'=>∃ O':Lab,Bs w A w' O')) ?_ ?_
 ·
  refine AK (AY (σ:=Unit) (X:=Unit) (x0.ops.length) m3 rfl l3 (fun (d3:Unit) (e3:Unit)=>[(2,(.pointer (some ⟨e1,0,none⟩))),(3,(.pointer (some ⟨f1,0,none⟩)))]) _ (fun d3 e3 w'=>∃ O':Lab,Bs w A w' O'∧Lc 2 w' O' e1 31 [(.slice A9 x0.vars.length m1),(.slice n1 x0.init.length o1),(.slice p1 x0.goal.length q1),(.slice r1 x0.ops.length s1)]∧Vb w' (Fr 0 w' O') (.slice A9 x0.vars.length m1) x0.vars∧Vb w' (Fr 0 w' O') (.slice n1 x0.init.length o1) x0.init∧Vb w' (Fr 0 w' O') (.slice p1 x0.goal.length q1) x0.goal∧Vb w' (Fr 0 w' O') (.slice r1 x0.ops.length s1) x0.ops∧Lc 3 w' O' f1 31 [(.slice t1 x1.vars.length u1),(.slice v1 x1.init.length w1),(.slice y1 x1.goal.length z1),(.slice a2 x1.ops.length b2)]∧Vb w' (Fr 0 w' O') (.slice t1 x1.vars.length u1) x1.vars∧Vb w' (Fr 0 w' O') (.slice v1 x1.init.length w1) x1.init∧Vb w' (Fr 0 w' O') (.slice y1 x1.goal.length z1) x1.goal∧Vb w' (Fr 0 w' O') (.slice a2 x1.ops.length b2) x1.ops) _ () ⟨k5,hB,i0,h8,t0,u0,r0,n0,v0,w0,y0,s0⟩ ⟨rfl,rfl,rfl,rfl,trivial⟩ (fun _ _=>⟨rfl,rfl⟩) (fun _ _=>trivial) (fun _ _ _ ⟨O',hB,i0,h8,t0,u0,r0,n0,v0,w0,y0,s0⟩=>⟨O',hB⟩) ⟨rfl,rfl,rfl⟩ ⟨rfl,rfl⟩ ?_)
  rintro f3 b1 d3 e3 s7 l5 r2 ⟨m5,hB,i0,h8,t0,u0,r0,n0,v0,w0,y0,s0⟩ z0 c2 n3
  have rk88:inI64 (f3:Int):=rngK r2 l3
  refine Ab (Aa (Ak rfl (Am rfl (o_z ?_))))
  refine Ab ?_
  obtain ⟨c1,o3,z0⟩:=bs z0
  refine Br [(12,[4])] m5 ?_
  refine AP (fuel:=4) [4] [(0,true),(1,true),(2,true),(3,true),(4,true),(5,true),(6,true),(7,true),(8,true),(9,true)] rfl ?_
  refine AT rfl rfl (AV (hc:=bCell i0 3 rfl) rfl rfl ?_)
  refine AX rfl rfl ?_
  obtain ⟨n5,o5,n4,s2,t2,u2,v2,p5,q5,rfl,g1,h1,r5,s5⟩:=r0.elem r2
  obtain ⟨d2,e2,rfl⟩:=g1.form
  obtain ⟨f2,g2,rfl⟩:=h1.form
  refine CK (hA:=s2) (hj:=rfl) (hlt:=u2) rfl rfl rfl ?_
  refine CJ (hl:=rfl) (hb:=fun w' ⟨O',hq⟩=>(Bp (hq.agree (i:=0) (by decide)) t2 v2)) rfl rfl ?_
  refine AT rfl rfl (AV (hc:=bCell n0 3 rfl) rfl rfl ?_)
  refine AX rfl rfl ?_
  obtain ⟨t5,u5,o4,w2,x2,y2,z2,w5,x5,rfl,i1,j1,y5,z5⟩:=s0.elem o3
  obtain ⟨h2,i2,rfl⟩:=i1.form
  obtain ⟨j2,k2,rfl⟩:=j1.form
  refine CK (hA:=w2) (hj:=rfl) (hlt:=y2) rfl rfl rfl ?_
  refine CJ (hl:=rfl) (hb:=fun w' ⟨O',hq⟩=>(Bp (hq.agree (i:=0) (by decide)) x2 z2)) rfl rfl ?_
  refine AC ?_
  refine GX (l0:=[(2,(.pointer (some ⟨e1,0,none⟩))),(3,(.pointer (some ⟨f1,0,none⟩))),(41,(.int .i64 (x0.ops.length:Int))),(42,(.int .i64 (f3:Int))),(49,(.agg #[(.string b1.name),(.int .i64 b1.cost),(.slice d2 b1.pre.length e2),(.slice f2 b1.effs.length g2)])),(54,(.agg #[(.string c1.name),(.int .i64 c1.cost),(.slice h2 c1.pre.length i2),(.slice j2 c1.effs.length k2)]))]) (zs:=[⟨10,6,fun v w O=>∃ (k1:Nat),v=(.pointer (some ⟨k1,0,none⟩))∧Lc 4 w O k1 82 [(.string (⟨#[]⟩:ByteArray)),(.int .i64 0),(.slice none 0 0),(.slice none 0 0)]⟩,⟨11,7,fun v w O=>∃ (l1:Nat),v=(.pointer (some ⟨l1,0,none⟩))∧Lc 5 w O l1 82 [(.string (⟨#[]⟩:ByteArray)),(.int .i64 0),(.slice none 0 0),(.slice none 0 0)]⟩]) #[true,true,true,true,true,true,true,true,true,true,true,true,false,false] 2 [(12,[4])] ⟨rfl,rfl,rfl,rfl,rfl,rfl,trivial⟩ ⟨⟨fun _ _ _ _ _ ⟨k1,e,p3⟩ hS=>⟨k1,e,p3.st hS id⟩,?_⟩,⟨fun _ _ _ _ _ ⟨l1,e,q3⟩ hS=>⟨l1,e,q3.st hS id⟩,?_⟩,trivial⟩ ?_ rfl
  ·
   refine ⟨_,rfl,fun a6 b6 r3 c6 p4 hD144=>?_⟩
   refine ⟨[],trivial,fun Q145 hQ146=>?_⟩
   refine AU 4 r3 fun d6 e6 f6 s3 t3=>?_
   refine Bo (hQ146 _ _ ⟨_,_,rfl,s3,⟨_,rfl,t3⟩⟩)
  ·
   refine ⟨_,rfl,fun g6 h6 u3 i6 q4 hD163=>?_⟩
   refine ⟨[],trivial,fun Q164 hQ165=>?_⟩
   refine AU 5 u3 fun j6 k6 l6 v3 w3=>?_
   refine Bo (hQ165 _ _ ⟨_,_,rfl,v3,⟨_,rfl,w3⟩⟩)
  intro m6 a3 d1 c0 a1 hD182
  obtain ⟨_,x3,l2,rfl,p0⟩:=hD182.at 0 rfl rfl
  replace p0:Lc 4 a3 d1 l2 82 [(.string (⟨#[]⟩:ByteArray)),(.int .i64 0),(.slice none 0 0),(.slice none 0 0)]:=p0
  obtain ⟨_,y3,m2,rfl,q0⟩:=hD182.at 1 rfl rfl
  replace q0:Lc 5 a3 d1 m2 82 [(.string (⟨#[]⟩:ByteArray)),(.int .i64 0),(.slice none 0 0),(.slice none 0 0)]:=q0
  refine GW [(2,(.pointer (some ⟨e1,0,none⟩))),(3,(.pointer (some ⟨f1,0,none⟩))),(6,(.pointer (some ⟨l2,0,none⟩))),(7,(.pointer (some ⟨m2,0,none⟩))),(41,(.int .i64 (x0.ops.length:Int))),(42,(.int .i64 (f3:Int))),(49,(.agg #[(.string b1.name),(.int .i64 b1.cost),(.slice d2 b1.pre.length e2),(.slice f2 b1.effs.length g2)])),(54,(.agg #[(.string c1.name),(.int .i64 c1.cost),(.slice h2 c1.pre.length i2),(.slice j2 c1.effs.length k2)]))] ⟨Ar a1 2 _ rfl,Ar a1 3 _ rfl,x3,y3,Ar a1 41 _ rfl,Ar a1 42 _ rfl,Ar a1 49 _ rfl,Ar a1 54 _ rfl,trivial⟩ ?_
  refine AD (i:=12) rfl ?_
  refine Az p0 rfl rfl rfl (AJ) (allOne) fun z3 a0 p0=>?_
  replace p0:Lc 4 z3 d1 l2 82 [(.string b1.name),(.int .i64 b1.cost),(.slice d2 b1.pre.length e2),(.slice f2 b1.effs.length g2)]:=p0
  have hZ:=a0.lst [4] (fun _ h=>by cases h;decide)
  refine AN [] hZ ?_
  refine AD (i:=13) rfl ?_
  replace q0:=q0.st a0
  refine Az q0 rfl rfl rfl (AJ) (allOne) fun a4 b0 q0=>?_
  replace q0:Lc 5 a4 d1 m2 82 [(.string c1.name),(.int .i64 c1.cost),(.slice h2 c1.pre.length i2),(.slice j2 c1.effs.length k2)]:=q0
  refine BF ?_
  refine Bv ?_
  refine Ab ?_
  obtain ⟨b4,d0,z0⟩:=bs z0
  refine Ay (fun l' w'=>∃ (c4:Unit) (O':Lab),subs l' [(2,(.pointer (some ⟨e1,0,none⟩))),(3,(.pointer (some ⟨f1,0,none⟩))),(41,(.int .i64 (x0.ops.length:Int))),(42,(.int .i64 (f3:Int))),(82,(.bool b4))]∧Bs w A w' O'∧Lc 2 w' O' e1 31 [(.slice A9 x0.vars.length m1),(.slice n1 x0.init.length o1),(.slice p1 x0.goal.length q1),(.slice r1 x0.ops.length s1)]∧Vb w' (Fr 0 w' O') (.slice A9 x0.vars.length m1) x0.vars∧Vb w' (Fr 0 w' O') (.slice n1 x0.init.length o1) x0.init∧Vb w' (Fr 0 w' O') (.slice p1 x0.goal.length q1) x0.goal∧Vb w' (Fr 0 w' O') (.slice r1 x0.ops.length s1) x0.ops∧Lc 3 w' O' f1 31 [(.slice t1 x1.vars.length u1),(.slice v1 x1.init.length w1),(.slice y1 x1.goal.length z1),(.slice a2 x1.ops.length b2)]∧Vb w' (Fr 0 w' O') (.slice t1 x1.vars.length u1) x1.vars∧Vb w' (Fr 0 w' O') (.slice v1 x1.init.length w1) x1.init∧Vb w' (Fr 0 w' O') (.slice y1 x1.goal.length z1) x1.goal∧Vb w' (Fr 0 w' O') (.slice a2 x1.ops.length b2) x1.ops) ?_ ?_
  ·
   refine Aa (Ax rfl ?_)
   replace p0:=p0.st b0
   refine At (hc:=Blk.cell (i:=0) (p0.1) rfl) rfl ?_
   refine Ax rfl (At (hc:=Blk.cell (i:=0) (q0.1) rfl) rfl ?_)
   refine Sa rfl rfl rfl (fun n2=>?_) fun n2=>?_
   ·
    replace d0:=ip d0 n2
    refine Ak rfl (Al rfl rfl (Al rfl rfl (Al rfl rfl (Al rfl rfl (Al rfl rfl (Bn rfl rfl (Ak rfl (Al rfl rfl (Al rfl rfl (Al rfl rfl (Al rfl rfl (Al rfl rfl (Al rfl rfl (Bn rfl rfl ?_))))))))))))))
    refine Ak rfl (Al rfl rfl (Al rfl rfl (Al rfl rfl (Al rfl rfl (Al rfl rfl (Al rfl rfl (Bn rfl rfl (o_z ?_))))))))
    obtain rfl:=sm d0
    exact ⟨(),_,⟨rfl,rfl,rfl,rfl,rfl,trivial⟩,((hB.st c0).st a0).st b0,((i0.st c0).st a0).st b0,((h8.st c0).st a0).st b0,((t0.st c0).st a0).st b0,((u0.st c0).st a0).st b0,((r0.st c0).st a0).st b0,((n0.st c0).st a0).st b0,((v0.st c0).st a0).st b0,((w0.st c0).st a0).st b0,((y0.st c0).st a0).st b0,((s0.st c0).st a0).st b0⟩
   replace d0:=im d0 n2
   refine Ak rfl (An rfl rfl (Ax rfl (An rfl rfl (At (hc:=Blk.cell (i:=1) (p0.1) rfl) rfl ?_))))
   refine An rfl rfl (Ax rfl (An rfl rfl (At (hc:=Blk.cell (i:=1) (q0.1) rfl) rfl ?_)))
   refine An rfl rfl (HL rfl rfl (fun o2=>?_) fun o2=>?_)
   ·
    replace d0:=ip d0 o2
    refine Bc rfl rfl (Ak rfl (Al rfl rfl (Al rfl rfl (Al rfl rfl (Al rfl rfl (Al rfl rfl (Al rfl rfl (Bn rfl rfl (Ak rfl (Al rfl rfl (Al rfl rfl (Al rfl rfl (Al rfl rfl (Al rfl rfl ?_))))))))))))))
    refine Al rfl rfl (Bn rfl rfl (o_z ?_))
    obtain rfl:=sm d0
    exact ⟨(),_,⟨rfl,rfl,rfl,rfl,rfl,trivial⟩,((hB.st c0).st a0).st b0,((i0.st c0).st a0).st b0,((h8.st c0).st a0).st b0,((t0.st c0).st a0).st b0,((u0.st c0).st a0).st b0,((r0.st c0).st a0).st b0,((n0.st c0).st a0).st b0,((v0.st c0).st a0).st b0,((w0.st c0).st a0).st b0,((y0.st c0).st a0).st b0,((s0.st c0).st a0).st b0⟩
   replace d0:=im d0 o2
   refine Bc rfl rfl (Ak rfl (An rfl rfl (Ax rfl (An rfl rfl (At (hc:=Blk.cell (i:=2) (p0.1) rfl) rfl ?_)))))
   refine An rfl rfl (Ax rfl (An rfl rfl (At (hc:=Blk.cell (i:=2) (q0.1) rfl) rfl ?_)))
   refine An rfl rfl ?_
   obtain ⟨d4,e4,d0⟩:=bs d0
   replace g1:=((g1.st c0).st a0).st b0
   replace i1:=((i1.st c0).st a0).st b0
   refine AM (O:=d1) (Ii (fun _ h=>h) (vMo g1) (vMo i1) e4) rfl fun n6 o6 f4 e0 g4=>?_
   obtain rfl:=g4.bool
   cases d4
   case false =>
    replace d0:=iF d0
    refine An rfl rfl (Dl rfl (Bc rfl rfl (Ak rfl (Al rfl rfl (Al rfl rfl (Al rfl rfl (Al rfl rfl (Al rfl rfl (Al rfl rfl (Bn rfl rfl (o_z ?_)))))))))))
    obtain rfl:=sm d0
    exact ⟨(),_,⟨rfl,rfl,rfl,rfl,rfl,trivial⟩,(((hB.st c0).st a0).st b0).st e0,(((i0.st c0).st a0).st b0).st e0,(((h8.st c0).st a0).st b0).st e0,(((t0.st c0).st a0).st b0).st e0,(((u0.st c0).st a0).st b0).st e0,(((r0.st c0).st a0).st b0).st e0,(((n0.st c0).st a0).st b0).st e0,(((v0.st c0).st a0).st b0).st e0,(((w0.st c0).st a0).st b0).st e0,(((y0.st c0).st a0).st b0).st e0,(((s0.st c0).st a0).st b0).st e0⟩
   replace d0:=iT d0
   refine An rfl rfl (Dk rfl (Bc rfl rfl (Ak rfl (An rfl rfl (Ax rfl (An rfl rfl ?_))))))
   replace p0:=p0.st e0
   refine At (hc:=Blk.cell (i:=3) (p0.1) rfl) rfl ?_
   refine An rfl rfl (Ax rfl (An rfl rfl ?_))
   replace q0:=q0.st e0
   refine At (hc:=Blk.cell (i:=3) (q0.1) rfl) rfl ?_
   refine An rfl rfl ?_
   obtain ⟨h4,i4,d0⟩:=bs d0
   replace h1:=(((h1.st c0).st a0).st b0).st e0
   replace j1:=(((j1.st c0).st a0).st b0).st e0
   refine AM (O:=f4) (Mp (fun _ h=>h) (vMo h1) (vMo j1) i4) rfl fun p6 q6 r6 g0 j4=>?_
   obtain rfl:=j4.bool
   cases h4
   case false =>
    replace d0:=iF d0
    refine An rfl rfl (Dl rfl (Bc rfl rfl (o_z ?_)))
    obtain rfl:=sm d0
    exact ⟨(),_,⟨rfl,rfl,rfl,rfl,rfl,trivial⟩,((((hB.st c0).st a0).st b0).st e0).st g0,((((i0.st c0).st a0).st b0).st e0).st g0,((((h8.st c0).st a0).st b0).st e0).st g0,((((t0.st c0).st a0).st b0).st e0).st g0,((((u0.st c0).st a0).st b0).st e0).st g0,((((r0.st c0).st a0).st b0).st e0).st g0,((((n0.st c0).st a0).st b0).st e0).st g0,((((v0.st c0).st a0).st b0).st e0).st g0,((((w0.st c0).st a0).st b0).st e0).st g0,((((y0.st c0).st a0).st b0).st e0).st g0,((((s0.st c0).st a0).st b0).st e0).st g0⟩
   replace d0:=iT d0
   refine An rfl rfl (Dk rfl (Bc rfl rfl (o_z ?_)))
   obtain rfl:=sm d0
   exact ⟨(),_,⟨rfl,rfl,rfl,rfl,rfl,trivial⟩,((((hB.st c0).st a0).st b0).st e0).st g0,((((i0.st c0).st a0).st b0).st e0).st g0,((((h8.st c0).st a0).st b0).st e0).st g0,((((t0.st c0).st a0).st b0).st e0).st g0,((((u0.st c0).st a0).st b0).st e0).st g0,((((r0.st c0).st a0).st b0).st e0).st g0,((((n0.st c0).st a0).st b0).st e0).st g0,((((v0.st c0).st a0).st b0).st e0).st g0,((((w0.st c0).st a0).st b0).st e0).st g0,((((y0.st c0).st a0).st b0).st e0).st g0,((((s0.st c0).st a0).st b0).st e0).st g0⟩
  replace hB:=((hB.st c0).st a0).st b0
  replace h8:=((h8.st c0).st a0).st b0
  replace t0:=((t0.st c0).st a0).st b0
  replace u0:=((u0.st c0).st a0).st b0
  replace r0:=((r0.st c0).st a0).st b0
  replace v0:=((v0.st c0).st a0).st b0
  replace w0:=((w0.st c0).st a0).st b0
  replace y0:=((y0.st c0).st a0).st b0
  replace s0:=((s0.st c0).st a0).st b0
  replace i0:=((i0.st c0).st a0).st b0
  replace n0:=((n0.st c0).st a0).st b0
  rintro s6 t6 ⟨c4,u6,b3,hB,i0,h8,t0,u0,r0,n0,v0,w0,y0,s0⟩
  refine AH _ b3 ?_
  refine Cd rfl (fun p2=>?_) (fun p2=>?_)
  ·
   replace z0:=ip z0 p2
   refine Ab (Aa (Am rfl (o_z ?_)))
   refine AF ?_
   obtain rfl:=sm z0
   obtain rfl:=c2 _ rfl
   obtain rfl:=sm (BY hm)
   exact ret1v rfl (AA rfl) ⟨hB.ext,vBool⟩
  replace z0:=im' z0 p2
  refine AO ?_
  obtain rfl:=sm z0
  exact show Exists _ from ⟨_,(),rfl,⟨rfl,rfl,rfl,rfl,trivial⟩,_,hB,i0,h8,t0,u0,r0,n0,v0,w0,y0,s0⟩
 rintro w6 x6 ⟨y6,z6,rfl,c3,a7,hB⟩
 replace hm:=AR hm
 refine AH _ c3 ?_
 refine Ab (Aa (Am rfl (o_z ?_)))
 refine AF ?_
 obtain rfl:=sm hm
 exact ret1v rfl (AA rfl) ⟨hB.ext,vBool⟩
noncomputable def Ei (x0:Tpl):Option Bool :=
  bnd (bnd (DW) fun q28=>if q28=true then bnd (Gt x0 ([]:List Lch)) fun q35=>if q35=true then some false else some true else some true:Option Bool) fun y24=>if y24=true then (bnd (bnd (DW) fun q51=>if q51=true then some true else some false:Option Bool) fun y47=>some y47) else (bnd (Cm x0) fun q62=>bnd (FB x0) fun q98=>if q98≠0 then (bnd (bnd (Ey q62.1 (⟨([]:List Int),([]:List Int),([]:List Fct),([]:List Opr)⟩:Tsk)) fun q111=>if q111=true then bnd (HM (⟨q62.2.n⟩:Err)) fun q118=>if q118=q98 then (some true) else (some false) else some false:Option Bool) fun y107=>some y107) else (bnd (EM x0) fun q131=>bnd (FE q131) fun q162=>if q162≠0 then (bnd (bnd (Ey q62.1 (⟨([]:List Int),([]:List Int),([]:List Fct),([]:List Opr)⟩:Tsk)) fun q175=>if q175=true then bnd (HM (⟨q62.2.n⟩:Err)) fun q182=>if q182=q162 then (some true) else (some false) else some false:Option Bool) fun y171=>some y171) else (bnd (if q62.2.n=0 then (bnd (Ey q62.1 q131) fun q200=>if q200=true then some true else some false) else (some false):Option Bool) fun y195=>some y195)))
theorem Jo {w:World} {A:Nat→Prop} (hA:∀ k,A k→k < w.heap.size) {vx0:Value} {x0:Tpl} (w2:Vb w A vx0 x0) {r:Bool} (hm:Ei x0=some r) :
    Fn prog 3 [vx0] w fun v w'=>Ext w w'∧Vb w' (upA A w w') v r:=by
 obtain ⟨O,hB,m4⟩:=enter hA
 replace w2:=w2.mono m4
 obtain ⟨z6,rfl,v3,v4,v5,v6,rfl,h7,n0,o0,p0⟩:=w2
 obtain ⟨A8,c9,rfl⟩:=h7.form
 obtain ⟨k1,l1,rfl⟩:=n0.form
 obtain ⟨m1,n1,rfl⟩:=o0.form
 obtain ⟨o1,p1,rfl⟩:=p0.form
 refine AL func3 rfl ntmps3 ?_
 unfold Ei at hm
 refine Ab (Aa (BL 2 O rfl fun x2 n4 f4 t0 u0=>?_))
 replace u0:Lc 2 n4 f4 x2 26 [(.slice A8 x0.vars.length c9),(.slice k1 x0.init.length l1),(.slice m1 x0.goal.length n1),(.slice o1 x0.jobs.length p1)]:=u0
 refine Am rfl (o_z ?_)
 refine Ab (Ab ?_)
 obtain ⟨o4,i0,hm⟩:=bs hm
 refine Ay (fun l' w'=>∃ (p4:Unit) (O':Lab),subs l' [(1,(.pointer (some ⟨x2,0,none⟩))),(14,(.bool o4))]∧Bs w A w' O'∧Lc 2 w' O' x2 26 [(.slice A8 x0.vars.length c9),(.slice k1 x0.init.length l1),(.slice m1 x0.goal.length n1),(.slice o1 x0.jobs.length p1)]∧Vb w' (Fr 0 w' O') (.slice A8 x0.vars.length c9) x0.vars∧Vb w' (Fr 0 w' O') (.slice k1 x0.init.length l1) x0.init∧Vb w' (Fr 0 w' O') (.slice m1 x0.goal.length n1) x0.goal∧Vb w' (Fr 0 w' O') (.slice o1 x0.jobs.length p1) x0.jobs) ?_ ?_
 ·
  refine Aa ?_
  obtain ⟨q4,r4,i0⟩:=bs i0
  refine AM (O:=f4) (Jy (fun _ h=>h)  r4) rfl fun a7 s4 g4 a1 t4=>?_
  obtain rfl:=t4.bool
  cases q4
  case false =>
   replace i0:=iF i0
   refine Dl rfl (Ak rfl (Al rfl rfl (Al rfl rfl (Al rfl rfl (Bn rfl rfl (o_z ?_))))))
   obtain rfl:=sm i0
   exact ⟨(),_,⟨rfl,rfl,trivial⟩,(hB.st t0).st a1,u0.st a1,(h7.st t0).st a1,(n0.st t0).st a1,(o0.st t0).st a1,(p0.st t0).st a1⟩
  replace i0:=iT i0
  refine Dk rfl (Ak rfl (An rfl rfl ?_))
  replace u0:=u0.st a1
  refine Bd (hl:=rfl) (hc:=(u0.1).cellsAt) rfl ?_
  refine An rfl rfl ?_
  obtain ⟨u4,w4,i0⟩:=bs i0
  replace h7:=(h7.st t0).st a1
  replace n0:=(n0.st t0).st a1
  replace o0:=(o0.st t0).st a1
  replace p0:=(p0.st t0).st a1
  refine AM (O:=g4) (Od (fun _ h=>h) (Vb.mono (F:=Fr 0 s4 g4) (Vb.ofAgg (cs:=[(.slice A8 x0.vars.length c9),(.slice k1 x0.init.length l1),(.slice m1 x0.goal.length n1),(.slice o1 x0.jobs.length p1)]) (x:=x0) rfl ⟨_,_,_,_,rfl,h7,n0,o0,p0⟩) Fr.lt) (Vb.nil _ _) w4) rfl fun b7 c7 d7 d1 x4=>?_
  obtain rfl:=x4.bool
  cases u4
  case false =>
   replace i0:=iF i0
   refine An rfl rfl (Dl rfl (Bc rfl rfl (o_z ?_)))
   obtain rfl:=sm i0
   exact ⟨(),_,⟨rfl,rfl,trivial⟩,((hB.st t0).st a1).st d1,u0.st d1,h7.st d1,n0.st d1,o0.st d1,p0.st d1⟩
  replace i0:=iT i0
  refine An rfl rfl (Dk rfl (Bc rfl rfl (o_z ?_)))
  obtain rfl:=sm i0
  exact ⟨(),_,⟨rfl,rfl,trivial⟩,((hB.st t0).st a1).st d1,u0.st d1,h7.st d1,n0.st d1,o0.st d1,p0.st d1⟩
 replace hB:=hB.st t0
 replace h7:=h7.st t0
 replace n0:=n0.st t0
 replace o0:=o0.st t0
 replace p0:=p0.st t0
 rintro e7 f7 ⟨p4,h4,y2,hB,u0,h7,n0,o0,p0⟩
 refine AH _ y2 ?_
 refine Cd rfl (fun z2=>?_) (fun z2=>?_)
 ·
  replace hm:=ip hm z2
  refine Ab ?_
  obtain ⟨y4,q0,hm⟩:=bs hm
  refine Ay (fun l' w'=>∃ (z4:Unit) (O':Lab),subs l' [(2,(.bool y4))]∧Bs w A w' O') ?_ ?_
  ·
   refine Aa ?_
   obtain ⟨a5,b5,q0⟩:=bs q0
   refine AM (O:=h4) (Jy (fun _ h=>h)  b5) rfl fun g7 i7 j7 i4 c5=>?_
   obtain rfl:=c5.bool
   cases a5
   case false =>
    replace q0:=iF q0
    refine Am rfl (o_z ?_)
    obtain rfl:=sm q0
    exact ⟨(),_,⟨rfl,trivial⟩,hB.st i4⟩
   replace q0:=iT q0
   refine Am rfl (o_z ?_)
   obtain rfl:=sm q0
   exact ⟨(),_,⟨rfl,trivial⟩,hB.st i4⟩
  rintro k7 l7 ⟨z4,m7,a3,hB⟩
  refine AH _ a3 ?_
  refine AF ?_
  obtain rfl:=sm hm
  exact ret1v rfl (AA rfl) ⟨hB.ext,vBool⟩
 replace hm:=im' hm z2
 refine AO (Ab (Aa (Bd (hl:=rfl) (hc:=(u0.1).cellsAt) rfl ?_)))
 obtain ⟨m0,d5,hm⟩:=bs hm
 refine GV (O:=h4) (R:=fun w' F v=>T2 w' F v m0) (Gn Fr.lt (Vb.ofAgg (cs:=[(.slice A8 x0.vars.length c9),(.slice k1 x0.init.length l1),(.slice m1 x0.goal.length n1),(.slice o1 x0.jobs.length p1)]) (x:=x0) rfl ⟨_,_,_,_,rfl,h7,n0,o0,p0⟩) d5) rfl rfl fun n7 o7 e5 r0 f5=>?_
 obtain ⟨p7,q7,rfl,g5,h5⟩:=f5
 obtain ⟨i5,rfl,r7,s7,t7,u7,rfl,e1,f1,g1,h1⟩:=g5
 obtain ⟨o2,p2,rfl⟩:=e1.form
 obtain ⟨q2,r2,rfl⟩:=f1.form
 obtain ⟨s2,t2,rfl⟩:=g1.form
 obtain ⟨u2,v2,rfl⟩:=h1.form
 obtain ⟨rfl,j4⟩:=h5.err
 refine Ak rfl (DU rfl rfl (DU rfl rfl (AU 3 e5 fun j5 v7 b3 j0 b1=>?_)))
 refine Az b1 rfl rfl rfl (AJ) (allOne) fun k4 k0 b1=>?_
 replace b1:Lc 3 k4 b3 j5 31 [(.slice o2 m0.1.vars.length p2),(.slice q2 m0.1.init.length r2),(.slice s2 m0.1.goal.length t2),(.slice u2 m0.1.ops.length v2)]:=b1
 refine Am rfl (o_z ?_)
 refine Ab (Ab (Aa ?_))
 replace u0:=((u0.st r0).st j0).st k0
 refine Bd (hl:=rfl) (hc:=(u0.1).cellsAt) rfl ?_
 obtain ⟨w7,k5,hm⟩:=bs hm
 replace h7:=((h7.st r0).st j0).st k0
 replace n0:=((n0.st r0).st j0).st k0
 replace o0:=((o0.st r0).st j0).st k0
 replace p0:=((p0.st r0).st j0).st k0
 refine AM (O:=b3) (MQ (fun _ h=>h) (Vb.mono (F:=Fr 0 k4 b3) (Vb.ofAgg (cs:=[(.slice A8 x0.vars.length c9),(.slice k1 x0.init.length l1),(.slice m1 x0.goal.length n1),(.slice o1 x0.jobs.length p1)]) (x:=x0) rfl ⟨_,_,_,_,rfl,h7,n0,o0,p0⟩) Fr.lt) k5) rfl fun l5 g2 i1 a0 c3=>?_
 obtain ⟨rfl,m5⟩:=c3.int
 refine Am rfl (o_z ?_)
 refine Ab (Aa (Ak rfl (HL rfl rfl (fun q1=>?_) fun q1=>?_)))
 ·
  replace hm:=ip hm q1
  refine o_z ?_
  refine Ah rfl (Ab ?_)
  obtain ⟨d3,b0,hm⟩:=bs hm
  refine Ay (fun l' w'=>∃ (e3:Unit) (O':Lab),subs l' [(2,(.bool d3))]∧Bs w A w' O') ?_ ?_
  ·
   refine Aa ?_
   replace b1:=b1.st a0
   refine Bd (hl:=rfl) (hc:=(b1.1).cellsAt) rfl ?_
   refine Cl rfl rfl ?_
   obtain ⟨f3,g3,b0⟩:=bs b0
   replace e1:=((e1.st j0).st k0).st a0
   replace f1:=((f1.st j0).st k0).st a0
   replace g1:=((g1.st j0).st k0).st a0
   replace h1:=((h1.st j0).st k0).st a0
   refine AM (O:=i1) (Ij (fun _ h=>h) (Vb.mono (F:=Fr 0 g2 i1) (Vb.ofAgg (cs:=[(.slice o2 m0.1.vars.length p2),(.slice q2 m0.1.init.length r2),(.slice s2 m0.1.goal.length t2),(.slice u2 m0.1.ops.length v2)]) (x:=m0.1) rfl ⟨_,_,_,_,rfl,e1,f1,g1,h1⟩) Fr.lt) (Vb.mono (F:=Fr 0 g2 i1) (Vb.ofAgg (cs:=[(.slice none 0 0),(.slice none 0 0),(.slice none 0 0),(.slice none 0 0)]) (x:=(⟨([]:List Int),([]:List Int),([]:List Fct),([]:List Opr)⟩:Tsk)) rfl ⟨_,_,_,_,rfl,(Vb.nil _ _),(Vb.nil _ _),(Vb.nil _ _),(Vb.nil _ _)⟩) Fr.lt) g3) rfl fun n5 o5 h3 r1 i3=>?_
   obtain rfl:=i3.bool
   cases f3
   case false =>
    replace b0:=iF b0
    refine Ak rfl (Al rfl rfl (Al rfl rfl (Al rfl rfl (Al rfl rfl (Bc rfl rfl (Am rfl (o_z ?_)))))))
    obtain rfl:=sm b0
    exact ⟨(),_,⟨rfl,trivial⟩,((((hB.st r0).st j0).st k0).st a0).st r1⟩
   replace b0:=iT b0
   refine Ak rfl (An rfl rfl (Ak rfl (An rfl rfl ?_)))
   obtain ⟨p5,j3,b0⟩:=bs b0
   refine AM (O:=h3) (LN (fun _ h=>h) j4 j3) rfl fun q5 r5 s5 h2 k3=>?_
   obtain ⟨rfl,t5⟩:=k3.int
   refine An rfl rfl (Ak rfl (An rfl rfl (GU rfl rfl (fun s1=>?_) fun s1=>?_)))
   ·
    replace b0:=ip b0 s1
    refine Bn rfl rfl (Am rfl (o_z ?_))
    obtain rfl:=sm b0
    exact ⟨(),_,⟨rfl,trivial⟩,(((((hB.st r0).st j0).st k0).st a0).st r1).st h2⟩
   replace b0:=im b0 s1
   refine Bn rfl rfl (Am rfl (o_z ?_))
   obtain rfl:=sm b0
   exact ⟨(),_,⟨rfl,trivial⟩,(((((hB.st r0).st j0).st k0).st a0).st r1).st h2⟩
  replace hB:=(((hB.st r0).st j0).st k0).st a0
  rintro u5 w5 ⟨e3,x5,i2,hB⟩
  refine AH _ i2 ?_
  refine AF ?_
  obtain rfl:=sm hm
  exact ret1v rfl (AA rfl) ⟨hB.ext,vBool⟩
 replace hm:=im hm q1
 refine o_z ?_
 refine Ae rfl (AO (Ab (Aa ?_)))
 replace u0:=u0.st a0
 refine Bd (hl:=rfl) (hc:=(u0.1).cellsAt) rfl ?_
 obtain ⟨l0,l3,hm⟩:=bs hm
 replace h7:=h7.st a0
 replace n0:=n0.st a0
 replace o0:=o0.st a0
 replace p0:=p0.st a0
 refine Cc (O:=i1) (LV Fr.lt (Vb.ofAgg (cs:=[(.slice A8 x0.vars.length c9),(.slice k1 x0.init.length l1),(.slice m1 x0.goal.length n1),(.slice o1 x0.jobs.length p1)]) (x:=x0) rfl ⟨_,_,_,_,rfl,h7,n0,o0,p0⟩) l3) rfl fun y5 z5 m3 h0 n3=>?_
 obtain ⟨l4,rfl,a6,b6,c6,d6,rfl,v0,w0,y0,z0⟩:=n3
 obtain ⟨t1,u1,rfl⟩:=v0.form
 obtain ⟨v1,w1,rfl⟩:=w0.form
 obtain ⟨x1,y1,rfl⟩:=y0.form
 obtain ⟨z1,a2,rfl⟩:=z0.form
 refine AU 4 m3 fun o3 e6 b2 e0 s0=>?_
 refine Az s0 rfl rfl rfl (AJ) (allOne) fun j2 f0 s0=>?_
 replace s0:Lc 4 j2 b2 o3 31 [(.slice t1 l0.vars.length u1),(.slice v1 l0.init.length w1),(.slice x1 l0.goal.length y1),(.slice z1 l0.ops.length a2)]:=s0
 refine o_z ?_
 refine Ab (Ab (Aa (Bd (hl:=rfl) (hc:=(s0.1).cellsAt) rfl ?_)))
 obtain ⟨f6,p3,hm⟩:=bs hm
 replace v0:=(v0.st e0).st f0
 replace w0:=(w0.st e0).st f0
 replace y0:=(y0.st e0).st f0
 replace z0:=(z0.st e0).st f0
 refine AM (O:=b2) (MV (fun _ h=>h) (Vb.mono (F:=Fr 0 j2 b2) (Vb.ofAgg (cs:=[(.slice t1 l0.vars.length u1),(.slice v1 l0.init.length w1),(.slice x1 l0.goal.length y1),(.slice z1 l0.ops.length a2)]) (x:=l0) rfl ⟨_,_,_,_,rfl,v0,w0,y0,z0⟩) Fr.lt) p3) rfl fun g6 j1 c1 c0 q3=>?_
 obtain ⟨rfl,h6⟩:=q3.int
 refine Am rfl (o_z ?_)
 refine Ab (Aa (Ak rfl (HL rfl rfl (fun c2=>?_) fun c2=>?_)))
 ·
  replace hm:=ip hm c2
  refine o_z ?_
  refine Ah rfl (Ab ?_)
  obtain ⟨r3,d0,hm⟩:=bs hm
  refine Ay (fun l' w'=>∃ (s3:Unit) (O':Lab),subs l' [(2,(.bool r3))]∧Bs w A w' O') ?_ ?_
  ·
   refine Aa ?_
   replace b1:=((((b1.st a0).st h0).st e0).st f0).st c0
   refine Bd (hl:=rfl) (hc:=(b1.1).cellsAt) rfl ?_
   refine Cl rfl rfl ?_
   obtain ⟨t3,u3,d0⟩:=bs d0
   replace e1:=((((((e1.st j0).st k0).st a0).st h0).st e0).st f0).st c0
   replace f1:=((((((f1.st j0).st k0).st a0).st h0).st e0).st f0).st c0
   replace g1:=((((((g1.st j0).st k0).st a0).st h0).st e0).st f0).st c0
   replace h1:=((((((h1.st j0).st k0).st a0).st h0).st e0).st f0).st c0
   refine AM (O:=c1) (Ij (fun _ h=>h) (Vb.mono (F:=Fr 0 j1 c1) (Vb.ofAgg (cs:=[(.slice o2 m0.1.vars.length p2),(.slice q2 m0.1.init.length r2),(.slice s2 m0.1.goal.length t2),(.slice u2 m0.1.ops.length v2)]) (x:=m0.1) rfl ⟨_,_,_,_,rfl,e1,f1,g1,h1⟩) Fr.lt) (Vb.mono (F:=Fr 0 j1 c1) (Vb.ofAgg (cs:=[(.slice none 0 0),(.slice none 0 0),(.slice none 0 0),(.slice none 0 0)]) (x:=(⟨([]:List Int),([]:List Int),([]:List Fct),([]:List Opr)⟩:Tsk)) rfl ⟨_,_,_,_,rfl,(Vb.nil _ _),(Vb.nil _ _),(Vb.nil _ _),(Vb.nil _ _)⟩) Fr.lt) u3) rfl fun i6 j6 w3 d2 x3=>?_
   obtain rfl:=x3.bool
   cases t3
   case false =>
    replace d0:=iF d0
    refine Ak rfl (Al rfl rfl (Al rfl rfl (Al rfl rfl (Al rfl rfl (Bc rfl rfl (Am rfl (o_z ?_)))))))
    obtain rfl:=sm d0
    exact ⟨(),_,⟨rfl,trivial⟩,((((((((hB.st r0).st j0).st k0).st a0).st h0).st e0).st f0).st c0).st d2⟩
   replace d0:=iT d0
   refine Ak rfl (An rfl rfl (Ak rfl (An rfl rfl ?_)))
   obtain ⟨k6,y3,d0⟩:=bs d0
   refine AM (O:=w3) (LN (fun _ h=>h) j4 y3) rfl fun l6 m6 n6 k2 z3=>?_
   obtain ⟨rfl,o6⟩:=z3.int
   refine An rfl rfl (Ak rfl (An rfl rfl (GU rfl rfl (fun e2=>?_) fun e2=>?_)))
   ·
    replace d0:=ip d0 e2
    refine Bn rfl rfl (Am rfl (o_z ?_))
    obtain rfl:=sm d0
    exact ⟨(),_,⟨rfl,trivial⟩,(((((((((hB.st r0).st j0).st k0).st a0).st h0).st e0).st f0).st c0).st d2).st k2⟩
   replace d0:=im d0 e2
   refine Bn rfl rfl (Am rfl (o_z ?_))
   obtain rfl:=sm d0
   exact ⟨(),_,⟨rfl,trivial⟩,(((((((((hB.st r0).st j0).st k0).st a0).st h0).st e0).st f0).st c0).st d2).st k2⟩
  replace hB:=(((((((hB.st r0).st j0).st k0).st a0).st h0).st e0).st f0).st c0
  rintro p6 q6 ⟨s3,r6,l2,hB⟩
  refine AH _ l2 ?_
  refine AF ?_
  obtain rfl:=sm hm
  exact ret1v rfl (AA rfl) ⟨hB.ext,vBool⟩
 replace hm:=im hm c2
 refine o_z ?_
 refine Ae rfl (AO (Ab ?_))
 obtain ⟨a4,g0,hm⟩:=bs hm
 refine Ay (fun l' w'=>∃ (b4:Unit) (O':Lab),subs l' [(2,(.bool a4))]∧Bs w A w' O') ?_ ?_
 ·
  refine Aa (Ak rfl (OS rfl rfl (fun f2=>?_) fun f2=>?_))
  ·
   replace g0:=ip g0 f2
   refine Ak rfl (An rfl rfl ?_)
   replace b1:=((((b1.st a0).st h0).st e0).st f0).st c0
   refine Bd (hl:=rfl) (hc:=(b1.1).cellsAt) rfl ?_
   refine An rfl rfl ?_
   replace s0:=s0.st c0
   refine Bd (hl:=rfl) (hc:=(s0.1).cellsAt) rfl ?_
   refine An rfl rfl ?_
   obtain ⟨c4,d4,g0⟩:=bs g0
   replace e1:=((((((e1.st j0).st k0).st a0).st h0).st e0).st f0).st c0
   replace f1:=((((((f1.st j0).st k0).st a0).st h0).st e0).st f0).st c0
   replace g1:=((((((g1.st j0).st k0).st a0).st h0).st e0).st f0).st c0
   replace h1:=((((((h1.st j0).st k0).st a0).st h0).st e0).st f0).st c0
   replace v0:=v0.st c0
   replace w0:=w0.st c0
   replace y0:=y0.st c0
   replace z0:=z0.st c0
   refine AM (O:=c1) (Ij (fun _ h=>h) (Vb.mono (F:=Fr 0 j1 c1) (Vb.ofAgg (cs:=[(.slice o2 m0.1.vars.length p2),(.slice q2 m0.1.init.length r2),(.slice s2 m0.1.goal.length t2),(.slice u2 m0.1.ops.length v2)]) (x:=m0.1) rfl ⟨_,_,_,_,rfl,e1,f1,g1,h1⟩) Fr.lt) (Vb.mono (F:=Fr 0 j1 c1) (Vb.ofAgg (cs:=[(.slice t1 l0.vars.length u1),(.slice v1 l0.init.length w1),(.slice x1 l0.goal.length y1),(.slice z1 l0.ops.length a2)]) (x:=l0) rfl ⟨_,_,_,_,rfl,v0,w0,y0,z0⟩) Fr.lt) d4) rfl fun s6 t6 u6 m2 e4=>?_
   obtain rfl:=e4.bool
   cases c4
   case false =>
    replace g0:=iF g0
    refine Bn rfl rfl (Am rfl (o_z ?_))
    obtain rfl:=sm g0
    exact ⟨(),_,⟨rfl,trivial⟩,((((((((hB.st r0).st j0).st k0).st a0).st h0).st e0).st f0).st c0).st m2⟩
   replace g0:=iT g0
   refine Bn rfl rfl (Am rfl (o_z ?_))
   obtain rfl:=sm g0
   exact ⟨(),_,⟨rfl,trivial⟩,((((((((hB.st r0).st j0).st k0).st a0).st h0).st e0).st f0).st c0).st m2⟩
  replace g0:=im g0 f2
  refine Ak rfl (Al rfl rfl (Al rfl rfl (Al rfl rfl (Bc rfl rfl (Am rfl (o_z ?_))))))
  obtain rfl:=sm g0
  exact ⟨(),_,⟨rfl,trivial⟩,(((((((hB.st r0).st j0).st k0).st a0).st h0).st e0).st f0).st c0⟩
 replace hB:=(((((((hB.st r0).st j0).st k0).st a0).st h0).st e0).st f0).st c0
 rintro w6 x6 ⟨b4,y6,n2,hB⟩
 refine AH _ n2 ?_
 refine AF ?_
 obtain rfl:=sm hm
 exact ret1v rfl (AA rfl) ⟨hB.ext,vBool⟩
end
section
section
variable {α σ ρ : Type}
theorem BQ {s:σ} {f:σ→Option ρ}:fin (.done s) f=f s:=rfl
theorem Sj {c:ρ} {f:σ→Option ρ}:fin (.ret c) f=some c:=rfl
theorem Fd {x y:α}:(if true=true then x else y)=x:=rfl
theorem Fu {x y:α}:(if false=true then x else y)=y:=rfl
theorem JW {f:Nat→α→σ→Option (Ctl σ ρ)} {I:Nat→σ→Prop} {R:ρ→Prop}:∀ (ys:List α) (j:Nat) (s:σ),I j s →
    (∀ k x s,ys[k]?=some x→I (j + k) s→(∃ s',f (j + k) x s=some (.next s')∧I (j + k + 1) s')∨(∃ r,f (j + k) x s=some (.ret r)∧R r)) →
    (∃ s',rng f ys j s=some (.done s')∧I (j + ys.length) s')∨∃ r,rng f ys j s=some (.ret r)∧R r
  | [],j,s,h0,_=>.inl ⟨s,rfl,h0⟩
  | y :: ys,j,s,h0,h=>by
    rcases h 0 y s rfl h0 with ⟨s',h1,h2⟩|⟨r,h1,h2⟩
    · have h1':f j y s=some (.next s'):=h1
      simp only [rng,h1']
      rcases JW (I:=I) (R:=R) ys (j + 1) s' h2 (fun k x s hk hI=>by
        have:=h (k + 1) x s (by simpa using hk) (by rwa [show j + (k + 1)=j + 1 + k from by omega])
        rwa [show j + (k + 1)=j + 1 + k from by omega] at this) with ⟨s2,h3,h4⟩|h3
      · exact .inl ⟨s2,h3,by rw [List.length_cons,show j + (ys.length + 1)=j + 1 + ys.length from by omega];exact h4⟩
      · exact .inr h3
    · have h1':f j y s=some (.ret r):=h1
      simp only [rng,h1']
      exact .inr ⟨r,rfl,h2⟩
theorem Rc {f:Nat→α→σ→Option (Ctl σ ρ)} {xs:List α} {s₀:σ} (I:Nat→σ→Prop) (R:ρ→Prop) (h0:I 0 s₀)
    (h:∀ k x s,xs[k]?=some x→I k s→(∃ s',f k x s=some (.next s')∧I (k + 1) s')∨(∃ r,f k x s=some (.ret r)∧R r)) :
    (∃ s',rng f xs 0 s₀=some (.done s')∧I xs.length s')∨∃ r,rng f xs 0 s₀=some (.ret r)∧R r:=by
  have:=JW (f:=f) (I:=I) (R:=R) xs 0 s₀ h0 (fun k x s hk hI=>by rw [Nat.zero_add] at hI ⊢;exact h k x s hk hI)
  rwa [Nat.zero_add] at this
theorem Re {f:Nat→α→σ→Option (Ctl σ ρ)} {xs:List α} {s₀:σ} (I:Nat→σ→Prop) (h0:I 0 s₀) (h:∀ k x s,xs[k]?=some x→I k s→∃ s',f k x s=some (.next s')∧I (k + 1) s') :
    ∃ s',rng f xs 0 s₀=some (.done s')∧I xs.length s':=by
  rcases Rc I (fun _=>False) h0 (fun k x s hk hI=>.inl (h k x s hk hI)) with h|⟨_,_,h⟩
  · exact h
  · exact h.elim
theorem Mq {f:Nat→α→σ→Option (Ctl σ ρ)} {xs:List α} (g:Nat→σ) (h:∀ k x,xs[k]?=some x→f k x (g k)=some (.next (g (k + 1)))):rng f xs 0 (g 0)=some (.done (g xs.length)):=by
  obtain ⟨s',h1,h2⟩:=Re (f:=f) (xs:=xs) (s₀:=g 0) (fun k s=>s=g k) rfl (fun k x s hk hI=>⟨_,by rw [hI];exact h k x hk,rfl⟩)
  rw [h1,h2]
theorem CE {f:Nat→α→σ→Option (Ctl σ ρ)} {xs:List α} {s₀:σ} (g:Nat→σ) (h0:s₀=g 0) (h:∀ k x,xs[k]?=some x→f k x (g k)=some (.next (g (k + 1)))):rng f xs 0 s₀=some (.done (g xs.length)):=by
  rw [h0];exact Mq g h
theorem Ls {f:Nat→α→Unit→Option (Ctl Unit ρ)} {xs:List α} (h:∀ k x,xs[k]?=some x→f k x ()=some (.next ())):rng f xs 0 ()=some (.done ()):=Mq (fun _=>()) h
theorem Qn {f:Nat→σ→Option (Ctl σ ρ)} {N:Nat} (g:Nat→σ) (h:∀ k,k < N→f k (g k)=some (.next (g (k + 1)))):rngN f N (g 0)=some (.done (g N)):=by
  have:=Mq (f:=fun _ k s=>f k s) (xs:=List.range N) g (fun k x hk=>by
    obtain ⟨hlt,rfl⟩:=List.getElem?_eq_some_iff.1 hk
    simpa using h k (by simpa using hlt))
  rwa [List.length_range] at this
theorem IB {f:Nat→σ→Option (Ctl σ ρ)} {N:Nat} {s₀:σ} (g:Nat→σ) (h0:s₀=g 0) (h:∀ k,k < N→f k (g k)=some (.next (g (k + 1)))):rngN f N s₀=some (.done (g N)):=by
  rw [h0];exact Qn g h
end
end
section
open Go Go.RowKit
def Le {α:Type} (x y:Option α):Prop:=∀ r,x=some r→y=some r
theorem Le.rf {α:Type} {x:Option α}:Le x x:=fun _ h=>h
theorem Le.bnd {α β:Type} {x x':Option α} {f f':α→Option β} (h:Le x x') (hf:∀ a,Le (f a) (f' a)):Le (bnd x f) (bnd x' f'):=fun r hr=>by
  obtain ⟨a,ha,hb⟩:=bs hr
  rw [h a ha,Aj]
  exact hf a r hb
theorem Le.ite {α:Type} {p:Prop} [Decidable p] {x x' y y':Option α} (h:Le x x') (k:Le y y'):Le (if p then x else y) (if p then x' else y'):=by
  by_cases hp:p
  · rw [if_pos hp,if_pos hp];exact h
  · rw [if_neg hp,if_neg hp];exact k
theorem Le.fin {σ κ:Type} {y:Fin σ κ} {f f':σ→Option κ} (hf:∀ a,Le (f a) (f' a)):Le (fin y f) (fin y f'):=by
  cases y with
  | done s=>exact hf s
  | ret c=>exact Le.rf
theorem Le.rng {α σ ρ:Type} {f f':Nat→α→σ→Option (Ctl σ ρ)} (hf:∀ k a s,Le (f k a s) (f' k a s)):∀ {xs:List α} {k:Nat} {s:σ},Le (rng f xs k s) (rng f' xs k s)
  | [],_,_=>Le.rf
  | x :: xs,k,s=>fun r hr=>by
    simp only [Proofs.YtjohlgjklmagnaaGreatDoor.rng] at hr ⊢
    cases hc:f k x s with
    | none=>rw [hc] at hr;cases hr
    | some c =>
      rw [hc] at hr
      rw [hf k x s c hc]
      cases c with
      | next s'=>exact Le.rng hf r hr
      | brk s'=>exact hr
      | ret q=>exact hr
theorem Le.rngN {σ ρ:Type} {f f':Nat→σ→Option (Ctl σ ρ)} {n:Nat} {s:σ} (hf:∀ k s,Le (f k s) (f' k s)):Le (rngN f n s) (rngN f' n s):=Le.rng fun _ k s=>hf k s
theorem Le.itr {σ ρ:Type} {f f':σ→Option (Ctl σ ρ)} (hf:∀ s,Le (f s) (f' s)):∀ (n:Nat) (s:σ),Le (itr f n s) (itr f' n s)
  | 0,_=>Le.rf
  | n + 1,s=>fun r hr=>by
    simp only [Proofs.YtjohlgjklmagnaaGreatDoor.itr] at hr ⊢
    cases hc:f s with
    | none=>rw [hc] at hr;cases hr
    | some c =>
      rw [hc] at hr
      rw [hf s c hc]
      cases c with
      | next s'=>exact Le.itr hf n s' r hr
      | brk s'=>exact hr
      | ret q=>exact hr
def lopE {σ ρ:Type} (f:σ→Option (Ctl σ ρ)) (s:σ):Option (Fin σ ρ):=itr f 600 s
theorem Le.lop {σ ρ:Type} {f f':σ→Option (Ctl σ ρ)} {s:σ} (hf:∀ s,Le (f s) (f' s)):Le (lopE f s) (lop f' s):=fun r hr=>PU.2 ⟨600,Le.itr hf 600 s r hr⟩
end
section
open Go Go.RowKit
def factB (vars:List Int) (x:Fct):Bool:=decide (0≤x.var) && (decide (0≤x.val) && (match vars[x.var.toNat]? with|some y=>decide (x.val < y)|none=>false))
theorem NI {vars:List Int} {x:Fct} (h:factB vars x=true):FactOk vars x:=by
  unfold factB at h
  simp only [Bool.and_eq_true,decide_eq_true_eq] at h
  obtain ⟨h1,h2,h3⟩:=h
  cases hv:vars[x.var.toNat]? with
  | none=>rw [hv] at h3;cases h3
  | some y=>rw [hv] at h3;exact ⟨h1,h2,y,hv,by simpa using h3⟩
def ascB:List Fct→Bool
  | x :: y :: r=>decide (x.var < y.var) && ascB (y :: r)
  | _=>true
theorem Ox:∀ {f:List Fct},ascB f=true→∀ (i:Nat) x y,f[i]?=some x→f[i + 1]?=some y→x.var < y.var
  | [],_,i,x,y,h,_=>by simp at h
  | [_],_,i,x,y,_,h=>by simp at h
  | a :: b :: r,h,i,x,y,h1,h2=>by
    simp only [ascB,Bool.and_eq_true,decide_eq_true_eq] at h
    cases i with
    | zero=>simp at h1 h2;subst h1;subst h2;exact h.1
    | succ i=>exact Ox h.2 i x y (by simpa using h1) (by simpa using h2)
def factsB (vars:List Int) (f:List Fct):Bool:=f.all (factB vars) && ascB f
theorem IC {vars:List Int} {f:List Fct} (h:factsB vars f=true):FactsOk vars f:=by
  unfold factsB at h
  rw [Bool.and_eq_true,List.all_eq_true] at h
  exact ⟨fun i x hx=>NI (h.1 x (List.mem_of_getElem? hx)),Ox h.2⟩
def stateB:List Int→List Int→Bool
  | [],[]=>true
  | y :: vars,x :: s=>decide (0≤x) && (decide (x < y) && stateB vars s)
  | _,_=>false
theorem JX:∀ {vars s:List Int},stateB vars s=true→StateOk vars s
  | [],[],_=>⟨rfl,fun i x y h=>by simp at h⟩
  | y :: vars,x :: s,h=>by
    simp only [stateB,Bool.and_eq_true,decide_eq_true_eq] at h
    obtain ⟨h1,h2⟩:=JX h.2.2
    refine ⟨by simp [h1],fun i a b ha hb=>?_⟩
    cases i with
    | zero=>simp at ha hb;subst ha;subst hb;exact ⟨h.1,h.2.1⟩
    | succ i=>exact h2 i a b (by simpa using ha) (by simpa using hb)
  | [],_ :: _,h=>by simp [stateB] at h
  | _ :: _,[],h=>by simp [stateB] at h
def nameB (s:ByteArray):Bool:=decide (s.size≤256) && s.data.toList.all fun c=>decide (32≤c.toNat) && decide (c.toNat≤126)
theorem Qp {s:ByteArray} (h:nameB s=true):NameOk s:=by
  unfold nameB at h
  simp only [Bool.and_eq_true,decide_eq_true_eq,List.all_eq_true] at h
  refine ⟨h.1,fun i hi=>h.2 _ ?_⟩
  show s.data[i]∈_
  simp
def opB (vars:List Int) (o:Opr):Bool:=decide (0≤o.cost) && (decide (o.cost≤1048576) && (decide (o.effs.length≤64) && (nameB o.name && (factsB vars o.pre && o.effs.all fun e=>factsB vars e.cond && factB vars ⟨e.var,e.val⟩))))
theorem RL {vars:List Int} {o:Opr} (h:opB vars o=true):OpOk vars o:=by
  unfold opB at h
  simp only [Bool.and_eq_true,decide_eq_true_eq,List.all_eq_true] at h
  obtain ⟨h1,h2,h3,h4,h5,h6⟩:=h
  exact ⟨h1,h2,h3,Qp h4,IC h5,fun i e he=>⟨IC (h6 e (List.mem_of_getElem? he)).1,NI (h6 e (List.mem_of_getElem? he)).2⟩⟩
def taskB (t:Tsk):Bool:=decide (t.vars.length≤64) && (decide (t.ops.length≤4096) && ((t.vars.all fun n=>decide (1≤n) && decide (n≤64)) && (stateB t.vars t.init && (factsB t.vars t.goal && t.ops.all (opB t.vars)))))
theorem Qq {t:Tsk} (h:taskB t=true):TaskOk t:=by
  unfold taskB at h
  simp only [Bool.and_eq_true,decide_eq_true_eq,List.all_eq_true] at h
  obtain ⟨h1,h2,h3,h4,h5,h6⟩:=h
  exact ⟨h1,h2,fun i n hn=>h3 n (List.mem_of_getElem? hn),JX h4,IC h5,fun i o ho=>RL (h6 o (List.mem_of_getElem? ho))⟩
def JY (t:Tsk):Option Err:=if taskB t=true then some ⟨0⟩ else none
theorem MW (t:Tsk):Le (JY t) (FY t):=fun r h=>by
  obtain ⟨h1,rfl⟩:=CL h
  unfold FY
  rw [Qc.2 (Qq h1)]
def JA (x y:List Int):Option Bool:=if stateB x y=true then some true else none
theorem Mr (x y:List Int):Le (JA x y) (Fz x y):=fun r h=>by
  obtain ⟨h1,rfl⟩:=CL h
  unfold Fz
  rw [BI (JX h1)]
def Hu (x y:List Int):Option Bool:=some (decide (x=y))
theorem NJ (x y:List Int):Le (Hu x y) (Ej x y):=fun r h=>by
  unfold Hu at h
  unfold Ej
  rw [← h]
  by_cases hx:x=y
  · rw [BI hx];simp [hx]
  · rw [BK hx];simp [hx]
def GZ (f:List Fct) (s:List Int):Option Bool:=EX f s
theorem JB (f:List Fct) (s:List Int):Le (GZ f s) (EX f s):=Le.rf
def EB (x:List Int):Option (List Int):=Ct x
theorem FZ (x:List Int):Le (EB x) (Ct x):=Le.rf
end
section
open Go Go.RowKit
theorem JZ {R:Fct→Fct→Prop}:∀ {a b:List Fct},a.Perm b→a.Pairwise R→b.Pairwise R→(∀ x y,R x y→¬ R y x)→a=b
  | [],b,h,_,_,_=>(List.nil_perm.1 h).symm
  | x :: a,[],h,_,_,_=>by simp at h
  | x :: a,y :: b,h,ha,hb,hR=>by
    obtain ⟨ha1,ha2⟩:=List.pairwise_cons.1 ha
    obtain ⟨hb1,hb2⟩:=List.pairwise_cons.1 hb
    have hx:x∈y :: b:=h.mem_iff.1 List.mem_cons_self
    have hy:y∈x :: a:=h.mem_iff.2 List.mem_cons_self
    have e:x=y:=by
      rcases List.mem_cons.1 hx with rfl|hx
      · rfl
      · rcases List.mem_cons.1 hy with rfl|hy
        · rfl
        · exact absurd (hb1 x hx) (hR x y (ha1 y hy))
    subst e
    rw [JZ ((List.perm_cons x).1 h) ha2 hb2 hR]
theorem HW {u v:List Fct} (h:u.Perm v) (hv:v.Pairwise fun x y=>x.var < y.var):AG u=v:=by
  have hp:=(Hz u).trans h
  have hn:(v.map (·.var)).Nodup:=by
    rw [List.nodup_iff_pairwise_ne,List.pairwise_map]
    exact hv.imp fun h=>by omega
  have hn2:((AG u).map (·.var)).Nodup:=((hp.map (·.var)).nodup_iff).2 hn
  rw [List.nodup_iff_pairwise_ne,List.pairwise_map] at hn2
  have hs:=KR u
  exact JZ hp (hs.imp₂ (fun a b h1 h2=>by omega) hn2) hv fun x y h1 h2=>by omega
def insF1 (a:Fct):List Fct→List Fct
  | []=>[a]
  | b :: r=>if a.var < b.var then a :: b :: r else b :: insF1 a r
def insF:List Fct→List Fct
  | []=>[]
  | a :: r=>insF1 a (insF r)
theorem LX (a:Fct):∀ r,(insF1 a r).Perm (a :: r)
  | []=>.refl _
  | b :: r=>by
    simp only [insF1]
    split
    · exact .refl _
    · exact ((LX a r).cons b).trans (.swap a b r)
theorem MI:∀ l,(insF l).Perm l
  | []=>.refl _
  | a :: r=>(LX a _).trans ((MI r).cons a)
def ltF1:List Fct→Bool
  | a :: b :: r=>decide (a.var < b.var) && ltF1 (b :: r)
  | _=>true
theorem Oy:∀ {l:List Fct},ltF1 l=true→l.Pairwise fun x y=>x.var < y.var
  | [],_=>.nil
  | [a],_=>List.pairwise_singleton _ _
  | a :: b :: r,h=>by
    simp only [ltF1,Bool.and_eq_true,decide_eq_true_eq] at h
    have ih:=Oy h.2
    refine List.pairwise_cons.2 ⟨fun c hc=>?_,ih⟩
    rcases List.mem_cons.1 hc with rfl|hc
    · exact h.1
    · have:=(List.pairwise_cons.1 ih).1 c hc;omega
def srtE (u:List Fct):Option (List Fct):=if u.length < 4611686018427387904∧ltF1 (insF u)=true then some (insF u) else none
theorem Rf {u r:List Fct} (h:srtE u=some r):(if u.length < 4611686018427387904 then some (AG u) else none)=some r:=by
  obtain ⟨⟨h1,h2⟩,rfl⟩:=CL h
  rw [if_pos h1,HW (MI u).symm (Oy h2)]
theorem Ms (x:Int):Dd x=if 0≤x∧x < 100 then some (itoaB x.toNat) else none:=by
  unfold Dd Dx DF
  by_cases h:0≤x∧x < 100
  · rw [if_pos h,if_pos ⟨rfl,h⟩];rfl
  · rw [if_neg h,if_neg (fun q=>h q.2)];rfl
end
section
open Go Go.RowKit
set_option maxRecDepth 20000
attribute [local irreducible] bnd fin rng rngN chkI mkI appI atI natI catI keysI BD Ct Dd
def ER (xs:List Int):Option (List Int):=if xs.length≤1000000 then some (insS xs) else none
theorem Is (xs:List Int):Le (ER xs) (Cy xs):=fun r h=>by
  unfold ER at h
  unfold Cy
  rw [Pp];exact h
def CW (x:List Fct):Option (List Fct):=BD x
theorem Ee (x:List Fct):Le (CW x) (BD x):=Le.rf
def IX (x:Int):Option ByteArray:=if 0≤x∧x < 100 then some (itoaB x.toNat) else none
theorem LY (x:Int):Le (IX x) (Dd x):=fun r h=>by rw [Ms];exact h
def Ez (x:Int):Option (List Fct):=Cr x
theorem Gu (x:Int):Le (Ez x) (Cr x):=Le.rf
def DR (x:Int):Option (List Eff):=Ce x
theorem FT (x:Int):Le (DR x) (Ce x):=Le.rf
def Ik (x:List Lch):Option (List Lch):=if x.length≤1 then some x else none
theorem KC (x:List Lch):Le (Ik x) (Fs x):=fun r h=>by
  obtain ⟨h1,rfl⟩:=CL h
  unfold Fs
  rw [if_pos (by omega)]
  congr 1
  refine QZ ?_
  match x,h1 with
  | [],_=>exact .nil
  | [a],_=>exact List.pairwise_singleton _ _
noncomputable def CS (x0:List (List Fct)):Option (List Fct) :=
  bnd (rng (ρ:=(List Fct)) (fun (k10:Nat) (a11:List Fct) (s8:Int)=>bnd (chkI (s8 + (a11.length:Int))) fun n36=>if n36 < 0 then (none) else (some (.next n36))) x0 0 0) fun res6=>fin res6 fun (s44:Int)=>bnd (Ez s44) fun q46=>bnd (rng (ρ:=(List Fct)) (fun (k62:Nat) (a63:List Fct) (s60:(List Fct))=>bnd (appI 16 s60 a63) fun u88=>some (.next u88)) x0 0 q46) fun res58=>fin res58 fun (s103:(List Fct))=>some s103
theorem Gf (x0:List (List Fct)):Le (CS x0) (BH x0):=by
  unfold CS BH
  repeat' (first|apply Gu|apply Le.ite|apply Le.bnd|apply Le.fin|apply Le.rng|apply Le.rngN|apply Le.lop|exact Le.rf|intro _)
noncomputable def CF (x0:List (List Eff)):Option (List Eff) :=
  bnd (rng (ρ:=(List Eff)) (fun (k10:Nat) (a11:List Eff) (s8:Int)=>bnd (chkI (s8 + (a11.length:Int))) fun n36=>if n36 < 0 then (none) else (some (.next n36))) x0 0 0) fun res6=>fin res6 fun (s44:Int)=>bnd (DR s44) fun q46=>bnd (rng (ρ:=(List Eff)) (fun (k62:Nat) (a63:List Eff) (s60:(List Eff))=>bnd (appI 40 s60 a63) fun u88=>some (.next u88)) x0 0 q46) fun res58=>fin res58 fun (s103:(List Eff))=>some s103
theorem FF (x0:List (List Eff)):Le (CF x0) (BA x0):=by
  unfold CF BA
  repeat' (first|apply FT|apply Le.ite|apply Le.bnd|apply Le.fin|apply Le.rng|apply Le.rngN|apply Le.lop|exact Le.rf|intro _)
noncomputable def GG (x0:Tpl):Option (List (List Fct)) :=
  bnd (rng (ρ:=(List (List Fct))) (fun (k36:Nat) (a37:Job) (s34:(List (List Fct)))=>bnd (appI 24 s34 [a37.start,a37.over,a37.fin,a37.atStart,a37.atEnd]) fun u93=>some (.next u93)) x0.jobs 0 [x0.goal]) fun res32=>fin res32 fun (s108:(List (List Fct)))=>some s108
theorem KD (x0:Tpl):Le (GG x0) (CM x0):=by
  unfold GG CM
  repeat' (first|apply Le.ite|apply Le.bnd|apply Le.fin|apply Le.rng|apply Le.rngN|apply Le.lop|exact Le.rf|intro _)
noncomputable def FJ (x0:List Fct):Option Bool :=
  bnd (if 64 < (x0.length:Int) then (some true) else (some false):Option Bool) fun y4=>some y4
theorem Jp (x0:List Fct):Le (FJ x0) (CU x0):=by
  unfold FJ CU
  repeat' (first|apply Le.ite|apply Le.bnd|apply Le.fin|apply Le.rng|apply Le.rngN|apply Le.lop|exact Le.rf|intro _)
noncomputable def BT (x0:List (List Fct)):Option Int :=
  bnd (rng (ρ:=Int) (fun (k11:Nat) (a12:List Fct) (s9:Unit)=>bnd (FJ a12) fun q33=>if q33=true then some (.ret (k11:Int)) else some (.next ())) x0 0 ()) fun res7=>fin res7 fun (s44:Unit)=>some (-1)
theorem Du (x0:List (List Fct)):Le (BT x0) (Bj x0):=by
  unfold BT Bj
  repeat' (first|apply Jp|apply Le.ite|apply Le.bnd|apply Le.fin|apply Le.rng|apply Le.rngN|apply Le.lop|exact Le.rf|intro _)
noncomputable def BN (x0:List (List Fct)):Option Bool :=
  bnd (bnd (BT x0) fun q9=>if 0≤q9 then (some true) else (some false):Option Bool) fun y5=>some y5
theorem Dg (x0:List (List Fct)):Le (BN x0) (Ba x0):=by
  unfold BN Ba
  repeat' (first|apply Du|apply Le.ite|apply Le.bnd|apply Le.fin|apply Le.rng|apply Le.rngN|apply Le.lop|exact Le.rf|intro _)
def Ka (x:List Int) (f:List Fct):Option Bool:=if factsB x f=true then some true else none
theorem MX (x:List Int) (f:List Fct):Le (Ka x f) (FX x f):=fun r h=>by
  obtain ⟨h1,rfl⟩:=CL h
  unfold FX
  rw [BI (IC h1)]
noncomputable def FK (x0:List Fct) (y0:Tpl):Option Bool :=
  bnd (bnd (Ka y0.vars x0) fun q24=>if q24=true then some false else some true:Option Bool) fun y20=>some y20
theorem Jq (x0:List Fct) (y0:Tpl):Le (FK x0 y0) (CV x0 y0):=by
  unfold FK CV
  repeat' (first|apply MX|apply Le.ite|apply Le.bnd|apply Le.fin|apply Le.rng|apply Le.rngN|apply Le.lop|exact Le.rf|intro _)
noncomputable def BU (x0:List (List Fct)) (y0:Tpl):Option Int :=
  bnd (rng (ρ:=Int) (fun (k27:Nat) (a28:List Fct) (s25:Unit)=>bnd (FK a28 y0) fun q49=>if q49=true then some (.ret (k27:Int)) else some (.next ())) x0 0 ()) fun res23=>fin res23 fun (s60:Unit)=>some (-1)
theorem Dv (x0:List (List Fct)) (y0:Tpl):Le (BU x0 y0) (Bk x0 y0):=by
  unfold BU Bk
  repeat' (first|apply Jq|apply Le.ite|apply Le.bnd|apply Le.fin|apply Le.rng|apply Le.rngN|apply Le.lop|exact Le.rf|intro _)
noncomputable def BO (x0:List (List Fct)) (y0:Tpl):Option Bool :=
  bnd (bnd (BU x0 y0) fun q25=>if 0≤q25 then (some true) else (some false):Option Bool) fun y21=>some y21
theorem Dh (x0:List (List Fct)) (y0:Tpl):Le (BO x0 y0) (Bb x0 y0):=by
  unfold BO Bb
  repeat' (first|apply Dv|apply Le.ite|apply Le.bnd|apply Le.fin|apply Le.rng|apply Le.rngN|apply Le.lop|exact Le.rf|intro _)
noncomputable def GH (x0:ByteArray):Option Bool :=
  bnd (rngN (ρ:=Bool) (fun (k7:Nat) (s5:Unit)=>bnd (bnd (bytI x0 (k7:Int)) fun n22=>if n22 < 32 then (some true) else (bnd (bytI x0 (k7:Int)) fun n26=>if 126 < n26 then (some true) else (some false)):Option Bool) fun y18=>if y18=true then (some (.ret false)) else (some (.next ()))) x0.size ()) fun res3=>fin res3 fun (s39:Unit)=>bnd (if (x0.size:Int)≤256 then (some true) else (some false):Option Bool) fun y41=>some y41
theorem KE (x0:ByteArray):Le (GH x0) (Cz x0):=by
  unfold GH Cz
  repeat' (first|apply Le.ite|apply Le.bnd|apply Le.fin|apply Le.rng|apply Le.rngN|apply Le.lop|exact Le.rf|intro _)
noncomputable def Fv (x0:Tpl):Option Err :=
  bnd (GG x0) fun q24=>bnd (if 64 < (x0.vars.length:Int) then (some true) else (if 24 < (x0.jobs.length:Int) then (some true) else (bnd (BN q24) fun q43=>if q43=true then some true else some false)):Option Bool) fun y33=>if y33=true then (some (⟨5⟩:Err)) else (bnd (rng (ρ:=Err) (fun (k61:Nat) (a62:Int) (s59:Unit)=>bnd (if a62 < 1 then (some true) else (if 64 < a62 then (some true) else (some false)):Option Bool) fun y80=>if y80=true then (some (.ret (⟨1⟩:Err))) else (some (.next ()))) x0.vars 0 ()) fun res57=>fin res57 fun (s95:Unit)=>bnd (rng (ρ:=Err) (fun (k103:Nat) (a104:Job) (s101:Unit)=>bnd (if a104.dur < 1 then (some true) else (if 62 < a104.dur then (some true) else (some false)):Option Bool) fun y150=>if y150=true then (some (.ret (⟨1⟩:Err))) else (some (.next ()))) x0.jobs 0 ()) fun res99=>fin res99 fun (s165:Unit)=>bnd (bnd (JA x0.vars x0.init) fun q171=>if q171=true then bnd (BO q24 x0) fun q178=>if q178=true then some true else some false else some true:Option Bool) fun y167=>if y167=true then (some (⟨2⟩:Err)) else (bnd (rng (ρ:=Err) (fun (k196:Nat) (a197:Job) (s194:Unit)=>bnd (GH a197.name) fun q243=>if q243=true then some (.next ()) else some (.ret (⟨8⟩:Err))) x0.jobs 0 ()) fun res192=>fin res192 fun (s254:Unit)=>some (⟨0⟩:Err)))
theorem HJ (x0:Tpl):Le (Fv x0) (CN x0):=by
  unfold Fv CN
  repeat' (first|apply Dg|apply Dh|apply Mr|apply KD|apply KE|apply Le.ite|apply Le.bnd|apply Le.fin|apply Le.rng|apply Le.rngN|apply Le.lop|exact Le.rf|intro _)
noncomputable def Gp (x0:Tpl) (x1:List Lch):Option Err :=
  bnd (Fv x0) fun q27=>if q27.n≠0 then (some (⟨q27.n⟩:Err)) else (if 4096 < (x1.length:Int) then (some (⟨5⟩:Err)) else (bnd (rng (ρ:=Err) (fun (k45:Nat) (a46:Lch) (s43:Unit)=>bnd (if a46.job < 0 then (some true) else (if (x0.jobs.length:Int)≤a46.job then (some true) else (if a46.tm < 0 then (some true) else (if 1048576 < a46.tm then (some true) else (some false)))):Option Bool) fun y72=>if y72=true then (some (.ret (⟨1⟩:Err))) else (some (.next ()))) x1 0 ()) fun res41=>fin res41 fun (s91:Unit)=>some (⟨0⟩:Err)))
theorem Kb (x0:Tpl) (x1:List Lch):Le (Gp x0 x1) (DZ x0 x1):=by
  unfold Gp DZ
  repeat' (first|apply HJ|apply Le.ite|apply Le.bnd|apply Le.fin|apply Le.rng|apply Le.rngN|apply Le.lop|exact Le.rf|intro _)
noncomputable def Ep (x0:Tpl) (x1:Lch):Option Int :=
  bnd (atI x0.jobs x1.job) fun a33=>bnd (chkI (x1.tm + a33.dur)) fun n66=>some n66
theorem FR (x0:Tpl) (x1:Lch):Le (Ep x0 x1) (Da x0 x1):=by
  unfold Ep Da
  repeat' (first|apply Le.ite|apply Le.bnd|apply Le.fin|apply Le.rng|apply Le.rngN|apply Le.lop|exact Le.rf|intro _)
noncomputable def Fe (x0:Tpl) (x1:List Lch):Option ((MapR 182 Int Hap)×(List Int)) :=
  bnd (rng (ρ:=(MapR 182 Int Hap)×(List Int)) (fun (k38:Nat) (a39:Lch) (s36:(MapR 182 Int Hap))=>bnd (appI 16 (mget ([]:List Hap) s36.l a39.tm) [(⟨a39.job,false⟩:Hap)]) fun u82=>bnd (Ep x0 a39) fun q97=>bnd (appI 16 (mget ([]:List Hap) (⟨mput s36.l a39.tm u82⟩:MapR 182 Int Hap).l q97) [(⟨a39.job,true⟩:Hap)]) fun u99=>some (.next (⟨mput (⟨mput s36.l a39.tm u82⟩:MapR 182 Int Hap).l q97 u99⟩:MapR 182 Int Hap))) x1 0 (⟨[]⟩:MapR 182 Int Hap)) fun res34=>fin res34 fun (s219:(MapR 182 Int Hap))=>bnd (keysI s219) fun u221=>bnd (ER u221) fun q235=>some (s219,q235)
theorem IJ (x0:Tpl) (x1:List Lch):Le (Fe x0 x1) (Dc x0 x1):=by
  unfold Fe Dc
  repeat' (first|apply Is|apply FR|apply Le.ite|apply Le.bnd|apply Le.fin|apply Le.rng|apply Le.rngN|apply Le.lop|exact Le.rf|intro _)
noncomputable def FL (x0:Tpl) (x1:List Lch) (x2:Int):Option Bool :=
  bnd (rng (ρ:=Bool) (fun (k34:Nat) (a35:Lch) (s32:Unit)=>if a35.tm≠x2 then (some (.next ())) else (bnd (rng (ρ:=Ctl Unit Bool) (fun (k68:Nat) (a69:Lch) (s66:Unit)=>bnd (if (k34:Int)≠(k68:Int) then (if a35.job=a69.job then (if a69.tm≤x2 then (bnd (Ep x0 a69) fun q102=>if x2≤q102 then (some true) else (some false)) else (some false)) else (some false)) else (some false):Option Bool) fun y95=>if y95=true then (some (.ret (.ret true))) else (some (.next ()))) x1 0 ()) fun res64=>fin res64 fun (s120:Unit)=>some (.next ()))) x1 0 ()) fun res30=>fin res30 fun (s126:Unit)=>some false
theorem Jr (x0:Tpl) (x1:List Lch) (x2:Int):Le (FL x0 x1 x2) (DA x0 x1 x2):=by
  unfold FL DA
  repeat' (first|apply FR|apply Le.ite|apply Le.bnd|apply Le.fin|apply Le.rng|apply Le.rngN|apply Le.lop|exact Le.rf|intro _)
noncomputable def Gq (x0:Tpl) (x1:Hap):Option (List Fct) :=
  if x1.fin=true then (bnd (atI x0.jobs x1.job) fun a33=>some a33.atEnd) else (bnd (atI x0.jobs x1.job) fun a66=>some a66.atStart)
theorem Kc (x0:Tpl) (x1:Hap):Le (Gq x0 x1) (Ea x0 x1):=by
  unfold Gq Ea
  repeat' (first|apply Le.ite|apply Le.bnd|apply Le.fin|apply Le.rng|apply Le.rngN|apply Le.lop|exact Le.rf|intro _)
noncomputable def GI (x0:Tpl) (x1:Hap):Option (List Fct) :=
  if x1.fin=true then (bnd (atI x0.jobs x1.job) fun a33=>some a33.fin) else (bnd (atI x0.jobs x1.job) fun a66=>some a66.start)
theorem KG (x0:Tpl) (x1:Hap):Le (GI x0 x1) (Et x0 x1):=by
  unfold GI Et
  repeat' (first|apply Le.ite|apply Le.bnd|apply Le.fin|apply Le.rng|apply Le.rngN|apply Le.lop|exact Le.rf|intro _)
noncomputable def Ha (x0:Tpl) (x1:Hap) (x2:Hap):Option Bool :=
  none
theorem IY (x0:Tpl) (x1:Hap) (x2:Hap):Le (Ha x0 x1 x2) (Fq x0 x1 x2):=fun _ h=>nomatch h
noncomputable def GJ (x0:Tpl) (x1:List Int) (x2:List Hap):Option (List Int) :=
  bnd (EB x1) fun q30=>bnd (rng (ρ:=(List Int)) (fun (k52:Nat) (a53:Bool) (s50:(List Int))=>bnd (rng (ρ:=Ctl (List Int) (List Int)) (fun (k80:Nat) (a81:Job) (s78:(List Int)×Bool)=>bnd (rng (ρ:=Ctl ((List Int)×Bool) (Ctl (List Int) (List Int))) (fun (k101:Nat) (a102:Hap) (s99:(List Int)×Bool)=>bnd (if a102.job≠(k80:Int) then (some (s99.2,true,a102.fin)) else (if a102.fin=true then (if s99.2=true then (some (true,false,true)) else (some (false,true,true))) else (if s99.2=true then (some (true,true,false)) else (some (false,false,false)))):Option (Bool×Bool×Bool)) fun y131=>if y131.2.1=true then (some (.next (s99.1,y131.1))) else (bnd (Gq x0 (⟨a102.job,y131.2.2⟩:Hap)) fun q144=>bnd (rng (ρ:=Ctl ((List Int)×Bool) (Ctl ((List Int)×Bool) (Ctl (List Int) (List Int)))) (fun (k159:Nat) (a160:Fct) (s157:(List Int))=>bnd (atI s157 a160.var) fun a190=>some (.next (s157.set (a160.var:Int).toNat a160.val))) q144 0 s99.1) fun res155=>fin res155 fun (s208:(List Int))=>some (.next (s208,y131.1)))) x2 0 (s78.1,s78.2)) fun res97=>fin res97 fun (s214:(List Int)×Bool)=>some (.next (s214.1,s214.2))) x0.jobs 0 (s50,a53)) fun res76=>fin res76 fun (s220:(List Int)×Bool)=>some (.next s220.1)) [true,false] 0 q30) fun res48=>fin res48 fun (s226:(List Int))=>some s226
theorem KH (x0:Tpl) (x1:List Int) (x2:List Hap):Le (GJ x0 x1 x2) (Eu x0 x1 x2):=by
  unfold GJ Eu
  repeat' (first|apply FZ|apply Kc|apply Le.ite|apply Le.bnd|apply Le.fin|apply Le.rng|apply Le.rngN|apply Le.lop|exact Le.rf|intro _)
noncomputable def Hb (x0:Tpl) (x1:List Lch) (x2:Int) (x3:List Int) (x4:List Hap):Option ((List Int)×Err) :=
  bnd (FL x0 x1 x2) fun q34=>if q34=true then some (([]:List Int),(⟨18⟩:Err)) else bnd (rng (ρ:=(List Int)×Err) (fun (k47:Nat) (a48:Hap) (s45:Unit)=>bnd (rngN (ρ:=Ctl Unit ((List Int)×Err)) (fun (k62:Nat) (s60:Unit)=>bnd (x4[k62]?) fun a81=>bnd (Ha x0 a48 a81) fun q91=>if q91=true then some (.ret (.ret (([]:List Int),(⟨17⟩:Err)))) else some (.next ())) k47 ()) fun res58=>fin res58 fun (s102:Unit)=>some (.next ())) x4 0 ()) fun res43=>fin res43 fun (s108:Unit)=>bnd (rng (ρ:=(List Int)×Err) (fun (k116:Nat) (a117:Hap) (s114:Unit)=>bnd (GI x0 a117) fun q142=>bnd (GZ q142 x3) fun q151=>if q151=true then some (.next ()) else some (.ret (([]:List Int),(⟨12⟩:Err)))) x4 0 ()) fun res112=>fin res112 fun (s162:Unit)=>bnd (GJ x0 x3 x4) fun q164=>bnd (rng (ρ:=(List Int)×Err) (fun (k179:Nat) (a180:Lch) (s177:Unit)=>bnd (if a180.tm≤x2 then (bnd (Ep x0 a180) fun q211=>if x2 < q211 then (bnd (atI x0.jobs a180.job) fun a220=>bnd (GZ a220.over q164) fun q253=>if q253=true then some false else some true) else (some false)) else (some false):Option Bool) fun y206=>if y206=true then (some (.ret (([]:List Int),(⟨16⟩:Err)))) else (some (.next ()))) x1 0 ()) fun res175=>fin res175 fun (s269:Unit)=>some (q164,(⟨0⟩:Err))
theorem Lt (x0:Tpl) (x1:List Lch) (x2:Int) (x3:List Int) (x4:List Hap):Le (Hb x0 x1 x2 x3 x4) (EL x0 x1 x2 x3 x4):=by
  unfold Hb EL
  repeat' (first|apply JB|apply KH|apply FR|apply IY|apply Jr|apply KG|apply Le.ite|apply Le.bnd|apply Le.fin|apply Le.rng|apply Le.rngN|apply Le.lop|exact Le.rf|intro _)
noncomputable def FM (x0:Tpl) (x1:List Lch):Option Int :=
  bnd (rng (ρ:=Int) (fun (k33:Nat) (a34:Lch) (s31:Int)=>bnd (Ep x0 a34) fun q62=>some (.next (max s31 q62))) x1 0 0) fun res29=>fin res29 fun (s74:Int)=>some s74
theorem Js (x0:Tpl) (x1:List Lch):Le (FM x0 x1) (DB x0 x1):=by
  unfold FM DB
  repeat' (first|apply FR|apply Le.ite|apply Le.bnd|apply Le.fin|apply Le.rng|apply Le.rngN|apply Le.lop|exact Le.rf|intro _)
noncomputable def FN (x0:Tpl) (x1:List Lch):Option (Int×Err) :=
  bnd (Gp x0 x1) fun q27=>if q27.n≠0 then (some (0,(⟨q27.n⟩:Err))) else (bnd (Fe x0 x1) fun q36=>bnd (rng (ρ:=Int×Err) (fun (k58:Nat) (a59:Int) (s56:(List Int))=>bnd (Hb x0 x1 a59 s56 (mget ([]:List Hap) q36.1.l a59)) fun q83=>if q83.2.n≠0 then (some (.ret (0,(⟨q83.2.n⟩:Err)))) else (some (.next q83.1))) q36.2 0 x0.init) fun res54=>fin res54 fun (s102:(List Int))=>bnd (GZ x0.goal s102) fun q104=>if q104=true then bnd (FM x0 x1) fun q111=>some (q111,(⟨0⟩:Err)) else some (0,(⟨13⟩:Err)))
theorem Jt (x0:Tpl) (x1:List Lch):Le (FN x0 x1) (DC x0 x1):=by
  unfold FN DC
  repeat' (first|apply JB|apply Kb|apply IJ|apply Js|apply Lt|apply Le.ite|apply Le.bnd|apply Le.fin|apply Le.rng|apply Le.rngN|apply Le.lop|exact Le.rf|intro _)
noncomputable def Fw (x0:Fct) (y0:Int):Option Bool :=
  bnd (if x0.var=y0 then (some true) else (some false):Option Bool) fun y11=>some y11
theorem IZ (x0:Fct) (y0:Int):Le (Fw x0 y0) (CP x0 y0):=by
  unfold Fw CP
  repeat' (first|apply Le.ite|apply Le.bnd|apply Le.fin|apply Le.rng|apply Le.rngN|apply Le.lop|exact Le.rf|intro _)
noncomputable def BV (x0:List Fct) (y0:Int):Option Int :=
  bnd (rng (ρ:=Int) (fun (k12:Nat) (a13:Fct) (s10:Unit)=>bnd (Fw a13 y0) fun q32=>if q32=true then some (.ret (k12:Int)) else some (.next ())) x0 0 ()) fun res8=>fin res8 fun (s43:Unit)=>some (-1)
theorem Dw (x0:List Fct) (y0:Int):Le (BV x0 y0) (Bl x0 y0):=by
  unfold BV Bl
  repeat' (first|apply IZ|apply Le.ite|apply Le.bnd|apply Le.fin|apply Le.rng|apply Le.rngN|apply Le.lop|exact Le.rf|intro _)
noncomputable def BP (x0:List Fct) (y0:Int):Option Bool :=
  bnd (bnd (BV x0 y0) fun q10=>if 0≤q10 then (some true) else (some false):Option Bool) fun y6=>some y6
theorem Di (x0:List Fct) (y0:Int):Le (BP x0 y0) (Bg x0 y0):=by
  unfold BP Bg
  repeat' (first|apply Dw|apply Le.ite|apply Le.bnd|apply Le.fin|apply Le.rng|apply Le.rngN|apply Le.lop|exact Le.rf|intro _)
noncomputable def CD (x0:List Fct) (x1:Int):Option Bool :=
  bnd (bnd (BP x0 x1) fun q14=>if q14=true then some true else some false:Option Bool) fun y10=>some y10
theorem Ga (x0:List Fct) (x1:Int):Le (CD x0 x1) (Ca x0 x1):=by
  unfold CD Ca
  repeat' (first|apply Di|apply Le.ite|apply Le.bnd|apply Le.fin|apply Le.rng|apply Le.rngN|apply Le.lop|exact Le.rf|intro _)
noncomputable def GK (x0:Job) (y0:Int):Option Bool :=
  bnd (bnd (CD x0.atStart y0) fun q35=>if q35=true then some true else bnd (CD x0.atEnd y0) fun q42=>if q42=true then some true else some false:Option Bool) fun y31=>some y31
theorem KJ (x0:Job) (y0:Int):Le (GK x0 y0) (DG x0 y0):=by
  unfold GK DG
  repeat' (first|apply Ga|apply Le.ite|apply Le.bnd|apply Le.fin|apply Le.rng|apply Le.rngN|apply Le.lop|exact Le.rf|intro _)
noncomputable def Co (x0:List Job) (y0:Int):Option Int :=
  bnd (rng (ρ:=Int) (fun (k12:Nat) (a13:Job) (s10:Unit)=>bnd (GK a13 y0) fun q52=>if q52=true then some (.ret (k12:Int)) else some (.next ())) x0 0 ()) fun res8=>fin res8 fun (s63:Unit)=>some (-1)
theorem DX (x0:List Job) (y0:Int):Le (Co x0 y0) (Bt x0 y0):=by
  unfold Co Bt
  repeat' (first|apply KJ|apply Le.ite|apply Le.bnd|apply Le.fin|apply Le.rng|apply Le.rngN|apply Le.lop|exact Le.rf|intro _)
noncomputable def Cg (x0:List Job) (y0:Int):Option Bool :=
  bnd (bnd (Co x0 y0) fun q10=>if 0≤q10 then (some true) else (some false):Option Bool) fun y6=>some y6
theorem DK (x0:List Job) (y0:Int):Le (Cg x0 y0) (Be x0 y0):=by
  unfold Cg Be
  repeat' (first|apply DX|apply Le.ite|apply Le.bnd|apply Le.fin|apply Le.rng|apply Le.rngN|apply Le.lop|exact Le.rf|intro _)
noncomputable def GL (x0:Job) (y0:Int):Option Bool :=
  bnd (bnd (CD x0.start y0) fun q35=>if q35=true then some true else bnd (CD x0.fin y0) fun q42=>if q42=true then some true else some false:Option Bool) fun y31=>some y31
theorem KK (x0:Job) (y0:Int):Le (GL x0 y0) (DH x0 y0):=by
  unfold GL DH
  repeat' (first|apply Ga|apply Le.ite|apply Le.bnd|apply Le.fin|apply Le.rng|apply Le.rngN|apply Le.lop|exact Le.rf|intro _)
noncomputable def Cp (x0:List Job) (y0:Int):Option Int :=
  bnd (rng (ρ:=Int) (fun (k12:Nat) (a13:Job) (s10:Unit)=>bnd (GL a13 y0) fun q52=>if q52=true then some (.ret (k12:Int)) else some (.next ())) x0 0 ()) fun res8=>fin res8 fun (s63:Unit)=>some (-1)
theorem DY (x0:List Job) (y0:Int):Le (Cp x0 y0) (Bu x0 y0):=by
  unfold Cp Bu
  repeat' (first|apply KK|apply Le.ite|apply Le.bnd|apply Le.fin|apply Le.rng|apply Le.rngN|apply Le.lop|exact Le.rf|intro _)
noncomputable def Ch (x0:List Job) (y0:Int):Option Bool :=
  bnd (bnd (Cp x0 y0) fun q10=>if 0≤q10 then (some true) else (some false):Option Bool) fun y6=>some y6
theorem DL (x0:List Job) (y0:Int):Le (Ch x0 y0) (Bf x0 y0):=by
  unfold Ch Bf
  repeat' (first|apply DY|apply Le.ite|apply Le.bnd|apply Le.fin|apply Le.rng|apply Le.rngN|apply Le.lop|exact Le.rf|intro _)
noncomputable def HI (x0:Tpl):Option Lay :=
  bnd (EB x0.vars) fun q29=>bnd (rng (ρ:=Lay) (fun (k142:Nat) (a143:Job) (s140:(List Int))=>bnd (chkI (a143.dur + 2)) fun n193=>bnd (appI 8 s140 ([n193,2]:List Int)) fun u202=>some (.next u202)) x0.jobs 0 q29) fun res138=>fin res138 fun (s219:(List Int))=>bnd (rng (ρ:=Lay) (fun (k227:Nat) (a228:Int) (s225:(List Int)×(List Int)×(List Int))=>bnd (bnd (Cg x0.jobs (k227:Int)) fun q265=>if q265=true then bnd (appI 8 s225.2.2 [2]) fun u274=>bnd (Ch x0.jobs (k227:Int)) fun q288=>if q288=true then bnd (appI 8 u274 [2]) fun u297=>some ((s225.2.2.length:Int),(u274.length:Int),u297) else some ((s225.2.2.length:Int),(-1),u274) else some ((-1),(-1),s225.2.2):Option (Int×Int×(List Int))) fun y257=>bnd (appI 8 s225.1 ([y257.1]:List Int)) fun u315=>bnd (appI 8 s225.2.1 ([y257.2.1]:List Int)) fun u317=>some (.next (u315,u317,y257.2.2))) x0.vars 0 (([]:List Int),([]:List Int),s219)) fun res223=>fin res223 fun (s419:(List Int)×(List Int)×(List Int))=>bnd (chkI ((x0.jobs.length:Int) + 2)) fun n427=>bnd (appI 8 s419.2.2 [n427]) fun u430=>some (⟨(x0.vars.length:Int),s419.1,s419.2.1,(s419.2.2.length:Int),u430⟩:Lay)
theorem Mt (x0:Tpl):Le (HI x0) (DV x0):=by
  unfold HI DV
  repeat' (first|apply FZ|apply DK|apply DL|apply Le.ite|apply Le.bnd|apply Le.fin|apply Le.rng|apply Le.rngN|apply Le.lop|exact Le.rf|intro _)
noncomputable def Cb (x0:Lay) (x1:Int):Option Int :=
  bnd (chkI (2 * x1)) fun n23=>bnd (chkI (x0.jobs + n23)) fun n26=>some n26
theorem Gk (x0:Lay) (x1:Int):Le (Cb x0 x1) (Bz x0 x1):=by
  unfold Cb Bz
  repeat' (first|apply Le.ite|apply Le.bnd|apply Le.fin|apply Le.rng|apply Le.rngN|apply Le.lop|exact Le.rf|intro _)
noncomputable def Df (x0:Lay) (x1:Int):Option Int :=
  bnd (chkI (2 * x1)) fun n23=>bnd (chkI (x0.jobs + n23)) fun n26=>bnd (chkI (n26 + 1)) fun n29=>some n29
theorem Gv (x0:Lay) (x1:Int):Le (Df x0 x1) (Cj x0 x1):=by
  unfold Df Cj
  repeat' (first|apply Le.ite|apply Le.bnd|apply Le.fin|apply Le.rng|apply Le.rngN|apply Le.lop|exact Le.rf|intro _)
noncomputable def ES (x0:Lay) (x1:List Fct) (x2:List Fct):Option ((List Fct)×(List Eff)) :=
  bnd (rng (ρ:=(List Fct)×(List Eff)) (fun (k34:Nat) (a35:Int) (s32:(List Fct)×(List Eff))=>bnd (CD x2 (k34:Int)) fun q53=>if q53=true then bnd (appI 16 s32.1 [(⟨a35,0⟩:Fct)]) fun u135=>bnd (bnd (x0.read[k34]?) fun a153=>if 0≤a153 then (bnd (x0.read[k34]?) fun a164=>bnd (appI 16 u135 [(⟨a164,0⟩:Fct)]) fun u174=>some u174) else (some u135):Option (List Fct)) fun y147=>bnd (appI 40 s32.2 [(⟨([]:List Fct),a35,1⟩:Eff)]) fun u198=>some (.next (y147,u198)) else bnd (bnd (CD x1 (k34:Int)) fun q64=>if q64=true then if 0≤a35 then (some true) else (some false) else some false:Option Bool) fun y60=>if y60=true then (bnd (appI 16 s32.1 [(⟨a35,0⟩:Fct)]) fun u93=>bnd (x0.read[k34]?) fun a105=>bnd (appI 40 s32.2 [(⟨([]:List Fct),a105,1⟩:Eff)]) fun u115=>some (.next (u93,u115))) else (some (.next (s32.1,s32.2)))) x0.write 0 (([]:List Fct),([]:List Eff))) fun res30=>fin res30 fun (s214:(List Fct)×(List Eff))=>some (s214.1,s214.2)
theorem It (x0:Lay) (x1:List Fct) (x2:List Fct):Le (ES x0 x1 x2) (CA x0 x1 x2):=by
  unfold ES CA
  repeat' (first|apply Ga|apply Le.ite|apply Le.bnd|apply Le.fin|apply Le.rng|apply Le.rngN|apply Le.lop|exact Le.rf|intro _)
noncomputable def CY (x0:Lay) (x1:ByteArray) (x2:List Fct) (x3:List Fct) (x4:List Fct) (x5:List Eff):Option Opr :=
  bnd (CS [x2,x4,[(⟨x0.phase,0⟩:Fct)]]) fun q56=>bnd (rng (ρ:=Opr) (fun (k79:Nat) (a80:Fct) (s77:(List Eff))=>bnd (appI 40 s77 [(⟨([]:List Fct),a80.var,a80.val⟩:Eff)]) fun u110=>some (.next u110)) x3 0 ([]:List Eff)) fun res75=>fin res75 fun (s128:(List Eff))=>bnd (ES x0 x2 x3) fun q130=>bnd (appI 16 q56 q130.1) fun u145=>bnd (CF [s128,x5,q130.2]) fun q168=>bnd (srtE u145) fun u185=>some (⟨x1,0,u185,q168⟩:Opr)
theorem HA (x0:Lay) (x1:ByteArray) (x2:List Fct) (x3:List Fct) (x4:List Fct) (x5:List Eff):Le (CY x0 x1 x2 x3 x4 x5) (BS x0 x1 x2 x3 x4 x5):=by
  unfold CY BS
  repeat' (first|apply Gf|apply FF|apply It|exact fun r h=>Rf h|apply Le.bnd|apply Le.fin|apply Le.rng|apply Le.ite|exact Le.rf|intro _)
noncomputable def Ff (x0:Lay) (x1:Job) (x2:Int) (x3:Int):Option Opr :=
  bnd (catI (⟨#[119,97,105,116,32]⟩:ByteArray) x1.name) fun n58=>bnd (catI n58 (⟨#[32]⟩:ByteArray)) fun n60=>bnd (IX x3) fun q62=>bnd (catI n60 q62) fun n64=>bnd (if 0 < x3 then (bnd (CW x1.over) fun q143=>some q143) else (some ([]:List Fct)):Option (List Fct)) fun y136=>bnd (chkI (x2 + 1)) fun n159=>bnd (Cb x0 x2) fun q162=>bnd (appI 16 y136 [(⟨q162,x3⟩:Fct),(⟨x0.phase,n159⟩:Fct)]) fun u176=>bnd (if 1 < x3 then (bnd (chkI (x3 - 1)) fun n196=>bnd (Cb x0 x2) fun q199=>bnd (appI 40 ([]:List Eff) [(⟨([]:List Fct),q199,n196⟩:Eff)]) fun u215=>some u215) else (if x3=1 then (bnd (chkI (x1.dur + 1)) fun n229=>bnd (Cb x0 x2) fun q232=>bnd (appI 40 ([]:List Eff) [(⟨([]:List Fct),q232,n229⟩:Eff)]) fun u248=>some u248) else (some ([]:List Eff))):Option (List Eff)) fun y189=>bnd (chkI (x2 + 2)) fun n265=>bnd (appI 40 y189 [(⟨([]:List Fct),x0.phase,n265⟩:Eff)]) fun u268=>some (⟨n64,0,u176,u268⟩:Opr)
theorem IK (x0:Lay) (x1:Job) (x2:Int) (x3:Int):Le (Ff x0 x1 x2 x3) (Cs x0 x1 x2 x3):=by
  unfold Ff Cs
  repeat' (first|apply Gk|apply Ee|apply LY|apply Le.ite|apply Le.bnd|apply Le.fin|apply Le.rng|apply Le.rngN|apply Le.lop|exact Le.rf|intro _)
noncomputable def EA (x0:Lay) (x1:Int):Option Opr :=
  bnd (chkI (x1 + 1)) fun n28=>bnd (natI x1) fun N57=>bnd (rngN (ρ:=Opr) (fun (k48:Nat) (s46:(List Eff))=>bnd (Df x0 (k48:Int)) fun q63=>bnd (appI 40 s46 [(⟨([]:List Fct),q63,0⟩:Eff)]) fun u77=>some (.next u77)) N57 ([]:List Eff)) fun res44=>fin res44 fun (s94:(List Eff))=>bnd (rng (ρ:=Opr) (fun (k102:Nat) (a103:Int) (s100:(List Eff))=>bnd (if 0≤a103 then (bnd (appI 40 s100 [(⟨([]:List Fct),a103,0⟩:Eff)]) fun u146=>some u146) else (some s100):Option (List Eff)) fun y117=>bnd (x0.read[k102]?) fun a163=>if 0≤a163 then (bnd (x0.read[k102]?) fun a174=>bnd (appI 40 y117 [(⟨([]:List Fct),a174,0⟩:Eff)]) fun u190=>some (.next u190)) else (some (.next y117))) x0.write 0 s94) fun res98=>fin res98 fun (s207:(List Eff))=>bnd (appI 40 s207 [(⟨([]:List Fct),x0.phase,0⟩:Eff)]) fun u209=>some (⟨(⟨#[97,100,118,97,110,99,101]⟩:ByteArray),1,[(⟨x0.phase,n28⟩:Fct)],u209⟩:Opr)
theorem HP (x0:Lay) (x1:Int):Le (EA x0 x1) (Cf x0 x1):=by
  unfold EA Cf
  repeat' (first|apply Gv|apply Le.ite|apply Le.bnd|apply Le.fin|apply Le.rng|apply Le.rngN|apply Le.lop|exact Le.rf|intro _)
noncomputable def EU (x0:Tpl):Option (Tsk×Err) :=
  bnd (Fv x0) fun q29=>if q29.n≠0 then (some ((⟨([]:List Int),([]:List Int),([]:List Fct),([]:List Opr)⟩:Tsk),(⟨q29.n⟩:Err))) else (bnd (HI x0) fun q40=>bnd (mkI 8 (0:Int) (q40.vars.length:Int)) fun u69=>bnd (CW x0.goal) fun q71=>bnd (rng (ρ:=Tsk×Err) (fun (k256:Nat) (a257:Job) (s254:(List Fct)×(List Opr))=>bnd (Cb q40 (k256:Int)) fun q311=>bnd (Df q40 (k256:Int)) fun q313=>bnd (some ():Option Unit) fun y315=>bnd (catI (⟨#[115,116,97,114,116,32]⟩:ByteArray) a257.name) fun n561=>bnd (Cb q40 (k256:Int)) fun q563=>bnd (CY q40 n561 a257.start a257.atStart ([(⟨q311,0⟩:Fct),(⟨q313,0⟩:Fct)]:List Fct) ([(⟨([]:List Fct),q563,a257.dur⟩:Eff)]:List Eff)) fun q565=>bnd (appI 72 s254.2 [q565]) fun u567=>bnd (chkI (a257.dur + 1)) fun n700=>bnd (Cb q40 (k256:Int)) fun q702=>bnd (catI (⟨#[101,110,100,32]⟩:ByteArray) a257.name) fun n776=>bnd (Cb q40 (k256:Int)) fun q778=>bnd (Df q40 (k256:Int)) fun q780=>bnd (CY q40 n776 a257.fin a257.atEnd ([(⟨q702,n700⟩:Fct)]:List Fct) ([(⟨([]:List Fct),q778,0⟩:Eff),(⟨([]:List Fct),q780,1⟩:Eff)]:List Eff)) fun q782=>bnd (appI 72 u567 [q782]) fun u784=>bnd (appI 16 s254.1 [(⟨q311,0⟩:Fct)]) fun u951=>some (.next (u951,u784))) x0.jobs 0 (q71,([]:List Opr))) fun res252=>fin res252 fun (s969:(List Fct)×(List Opr))=>bnd (appI 16 s969.1 [(⟨q40.phase,0⟩:Fct)]) fun u971=>bnd (if 0 < (x0.jobs.length:Int) then (bnd (appI 72 s969.2 [(⟨(⟨#[116,105,99,107]⟩:ByteArray),0,[(⟨q40.phase,0⟩:Fct)],[(⟨([]:List Fct),q40.phase,1⟩:Eff)]⟩:Opr)]) fun u1010=>bnd (rng (ρ:=(List Opr)) (fun (k1030:Nat) (a1031:Job) (s1028:(List Opr))=>bnd (chkI (a1031.dur + 1)) fun n1081=>bnd (natI n1081) fun N1097=>bnd (rngN (ρ:=Ctl (List Opr) (List Opr)) (fun (k1088:Nat) (s1086:(List Opr))=>bnd (Ff q40 a1031 (k1030:Int) (k1088:Int)) fun q1103=>bnd (appI 72 s1086 [q1103]) fun u1127=>some (.next u1127)) N1097 s1028) fun res1084=>fin res1084 fun (s1144:(List Opr))=>some (.next s1144)) x0.jobs 0 u1010) fun res1026=>fin res1026 fun (s1150:(List Opr))=>bnd (EA q40 (x0.jobs.length:Int)) fun q1154=>bnd (appI 72 s1150 [q1154]) fun u1178=>some u1178) else (some s969.2):Option (List Opr)) fun y985=>bnd (JY (⟨q40.vars,(cpyL u69 x0.init),u971,y985⟩:Tsk)) fun q1201=>if q1201.n≠0 then (some ((⟨([]:List Int),([]:List Int),([]:List Fct),([]:List Opr)⟩:Tsk),(⟨q1201.n⟩:Err))) else (some ((⟨q40.vars,(cpyL u69 x0.init),u971,y985⟩:Tsk),(⟨0⟩:Err))))
theorem HB (x0:Tpl):Le (EU x0) (Cm x0):=by
  unfold EU Cm
  repeat' (first|apply Mt|apply HP|apply Gv|apply HA|apply Gk|apply IK|apply Ee|apply MW|apply HJ|apply Le.ite|apply Le.bnd|apply Le.fin|apply Le.rng|apply Le.rngN|apply Le.lop|exact Le.rf|intro _)
noncomputable def CI (x0:List Lch) (x1:Lch):Option Int :=
  bnd (rng (ρ:=Int) (fun (k19:Nat) (a20:Lch) (s17:Unit)=>if x1.tm=a20.tm∧x1.job=a20.job then (some (.ret (k19:Int))) else (some (.next ()))) x0 0 ()) fun res15=>fin res15 fun (s44:Unit)=>some (-1)
theorem FO (x0:List Lch) (x1:Lch):Le (CI x0 x1) (BZ x0 x1):=by
  unfold CI BZ
  repeat' (first|apply Le.ite|apply Le.bnd|apply Le.fin|apply Le.rng|apply Le.rngN|apply Le.lop|exact Le.rf|intro _)
noncomputable def CB (x0:List Lch) (x1:Lch):Option Bool :=
  bnd (bnd (CI x0 x1) fun q17=>if 0≤q17 then (some true) else (some false):Option Bool) fun y13=>some y13
theorem Fh (x0:List Lch) (x1:Lch):Le (CB x0 x1) (BM x0 x1):=by
  unfold CB BM
  repeat' (first|apply FO|apply Le.ite|apply Le.bnd|apply Le.fin|apply Le.rng|apply Le.rngN|apply Le.lop|exact Le.rf|intro _)
noncomputable def Fg (x0:Wtr):Option Wtr :=
  bnd (chkI (2 * (x0.t.jobs.length:Int))) fun n40=>bnd (appI 8 x0.out ([n40]:List Int)) fun u49=>bnd (rng (ρ:=Wtr) (fun (k73:Nat) (a74:Job) (s71:Wtr)=>bnd (s71.first[k73]?) fun a122=>bnd (s71.left[k73]?) fun a132=>bnd (chkI (a122 + a132)) fun n142=>bnd (appI 8 s71.out ([n142]:List Int)) fun u151=>bnd (s71.left[k73]?) fun a164=>bnd (chkI (a164 - 1)) fun n174=>bnd (s71.left[k73]?) fun a177=>some (.next (⟨(⟨s71.t.vars,s71.t.init,s71.t.goal,s71.t.jobs⟩:Tpl),s71.first,s71.last,(s71.left.set k73 (max 0 n174)),u151⟩:Wtr))) x0.t.jobs 0 (⟨(⟨x0.t.vars,x0.t.init,x0.t.goal,x0.t.jobs⟩:Tpl),x0.first,x0.last,x0.left,u49⟩:Wtr)) fun res69=>fin res69 fun (s198:Wtr)=>bnd (appI 8 s198.out ([s198.last]:List Int)) fun u242=>some (⟨(⟨s198.t.vars,s198.t.init,s198.t.goal,s198.t.jobs⟩:Tpl),s198.first,s198.last,s198.left,u242⟩:Wtr)
theorem IL (x0:Wtr):Le (Fg x0) (De x0):=by
  unfold Fg De
  repeat' (first|apply Le.ite|apply Le.bnd|apply Le.fin|apply Le.rng|apply Le.rngN|apply Le.lop|exact Le.rf|intro _)
noncomputable def Hl (x0:Tpl) (x1:List Lch):Option ((List Int)×Err) :=
  bnd (FN x0 x1) fun q27=>if q27.2.n≠0 then (some (([]:List Int),(⟨q27.2.n⟩:Err))) else (bnd (EU x0) fun q41=>if q41.2.n≠0 then (some (([]:List Int),(⟨q41.2.n⟩:Err))) else (bnd (chkI (2 * (x1.length:Int))) fun n80=>bnd (chkI ((x0.jobs.length:Int) + 2)) fun n85=>bnd (chkI (q27.1 * n85)) fun n88=>bnd (chkI (n80 + n88)) fun n91=>if 65536 < n91 then (some (([]:List Int),(⟨5⟩:Err))) else (bnd (chkI ((q41.1.ops.length:Int) - 1)) fun n97=>bnd (mkI 8 (0:Int) (x0.jobs.length:Int)) fun u102=>bnd (chkI (2 * (x0.jobs.length:Int))) fun n122=>bnd (chkI (n122 + 1)) fun n125=>bnd (rng (ρ:=(List Int)×Err) (fun (k143:Nat) (a144:Job) (s141:Int×Wtr)=>bnd (appI 8 s141.2.first [s141.1]) fun u230=>bnd (chkI (a144.dur + 1)) fun n244=>bnd (chkI (s141.1 + n244)) fun n247=>some (.next (n247,(⟨(⟨s141.2.t.vars,s141.2.t.init,s141.2.t.goal,s141.2.t.jobs⟩:Tpl),u230,s141.2.last,s141.2.left,s141.2.out⟩:Wtr)))) x0.jobs 0 (n125,(⟨(⟨x0.vars,x0.init,x0.goal,x0.jobs⟩:Tpl),([]:List Int),n97,u102,([]:List Int)⟩:Wtr))) fun res139=>fin res139 fun (s259:Int×Wtr)=>bnd (Ik x1) fun q261=>bnd (chkI (q27.1 + 1)) fun n270=>bnd (natI n270) fun N286=>bnd (rngN (ρ:=(List Int)×Err) (fun (k277:Nat) (s275:Wtr)=>bnd (rng (ρ:=Ctl Wtr ((List Int)×Err)) (fun (k296:Nat) (a297:Job) (s294:Wtr)=>bnd (chkI ((k277:Int) - a297.dur)) fun n345=>bnd (CB x1 (⟨n345,(k296:Int)⟩:Lch)) fun q348=>if q348=true then bnd (chkI (2 * (k296:Int))) fun n391=>bnd (chkI (n391 + 1)) fun n394=>bnd (appI 8 s294.out [n394]) fun u397=>some (.next (⟨(⟨s294.t.vars,s294.t.init,s294.t.goal,s294.t.jobs⟩:Tpl),s294.first,s294.last,s294.left,u397⟩:Wtr)) else some (.next s294)) x0.jobs 0 s275) fun res292=>fin res292 fun (s420:Wtr)=>bnd (rng (ρ:=Ctl Wtr ((List Int)×Err)) (fun (k428:Nat) (a429:Lch) (s426:Wtr)=>if a429.tm=(k277:Int) then (bnd (chkI (2 * a429.job)) fun n494=>bnd (appI 8 s426.out ([n494]:List Int)) fun u503=>bnd (atI x0.jobs a429.job) fun a516=>bnd (atI s426.left a429.job) fun a549=>some (.next (⟨(⟨s426.t.vars,s426.t.init,s426.t.goal,s426.t.jobs⟩:Tpl),s426.first,s426.last,(s426.left.set (a429.job:Int).toNat a516.dur),u503⟩:Wtr))) else (some (.next s426))) q261 0 s420) fun res424=>fin res424 fun (s572:Wtr)=>if (k277:Int) < q27.1 then (bnd (Fg s572) fun q575=>some (.next q575)) else (some (.next s572))) N286 s259.2) fun res273=>fin res273 fun (s587:Wtr)=>some (s587.out,(⟨0⟩:Err)))))
theorem Ma (x0:Tpl) (x1:List Lch):Le (Hl x0 x1) (EY x0 x1):=by
  unfold Hl EY
  repeat' (first|apply HB|apply KC|apply IL|apply Fh|apply Jt|apply Le.ite|apply Le.bnd|apply Le.fin|apply Le.rng|apply Le.rngN|apply Le.lop|exact Le.rf|intro _)
noncomputable def Hc  : Option Tpl :=
  some (⟨([2]:List Int),([0]:List Int),[(⟨0,0⟩:Fct)],[(⟨(⟨#[108,105,103,104,116]⟩:ByteArray),3,[(⟨0,0⟩:Fct)],[(⟨0,1⟩:Fct)],([]:List Fct),[(⟨0,1⟩:Fct)],[(⟨0,0⟩:Fct)]⟩:Job)]⟩:Tpl)
theorem MY  : Le (Hc ) (EZ ):=by
  unfold Hc EZ
  repeat' (first|apply Le.ite|apply Le.bnd|apply Le.fin|apply Le.rng|apply Le.rngN|apply Le.lop|exact Le.rf|intro _)
noncomputable def JC  : Option Bool :=
  bnd (Hc) fun q1=>bnd (EU q1) fun q25=>bnd (Hc) fun q61=>bnd (Hl q61 [(⟨0,0⟩:Lch)]) fun q93=>bnd (if q25.2.n=0 then (if q93.2.n=0 then (bnd (Hu q25.1.vars ([2,5,2,2,2,3]:List Int)) fun q119=>if q119=true then bnd (Hu q93.1 ([0,2,6,7,2,5,7,2,4,7,1]:List Int)) fun q132=>if q132=true then some true else some false else some false) else (some false)) else (some false):Option Bool) fun y107=>some y107
theorem Mu  : Le (JC ) (DW ):=by
  unfold JC DW
  repeat' (first|apply NJ|apply HB|apply Ma|apply MY|apply Le.ite|apply Le.bnd|apply Le.fin|apply Le.rng|apply Le.rngN|apply Le.lop|exact Le.rf|intro _)
set_option maxRecDepth 100000 in
theorem awake56:DW=some true:=Mu true (by kernel_rfl)
end
section
open Go Go.RowKit
theorem Kd {α ρ:Type} {f:Nat→α→Unit→Option (Ctl Unit ρ)} (p:α→Bool) (c:Nat→ρ):∀ (xs:List α) (k0:Nat),(∀ k a,xs[k]?=some a→f (k0 + k) a ()=if p a=true then some (.ret (c (k0 + k))) else some (.next ())) →
    (xs.any p=true→∃ k,rng f xs k0 ()=some (.ret (c k))∧k0≤k)∧(xs.any p=false→rng f xs k0 ()=some (.done ()))
  | [],k0,_=>⟨fun h=>by simp at h,fun _=>rfl⟩
  | x :: xs,k0,h=>by
    have h0:=h 0 x rfl
    rw [Nat.add_zero] at h0
    have ih:=Kd p c xs (k0 + 1) fun k a hk=>by
      have:=h (k + 1) a (by simpa using hk)
      rwa [show k0 + (k + 1)=k0 + 1 + k from by omega] at this
    by_cases hp:p x=true
    · rw [if_pos hp] at h0
      refine ⟨fun _=>⟨k0,by rw [rng,h0],Nat.le_refl _⟩,fun hf=>?_⟩
      simp [hp] at hf
    · rw [if_neg hp] at h0
      have hp':p x=false:=by simpa using hp
      refine ⟨fun ha=>?_,fun hf=>?_⟩
      · obtain ⟨k,h1,h2⟩:=ih.1 (by simpa [hp'] using ha)
        exact ⟨k,by rw [rng,h0];exact h1,by omega⟩
      · rw [rng,h0];exact ih.2 (by simpa [hp'] using hf)
theorem EE {α ρ β:Type} {f:Nat→α→Unit→Option (Ctl Unit ρ)} {xs:List α} {K:Fin Unit ρ→Option β} (p:α→Bool) (c:ρ) (h:∀ k a,xs[k]?=some a→f k a ()=if p a=true then some (.ret c) else some (.next ())) :
    bnd (rng f xs 0 ()) K=if xs.any p=true then K (.ret c) else K (.done ()):=by
  have:=Kd (f:=f) p (fun _=>c) xs 0 (fun k a hk=>by rw [Nat.zero_add];exact h k a hk)
  by_cases ha:xs.any p=true
  · obtain ⟨k,h1,_⟩:=this.1 ha
    rw [h1,Aj,if_pos ha]
  · rw [this.2 (by simpa using ha),Aj,if_neg ha]
theorem Kt {p q:Prop} [Decidable p] [Decidable q]:(if p then some true else if q then some true else some false:Option Bool)=some (decide p || decide q):=by
  by_cases hp:p
  · simp [hp]
  · by_cases hq:q<;>simp [hp,hq]
def lstJ (j:Job):List (List Fct):=[j.start,j.over,j.fin,j.atStart,j.atEnd]
def lsts (t:Tpl):List (List Fct):=t.goal :: t.jobs.flatMap lstJ
theorem NK {t:Tpl} (h:t.jobs.length≤30):CM t=some (lsts t):=by
  unfold CM
  have hl:∀ k,((t.jobs.take k).flatMap lstJ).length≤150:=fun k=>by
    have:∀ js:List Job,(js.flatMap lstJ).length=5 * js.length:=fun js=>by
      induction js with
      | nil=>rfl
      | cons j js ih=>rw [List.flatMap_cons,List.length_append,ih];simp [lstJ];omega
    rw [this,List.length_take];omega
  rw [CE (fun k=>t.goal :: (t.jobs.take k).flatMap lstJ) (by simp) (fun k x hk=>by
    have h1:=hl k
    rw [AW (by rw [List.length_cons];simp only [List.length_cons,List.length_nil];omega) (by rw [List.length_cons];simp only [List.length_cons,List.length_nil];omega),Aj,List.take_add_one,hk]
    simp [lstJ]),Aj,BQ,List.take_length]
  rfl
theorem NL (t:Tpl):FA t=CM t:=rfl
theorem NM (s:ByteArray):Gz s=Cz s:=rfl
theorem PF (s:ByteArray):∃ b,Cz s=some b:=by
  unfold Cz
  unfold rngN
  rw [EE (fun k:Nat=>match bytI s (k:Int) with|some n=>decide (n < 32) || decide (126 < n)|none=>false) false (fun k a hk=>by
    have ha:a < s.size:=by
      have:=List.mem_of_getElem? hk
      simpa using this
    simp only [Oj ha,Aj,Kt])]
  split
  · exact ⟨_,rfl⟩
  · rw [BQ]
    split
    · exact ⟨_,rfl⟩
    · exact ⟨_,rfl⟩
noncomputable def nmB (s:ByteArray):Bool:=(Cz s).getD false
theorem PG (s:ByteArray):Cz s=some (nmB s):=by
  obtain ⟨b,hb⟩:=PF s
  unfold nmB
  rw [hb];rfl
noncomputable def tck (t:Tpl):Int :=
  if (decide (64 < t.vars.length) || (decide (24 < t.jobs.length) || (lsts t).any fun l=>decide (64 < l.length)))=true then 5
  else if (t.vars.any fun n=>decide (n < 1) || decide (64 < n))=true then 1
  else if (t.jobs.any fun j=>decide (j.dur < 1) || decide (62 < j.dur))=true then 1
  else if bof (StateOk t.vars t.init)=true then
    (if ((lsts t).any fun l=>!bof (FactsOk t.vars l))=true then 2
     else if (t.jobs.any fun j=>!nmB j.name)=true then 8 else 0)
  else 2
theorem Il {α:Type} {f:Nat→α→Unit→Option (Ctl Unit Int)} {xs:List α} (p:α→Bool) (h:∀ k a,xs[k]?=some a→f k a ()=if p a=true then some (.ret (k:Int)) else some (.next ())) :
    (bnd (bnd (bnd (rng f xs 0 ()) fun res=>fin res fun _=>some (-1)) fun q=>if 0≤q then (some true) else (some false):Option Bool) fun y=>some y)=some (xs.any p):=by
  have:=Kd (f:=f) p (fun k=>(k:Int)) xs 0 (fun k a hk=>by rw [Nat.zero_add];exact h k a hk)
  by_cases ha:xs.any p=true
  · obtain ⟨k,h1,_⟩:=this.1 ha
    rw [h1,Aj,Sj,Aj,if_pos (by omega),Aj,ha]
  · rw [this.2 (by simpa using ha),Aj,BQ,Aj,if_neg (by omega),Aj]
    rw [Bool.not_eq_true] at ha
    rw [ha]
theorem contains1 (q:List (List Fct)):Ba q=some (q.any fun l=>decide (64 < l.length)):=by
  unfold Ba Bj
  exact Il _ fun k a hk=>by
    unfold CU
    by_cases h:64 < a.length
    · rw [if_pos (by omega:(64:Int) < (a.length:Int))];simp [h,Aj]
    · rw [if_neg (by omega:¬ (64:Int) < (a.length:Int))];simp [h,Aj]
theorem contains2 (q:List (List Fct)) (t:Tpl):Bb q t=some (q.any fun l=>!bof (FactsOk t.vars l)):=by
  unfold Bb Bk
  exact Il _ fun k a hk=>by
    unfold CV FX
    rw [Aj]
    cases bof (FactsOk t.vars a)<;>rfl
theorem MJ {t:Tpl} (h:t.jobs.length≤30):CN t=some ⟨tck t⟩:=by
  unfold CN
  rw [NK h,Aj,contains1,Aj]
  have e1:(if 64 < (t.vars.length:Int) then (some true) else (if 24 < (t.jobs.length:Int) then (some true) else (if ((lsts t).any fun l=>decide (64 < l.length))=true then some true else some false)):Option Bool)=some (decide (64 < t.vars.length) || (decide (24 < t.jobs.length) || (lsts t).any fun l=>decide (64 < l.length))):=by
    by_cases h1:64 < t.vars.length
    · rw [if_pos (by omega)];simp [h1]
    · rw [if_neg (by omega)]
      by_cases h2:24 < t.jobs.length
      · rw [if_pos (by omega)];simp [h2]
      · rw [if_neg (by omega)]
        cases (lsts t).any fun l=>decide (64 < l.length)<;>simp [h1,h2]
  rw [e1,Aj]
  unfold tck
  split
  · rfl
  rw [EE (fun n:Int=>decide (n < 1) || decide (64 < n)) ⟨1⟩ (fun k a hk=>by rw [Kt,Aj])]
  split
  · rfl
  rw [BQ,EE (fun j:Job=>decide (j.dur < 1) || decide (62 < j.dur)) ⟨1⟩ (fun k a hk=>by rw [Kt,Aj])]
  split
  · rfl
  rw [BQ]
  unfold Fz
  rw [Aj]
  cases bof (StateOk t.vars t.init) with
  | false=>rfl
  | true =>
    rw [Fd,Fd,contains2,Aj]
    cases (lsts t).any fun l=>!bof (FactsOk t.vars l) with
    | true=>rfl
    | false =>
      rw [Fu,Fu,Aj,Fu]
      rw [EE (fun j:Job=>!nmB j.name) ⟨8⟩ (fun k a hk=>by
        rw [PG,Aj]
        cases nmB a.name<;>rfl)]
      split<;>rfl
theorem PH {t:Tpl} (h:t.jobs.length≤30):FB t=some (tck t):=by
  unfold FB
  rw [NL,NK h]
  unfold tck
  have e1:(if 64 < (t.vars.length:Int) then (some true) else (if 24 < (t.jobs.length:Int) then (some true) else (some false)):Option Bool)=some (decide (64 < t.vars.length) || decide (24 < t.jobs.length)):=by
    by_cases h1:64 < t.vars.length
    · rw [if_pos (by omega)];simp [h1]
    · rw [if_neg (by omega)]
      by_cases h2:24 < t.jobs.length
      · rw [if_pos (by omega)];simp [h2]
      · rw [if_neg (by omega)];simp [h1,h2]
  rw [e1,Aj,← Bool.or_assoc]
  cases decide (64 < t.vars.length) || decide (24 < t.jobs.length) with
  | true=>rfl
  | false =>
    rw [Fu,Bool.false_or,Aj]
    rw [EE (fun l:List Fct=>decide (64 < l.length)) 5 (fun k a hk=>by
      by_cases h:64 < a.length
      · rw [if_pos (by omega:(64:Int) < (a.length:Int))];simp [h]
      · rw [if_neg (by omega:¬ (64:Int) < (a.length:Int))];simp [h])]
    split
    · rfl
    rw [BQ,EE (fun n:Int=>decide (n < 1) || decide (64 < n)) 1 (fun k a hk=>by rw [Kt,Aj])]
    split
    · rfl
    rw [BQ,EE (fun j:Job=>decide (j.dur < 1) || decide (62 < j.dur)) 1 (fun k a hk=>by rw [Kt,Aj])]
    split
    · rfl
    rw [BQ]
    unfold FW
    rw [Aj]
    cases bof (StateOk t.vars t.init) with
    | false=>rfl
    | true =>
      rw [Fd,Fd,Aj]
      rw [EE (fun l:List Fct=>!bof (FactsOk t.vars l)) 2 (fun k a hk=>by
        unfold Dt
        rw [Aj]
        cases bof (FactsOk t.vars a)<;>rfl)]
      split
      · rfl
      rw [BQ,EE (fun j:Job=>!nmB j.name) 8 (fun k a hk=>by
        rw [NM,PG,Aj]
        cases nmB a.name<;>rfl)]
      split<;>rfl
structure TplOk (t:Tpl):Prop where
  nv:t.vars.length≤64
  nj:t.jobs.length≤24
  doms:∀ n∈t.vars,1≤n∧n≤64
  durs:∀ j∈t.jobs,1≤j.dur∧j.dur≤62
  init:StateOk t.vars t.init
  lists:∀ l∈lsts t,l.length≤64∧FactsOk t.vars l
theorem PI {t:Tpl} (h:tck t=0):TplOk t:=by
  unfold tck at h
  split at h
  · cases h
  rename_i h1
  split at h
  · cases h
  rename_i h2
  split at h
  · cases h
  rename_i h3
  split at h
  · rename_i h4
    split at h
    · cases h
    rename_i h5
    simp only [Bool.or_eq_true,decide_eq_true_eq,List.any_eq_true,not_or,not_exists,not_and] at h1 h2 h3
    simp only [List.any_eq_true,not_exists,not_and,Bool.not_eq_true',Bool.not_eq_false] at h5
    refine ⟨by omega,by omega,fun n hn=>?_,fun j hj=>?_,HV.1 h4,fun l hl=>⟨?_,HV.1 (h5 l hl)⟩⟩
    · have:=h2 n hn;omega
    · have:=h3 j hj;omega
    · have:=h1.2.2 l hl;omega
  · cases h
end
section
open Go Go.RowKit
def effsOn (s:List Int):List Eff→List Int→List Int
  | [],out=>out
  | e :: r,out=>effsOn s r (if holdsB e.cond s=true then out.set e.var.toNat e.val else out)
def succ (o:Opr) (s:List Int):List Int:=effsOn s o.effs s
end
end Go.Proofs.YtjohlgjklmagnaaGreatDoor

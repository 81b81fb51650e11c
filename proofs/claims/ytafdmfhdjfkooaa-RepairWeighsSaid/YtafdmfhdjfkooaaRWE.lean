/- RepairWeighs returns true for every task, every list of texts and every two weights, and these read behind the call as before. No conditions. -/
import Derived.Test.YtafdmfhdjfkooaaRWD
import Derived.Test.YtafdmfhdjfkooaaRows
set_option linter.unusedVariables false
set_option linter.unusedSimpArgs false
namespace Go.Proofs.Ytafdmfhdjfkooaa
open Go Go.RowKit
section
open Go Go.RowKit
attribute [local irreducible] ewp owp hwp hwq hws Ev Evg Fn retPost loud loudS Res1
attribute [local irreducible] hwx loudX hwz zNext
noncomputable def Bx (x0:Tsk) (x1:List ByteArray) (x2:Int) (x3:Int):Option (Rsl×Int×Err) :=
  bnd (Cq x0 x1 x2) fun q34=>if q34.2.2.n≠0 then (some ((⟨0,([]:List Int),0,0⟩:Rsl),0,(⟨q34.2.2.n⟩:Err))) else (bnd (Bz q34.1 x3) fun q77=>if q77.2.n≠0 then (some ((⟨0,([]:List Int),0,0⟩:Rsl),0,(⟨q77.2.n⟩:Err))) else (if q77.1.verdict≠1 then (some (q77.1,0,(⟨0⟩:Err))) else (bnd (rng (ρ:=Rsl×Int×Err) (fun (k116:Nat) (a117:Int) (s114:(List Int)×(List ByteArray))=>bnd (atI q34.2.1 a117) fun a143=>if 0≤a143.op then (bnd (atI x0.ops a143.op) fun a156=>bnd (appI 8 s114.1 ([a143.op]:List Int)) fun u158=>bnd (appI 16 s114.2 [a156.name]) fun u160=>some (.next (u158,u160))) else (some (.next (s114.1,s114.2)))) q77.1.plan 0 (([]:List Int),([]:List ByteArray))) fun res112=>fin res112 fun (s269:(List Int)×(List ByteArray))=>bnd (Cl s269.2 x1) fun q273=>some ((⟨q77.1.verdict,s269.1,q77.1.cost,q77.1.expanded⟩:Rsl),q273,(⟨0⟩:Err)))))
theorem EF {w:World} {A:Nat→Prop} (hA:∀ k,A k→k < w.heap.size) {vx0:Value} {x0:Tsk} (hx0:Vb w A vx0 x0) {vx1:Value} {x1:List ByteArray} (hx1:Vb w A vx1 x1) {x2:Int} (rx2:inI64 x2) {x3:Int} (rx3:inI64 x3) {r:Rsl×Int×Err} (hm:Bx x0 x1 x2 x3=some r) :
    Fn Try.prog 14 [vx0,vx1,(.int .i64 x2),(.int .i64 x3)] w fun v w'=>Ext w w'∧T3 w' (upA A w w') v r:=by
 obtain ⟨O,hB,hA0⟩:=enter hA
 replace hx0:=hx0.mono hA0
 obtain ⟨cs5,rfl,v6,v7,v8,v9,rfl,h10,h13,h16,h19⟩:=hx0
 obtain ⟨A11,c12,rfl⟩:=h10.form
 obtain ⟨A14,c15,rfl⟩:=h13.form
 obtain ⟨A17,c18,rfl⟩:=h16.form
 obtain ⟨A20,c21,rfl⟩:=h19.form
 replace hx1:=hx1.mono hA0
 obtain ⟨A22,c23,rfl⟩:=hx1.form
 refine AL Try.func14 rfl Try.ntmps14 rfl ?_
 unfold Bx at hm
 refine Ah (Ae (l_box 2 O rfl rfl fun g24 w25 O26 S27 h28=>?_))
 replace h28:Lc 2 w25 O26 g24 32 [(.slice A11 x0.vars.length c12),(.slice A14 x0.init.length c15),(.slice A17 x0.goal.length c18),(.slice A20 x0.ops.length c21)]:=h28
 refine BM 3 O26 rfl fun g29 w30 O31 S32 h33=>?_
 refine o_as rfl rfl (o_as rfl rfl (o_z ?_))
 refine Ah (Ae ?_)
 replace h28:=h28.st S32
 refine o_la (hl:=rfl) (hc:=(h28.1).cellsAt) rfl rfl ?_
 refine o_mv rfl rfl (o_mv rfl rfl ?_)
 obtain ⟨q34,e35,hm⟩:=bs hm
 replace hx1:=(hx1.st S27).st S32
 replace h10:=(h10.st S27).st S32
 replace h13:=(h13.st S27).st S32
 replace h16:=(h16.st S27).st S32
 replace h19:=(h19.st S27).st S32
 refine Ee (O:=O31) (R:=fun w' F v=>T3 w' F v q34) (Ih Fr.lt (Vb.ofAgg (cs:=[(.slice A11 x0.vars.length c12),(.slice A14 x0.init.length c15),(.slice A17 x0.goal.length c18),(.slice A20 x0.ops.length c21)]) (x:=x0) rfl ⟨_,_,_,_,rfl,h10,h13,h16,h19⟩) hx1 rx2 e35) rfl rfl fun v40 w36 O37 S38 h39=>?_
 obtain ⟨v41,v42,v43,rfl,h44,h45,h46⟩:=h39
 obtain ⟨cs47,rfl,v48,v49,v50,v51,rfl,h52,h55,h58,h61⟩:=h44
 obtain ⟨A53,c54,rfl⟩:=h52.form
 obtain ⟨A56,c57,rfl⟩:=h55.form
 obtain ⟨A59,c60,rfl⟩:=h58.form
 obtain ⟨A62,c63,rfl⟩:=h61.form
 obtain ⟨A64,c65,rfl⟩:=h45.form
 obtain ⟨rfl,r66⟩:=h46.err
 refine o_mv rfl rfl (o_ex rfl rfl rfl (o_ex rfl rfl rfl (o_ex rfl rfl rfl (BM 4 O37 rfl fun g67 w68 O69 S70 h71=>?_))))
 refine AO h71 rfl rfl rfl (Nat.le_of_ble_eq_true rfl) (by first|exact allOne rfl|simp [Value.cells,Value.oneCell',AM]) fun w72 S73 h71=>?_
 replace h71:Lc 4 w72 O69 g67 32 [(.slice A53 q34.1.vars.length c54),(.slice A56 q34.1.init.length c57),(.slice A59 q34.1.goal.length c60),(.slice A62 q34.1.ops.length c63)]:=h71
 refine o_as rfl rfl (o_as rfl rfl (o_z ?_))
 refine Ah (Ah (Ae (o_mv rfl rfl (o_rnS rfl rfl (fun c74=>?_) fun c74=>?_))))
 ·
  replace hm:=ip hm c74
  refine o_z ?_
  refine Ar rfl (Ah (Ae (o_bd rfl rfl rfl ?_)))
  refine o_mv rfl rfl ?_
  replace h33:=((h33.st S38).st S70).st S73
  refine AO h33 rfl rfl rfl (Nat.le_of_ble_eq_true rfl) (by first|exact allOne rfl|simp [Value.cells,Value.oneCell',AM]) fun w75 S76 h33=>?_
  replace h33:Lc 3 w75 O69 g29 37 [(.int .i64 0),(.slice none 0 0),(.int .i64 0),(.int .i64 0)]:=h33
  refine o_as rfl rfl (o_as rfl rfl (o_z ?_))
  refine Au ?_
  obtain rfl:=sm hm
  replace hB:=(((((hB.st S27).st S32).st S38).st S70).st S73).st S76
  exact ret3 rfl (BE (cs:=[(.int .i64 0),(.slice none 0 0),(.int .i64 0),(.int .i64 0)]) rfl rfl h33.1.cellsAt) (AG rfl) (AG rfl) ⟨hB.ext,_,_,_,rfl,(Vb.mono (F:=Fr 0 w75 O69) (Vb.ofAgg (cs:=[(.int .i64 0),(.slice none 0 0),(.int .i64 0),(.int .i64 0)]) (x:=(⟨0,([]:List Int),0,0⟩:Rsl)) rfl ⟨_,rfl,(Vb.nil _ _),(show inI64 0 from by decide),(show inI64 0 from by decide),(show inI64 0 from by decide)⟩) hB.out),(vInt (show inI64 (0) from by decide)),(vErr r66)⟩
 ·
  replace hm:=im hm c74
  refine o_z ?_
  refine Aj rfl (Am (Ah (Ae (o_la (hl:=rfl) (hc:=(h71.1).cellsAt) rfl rfl ?_))))
  refine o_mv rfl rfl ?_
  obtain ⟨q77,e78,hm⟩:=bs hm
  replace h52:=(h52.st S70).st S73
  replace h55:=(h55.st S70).st S73
  replace h58:=(h58.st S70).st S73
  replace h61:=(h61.st S70).st S73
  refine Ee (O:=O69) (R:=fun w' F v=>T2 w' F v q77) (HN Fr.lt (Vb.ofAgg (cs:=[(.slice A53 q34.1.vars.length c54),(.slice A56 q34.1.init.length c57),(.slice A59 q34.1.goal.length c60),(.slice A62 q34.1.ops.length c63)]) (x:=q34.1) rfl ⟨_,_,_,_,rfl,h52,h55,h58,h61⟩) rx3 e78) rfl rfl fun v83 w79 O80 S81 h82=>?_
  obtain ⟨v84,v85,rfl,h86,h87⟩:=h82
  obtain ⟨cs88,rfl,v89,rfl,h90,r93,r94,r95⟩:=h86
  obtain ⟨A91,c92,rfl⟩:=h90.form
  obtain ⟨rfl,r96⟩:=h87.err
  refine o_mv rfl rfl (o_ex rfl rfl rfl (o_ex rfl rfl rfl (BM 5 O80 rfl fun g97 w98 O99 S100 h101=>?_)))
  refine AO h101 rfl rfl rfl (Nat.le_of_ble_eq_true rfl) (by first|exact allOne rfl|simp [Value.cells,Value.oneCell',AM]) fun w102 S103 h101=>?_
  replace h101:Lc 5 w102 O99 g97 37 [(.int .i64 q77.1.verdict),(.slice A91 q77.1.plan.length c92),(.int .i64 q77.1.cost),(.int .i64 q77.1.expanded)]:=h101
  refine o_as rfl rfl (o_z ?_)
  refine Ah (Ah (Ae (o_mv rfl rfl (o_rnS rfl rfl (fun c104=>?_) fun c104=>?_))))
  ·
   replace hm:=ip hm c104
   refine o_z ?_
   refine Ar rfl (Ah (Ae (o_bd rfl rfl rfl ?_)))
   refine o_mv rfl rfl ?_
   replace h33:=(((((h33.st S38).st S70).st S73).st S81).st S100).st S103
   refine AO h33 rfl rfl rfl (Nat.le_of_ble_eq_true rfl) (by first|exact allOne rfl|simp [Value.cells,Value.oneCell',AM]) fun w105 S106 h33=>?_
   replace h33:Lc 3 w105 O99 g29 37 [(.int .i64 0),(.slice none 0 0),(.int .i64 0),(.int .i64 0)]:=h33
   refine o_as rfl rfl (o_as rfl rfl (o_z ?_))
   refine Au ?_
   obtain rfl:=sm hm
   replace hB:=((((((((hB.st S27).st S32).st S38).st S70).st S73).st S81).st S100).st S103).st S106
   exact ret3 rfl (BE (cs:=[(.int .i64 0),(.slice none 0 0),(.int .i64 0),(.int .i64 0)]) rfl rfl h33.1.cellsAt) (AG rfl) (AG rfl) ⟨hB.ext,_,_,_,rfl,(Vb.mono (F:=Fr 0 w105 O99) (Vb.ofAgg (cs:=[(.int .i64 0),(.slice none 0 0),(.int .i64 0),(.int .i64 0)]) (x:=(⟨0,([]:List Int),0,0⟩:Rsl)) rfl ⟨_,rfl,(Vb.nil _ _),(show inI64 0 from by decide),(show inI64 0 from by decide),(show inI64 0 from by decide)⟩) hB.out),(vInt (show inI64 (0) from by decide)),(vErr r96)⟩
  ·
   replace hm:=im hm c104
   refine o_z ?_
   refine Aj rfl (Am (Ah (Ah (Ae (o_fa rfl rfl (o_ld (hc:=Blk.cell (i:=0) (h101.1) rfl) rfl rfl ?_))))))
   refine o_neS rfl rfl rfl (fun c107=>?_) fun c107=>?_
   ·
    replace hm:=ip hm c107
    refine o_z ?_
    refine Ar rfl (Ah (Ae (o_la (hl:=rfl) (hc:=(h101.1).cellsAt) rfl rfl ?_)))
    replace h33:=(((((h33.st S38).st S70).st S73).st S81).st S100).st S103
    refine AO h33 rfl rfl rfl (Nat.le_of_ble_eq_true rfl) (by first|exact allOne rfl|simp [Value.cells,Value.oneCell',AM]) fun w108 S109 h33=>?_
    replace h33:Lc 3 w108 O99 g29 37 [(.int .i64 q77.1.verdict),(.slice A91 q77.1.plan.length c92),(.int .i64 q77.1.cost),(.int .i64 q77.1.expanded)]:=h33
    refine o_as rfl rfl (o_as rfl rfl (o_z ?_))
    refine Au ?_
    obtain rfl:=sm hm
    replace hB:=((((((((hB.st S27).st S32).st S38).st S70).st S73).st S81).st S100).st S103).st S109
    replace h90:=((h90.st S100).st S103).st S109
    exact ret3 rfl (BE (cs:=[(.int .i64 q77.1.verdict),(.slice A91 q77.1.plan.length c92),(.int .i64 q77.1.cost),(.int .i64 q77.1.expanded)]) rfl rfl h33.1.cellsAt) (AG rfl) (AG rfl) ⟨hB.ext,_,_,_,rfl,(Vb.mono (F:=Fr 0 w108 O99) (Vb.ofAgg (cs:=[(.int .i64 q77.1.verdict),(.slice A91 q77.1.plan.length c92),(.int .i64 q77.1.cost),(.int .i64 q77.1.expanded)]) (x:=q77.1) rfl ⟨_,rfl,h90,r93,r94,r95⟩) hB.out),(vInt (show inI64 (0) from by decide)),(vErr (show inI64 0 from by decide))⟩
   ·
    replace hm:=im hm c107
    refine o_z ?_
    refine Aj rfl (Am (Ah (Ae (o_as rfl rfl (o_z ?_)))))
    refine Ah (Ae (o_as rfl rfl (o_z ?_)))
    refine Ah (Ah (Ae (o_fa rfl rfl (o_ld (hc:=Blk.cell (i:=1) (h101.1) rfl) rfl rfl ?_))))
    refine o_ln rfl rfl ?_
    replace h90:=(h90.st S100).st S103
    have l111:q77.1.plan.length≤9223372036854775807:=Nat.le_trans h90.len.2.1 h90.len.2.2
    have r110:inI64 (q77.1.plan.length:Int):=rngNat l111
    refine o_mv rfl rfl (o_z ?_)
    obtain ⟨res112,hL113,hm⟩:=bs hm
    refine AN (aft res112 (fun (s114:(List Int)×(List ByteArray)) (x115:(Option Addr×Nat)×(Option Addr×Nat))=>[(1,(.slice A22 x1.length c23)),(8,(.pointer (some ⟨g29,0,none⟩))),(14,(.pointer (some ⟨g97,0,none⟩))),(15,(.slice x115.1.1 s114.1.length x115.1.2)),(16,(.slice x115.2.1 s114.2.length x115.2.2))]) (fun s114 x115 w'=>∃ O':Lab,Bs w A w' O'∧Vb w' (Fr 0 w' O') (.slice A22 x1.length c23) x1∧Lc 3 w' O' g29 37 [(.int .i64 0),(.slice none 0 0),(.int .i64 0),(.int .i64 0)]∧Lc 5 w' O' g97 37 [(.int .i64 q77.1.verdict),(.slice A91 q77.1.plan.length c92),(.int .i64 q77.1.cost),(.int .i64 q77.1.expanded)]∧Vb w' (Fr 0 w' O') (.slice A91 q77.1.plan.length c92) q77.1.plan∧Rw 7 w' O' 3 (.slice x115.1.1 s114.1.length x115.1.2) s114.1∧Rw 9 w' O' 9 (.slice x115.2.1 s114.2.length x115.2.2) s114.2)) ?_ ?_
    ·
     refine Al ?_
     replace hB:=(((((((hB.st S27).st S32).st S38).st S70).st S73).st S81).st S100).st S103
     replace hx1:=(((((hx1.st S38).st S70).st S73).st S81).st S100).st S103
     replace h10:=(((((h10.st S38).st S70).st S73).st S81).st S100).st S103
     replace h13:=(((((h13.st S38).st S70).st S73).st S81).st S100).st S103
     replace h16:=(((((h16.st S38).st S70).st S73).st S81).st S100).st S103
     replace h19:=(((((h19.st S38).st S70).st S73).st S81).st S100).st S103
     replace h28:=(((((h28.st S38).st S70).st S73).st S81).st S100).st S103
     replace h33:=(((((h33.st S38).st S70).st S73).st S81).st S100).st S103
     replace h45:=((((h45.st S70).st S73).st S81).st S100).st S103
     refine Cg (σ:=(List Int)×(List ByteArray)) (X:=(Option Addr×Nat)×(Option Addr×Nat)) (q77.1.plan.length) hL113 rfl l111 (fun (s114:(List Int)×(List ByteArray)) (x115:(Option Addr×Nat)×(Option Addr×Nat))=>[(1,(.slice A22 x1.length c23)),(4,(.pointer (some ⟨g24,0,none⟩))),(8,(.pointer (some ⟨g29,0,none⟩))),(12,(.slice A64 q34.2.1.length c65)),(14,(.pointer (some ⟨g97,0,none⟩))),(15,(.slice x115.1.1 s114.1.length x115.1.2)),(16,(.slice x115.2.1 s114.2.length x115.2.2)),(47,(.slice A91 q77.1.plan.length c92))]) _ (fun s114 x115 w'=>∃ O':Lab,Bs w A w' O'∧Vb w' (Fr 0 w' O') (.slice A22 x1.length c23) x1∧Lc 2 w' O' g24 32 [(.slice A11 x0.vars.length c12),(.slice A14 x0.init.length c15),(.slice A17 x0.goal.length c18),(.slice A20 x0.ops.length c21)]∧Vb w' (Fr 0 w' O') (.slice A11 x0.vars.length c12) x0.vars∧Vb w' (Fr 0 w' O') (.slice A14 x0.init.length c15) x0.init∧Vb w' (Fr 0 w' O') (.slice A17 x0.goal.length c18) x0.goal∧Vb w' (Fr 0 w' O') (.slice A20 x0.ops.length c21) x0.ops∧Lc 3 w' O' g29 37 [(.int .i64 0),(.slice none 0 0),(.int .i64 0),(.int .i64 0)]∧Vb w' (Fr 0 w' O') (.slice A64 q34.2.1.length c65) q34.2.1∧Lc 5 w' O' g97 37 [(.int .i64 q77.1.verdict),(.slice A91 q77.1.plan.length c92),(.int .i64 q77.1.cost),(.int .i64 q77.1.expanded)]∧Vb w' (Fr 0 w' O') (.slice A91 q77.1.plan.length c92) q77.1.plan∧Rw 7 w' O' 3 (.slice x115.1.1 s114.1.length x115.1.2) s114.1∧Rw 9 w' O' 9 (.slice x115.2.1 s114.2.length x115.2.2) s114.2) _ ((none,0),(none,0)) ⟨O99,hB,hx1,h28,h10,h13,h16,h19,h33,h45,h101,h90,(Rw.nil 7 (by decide)),(Rw.nil 9 (by decide))⟩ ⟨rfl,rfl,rfl,rfl,rfl,rfl,rfl,rfl,rfl,rfl,trivial⟩ (fun _ _=>⟨rfl,rfl⟩) (fun _ _=>⟨rfl,rfl,rfl,rfl,rfl,trivial⟩) (fun _ _ _ ⟨O',hB,hx1,h28,h10,h13,h16,h19,h33,h45,h101,h90,h131,h133⟩=>⟨O',hB,hx1,h33,h101,h90,h131,h133⟩) ⟨rfl,rfl,rfl⟩ ⟨rfl,rfl⟩ ?_
     rintro k116 a117 s114 x115 w118 cc120 hx121 ⟨O119,hB,hx1,h28,h10,h13,h16,h19,h33,h45,h101,h90,h131,h133⟩ hf122 hret123 hbrk124
     have rk116:inI64 (k116:Int):=rngK hx121 l111
     refine Ah (Ae ?_)
     obtain ⟨b135,o136,ce137,hA138,hl139,hd140,rfl,r142⟩:=h90.elem' hx121
     refine o_iaE (hA:=hA138) (hj:=rfl) (hlt:=hl139) rfl rfl rfl ?_
     refine o_ld (hc:=cat0 hd140) rfl rfl ?_
     refine o_as rfl rfl (o_z ?_)
     refine Ah (Ae (o_mv rfl rfl (o_mv rfl rfl ?_)))
     obtain ⟨a143,e144,hf122⟩:=bs hf122
     obtain ⟨p146,x145⟩:=AP e144
     obtain ⟨b147,o148,ce149,hA150,hl151,hd152,rfl,r154⟩:=h45.elem' x145
     refine o_iaE (hA:=hA150) (hj:=(Int.toNat_of_nonneg p146).symm) (hlt:=hl151) rfl rfl rfl ?_
     refine o_fa rfl rfl (o_ld (hc:=cat0 hd152) rfl rfl ?_)
     refine o_as rfl rfl (o_z ?_)
     refine Ah (Ae (o_mv rfl rfl (o_geS rfl rfl rfl (fun c155=>?_) fun c155=>?_)))
     ·
      replace hf122:=ip hf122 c155
      refine o_z ?_
      refine Ar rfl ?_
      obtain ⟨a156,e157,hf122⟩:=bs hf122
      obtain ⟨u158,e159,hf122⟩:=bs hf122
      obtain ⟨u160,e161,hf122⟩:=bs hf122
      refine Bv [(3,[7]),(12,[9])] O119 ?_
      refine x_pre (fuel:=13) [] [(0,true),(1,true)] (by kernel_rfl) rfl ?_
      refine h_mv rfl rfl rfl (h_mv rfl rfl rfl (AK ?_))
      refine x_pre (fuel:=6) [7] [(4,true),(5,true),(6,true),(7,true),(8,true),(9,true),(10,true)] (by kernel_rfl) rfl ?_
      refine h_mv rfl rfl rfl (h_fa rfl rfl rfl (h_ldC (hc:=fun w' ⟨O',hq⟩=>Blk.cell (i:=3) ((h28.st hq (by decide)).1) rfl) rfl rfl rfl ?_))
      refine h_mv rfl rfl rfl ?_
      obtain ⟨p163,x162⟩:=AP e157
      obtain ⟨b164,o165,ce166,hA167,hF170,hl168,hd169,v171,v172,rfl,h173,h176,r179,z180⟩:=h19.elem x162
      obtain ⟨A174,c175,rfl⟩:=h173.form
      obtain ⟨A177,c178,rfl⟩:=h176.form
      refine h_iaE (hA:=hA167) (hj:=(Int.toNat_of_nonneg p163).symm) (hlt:=hl168) rfl rfl rfl rfl ?_
      refine h_fa rfl rfl rfl (h_ldC (hc:=fun w' ⟨O',hq⟩=>cat0 (Be (hq.agree (i:=0) (by decide)) hF170 hd169)) rfl rfl rfl ?_)
      refine AK ?_
      refine x_two (i:=2) (j:=11) (by kernel_rfl) rfl rfl ?_ ?_
      ·
       refine Bj 6 (by decide) O119 (xs:=(([a143.op]:List Int):List Int)) rfl rfl rfl rfl ⟨(vInt r154),trivial⟩ (by decide) (by decide) rfl fun g181 w182 O183 S184 h185=>?_
       have hZ:=S184.lst [] (fun _ h=>h.elim)
       refine x_go [(3,[7]),(12,[9])] hZ (by kernel_rfl) ?_
       refine x_two (i:=3) (j:=11) (by kernel_rfl) rfl rfl ?_ ?_
       ·
        obtain ⟨e159,e187,e188⟩:=Bb e159
        replace h131:=h131.st S184
        refine BL rfl h131 (h185.rd) rfl rfl (by decide) e187 e188 rfl fun A189 c190 w191 O192 S193 h194=>?_
        rw [← e159] at h194 ⊢
        have hZ:=S193.lst [7] (fun _ h=>by cases h;decide)
        refine x_go [(12,[9])] hZ (by kernel_rfl) ?_
        refine x_one (i:=11) (by kernel_rfl) rfl ?_
        refine Bj 8 (by decide) O192 (xs:=([a156.name]:List ByteArray)) rfl rfl rfl rfl ⟨(vStr z180),trivial⟩ (by decide) (by decide) rfl fun g196 w197 O198 S199 h200=>?_
        have hZ:=S199.lst [] (fun _ h=>h.elim)
        refine x_go [(12,[9])] hZ (by kernel_rfl) ?_
        refine x_one (i:=12) (by kernel_rfl) rfl ?_
        obtain ⟨e161,e202,e203⟩:=Bb e161
        replace h133:=((h133.st S184).st S193).st S199
        refine BL rfl h133 (h200.rd) rfl rfl (by decide) e202 e203 rfl fun A204 c205 w206 O207 S208 h209=>?_
        rw [← e161] at h209 ⊢
        have hZ:=S208.lst [9] (fun _ h=>by cases h;decide)
        refine x_go [] hZ (by kernel_rfl) ?_
        refine x_pre (fuel:=0) [] [(13,true),(14,true)] (by kernel_rfl) rfl ?_
        refine h_as rfl rfl rfl (h_as rfl rfl rfl (AK ?_))
        refine x_nil (by kernel_rfl) ?_
        obtain rfl:=sm hf122
        refine (?_:Exists _)
        replace hB:=(((hB.st S184).st S193).st S199).st S208
        replace hx1:=(((hx1.st S184).st S193).st S199).st S208
        replace h10:=(((h10.st S184).st S193).st S199).st S208
        replace h13:=(((h13.st S184).st S193).st S199).st S208
        replace h16:=(((h16.st S184).st S193).st S199).st S208
        replace h19:=(((h19.st S184).st S193).st S199).st S208
        replace h28:=(((h28.st S184).st S193).st S199).st S208
        replace h33:=(((h33.st S184).st S193).st S199).st S208
        replace h45:=(((h45.st S184).st S193).st S199).st S208
        replace h90:=(((h90.st S184).st S193).st S199).st S208
        replace h101:=(((h101.st S184).st S193).st S199).st S208
        replace h194:=(h194.st S199).st S208
        exact ⟨_,((A189,c190),(A204,c205)),rfl,⟨rfl,rfl,rfl,rfl,rfl,rfl,rfl,rfl,rfl,rfl,trivial⟩,_,hB,hx1,h28,h10,h13,h16,h19,h33,h45,h101,h90,h194,h209⟩
       ·
        refine Bj 8 (by decide) O183 (xs:=([a156.name]:List ByteArray)) rfl rfl rfl rfl ⟨(vStr z180),trivial⟩ (by decide) (by decide) rfl fun g211 w212 O213 S214 h215=>?_
        have hZ:=S214.lst [] (fun _ h=>h.elim)
        refine x_go [(3,[7]),(12,[9])] hZ (by kernel_rfl) ?_
        refine x_one (i:=3) (by kernel_rfl) rfl ?_
        obtain ⟨e159,e217,e218⟩:=Bb e159
        replace h131:=(h131.st S184).st S214
        replace h185:=h185.st S214
        refine BL rfl h131 (h185.rd) rfl rfl (by decide) e217 e218 rfl fun A219 c220 w221 O222 S223 h224=>?_
        rw [← e159] at h224 ⊢
        have hZ:=S223.lst [7] (fun _ h=>by cases h;decide)
        refine x_go [(12,[9])] hZ (by kernel_rfl) ?_
        refine x_one (i:=12) (by kernel_rfl) rfl ?_
        obtain ⟨e161,e226,e227⟩:=Bb e161
        replace h133:=((h133.st S184).st S214).st S223
        replace h215:=h215.st S223
        refine BL rfl h133 (h215.rd) rfl rfl (by decide) e226 e227 rfl fun A228 c229 w230 O231 S232 h233=>?_
        rw [← e161] at h233 ⊢
        have hZ:=S232.lst [9] (fun _ h=>by cases h;decide)
        refine x_go [] hZ (by kernel_rfl) ?_
        refine x_pre (fuel:=0) [] [(13,true),(14,true)] (by kernel_rfl) rfl ?_
        refine h_as rfl rfl rfl (h_as rfl rfl rfl (AK ?_))
        refine x_nil (by kernel_rfl) ?_
        obtain rfl:=sm hf122
        refine (?_:Exists _)
        replace hB:=(((hB.st S184).st S214).st S223).st S232
        replace hx1:=(((hx1.st S184).st S214).st S223).st S232
        replace h10:=(((h10.st S184).st S214).st S223).st S232
        replace h13:=(((h13.st S184).st S214).st S223).st S232
        replace h16:=(((h16.st S184).st S214).st S223).st S232
        replace h19:=(((h19.st S184).st S214).st S223).st S232
        replace h28:=(((h28.st S184).st S214).st S223).st S232
        replace h33:=(((h33.st S184).st S214).st S223).st S232
        replace h45:=(((h45.st S184).st S214).st S223).st S232
        replace h90:=(((h90.st S184).st S214).st S223).st S232
        replace h101:=(((h101.st S184).st S214).st S223).st S232
        replace h224:=h224.st S232
        exact ⟨_,((A219,c220),(A228,c229)),rfl,⟨rfl,rfl,rfl,rfl,rfl,rfl,rfl,rfl,rfl,rfl,trivial⟩,_,hB,hx1,h28,h10,h13,h16,h19,h33,h45,h101,h90,h224,h233⟩
      ·
       refine Bj 8 (by decide) O119 (xs:=([a156.name]:List ByteArray)) rfl rfl rfl rfl ⟨(vStr z180),trivial⟩ (by decide) (by decide) rfl fun g235 w236 O237 S238 h239=>?_
       have hZ:=S238.lst [] (fun _ h=>h.elim)
       refine x_go [(3,[7]),(12,[9])] hZ (by kernel_rfl) ?_
       refine x_one (i:=2) (by kernel_rfl) rfl ?_
       refine Bj 6 (by decide) O237 (xs:=(([a143.op]:List Int):List Int)) rfl rfl rfl rfl ⟨(vInt r154),trivial⟩ (by decide) (by decide) rfl fun g241 w242 O243 S244 h245=>?_
       have hZ:=S244.lst [] (fun _ h=>h.elim)
       refine x_go [(3,[7]),(12,[9])] hZ (by kernel_rfl) ?_
       refine x_one (i:=3) (by kernel_rfl) rfl ?_
       obtain ⟨e159,e247,e248⟩:=Bb e159
       replace h131:=(h131.st S238).st S244
       refine BL rfl h131 (h245.rd) rfl rfl (by decide) e247 e248 rfl fun A249 c250 w251 O252 S253 h254=>?_
       rw [← e159] at h254 ⊢
       have hZ:=S253.lst [7] (fun _ h=>by cases h;decide)
       refine x_go [(12,[9])] hZ (by kernel_rfl) ?_
       refine x_one (i:=12) (by kernel_rfl) rfl ?_
       obtain ⟨e161,e256,e257⟩:=Bb e161
       replace h133:=((h133.st S238).st S244).st S253
       replace h239:=(h239.st S244).st S253
       refine BL rfl h133 (h239.rd) rfl rfl (by decide) e256 e257 rfl fun A258 c259 w260 O261 S262 h263=>?_
       rw [← e161] at h263 ⊢
       have hZ:=S262.lst [9] (fun _ h=>by cases h;decide)
       refine x_go [] hZ (by kernel_rfl) ?_
       refine x_pre (fuel:=0) [] [(13,true),(14,true)] (by kernel_rfl) rfl ?_
       refine h_as rfl rfl rfl (h_as rfl rfl rfl (AK ?_))
       refine x_nil (by kernel_rfl) ?_
       obtain rfl:=sm hf122
       refine (?_:Exists _)
       replace hB:=(((hB.st S238).st S244).st S253).st S262
       replace hx1:=(((hx1.st S238).st S244).st S253).st S262
       replace h10:=(((h10.st S238).st S244).st S253).st S262
       replace h13:=(((h13.st S238).st S244).st S253).st S262
       replace h16:=(((h16.st S238).st S244).st S253).st S262
       replace h19:=(((h19.st S238).st S244).st S253).st S262
       replace h28:=(((h28.st S238).st S244).st S253).st S262
       replace h33:=(((h33.st S238).st S244).st S253).st S262
       replace h45:=(((h45.st S238).st S244).st S253).st S262
       replace h90:=(((h90.st S238).st S244).st S253).st S262
       replace h101:=(((h101.st S238).st S244).st S253).st S262
       replace h254:=h254.st S262
       exact ⟨_,((A249,c250),(A258,c259)),rfl,⟨rfl,rfl,rfl,rfl,rfl,rfl,rfl,rfl,rfl,rfl,trivial⟩,_,hB,hx1,h28,h10,h13,h16,h19,h33,h45,h101,h90,h254,h263⟩
     ·
      replace hf122:=im hf122 c155
      refine o_z ?_
      refine Aj rfl (Am ?_)
      obtain rfl:=sm hf122
      refine (?_:Exists _)
      exact ⟨_,((x115.1.1,x115.1.2),(x115.2.1,x115.2.2)),rfl,⟨rfl,rfl,rfl,rfl,rfl,rfl,rfl,rfl,rfl,rfl,trivial⟩,_,hB,hx1,h28,h10,h13,h16,h19,h33,h45,h101,h90,h131,h133⟩
    replace hB:=(((((((hB.st S27).st S32).st S38).st S70).st S73).st S81).st S100).st S103
    replace hx1:=(((((hx1.st S38).st S70).st S73).st S81).st S100).st S103
    replace h33:=(((((h33.st S38).st S70).st S73).st S81).st S100).st S103
    rintro l265 w266 ⟨s269,x270,rfl,hs268,O267,hB,hx1,h33,h101,h90,h131,h133⟩
    replace hm:=Bn hm
    refine AQ _ hs268 ?_
    refine Ah (Ae (o_mv rfl rfl (o_fa rfl rfl (AO h101 rfl rfl rfl (Nat.le_of_ble_eq_true rfl) (by first|exact allOne rfl|simp [Value.cells,Value.oneCell',AM]) fun w271 S272 h101=>?_))))
    replace h101:Lc 5 w271 O267 g97 37 [(.int .i64 q77.1.verdict),(.slice x270.1.1 s269.1.length x270.1.2),(.int .i64 q77.1.cost),(.int .i64 q77.1.expanded)]:=h101
    refine o_z ?_
    refine Ah (Bv [(4,[3])] O267 ?_)
    refine x_pre (fuel:=4) [] [(0,true),(1,true),(2,true)] (by kernel_rfl) rfl ?_
    refine h_laB (hl:=rfl) (hb:=fun w' ⟨O',hq⟩=>((h101.st hq (by decide)).1).cellsAt) rfl rfl rfl ?_
    refine h_mv rfl rfl rfl (h_mv rfl rfl rfl (AK ?_))
    refine x_one (i:=3) (by kernel_rfl) rfl ?_
    obtain ⟨q273,e274,hm⟩:=bs hm
    replace hx1:=hx1.st S272
    replace h133:=h133.st S272
    refine Cj (O:=O267) (A:=All w271) (R:=fun w' F v=>Vb w' F v q273) (HO (fun _ h=>h) (h133).all (Vb.mono (F:=Fr 0 w271 O267) hx1 Fr.lt) e274) rfl rfl fun v279 w275 O276 S277 h278=>?_
    obtain ⟨rfl,r280⟩:=h278.int
    have hZ:=S277.lst [] (fun _ h=>h.elim)
    refine x_go [(4,[3])] hZ (by kernel_rfl) ?_
    refine x_one (i:=4) (by kernel_rfl) rfl ?_
    replace h33:=(h33.st S272).st S277
    refine AO h33 rfl rfl rfl (Nat.le_of_ble_eq_true rfl) (by first|exact allOne rfl|simp [Value.cells,Value.oneCell',AM]) fun w281 S282 h33=>?_
    replace h33:Lc 3 w281 O276 g29 37 [(.int .i64 q77.1.verdict),(.slice x270.1.1 s269.1.length x270.1.2),(.int .i64 q77.1.cost),(.int .i64 q77.1.expanded)]:=h33
    have hZ:=S282.lst [3] (fun _ h=>by cases h;decide)
    refine x_go [] hZ (by kernel_rfl) ?_
    refine x_pre (fuel:=0) [] [(5,true),(6,true)] (by kernel_rfl) rfl ?_
    refine h_as rfl rfl rfl (h_as rfl rfl rfl (AK ?_))
    refine x_nil (by kernel_rfl) ?_
    refine Au ?_
    replace h131:=((h131.st S272).st S277).st S282
    obtain ⟨O283,S284,h131⟩:=h131.freeze
    obtain rfl:=sm hm
    replace hB:=(((hB.st S272).st S277).st S282).st S284
    replace h33:=h33.st S284
    exact ret3 rfl (BE (cs:=[(.int .i64 q77.1.verdict),(.slice x270.1.1 s269.1.length x270.1.2),(.int .i64 q77.1.cost),(.int .i64 q77.1.expanded)]) rfl rfl h33.1.cellsAt) (AG rfl) (AG rfl) ⟨hB.ext,_,_,_,rfl,(Vb.mono (F:=Fr 0 w281 O283) (Vb.ofAgg (cs:=[(.int .i64 q77.1.verdict),(.slice x270.1.1 s269.1.length x270.1.2),(.int .i64 q77.1.cost),(.int .i64 q77.1.expanded)]) (x:=(⟨q77.1.verdict,s269.1,q77.1.cost,q77.1.expanded⟩:Rsl)) rfl ⟨_,rfl,h131,r93,r94,r95⟩) hB.out),(vInt r280),(vErr (show inI64 0 from by decide))⟩
noncomputable def CL  : Option Bool :=
  bnd (Bx (⟨([2]:List Int),([0]:List Int),[(⟨0,1⟩:Fct)],[(⟨(⟨#[97]⟩:ByteArray),3,([]:List Fct),[(⟨([]:List Fct),0,1⟩:Eff)]⟩:Opr)]⟩:Tsk) [(⟨#[97]⟩:ByteArray)] 5 100) fun q56=>bnd (if q56.2.2.n=0 then (if q56.2.1=0 then (if q56.1.verdict=1 then (if q56.1.cost=3 then (bnd (ER q56.1.plan ([0]:List Int)) fun q100=>if q100=true then some true else some false) else (some false)) else (some false)) else (some false)) else (some false):Option Bool) fun y86=>some y86
theorem GS {w:World} {A:Nat→Prop} (hA:∀ k,A k→k < w.heap.size)  {r:Bool} (hm:CL  = some r) :
    Fn Try.prog 8 [] w fun v w'=>Ext w w'∧Vb w' (upA A w w') v r:=by
 obtain ⟨O,hB,hA0⟩:=enter hA
 refine AL Try.func8 rfl Try.ntmps8 rfl ?_
 unfold CL at hm
 refine Ah (Ae (o_as rfl rfl (o_z ?_)))
 refine Ah (Ae (Bj 2 (by decide) O (xs:=(([2]:List Int):List Int)) rfl rfl rfl rfl ⟨(vInt (show inI64 (2) from by decide)),trivial⟩ (by decide) (by decide) rfl fun g1 w2 O3 S4 h5=>?_))
 refine Bj 3 (by decide) O3 (xs:=(([0]:List Int):List Int)) rfl rfl rfl rfl ⟨(vInt (show inI64 (0) from by decide)),trivial⟩ (by decide) (by decide) rfl fun g7 w8 O9 S10 h11=>?_
 refine o_bd rfl rfl rfl ?_
 refine Bj 4 (by decide) O9 (xs:=([(⟨0,1⟩:Fct)]:List Fct)) rfl rfl rfl rfl ⟨(Vb.ofAgg (cs:=[(.int .i64 0),(.int .i64 1)]) (x:=(⟨0,1⟩:Fct)) rfl ⟨rfl,(show inI64 (0) from by decide),(show inI64 (1) from by decide)⟩),trivial⟩ (by decide) (by decide) rfl fun g13 w14 O15 S16 h17=>?_
 refine o_bd rfl rfl rfl ?_
 refine Bj 5 (by decide) O15 (xs:=([(⟨([]:List Fct),0,1⟩:Eff)]:List Eff)) rfl rfl rfl rfl ⟨(Vb.ofAgg (cs:=[(.slice none 0 0),(.int .i64 0),(.int .i64 1)]) (x:=(⟨([]:List Fct),0,1⟩:Eff)) rfl ⟨_,rfl,(Vb.nil _ _),(show inI64 (0) from by decide),(show inI64 (1) from by decide)⟩),trivial⟩ (by decide) (by decide) rfl fun g19 w20 O21 S22 h23=>?_
 refine o_bd rfl rfl rfl ?_
 obtain ⟨O25,S26,h23⟩:=h23.freeze
 refine Bj 6 (by decide) O25 (xs:=([(⟨(⟨#[97]⟩:ByteArray),3,([]:List Fct),[(⟨([]:List Fct),0,1⟩:Eff)]⟩:Opr)]:List Opr)) rfl rfl rfl rfl ⟨(Vb.ofAgg (cs:=[(.string (⟨#[97]⟩:ByteArray)),(.int .i64 3),(.slice none 0 0),(.slice (some ⟨g19,0,none⟩) [(⟨([]:List Fct),0,1⟩:Eff)].length 1)]) (x:=(⟨(⟨#[97]⟩:ByteArray),3,([]:List Fct),[(⟨([]:List Fct),0,1⟩:Eff)]⟩:Opr)) rfl ⟨_,_,rfl,(Vb.nil _ _),h23,(show inI64 (3) from by decide),(show (⟨#[97]⟩:ByteArray).size≤9223372036854775807 from by decide)⟩),trivial⟩ (by decide) (by decide) rfl fun g27 w28 O29 S30 h31=>?_
 refine o_bd rfl rfl rfl ?_
 refine BM 7 O29 rfl fun g33 w34 O35 S36 h37=>?_
 refine AO h37 rfl rfl rfl (Nat.le_of_ble_eq_true rfl) (by first|exact allOne rfl|simp [Value.cells,Value.oneCell',AM]) fun w38 S39 h37=>?_
 replace h37:Lc 7 w38 O35 g33 32 [(.slice (some ⟨g1,0,none⟩) ([2]:List Int).length 1),(.slice (some ⟨g7,0,none⟩) ([0]:List Int).length 1),(.slice (some ⟨g13,0,none⟩) [(⟨0,1⟩:Fct)].length 1),(.slice (some ⟨g27,0,none⟩) [(⟨(⟨#[97]⟩:ByteArray),3,([]:List Fct),[(⟨([]:List Fct),0,1⟩:Eff)]⟩:Opr)].length 1)]:=h37
 refine o_z ?_
 refine Ah (Ae (o_la (hl:=rfl) (hc:=(h37.1).cellsAt) rfl rfl ?_))
 refine Bj 8 (by decide) O35 (xs:=([(⟨#[97]⟩:ByteArray)]:List ByteArray)) rfl rfl rfl rfl ⟨(vStr (show (⟨#[97]⟩:ByteArray).size≤9223372036854775807 from by decide)),trivial⟩ (by decide) (by decide) rfl fun g40 w41 O42 S43 h44=>?_
 replace h5:=(((((((h5.st S10).st S16).st S22).st S26).st S30).st S36).st S39).st S43
 obtain ⟨O46,S47,h5⟩:=h5.freeze
 replace h11:=(((((((h11.st S16).st S22).st S26).st S30).st S36).st S39).st S43).st S47
 obtain ⟨O48,S49,h11⟩:=h11.freeze
 replace h17:=(((((((h17.st S22).st S26).st S30).st S36).st S39).st S43).st S47).st S49
 obtain ⟨O50,S51,h17⟩:=h17.freeze
 replace h31:=(((((h31.st S36).st S39).st S43).st S47).st S49).st S51
 obtain ⟨O52,S53,h31⟩:=h31.freeze
 replace h44:=(((h44.st S47).st S49).st S51).st S53
 obtain ⟨O54,S55,h44⟩:=h44.freeze
 obtain ⟨q56,e57,hm⟩:=bs hm
 replace h5:=(((h5.st S49).st S51).st S53).st S55
 replace h11:=((h11.st S51).st S53).st S55
 replace h17:=(h17.st S53).st S55
 replace h31:=h31.st S55
 refine Ee (O:=O54) (R:=fun w' F v=>T3 w' F v q56) (EF Fr.lt (Vb.ofAgg (cs:=[(.slice (some ⟨g1,0,none⟩) ([2]:List Int).length 1),(.slice (some ⟨g7,0,none⟩) ([0]:List Int).length 1),(.slice (some ⟨g13,0,none⟩) [(⟨0,1⟩:Fct)].length 1),(.slice (some ⟨g27,0,none⟩) [(⟨(⟨#[97]⟩:ByteArray),3,([]:List Fct),[(⟨([]:List Fct),0,1⟩:Eff)]⟩:Opr)].length 1)]) (x:=(⟨([2]:List Int),([0]:List Int),[(⟨0,1⟩:Fct)],[(⟨(⟨#[97]⟩:ByteArray),3,([]:List Fct),[(⟨([]:List Fct),0,1⟩:Eff)]⟩:Opr)]⟩:Tsk)) rfl ⟨_,_,_,_,rfl,h5,h11,h17,h31⟩) h44 (show inI64 (5) from by decide) (show inI64 (100) from by decide) e57) rfl rfl fun v62 w58 O59 S60 h61=>?_
 obtain ⟨v63,v64,v65,rfl,h66,h67,h68⟩:=h61
 obtain ⟨cs69,rfl,v70,rfl,h71,r74,r75,r76⟩:=h66
 obtain ⟨A72,c73,rfl⟩:=h71.form
 obtain ⟨rfl,r77⟩:=h67.int
 obtain ⟨rfl,r78⟩:=h68.err
 refine o_mv rfl rfl (o_ex rfl rfl rfl (o_ex rfl rfl rfl (o_ex rfl rfl rfl (BM 9 O59 rfl fun g79 w80 O81 S82 h83=>?_))))
 refine AO h83 rfl rfl rfl (Nat.le_of_ble_eq_true rfl) (by first|exact allOne rfl|simp [Value.cells,Value.oneCell',AM]) fun w84 S85 h83=>?_
 replace h83:Lc 9 w84 O81 g79 37 [(.int .i64 q56.1.verdict),(.slice A72 q56.1.plan.length c73),(.int .i64 q56.1.cost),(.int .i64 q56.1.expanded)]:=h83
 refine o_as rfl rfl (o_as rfl rfl (o_z ?_))
 refine Ah ?_
 obtain ⟨y86,hy87,hm⟩:=bs hm
 refine AN (fun l' w'=>∃ (x89:Unit) (O':Lab),subs l' [(0,(.bool y86))]∧Bs w A w' O') ?_ ?_
 ·
  refine Ae (o_mv rfl rfl (o_erS rfl rfl (fun c90=>?_) fun c90=>?_))
  ·
   replace hy87:=ip hy87 c90
   refine o_mv rfl rfl (AD rfl rfl (o_mv rfl rfl (AD rfl rfl (o_eeS rfl rfl rfl (fun c91=>?_) fun c91=>?_))))
   ·
    replace hy87:=ip hy87 c91
    refine o_pt rfl rfl rfl (o_mv rfl rfl (AD rfl rfl (o_fa rfl rfl (AD rfl rfl (o_ld (hc:=Blk.cell (i:=0) (h83.1) rfl) rfl rfl ?_)))))
    refine AD rfl rfl (o_eeS rfl rfl rfl (fun c92=>?_) fun c92=>?_)
    ·
     replace hy87:=ip hy87 c92
     refine o_pt rfl rfl rfl (o_mv rfl rfl (AD rfl rfl (o_fa rfl rfl (AD rfl rfl (o_ld (hc:=Blk.cell (i:=2) (h83.1) rfl) rfl rfl ?_)))))
     refine AD rfl rfl (o_eeS rfl rfl rfl (fun c93=>?_) fun c93=>?_)
     ·
      replace hy87:=ip hy87 c93
      refine o_pt rfl rfl rfl (o_mv rfl rfl (AD rfl rfl (o_fa rfl rfl (AD rfl rfl (o_ld (hc:=Blk.cell (i:=1) (h83.1) rfl) rfl rfl ?_)))))
      refine AD rfl rfl (Bj 10 (by decide) O81 (xs:=(([0]:List Int):List Int)) rfl rfl rfl rfl ⟨(vInt (show inI64 (0) from by decide)),trivial⟩ (by decide) (by decide) rfl fun g94 w95 O96 S97 h98=>?_)
      refine AD rfl rfl ?_
      obtain ⟨q100,e101,hy87⟩:=bs hy87
      replace h71:=((h71.st S82).st S85).st S97
      refine Cj (O:=O96) (A:=All w95) (R:=fun w' F v=>Vb w' F v q100) (KC (fun _ h=>h) (Vb.mono (F:=Fr 0 w95 O96) h71 Fr.lt) (h98).all e101) rfl rfl fun v106 w102 O103 S104 h105=>?_
      obtain rfl:=h105.bool
      cases q100
      case false =>
       replace hy87:=iF hy87
       refine o_pt rfl rfl rfl (o_as rfl rfl (o_z ?_))
       obtain rfl:=sm hy87
       replace hB:=((((((((((((((((((hB.st S4).st S10).st S16).st S22).st S26).st S30).st S36).st S39).st S43).st S47).st S49).st S51).st S53).st S55).st S60).st S82).st S85).st S97).st S104
       exact ⟨(),_,⟨rfl,trivial⟩,hB⟩
      replace hy87:=iT hy87
      refine o_pt rfl rfl rfl (o_as rfl rfl (o_z ?_))
      obtain rfl:=sm hy87
      replace hB:=((((((((((((((((((hB.st S4).st S10).st S16).st S22).st S26).st S30).st S36).st S39).st S43).st S47).st S49).st S51).st S53).st S55).st S60).st S82).st S85).st S97).st S104
      exact ⟨(),_,⟨rfl,trivial⟩,hB⟩
     ·
      replace hy87:=im hy87 c93
      refine o_pt rfl rfl rfl (o_mv rfl rfl (AC rfl rfl rfl rfl (AC rfl rfl rfl rfl (AC rfl rfl rfl rfl (AC rfl rfl rfl rfl (o_pf rfl rfl rfl (o_as rfl rfl (o_z ?_))))))))
      obtain rfl:=sm hy87
      replace hB:=((((((((((((((((hB.st S4).st S10).st S16).st S22).st S26).st S30).st S36).st S39).st S43).st S47).st S49).st S51).st S53).st S55).st S60).st S82).st S85
      exact ⟨(),_,⟨rfl,trivial⟩,hB⟩
    ·
     replace hy87:=im hy87 c92
     refine o_pt rfl rfl rfl (o_mv rfl rfl (AC rfl rfl rfl rfl (AC rfl rfl rfl rfl (AC rfl rfl rfl rfl (o_pf rfl rfl rfl (o_mv rfl rfl (AC rfl rfl rfl rfl (AC rfl rfl rfl rfl (AC rfl rfl rfl rfl (AC rfl rfl rfl rfl (o_pf rfl rfl rfl (o_as rfl rfl (o_z ?_)))))))))))))
     obtain rfl:=sm hy87
     replace hB:=((((((((((((((((hB.st S4).st S10).st S16).st S22).st S26).st S30).st S36).st S39).st S43).st S47).st S49).st S51).st S53).st S55).st S60).st S82).st S85
     exact ⟨(),_,⟨rfl,trivial⟩,hB⟩
   ·
    replace hy87:=im hy87 c91
    refine o_pt rfl rfl rfl (o_mv rfl rfl (AC rfl rfl rfl rfl (AC rfl rfl rfl rfl (AC rfl rfl rfl rfl (o_pf rfl rfl rfl (o_mv rfl rfl (AC rfl rfl rfl rfl (AC rfl rfl rfl rfl (AC rfl rfl rfl rfl (o_pf rfl rfl rfl (o_mv rfl rfl (AC rfl rfl rfl rfl (AC rfl rfl rfl rfl (AC rfl rfl rfl rfl ?_))))))))))))))
    refine AC rfl rfl rfl rfl (o_pf rfl rfl rfl (o_as rfl rfl (o_z ?_)))
    obtain rfl:=sm hy87
    replace hB:=((((((((((((((((hB.st S4).st S10).st S16).st S22).st S26).st S30).st S36).st S39).st S43).st S47).st S49).st S51).st S53).st S55).st S60).st S82).st S85
    exact ⟨(),_,⟨rfl,trivial⟩,hB⟩
  ·
   replace hy87:=im hy87 c90
   refine o_mv rfl rfl (AC rfl rfl rfl rfl (AC rfl rfl rfl rfl (o_pf rfl rfl rfl (o_mv rfl rfl (AC rfl rfl rfl rfl (AC rfl rfl rfl rfl (AC rfl rfl rfl rfl (o_pf rfl rfl rfl (o_mv rfl rfl (AC rfl rfl rfl rfl (AC rfl rfl rfl rfl (AC rfl rfl rfl rfl (o_pf rfl rfl rfl (o_mv rfl rfl ?_))))))))))))))
   refine AC rfl rfl rfl rfl (AC rfl rfl rfl rfl (AC rfl rfl rfl rfl (AC rfl rfl rfl rfl (o_pf rfl rfl rfl (o_as rfl rfl (o_z ?_))))))
   obtain rfl:=sm hy87
   replace hB:=((((((((((((((((hB.st S4).st S10).st S16).st S22).st S26).st S30).st S36).st S39).st S43).st S47).st S49).st S51).st S53).st S55).st S60).st S82).st S85
   exact ⟨(),_,⟨rfl,trivial⟩,hB⟩
 replace hB:=((((((((((((((((hB.st S4).st S10).st S16).st S22).st S26).st S30).st S36).st S39).st S43).st S47).st S49).st S51).st S53).st S55).st S60).st S82).st S85
 rintro l107 w108 ⟨x89,O109,hs110,hB⟩
 refine AQ _ hs110 ?_
 refine Au ?_
 obtain rfl:=sm hm
 exact ret1v rfl (AG rfl) ⟨hB.ext,vBool⟩
noncomputable def Eg (x0:Int) (x1:Int) (x2:Int):Option Int :=
  some (max x1 (min x0 x2))
theorem HW {w:World} {A:Nat→Prop} (hA:∀ k,A k→k < w.heap.size) {x0:Int} (rx0:inI64 x0) {x1:Int} (rx1:inI64 x1) {x2:Int} (rx2:inI64 x2) {r:Int} (hm:Eg x0 x1 x2=some r) :
    Fn Try.prog 13 [(.int .i64 x0),(.int .i64 x1),(.int .i64 x2)] w fun v w'=>Ext w w'∧Vb w' (upA A w w') v r:=by
 obtain ⟨O,hB,hA0⟩:=enter hA
 refine AL Try.func13 rfl Try.ntmps13 rfl ?_
 unfold Eg at hm
 refine Ah (Ae (o_as rfl rfl (o_z ?_)))
 refine Ah (Ae (o_mv rfl rfl (o_mv rfl rfl (o_mv rfl rfl (o_min rfl rfl rfl ?_)))))
 refine o_max rfl rfl rfl ?_
 refine o_as rfl rfl (o_z ?_)
 refine Au ?_
 obtain rfl:=sm hm
 exact ret1v rfl (AG rfl) ⟨hB.ext,(vInt (rngMax rx1 (rngMin rx0 rx2)))⟩
noncomputable def Eh (x0:Tsk) (x1:List ByteArray):Option Bool :=
  bnd (bnd (Fx x0) fun q31=>if q31=true then if (x0.ops.length:Int)≤10 then (if (x1.length:Int)≤6 then (bnd (Ef x0.vars 81) fun q44=>if q44≤81 then (some true) else (some false)) else (some false)) else (some false) else some false:Option Bool) fun y27=>some y27
theorem KL {w:World} {A:Nat→Prop} (hA:∀ k,A k→k < w.heap.size) {vx0:Value} {x0:Tsk} (hx0:Vb w A vx0 x0) {vx1:Value} {x1:List ByteArray} (hx1:Vb w A vx1 x1) {r:Bool} (hm:Eh x0 x1=some r) :
    Fn Try.prog 12 [vx0,vx1] w fun v w'=>Ext w w'∧Vb w' (upA A w w') v r:=by
 obtain ⟨O,hB,hA0⟩:=enter hA
 replace hx0:=hx0.mono hA0
 obtain ⟨cs3,rfl,v4,v5,v6,v7,rfl,h8,h11,h14,h17⟩:=hx0
 obtain ⟨A9,c10,rfl⟩:=h8.form
 obtain ⟨A12,c13,rfl⟩:=h11.form
 obtain ⟨A15,c16,rfl⟩:=h14.form
 obtain ⟨A18,c19,rfl⟩:=h17.form
 replace hx1:=hx1.mono hA0
 obtain ⟨A20,c21,rfl⟩:=hx1.form
 refine AL Try.func12 rfl Try.ntmps12 rfl ?_
 unfold Eh at hm
 refine Ah (Ae (l_box 2 O rfl rfl fun g22 w23 O24 S25 h26=>?_))
 replace h26:Lc 2 w23 O24 g22 32 [(.slice A9 x0.vars.length c10),(.slice A12 x0.init.length c13),(.slice A15 x0.goal.length c16),(.slice A18 x0.ops.length c19)]:=h26
 refine o_as rfl rfl (o_z ?_)
 refine Ah ?_
 obtain ⟨y27,hy28,hm⟩:=bs hm
 refine AN (fun l' w'=>∃ (x30:Unit) (O':Lab),subs l' [(4,(.bool y27))]∧Bs w A w' O') ?_ ?_
 ·
  refine Ae (o_la (hl:=rfl) (hc:=(h26.1).cellsAt) rfl rfl ?_)
  obtain ⟨q31,e32,hy28⟩:=bs hy28
  replace h8:=h8.st S25
  replace h11:=h11.st S25
  replace h14:=h14.st S25
  replace h17:=h17.st S25
  refine Cj (O:=O24) (A:=All w23) (R:=fun w' F v=>Vb w' F v q31) (JV (fun _ h=>h) (Vb.mono (F:=Fr 0 w23 O24) (Vb.ofAgg (cs:=[(.slice A9 x0.vars.length c10),(.slice A12 x0.init.length c13),(.slice A15 x0.goal.length c16),(.slice A18 x0.ops.length c19)]) (x:=x0) rfl ⟨_,_,_,_,rfl,h8,h11,h14,h17⟩) Fr.lt) e32) rfl rfl fun v37 w33 O34 S35 h36=>?_
  obtain rfl:=h36.bool
  cases q31
  case false =>
   replace hy28:=iF hy28
   refine o_mv rfl rfl (AC rfl rfl rfl rfl (AC rfl rfl rfl rfl (AC rfl rfl rfl rfl (AC rfl rfl rfl rfl (o_pf rfl rfl rfl (o_mv rfl rfl (AC rfl rfl rfl rfl (AC rfl rfl rfl rfl (AC rfl rfl rfl rfl (o_pf rfl rfl rfl (o_mv rfl rfl (AC rfl rfl rfl rfl (AC rfl rfl rfl rfl (AC rfl rfl rfl rfl ?_))))))))))))))
   refine AC rfl rfl rfl rfl (o_pf rfl rfl rfl (o_as rfl rfl (o_z ?_)))
   obtain rfl:=sm hy28
   replace hB:=(hB.st S25).st S35
   exact ⟨(),_,⟨rfl,trivial⟩,hB⟩
  replace hy28:=iT hy28
  refine o_mv rfl rfl (AD rfl rfl (o_fa rfl rfl (AD rfl rfl ?_)))
  replace h26:=h26.st S35
  refine o_ld (hc:=Blk.cell (i:=3) (h26.1) rfl) rfl rfl ?_
  refine AD rfl rfl (o_ln rfl rfl ?_)
  replace h17:=h17.st S35
  have l39:x0.ops.length≤9223372036854775807:=Nat.le_trans h17.len.2.1 h17.len.2.2
  have r38:inI64 (x0.ops.length:Int):=rngNat l39
  refine AD rfl rfl (o_leS rfl rfl rfl (fun c40=>?_) fun c40=>?_)
  ·
   replace hy28:=ip hy28 c40
   refine o_pt rfl rfl rfl (o_mv rfl rfl (AD rfl rfl (o_mv rfl rfl (AD rfl rfl (o_ln rfl rfl ?_)))))
   replace hx1:=(hx1.st S25).st S35
   have l42:x1.length≤9223372036854775807:=Nat.le_trans hx1.len.2.1 hx1.len.2.2
   have r41:inI64 (x1.length:Int):=rngNat l42
   refine AD rfl rfl (o_leS rfl rfl rfl (fun c43=>?_) fun c43=>?_)
   ·
    replace hy28:=ip hy28 c43
    refine o_pt rfl rfl rfl (o_mv rfl rfl (AD rfl rfl (o_fa rfl rfl (AD rfl rfl (o_ld (hc:=Blk.cell (i:=0) (h26.1) rfl) rfl rfl ?_)))))
    refine AD rfl rfl ?_
    obtain ⟨q44,e45,hy28⟩:=bs hy28
    replace h8:=h8.st S35
    refine Cj (O:=O34) (A:=All w33) (R:=fun w' F v=>Vb w' F v q44) (KK (fun _ h=>h) (Vb.mono (F:=Fr 0 w33 O34) h8 Fr.lt) (show inI64 (81) from by decide) e45) rfl rfl fun v50 w46 O47 S48 h49=>?_
    obtain ⟨rfl,r51⟩:=h49.int
    refine AD rfl rfl (o_leS rfl rfl rfl (fun c52=>?_) fun c52=>?_)
    ·
     replace hy28:=ip hy28 c52
     refine o_pt rfl rfl rfl (o_as rfl rfl (o_z ?_))
     obtain rfl:=sm hy28
     replace hB:=((hB.st S25).st S35).st S48
     exact ⟨(),_,⟨rfl,trivial⟩,hB⟩
    ·
     replace hy28:=im hy28 c52
     refine o_pt rfl rfl rfl (o_as rfl rfl (o_z ?_))
     obtain rfl:=sm hy28
     replace hB:=((hB.st S25).st S35).st S48
     exact ⟨(),_,⟨rfl,trivial⟩,hB⟩
   ·
    replace hy28:=im hy28 c43
    refine o_pt rfl rfl rfl (o_mv rfl rfl (AC rfl rfl rfl rfl (AC rfl rfl rfl rfl (AC rfl rfl rfl rfl (AC rfl rfl rfl rfl (o_pf rfl rfl rfl (o_as rfl rfl (o_z ?_))))))))
    obtain rfl:=sm hy28
    replace hB:=(hB.st S25).st S35
    exact ⟨(),_,⟨rfl,trivial⟩,hB⟩
  ·
   replace hy28:=im hy28 c40
   refine o_pt rfl rfl rfl (o_mv rfl rfl (AC rfl rfl rfl rfl (AC rfl rfl rfl rfl (AC rfl rfl rfl rfl (o_pf rfl rfl rfl (o_mv rfl rfl (AC rfl rfl rfl rfl (AC rfl rfl rfl rfl (AC rfl rfl rfl rfl (AC rfl rfl rfl rfl (o_pf rfl rfl rfl (o_as rfl rfl (o_z ?_)))))))))))))
   obtain rfl:=sm hy28
   replace hB:=(hB.st S25).st S35
   exact ⟨(),_,⟨rfl,trivial⟩,hB⟩
 replace hB:=hB.st S25
 rintro l53 w54 ⟨x30,O55,hs56,hB⟩
 refine AQ _ hs56 ?_
 refine Au ?_
 obtain rfl:=sm hm
 exact ret1v rfl (AG rfl) ⟨hB.ext,vBool⟩
end
section
open Go Go.RowKit
attribute [local irreducible] ewp owp hwp hwq hws Ev Evg Fn retPost loud loudS Res1
attribute [local irreducible] hwx loudX hwz zNext
noncomputable def CM (x0:Tsk) (x1:List ByteArray) (x2:(Int×Int)):Option Bool :=
  bnd (bnd (Eh x0 x1) fun q44=>if q44=true then bnd (DP x1) fun q51=>if q51=true then some true else bnd (CL) fun q58=>if q58=true then some false else some true else some true:Option Bool) fun y40=>if y40=true then (bnd (bnd (CL) fun q74=>if q74=true then some true else some false:Option Bool) fun y70=>some y70) else (bnd (Eg (min x2.1 x2.2) 0 1000) fun q85=>bnd (Eg (max x2.1 x2.2) 0 1000) fun q93=>bnd (Bx x0 x1 q85 2000) fun q101=>bnd (Bx x0 x1 q93 2000) fun q131=>bnd (if q101.2.2.n≠0 then (some true) else (if q131.2.2.n≠0 then (some true) else (if q101.1.verdict≠1 then (some true) else (some false))):Option Bool) fun y161=>if y161=true then (some true) else (bnd (if q131.1.verdict=1 then (if q85=q93 then (some true) else (if q131.2.1≤q101.2.1 then (bnd (chkI (q85 * q101.2.1)) fun n180=>bnd (chkI (q101.1.cost - n180)) fun n183=>bnd (chkI (q93 * q131.2.1)) fun n186=>bnd (chkI (q131.1.cost - n186)) fun n189=>if n183≤n189 then (some true) else (some false)) else (some false))) else (some false):Option Bool) fun y173=>some y173))
theorem GC {w:World} {A:Nat→Prop} (hA:∀ k,A k→k < w.heap.size) {vx0:Value} {x0:Tsk} (hx0:Vb w A vx0 x0) {vx1:Value} {x1:List ByteArray} (hx1:Vb w A vx1 x1) {vx2:Value} {x2:(Int×Int)} (hx2:Vb w A vx2 x2) {r:Bool} (hm:CM x0 x1 x2=some r) :
    Fn Try.prog 5 [vx0,vx1,vx2] w fun v w'=>Ext w w'∧Vb w' (upA A w w') v r:=by
 obtain ⟨O,hB,hA0⟩:=enter hA
 replace hx0:=hx0.mono hA0
 obtain ⟨cs4,rfl,v5,v6,v7,v8,rfl,h9,h12,h15,h18⟩:=hx0
 obtain ⟨A10,c11,rfl⟩:=h9.form
 obtain ⟨A13,c14,rfl⟩:=h12.form
 obtain ⟨A16,c17,rfl⟩:=h15.form
 obtain ⟨A19,c20,rfl⟩:=h18.form
 replace hx1:=hx1.mono hA0
 obtain ⟨A21,c22,rfl⟩:=hx1.form
 replace hx2:=hx2.mono hA0
 obtain ⟨cs23,rfl,v24,v25,rfl,h26,h27⟩:=hx2
 obtain ⟨rfl,r28⟩:=h26.int
 obtain ⟨rfl,r29⟩:=h27.int
 refine AL Try.func5 rfl Try.ntmps5 rfl ?_
 unfold CM at hm
 refine Ah (Ae (l_box 2 O rfl rfl fun g30 w31 O32 S33 h34=>?_))
 replace h34:Lc 2 w31 O32 g30 32 [(.slice A10 x0.vars.length c11),(.slice A13 x0.init.length c14),(.slice A16 x0.goal.length c17),(.slice A19 x0.ops.length c20)]:=h34
 refine l_box 3 O32 rfl rfl fun g35 w36 O37 S38 h39=>?_
 replace h39:Lc 3 w36 O37 g35 33 [(.int .i64 x2.1),(.int .i64 x2.2)]:=h39
 refine o_as rfl rfl (o_z ?_)
 refine Ah (Ah ?_)
 obtain ⟨y40,hy41,hm⟩:=bs hm
 refine AN (fun l' w'=>∃ (x43:Unit) (O':Lab),subs l' [(1,(.slice A21 x1.length c22)),(3,(.pointer (some ⟨g30,0,none⟩))),(5,(.pointer (some ⟨g35,0,none⟩))),(26,(.bool y40))]∧Bs w A w' O'∧Vb w' (Fr 0 w' O') (.slice A21 x1.length c22) x1∧Lc 2 w' O' g30 32 [(.slice A10 x0.vars.length c11),(.slice A13 x0.init.length c14),(.slice A16 x0.goal.length c17),(.slice A19 x0.ops.length c20)]∧Vb w' (Fr 0 w' O') (.slice A10 x0.vars.length c11) x0.vars∧Vb w' (Fr 0 w' O') (.slice A13 x0.init.length c14) x0.init∧Vb w' (Fr 0 w' O') (.slice A16 x0.goal.length c17) x0.goal∧Vb w' (Fr 0 w' O') (.slice A19 x0.ops.length c20) x0.ops∧Lc 3 w' O' g35 33 [(.int .i64 x2.1),(.int .i64 x2.2)]) ?_ ?_
 ·
  refine Ae ?_
  replace h34:=h34.st S38
  refine o_la (hl:=rfl) (hc:=(h34.1).cellsAt) rfl rfl ?_
  refine o_mv rfl rfl ?_
  obtain ⟨q44,e45,hy41⟩:=bs hy41
  replace hx1:=(hx1.st S33).st S38
  replace h9:=(h9.st S33).st S38
  replace h12:=(h12.st S33).st S38
  replace h15:=(h15.st S33).st S38
  replace h18:=(h18.st S33).st S38
  refine Cj (O:=O37) (A:=All w36) (R:=fun w' F v=>Vb w' F v q44) (KL (fun _ h=>h) (Vb.mono (F:=Fr 0 w36 O37) (Vb.ofAgg (cs:=[(.slice A10 x0.vars.length c11),(.slice A13 x0.init.length c14),(.slice A16 x0.goal.length c17),(.slice A19 x0.ops.length c20)]) (x:=x0) rfl ⟨_,_,_,_,rfl,h9,h12,h15,h18⟩) Fr.lt) (Vb.mono (F:=Fr 0 w36 O37) hx1 Fr.lt) e45) rfl rfl fun v50 w46 O47 S48 h49=>?_
  obtain rfl:=h49.bool
  cases q44
  case false =>
   replace hy41:=iF hy41
   refine o_nf rfl rfl (o_mv rfl rfl (AC rfl rfl rfl rfl (AC rfl rfl rfl rfl (o_pt rfl rfl rfl (o_mv rfl rfl (AC rfl rfl rfl rfl (AC rfl rfl rfl rfl (o_pt rfl rfl rfl (o_z ?_)))))))))
   obtain rfl:=sm hy41
   replace hB:=((hB.st S33).st S38).st S48
   replace hx1:=hx1.st S48
   replace h9:=h9.st S48
   replace h12:=h12.st S48
   replace h15:=h15.st S48
   replace h18:=h18.st S48
   replace h34:=h34.st S48
   replace h39:=h39.st S48
   exact ⟨(),_,⟨rfl,rfl,rfl,rfl,trivial⟩,hB,hx1,h34,h9,h12,h15,h18,h39⟩
  replace hy41:=iT hy41
  refine o_nt rfl rfl (o_mv rfl rfl (AD rfl rfl (o_mv rfl rfl (AD rfl rfl ?_))))
  obtain ⟨q51,e52,hy41⟩:=bs hy41
  replace hx1:=hx1.st S48
  refine Cj (O:=O47) (A:=All w46) (R:=fun w' F v=>Vb w' F v q51) (Kc (fun _ h=>h) (Vb.mono (F:=Fr 0 w46 O47) hx1 Fr.lt) e52) rfl rfl fun v57 w53 O54 S55 h56=>?_
  obtain rfl:=h56.bool
  cases q51
  case false =>
   replace hy41:=iF hy41
   refine o_pf rfl rfl rfl (o_mv rfl rfl (AD rfl rfl ?_))
   obtain ⟨q58,e59,hy41⟩:=bs hy41
   refine Cj (O:=O54) (A:=All w53) (R:=fun w' F v=>Vb w' F v q58) (GS (fun _ h=>h)  e59) rfl rfl fun v64 w60 O61 S62 h63=>?_
   obtain rfl:=h63.bool
   cases q58
   case false =>
    replace hy41:=iF hy41
    refine AD rfl rfl (o_nf rfl rfl (o_pf rfl rfl rfl (o_z ?_)))
    obtain rfl:=sm hy41
    replace hB:=((((hB.st S33).st S38).st S48).st S55).st S62
    replace hx1:=(hx1.st S55).st S62
    replace h9:=((h9.st S48).st S55).st S62
    replace h12:=((h12.st S48).st S55).st S62
    replace h15:=((h15.st S48).st S55).st S62
    replace h18:=((h18.st S48).st S55).st S62
    replace h34:=((h34.st S48).st S55).st S62
    replace h39:=((h39.st S48).st S55).st S62
    exact ⟨(),_,⟨rfl,rfl,rfl,rfl,trivial⟩,hB,hx1,h34,h9,h12,h15,h18,h39⟩
   replace hy41:=iT hy41
   refine AD rfl rfl (o_nt rfl rfl (o_pf rfl rfl rfl (o_z ?_)))
   obtain rfl:=sm hy41
   replace hB:=((((hB.st S33).st S38).st S48).st S55).st S62
   replace hx1:=(hx1.st S55).st S62
   replace h9:=((h9.st S48).st S55).st S62
   replace h12:=((h12.st S48).st S55).st S62
   replace h15:=((h15.st S48).st S55).st S62
   replace h18:=((h18.st S48).st S55).st S62
   replace h34:=((h34.st S48).st S55).st S62
   replace h39:=((h39.st S48).st S55).st S62
   exact ⟨(),_,⟨rfl,rfl,rfl,rfl,trivial⟩,hB,hx1,h34,h9,h12,h15,h18,h39⟩
  replace hy41:=iT hy41
  refine o_pf rfl rfl rfl (o_mv rfl rfl (AC rfl rfl rfl rfl (AC rfl rfl rfl rfl (o_pt rfl rfl rfl (o_z ?_)))))
  obtain rfl:=sm hy41
  replace hB:=(((hB.st S33).st S38).st S48).st S55
  replace hx1:=hx1.st S55
  replace h9:=(h9.st S48).st S55
  replace h12:=(h12.st S48).st S55
  replace h15:=(h15.st S48).st S55
  replace h18:=(h18.st S48).st S55
  replace h34:=(h34.st S48).st S55
  replace h39:=(h39.st S48).st S55
  exact ⟨(),_,⟨rfl,rfl,rfl,rfl,trivial⟩,hB,hx1,h34,h9,h12,h15,h18,h39⟩
 replace hB:=(hB.st S33).st S38
 replace hx1:=(hx1.st S33).st S38
 replace h9:=(h9.st S33).st S38
 replace h12:=(h12.st S33).st S38
 replace h15:=(h15.st S33).st S38
 replace h18:=(h18.st S33).st S38
 replace h34:=h34.st S38
 rintro l65 w66 ⟨x43,O67,hs68,hB,hx1,h34,h9,h12,h15,h18,h39⟩
 refine AQ _ hs68 ?_
 refine CK rfl (fun c69=>?_) (fun c69=>?_)
 ·
  replace hm:=ip hm c69
  refine Ah ?_
  obtain ⟨y70,hy71,hm⟩:=bs hm
  refine AN (fun l' w'=>∃ (x73:Unit) (O':Lab),subs l' [(6,(.bool y70))]∧Bs w A w' O') ?_ ?_
  ·
   refine Ae ?_
   obtain ⟨q74,e75,hy71⟩:=bs hy71
   refine Cj (O:=O67) (A:=All w66) (R:=fun w' F v=>Vb w' F v q74) (GS (fun _ h=>h)  e75) rfl rfl fun v80 w76 O77 S78 h79=>?_
   obtain rfl:=h79.bool
   cases q74
   case false =>
    replace hy71:=iF hy71
    refine o_as rfl rfl (o_z ?_)
    obtain rfl:=sm hy71
    replace hB:=hB.st S78
    exact ⟨(),_,⟨rfl,trivial⟩,hB⟩
   replace hy71:=iT hy71
   refine o_as rfl rfl (o_z ?_)
   obtain rfl:=sm hy71
   replace hB:=hB.st S78
   exact ⟨(),_,⟨rfl,trivial⟩,hB⟩
  rintro l81 w82 ⟨x73,O83,hs84,hB⟩
  refine AQ _ hs84 ?_
  refine Au ?_
  obtain rfl:=sm hm
  exact ret1v rfl (AG rfl) ⟨hB.ext,vBool⟩
 ·
  replace hm:=im' hm c69
  refine Am (Ah (Bv [] O67 ?_))
  refine x_pre (fuel:=4) [] [(0,true),(1,true),(2,true),(3,true),(4,true),(6,true),(7,true),(8,true),(9,true),(10,true)] (by kernel_rfl) rfl ?_
  refine h_iaP (j:=0) rfl rfl rfl rfl ?_
  refine h_ldC (hc:=fun w' ⟨O',hq⟩=>Blk.cell (i:=0) ((h39.st hq (by decide)).1) rfl) rfl rfl rfl ?_
  refine h_iaP (j:=1) rfl rfl rfl rfl ?_
  refine h_ldC (hc:=fun w' ⟨O',hq⟩=>Blk.cell (i:=1) ((h39.st hq (by decide)).1) rfl) rfl rfl rfl ?_
  refine h_min rfl rfl rfl rfl ?_
  refine h_iaP (j:=0) rfl rfl rfl rfl ?_
  refine h_ldC (hc:=fun w' ⟨O',hq⟩=>Blk.cell (i:=0) ((h39.st hq (by decide)).1) rfl) rfl rfl rfl ?_
  refine h_iaP (j:=1) rfl rfl rfl rfl ?_
  refine h_ldC (hc:=fun w' ⟨O',hq⟩=>Blk.cell (i:=1) ((h39.st hq (by decide)).1) rfl) rfl rfl rfl ?_
  refine h_max rfl rfl rfl rfl ?_
  refine AK ?_
  refine x_one (i:=5) (by kernel_rfl) rfl ?_
  obtain ⟨q85,e86,hm⟩:=bs hm
  refine Cj (O:=O67) (A:=All w66) (R:=fun w' F v=>Vb w' F v q85) (HW (fun _ h=>h) (rngMin r28 r29) (show inI64 (0) from by decide) (show inI64 (1000) from by decide) e86) rfl rfl fun v91 w87 O88 S89 h90=>?_
  obtain ⟨rfl,r92⟩:=h90.int
  have hZ:=S89.lst [] (fun _ h=>h.elim)
  refine x_go [] hZ (by kernel_rfl) ?_
  refine x_one (i:=11) (by kernel_rfl) rfl ?_
  obtain ⟨q93,e94,hm⟩:=bs hm
  refine Cj (O:=O88) (A:=All w87) (R:=fun w' F v=>Vb w' F v q93) (HW (fun _ h=>h) (rngMax r28 r29) (show inI64 (0) from by decide) (show inI64 (1000) from by decide) e94) rfl rfl fun v99 w95 O96 S97 h98=>?_
  obtain ⟨rfl,r100⟩:=h98.int
  have hZ:=S97.lst [] (fun _ h=>h.elim)
  refine x_go [] hZ (by kernel_rfl) ?_
  refine x_pre (fuel:=0) [] [(12,true),(13,true)] (by kernel_rfl) rfl ?_
  refine h_as rfl rfl rfl (h_as rfl rfl rfl (AK ?_))
  refine x_nil (by kernel_rfl) ?_
  refine Ah (Ae ?_)
  replace h34:=(h34.st S89).st S97
  refine o_la (hl:=rfl) (hc:=(h34.1).cellsAt) rfl rfl ?_
  refine o_mv rfl rfl (o_mv rfl rfl ?_)
  obtain ⟨q101,e102,hm⟩:=bs hm
  replace hx1:=(hx1.st S89).st S97
  replace h9:=(h9.st S89).st S97
  replace h12:=(h12.st S89).st S97
  replace h15:=(h15.st S89).st S97
  replace h18:=(h18.st S89).st S97
  refine Ee (O:=O96) (R:=fun w' F v=>T3 w' F v q101) (EF Fr.lt (Vb.ofAgg (cs:=[(.slice A10 x0.vars.length c11),(.slice A13 x0.init.length c14),(.slice A16 x0.goal.length c17),(.slice A19 x0.ops.length c20)]) (x:=x0) rfl ⟨_,_,_,_,rfl,h9,h12,h15,h18⟩) hx1 r92 (show inI64 (2000) from by decide) e102) rfl rfl fun v107 w103 O104 S105 h106=>?_
  obtain ⟨v108,v109,v110,rfl,h111,h112,h113⟩:=h106
  obtain ⟨cs114,rfl,v115,rfl,h116,r119,r120,r121⟩:=h111
  obtain ⟨A117,c118,rfl⟩:=h116.form
  obtain ⟨rfl,r122⟩:=h112.int
  obtain ⟨rfl,r123⟩:=h113.err
  refine o_mv rfl rfl (o_ex rfl rfl rfl (o_ex rfl rfl rfl (o_ex rfl rfl rfl (BM 4 O104 rfl fun g124 w125 O126 S127 h128=>?_))))
  refine AO h128 rfl rfl rfl (Nat.le_of_ble_eq_true rfl) (by first|exact allOne rfl|simp [Value.cells,Value.oneCell',AM]) fun w129 S130 h128=>?_
  replace h128:Lc 4 w129 O126 g124 37 [(.int .i64 q101.1.verdict),(.slice A117 q101.1.plan.length c118),(.int .i64 q101.1.cost),(.int .i64 q101.1.expanded)]:=h128
  refine o_as rfl rfl (o_as rfl rfl (o_z ?_))
  refine Ah (Ae ?_)
  replace h34:=((h34.st S105).st S127).st S130
  refine o_la (hl:=rfl) (hc:=(h34.1).cellsAt) rfl rfl ?_
  refine o_mv rfl rfl (o_mv rfl rfl ?_)
  obtain ⟨q131,e132,hm⟩:=bs hm
  replace hx1:=((hx1.st S105).st S127).st S130
  replace h9:=((h9.st S105).st S127).st S130
  replace h12:=((h12.st S105).st S127).st S130
  replace h15:=((h15.st S105).st S127).st S130
  replace h18:=((h18.st S105).st S127).st S130
  refine Ee (O:=O126) (R:=fun w' F v=>T3 w' F v q131) (EF Fr.lt (Vb.ofAgg (cs:=[(.slice A10 x0.vars.length c11),(.slice A13 x0.init.length c14),(.slice A16 x0.goal.length c17),(.slice A19 x0.ops.length c20)]) (x:=x0) rfl ⟨_,_,_,_,rfl,h9,h12,h15,h18⟩) hx1 r100 (show inI64 (2000) from by decide) e132) rfl rfl fun v137 w133 O134 S135 h136=>?_
  obtain ⟨v138,v139,v140,rfl,h141,h142,h143⟩:=h136
  obtain ⟨cs144,rfl,v145,rfl,h146,r149,r150,r151⟩:=h141
  obtain ⟨A147,c148,rfl⟩:=h146.form
  obtain ⟨rfl,r152⟩:=h142.int
  obtain ⟨rfl,r153⟩:=h143.err
  refine o_mv rfl rfl (o_ex rfl rfl rfl (o_ex rfl rfl rfl (o_ex rfl rfl rfl (BM 5 O134 rfl fun g154 w155 O156 S157 h158=>?_))))
  refine AO h158 rfl rfl rfl (Nat.le_of_ble_eq_true rfl) (by first|exact allOne rfl|simp [Value.cells,Value.oneCell',AM]) fun w159 S160 h158=>?_
  replace h158:Lc 5 w159 O156 g154 37 [(.int .i64 q131.1.verdict),(.slice A147 q131.1.plan.length c148),(.int .i64 q131.1.cost),(.int .i64 q131.1.expanded)]:=h158
  refine o_as rfl rfl (o_as rfl rfl (o_z ?_))
  refine Ah (Ah ?_)
  obtain ⟨y161,hy162,hm⟩:=bs hm
  refine AN (fun l' w'=>∃ (x164:Unit) (O':Lab),subs l' [(7,(.int .i64 q85)),(8,(.int .i64 q93)),(9,(.pointer (some ⟨g124,0,none⟩))),(10,(.int .i64 q101.2.1)),(12,(.pointer (some ⟨g154,0,none⟩))),(13,(.int .i64 q131.2.1)),(66,(.bool y161))]∧Bs w A w' O'∧Lc 4 w' O' g124 37 [(.int .i64 q101.1.verdict),(.slice A117 q101.1.plan.length c118),(.int .i64 q101.1.cost),(.int .i64 q101.1.expanded)]∧Vb w' (Fr 0 w' O') (.slice A117 q101.1.plan.length c118) q101.1.plan∧Lc 5 w' O' g154 37 [(.int .i64 q131.1.verdict),(.slice A147 q131.1.plan.length c148),(.int .i64 q131.1.cost),(.int .i64 q131.1.expanded)]∧Vb w' (Fr 0 w' O') (.slice A147 q131.1.plan.length c148) q131.1.plan) ?_ ?_
  ·
   refine Ae (o_mv rfl rfl (o_rnS rfl rfl (fun c165=>?_) fun c165=>?_))
   ·
    replace hy162:=ip hy162 c165
    refine o_mv rfl rfl (AC rfl rfl rfl rfl (AC rfl rfl rfl rfl (o_pt rfl rfl rfl (o_mv rfl rfl (AC rfl rfl rfl rfl (AC rfl rfl rfl rfl (AC rfl rfl rfl rfl (o_pt rfl rfl rfl (o_z ?_)))))))))
    obtain rfl:=sm hy162
    replace hB:=(((((((hB.st S89).st S97).st S105).st S127).st S130).st S135).st S157).st S160
    replace h116:=((((h116.st S127).st S130).st S135).st S157).st S160
    replace h128:=((h128.st S135).st S157).st S160
    replace h146:=(h146.st S157).st S160
    exact ⟨(),_,⟨rfl,rfl,rfl,rfl,rfl,rfl,rfl,trivial⟩,hB,h128,h116,h158,h146⟩
   ·
    replace hy162:=im hy162 c165
    refine o_mv rfl rfl (AD rfl rfl (o_mv rfl rfl (AD rfl rfl (o_rnS rfl rfl (fun c166=>?_) fun c166=>?_))))
    ·
     replace hy162:=ip hy162 c166
     refine o_pf rfl rfl rfl (o_mv rfl rfl (AC rfl rfl rfl rfl (AC rfl rfl rfl rfl (AC rfl rfl rfl rfl (o_pt rfl rfl rfl (o_z ?_))))))
     obtain rfl:=sm hy162
     replace hB:=(((((((hB.st S89).st S97).st S105).st S127).st S130).st S135).st S157).st S160
     replace h116:=((((h116.st S127).st S130).st S135).st S157).st S160
     replace h128:=((h128.st S135).st S157).st S160
     replace h146:=(h146.st S157).st S160
     exact ⟨(),_,⟨rfl,rfl,rfl,rfl,rfl,rfl,rfl,trivial⟩,hB,h128,h116,h158,h146⟩
    ·
     replace hy162:=im hy162 c166
     refine o_pf rfl rfl rfl (o_mv rfl rfl (AD rfl rfl (o_fa rfl rfl (AD rfl rfl ?_))))
     replace h128:=((h128.st S135).st S157).st S160
     refine o_ld (hc:=Blk.cell (i:=0) (h128.1) rfl) rfl rfl ?_
     refine AD rfl rfl (o_neS rfl rfl rfl (fun c167=>?_) fun c167=>?_)
     ·
      replace hy162:=ip hy162 c167
      refine o_pf rfl rfl rfl (o_z ?_)
      obtain rfl:=sm hy162
      replace hB:=(((((((hB.st S89).st S97).st S105).st S127).st S130).st S135).st S157).st S160
      replace h116:=((((h116.st S127).st S130).st S135).st S157).st S160
      replace h146:=(h146.st S157).st S160
      exact ⟨(),_,⟨rfl,rfl,rfl,rfl,rfl,rfl,rfl,trivial⟩,hB,h128,h116,h158,h146⟩
     ·
      replace hy162:=im hy162 c167
      refine o_pf rfl rfl rfl (o_z ?_)
      obtain rfl:=sm hy162
      replace hB:=(((((((hB.st S89).st S97).st S105).st S127).st S130).st S135).st S157).st S160
      replace h116:=((((h116.st S127).st S130).st S135).st S157).st S160
      replace h146:=(h146.st S157).st S160
      exact ⟨(),_,⟨rfl,rfl,rfl,rfl,rfl,rfl,rfl,trivial⟩,hB,h128,h116,h158,h146⟩
  replace hB:=(((((((hB.st S89).st S97).st S105).st S127).st S130).st S135).st S157).st S160
  replace h116:=((((h116.st S127).st S130).st S135).st S157).st S160
  replace h128:=((h128.st S135).st S157).st S160
  replace h146:=(h146.st S157).st S160
  rintro l168 w169 ⟨x164,O170,hs171,hB,h128,h116,h158,h146⟩
  refine AQ _ hs171 ?_
  refine CK rfl (fun c172=>?_) (fun c172=>?_)
  ·
   replace hm:=ip hm c172
   refine Ah (Ae (o_as rfl rfl (o_z ?_)))
   refine Au ?_
   obtain rfl:=sm hm
   exact ret1v rfl (AG rfl) ⟨hB.ext,vBool⟩
  ·
   replace hm:=im' hm c172
   refine Am (Ah ?_)
   obtain ⟨y173,hy174,hm⟩:=bs hm
   refine AN (fun l' w'=>∃ (x176:Unit) (O':Lab),subs l' [(6,(.bool y173))]∧Bs w A w' O') ?_ ?_
   ·
    refine Ae (o_fa rfl rfl (o_ld (hc:=Blk.cell (i:=0) (h158.1) rfl) rfl rfl ?_))
    refine o_eeS rfl rfl rfl (fun c177=>?_) fun c177=>?_
    ·
     replace hy174:=ip hy174 c177
     refine o_mv rfl rfl (AD rfl rfl (o_mv rfl rfl (AD rfl rfl (o_mv rfl rfl (AD rfl rfl (o_eeS rfl rfl rfl (fun c178=>?_) fun c178=>?_))))))
     ·
      replace hy174:=ip hy174 c178
      refine AD rfl rfl (o_mv rfl rfl (AC rfl rfl rfl rfl (AC rfl rfl rfl rfl (AC rfl rfl rfl rfl (AC rfl rfl rfl rfl (AC rfl rfl rfl rfl (AC rfl rfl rfl rfl (AC rfl rfl rfl rfl (AC rfl rfl rfl rfl (AC rfl rfl rfl rfl (AC rfl rfl rfl rfl (AC rfl rfl rfl rfl (AC rfl rfl rfl rfl (AC rfl rfl rfl rfl ?_))))))))))))))
      refine AC rfl rfl rfl rfl (AC rfl rfl rfl rfl (AC rfl rfl rfl rfl (AC rfl rfl rfl rfl (AC rfl rfl rfl rfl (AD rfl rfl (o_pt rfl rfl rfl (o_pt rfl rfl rfl (o_as rfl rfl (o_z ?_)))))))))
      obtain rfl:=sm hy174
      exact ⟨(),_,⟨rfl,trivial⟩,hB⟩
     ·
      replace hy174:=im hy174 c178
      refine AD rfl rfl (o_mv rfl rfl (AD rfl rfl (o_mv rfl rfl (AD rfl rfl (o_mv rfl rfl (AD rfl rfl (o_geS rfl rfl rfl (fun c179=>?_) fun c179=>?_)))))))
      ·
       replace hy174:=ip hy174 c179
       refine AD rfl rfl (o_mv rfl rfl (AD rfl rfl (o_fa rfl rfl (AD rfl rfl (o_ld (hc:=Blk.cell (i:=2) (h128.1) rfl) rfl rfl ?_)))))
       refine AD rfl rfl (o_mv rfl rfl (AD rfl rfl (o_mv rfl rfl (AD rfl rfl ?_))))
       obtain ⟨n180,e181,hy174⟩:=bs hy174
       have r182:=(AW e181)
       refine o_mlE (he:=e181) rfl rfl rfl ?_
       refine AD rfl rfl ?_
       obtain ⟨n183,e184,hy174⟩:=bs hy174
       have r185:=(AW e184)
       refine o_sbE (he:=e184) rfl rfl rfl ?_
       refine AD rfl rfl (o_fa rfl rfl (AD rfl rfl (o_ld (hc:=Blk.cell (i:=2) (h158.1) rfl) rfl rfl ?_)))
       refine AD rfl rfl (o_mv rfl rfl (AD rfl rfl (o_mv rfl rfl (AD rfl rfl ?_))))
       obtain ⟨n186,e187,hy174⟩:=bs hy174
       have r188:=(AW e187)
       refine o_mlE (he:=e187) rfl rfl rfl ?_
       refine AD rfl rfl ?_
       obtain ⟨n189,e190,hy174⟩:=bs hy174
       have r191:=(AW e190)
       refine o_sbE (he:=e190) rfl rfl rfl ?_
       refine AD rfl rfl (o_leS rfl rfl rfl (fun c192=>?_) fun c192=>?_)
       ·
        replace hy174:=ip hy174 c192
        refine AD rfl rfl (o_pt rfl rfl rfl (AD rfl rfl (o_pf rfl rfl rfl (o_pt rfl rfl rfl (o_as rfl rfl (o_z ?_))))))
        obtain rfl:=sm hy174
        exact ⟨(),_,⟨rfl,trivial⟩,hB⟩
       ·
        replace hy174:=im hy174 c192
        refine AD rfl rfl (o_pt rfl rfl rfl (AD rfl rfl (o_pf rfl rfl rfl (o_pt rfl rfl rfl (o_as rfl rfl (o_z ?_))))))
        obtain rfl:=sm hy174
        exact ⟨(),_,⟨rfl,trivial⟩,hB⟩
      ·
       replace hy174:=im hy174 c179
       refine AD rfl rfl (o_mv rfl rfl (AC rfl rfl rfl rfl (AC rfl rfl rfl rfl (AC rfl rfl rfl rfl (AC rfl rfl rfl rfl (AC rfl rfl rfl rfl (AC rfl rfl rfl rfl (AC rfl rfl rfl rfl (AC rfl rfl rfl rfl (AC rfl rfl rfl rfl (AC rfl rfl rfl rfl (AC rfl rfl rfl rfl (AC rfl rfl rfl rfl (AC rfl rfl rfl rfl ?_))))))))))))))
       refine AD rfl rfl (o_pf rfl rfl rfl (AD rfl rfl (o_pf rfl rfl rfl (o_pt rfl rfl rfl (o_as rfl rfl (o_z ?_))))))
       obtain rfl:=sm hy174
       exact ⟨(),_,⟨rfl,trivial⟩,hB⟩
    ·
     replace hy174:=im hy174 c177
     refine o_mv rfl rfl (AC rfl rfl rfl rfl (AC rfl rfl rfl rfl (AC rfl rfl rfl rfl (AC rfl rfl rfl rfl (AC rfl rfl rfl rfl (AC rfl rfl rfl rfl (AC rfl rfl rfl rfl (AC rfl rfl rfl rfl (AC rfl rfl rfl rfl (AC rfl rfl rfl rfl (AC rfl rfl rfl rfl (AC rfl rfl rfl rfl (AC rfl rfl rfl rfl (AC rfl rfl rfl rfl ?_))))))))))))))
     refine AC rfl rfl rfl rfl (AC rfl rfl rfl rfl (AC rfl rfl rfl rfl (AC rfl rfl rfl rfl (AC rfl rfl rfl rfl (AC rfl rfl rfl rfl (AC rfl rfl rfl rfl (AC rfl rfl rfl rfl (AC rfl rfl rfl rfl (o_pf rfl rfl rfl (o_as rfl rfl (o_z ?_)))))))))))
     obtain rfl:=sm hy174
     exact ⟨(),_,⟨rfl,trivial⟩,hB⟩
   rintro l193 w194 ⟨x176,O195,hs196,hB⟩
   refine AQ _ hs196 ?_
   refine Au ?_
   obtain rfl:=sm hm
   exact ret1v rfl (AG rfl) ⟨hB.ext,vBool⟩
end
section
section
variable {α : Type}
inductive Scr:List α→List α→Nat→Prop
  | nil:Scr [] [] 0
  | del {x xs ys n}:Scr xs ys n→Scr (x :: xs) ys (n + 1)
  | ins {y xs ys n}:Scr xs ys n→Scr xs (y :: ys) (n + 1)
  | keep {x xs ys n}:Scr xs ys n→Scr (x :: xs) (x :: ys) n
theorem Scr.bound {xs ys:List α} {n:Nat} (h:Scr xs ys n):n≤xs.length + ys.length∧xs.length≤ys.length + n∧ys.length≤xs.length + n∧(xs.length + ys.length - n) % 2=0:=by
  induction h with
  | nil=>simp
  | del _ ih=>simp only [List.length_cons];omega
  | ins _ ih=>simp only [List.length_cons];omega
  | keep _ ih=>simp only [List.length_cons];omega
theorem Scr.all:∀ xs ys:List α,Scr xs ys (xs.length + ys.length)
  | [],[]=>.nil
  | [],y :: ys=>.ins (Scr.all [] ys)
  | x :: xs,ys=>by
    have:=Scr.del (x:=x) (Scr.all xs ys)
    rwa [show xs.length + ys.length + 1=(x :: xs).length + ys.length from by simp only [List.length_cons];omega] at this
end
section
variable {α : Type} [DecidableEq α]
def ed:List α→List α→Nat
  | [],ys=>ys.length
  | xs,[]=>xs.length
  | x :: xs,y :: ys=>if x=y then min (min (ed (x :: xs) ys) (ed xs (y :: ys)) + 1) (ed xs ys) else min (ed (x :: xs) ys) (ed xs (y :: ys)) + 1
termination_by xs ys=>xs.length + ys.length
theorem Hu (ys:List α):ed [] ys=ys.length:=by cases ys<;>simp [ed]
theorem IZ (xs:List α):ed xs []=xs.length:=by cases xs<;>simp [ed]
theorem Fp (x:α) (xs:List α) (y:α) (ys:List α):ed (x :: xs) (y :: ys)=if x=y then min (min (ed (x :: xs) ys) (ed xs (y :: ys)) + 1) (ed xs ys) else min (ed (x :: xs) ys) (ed xs (y :: ys)) + 1:=by rw [ed]
theorem Ol (n:Nat):∀ xs ys:List α,xs.length + ys.length≤n→Scr xs ys (ed xs ys):=by
  induction n with
  | zero =>
    intro xs ys h
    have h1:xs=[]:=List.eq_nil_of_length_eq_zero (by omega)
    have h2:ys=[]:=List.eq_nil_of_length_eq_zero (by omega)
    subst h1 h2
    rw [Hu];exact .nil
  | succ n ih =>
    intro xs ys h
    match xs,ys,h with
    | [],ys,_=>rw [Hu];simpa using Scr.all [] ys
    | x :: xs,[],_=>rw [IZ];simpa using Scr.all (x :: xs) []
    | x :: xs,y :: ys,h =>
      simp only [List.length_cons] at h
      have h1:=ih (x :: xs) ys (by simp only [List.length_cons];omega)
      have h2:=ih xs (y :: ys) (by simp only [List.length_cons];omega)
      have h3:=ih xs ys (by omega)
      have hm:Scr (x :: xs) (y :: ys) (min (ed (x :: xs) ys) (ed xs (y :: ys)) + 1):=by
        rcases Nat.le_total (ed (x :: xs) ys) (ed xs (y :: ys)) with q|q
        · rw [Nat.min_eq_left q];exact .ins h1
        · rw [Nat.min_eq_right q];exact .del h2
      rw [Fp]
      by_cases e:x=y
      · rw [if_pos e]
        subst e
        rcases Nat.le_total (min (ed (x :: xs) ys) (ed xs (x :: ys)) + 1) (ed xs ys) with q|q
        · rw [Nat.min_eq_left q];exact hm
        · rw [Nat.min_eq_right q];exact .keep h3
      · rw [if_neg e];exact hm
theorem ed_le {xs ys:List α} {n:Nat} (h:Scr xs ys n):ed xs ys≤n:=by
  induction h with
  | nil=>rw [Hu];simp
  | @del x xs ys n _ ih =>
    cases ys with
    | nil=>rw [IZ] at ih ⊢;simp only [List.length_cons];omega
    | cons y ys=>rw [Fp];split<;>omega
  | @ins y xs ys n _ ih =>
    cases xs with
    | nil=>rw [Hu] at ih ⊢;simp only [List.length_cons];omega
    | cons x xs=>rw [Fp];split<;>omega
  | @keep x xs ys n _ ih=>rw [Fp,if_pos rfl];omega
theorem ed_is (xs ys:List α):Scr xs ys (ed xs ys):=Ol _ xs ys (Nat.le_refl _)
end
end
section
section
variable {α σ ρ β : Type}
theorem Lh {f:σ→Option (Ctl σ ρ)} (I:σ→Prop) (B:σ→Prop) (R:ρ→Prop) (μ:σ→Nat) (h:∀ s,I s→(∃ s',f s=some (.next s')∧I s'∧μ s' < μ s)∨(∃ s',f s=some (.brk s')∧B s')∨∃ r,f s=some (.ret r)∧R r) :
    ∀ s,I s→(∃ s',lop f s=some (.done s')∧B s')∨∃ r,lop f s=some (.ret r)∧R r:=by
  have key:∀ (n:Nat) s,I s→μ s < n→(∃ s',lop f s=some (.done s')∧B s')∨∃ r,lop f s=some (.ret r)∧R r:=by
    intro n
    induction n with
    | zero=>intro s _ hn;omega
    | succ n ih =>
      intro s hI hn
      rw [DF]
      rcases h s hI with ⟨s',h1,h2,h3⟩|⟨s',h1,h2⟩|⟨r,h1,h2⟩
      · rw [h1];exact ih s' h2 (by omega)
      · rw [h1];exact .inl ⟨s',rfl,h2⟩
      · rw [h1];exact .inr ⟨r,rfl,h2⟩
  exact fun s hI=>key (μ s + 1) s hI (by omega)
theorem Kd {f:σ→Option (Ctl σ ρ)} {s₀:σ} {k:Fin σ ρ→Option β} {P:β→Prop} (I:σ→Prop) (B:σ→Prop) (R:ρ→Prop) (μ:σ→Nat) (h0:I s₀)
    (h:∀ s,I s→(∃ s',f s=some (.next s')∧I s'∧μ s' < μ s)∨(∃ s',f s=some (.brk s')∧B s')∨∃ r,f s=some (.ret r)∧R r)
    (hb:∀ s,B s→∃ r,k (.done s)=some r∧P r) (hr:∀ q,R q→∃ r,k (.ret q)=some r∧P r):∃ r,bnd (lop f s₀) k=some r∧P r:=by
  rcases Lh I B R μ h s₀ h0 with ⟨s,h1,h2⟩|⟨q,h1,h2⟩
  · rw [h1,AB];exact hb s h2
  · rw [h1,AB];exact hr q h2
theorem Nt {f:σ→Option (Ctl σ ρ)} {s₀:σ} {k:Fin σ ρ→Option β} {r:Option β} (I:σ→Prop) (B:σ→Prop) (μ:σ→Nat) (h0:I s₀)
    (h:∀ s,I s→(∃ s',f s=some (.next s')∧I s'∧μ s' < μ s)∨(∃ s',f s=some (.brk s')∧B s')) (hb:∀ s,B s→k (.done s)=r):bnd (lop f s₀) k=r:=by
  rcases Lh I B (fun _=>False) μ (fun s hI=>(h s hI).imp id .inl) s₀ h0 with ⟨s,h1,h2⟩|⟨q,_,h2⟩
  · rw [h1,AB];exact hb s h2
  · exact h2.elim
theorem Gi {f:Nat→α→σ→Option (Ctl σ ρ)} {xs:List α} {s₀:σ} {k:Fin σ ρ→Option β} {P:β→Prop} (I:Nat→σ→Prop) (R:ρ→Prop) (h0:I 0 s₀)
    (h:∀ i x s,xs[i]?=some x→I i s→(∃ s',f i x s=some (.next s')∧I (i + 1) s')∨∃ q,f i x s=some (.ret q)∧R q)
    (hb:∀ s,I xs.length s→∃ r,k (.done s)=some r∧P r) (hr:∀ q,R q→∃ r,k (.ret q)=some r∧P r):∃ r,bnd (rng f xs 0 s₀) k=some r∧P r:=by
  have key:∀ (ys:List α) (j:Nat) (s:σ),(∀ i,ys[i]?=xs[j + i]?)→j + ys.length=xs.length→I j s→∃ r,bnd (rng f ys j s) k=some r∧P r:=by
    intro ys
    induction ys with
    | nil=>intro j s _ hl hI;exact hb s (by simp at hl;rw [← hl];exact hI)
    | cons y ys ih =>
      intro j s hg hl hI
      have hy:xs[j]?=some y:=by have:=hg 0;simpa using this.symm
      simp only [rng]
      rcases h j y s hy hI with ⟨s',h1,h2⟩|⟨q,h1,h2⟩
      · rw [h1]
        exact ih (j + 1) s' (fun i=>by have:=hg (i + 1);rw [show j + 1 + i=j + (i + 1) from by omega,← this];simp) (by simp at hl;omega) h2
      · rw [h1,AB];exact hr q h2
  exact key xs 0 s₀ (fun i=>by rw [Nat.zero_add]) (by omega) h0
theorem Ja {f:Nat→α→σ→Option (Ctl σ ρ)} {xs:List α} {s₀:σ} {k:Fin σ ρ→Option β} {r:Option β} (I:Nat→σ→Prop) (h0:I 0 s₀)
    (h:∀ i x s,xs[i]?=some x→I i s→∃ s',f i x s=some (.next s')∧I (i + 1) s') (hb:∀ s,I xs.length s→k (.done s)=r):bnd (rng f xs 0 s₀) k=r:=by
  obtain ⟨s,h1,h2⟩:=Gh I h0 h
  rw [h1,AB]
  exact hb s h2
end
end
section
open Go Go.RowKit
def dE (ar b:List ByteArray) (j:Nat):Int:=((ed ar (b.take j).reverse:Nat):Int)
theorem dE_bd (ar b:List ByteArray) (j:Nat):0≤dE ar b j∧dE ar b j≤(ar.length:Int) + b.length:=by
  have h:=(ed_is ar (b.take j).reverse).bound.1
  rw [List.length_reverse,List.length_take] at h
  unfold dE
  omega
theorem Om (b:List ByteArray) {j:Nat} (h:j≤b.length):dE [] b j=(j:Int):=by
  unfold dE
  rw [Hu,List.length_reverse,List.length_take]
  omega
theorem Nu (ar b:List ByteArray):dE ar b 0=(ar.length:Int):=by unfold dE;simp [IZ]
theorem Ij {α:Type} {b:List α} {k:Nat} {y:α} (h:b[k]?=some y):(b.take (k + 1)).reverse=y :: (b.take k).reverse:=by
  rw [List.take_add_one,h];simp
theorem On {x:ByteArray} {ar b:List ByteArray} {k:Nat} (h:b[k]?=some x):dE (x :: ar) b (k + 1)=min (min (dE (x :: ar) b k) (dE ar b (k + 1)) + 1) (dE ar b k):=by
  unfold dE
  rw [Ij h,Fp,if_pos rfl]
  omega
theorem dE_no {x y:ByteArray} {ar b:List ByteArray} {k:Nat} (h:b[k]?=some y) (hn:¬ x=y):dE (x :: ar) b (k + 1)=min (dE (x :: ar) b k) (dE ar b (k + 1)) + 1:=by
  unfold dE
  rw [Ij h,Fp,if_neg hn]
  omega
def RowK (ar b:List ByteArray) (k:Nat) (s:List Int):Prop:=s.length=b.length + 1∧∀ j,j≤k→s[j]?=some (dE ar b j)
theorem RowK.set {ar b:List ByteArray} {k:Nat} {s:List Int} (h:RowK ar b k s) (hk:k < b.length) {v:Int} (hv:v=dE ar b (k + 1)):RowK ar b (k + 1) (s.set (k + 1) v):=by
  refine ⟨by rw [List.length_set];exact h.1,fun j hj=>?_⟩
  rcases Nat.lt_or_ge j (k + 1) with hl|hl
  · rw [List.getElem?_set_ne (by omega)];exact h.2 j (by omega)
  · have:j=k + 1:=by omega
    subst this
    rw [List.getElem?_set_self (by rw [h.1];omega),hv]
theorem Mn {b:List ByteArray} {f:Nat→List Int→Option (Ctl (List Int) Int)} (hf:∀ (k:Nat) (s:List Int),f k s=bnd (s[k]?) fun _=>some (.next (s.set k (k:Int)))) :
    ∃ s,rngN (ρ:=Int) f (List.replicate (b.length + 1) (0:Int)).length (List.replicate (b.length + 1) (0:Int))=some (.done s)∧RowK [] b b.length s:=by
  obtain ⟨s,h1,h2,h3⟩:=MP (f:=f) (N:=(List.replicate (b.length + 1) (0:Int)).length) (s₀:=List.replicate (b.length + 1) (0:Int)) (fun k s=>s.length=b.length + 1∧∀ j,j < k→s[j]?=some (j:Int))
    ⟨by simp,fun j hj=>by omega⟩ (fun k s hk ⟨hl,hs⟩=>by
      rw [List.length_replicate] at hk
      have hg:s[k]?=some (s[k]'(by omega)):=List.getElem?_eq_getElem _
      refine ⟨s.set k (k:Int),by rw [hf,hg,AB],by rw [List.length_set];exact hl,fun j hj=>?_⟩
      rcases Nat.lt_or_ge j k with hl'|hl'
      · rw [List.getElem?_set_ne (by omega)];exact hs j hl'
      · have:j=k:=by omega
        subst this
        rw [List.getElem?_set_self (by omega)])
  refine ⟨s,h1,h2,fun j hj=>?_⟩
  rw [h3 j (by rw [List.length_replicate];omega),Om b hj]
theorem Mo {ar b:List ByteArray}:RowK ar b 0 ((List.replicate (b.length + 1) (0:Int)).set (0:Int).toNat (ar.length:Int)):=by
  refine ⟨by simp,fun j hj=>?_⟩
  have:j=0:=by omega
  subst this
  rw [Nu]
  exact List.getElem?_set_self (by simp)
theorem chk1 {k:Nat} (h:k≤8796093022208):chkI ((k:Int) + 1)=some ((k + 1:Nat):Int):=by rw [Bp (by unfold inI64;omega)];simp
theorem Oo {a b:List ByteArray} (ha:a.length≤8796093022208) (hb:b.length≤8796093022208):Cl a b=some ((ed a.reverse b.reverse:Nat):Int):=by
  unfold Cl
  rw [chk1 hb,AB,IB (by omega) (by omega),AB]
  obtain ⟨s0,h1,h2⟩:=Mn (b:=b) (f:=fun k s=>bnd (s[k]?) fun _=>some (.next (s.set k (k:Int)))) (fun _ _=>rfl)
  rw [h1,AB,fin_d]
  refine Ja (fun i s=>RowK (a.take i).reverse b b.length s) (by simpa using h2) ?_ ?_
  · intro i x s hx hI
    have hi:=AJ hx
    rw [AB,IB (by omega) (by omega),AB,chk1 (k:=i) (by omega),AB]
    rw [show atI (List.replicate (b.length + 1) (0:Int)) 0=some 0 from by rw [show (0:Int)=((0:Nat):Int) from rfl,Bu];simp,AB]
    have hst:RowK (x :: (a.take i).reverse) b 0 ((List.replicate (b.length + 1) (0:Int)).set (0:Int).toNat ((i + 1:Nat):Int)):=by
      have:=Mo (ar:=x :: (a.take i).reverse) (b:=b)
      rwa [List.length_cons,List.length_reverse,List.length_take,Nat.min_eq_left (by omega)] at this
    have hlen:((a.take i).reverse).length=i:=by rw [List.length_reverse,List.length_take];omega
    obtain ⟨s',h3,h4⟩:=Gh (f:=fun (k138:Nat) (a139:ByteArray) (s136:List Int)=>bnd (chkI ((k138:Int) + 1)) fun n161=>bnd (s136[k138]?) fun a164=>bnd (chkI ((k138:Int) + 1)) fun n174=>bnd (atI s n174) fun a177=>bnd (chkI ((min a164 a177) + 1)) fun n189=>bnd (atI s136 n161) fun _=>if x=a139 then (bnd (chkI ((k138:Int) + 1)) fun n207=>bnd (chkI ((k138:Int) + 1)) fun n210=>bnd (atI (s136.set (n161:Int).toNat n189) n210) fun a213=>bnd (s[k138]?) fun a225=>bnd (atI (s136.set (n161:Int).toNat n189) n207) fun _=>some (.next ((s136.set (n161:Int).toNat n189).set (n207:Int).toNat (min a213 a225)))) else (some (.next (s136.set (n161:Int).toNat n189):Ctl (List Int) (Ctl (List Int) Int)))) (xs:=b) (RowK (x :: (a.take i).reverse) b) hst (fun k y u hy hu=>by
        have hk:=AJ hy
        have b1:=dE_bd (x :: (a.take i).reverse) b k
        have b2:=dE_bd (a.take i).reverse b (k + 1)
        rw [List.length_cons,hlen] at b1
        rw [hlen] at b2
        rw [chk1 (by omega),AB,hu.2 k (Nat.le_refl _),AB,AB,Bu,hI.2 (k + 1) (by omega),AB,Bp (by unfold inI64;omega),AB]
        rw [Bu,List.getElem?_eq_getElem (by rw [hu.1];omega),AB,Int.toNat_natCast]
        by_cases e:x=y
        · subst e
          rw [if_pos rfl,AB,AB,Bu,List.getElem?_set_self (by rw [hu.1];omega),AB,hI.2 k (by omega),AB,AB,Int.toNat_natCast,List.set_set]
          exact ⟨_,rfl,hu.set hk (On hy).symm⟩
        · rw [if_neg e]
          exact ⟨_,rfl,hu.set hk (dE_no hy e).symm⟩)
    rw [h3,AB,fin_d]
    refine ⟨s',rfl,?_⟩
    rw [Ij hx]
    exact h4
  · intro s hI
    rw [fin_d,hI.2 b.length (Nat.le_refl _),AB]
    unfold dE
    rw [List.take_length,List.take_length]
theorem Mp (a:List ByteArray):∃ b,DP a=some b:=by
  have key:∀ (xs:List ByteArray) (k:Nat) (s:Int),∃ s',rng (ρ:=Bool) (fun (_:Nat) (x:ByteArray) (s:Int)=>some (.next (wr (s + (x.size:Int))))) xs k s=some (.done s'):=by
    intro xs
    induction xs with
    | nil=>intro k s;exact ⟨s,rfl⟩
    | cons x xs ih=>intro k s;exact ih (k + 1) _
  obtain ⟨s,hs⟩:=key a 0 (a.length:Int)
  unfold DP
  rw [hs,AB,fin_d]
  by_cases h:600 < s
  · exact ⟨true,by rw [if_pos h,AB]⟩
  · exact ⟨false,by rw [if_neg h,AB]⟩
end
section
open Go Go.RowKit
def keptO (o:Opr) (v p:Int):Opr:=⟨o.name,o.cost,o.pre ++ [⟨v,p⟩],o.effs ++ [⟨[],v,p + 1⟩]⟩
def insL (t:Tsk) (w:Int):List (Opr×Prt):=t.ops.zipIdx.map fun q=>(⟨q.1.name,q.1.cost + w,q.1.pre,q.1.effs⟩,⟨(q.2:Int)⟩)
def keepL (ops:List (Opr×Nat)) (v p:Int) (name:ByteArray):List (Opr×Prt):=(ops.filter fun q=>decide (q.1.name=name)).map fun q=>(keptO q.1 v p,⟨(q.2:Int)⟩)
def delE (w v p:Int):Opr×Prt:=(keptO ⟨⟨#[]⟩,w,[],[]⟩ v p,⟨-1⟩)
def stepL (t:Tsk) (w v p:Int) (name:ByteArray):List (Opr×Prt):=keepL t.ops.zipIdx v p name ++ [delE w v p]
def delL (t:Tsk) (w v:Int):Nat→List ByteArray→List (Opr×Prt)
  | _,[]=>[]
  | p,name :: r=>stepL t w v (p:Int) name ++ delL t w v (p + 1) r
def cmpL (t:Tsk) (old:List ByteArray) (w:Int):List (Opr×Prt):=insL t w ++ delL t w (t.vars.length:Int) 0 old
def cmpT (t:Tsk) (old:List ByteArray) (w:Int):Tsk :=
  ⟨t.vars ++ [(old.length:Int) + 1],t.init ++ [0],t.goal ++ [⟨(t.vars.length:Int),(old.length:Int)⟩],(cmpL t old w).map (·.1)⟩
theorem Jr (t:Tsk) (w v:Int) (name:ByteArray):∀ (l:List ByteArray) (p:Nat),delL t w v p (l ++ [name])=delL t w v p l ++ stepL t w v ((p + l.length:Nat):Int) name
  | [],p=>by simp [delL]
  | x :: l,p=>by
    rw [List.cons_append,delL,delL,Jr t w v name l (p + 1),List.append_assoc,List.length_cons,show p + 1 + l.length=p + (l.length + 1) from by omega]
theorem Hv (ops:List (Opr×Nat)) (v p:Int) (name:ByteArray):(keepL ops v p name).length≤ops.length:=by
  unfold keepL;rw [List.length_map];exact List.length_filter_le _ _
theorem Ke (t:Tsk) (w:Int):(insL t w).length=t.ops.length:=by unfold insL;simp
theorem Mq (t:Tsk) (w v p:Int) (name:ByteArray):(stepL t w v p name).length≤t.ops.length + 1:=by
  unfold stepL
  have:=Hv t.ops.zipIdx v p name
  simp only [List.length_append,List.length_singleton,List.length_zipIdx] at this ⊢
  omega
theorem Ik (t:Tsk) (w v:Int):∀ (l:List ByteArray) (p:Nat),(delL t w v p l).length≤l.length * (t.ops.length + 1)
  | [],p=>by simp [delL]
  | x :: l,p=>by
    rw [delL,List.length_append,List.length_cons,Nat.succ_mul]
    have:=Mq t w v p x
    have:=Ik t w v l (p + 1)
    omega
theorem Kf (t:Tsk) (old:List ByteArray) (w:Int):(cmpL t old w).length≤t.ops.length + old.length * (t.ops.length + 1):=by
  unfold cmpL
  rw [List.length_append,Ke]
  have:=Ik t w (t.vars.length:Int) old 0
  omega
theorem MS {α:Type} {l:List α} {k:Nat} {x:α} (h:l[k]?=some x):l.zipIdx.take (k + 1)=l.zipIdx.take k ++ [(x,k)]:=by
  rw [List.take_add_one,List.getElem?_zipIdx,h];simp
theorem LD {ops:List (Opr×Nat)} {v p:Int} {name:ByteArray} {o:Opr} {k:Nat}:keepL (ops ++ [(o,k)]) v p name=keepL ops v p name ++ if o.name=name then [(keptO o v p,⟨(k:Int)⟩)] else []:=by
  unfold keepL
  rw [List.filter_append,List.map_append]
  by_cases h:o.name=name<;>simp [h]
theorem FM {l:List Fct} (h:l.length≤1000000):AR l=some l:=if_pos ⟨by omega,by omega⟩
theorem Js {l:List Eff} (h:l.length≤1000000):Ba l=some l:=if_pos ⟨by omega,by omega⟩
theorem Jt {l:List Int} (h:l.length≤1000000):Bq l=some l:=if_pos ⟨by omega,by omega⟩
theorem Li {o:Opr} {v:Int} {p:Nat} (h1:o.pre.length≤1000) (h2:o.effs.length≤1000) (hp:p≤1000):Cx o v (p:Int)=some (keptO o v (p:Int)):=by
  unfold Cx
  rw [FM (by omega),AB,BZ (by simp;omega) (by simp;omega),AB,Js (by omega),AB,Bp (by unfold inI64;omega),AB,BZ (by simp;omega) (by simp;omega),AB]
  rfl
theorem Kg {α:Type} {l:List α} {k:Nat} {x:α} (h:l[k]?=some x):l.set k x=l:=by
  refine List.ext_getElem? fun j=>?_
  rw [List.getElem?_set]
  split
  · rename_i e;subst e
    split
    · exact h.symm
    · rename_i h2;exact absurd (AJ h) h2
  · rfl
theorem MT {l:List Eff} (h:∀ e∈l,e.cond.length≤1000000):Cc l=some l:=by
  unfold Cc
  rw [Jp (fun _=>l) rfl ?_,AB,fin_d]
  intro k hk
  have hg:l[k]?=some l[k]:=List.getElem?_eq_getElem hk
  rw [hg,AB,FM (h _ (List.getElem_mem hk)),AB,AB,Kg hg]
def ShortO (o:Opr):Prop:=o.pre.length≤1000∧o.effs.length≤1000∧∀ e∈o.effs,e.cond.length≤1000
theorem OpOk.short {t:Tsk} (hok:TaskOk t) {k:Nat} {o:Opr} (ho:t.ops[k]?=some o):o.pre.length≤64∧o.effs.length≤64∧∀ e∈o.effs,e.cond.length≤64:=by
  obtain ⟨_,_,h1,_,h2,h3⟩:=hok.2.2.2.2.2 k o ho
  have hv:=hok.1
  refine ⟨by have:=Dk h2;omega,h1,fun e he=>?_⟩
  obtain ⟨i,hi⟩:=List.getElem?_of_mem he
  have:=Dk (h3 i e hi).1
  omega
theorem LE {t:Tsk} (hok:TaskOk t) (old:List ByteArray) (w:Int):∀ q∈cmpL t old w,ShortO q.1:=by
  have hops:∀ q∈t.ops.zipIdx,q.1.pre.length≤64∧q.1.effs.length≤64∧∀ e∈q.1.effs,e.cond.length≤64:=fun q hq=>by
    obtain ⟨k,hk⟩:=List.getElem?_of_mem hq
    rw [List.getElem?_zipIdx] at hk
    obtain ⟨o,ho,rfl⟩:=Option.map_eq_some_iff.1 hk
    exact OpOk.short hok ho
  have hkept:∀ (o:Opr) (v p:Int),(o.pre.length≤64∧o.effs.length≤64∧∀ e∈o.effs,e.cond.length≤64)→ShortO (keptO o v p):=fun o v p ⟨h1,h2,h3⟩=>by
    refine ⟨by simp [keptO];omega,by simp [keptO];omega,fun e he=>?_⟩
    rcases List.mem_append.1 he with he|he
    · have:=h3 e he;omega
    · have:e=⟨[],v,p + 1⟩:=by simpa using he
      subst this;simp
  have hdel:∀ (l:List ByteArray) (p:Nat),∀ q∈delL t w (t.vars.length:Int) p l,ShortO q.1:=by
    intro l
    induction l with
    | nil=>intro p q hq;simp [delL] at hq
    | cons x l ih =>
      intro p q hq
      rw [delL] at hq
      rcases List.mem_append.1 hq with hq|hq
      · unfold stepL at hq
        rcases List.mem_append.1 hq with hq|hq
        · unfold keepL at hq
          obtain ⟨q',h1,rfl⟩:=List.mem_map.1 hq
          exact hkept _ _ _ (hops q' (List.mem_filter.1 h1).1)
        · have:q=delE w (t.vars.length:Int) p:=by simpa using hq
          subst this
          exact hkept _ _ _ ⟨by simp,by simp,by simp⟩
      · exact ih (p + 1) q hq
  intro q hq
  unfold cmpL at hq
  rcases List.mem_append.1 hq with hq|hq
  · unfold insL at hq
    obtain ⟨q',h1,rfl⟩:=List.mem_map.1 hq
    obtain ⟨h2,h3,h4⟩:=hops q' h1
    exact ⟨by show q'.1.pre.length≤1000;omega,by show q'.1.effs.length≤1000;omega,fun e he=>by have:=h4 e he;omega⟩
  · exact hdel old 0 q hq
def sp (l:List (Opr×Prt)):List Prt×List Opr:=(l.map (·.2),l.map (·.1))
theorem Jb (l:List (Opr×Prt)) (q:Opr×Prt):sp (l ++ [q])=((sp l).1 ++ [q.2],(sp l).2 ++ [q.1]):=by simp [sp]
theorem Kh (l:List (Opr×Prt)):(sp l).1.length=l.length∧(sp l).2.length=l.length:=by simp [sp]
theorem IM {t:Tsk} (hok:TaskOk t) (hops:t.ops.length≤20) {old:List ByteArray} (hold:old.length≤63) {w:Int} (hw0:0≤w) (hw1:w≤1000) :
    Cq t old w=some (if checkN (cmpT t old w)≠0 then (⟨[],[],[],[]⟩,[],⟨checkN (cmpT t old w)⟩) else (cmpT t old w,(cmpL t old w).map (·.2),⟨0⟩)):=by
  have hv:=hok.1
  have hi:=hok.2.2.2.1.1
  have hg:=Dk hok.2.2.2.2.1
  have hcl:(cmpL t old w).length≤2000:=by
    have:=Kf t old w
    have h2:old.length * (t.ops.length + 1)≤63 * 21:=Nat.mul_le_mul hold (by omega)
    omega
  unfold Cq Dq
  rw [DO.2 hok,AB,if_neg (by simp),if_neg (by omega),if_neg (by omega),AB,if_f,if_neg (by omega),Bp (by unfold inI64;omega),AB,Jt (by omega),AB,BZ (by simp;omega) (by simp;omega),AB,Jt (by omega),AB,BZ (by simp;omega) (by simp;omega),AB,FM (by omega),AB,BZ (by simp;omega) (by simp;omega),AB,AB]
  have zx:∀ k o,t.ops[k]?=some o→t.ops.zipIdx.take (k + 1)=t.ops.zipIdx.take k ++ [(o,k)]:=fun k o h=>MS h
  rw [EN (fun k=>sp ((t.ops.zipIdx.take k).map fun q=>(⟨q.1.name,q.1.cost + w,q.1.pre,q.1.effs⟩,⟨(q.2:Int)⟩))) (by simp [sp]) ?gg1,AB,fin_d]
  case gg1 =>
    intro k o ho
    have hk:=AJ ho
    obtain ⟨h1,h2,_⟩:=OpOk.short hok ho
    have hc:=(hok.2.2.2.2.2 k o ho).1
    have hc2:=(hok.2.2.2.2.2 k o ho).2.1
    have hl:((t.ops.zipIdx.take k).map fun q=>((⟨q.1.name,q.1.cost + w,q.1.pre,q.1.effs⟩:Opr),(⟨(q.2:Int)⟩:Prt))).length≤20:=by simp;omega
    obtain ⟨l1,l2⟩:=Kh ((t.ops.zipIdx.take k).map fun q=>((⟨q.1.name,q.1.cost + w,q.1.pre,q.1.effs⟩:Opr),(⟨(q.2:Int)⟩:Prt)))
    rw [Bp (by unfold inI64;omega),AB,FM (by omega),AB,Js (by omega),AB,BZ (by rw [l2];simp;omega) (by rw [l2];simp;omega),AB,BZ (by rw [l1];simp;omega) (by rw [l1];simp;omega),AB,zx k o ho,List.map_append,List.map_singleton,Jb]
  have hzx:t.ops.zipIdx.take t.ops.length=t.ops.zipIdx:=List.take_of_length_le (by simp)
  have hfull:(t.ops.zipIdx.take t.ops.length).map (fun q=>((⟨q.1.name,q.1.cost + w,q.1.pre,q.1.effs⟩:Opr),(⟨(q.2:Int)⟩:Prt)))=insL t w:=by
    unfold insL;rw [hzx]
  rw [hfull]
  rw [EN (fun k=>sp (insL t w ++ delL t w (t.vars.length:Int) 0 (old.take k))) (by simp [delL]) ?gg2,AB,fin_d,List.take_length]
  case gg2 =>
    intro k name hn
    have hk:=AJ hn
    have hbase:(insL t w ++ delL t w (t.vars.length:Int) 0 (old.take k)).length≤1500:=by
      have h1:=Ik t w (t.vars.length:Int) (old.take k) 0
      have h2:(old.take k).length * (t.ops.length + 1)≤63 * 21:=Nat.mul_le_mul (by simp;omega) (by omega)
      rw [List.length_append,Ke];omega
    rw [EN (fun j=>sp ((insL t w ++ delL t w (t.vars.length:Int) 0 (old.take k)) ++ keepL (t.ops.zipIdx.take j) (t.vars.length:Int) (k:Int) name)) (by simp [keepL]) ?gg3,AB,fin_d,hzx]
    case gg3 =>
      intro j o ho
      have hj:=AJ ho
      obtain ⟨h1,h2,_⟩:=OpOk.short hok ho
      have hkl:=Hv (t.ops.zipIdx.take j) (t.vars.length:Int) (k:Int) name
      rw [List.length_take,List.length_zipIdx] at hkl
      obtain ⟨l1,l2⟩:=Kh ((insL t w ++ delL t w (t.vars.length:Int) 0 (old.take k)) ++ keepL (t.ops.zipIdx.take j) (t.vars.length:Int) (k:Int) name)
      rw [List.length_append] at l1 l2
      rw [zx j o ho,LD]
      by_cases he:o.name=name
      · rw [if_pos he,if_pos he,Li (by omega) (by omega) (by omega),AB,BZ (by rw [l2];simp only [List.length_singleton];omega) (by rw [l2];simp only [List.length_singleton];omega),AB,BZ (by rw [l1];simp only [List.length_singleton];omega) (by rw [l1];simp only [List.length_singleton];omega),AB,← List.append_assoc,Jb]
      · rw [if_neg he,if_neg he,List.append_nil]
    have hkl:=Hv t.ops.zipIdx (t.vars.length:Int) (k:Int) name
    rw [List.length_zipIdx] at hkl
    obtain ⟨l1,l2⟩:=Kh ((insL t w ++ delL t w (t.vars.length:Int) 0 (old.take k)) ++ keepL t.ops.zipIdx (t.vars.length:Int) (k:Int) name)
    rw [List.length_append] at l1 l2
    have htk:old.take (k + 1)=old.take k ++ [name]:=by rw [List.take_add_one,hn];rfl
    have hfin:sp (insL t w ++ delL t w (t.vars.length:Int) 0 (old.take (k + 1)))=((sp ((insL t w ++ delL t w (t.vars.length:Int) 0 (old.take k)) ++ keepL t.ops.zipIdx (t.vars.length:Int) (k:Int) name)).1 ++ [⟨-1⟩],(sp ((insL t w ++ delL t w (t.vars.length:Int) 0 (old.take k)) ++ keepL t.ops.zipIdx (t.vars.length:Int) (k:Int) name)).2 ++ [keptO ⟨⟨#[]⟩,w,[],[]⟩ (t.vars.length:Int) (k:Int)]):=by
      have hkk:(0 + (old.take k).length:Nat)=k:=by simp;omega
      rw [htk,Jr,hkk,stepL,← List.append_assoc,← List.append_assoc,Jb]
      rfl
    rw [Li (by simp) (by simp) (by omega),AB,BZ (by rw [l2];simp only [List.length_singleton];omega) (by rw [l2];simp only [List.length_singleton];omega),AB,BZ (by rw [l1];simp only [List.length_singleton];omega) (by rw [l1];simp only [List.length_singleton];omega),AB,if_neg (by rw [List.length_append,l2];simp only [List.length_singleton];omega),hfin]
  show bnd (rngN _ (sp (cmpL t old w)).2.length (sp (cmpL t old w)).2) _=_
  have hsh:∀ o∈(sp (cmpL t old w)).2,ShortO o:=fun o ho=>by
    obtain ⟨q,hq,rfl⟩:=List.mem_map.1 ho
    exact LE hok old w q hq
  rw [Jp (fun _=>(sp (cmpL t old w)).2) rfl ?gg4,AB,fin_d,AB]
  case gg4 =>
    intro k hk
    have hgk:(sp (cmpL t old w)).2[k]?=some (sp (cmpL t old w)).2[k]:=List.getElem?_eq_getElem hk
    have h3:=(hsh _ (List.getElem_mem hk)).2.2
    rw [hgk,AB,MT (fun e he=>by have:=h3 e he;omega),AB,AB,Kg hgk]
  show (if checkN (cmpT t old w)≠0 then _ else _)=_
  by_cases hc:checkN (cmpT t old w)≠0
  · rw [if_pos hc,if_pos hc];rfl
  · rw [if_neg hc,if_neg hc];rfl
end
section
open Go Go.RowKit
inductive PlanR (t:Tsk):List Int→List Int→List Int→Int→Prop
  | nil {s:List Int}:PlanR t s [] s 0
  | cons {s rest s':List Int} {k:Nat} {o:Opr} {C:Int}:t.ops[k]?=some o→holdsB o.pre s=true→PlanR t (succ o s) rest s' C→PlanR t s ((k:Int) :: rest) s' (o.cost + C)
theorem Mr (f:List Fct) (s:List Int):CH f s=some (holdsB f s):=rfl
end
section
open Go Go.RowKit
inductive Walk (t:Tsk):List Int→Int→Prop
  | goal {s:List Int}:holdsB t.goal s=true→Walk t s 0
  | step {s:List Int} {k:Nat} {o:Opr} {c:Int}:t.ops[k]?=some o→holdsB o.pre s=true→Walk t (succ o s) c→Walk t s (c + o.cost)
theorem MU {α:Type} {l:List α} {k:Nat} {x y:α} (h:l[k]?=some x):y∈l.take (k + 1)↔y∈l.take k∨y=x:=by
  rw [List.take_add_one,h,List.mem_append];simp
end
section
open Go Go.RowKit
structure QEn where
  key:Int
  tie:Int
  item:Int
  number:Int
theorem Ju {α:Type} {l:List α} {m i:Nat} {x:α} (h:(l.take m)[i]?=some x):l[i]?=some x:=by
  by_cases hi:i < m
  · rwa [List.getElem?_take_of_lt hi] at h
  · rw [List.getElem?_take_eq_none (by omega)] at h;cases h
def bfr (x y:QEn):Prop:=x.key < y.key∨(x.key=y.key∧(x.tie < y.tie∨(x.tie=y.tie∧x.number < y.number)))
instance (x y:QEn):Decidable (bfr x y):=by unfold bfr;infer_instance
def nb (x y:QEn):Prop:=¬ bfr x y
theorem GD {x y z:QEn} (h1:nb x y) (h2:nb y z):nb x z:=by unfold nb bfr at *;omega
theorem nb_of {x y:QEn} (h:bfr x y):nb y x:=by unfold nb bfr at *;omega
theorem IN (x:QEn):nb x x:=by unfold nb bfr;omega
theorem Ki {x y:QEn} (h:nb x y):y.key≤x.key:=by unfold nb bfr at h;omega
def HeapOk (l:List QEn):Prop:=∀ (j:Nat) x y,0 < j→l[j]?=some x→l[(j - 1) / 2]?=some y→nb x y
def Over (l:List QEn) (i:Nat):Prop:=∀ (j:Nat) x y,0 < i→0 < j→(j - 1) / 2=i→l[j]?=some x→l[(i - 1) / 2]?=some y→nb x y
def UpI (l:List QEn) (i:Nat):Prop:=(∀ (j:Nat) x y,0 < j→j≠i→l[j]?=some x→l[(j - 1) / 2]?=some y→nb x y)∧Over l i
def DownI (l:List QEn) (i:Nat):Prop:=(∀ (j:Nat) x y,0 < j→(j - 1) / 2≠i→l[j]?=some x→l[(j - 1) / 2]?=some y→nb x y)∧Over l i
theorem Gj {l:List QEn} {i j:Nat} {a b:QEn} (hi:l[i]?=some a) (hj:l[j]?=some b) (hne:i≠j) (k:Nat):((l.set i b).set j a)[k]?=if k=j then some a else if k=i then some b else l[k]?:=by
  by_cases h1:k=j
  · subst h1;rw [if_pos rfl,List.getElem?_set_self (by simpa using AJ hj)]
  · rw [if_neg h1,List.getElem?_set_ne (by omega)]
    by_cases h2:k=i
    · subst h2;rw [if_pos rfl,List.getElem?_set_self (AJ hi)]
    · rw [if_neg h2,List.getElem?_set_ne (by omega)]
theorem Kj {l:List QEn} {i j:Nat} {a b:QEn} (hi:l[i]?=some a) (hj:l[j]?=some b):((l.set i b).set j a).Perm l:=by
  have h1:=AJ hi
  have h2:=AJ hj
  have e1:l[i]=a:=by rw [List.getElem?_eq_getElem h1] at hi;exact Option.some.inj hi
  have e2:l[j]=b:=by rw [List.getElem?_eq_getElem h2] at hj;exact Option.some.inj hj
  rw [← e1,← e2]
  exact List.set_set_perm h1 h2
theorem UpI.step {l:List QEn} {i:Nat} {a b:QEn} (h:UpI l i) (h0:0 < i) (hi:l[i]?=some a) (hj:l[(i - 1) / 2]?=some b) (hb:bfr a b):UpI ((l.set i b).set ((i - 1) / 2) a) ((i - 1) / 2):=by
  have hne:i≠(i - 1) / 2:=by omega
  constructor
  · intro j x y hj0 hjp hx hy
    rw [Gj hi hj hne,if_neg hjp] at hx
    rw [Gj hi hj hne] at hy
    by_cases e1:j=i
    · subst e1
      rw [if_pos rfl] at hx hy
      obtain rfl:=Option.some.inj hx
      obtain rfl:=Option.some.inj hy
      exact nb_of hb
    · rw [if_neg e1] at hx
      by_cases e2:(j - 1) / 2=(i - 1) / 2
      · rw [if_pos e2] at hy
        obtain rfl:=Option.some.inj hy
        have:=h.1 j x b hj0 e1 hx (by rw [e2];exact hj)
        exact GD this (nb_of hb)
      · rw [if_neg e2] at hy
        by_cases e3:(j - 1) / 2=i
        · rw [if_pos e3] at hy
          obtain rfl:=Option.some.inj hy
          exact h.2 j x b h0 hj0 e3 hx hj
        · rw [if_neg e3] at hy
          exact h.1 j x y hj0 e1 hx hy
  · intro j x y hp0 hj0 hjp hx hy
    rw [Gj hi hj hne] at hx hy
    have n1:((i - 1) / 2 - 1) / 2≠(i - 1) / 2:=by omega
    have n2:((i - 1) / 2 - 1) / 2≠i:=by omega
    rw [if_neg n1,if_neg n2] at hy
    have hpp:=h.1 ((i - 1) / 2) b y hp0 (by omega) hj hy
    rw [if_neg (by omega)] at hx
    by_cases e1:j=i
    · subst e1
      rw [if_pos rfl] at hx
      obtain rfl:=Option.some.inj hx
      exact hpp
    · rw [if_neg e1] at hx
      exact GD (h.1 j x b hj0 e1 hx (by rw [hjp];exact hj)) hpp
theorem UpI.heap {l:List QEn} {i:Nat} (h:UpI l i) (hi:i=0∨∀ x y,l[i]?=some x→l[(i - 1) / 2]?=some y→nb x y):HeapOk l:=fun j x y hj hx hy=>by
  by_cases e:j=i
  · subst e
    rcases hi with h0|h1
    · omega
    · exact h1 x y hx hy
  · exact h.1 j x y hj e hx hy
theorem DownI.step {l:List QEn} {i c:Nat} {a b:QEn} (h:DownI l i) (hc:c=2 * i + 1∨c=2 * i + 2) (hi:l[i]?=some a) (hj:l[c]?=some b) (hb:bfr b a) (hs:∀ (j:Nat) x,0 < j→(j - 1) / 2=i→l[j]?=some x→nb x b):DownI ((l.set i b).set c a) c:=by
  have hne:i≠c:=by omega
  have hcp:(c - 1) / 2=i:=by omega
  constructor
  · intro j x y hj0 hjp hx hy
    rw [Gj hi hj hne] at hx hy
    rw [if_neg hjp] at hy
    by_cases e1:j=c
    · subst e1
      rw [if_pos rfl] at hx
      rw [if_pos hcp] at hy
      obtain rfl:=Option.some.inj hx
      obtain rfl:=Option.some.inj hy
      exact nb_of hb
    · rw [if_neg e1] at hx
      by_cases e2:j=i
      · subst e2
        rw [if_pos rfl] at hx
        rw [if_neg (by omega)] at hy
        obtain rfl:=Option.some.inj hx
        exact h.2 c _ y hj0 (by omega) hcp hj hy
      · rw [if_neg e2] at hx
        by_cases e3:(j - 1) / 2=i
        · rw [if_pos e3] at hy
          obtain rfl:=Option.some.inj hy
          exact hs j x hj0 e3 hx
        · rw [if_neg e3] at hy
          exact h.1 j x y hj0 e3 hx hy
  · intro j x y hc0 hj0 hjc hx hy
    rw [Gj hi hj hne] at hx hy
    rw [if_neg (by omega),if_neg (by omega)] at hx
    rw [if_neg (by omega),if_pos hcp] at hy
    obtain rfl:=Option.some.inj hy
    exact h.1 j x _ hj0 (by omega) hx (by rw [hjc];exact hj)
theorem DownI.heap {l:List QEn} {i:Nat} (h:DownI l i) (hi:∀ (j:Nat) x y,0 < j→(j - 1) / 2=i→l[j]?=some x→l[i]?=some y→nb x y):HeapOk l:=fun j x y hj hx hy=>by
  by_cases e:(j - 1) / 2=i
  · exact hi j x y hj e hx (by rw [← e];exact hy)
  · exact h.1 j x y hj e hx hy
theorem Ms {l:List QEn} (h:HeapOk l) {e:QEn} (he:l[0]?=some e):∀ x∈l,nb x e:=by
  have key:∀ (n j:Nat) x,j≤n→l[j]?=some x→nb x e:=by
    intro n
    induction n with
    | zero =>
      intro j x hj hx
      have hj0:j=0:=by omega
      rw [hj0,he] at hx
      rw [← Option.some.inj hx]
      exact IN _
    | succ n ih =>
      intro j x hj hx
      by_cases h0:j=0
      · exact ih j x (by omega) hx
      · obtain ⟨y,hy⟩:=AH (l:=l) (k:=(j - 1) / 2) (by have:=AJ hx;omega)
        exact GD (h j x y (by omega) hx hy) (ih ((j - 1) / 2) y (by omega) hy)
  intro x hx
  obtain ⟨j,hj⟩:=List.getElem?_of_mem hx
  exact key j j x (by omega) hj
end
section
open Go Go.RowKit
theorem Lj {σ ρ:Type} {x:Option (Ctl σ ρ)} {I:σ→Prop} (h:∃ r,x=some r∧∃ s',r=Ctl.next s'∧I s'):∃ s',x=some (.next s')∧I s':=by
  obtain ⟨_,h1,s',rfl,h2⟩:=h
  exact ⟨s',h1,h2⟩
def FldOk (W:Nat) (f:PFd) (n:Int):Prop:=∃ k b w:Nat,f=⟨k,b,w,n⟩∧k < W∧b + w≤64∧w≤6∧n≤2 ^ w
def PkOk (vars:List Int) (p:Pkr):Prop:=p.fields.length=vars.length∧(∃ W:Nat,p.words=(W:Int)∧1≤W∧W≤vars.length + 1∧∀ (i:Nat) f n,p.fields[i]?=some f→vars[i]?=some n→FldOk W f n) ∧
  ∀ (i j:Nat) f g,i < j→p.fields[i]?=some f→p.fields[j]?=some g→f.word < g.word∨(f.word=g.word∧f.bit + f.width≤g.bit)
theorem Nv:∀ {w:Nat},w≤6→shlI 1 (w:Int)=some ((2 ^ w:Nat):Int):=by
  intro w h
  have:w=0∨w=1∨w=2∨w=3∨w=4∨w=5∨w=6:=by omega
  rcases this with rfl|rfl|rfl|rfl|rfl|rfl|rfl<;>rfl
theorem Nw {w:Nat} {n:Int} (hw:w≤6) (h:((2 ^ w:Nat):Int) < n) (hn:n≤64):w < 6:=by
  rcases Nat.lt_or_ge w 6 with hh|hh
  · exact hh
  · obtain rfl:w=6:=by omega
    simp at h;omega
def PkI (vars:List Int) (B W:Nat) (fs:List PFd):Prop:=(∀ (i:Nat) f n,fs[i]?=some f→vars[i]?=some n→FldOk W f n) ∧
  (∀ (i j:Nat) f g,i < j→fs[i]?=some f→fs[j]?=some g→f.word < g.word∨(f.word=g.word∧f.bit + f.width≤g.bit))∧∀ (i:Nat) f,fs[i]?=some f→f.word + 1 < (W:Int)∨(f.word + 1=(W:Int)∧f.bit + f.width≤(B:Int))
theorem PkI.over {vars:List Int} {B W:Nat} {fs:List PFd} (h:PkI vars B W fs):PkI vars 0 (W + 1) fs :=
  ⟨fun i f n hf hn=>by obtain ⟨k,b,w,e,e1,e2⟩:=h.1 i f n hf hn;exact ⟨k,b,w,e,by omega,e2⟩,h.2.1,fun i f hf=>by have:=h.2.2 i f hf;omega⟩
theorem CS {α:Type} {l:List α} {x y:α} {i:Nat} (h:(l ++ [x])[i]?=some y):l[i]?=some y∨(i=l.length∧y=x):=by
  rcases Nat.lt_trichotomy i l.length with hi|hi|hi
  · rw [List.getElem?_append_left hi] at h;exact .inl h
  · subst hi;simp at h;exact .inr ⟨rfl,h.symm⟩
  · rw [List.getElem?_append_right (by omega)] at h
    rw [List.getElem?_eq_none (by simp;omega)] at h
    cases h
theorem PkI.add {vars:List Int} {B W w:Nat} {fs:List PFd} {n:Int} (h:PkI vars B W fs) (hW:1≤W) (hn:vars[fs.length]?=some n) (hB:B + w≤64) (hw:w≤6) (hnw:n≤2 ^ w):PkI vars (B + w) W (fs ++ [⟨(W:Int) - 1,(B:Int),(w:Int),n⟩]):=by
  refine ⟨fun i f n' hf hn'=>?_,fun i j f g hij hf hg=>?_,fun i f hf=>?_⟩
  · rcases CS hf with hh|⟨rfl,rfl⟩
    · exact h.1 i f n' hh hn'
    · rw [hn] at hn'
      obtain rfl:=Option.some.inj hn'
      exact ⟨W - 1,B,w,by congr 1;omega,by omega,hB,hw,hnw⟩
  · rcases CS hg with hh|⟨rfl,rfl⟩
    · rcases CS hf with hk|⟨rfl,rfl⟩
      · exact h.2.1 i j f g hij hk hh
      · have:=AJ hh;omega
    · rcases CS hf with hk|⟨rfl,rfl⟩
      · have:=h.2.2 i f hk
        dsimp only
        omega
      · omega
  · rcases CS hf with hh|⟨rfl,rfl⟩
    · have:=h.2.2 i f hh;omega
    · dsimp only;omega
theorem LF {vars:List Int} (hl:vars.length≤64) (hv:∀ (i:Nat) n,vars[i]?=some n→1≤n∧n≤64):∃ r,Dx vars=some r∧∃ p,r=(some p,⟨0⟩)∧PkOk vars p:=by
  unfold Dx
  rw [if_neg (by omega)]
  refine Gi (fun m s=>∃ B W:Nat,s.1=(B:Int)∧B≤64∧s.2.words=(W:Int)∧1≤W∧W≤m + 1∧s.2.fields.length=m∧PkI vars B W s.2.fields) (fun _=>False)
    ⟨0,1,rfl,by omega,rfl,by omega,by omega,rfl,fun i f n h=>by simp at h,fun i j f g _ h=>by simp at h,fun i f h=>by simp at h⟩ ?_ ?_ (fun q hq=>hq.elim)
  · rintro m n ⟨s1,s2⟩ hm ⟨B,W,hs1,hB,hW,hW1,hWm,hlen,hI⟩
    dsimp only at hs1 hW hlen hI
    subst hs1
    obtain ⟨hn1,hn2⟩:=hv m n hm
    have hml:=AJ hm
    refine .inl (Lj ?_)
    rw [if_neg (by omega),if_neg (by omega),AB,if_f]
    refine Kd (fun c=>∃ w:Nat,c=(w:Int)∧w≤6) (fun c=>∃ w:Nat,c=(w:Int)∧w≤6∧n≤2 ^ w) (fun _=>False) (fun c=>7 - c.toNat) ⟨0,rfl,by omega⟩ ?_ ?_ (fun q hq=>hq.elim)
    · rintro c ⟨w,rfl,hw⟩
      rw [Nv hw,AB]
      by_cases hlt:((2 ^ w:Nat):Int) < n
      · have:=Nw hw hlt hn2
        rw [if_pos hlt,Bp (by unfold inI64;omega),AB]
        exact .inl ⟨_,rfl,⟨w + 1,by omega,by omega⟩,by omega⟩
      · rw [if_neg hlt]
        refine .inr (.inl ⟨_,rfl,w,rfl,hw,?_⟩)
        have:((2 ^ w:Nat):Int)=(2:Int) ^ w:=by simp
        omega
    · rintro c ⟨w,rfl,hw,hnw⟩
      rw [fin_d,Bp (by unfold inI64;omega),AB]
      have fin':∀ (B' W':Nat) (q:Pkr),B' + w≤64→1≤W'→W'≤m + 2→q.words=(W':Int)→q.fields=s2.fields→PkI vars B' W' s2.fields→∃ r,(bnd (chkI (q.words - 1)) fun n133=>bnd (appI 32 q.fields [(⟨n133,(B':Int),(w:Int),n⟩:PFd)]) fun u142=>bnd (chkI ((B':Int) + (w:Int))) fun n155=>some (Ctl.next (ρ:=(Option Pkr)×Err) (n155,(⟨u142,q.words⟩:Pkr))))=some r∧∃ s',r=Ctl.next s'∧∃ B W:Nat,s'.1=(B:Int)∧B≤64∧s'.2.words=(W:Int)∧1≤W∧W≤m + 1 + 1∧s'.2.fields.length=m + 1∧PkI vars B W s'.2.fields:=by
        intro B' W' q hB' hW' hWm' hq1 hq2 hI'
        rw [hq1,hq2,Bp (by unfold inI64;omega),AB,BZ (by simp;omega) (by simp;omega),AB,Bp (by unfold inI64;omega),AB]
        exact ⟨_,rfl,_,rfl,B' + w,W',by simp,hB',rfl,hW',by omega,by simp [hlen],hI'.add hW' (by rw [hlen];exact hm) hB' hw hnw⟩
      by_cases hover:64 < (B:Int) + (w:Int)
      · rw [if_pos hover]
        dsimp only
        rw [hW,Bp (by unfold inI64;omega),AB,AB]
        exact fin' 0 (W + 1) ⟨s2.fields,(W:Int) + 1⟩ (by omega) (by omega) (by omega) (by simp) rfl hI.over
      · rw [if_neg hover,AB]
        exact fin' B W s2 (by omega) hW1 (by omega) hW rfl hI
  · rintro ⟨s1,s2⟩ ⟨B,W,hs1,hB,hW,hW1,hWm,hlen,hI⟩
    exact ⟨_,rfl,s2,rfl,hlen,⟨W,hW,hW1,hWm,hI.1⟩,hI.2.1⟩
def InF (f:PFd) (x:Int) (k c:Nat):Prop:=f.word=(k:Int)∧f.bit≤(c:Int)∧(c:Int) < f.bit + f.width∧x.toNat.testBit (c - f.bit.toNat)=true
def Bits (fs:List PFd) (s:List Int) (p:Nat→Prop) (ws:List U64):Prop:=∀ (k c:Nat) a,ws[k]?=some a→c < 64→(a.getLsbD c=true↔∃ (i:Nat) (f:PFd) (x:Int),p i∧fs[i]?=some f∧s[i]?=some x∧InF f x k c)
theorem ones {w:Nat} (h:w≤6):((1:U64) <<< w) - (1:U64)=BitVec.ofNat 64 (2 ^ w - 1):=by
  have:w=0∨w=1∨w=2∨w=3∨w=4∨w=5∨w=6:=by omega
  rcases this with rfl|rfl|rfl|rfl|rfl|rfl|rfl<;>rfl
theorem Kk {w b c:Nat} (hw:w≤6) (hc:c < 64):((((1:U64) <<< w) - (1:U64)) <<< b).getLsbD c=(decide (b≤c) && decide (c < b + w)):=by
  rw [ones hw,BitVec.getLsbD_shiftLeft,BitVec.getLsbD_ofNat,Nat.testBit_two_pow_sub_one]
  by_cases h1:b≤c<;>by_cases h2:c < b + w<;>simp [h1,h2,hc]<;>omega
theorem Jc {x:Int} {w j:Nat} (h0:0≤x) (h1:x < 2 ^ w) (ht:x.toNat.testBit j=true):j < w:=by
  rcases Nat.lt_or_ge j w with h|h
  · exact h
  · have h2:x.toNat < 2 ^ w:=by
      have:((2 ^ w:Nat):Int)=(2:Int) ^ w:=by simp
      omega
    rw [Nat.testBit_lt_two_pow (Nat.lt_of_lt_of_le h2 (Nat.pow_le_pow_right (by omega) h))] at ht
    cases ht
theorem PkOk.field {vars:List Int} {p:Pkr} (h:PkOk vars p) {s:List Int} (hs:StateOk vars s) {i:Nat} {f:PFd} (hf:p.fields[i]?=some f):∃ (k b w:Nat) (n x:Int),f=⟨k,b,w,n⟩∧(k:Int) < p.words∧b + w≤64∧w≤6∧s[i]?=some x∧0≤x∧x < n∧x < 2 ^ w:=by
  obtain ⟨h1,⟨W,hW,_,_,h2⟩,h3⟩:=h
  have hi:=AJ hf
  obtain ⟨n,hn⟩:=AH (l:=vars) (k:=i) (by omega)
  obtain ⟨x,hx⟩:=AH (l:=s) (k:=i) (by have:=hs.1;omega)
  obtain ⟨k,b,w,e,e1,e2,e3,e4⟩:=h2 i f n hf hn
  have:=hs.2 i x n hx hn
  exact ⟨k,b,w,n,x,e,by omega,e2,e3,hx,this.1,this.2,by omega⟩
theorem PkOk.same {vars:List Int} {p:Pkr} (h:PkOk vars p) {i j:Nat} {f g:PFd} {k c:Nat} (hf:p.fields[i]?=some f) (hg:p.fields[j]?=some g) (h1:f.word=(k:Int)∧f.bit≤(c:Int)∧(c:Int) < f.bit + f.width) (h2:g.word=(k:Int)∧g.bit≤(c:Int)∧(c:Int) < g.bit + g.width):i=j:=by
  rcases Nat.lt_trichotomy i j with hh|hh|hh
  · have:=h.2.2 i j f g hh hf hg;omega
  · exact hh
  · have:=h.2.2 j i g f hh hg hf;omega
theorem HJ {vars:List Int} {p:Pkr} (h:PkOk vars p) (hl:vars.length≤64) {s:List Int} (hs:StateOk vars s):∃ r,Bw p s=some r∧r.2=⟨0⟩∧(r.1.length:Int)=p.words∧Bits p.fields s (fun _=>True) r.1:=by
  obtain ⟨W,hW,hW1,hW2,_⟩:=h.2.1
  unfold Bw
  rw [if_neg (by have:=h.1;have:=hs.1;omega),hW,IB (by omega) (by omega),AB]
  refine Gi (fun m ws=>(ws.length:Int)=(W:Int)∧Bits p.fields s (fun i=>i < m) ws) (fun _=>False) ⟨by simp,?_⟩ ?_ ?_ (fun q hq=>hq.elim)
  · intro k c a ha _
    have:=List.eq_of_mem_replicate (List.mem_of_getElem? ha)
    subst this
    constructor
    · intro hh;simp at hh
    · rintro ⟨i,_,_,hi,_⟩;omega
  · rintro m f ws hm ⟨hwl,hb⟩
    refine .inl (Lj ?_)
    obtain ⟨k,b,w,n,x,rfl,hk,hbw,hw,hx,hx0,hxn,hxw⟩:=h.field hs hm
    dsimp only
    obtain ⟨a,ha⟩:=AH (l:=ws) (k:=k) (by omega)
    rw [hx,AB,if_neg (by omega),AB,if_neg (by omega),AB,if_f,Bu,ha,AB,AB]
    unfold shlU
    rw [if_pos (by omega),AB,AB]
    refine ⟨_,rfl,_,rfl,by simpa using hwl,?_⟩
    simp only [Int.toNat_natCast]
    have hxb:∀ c:Nat,c < 64→((a ||| (BitVec.ofInt 64 x <<< b)).getLsbD c=true↔a.getLsbD c=true∨(b≤c∧x.toNat.testBit (c - b)=true)):=by
      intro c hc
      have hofi:BitVec.ofInt 64 x=BitVec.ofNat 64 x.toNat:=by
        rw [← BitVec.ofInt_natCast,Int.toNat_of_nonneg hx0]
      rw [BitVec.getLsbD_or,BitVec.getLsbD_shiftLeft,hofi,BitVec.getLsbD_ofNat]
      by_cases h1:b≤c
      · have:c - b < 64:=by omega
        simp [hc,h1,this,Nat.not_lt.2 h1]
      · simp [hc,h1,Nat.lt_of_not_le h1]
    intro k' c a' ha' hc
    by_cases e:k=k'
    · subst e
      rw [List.getElem?_set_self (AJ ha)] at ha'
      obtain rfl:=Option.some.inj ha'
      rw [hxb c hc,hb k c a ha hc]
      constructor
      · rintro (⟨i,f,y,hi,hr⟩|⟨h1,h2⟩)
        · exact ⟨i,f,y,by omega,hr⟩
        · have:=Jc hx0 hxw h2
          exact ⟨m,_,x,by omega,hm,hx,rfl,by dsimp only;omega,by dsimp only;omega,by simpa using h2⟩
      · rintro ⟨i,f,y,hi,hf,hy,hin⟩
        by_cases he:i=m
        · subst he
          rw [hm] at hf
          obtain rfl:=Option.some.inj hf
          rw [hx] at hy
          obtain rfl:=Option.some.inj hy
          obtain ⟨_,i2,i3,i4⟩:=hin
          dsimp only at i2 i3 i4
          exact .inr ⟨by omega,by simpa using i4⟩
        · exact .inl ⟨i,f,y,by omega,hf,hy,hin⟩
    · rw [List.getElem?_set_ne e] at ha'
      rw [hb k' c a' ha' hc]
      constructor
      · rintro ⟨i,f,y,hi,hr⟩;exact ⟨i,f,y,by omega,hr⟩
      · rintro ⟨i,f,y,hi,hf,hy,hin⟩
        by_cases he:i=m
        · subst he
          rw [hm] at hf
          obtain rfl:=Option.some.inj hf
          have:=hin.1
          dsimp only at this
          omega
        · exact ⟨i,f,y,by omega,hf,hy,hin⟩
  · rintro ws ⟨hwl,hb⟩
    refine ⟨_,rfl,rfl,hwl,fun k c a ha hc=>?_⟩
    rw [hb k c a ha hc]
    constructor
    · rintro ⟨i,f,x,_,hr⟩;exact ⟨i,f,x,trivial,hr⟩
    · rintro ⟨i,f,x,_,hf,hr⟩;exact ⟨i,f,x,AJ hf,hf,hr⟩
theorem Lk {k b w:Nat} {n:Int}:Ca ⟨k,b,w,n⟩=some ((((1:U64) <<< w) - (1:U64)) <<< b):=by
  unfold Ca shlU
  dsimp only
  rw [if_pos (by omega),AB,if_pos (by omega),AB]
  simp
theorem Oq {vars:List Int} {p:Pkr} (h:PkOk vars p) {s:List Int} (hs:StateOk vars s) {ws:List U64} (hwl:(ws.length:Int)=p.words) (hb:Bits p.fields s (fun _=>True) ws) {i:Nat} {f:PFd} {x:Int} (hf:p.fields[i]?=some f) (hx:s[i]?=some x):Cr f ws=some x:=by
  obtain ⟨k,b,w,n,x',rfl,hk,hbw,hw,hx',hx0,hxn,hxw⟩:=h.field hs hf
  rw [hx] at hx'
  obtain rfl:=Option.some.inj hx'
  obtain ⟨a,ha⟩:=AH (l:=ws) (k:=k) (by omega)
  unfold Cr
  dsimp only
  rw [Bu,ha,AB,Lk,AB]
  unfold shrU
  rw [if_pos (by omega),AB]
  have hval : (a &&& ((((1:U64) <<< w) - (1:U64)) <<< b)) >>> b=BitVec.ofNat 64 x.toNat:=by
    apply BitVec.eq_of_getLsbD_eq
    intro j hj
    rw [BitVec.getLsbD_ushiftRight,BitVec.getLsbD_and,BitVec.getLsbD_ofNat]
    by_cases hjb:b + j < 64
    · rw [Kk hw hjb]
      by_cases hjw:j < w
      · have h1:=hb k (b + j) a ha hjb
        have h2:a.getLsbD (b + j)=x.toNat.testBit j:=by
          cases ht:x.toNat.testBit j with
          | true=>exact h1.2 ⟨i,_,x,trivial,hf,hx,rfl,by dsimp only;omega,by dsimp only;omega,by simpa using ht⟩
          | false =>
            cases hg:a.getLsbD (b + j) with
            | false=>rfl
            | true =>
              obtain ⟨i',f',x',_,hf',hx',hin⟩:=h1.1 hg
              have hii:=h.same (k:=k) (c:=b + j) hf hf' ⟨rfl,by dsimp only;omega,by dsimp only;omega⟩ ⟨hin.1,hin.2.1,hin.2.2.1⟩
              subst hii
              rw [hf] at hf'
              obtain rfl:=Option.some.inj hf'
              rw [hx] at hx'
              obtain rfl:=Option.some.inj hx'
              have:=hin.2.2.2
              simp at this
              rw [this] at ht
              cases ht
        rw [h2]
        simp [hj,hjw]
      · have hf0:x.toNat.testBit j=false:=by
          cases ht:x.toNat.testBit j with
          | false=>rfl
          | true=>exact absurd (Jc hx0 hxw ht) hjw
        simp [hf0,hjw]
    · have hf0:x.toNat.testBit j=false:=by
        cases ht:x.toNat.testBit j with
        | false=>rfl
        | true=>have:=Jc hx0 hxw ht;omega
      rw [BitVec.getLsbD_of_ge _ _ (by omega)]
      simp [hf0]
  have h64:(2:Int) ^ w≤64:=by
    have:w=0∨w=1∨w=2∨w=3∨w=4∨w=5∨w=6:=by omega
    rcases this with rfl|rfl|rfl|rfl|rfl|rfl|rfl<;>decide
  simp only [Int.toNat_natCast]
  rw [hval]
  congr 1
  rw [BitVec.toInt_eq_toNat_of_lt (by rw [BitVec.toNat_ofNat];omega),BitVec.toNat_ofNat]
  omega
theorem Hw {vars:List Int} {p:Pkr} (h:PkOk vars p) (hl:vars.length≤64) {s:List Int} (hs:StateOk vars s) {ws:List U64} (hwl:(ws.length:Int)=p.words) (hb:Bits p.fields s (fun _=>True) ws):BY p ws=some (s,⟨0⟩):=by
  obtain ⟨W,hW,hW1,hW2,_⟩:=h.2.1
  have hsl:=hs.1
  have hfl:=h.1
  unfold BY
  rw [if_neg (by omega),IB (by omega) (by omega),AB]
  unfold BA
  rw [if_pos (by omega),AB]
  refine Ja (fun m st=>st.1.length=s.length∧(∀ (i:Nat) x,i < m→s[i]?=some x→st.1[i]?=some x)∧st.2.length=ws.length∧Bits p.fields s (fun i=>m≤i) st.2) ⟨by simp;omega,fun i x hi=>by omega,rfl,?_⟩ ?_ ?_
  · intro k c a ha hc
    rw [hb k c a ha hc]
    constructor
    · rintro ⟨i,f,x,_,hr⟩;exact ⟨i,f,x,by omega,hr⟩
    · rintro ⟨i,f,x,_,hr⟩;exact ⟨i,f,x,trivial,hr⟩
  · rintro m f ⟨out,rest⟩ hm ⟨i1,i2,i3,i4⟩
    dsimp only at i1 i2 i3 i4 ⊢
    obtain ⟨k,b,w,n,x,rfl,hk,hbw,hw,hx,hx0,hxn,hxw⟩:=h.field hs hm
    have hml:=AJ hx
    obtain ⟨u,hu⟩:=AH (l:=out) (k:=m) (by omega)
    obtain ⟨a,ha⟩:=AH (l:=rest) (k:=k) (by omega)
    rw [Oq h hs hwl hb hm hx,AB,hu,AB,List.getElem?_set_self (by omega),AB]
    dsimp only
    rw [if_neg (by omega),Bu,ha,AB,Lk,AB,AB]
    refine ⟨_,rfl,by simpa using i1,fun i y hi hy=>?_,by simpa using i3,?_⟩
    · by_cases e:i=m
      · subst e
        rw [hx] at hy
        obtain rfl:=Option.some.inj hy
        exact List.getElem?_set_self (by omega)
      · show (out.set m x)[i]?=_
        rw [List.getElem?_set_ne (by omega)]
        exact i2 i y (by omega) hy
    · show Bits p.fields s _ (rest.set ((k:Int)).toNat _)
      simp only [Int.toNat_natCast]
      intro k' c a' ha' hc
      by_cases e:k=k'
      · subst e
        rw [List.getElem?_set_self (AJ ha)] at ha'
        obtain rfl:=Option.some.inj ha'
        rw [BitVec.getLsbD_and,BitVec.getLsbD_not,Kk hw hc]
        have h1:=i4 k c a ha hc
        constructor
        · intro hh
          simp only [Bool.and_eq_true,Bool.not_eq_true',decide_eq_true_eq] at hh
          obtain ⟨i,f,y,hi,hf,hy,hin⟩:=h1.1 hh.1
          refine ⟨i,f,y,?_,hf,hy,hin⟩
          rcases Nat.lt_or_ge m i with hlt|hge
          · exact hlt
          · exfalso
            obtain rfl:i=m:=by omega
            rw [hm] at hf
            obtain rfl:=Option.some.inj hf
            obtain ⟨_,j2,j3,_⟩:=hin
            dsimp only at j2 j3
            have h2:=hh.2.2
            rw [show decide (b≤c)=true from by simp;omega,show decide (c < b + w)=true from by simp;omega] at h2
            cases h2
        · rintro ⟨i,f,y,hi,hf,hy,hin⟩
          have hg:=h1.2 ⟨i,f,y,by omega,hf,hy,hin⟩
          have hno:¬ (b≤c∧c < b + w):=fun hh=>by
            have:=h.same (k:=k) (c:=c) hm hf ⟨rfl,by dsimp only;omega,by dsimp only;omega⟩ ⟨hin.1,hin.2.1,hin.2.2.1⟩
            omega
          rw [hg]
          by_cases q1:b≤c
          · have q2:¬ c < b + w:=fun hh=>hno ⟨q1,hh⟩
            simp [hc,q1,q2]
          · simp [hc,q1]
      · rw [List.getElem?_set_ne e] at ha'
        rw [i4 k' c a' ha' hc]
        constructor
        · rintro ⟨i,f,y,hi,hf,hy,hin⟩
          refine ⟨i,f,y,?_,hf,hy,hin⟩
          rcases Nat.lt_or_ge m i with hlt|hge
          · exact hlt
          · exfalso
            obtain rfl:i=m:=by omega
            rw [hm] at hf
            obtain rfl:=Option.some.inj hf
            have:=hin.1
            dsimp only at this
            omega
        · rintro ⟨i,f,y,hi,hr⟩;exact ⟨i,f,y,by omega,hr⟩
  · rintro ⟨out,rest⟩ ⟨i1,i2,i3,i4⟩
    dsimp only at i1 i2 i3 i4
    rw [fin_d]
    dsimp only
    have hout:out=s:=by
      apply List.ext_getElem?
      intro i
      rcases Nat.lt_or_ge i s.length with hi|hi
      · obtain ⟨x,hx⟩:=AH (l:=s) (k:=i) hi
        rw [hx];exact i2 i x (by omega) hx
      · rw [List.getElem?_eq_none hi,List.getElem?_eq_none (by omega)]
    subst hout
    refine Ja (fun _ _=>True) trivial (fun k a _ hk _=>⟨(),?_,trivial⟩) (fun _ _=>rfl)
    obtain ⟨a',ha'⟩:=AH (l:=rest) (k:=k) (by have:=AJ hk;omega)
    rw [ha',AB]
    have hz:a'=0:=by
      apply BitVec.eq_of_getLsbD_eq
      intro c hc
      cases hg:a'.getLsbD c with
      | false=>simp
      | true =>
        obtain ⟨i,f,x,hi,hf,_⟩:=(i4 k c a' ha' hc).1 hg
        have:=AJ hf
        omega
    subst hz
    rw [if_neg (by simp)]
theorem MV {vars:List Int} {p:Pkr} (h:PkOk vars p) (hl:vars.length≤64) {s s':List Int} (hs:StateOk vars s) (hs':StateOk vars s') {ws:List U64} (h1:Bw p s=some (ws,⟨0⟩)) (h2:Bw p s'=some (ws,⟨0⟩)):s=s':=by
  obtain ⟨r,r1,r2,r3,r4⟩:=HJ h hl hs
  obtain ⟨q,q1,q2,q3,q4⟩:=HJ h hl hs'
  rw [h1] at r1
  rw [h2] at q1
  obtain rfl:=Option.some.inj r1
  obtain rfl:=Option.some.inj q1
  have e1:=Hw h hl hs r3 r4
  have e2:=Hw h hl hs' q3 q4
  rw [e1] at e2
  have:=Option.some.inj e2
  exact congrArg Prod.fst this
end
section
open Go Go.RowKit
theorem Jv {K V:Type} [MKey K] (z:V) (k k':K) (v:V):∀ l:List (K×V),mget z (mput l k v) k'=if k=k' then v else mget z l k'
  | []=>by simp only [mput,mget]
  | p :: r=>by
    have ih:=Jv z k k' v r
    simp only [mput]
    by_cases h1:p.1=k
    · rw [if_pos h1]
      simp only [mget]
      by_cases h2:k=k'
      · rw [if_pos h2,if_pos h2]
      · rw [if_neg h2,if_neg h2,if_neg (by rw [h1];exact h2)]
    · rw [if_neg h1]
      simp only [mget,ih]
      by_cases h2:k=k'
      · rw [if_pos h2,if_pos h2,if_neg (by rw [← h2];exact h1)]
      · rw [if_neg h2,if_neg h2]
theorem Mt (p:Pkr) (ws:List U64):∃ h,BB p ws=some h:=by
  have:∃ r,BB p ws=some r∧True:=by
    unfold BB
    refine Gi (fun _ _=>True) (fun _=>False) trivial (fun i x s _ _=>.inl ?_) (fun s _=>?_) (fun q hq=>hq.elim)
    · exact ⟨_,rfl,trivial⟩
    · exact ⟨_,rfl,trivial⟩
  obtain ⟨h,h1,_⟩:=this
  exact ⟨h,h1⟩
theorem Or (a b:List U64):Bo a b=some (decide (a=b)):=by
  unfold Bo
  by_cases hl:(a.length:Int)=(b.length:Int)
  · rw [if_neg (by omega)]
    have:∃ r,(bnd (rng (ρ:=Bool) (fun (k18:Nat) (a19:U64) (_:Unit)=>bnd (b[k18]?) fun a36=>if (a19.toNat:Int)≠(a36.toNat:Int) then (some (.ret false)) else (some (.next ()))) a 0 ()) fun res14=>fin res14 fun (_:Unit)=>some true)=some r∧r=decide (a=b):=by
      refine Gi (fun m _=>∀ (i:Nat),i < m→a[i]?=b[i]?) (fun r=>r=false∧a≠b) (fun i hi=>by omega) ?_ ?_ ?_
      · intro i x _ hx hI
        obtain ⟨y,hy⟩:=AH (l:=b) (k:=i) (by have:=AJ hx;omega)
        rw [hy,AB]
        by_cases he:x=y
        · subst he
          rw [if_neg (by simp)]
          refine .inl ⟨(),rfl,fun j hj=>?_⟩
          by_cases e:j=i
          · subst e;rw [hx,hy]
          · exact hI j (by omega)
        · rw [if_pos (fun h=>he (BitVec.eq_of_toNat_eq (by omega)))]
          refine .inr ⟨_,rfl,rfl,fun h=>he ?_⟩
          rw [h,hy] at hx
          exact (Option.some.inj hx).symm
      · intro _ hI
        refine ⟨_,rfl,?_⟩
        symm
        rw [decide_eq_true_eq]
        apply List.ext_getElem?
        intro i
        rcases Nat.lt_or_ge i a.length with h|h
        · exact hI i h
        · rw [List.getElem?_eq_none h,List.getElem?_eq_none (by omega)]
      · rintro q ⟨rfl,hne⟩
        exact ⟨_,rfl,by simp [hne]⟩
    obtain ⟨r,h1,h2⟩:=this
    rw [h1,h2]
  · rw [if_pos hl]
    congr 1
    symm
    rw [decide_eq_false_iff_not]
    exact fun h=>hl (by rw [h])
structure RegI (vars:List Int) (r:Reg) (L:List (List Int)):Prop where
  pk:PkOk vars r.packer
  len:r.entries.length=L.length
  st:∀ (i:Nat) s,L[i]?=some s→StateOk vars s
  words:∀ (i:Nat) s e,L[i]?=some s→r.entries[i]?=some e→Bw r.packer s=some (e.words,⟨0⟩)
  nodup:∀ (i j:Nat) s,L[i]?=some s→L[j]?=some s→i=j
  tab:∀ (i:Nat) e,r.entries[i]?=some e→∃ h,BB r.packer e.words=some h∧(i:Int)∈mget ([]:List Int) r.table.l h
  val:∀ h a,a∈mget ([]:List Int) r.table.l h→∃ i:Nat,a=(i:Int)∧i < L.length
  few:∀ h,(mget ([]:List Int) r.table.l h).length≤L.length
def links (r:Reg):List RLk:=r.entries.map (·.link)
theorem Mu {vars:List Int} (hl:vars.length≤64) (hv:∀ (i:Nat) n,vars[i]?=some n→1≤n∧n≤64):∃ r,CE vars=some r∧∃ q,r=(some q,⟨0⟩)∧RegI vars q []∧links q=[]:=by
  obtain ⟨r,h1,p,rfl,hp⟩:=LF hl hv
  unfold CE
  rw [h1,AB,if_neg (by simp),AB]
  exact ⟨_,rfl,_,rfl,⟨hp,rfl,fun i s h=>by simp at h,fun i s e h=>by simp at h,fun i j s h=>by simp at h,fun i e h=>by simp at h,fun h a ha=>by simp [mget] at ha,fun h=>by simp [mget]⟩,rfl⟩
theorem LG {vars:List Int} (hl:vars.length≤64) {r:Reg} {L:List (List Int)} (h:RegI vars r L) {s:List Int} (hs:StateOk vars s):∃ (ws:List U64) (hh:Int),Bw r.packer s=some (ws,⟨0⟩)∧BB r.packer ws=some hh ∧
    ((∃ i:Nat,L[i]?=some s∧Bk r s=some (ws,hh,(i:Int),⟨0⟩))∨((∀ i:Nat,L[i]?≠some s)∧Bk r s=some (ws,hh,-1,⟨0⟩))):=by
  obtain ⟨⟨ws,er⟩,p1,p2,p3,p4⟩:=HJ h.pk hl hs
  dsimp only at p2 p3 p4
  subst p2
  obtain ⟨hh,hhe⟩:=Mt r.packer ws
  refine ⟨ws,hh,p1,hhe,?_⟩
  have key:∃ res,Bk r s=some res∧((∃ i:Nat,L[i]?=some s∧res=(ws,hh,(i:Int),⟨0⟩))∨((∀ i:Nat,L[i]?≠some s)∧res=(ws,hh,-1,⟨0⟩))):=by
    unfold Bk
    rw [p1,AB,if_neg (by simp),hhe,AB]
    refine Gi (fun m _=>∀ (j:Nat) (i:Nat),j < m→(mget ([]:List Int) r.table.l hh)[j]?=some (i:Int)→L[i]?≠some s) (fun res=>∃ i:Nat,L[i]?=some s∧res=(ws,hh,(i:Int),⟨0⟩)) (fun j i hj=>by omega) ?_ ?_ ?_
    · intro m a _ hm hI
      obtain ⟨i,rfl,hi⟩:=h.val hh a (List.mem_of_getElem? hm)
      obtain ⟨e,he⟩:=AH (l:=r.entries) (k:=i) (by rw [h.len];exact hi)
      obtain ⟨s',hs'⟩:=AH (l:=L) (k:=i) hi
      have hw:=h.words i s' e hs' he
      rw [Bu,he,AB,Or,AB]
      by_cases hew:e.words=ws
      · rw [decide_eq_true hew,if_t]
        rw [hew] at hw
        have:=MV h.pk hl (h.st i s' hs') hs hw p1
        subst this
        exact .inr ⟨_,rfl,i,hs',rfl⟩
      · rw [decide_eq_false hew,if_f]
        refine .inl ⟨(),rfl,fun j i' hj hi'=>?_⟩
        by_cases e1:j=m
        · subst e1
          rw [hm] at hi'
          have e2:i=i':=by have:=Option.some.inj hi';omega
          subst e2
          intro hL
          rw [hL] at hs'
          obtain rfl:=Option.some.inj hs'
          rw [p1] at hw
          exact hew (congrArg Prod.fst (Option.some.inj hw)).symm
        · exact hI j i' (by omega) hi'
    · intro _ hI
      refine ⟨_,rfl,.inr ⟨fun i hL=>?_,rfl⟩⟩
      obtain ⟨e,he⟩:=AH (l:=r.entries) (k:=i) (by rw [h.len];exact AJ hL)
      have hw:=h.words i s e hL he
      rw [p1] at hw
      have hwe:ws=e.words:=congrArg Prod.fst (Option.some.inj hw)
      obtain ⟨h',t1,t2⟩:=h.tab i e he
      rw [← hwe,hhe] at t1
      obtain rfl:=Option.some.inj t1
      obtain ⟨j,hj⟩:=List.getElem?_of_mem t2
      exact hI j i (AJ hj) hj hL
    · rintro q ⟨i,hi,rfl⟩
      exact ⟨_,rfl,.inl ⟨i,hi,rfl⟩⟩
  obtain ⟨res,k1,k2⟩:=key
  rcases k2 with ⟨i,hi,rfl⟩|⟨hn,rfl⟩
  · exact .inl ⟨i,hi,k1⟩
  · exact .inr ⟨hn,k1⟩
theorem Jw {vars:List Int} (hl:vars.length≤64) {r:Reg} {L:List (List Int)} (h:RegI vars r L) {s:List Int} (hs:StateOk vars s) (hL:L.length < 65536) :
    (∃ i:Nat,L[i]?=some s∧Bh r s=some ((i:Int),false,⟨0⟩,r))∨((∀ i:Nat,L[i]?≠some s)∧∃ r',Bh r s=some ((L.length:Int),true,⟨0⟩,r')∧RegI vars r' (L ++ [s])∧links r'=links r ++ [⟨-1,-1,0⟩]):=by
  obtain ⟨ws,hh,p1,p2,hf⟩:=LG hl h hs
  unfold Bh
  have hlen:=h.len
  rcases hf with ⟨i,hi,hf⟩|⟨hno,hf⟩
  · refine .inl ⟨i,hi,?_⟩
    rw [hf,AB,if_neg (by simp),if_pos (by dsimp only;omega)]
  · refine .inr ⟨hno,?_⟩
    have hfew:=h.few hh
    rw [hf,AB,if_neg (by simp),if_neg (by dsimp only;omega),if_neg (by omega)]
    dsimp only
    rw [BZ (by simp;omega) (by simp;omega),AB,BZ (by simp;omega) (by simp;omega),AB,hlen]
    have hget:∀ k,mget ([]:List Int) (mput r.table.l hh (mget ([]:List Int) r.table.l hh ++ [(L.length:Int)])) k=if hh=k then mget ([]:List Int) r.table.l hh ++ [(L.length:Int)] else mget ([]:List Int) r.table.l k:=fun k=>Jv _ _ _ _ _
    refine ⟨_,rfl,⟨h.pk,by simp [hlen],?_,?_,?_,?_,?_,?_⟩,by simp [links]⟩
    · intro i s' hi
      rcases CS hi with hi|⟨_,rfl⟩
      · exact h.st i s' hi
      · exact hs
    · intro i s' e hi he
      rcases CS hi with hi|⟨hi,rfl⟩
      · rcases CS he with he|⟨he,_⟩
        · exact h.words i s' e hi he
        · have:=AJ hi;omega
      · rcases CS he with he|⟨he,rfl⟩
        · have:=AJ he;omega
        · exact p1
    · intro i j s' hi hj
      rcases CS hi with hi2|⟨hi2,hs2⟩
      · rcases CS hj with hj2|⟨hj2,hs2⟩
        · exact h.nodup i j s' hi2 hj2
        · exact absurd (hs2 ▸ hi2) (hno i)
      · rcases CS hj with hj2|⟨hj2,_⟩
        · exact absurd (hs2 ▸ hj2) (hno j)
        · omega
    · intro i e he
      rcases CS he with he|⟨hi,rfl⟩
      · obtain ⟨k,k1,k2⟩:=h.tab i e he
        refine ⟨k,k1,?_⟩
        dsimp only
        rw [hget]
        by_cases e1:hh=k
        · subst e1;rw [if_pos rfl];exact List.mem_append_left _ k2
        · rw [if_neg e1];exact k2
      · refine ⟨hh,p2,?_⟩
        dsimp only
        rw [hget,if_pos rfl,hi,hlen]
        simp
    · intro k a ha
      dsimp only at ha
      rw [hget] at ha
      simp only [List.length_append,List.length_singleton]
      by_cases e1:hh=k
      · rw [if_pos e1] at ha
        rcases List.mem_append.1 ha with ha|ha
        · obtain ⟨i,h1,h2⟩:=h.val hh a ha;exact ⟨i,h1,by omega⟩
        · exact ⟨L.length,by simpa using ha,by omega⟩
      · rw [if_neg e1] at ha
        obtain ⟨i,h1,h2⟩:=h.val k a ha;exact ⟨i,h1,by omega⟩
    · intro k
      dsimp only
      rw [hget]
      have:=h.few k
      simp only [List.length_append,List.length_singleton]
      by_cases e1:hh=k
      · rw [if_pos e1];simp;omega
      · rw [if_neg e1];omega
theorem FN {vars:List Int} {r:Reg} {L:List (List Int)} (h:RegI vars r L) {i:Nat} (hi:i < L.length):AY r (i:Int)=some true:=by
  unfold AY
  rw [if_pos (by omega),if_pos (by rw [h.len];omega)]
  rfl
theorem KM {vars:List Int} (hl:vars.length≤64) {r:Reg} {L:List (List Int)} (h:RegI vars r L) {i:Nat} {s:List Int} (hi:L[i]?=some s):Br r (i:Int)=some (s,⟨0⟩):=by
  obtain ⟨e,he⟩:=AH (l:=r.entries) (k:=i) (by rw [h.len];exact AJ hi)
  have hs:=h.st i s hi
  obtain ⟨⟨ws,er⟩,p1,p2,p3,p4⟩:=HJ h.pk hl hs
  have hw:=h.words i s e hi he
  rw [p1] at hw
  have hwe:ws=e.words:=congrArg Prod.fst (Option.some.inj hw)
  dsimp only at p3 p4
  rw [hwe] at p3 p4
  unfold Br
  rw [FN h (AJ hi),AB,if_t,Bu,he,AB,Hw h.pk hl hs p3 p4,AB]
theorem IO {vars:List Int} {r:Reg} {L:List (List Int)} (h:RegI vars r L) {i:Nat} (hi:i < L.length) {p o c:Int} (hp:p=-1∨∃ j:Nat,p=(j:Int)∧j < L.length):∃ r',Bi r (i:Int) p o c=some (⟨0⟩,r')∧RegI vars r' L∧links r'=(links r).set i ⟨p,o,c⟩:=by
  obtain ⟨e,he⟩:=AH (l:=r.entries) (k:=i) (by rw [h.len];exact hi)
  unfold Bi
  have hcond:(bnd (AY r (i:Int)) fun q10=>if q10=true then if p≠(-1) then (bnd (AY r p) fun q20=>if q20=true then some false else some true) else (some false) else some true:Option Bool)=some false:=by
    rw [FN h hi,AB,if_t]
    rcases hp with rfl|⟨j,rfl,hj⟩
    · rfl
    · rw [if_pos (by omega),FN h hj];rfl
  rw [hcond,AB,if_f,Bu,he,AB]
  have hge:∀ (j:Nat) x,(r.entries.set ((i:Int)).toNat ({ e with link:=(⟨p,o,c⟩:RLk) }:REn))[j]?=some x→∃ y,r.entries[j]?=some y∧x.words=y.words:=by
    intro j x hx
    rw [Int.toNat_natCast] at hx
    by_cases e1:i=j
    · subst e1
      rw [List.getElem?_set_self (AJ he)] at hx
      obtain rfl:=Option.some.inj hx
      exact ⟨e,he,rfl⟩
    · rw [List.getElem?_set_ne e1] at hx
      exact ⟨x,hx,rfl⟩
  refine ⟨_,rfl,⟨h.pk,by simp [h.len],h.st,?_,h.nodup,?_,h.val,h.few⟩,?_⟩
  · intro j s x hj hx
    obtain ⟨y,hy,hxy⟩:=hge j x hx
    rw [hxy];exact h.words j s y hj hy
  · intro j x hx
    obtain ⟨y,hy,hxy⟩:=hge j x hx
    rw [hxy];exact h.tab j y hy
  · simp [links,List.map_set]
theorem Ot {xs:List Int} (hl:xs.length≤1000000):Bt xs=some xs.reverse:=by
  unfold Bt
  rw [Bp (by unfold inI64;omega),AB]
  refine Nt (fun s=>∃ i:Nat,s.2.1=(i:Int)∧s.2.1 + s.2.2=(xs.length:Int) - 1∧i≤xs.length∧s.1.length=xs.length∧∀ k:Nat,k < xs.length→s.1[k]?=if k < i∨xs.length - 1 - k < i then xs[xs.length - 1 - k]? else xs[k]?) (fun s=>s.1=xs.reverse) (fun s=>(s.2.2 - s.2.1 + 1).toNat) ⟨0,rfl,by dsimp only;omega,by omega,rfl,fun k hk=>by rw [if_neg (by omega)]⟩ ?_ (fun s hs=>by rw [fin_d,hs])
  rintro ⟨ys,i',j⟩ ⟨i,hi,hij,hil,hlen,hg⟩
  dsimp only at hi hij hlen hg ⊢
  subst hi
  by_cases hlt:(i:Int) < j
  · obtain ⟨jn,rfl⟩:∃ jn:Nat,j=(jn:Int):=⟨j.toNat,by omega⟩
    obtain ⟨a,ha⟩:=AH (l:=ys) (k:=jn) (by omega)
    obtain ⟨b,hb⟩:=AH (l:=ys) (k:=i) (by omega)
    rw [if_pos hlt,Bu,ha,AB,Bu,hb,AB,AB,Int.toNat_natCast,Int.toNat_natCast,Bu,List.getElem?_set_ne (by omega),ha,AB,Bp (by unfold inI64;omega),AB,Bp (by unfold inI64;omega),AB]
    refine .inl ⟨_,rfl,⟨i + 1,by dsimp only;omega,by dsimp only;omega,by omega,by simp [hlen],fun k hk=>?_⟩,by dsimp only;omega⟩
    dsimp only
    have hga:=hg jn (by omega)
    rw [ha,if_neg (by omega)] at hga
    have hgb:=hg i (by omega)
    rw [hb,if_neg (by omega)] at hgb
    by_cases e1:k=jn
    · subst e1
      rw [List.getElem?_set_self (by simp;omega),if_pos (by omega),hgb]
      congr 1;omega
    · rw [List.getElem?_set_ne (by omega)]
      by_cases e2:k=i
      · subst e2
        rw [List.getElem?_set_self (by omega),if_pos (by omega),hga]
        congr 1;omega
      · rw [List.getElem?_set_ne (by omega),hg k hk]
        by_cases e3:k < i∨xs.length - 1 - k < i
        · rw [if_pos e3,if_pos (by omega)]
        · rw [if_neg e3,if_neg (by omega)]
  · rw [if_neg hlt]
    refine .inr ⟨_,rfl,?_⟩
    dsimp only
    apply List.ext_getElem?
    intro k
    rcases Nat.lt_or_ge k xs.length with hk|hk
    · rw [List.getElem?_reverse hk,hg k hk]
      by_cases e3:k < i∨xs.length - 1 - k < i
      · rw [if_pos e3]
      · rw [if_neg e3];congr 1;omega
    · rw [List.getElem?_eq_none (by omega),List.getElem?_eq_none (by simp;omega)]
inductive PathL (lk:List RLk):Nat→List Int→Prop
  | root {i:Nat} {k:RLk}:lk[i]?=some k→k.parent < 0→PathL lk i []
  | step {i j:Nat} {k:RLk} {p:List Int}:lk[i]?=some k→k.parent=(j:Int)→PathL lk j p→PathL lk i (p ++ [k.op])
theorem Nx {vars:List Int} {r:Reg} {L:List (List Int)} (h:RegI vars r L) (hL:L.length≤65536) {i:Nat} {p:List Int} (hp:PathL (links r) i p) (hl:p.length≤L.length):BF r (i:Int)=some (p,⟨0⟩):=by
  have hget:∀ {i:Nat} {k:RLk},(links r)[i]?=some k→∃ e:REn,r.entries[i]?=some e∧e.link=k:=by
    intro i k hk
    unfold links at hk
    rw [List.getElem?_map] at hk
    cases he:r.entries[i]? with
    | none=>rw [he] at hk;cases hk
    | some e=>rw [he] at hk;exact ⟨e,rfl,by simpa using hk⟩
  have hil:i < L.length:=by
    have:∃ k,(links r)[i]?=some k:=by cases hp with|root h1 _=>exact ⟨_,h1⟩|step h1 _ _=>exact ⟨_,h1⟩
    obtain ⟨k,hk⟩:=this
    obtain ⟨e,he,_⟩:=hget hk
    rw [← h.len];exact AJ he
  unfold BF
  rw [FN h hil,AB,if_t]
  have key:∀ {i p},PathL (links r) i p→∀ acc:List Int,acc.length + p.length≤L.length→lop (ρ:=(List Int)×Err) (fun (s14:Int×(List Int))=>bnd (atI r.entries s14.1) fun a48=>if a48.link.parent < 0 then (bnd (Bt s14.2) fun q74=>some (.ret (q74,(⟨0⟩:Err)))) else (bnd (appI 8 s14.2 [a48.link.op]) fun u89=>if (r.entries.length:Int) < (u89.length:Int) then (some (.ret (([]:List Int),(⟨21⟩:Err)))) else (some (.next (a48.link.parent,u89))))) ((i:Int),acc)=some (.ret (p ++ acc.reverse,⟨0⟩)):=by
    intro i p hp
    induction hp with
    | root h1 h2 =>
      intro acc ha
      obtain ⟨e,he,rfl⟩:=hget h1
      rw [DF]
      dsimp only
      rw [Bu,he,AB,if_pos h2,Ot (by omega),AB]
      rfl
    | @step i j k p h1 h2 _ ih =>
      intro acc ha
      obtain ⟨e,he,rfl⟩:=hget h1
      simp at ha
      rw [DF]
      dsimp only
      rw [Bu,he,AB,if_neg (by omega),BZ (by simp;omega) (by simp;omega),AB,if_neg (by rw [h.len];simp;omega),h2]
      dsimp only
      rw [ih (acc ++ [e.link.op]) (by simp;omega)]
      simp
  rw [key hp [] (by simpa using hl),AB]
  simp [fin]
end
section
open Go Go.RowKit
inductive Rch (t:Tsk):List Int→Prop
  | init:Rch t t.init
  | step {s:List Int} {k:Nat} {o:Opr}:Rch t s→t.ops[k]?=some o→holdsB o.pre s=true→Rch t (succ o s)
theorem Rch.ok {t:Tsk} (h:TaskOk t) {s:List Int} (hr:Rch t s):StateOk t.vars s:=by
  induction hr with
  | init=>exact h.2.2.2.1
  | step _ ho _ ih=>exact Lg h ih ho
theorem PlanR.snoc {t:Tsk} {s p s':List Int} {C:Int} (h:PlanR t s p s' C) {k:Nat} {o:Opr} (ho:t.ops[k]?=some o) (hp:holdsB o.pre s'=true):PlanR t s (p ++ [(k:Int)]) (succ o s') (C + o.cost):=by
  induction h with
  | nil=>have:=PlanR.cons ho hp (PlanR.nil (t:=t) (s:=succ o _));simpa [Int.add_comm] using this
  | cons ho' hp' _ ih=>have:=PlanR.cons ho' hp' (ih hp);rw [Int.add_assoc];exact this
theorem PlanR.walk {t:Tsk} {s p s':List Int} {C:Int} (h:PlanR t s p s' C) (hg:holdsB t.goal s'=true):Walk t s C:=by
  induction h with
  | nil=>exact .goal hg
  | cons ho hp _ ih=>have:=Walk.step ho hp (ih hg);rwa [Int.add_comm] at this
inductive WalkS (t:Tsk) (sel:List Int→List Int):List Int→Int→Prop
  | goal {s:List Int}:holdsB t.goal s=true→WalkS t sel s 0
  | step {s:List Int} {k:Nat} {o:Opr} {C:Int}:t.ops[k]?=some o→(k:Int)∈sel s→WalkS t sel (succ o s) C→WalkS t sel s (C + o.cost)
theorem Mv {t:Tsk} (h:TaskOk t) {sel:List Int→List Int} {s:List Int} {C:Int} (hw:WalkS t sel s C):0≤C:=by
  induction hw with
  | goal _=>omega
  | @step s k o C ho _ _ ih=>have:=(h.2.2.2.2.2 k o ho).1;omega
def UpL {α:Type} (i:Nat) (x:α) (l l':List α):Prop:=l'[i]?=some x∧∀ j,j≠i→l'[j]?=l[j]?
theorem Ll {α:Type} {i:Nat} {x:α} {l:List α} (h:i < l.length):UpL i x l (l.set i x):=⟨List.getElem?_set_self h,fun j hj=>List.getElem?_set_ne (by omega)⟩
theorem Kl {α:Type} {i:Nat} {x:α} {l:List α} (h:l[i]?=some x):UpL i x l l:=⟨h,fun _ _=>rfl⟩
theorem HK {α:Type} {x:α} {l:List α}:UpL l.length x l (l ++ [x]):=⟨by simp,fun j hj=>by
  rcases Nat.lt_or_ge j l.length with h|h
  · exact List.getElem?_append_left h
  · rw [List.getElem?_append_right h,List.getElem?_eq_none (l:=l) h,List.getElem?_eq_none (by simp;omega)]⟩
def cnt (l:List Bool):Nat:=(l.filter id).length
theorem Mw (l:List Bool):cnt l≤l.length:=List.length_filter_le _ _
theorem Ny (l:List Bool):cnt (l ++ [false])=cnt l:=by simp [cnt]
theorem Lm:∀ {l:List Bool} {i:Nat},l[i]?=some false→cnt (l.set i true)=cnt l + 1
  | [],i,h=>by simp at h
  | b :: l,0,h=>by simp at h;subst h;simp [cnt]
  | b :: l,i + 1,h=>by
    have:=Lm (l:=l) (i:=i) (by simpa using h)
    simp only [cnt] at this ⊢
    cases b<;>simp [this]
theorem Ln:∀ {l:List Bool} {i:Nat},l[i]?=some true→0 < cnt l
  | [],i,h=>by simp at h
  | b :: l,0,h=>by simp at h;subst h;simp [cnt]
  | b :: l,i + 1,h=>by
    have:=Ln (l:=l) (i:=i) (by simpa using h)
    unfold cnt at this ⊢
    rw [List.filter_cons]
    split
    · simp
    · exact this
structure SrI (t:Tsk) (sel:List Int→List Int) (D:Nat→Int→Prop) (L:List (List Int)) (lk:List RLk) (g:List Int) (fn:List Bool) (hp:List QEn) (ord:Nat→Nat) (E:Nat):Prop where
  root:L[0]?=some t.init
  root0:g[0]?=some 0
  lenk:lk.length=L.length
  leng:g.length=L.length
  lenf:fn.length=L.length
  link:∀ (i:Nat) s k c,L[i]?=some s→lk[i]?=some k→g[i]?=some c→(i=0∧k.parent=-1∧c=0)∨∃ (p q:Nat) (o:Opr) (s':List Int) (c':Int),k.parent=(p:Int)∧k.op=(q:Int)∧t.ops[q]?=some o∧L[p]?=some s'∧fn[p]?=some true∧holdsB o.pre s'=true∧succ o s'=s∧g[p]?=some c'∧c=c' + o.cost∧(fn[i]?=some true→ord p < ord i)
  ordl:∀ i:Nat,fn[i]?=some true→ord i < E
  lower:∀ (j:Nat) c,fn[j]?=some true→g[j]?=some c→∀ e∈hp,c≤e.key
  ent:∀ e∈hp,∃ i:Nat,e.item=(i:Int)∧i < L.length∧∀ c,g[i]?=some c→c≤e.key
  opn:∀ (i:Nat) c,fn[i]?=some false→g[i]?=some c→∃ e∈hp,e.key=c∧e.item=(i:Int)
  bound:∀ (i:Nat) c,g[i]?=some c→0≤c∧c≤(E:Int) * 1048576
  nogoal:∀ (j:Nat) s,fn[j]?=some true→L[j]?=some s→holdsB t.goal s=false
  rel:∀ (j:Nat) s q,fn[j]?=some true→L[j]?=some s→q∈sel s→D j q→∃ (k:Nat) (o:Opr) (i:Nat) (c c':Int),q=(k:Int)∧t.ops[k]?=some o∧L[i]?=some (succ o s)∧g[j]?=some c∧g[i]?=some c'∧c'≤c + o.cost
  num:cnt fn=E
  rch:∀ (i:Nat) s,L[i]?=some s→Rch t s
  first:0 < E→fn[0]?=some true
section
variable {t : Tsk} {sel : List Int → List Int} {D : Nat → Int → Prop} {L L' : List (List Int)} {lk lk' : List RLk} {g g' : List Int} {fn fn' : List Bool} {hp hp' : List QEn} {ord : Nat → Nat} {E : Nat}
theorem SrI.upd (h:SrI t sel D L lk g fn hp ord E) (hok:TaskOk t) {i p q:Nat} {o:Opr} {s sp:List Int} {x cp lc:Int} {e:QEn} (hL:UpL i s L L') (hk:UpL i ⟨(p:Int),(q:Int),lc⟩ lk lk') (hg:UpL i x g g') (hf:UpL i false fn fn') (hh:hp'.Perm (e :: hp)) (ek:e.key=x) (ei:e.item=(i:Int))
    (l1:lk'.length=L'.length) (l2:g'.length=L'.length) (l3:fn'.length=L'.length) (l4:L.length≤L'.length) (hc:cnt fn'=cnt fn) (hi:L[i]?=none∨(L[i]?=some s∧fn[i]?=some false∧∀ c,g[i]?=some c→x < c))
    (ho:t.ops[q]?=some o) (hsp:L[p]?=some sp) (hfp:fn[p]?=some true) (hpre:holdsB o.pre sp=true) (hs:succ o sp=s) (hgp:g[p]?=some cp) (hx:x=cp + o.cost) (hmax:∀ (j:Nat) c,fn[j]?=some true→g[j]?=some c→c≤cp) (hxE:x≤(E:Int) * 1048576) :
    SrI t sel D L' lk' g' fn' hp' ord E:=by
  have hoc:=(hok.2.2.2.2.2 q o ho).1
  have hcp:=(h.bound p cp hgp).1
  have hfin:∀ j:Nat,fn[j]?=some true→j≠i:=fun j hj e=>by
    subst e
    rcases hi with hn|⟨_,hn,_⟩
    · have:=AJ hj
      rw [h.lenf] at this
      rw [List.getElem?_eq_none_iff] at hn
      omega
    · rw [hj] at hn;cases hn
  have hfin':∀ j:Nat,fn'[j]?=some true→j≠i∧fn[j]?=some true:=fun j hj=>by
    have hne:j≠i:=fun e=>by subst e;rw [hf.1] at hj;cases hj
    exact ⟨hne,by rw [← hf.2 j hne];exact hj⟩
  have h0:(0:Nat)≠i:=fun e=>by
    subst e
    rcases hi with hn|⟨_,_,hn⟩
    · rw [h.root] at hn;cases hn
    · have:=hn 0 h.root0;omega
  have hpi:=hfin p hfp
  have hiL:i < L'.length:=AJ hL.1
  refine ⟨by rw [hL.2 0 h0];exact h.root,by rw [hg.2 0 h0];exact h.root0,l1,l2,l3,?_,?_,?_,?_,?_,?_,?_,?_,by rw [hc];exact h.num,?_,?_⟩
  · intro j s' k c hs' hk' hc'
    by_cases e1:j=i
    · subst e1
      rw [hL.1] at hs'
      rw [hk.1] at hk'
      rw [hg.1] at hc'
      obtain rfl:=Option.some.inj hs'
      obtain rfl:=Option.some.inj hk'
      obtain rfl:=Option.some.inj hc'
      exact .inr ⟨p,q,o,sp,cp,rfl,rfl,ho,by rw [hL.2 p hpi];exact hsp,by rw [hf.2 p hpi];exact hfp,hpre,hs,by rw [hg.2 p hpi];exact hgp,hx,fun hh=>by rw [hf.1] at hh;cases hh⟩
    · rw [hL.2 j e1] at hs'
      rw [hk.2 j e1] at hk'
      rw [hg.2 j e1] at hc'
      rcases h.link j s' k c hs' hk' hc' with hh|⟨p',q',o',sp',c',a1,a2,a3,a4,a5,a6,a7,a8,a9,a10⟩
      · exact .inl hh
      · have hne:=hfin p' a5
        exact .inr ⟨p',q',o',sp',c',a1,a2,a3,by rw [hL.2 p' hne];exact a4,by rw [hf.2 p' hne];exact a5,a6,a7,by rw [hg.2 p' hne];exact a8,a9,fun hh=>a10 (hfin' j hh).2⟩
  · exact fun j hj=>h.ordl j (hfin' j hj).2
  · intro j c hj hcj e' he'
    obtain ⟨hne,hj⟩:=hfin' j hj
    rw [hg.2 j hne] at hcj
    rcases List.mem_cons.1 (hh.mem_iff.1 he') with rfl|hm
    · have:=hmax j c hj hcj;omega
    · exact h.lower j c hj hcj e' hm
  · intro e' he'
    rcases List.mem_cons.1 (hh.mem_iff.1 he') with rfl|hm
    · exact ⟨i,ei,hiL,fun c hc=>by rw [hg.1] at hc;have:=Option.some.inj hc;omega⟩
    · obtain ⟨j,j1,j2,j3⟩:=h.ent e' hm
      refine ⟨j,j1,by omega,fun c hc=>?_⟩
      by_cases e1:j=i
      · subst e1
        rw [hg.1] at hc
        obtain rfl:=Option.some.inj hc
        rcases hi with hn|⟨_,_,hn⟩
        · rw [List.getElem?_eq_none_iff] at hn;omega
        · obtain ⟨c0,hc0⟩:=AH (l:=g) (k:=j) (by rw [h.leng];exact j2)
          have:=j3 c0 hc0
          have:=hn c0 hc0
          omega
      · rw [hg.2 j e1] at hc;exact j3 c hc
  · intro j c hj hcj
    by_cases e1:j=i
    · subst e1
      rw [hg.1] at hcj
      obtain rfl:=Option.some.inj hcj
      exact ⟨e,hh.mem_iff.2 List.mem_cons_self,ek,ei⟩
    · rw [hf.2 j e1] at hj
      rw [hg.2 j e1] at hcj
      obtain ⟨e',m,r⟩:=h.opn j c hj hcj
      exact ⟨e',hh.mem_iff.2 (List.mem_cons_of_mem _ m),r⟩
  · intro j c hcj
    by_cases e1:j=i
    · subst e1
      rw [hg.1] at hcj
      obtain rfl:=Option.some.inj hcj
      omega
    · rw [hg.2 j e1] at hcj;exact h.bound j c hcj
  · intro j s' hj hs'
    obtain ⟨hne,hj⟩:=hfin' j hj
    rw [hL.2 j hne] at hs'
    exact h.nogoal j s' hj hs'
  · intro j s' q' hj hs' hq hD
    obtain ⟨hne,hj⟩:=hfin' j hj
    rw [hL.2 j hne] at hs'
    obtain ⟨k,o',i',c,c',a1,a2,a3,a4,a5,a6⟩:=h.rel j s' q' hj hs' hq hD
    by_cases e1:i'=i
    · subst e1
      rcases hi with hn|⟨hn1,_,hn⟩
      · rw [hn] at a3;cases a3
      · rw [hn1] at a3
        have:=hn c' a5
        exact ⟨k,o',i',c,x,a1,a2,by rw [hL.1];exact a3,by rw [hg.2 j hne];exact a4,hg.1,by omega⟩
    · exact ⟨k,o',i',c,c',a1,a2,by rw [hL.2 i' e1];exact a3,by rw [hg.2 j hne];exact a4,by rw [hg.2 i' e1];exact a5,a6⟩
  · intro j s' hs'
    by_cases e1:j=i
    · subst e1
      rw [hL.1] at hs'
      obtain rfl:=Option.some.inj hs'
      rw [← hs]
      exact (h.rch p sp hsp).step ho hpre
    · rw [hL.2 j e1] at hs';exact h.rch j s' hs'
  · intro hE
    rw [hf.2 0 h0];exact h.first hE
theorem SrI.drop (h:SrI t sel D L lk g fn hp ord E) {e:QEn} (hh:hp.Perm (e :: hp')) {i:Nat} (hi:e.item=(i:Int)) (hd:fn[i]?=some true∨g[i]?≠some e.key):SrI t sel D L lk g fn hp' ord E :=
  { h with
    lower:=fun j c hj hc e' he'=>h.lower j c hj hc e' (hh.mem_iff.2 (List.mem_cons_of_mem _ he'))
    ent:=fun e' he'=>h.ent e' (hh.mem_iff.2 (List.mem_cons_of_mem _ he'))
    opn := fun j c hj hc=>by
      obtain ⟨e',m,k1,k2⟩:=h.opn j c hj hc
      rcases List.mem_cons.1 (hh.mem_iff.1 m) with rfl|hm
      · exfalso
        have e1:i=j:=by omega
        subst e1
        rcases hd with hd|hd
        · rw [hj] at hd;cases hd
        · exact hd (by rw [k1];exact hc)
      · exact ⟨e',hm,k1,k2⟩ }
theorem SrI.mark (h:SrI t sel (fun _ _=>True) L lk g fn hp ord E) {e:QEn} (hh:hp.Perm (e :: hp')) (hmin:∀ x∈hp,nb x e) {i:Nat} {s:List Int} (hi:e.item=(i:Int)) (hf:fn[i]?=some false) (hc:g[i]?=some e.key) (hs:L[i]?=some s) (hg:holdsB t.goal s=false) :
    SrI t sel (fun j _=>j≠i) L lk g (fn.set i true) hp' (fun j=>if j=i then E else ord j) (E + 1):=by
  have hil:=AJ hf
  have hset:∀ j:Nat,(fn.set i true)[j]?=some true→j=i∨(j≠i∧fn[j]?=some true):=fun j hj=>by
    by_cases e1:j=i
    · exact .inl e1
    · rw [List.getElem?_set_ne (by omega)] at hj;exact .inr ⟨e1,hj⟩
  have hkeep:∀ j:Nat,fn[j]?=some true→j≠i∧(fn.set i true)[j]?=some true:=fun j hj=>by
    have hne:j≠i:=fun e1=>by subst e1;rw [hf] at hj;cases hj
    exact ⟨hne,by rw [List.getElem?_set_ne (by omega)];exact hj⟩
  refine ⟨h.root,h.root0,h.lenk,h.leng,by simp [h.lenf],?_,?_,?_,?_,?_,?_,?_,?_,by rw [Lm hf,h.num],h.rch,?_⟩
  · intro j s' k c hs' hk' hc'
    rcases h.link j s' k c hs' hk' hc' with hh|⟨p',q',o',sp',c',a1,a2,a3,a4,a5,a6,a7,a8,a9,a10⟩
    · exact .inl hh
    · obtain ⟨hne,hp2⟩:=hkeep p' a5
      refine .inr ⟨p',q',o',sp',c',a1,a2,a3,a4,hp2,a6,a7,a8,a9,fun hj=>?_⟩
      rw [if_neg hne]
      rcases hset j hj with rfl|⟨hne2,hj2⟩
      · rw [if_pos rfl];exact h.ordl p' a5
      · rw [if_neg hne2];exact a10 hj2
  · intro j hj
    rcases hset j hj with rfl|⟨hne2,hj2⟩
    · rw [if_pos rfl];omega
    · rw [if_neg hne2];have:=h.ordl j hj2;omega
  · intro j c hj hcj e' he'
    have hm:e'∈hp:=hh.mem_iff.2 (List.mem_cons_of_mem _ he')
    rcases hset j hj with rfl|⟨_,hj2⟩
    · rw [hc] at hcj
      obtain rfl:=Option.some.inj hcj
      exact Ki (hmin e' hm)
    · exact h.lower j c hj2 hcj e' hm
  · exact fun e' he'=>h.ent e' (hh.mem_iff.2 (List.mem_cons_of_mem _ he'))
  · intro j c hj hcj
    have hne:j≠i:=fun e1=>by subst e1;rw [List.getElem?_set_self hil] at hj;cases hj
    rw [List.getElem?_set_ne (by omega)] at hj
    obtain ⟨e',m,k1,k2⟩:=h.opn j c hj hcj
    rcases List.mem_cons.1 (hh.mem_iff.1 m) with rfl|hm
    · omega
    · exact ⟨e',hm,k1,k2⟩
  · intro j c hcj
    have:=h.bound j c hcj
    omega
  · intro j s' hj hs'
    rcases hset j hj with rfl|⟨_,hj2⟩
    · rw [hs] at hs';obtain rfl:=Option.some.inj hs';exact hg
    · exact h.nogoal j s' hj2 hs'
  · intro j s' q hj hs' hq hD
    rcases hset j hj with rfl|⟨_,hj2⟩
    · exact absurd rfl hD
    · exact h.rel j s' q hj2 hs' hq trivial
  · intro _
    by_cases h0:i=0
    · subst h0;exact List.getElem?_set_self hil
    · have hE:0 < E:=by
        obtain ⟨k,hk⟩:=AH (l:=lk) (k:=i) (by rw [h.lenk,← h.lenf];exact hil)
        rcases h.link i s k _ hs hk hc with ⟨hh,_⟩|⟨p',_,_,_,_,_,_,_,_,a5,_⟩
        · exact absurd hh h0
        · rw [← h.num];exact Ln a5
      exact (hkeep 0 (h.first hE)).2
theorem SrI.front (h:SrI t sel (fun _ _=>True) L lk g fn hp ord E) (hok:TaskOk t) {s:List Int} {C:Int} (hw:WalkS t sel s C):∀ (i:Nat) c,L[i]?=some s→g[i]?=some c→∃ e∈hp,e.key≤c + C:=by
  induction hw with
  | @goal s hg =>
    intro i c hi hc
    obtain ⟨b,hb⟩:=AH (l:=fn) (k:=i) (by rw [h.lenf];exact AJ hi)
    cases b with
    | false=>obtain ⟨e,m,k1,_⟩:=h.opn i c hb hc;exact ⟨e,m,by omega⟩
    | true=>have:=h.nogoal i s hb hi;rw [hg] at this;cases this
  | @step s k o C ho hk hw ih =>
    intro i c hi hc
    have h1:=Mv hok hw
    have h2:=(hok.2.2.2.2.2 k o ho).1
    obtain ⟨b,hb⟩:=AH (l:=fn) (k:=i) (by rw [h.lenf];exact AJ hi)
    cases b with
    | false=>obtain ⟨e,m,k1,_⟩:=h.opn i c hb hc;exact ⟨e,m,by omega⟩
    | true =>
      obtain ⟨k',o',i',c0,c',a1,a2,a3,a4,a5,a6⟩:=h.rel i s _ hb hi hk trivial
      have e1:k=k':=by omega
      subst e1
      rw [ho] at a2
      obtain rfl:=Option.some.inj a2
      rw [hc] at a4
      obtain rfl:=Option.some.inj a4
      obtain ⟨e,m,k1⟩:=ih i' c' a3 a5
      exact ⟨e,m,by omega⟩
theorem SrI.pathF (h:SrI t sel D L lk g fn hp ord E):∀ (n i:Nat) s c,ord i < n→fn[i]?=some true→L[i]?=some s→g[i]?=some c→∃ p,PathL lk i p∧PlanR t t.init p s c∧p.length≤ord i:=by
  intro n
  induction n with
  | zero=>intro i s c hn;omega
  | succ n ih =>
    intro i s c hn hf hi hc
    obtain ⟨k,hk⟩:=AH (l:=lk) (k:=i) (by rw [h.lenk];exact AJ hi)
    rcases h.link i s k c hi hk hc with ⟨rfl,h1,rfl⟩|⟨p',q',o',sp',c',a1,a2,a3,a4,a5,a6,a7,a8,a9,a10⟩
    · rw [h.root] at hi
      obtain rfl:=Option.some.inj hi
      exact ⟨[],.root hk (by omega),.nil,by simp⟩
    · have ho:=a10 hf
      obtain ⟨p,b1,b2,b3⟩:=ih p' sp' c' (by omega) a5 a4 a8
      refine ⟨p ++ [k.op],.step hk a1 b1,?_,by simp;omega⟩
      rw [a2,a9,← a7]
      exact b2.snoc a3 a6
theorem SrI.path (h:SrI t sel D L lk g fn hp ord E) {i:Nat} {s:List Int} {c:Int} (hi:L[i]?=some s) (hc:g[i]?=some c):∃ p,PathL lk i p∧PlanR t t.init p s c∧p.length≤E:=by
  obtain ⟨k,hk⟩:=AH (l:=lk) (k:=i) (by rw [h.lenk];exact AJ hi)
  rcases h.link i s k c hi hk hc with ⟨rfl,h1,rfl⟩|⟨p',q',o',sp',c',a1,a2,a3,a4,a5,a6,a7,a8,a9,a10⟩
  · rw [h.root] at hi
    obtain rfl:=Option.some.inj hi
    exact ⟨[],.root hk (by omega),.nil,by simp⟩
  · have ho:=h.ordl p' a5
    obtain ⟨p,b1,b2,b3⟩:=h.pathF (ord p' + 1) p' sp' c' (by omega) a5 a4 a8
    refine ⟨p ++ [k.op],.step hk a1 b1,?_,by simp;omega⟩
    rw [a2,a9,← a7]
    exact b2.snoc a3 a6
theorem SrI.more (h:SrI t sel D L lk g fn hp ord E) {D':Nat→Int→Prop} {j₀:Nat} {q₀:Int} (hD:∀ j q,D' j q→D j q∨(j=j₀∧q=q₀)) {s:List Int} (hs:L[j₀]?=some s) {k:Nat} {o:Opr} {i:Nat} {c c':Int} (h1:q₀=(k:Int)) (h2:t.ops[k]?=some o) (h3:L[i]?=some (succ o s)) (h4:g[j₀]?=some c) (h5:g[i]?=some c') (h6:c'≤c + o.cost):SrI t sel D' L lk g fn hp ord E :=
  { h with
    rel := fun j s' q hj hs' hq hd=>by
      rcases hD j q hd with hd|⟨rfl,rfl⟩
      · exact h.rel j s' q hj hs' hq hd
      · rw [hs] at hs'
        obtain rfl:=Option.some.inj hs'
        exact ⟨k,o,i,c,c',h1,h2,h3,h4,h5,h6⟩ }
end
end
section
open Go Go.RowKit
theorem Scr.append {α:Type} {a b:List α} {n:Nat} (h:Scr a b n):∀ {c d:List α} {m:Nat},Scr c d m→Scr (a ++ c) (b ++ d) (n + m):=by
  induction h with
  | nil=>intro c d m h2;simpa using h2
  | del _ ih=>intro c d m h2;have:=(ih h2).del (x:=‹α›);rw [Nat.add_right_comm] at this;exact this
  | ins _ ih=>intro c d m h2;have:=(ih h2).ins (y:=‹α›);rw [Nat.add_right_comm] at this;exact this
  | keep _ ih=>intro c d m h2;exact (ih h2).keep
theorem Scr.rev {α:Type} {a b:List α} {n:Nat} (h:Scr a b n):Scr a.reverse b.reverse n:=by
  induction h with
  | nil=>exact .nil
  | @del x xs ys n _ ih=>have:=ih.append (.del (x:=x) .nil);simpa using this
  | @ins y xs ys n _ ih=>have:=ih.append (.ins (y:=y) .nil);simpa using this
  | @keep x xs ys n _ ih=>have:=ih.append (.keep (x:=x) .nil);simpa using this
def dist2 (a b:List ByteArray):Nat:=ed a.reverse b.reverse
theorem MW {a b:List ByteArray} {n:Nat} (h:Scr a b n):dist2 a b≤n:=ed_le h.rev
theorem Hx (a b:List ByteArray):Scr a b (dist2 a b):=by have:=(ed_is a.reverse b.reverse).rev;simpa [dist2] using this
def nmO (t:Tsk) (i:Int):ByteArray:=match t.ops[i.toNat]? with|some o=>o.name|none=>⟨#[]⟩
theorem Km {t:Tsk} {i:Nat} {o:Opr} (h:t.ops[i]?=some o):nmO t (i:Int)=o.name:=by unfold nmO;rw [Int.toNat_natCast,h]
theorem HL {α:Type} {l:List α} {q:α×Nat}:q∈l.zipIdx↔l[q.2]?=some q.1:=by
  constructor
  · intro h
    obtain ⟨k,hk⟩:=List.getElem?_of_mem h
    rw [List.getElem?_zipIdx] at hk
    obtain ⟨o,ho,rfl⟩:=Option.map_eq_some_iff.1 hk
    simpa using ho
  · intro h
    refine List.mem_of_getElem? (i:=q.2) ?_
    rw [List.getElem?_zipIdx,h];simp
theorem Jx {t:Tsk} {v p:Int} {name:ByteArray} {q:Opr×Prt}:q∈keepL t.ops.zipIdx v p name↔∃ (i:Nat) (o:Opr),t.ops[i]?=some o∧o.name=name∧q=(keptO o v p,⟨(i:Int)⟩):=by
  unfold keepL
  rw [List.mem_map]
  constructor
  · rintro ⟨x,hx,rfl⟩
    obtain ⟨h1,h2⟩:=List.mem_filter.1 hx
    exact ⟨x.2,x.1,HL.1 h1,by simpa using h2,rfl⟩
  · rintro ⟨i,o,h1,h2,rfl⟩
    exact ⟨(o,i),List.mem_filter.2 ⟨HL.2 h1,by simpa using h2⟩,rfl⟩
theorem Kn {t:Tsk} {w v:Int} {q:Opr×Prt}:∀ {l:List ByteArray} {p:Nat},q∈delL t w v p l↔∃ (j:Nat) (name:ByteArray),l[j]?=some name∧q∈stepL t w v ((p + j:Nat):Int) name
  | [],p=>by simp [delL]
  | x :: l,p=>by
    rw [delL,List.mem_append,Kn (l:=l)]
    constructor
    · rintro (h|⟨j,name,h1,h2⟩)
      · exact ⟨0,x,rfl,by simpa using h⟩
      · exact ⟨j + 1,name,by simpa using h1,by rw [show p + (j + 1)=p + 1 + j from by omega];exact h2⟩
    · rintro ⟨j,name,h1,h2⟩
      cases j with
      | zero=>simp at h1;subst h1;exact .inl (by simpa using h2)
      | succ j=>exact .inr ⟨j,name,by simpa using h1,by rw [show p + 1 + j=p + (j + 1) from by omega];exact h2⟩
theorem FA {t:Tsk} {old:List ByteArray} {w:Int} {q:Opr×Prt}:q∈cmpL t old w ↔
    (∃ (i:Nat) (o:Opr),t.ops[i]?=some o∧q=(⟨o.name,o.cost + w,o.pre,o.effs⟩,⟨(i:Int)⟩)) ∨
    (∃ (p i:Nat) (o:Opr),old[p]?=some o.name∧t.ops[i]?=some o∧q=(keptO o (t.vars.length:Int) (p:Int),⟨(i:Int)⟩)) ∨
    (∃ (p:Nat) (name:ByteArray),old[p]?=some name∧q=delE w (t.vars.length:Int) (p:Int)):=by
  unfold cmpL
  rw [List.mem_append,Kn]
  constructor
  · rintro (h|⟨j,name,h1,h2⟩)
    · obtain ⟨x,hx,rfl⟩:=List.mem_map.1 h
      exact .inl ⟨x.2,x.1,HL.1 hx,rfl⟩
    · rw [Nat.zero_add] at h2
      unfold stepL at h2
      rcases List.mem_append.1 h2 with h2|h2
      · obtain ⟨i,o,g1,g2,rfl⟩:=Jx.1 h2
        exact .inr (.inl ⟨j,i,o,by rw [g2];exact h1,g1,rfl⟩)
      · exact .inr (.inr ⟨j,name,h1,by simpa using h2⟩)
  · rintro (⟨i,o,h,rfl⟩|⟨p,i,o,h1,h2,rfl⟩|⟨p,name,h1,rfl⟩)
    · exact .inl (List.mem_map.2 ⟨(o,i),HL.2 h,rfl⟩)
    · exact .inr ⟨p,o.name,h1,by rw [Nat.zero_add];exact List.mem_append_left _ (Jx.2 ⟨i,o,h2,rfl,rfl⟩)⟩
    · exact .inr ⟨p,name,h1,by rw [Nat.zero_add];exact List.mem_append_right _ (by simp)⟩
section
variable {vars x : List Int}
theorem Nz {f:Fct} (hf:FactOk vars f) (hx:x.length=vars.length) (p:Int):hasB (x ++ [p]) f=hasB x f:=by
  obtain ⟨h1,_,y,h3,_⟩:=hf
  have:=AJ h3
  unfold hasB
  rw [List.getElem?_append_left (by omega)]
theorem FO {fs:List Fct} (hf:FactsOk vars fs) (hx:x.length=vars.length) (p:Int):holdsB fs (x ++ [p])=holdsB fs x:=by
  have key:∀ l:List Fct,(∀ f∈l,FactOk vars f)→l.all (hasB (x ++ [p]))=l.all (hasB x):=fun l hl=>by
    induction l with
    | nil=>rfl
    | cons f l ih=>rw [List.all_cons,List.all_cons,Nz (hl f List.mem_cons_self) hx,ih fun g hg=>hl g (List.mem_cons_of_mem _ hg)]
  exact key fs fun f hm=>by obtain ⟨i,hi⟩:=List.getElem?_of_mem hm;exact hf.1 i f hi
theorem Il {v:Nat} (hx:x.length=v) (p p0:Int):hasB (x ++ [p]) ⟨(v:Int),p0⟩=decide (p=p0):=by
  unfold hasB
  subst hx
  simp
theorem GE {fs:List Fct} (hf:FactsOk vars fs) (hx:x.length=vars.length) (p p0:Int):holdsB (fs ++ [⟨(vars.length:Int),p0⟩]) (x ++ [p])=(holdsB fs x && decide (p=p0)):=by
  have:=FO hf hx p
  unfold holdsB at this ⊢
  rw [List.all_append,this,List.all_cons,List.all_nil,Il hx,Bool.and_true]
theorem Ko {effs:List Eff} (he:∀ e∈effs,EffOk vars e) (hx:x.length=vars.length) (p:Int):∀ y:List Int,y.length=vars.length→effsOn (x ++ [p]) effs (y ++ [p])=effsOn x effs y ++ [p]:=by
  induction effs with
  | nil=>intro y _;rfl
  | cons e l ih =>
    intro y hy
    obtain ⟨h1,h2,_,z,h3,_⟩:=he e List.mem_cons_self
    have hlt:=AJ h3
    simp only at h2 hlt
    simp only [effsOn]
    rw [FO h1 hx]
    by_cases hb:holdsB e.cond x=true
    · rw [if_pos hb,if_pos hb,List.set_append_left _ _ (by omega)]
      exact ih (fun e' h'=>he e' (List.mem_cons_of_mem _ h')) _ (by simpa using hy)
    · rw [if_neg hb,if_neg hb]
      exact ih (fun e' h'=>he e' (List.mem_cons_of_mem _ h')) _ hy
end
theorem Lo {t:Tsk} (hok:TaskOk t) {k:Nat} {o:Opr} (ho:t.ops[k]?=some o):∀ e∈o.effs,EffOk t.vars e:=fun e he=>by
  obtain ⟨i,hi⟩:=List.getElem?_of_mem he
  exact (hok.2.2.2.2.2 k o ho).2.2.2.2.2 i e hi
theorem Em (o:Opr) (x:List Int):(succ o x).length=x.length:=Ej x o.effs x
section
variable {t : Tsk} {old : List ByteArray} {w : Int}
theorem Kp (hok:TaskOk t) {i:Nat} {o:Opr} (ho:t.ops[i]?=some o) {x:List Int} (hx:x.length=t.vars.length) (p c:Int):succ ⟨o.name,c,o.pre,o.effs⟩ (x ++ [p])=succ o x ++ [p]:=Ko (Lo hok ho) hx p x hx
theorem Jy {x y:List Int} {v:Nat} (hy:y.length=v) (p q:Int):effsOn (x ++ [p]) [⟨[],(v:Int),q⟩] (y ++ [p])=y ++ [q]:=by
  show (y ++ [p]).set (v:Int).toNat q=_
  subst hy
  rw [Int.toNat_natCast,List.set_append_right _ _ (Nat.le_refl _)]
  simp
theorem Jz (hok:TaskOk t) {i:Nat} {o:Opr} (ho:t.ops[i]?=some o) {x:List Int} (hx:x.length=t.vars.length) (p p0:Int):succ (keptO o (t.vars.length:Int) p0) (x ++ [p])=succ o x ++ [p0 + 1]:=by
  show effsOn (x ++ [p]) (o.effs ++ [⟨[],(t.vars.length:Int),p0 + 1⟩]) (x ++ [p])=_
  rw [Fa,Ko (Lo hok ho) hx p x hx]
  exact Jy (by rw [Ej];exact hx) p (p0 + 1)
theorem Kq {x:List Int} (hx:x.length=t.vars.length) (p p0:Int):succ (delE w (t.vars.length:Int) p0).1 (x ++ [p])=x ++ [p0 + 1]:=by
  show effsOn (x ++ [p]) ([] ++ [⟨[],(t.vars.length:Int),p0 + 1⟩]) (x ++ [p])=_
  exact Jy hx p (p0 + 1)
def partI (L:List (Opr×Prt)) (k:Int):List Int:=match L[k.toNat]? with|some q=>if 0≤q.2.op then [q.2.op] else []|none=>[]
def mapP (L:List (Opr×Prt)) (P:List Int):List Int:=P.flatMap (partI L)
theorem JA {L:List (Opr×Prt)} {k:Nat} {q:Opr×Prt} (h:L[k]?=some q) (P:List Int):mapP L ((k:Int) :: P)=(if 0≤q.2.op then [q.2.op] else []) ++ mapP L P:=by
  unfold mapP
  rw [List.flatMap_cons]
  unfold partI
  rw [Int.toNat_natCast,h]
theorem Lp {k:Nat} {o:Opr} (h:(cmpT t old w).ops[k]?=some o):∃ q,(cmpL t old w)[k]?=some q∧q.1=o:=by
  have h':((cmpL t old w).map (·.1))[k]?=some o:=h
  rw [List.getElem?_map] at h'
  obtain ⟨q,h1,h2⟩:=Option.map_eq_some_iff.1 h'
  exact ⟨q,h1,h2⟩
theorem GF {α:Type} {l:List α} {p:Nat} {x:α} (h:l[p]?=some x):l.drop p=x :: l.drop (p + 1):=by
  obtain ⟨hlt,rfl⟩:=List.getElem?_eq_some_iff.1 h
  exact List.drop_eq_getElem_cons hlt
theorem MX (hok:TaskOk t) {s s' P:List Int} {C:Int} (h:PlanR (cmpT t old w) s P s' C):∀ (x:List Int) (p:Nat),s=x ++ [(p:Int)]→x.length=t.vars.length→p≤old.length →
    ∃ (x':List Int) (p':Nat) (c:Int) (n:Nat),s'=x' ++ [(p':Int)]∧p≤p'∧p'≤old.length∧PlanR t x (mapP (cmpL t old w) P) x' c∧Scr ((mapP (cmpL t old w) P).map (nmO t)) ((old.take p').drop p) n∧C=c + w * n:=by
  induction h with
  | nil =>
    rintro x p rfl hx hp
    refine ⟨x,p,0,0,rfl,Nat.le_refl _,hp,.nil,?_,by simp⟩
    have:(old.take p).drop p=[]:=List.drop_eq_nil_of_le (by simp;omega)
    rw [this];exact .nil
  | @cons s rest s' k o C ho hpre _ ih =>
    rintro x p rfl hx hp
    obtain ⟨q,hq,rfl⟩:=Lp ho
    rw [JA hq]
    rcases FA.1 (List.mem_of_getElem? hq) with ⟨i,o,hi,rfl⟩|⟨p0,i,o,hn,hi,rfl⟩|⟨p0,name,hn,rfl⟩
    · have hf:=(hok.2.2.2.2.2 i o hi).2.2.2.2.1
      have hpre':holdsB o.pre x=true:=by rw [← FO hf hx];exact hpre
      obtain ⟨x',p',c,n,h1,h2,h3,h4,h5,h6⟩:=ih (succ o x) p (Kp hok hi hx _ _) (by rw [Em];exact hx) hp
      refine ⟨x',p',o.cost + c,n + 1,h1,h2,h3,?_,?_,?_⟩
      · rw [if_pos (by show (0:Int)≤(i:Int);omega)];exact .cons hi hpre' h4
      · rw [if_pos (by show (0:Int)≤(i:Int);omega)]
        simp only [List.singleton_append,List.map_cons]
        exact h5.del
      · show o.cost + w + C=_
        rw [h6,Int.natCast_add,Int.mul_add];simp;omega
    · have hf:=(hok.2.2.2.2.2 i o hi).2.2.2.2.1
      have hpre':holdsB (o.pre ++ [⟨(t.vars.length:Int),(p0:Int)⟩]) (x ++ [(p:Int)])=true:=hpre
      rw [GE hf hx,Bool.and_eq_true,decide_eq_true_eq] at hpre'
      have hpp:p0=p:=by omega
      subst hpp
      have hlt:=AJ hn
      obtain ⟨x',p',c,n,h1,h2,h3,h4,h5,h6⟩:=ih (succ o x) (p0 + 1) (by rw [Jz hok hi hx];simp) (by rw [Em];exact hx) hlt
      have hdr:(old.take p').drop p0=o.name :: (old.take p').drop (p0 + 1):=GF (by rw [List.getElem?_take,if_pos (by omega)];exact hn)
      refine ⟨x',p',o.cost + c,n,h1,by omega,h3,?_,?_,?_⟩
      · rw [if_pos (by show (0:Int)≤(i:Int);omega)];exact .cons hi hpre'.1 h4
      · rw [if_pos (by show (0:Int)≤(i:Int);omega),hdr]
        simp only [List.singleton_append,List.map_cons]
        rw [Km hi]
        exact h5.keep
      · show o.cost + C=_
        omega
    · have hpre':holdsB ([] ++ [⟨(t.vars.length:Int),(p0:Int)⟩]) (x ++ [(p:Int)])=true:=hpre
      have hp0:hasB (x ++ [(p:Int)]) ⟨(t.vars.length:Int),(p0:Int)⟩=true:=by simpa [holdsB] using hpre'
      rw [Il hx,decide_eq_true_eq] at hp0
      have hpp:p0=p:=by omega
      subst hpp
      have hlt:=AJ hn
      obtain ⟨x',p',c,n,h1,h2,h3,h4,h5,h6⟩:=ih x (p0 + 1) (by rw [Kq hx];simp) hx hlt
      have hdr:(old.take p').drop p0=name :: (old.take p').drop (p0 + 1):=GF (by rw [List.getElem?_take,if_pos (by omega)];exact hn)
      refine ⟨x',p',c,n + 1,h1,by omega,h3,?_,?_,?_⟩
      · rw [if_neg (by show ¬ (0:Int)≤-1;omega)];exact h4
      · rw [if_neg (by show ¬ (0:Int)≤-1;omega),hdr];exact h5.ins
      · show w + C=_
        rw [h6,Int.natCast_add,Int.mul_add];simp;omega
theorem Kr {q:Opr×Prt} (h:q∈cmpL t old w):∃ k:Nat,(cmpT t old w).ops[k]?=some q.1:=by
  obtain ⟨k,hk⟩:=List.getElem?_of_mem h
  exact ⟨k,by show ((cmpL t old w).map (·.1))[k]?=_;rw [List.getElem?_map,hk];rfl⟩
theorem Mx (hok:TaskOk t) {xs ys:List ByteArray} {n:Nat} (h:Scr xs ys n):∀ (x x' π:List Int) (c:Int) (p:Nat),PlanR t x π x' c→π.map (nmO t)=xs→ys=old.drop p→p≤old.length→x.length=t.vars.length →
    ∃ P,PlanR (cmpT t old w) (x ++ [(p:Int)]) P (x' ++ [(old.length:Int)]) (c + w * n):=by
  induction h with
  | nil =>
    intro x x' π c p hp hn hy hl hx
    have hπ:π=[]:=by simpa using hn
    subst hπ
    have hpl:p=old.length:=by
      have:=congrArg List.length hy
      simp at this;omega
    subst hpl
    cases hp
    exact ⟨[],by simpa using PlanR.nil⟩
  | @del y xs ys n _ ih =>
    intro x x' π c p hp hn hy hl hx
    cases hp with
    | nil=>simp at hn
    | @cons _ rest _ i o C hi hpre hr =>
      simp only [List.map_cons,List.cons.injEq] at hn
      have hf:=(hok.2.2.2.2.2 i o hi).2.2.2.2.1
      obtain ⟨P,hP⟩:=ih (succ o x) x' rest C p hr hn.2 hy hl (by rw [Em];exact hx)
      obtain ⟨k,hk⟩:=Kr (old:=old) (w:=w) (FA.2 (.inl ⟨i,o,hi,rfl⟩))
      refine ⟨(k:Int) :: P,?_⟩
      have h3:PlanR (cmpT t old w) (succ ⟨o.name,o.cost + w,o.pre,o.effs⟩ (x ++ [(p:Int)])) P (x' ++ [(old.length:Int)]) (C + w * n):=by rw [Kp hok hi hx];exact hP
      have h2:=PlanR.cons hk (by show holdsB o.pre (x ++ [(p:Int)])=true;rw [FO hf hx];exact hpre) h3
      have e:o.cost + C + w * ((n + 1:Nat):Int)=o.cost + w + (C + w * n):=by rw [Int.natCast_add,Int.mul_add];simp;omega
      rw [e];exact h2
  | @ins y xs ys n _ ih =>
    intro x x' π c p hp hn hy hl hx
    have hlt:p < old.length:=by
      rcases Nat.lt_or_ge p old.length with h|h
      · exact h
      · rw [List.drop_eq_nil_of_le h] at hy;cases hy
    have hg:old[p]?=some old[p]:=List.getElem?_eq_getElem hlt
    rw [GF hg] at hy
    injection hy with e1 e2
    obtain ⟨P,hP⟩:=ih x x' π c (p + 1) hp hn e2 hlt hx
    obtain ⟨k,hk⟩:=Kr (old:=old) (w:=w) (FA.2 (.inr (.inr ⟨p,old[p],hg,rfl⟩)))
    refine ⟨(k:Int) :: P,?_⟩
    have h3:PlanR (cmpT t old w) (succ (delE w (t.vars.length:Int) (p:Int)).1 (x ++ [(p:Int)])) P (x' ++ [(old.length:Int)]) (c + w * n):=by rw [Kq hx];simpa using hP
    have h2:=PlanR.cons hk (by show holdsB ([] ++ [⟨(t.vars.length:Int),(p:Int)⟩]) (x ++ [(p:Int)])=true;simp only [holdsB,List.nil_append,List.all_cons,List.all_nil,Bool.and_true];rw [Il hx];simp) h3
    have e:c + w * ((n + 1:Nat):Int)=w + (c + w * n):=by rw [Int.natCast_add,Int.mul_add];simp;omega
    rw [e];exact h2
  | @keep y xs ys n _ ih =>
    intro x x' π c p hp hn hy hl hx
    have hlt:p < old.length:=by
      rcases Nat.lt_or_ge p old.length with h|h
      · exact h
      · rw [List.drop_eq_nil_of_le h] at hy;cases hy
    have hg:old[p]?=some old[p]:=List.getElem?_eq_getElem hlt
    rw [GF hg] at hy
    injection hy with e1 e2
    cases hp with
    | nil=>simp at hn
    | @cons _ rest _ i o C hi hpre hr =>
      simp only [List.map_cons,List.cons.injEq] at hn
      have hf:=(hok.2.2.2.2.2 i o hi).2.2.2.2.1
      obtain ⟨P,hP⟩:=ih (succ o x) x' rest C (p + 1) hr hn.2 e2 hlt (by rw [Em];exact hx)
      have hnm:old[p]?=some o.name:=by rw [hg,← e1,← hn.1,Km hi]
      obtain ⟨k,hk⟩:=Kr (old:=old) (w:=w) (FA.2 (.inr (.inl ⟨p,i,o,hnm,hi,rfl⟩)))
      refine ⟨(k:Int) :: P,?_⟩
      have h3:PlanR (cmpT t old w) (succ (keptO o (t.vars.length:Int) (p:Int)) (x ++ [(p:Int)])) P (x' ++ [(old.length:Int)]) (C + w * n):=by rw [Jz hok hi hx];simpa using hP
      have h2:=PlanR.cons hk (by show holdsB (o.pre ++ [⟨(t.vars.length:Int),(p:Int)⟩]) (x ++ [(p:Int)])=true;rw [GE hf hx,hpre];simp) h3
      have e:o.cost + C + w * (n:Int)=o.cost + (C + w * n):=by omega
      rw [e];exact h2
theorem Im (hok:TaskOk t) {x:List Int} (hx:x.length=t.vars.length) (p:Int):holdsB (cmpT t old w).goal (x ++ [p])=(holdsB t.goal x && decide (p=(old.length:Int))):=GE hok.2.2.2.2.1 hx p _
end
end
section
open Go Go.RowKit
abbrev BQ:=BxR 77 75 Itm
abbrev AI:=An 75 Itm
def toQ (x:Itm):QEn:=⟨x.cost,0,x.id,x.order⟩
def qs (l:List Itm):List QEn:=l.map toQ
theorem Ei (l:List Itm):(qs l).length=l.length:=by simp [qs]
theorem EW {l:List Itm} {i:Nat} {x:Itm} (h:l[i]?=some x):(qs l)[i]?=some (toQ x):=by unfold qs;rw [List.getElem?_map,h];rfl
theorem Hy (l:List Itm) (i:Nat) (x:Itm):qs (l.set i x)=(qs l).set i (toQ x):=by unfold qs;rw [List.map_set]
theorem NA (l:List Itm) (n:Nat):qs (l.take n)=(qs l).take n:=by unfold qs;rw [List.map_take]
theorem In {l:List Itm} {i j:Nat} {a b:Itm} (ha:l[i]?=some a) (hb:l[j]?=some b):Bg l (i:Int) (j:Int)=some (decide (bfr (toQ a) (toQ b))):=by
  unfold Bg
  rw [Bu,ha,AB,Bu,hb,AB,AB,AB,AB,AB]
  unfold bfr toQ
  by_cases h1:a.cost < b.cost
  · rw [if_pos h1,AB];simp [h1]
  · rw [if_neg h1]
    by_cases h2:a.cost=b.cost
    · rw [if_pos h2]
      by_cases h3:a.order < b.order
      · rw [if_pos h3,AB];simp [h2,h3]
      · rw [if_neg h3,AB];simp [h2,h3]
    · rw [if_neg h2,AB];simp [h1,h2]
theorem Ip {l:List Itm} {i j:Nat} {a b:Itm} (ha:l[i]?=some a) (hb:l[j]?=some b):Bc l (i:Int) (j:Int)=some ((l.set i b).set j a):=by
  have hil:=AJ ha
  have hjl:=AJ hb
  obtain ⟨c,hc⟩:=AH (l:=l.set i b) (k:=j) (by simp;exact hjl)
  unfold Bc
  rw [Bu,hb,AB,Bu,ha,AB,AB,Int.toNat_natCast,Bu,hc,AB,Int.toNat_natCast]
theorem Ou {q:BQ} {i:Nat} (hi:i < q.l.length) (hl:q.l.length≤1000000) (h:UpI (qs q.l) i):∃ r,Cd q (i:Int)=some r∧HeapOk (qs r.l)∧(qs r.l).Perm (qs q.l):=by
  unfold Cd
  refine Kd (fun s=>∃ i:Nat,s.1=(i:Int)∧i < s.2.l.length∧UpI (qs s.2.l) i∧(qs s.2.l).Perm (qs q.l)) (fun s=>HeapOk (qs s.2.l)∧(qs s.2.l).Perm (qs q.l)) (fun _=>False) (fun s=>s.1.toNat) ⟨i,rfl,hi,h,List.Perm.refl _⟩ ?_ (fun s hs=>⟨_,rfl,hs⟩) (fun s hs=>hs.elim)
  rintro ⟨c,s⟩ ⟨i,hc,hi,hu,hp⟩
  dsimp only at hc hi hu hp ⊢
  subst hc
  have hlen:=hp.length_eq
  rw [Ei,Ei] at hlen
  rw [Bp (by unfold inI64;omega),AB]
  by_cases h0:0 < (i:Int)
  · have hq:quoT ((i:Int) - 1) 2=some (((i - 1) / 2:Nat):Int):=by
      unfold quoT;rw [if_pos (by omega),if_pos (by omega)];congr 1;omega
    obtain ⟨a,ha⟩:=AH (l:=s.l) (k:=i) hi
    obtain ⟨b,hb⟩:=AH (l:=s.l) (k:=(i - 1) / 2) (by omega)
    rw [hq,AB,if_neg (by omega),In ha hb,AB]
    by_cases hab:bfr (toQ a) (toQ b)
    · rw [decide_eq_true hab,if_t,AB,if_f,Ip hb ha,AB]
      have e1:qs ((s.l.set ((i - 1) / 2) a).set i b)=((qs s.l).set i (toQ b)).set ((i - 1) / 2) (toQ a):=by
        rw [Hy,Hy,List.set_comm _ _ (by omega)]
      refine .inl ⟨_,rfl,⟨(i - 1) / 2,rfl,by simp;omega,?_,?_⟩,?_⟩
      · dsimp only;rw [e1];exact hu.step (by omega) (EW ha) (EW hb) hab
      · dsimp only;rw [e1];exact (Kj (EW ha) (EW hb)).trans hp
      · dsimp only;omega
    · rw [decide_eq_false hab,if_f,AB,if_t]
      refine .inr (.inl ⟨_,rfl,hu.heap (.inr fun x y hx hy=>?_),hp⟩)
      rw [EW ha] at hx
      rw [EW hb] at hy
      obtain rfl:=Option.some.inj hx
      obtain rfl:=Option.some.inj hy
      exact hab
  · have h00:i=0:=by omega
    subst h00
    have hq:quoT (((0:Nat):Int) - 1) 2=some 0:=rfl
    rw [hq,AB,if_pos (show (0:Int)=((0:Nat):Int) from rfl),AB,if_t]
    exact .inr (.inl ⟨_,rfl,hu.heap (.inl rfl),hp⟩)
theorem Ks {q:BQ} (h:HeapOk (qs q.l)) (hl:q.l.length≤900000) (x:Itm):∃ r,BI q ⟨x⟩=some r∧HeapOk (qs r.l)∧(qs r.l).Perm (toQ x :: qs q.l):=by
  unfold BI Ck Bd
  rw [BZ (by simp;omega) (by simp;omega),AB,AB,AB,Bp (by unfold inI64;simp;omega),AB]
  have hlen:(((q.l ++ [x]).length:Int) - 1)=((q.l.length:Nat):Int):=by simp
  rw [hlen]
  have eq1:qs (q.l ++ [x])=qs q.l ++ [toQ x]:=by simp [qs]
  obtain ⟨r,r1,r2,r3⟩:=Ou (q:=⟨q.l ++ [x]⟩) (i:=q.l.length) (by simp) (by simp;omega) ⟨fun j y z hj hji hx hy=>by
    dsimp only at hx hy
    rw [eq1] at hx hy
    have hjl:j < (qs q.l).length:=by have:=AJ hx;simp at this;rw [Ei] at this ⊢;omega
    rw [List.getElem?_append_left hjl] at hx
    rw [List.getElem?_append_left (by omega)] at hy
    exact h j y z hj hx hy,fun j y z h1 h2 h3 hx hy=>by
    dsimp only at hx
    have:=AJ hx
    rw [Ei] at this
    simp at this
    omega⟩
  rw [r1,AB]
  refine ⟨_,rfl,r2,r3.trans ?_⟩
  dsimp only
  rw [eq1]
  exact List.perm_append_comm (l₁:=qs q.l) (l₂:=[_])
theorem MY {q:BQ} {n:Nat} (hn:n≤q.l.length) (hl:q.l.length≤1000000) (h:DownI (qs (q.l.take n)) 0):∃ r,BT q 0 (n:Int)=some r∧HeapOk (qs (r.2.l.take n))∧(qs (r.2.l.take n)).Perm (qs (q.l.take n))∧r.2.l.drop n=q.l.drop n∧r.2.l.length=q.l.length:=by
  unfold BT
  refine Kd (fun s=>∃ i:Nat,s.1=(i:Int)∧DownI (qs (s.2.l.take n)) i∧i≤n∧(qs (s.2.l.take n)).Perm (qs (q.l.take n))∧s.2.l.drop n=q.l.drop n∧s.2.l.length=q.l.length) (fun s=>HeapOk (qs (s.2.l.take n))∧(qs (s.2.l.take n)).Perm (qs (q.l.take n))∧s.2.l.drop n=q.l.drop n∧s.2.l.length=q.l.length) (fun _=>False) (fun s=>n - s.1.toNat) ⟨0,rfl,h,by omega,List.Perm.refl _,rfl,rfl⟩ ?_ ?_ (fun s hs=>hs.elim)
  · rintro ⟨c,s⟩ ⟨i,hc,hd,hi,hp,hdr,hsl⟩
    dsimp only at hc hd hi hp hdr hsl ⊢
    subst hc
    rw [Bp (by unfold inI64;omega),AB,Bp (by unfold inI64;omega),AB]
    by_cases h1:(n:Int)≤2 * (i:Int) + 1
    · rw [if_pos h1,AB,if_t]
      refine .inr (.inl ⟨_,rfl,hd.heap fun j x y hj hji hx _=>?_,hp,hdr,hsl⟩)
      have:=AJ hx
      rw [Ei,List.length_take] at this
      omega
    rw [if_neg h1,if_neg (by omega),AB,if_f]
    obtain ⟨a,ha⟩:=AH (l:=s.l) (k:=i) (by omega)
    obtain ⟨b,hb⟩:=AH (l:=s.l) (k:=2 * i + 1) (by omega)
    have tk:∀ {k:Nat} {x:Itm},k < n→s.l[k]?=some x→(qs (s.l.take n))[k]?=some (toQ x):=fun {k x} hk hx=>EW (by rw [List.getElem?_take_of_lt hk];exact hx)
    have cast1:2 * (i:Int) + 1=((2 * i + 1:Nat):Int):=by omega
    have cast2:2 * (i:Int) + 1 + 1=((2 * i + 2:Nat):Int):=by omega
    have rest:∀ (c:Nat) (d:Itm),(c=2 * i + 1∨c=2 * i + 2)→c < n→s.l[c]?=some d→(∀ (j:Nat) x,0 < j→(j - 1) / 2=i→(qs (s.l.take n))[j]?=some x→nb x (toQ d))→(∃ s',(bnd (Bg s.l (c:Int) (i:Int)) fun q97=>if q97=true then bnd (Bc s.l (i:Int) (c:Int)) fun q109=>some (Ctl.next (ρ:=Bool×BQ) ((c:Int),(⟨q109⟩:BQ))) else some (.brk ((i:Int),s)))=some (.next s')∧(∃ i:Nat,s'.1=(i:Int)∧DownI (qs (s'.2.l.take n)) i∧i≤n∧(qs (s'.2.l.take n)).Perm (qs (q.l.take n))∧s'.2.l.drop n=q.l.drop n∧s'.2.l.length=q.l.length)∧n - s'.1.toNat < n - ((i:Int)).toNat)∨(∃ s',(bnd (Bg s.l (c:Int) (i:Int)) fun q97=>if q97=true then bnd (Bc s.l (i:Int) (c:Int)) fun q109=>some (Ctl.next (ρ:=Bool×BQ) ((c:Int),(⟨q109⟩:BQ))) else some (.brk ((i:Int),s)))=some (.brk s')∧HeapOk (qs (s'.2.l.take n))∧(qs (s'.2.l.take n)).Perm (qs (q.l.take n))∧s'.2.l.drop n=q.l.drop n∧s'.2.l.length=q.l.length)∨∃ r,(bnd (Bg s.l (c:Int) (i:Int)) fun q97=>if q97=true then bnd (Bc s.l (i:Int) (c:Int)) fun q109=>some (Ctl.next (ρ:=Bool×BQ) ((c:Int),(⟨q109⟩:BQ))) else some (.brk ((i:Int),s)))=some (.ret r)∧False:=by
      intro c d hc hcn hd' hs
      rw [In hd' ha,AB]
      have e1:qs (((s.l.set i d).set c a).take n)=((qs (s.l.take n)).set i (toQ d)).set c (toQ a):=by
        rw [List.take_set,List.take_set,Hy,Hy]
      by_cases hda:bfr (toQ d) (toQ a)
      · rw [decide_eq_true hda,if_t,Ip ha hd',AB]
        refine .inl ⟨_,rfl,⟨c,rfl,?_,by omega,?_,?_,by simp;exact hsl⟩,?_⟩
        · dsimp only;rw [e1];exact hd.step hc (tk (by omega) ha) (tk hcn hd') hda hs
        · dsimp only;rw [e1];exact (Kj (tk (by omega) ha) (tk hcn hd')).trans hp
        · dsimp only
          rw [← hdr]
          apply List.ext_getElem?
          intro k
          rw [List.getElem?_drop,List.getElem?_drop,List.getElem?_set_ne (by omega),List.getElem?_set_ne (by omega)]
        · dsimp only;omega
      · rw [decide_eq_false hda,if_f]
        refine .inr (.inl ⟨_,rfl,hd.heap fun j x y hj hji hx hy=>?_,hp,hdr,hsl⟩)
        rw [tk (by omega) ha] at hy
        obtain rfl:=Option.some.inj hy
        exact GD (hs j x hj hji hx) hda
    rw [Bp (by unfold inI64;omega),AB]
    by_cases h2:2 * (i:Int) + 1 + 1 < (n:Int)
    · obtain ⟨d,hd'⟩:=AH (l:=s.l) (k:=2 * i + 2) (by omega)
      rw [if_pos h2,cast2,cast1,In hd' hb,AB]
      by_cases hdb:bfr (toQ d) (toQ b)
      · rw [decide_eq_true hdb,if_t,AB,if_t,AB]
        refine rest (2 * i + 2) d (.inr rfl) (by omega) hd' fun j x hj hji hx=>?_
        have:j=2 * i + 1∨j=2 * i + 2:=by omega
        rcases this with rfl|rfl
        · rw [tk (by omega) hb] at hx;obtain rfl:=Option.some.inj hx;exact nb_of hdb
        · rw [tk (by omega) hd'] at hx;obtain rfl:=Option.some.inj hx;exact IN _
      · rw [decide_eq_false hdb,if_f,AB,if_f,AB]
        refine rest (2 * i + 1) b (.inl rfl) (by omega) hb fun j x hj hji hx=>?_
        have:j=2 * i + 1∨j=2 * i + 2:=by omega
        rcases this with rfl|rfl
        · rw [tk (by omega) hb] at hx;obtain rfl:=Option.some.inj hx;exact IN _
        · rw [tk (by omega) hd'] at hx;obtain rfl:=Option.some.inj hx;exact hdb
    · rw [if_neg h2,AB,if_f,AB,cast1]
      refine rest (2 * i + 1) b (.inl rfl) (by omega) hb fun j x hj hji hx=>?_
      have:j=2 * i + 1:=by have:=AJ hx;rw [Ei,List.length_take] at this;omega
      subst this
      rw [tk (by omega) hb] at hx;obtain rfl:=Option.some.inj hx;exact IN _
  · intro s hs
    by_cases hz:0 < s.1
    · rw [fin_d,if_pos hz,AB];exact ⟨_,rfl,hs⟩
    · rw [fin_d,if_neg hz,AB];exact ⟨_,rfl,hs⟩
theorem NB {q:BQ} (h:HeapOk (qs q.l)) (h0:0 < q.l.length) (hl:q.l.length≤900000):∃ r,BO q=some r∧∃ (e:Itm) (q':BQ),r=((⟨e⟩:AI),q')∧HeapOk (qs q'.l)∧(qs q.l).Perm (toQ e :: qs q'.l)∧∀ x∈qs q.l,nb x (toQ e):=by
  obtain ⟨e,he⟩:=AH (l:=q.l) (k:=0) h0
  obtain ⟨z,hz⟩:=AH (l:=q.l) (k:=q.l.length - 1) (by omega)
  have cz:((q.l.length:Int) - 1)=((q.l.length - 1:Nat):Int):=by omega
  have sw:Bc q.l 0 ((q.l.length - 1:Nat):Int)=some ((q.l.set 0 z).set (q.l.length - 1) e):=Ip (i:=0) he hz
  unfold BO Bd
  rw [AB,Bp (by unfold inI64;omega),AB,cz,sw,AB]
  have tk:((q.l.set 0 z).set (q.l.length - 1) e).take (q.l.length - 1)=(q.l.set 0 z).take (q.l.length - 1):=by
    rw [List.take_set]
    exact List.set_eq_of_length_le (by simp)
  have hperm:(qs q.l).Perm (toQ e :: qs ((q.l.set 0 z).take (q.l.length - 1))):=by
    have:q.l.Perm (e :: (q.l.set 0 z).take (q.l.length - 1)):=by
      cases hq:q.l with
      | nil=>rw [hq] at h0;simp at h0
      | cons a tl =>
        rw [hq] at he hz
        simp at he
        subst he
        cases htl:tl.reverse with
        | nil =>
          have:tl=[]:=by simpa using htl
          subst this
          simp
        | cons w r =>
          have htl':tl=r.reverse ++ [w]:=by have:=congrArg List.reverse htl;simpa using this
          subst htl'
          simp at hz
          subst hz
          simp
    exact this.map toQ
  obtain ⟨r,r1,r2,r3,r4,r5⟩:=MY (q:=⟨(q.l.set 0 z).set (q.l.length - 1) e⟩) (n:=q.l.length - 1) (by simp) (by simp;omega) (by
    dsimp only
    rw [tk]
    refine ⟨fun j x y hj hjp hx hy=>?_,fun j x y h1=>by omega⟩
    rw [NA,Hy] at hx hy
    have hx':=Ju hx
    have hy':=Ju hy
    rw [List.getElem?_set_ne (by omega)] at hx' hy'
    exact h j x y hj hx' hy')
  dsimp only at r3 r4 r5
  rw [tk] at r3
  simp only [List.length_set] at r5
  rw [r1,AB]
  unfold Cp
  have hlast:r.2.l[q.l.length - 1]?=some e:=by
    have:(r.2.l.drop (q.l.length - 1))[0]?=some e:=by
      rw [r4,List.getElem?_drop,Nat.add_zero,List.getElem?_set_self (by simp;omega)]
    rwa [List.getElem?_drop,Nat.add_zero] at this
  have hcut:cutI r.2.l 0 ((q.l.length - 1:Nat):Int)=some (r.2.l.take (q.l.length - 1)):=by
    unfold cutI
    rw [if_pos (by simp;omega)]
    simp
  rw [r5,cz,Bp (by unfold inI64;omega),AB,Bu,hlast,AB,hcut,AB,AB]
  exact ⟨_,rfl,e,⟨r.2.l.take (q.l.length - 1)⟩,rfl,r2,hperm.trans (List.Perm.cons _ r3.symm),Ms h (EW he)⟩
end
section
open Go Go.RowKit
theorem PlanR.bound {t:Tsk} (h:TaskOk t) {s p s':List Int} {C:Int} (hr:PlanR t s p s' C):0≤C∧C≤(p.length:Int) * 1048576:=by
  induction hr with
  | nil=>simp
  | @cons s rest s' k o C ho _ _ ih =>
    have h1:=(h.2.2.2.2.2 k o ho).1
    have h2:=(h.2.2.2.2.2 k o ho).2.1
    simp only [List.length_cons]
    omega
theorem Hz {α:Type} [DecidableEq α]:∀ {a b:List α},a.Nodup→(∀ x∈a,x∈b)→a.length≤b.length
  | [],_,_,_=>Nat.zero_le _
  | x :: a,b,hn,hs=>by
    have hx:=hs x List.mem_cons_self
    have h1:=Hz (a:=a) (b:=b.erase x) (List.nodup_cons.1 hn).2 fun y hy=>(List.mem_erase_of_ne (fun e=>(List.nodup_cons.1 hn).1 (by rw [← e];exact hy))).2 (hs y (List.mem_cons_of_mem _ hy))
    have h2:=List.length_erase_of_mem hx
    have h3:=List.length_pos_of_mem hx
    simp only [List.length_cons]
    omega
def marked:List (List Int)→List Bool→List (List Int)
  | s :: l,b :: bs=>if b=true then s :: marked l bs else marked l bs
  | _,_=>[]
theorem IP:∀ (l:List (List Int)) (bs:List Bool),bs.length=l.length→(marked l bs).length=cnt bs
  | [],bs,h=>by have:bs=[]:=List.length_eq_zero_iff.1 h;subst this;rfl
  | s :: l,[],h=>by simp at h
  | s :: l,b :: bs,h=>by
    have:=IP l bs (by simpa using h)
    simp only [marked,cnt] at this ⊢
    cases b<;>simp [this]
theorem GG:∀ {l:List (List Int)} {bs:List Bool} {i:Nat} {s:List Int},l[i]?=some s→bs[i]?=some true→s∈marked l bs
  | [],bs,i,s,h,_=>by simp at h
  | s :: l,[],i,s',_,h=>by simp at h
  | s :: l,b :: bs,0,s',h1,h2=>by simp at h1 h2;subst h1 h2;simp [marked]
  | s :: l,b :: bs,i + 1,s',h1,h2=>by
    have:=GG (l:=l) (bs:=bs) (i:=i) (by simpa using h1) (by simpa using h2)
    simp only [marked]
    split
    · exact List.mem_cons_of_mem _ this
    · exact this
theorem Kt {L:List (List Int)} (h:∀ (i j:Nat) s,L[i]?=some s→L[j]?=some s→i=j):L.Nodup:=by
  rw [List.nodup_iff_pairwise_ne,List.pairwise_iff_getElem]
  intro i j hi hj hij he
  have:=h i j L[i] (List.getElem?_eq_getElem hi) (by rw [he];exact List.getElem?_eq_getElem hj)
  omega
end
section
open Go Go.RowKit
abbrev Few (t:Tsk):Prop:=Mid t
def appB (t:Tsk) (s:List Int) (k:Nat):Bool:=match t.ops[k]? with|some o=>holdsB o.pre s|none=>false
def appN (t:Tsk) (s:List Int) (m:Nat):List Nat:=(List.range m).filter (appB t s)
def sucN (t:Tsk) (s:List Int) (k:Nat):List Int:=match t.ops[k]? with|some o=>succ o s|none=>s
theorem Ov (t:Tsk) (s:List Int):appl t s=(appN t s t.ops.length).map fun k:Nat=>(k:Int):=rfl
theorem NC (t:Tsk) (s:List Int) (k:Nat):sucOf t s (k:Int)=⟨(k:Int),sucN t s k⟩:=rfl
theorem Lq {t:Tsk} {s:List Int} {k:Nat} {o:Opr} (ho:t.ops[k]?=some o):appB t s k=holdsB o.pre s∧sucN t s k=succ o s:=by unfold appB sucN;rw [ho];exact ⟨rfl,rfl⟩
theorem PlanR.rch {t:Tsk} {s p s':List Int} {C:Int} (h:PlanR t s p s' C) (hs:Rch t s):Rch t s':=by
  induction h with
  | nil=>exact hs
  | cons ho hp _ ih=>exact ih (hs.step ho hp)
end
section
open Go Go.RowKit
theorem MZ {t:Tsk} (hok:TaskOk t):∃ reg,Co t=some (some ⟨t,reg,some ⟨t⟩⟩,⟨0⟩)∧RegI t.vars reg [t.init]∧links reg=[⟨-1,-1,0⟩]:=by
  obtain ⟨rr,n1,reg,rfl,n2,n3⟩:=Mu hok.1 hok.2.2.1
  rcases Jw hok.1 n2 hok.2.2.2.1 (by simp) with ⟨i,hi,_⟩|⟨_,r',hadd,hr',hlk⟩
  · simp at hi
  refine ⟨r',?_,hr',by rw [hlk,n3];rfl⟩
  unfold Co
  rw [Mm hok,AB,if_neg (by simp),n1,AB,if_neg (by simp),AB,hadd,AB,if_neg (by simp)]
theorem My {vars:List Int} {r:Reg} {L:List (List Int)} (h:RegI vars r L):(links r).length=L.length:=by unfold links;rw [List.length_map,h.len]
theorem Ox {t:Tsk} (h:TaskOk t) {s p s':List Int} {C:Int} (hr:PlanR t s p s' C):∀ (j:Nat) (c:Int),0≤c→c + p.length * 1048576≤1000000000000000 →
    rng (ρ:=Rsl×Err) (fun (_:Nat) (a78:Int) (s75:Int)=>bnd (atI t.ops a78) fun a125=>bnd (chkI (s75 + a125.cost)) fun n146=>some (.next n146)) p j c=some (.done (c + C)):=by
  induction hr with
  | nil=>intro j c _ _;simp [rng]
  | @cons s rest s' k o C ho hp hr ih =>
    intro j c hc hb
    simp only [List.length_cons] at hb
    have hoo:=h.2.2.2.2.2 k o ho
    have h1:=hoo.1
    have h2:=hoo.2.1
    have e2:(bnd (atI t.ops (k:Int)) fun a125=>bnd (chkI (c + a125.cost)) fun n146=>some (Ctl.next (ρ:=Rsl×Err) n146))=some (.next (c + o.cost)):=by
      rw [Bu,ho,AB,Bp (by unfold inI64;omega),AB]
    simp only [rng,e2]
    rw [ih (j + 1) (c + o.cost) (by omega) (by omega),Int.add_assoc]
theorem Mz {t:Tsk} {s:List Int} (h:TaskOk t) (hs:StateOk t.vars s):s.length≤1000000:=by have:=hs.1;have:=h.1;omega
end
section
open Go Go.RowKit
structure SQ (t:Tsk) (L:List (List Int)) (x:Spc):Prop where
  tt:x.t=t
  gen:x.gen=some ⟨t⟩
  reg:RegI t.vars x.reg L
theorem IQ:∀ (l:List (List Int)) (bs:List Bool),(marked l bs).Sublist l
  | [],bs=>by simp [marked]
  | s :: l,[]=>by simp [marked]
  | s :: l,b :: bs=>by
    have ih:=IQ l bs
    simp only [marked]
    split
    · exact ih.cons_cons s
    · exact ih.cons s
theorem Fh:∀ {l:List (List Int)} {bs:List Bool} {s:List Int},s∈marked l bs→∃ i:Nat,l[i]?=some s∧bs[i]?=some true
  | [],bs,s,h=>by simp [marked] at h
  | s :: l,[],s',h=>by simp [marked] at h
  | s :: l,b :: bs,s',h=>by
    simp only [marked] at h
    by_cases hb:b=true
    · rw [if_pos hb] at h
      rcases List.mem_cons.1 h with rfl|h
      · exact ⟨0,rfl,by simp [hb]⟩
      · obtain ⟨i,h1,h2⟩:=Fh h;exact ⟨i + 1,by simpa using h1,by simpa using h2⟩
    · rw [if_neg hb] at h
      obtain ⟨i,h1,h2⟩:=Fh h;exact ⟨i + 1,by simpa using h1,by simpa using h2⟩
end
section
open Go Go.RowKit
abbrev US:=(List Int)×(List Bool)×Int×Int×Spc×BQ
abbrev UT:=(List Int)×(List Bool)×Int×Spc×BQ
noncomputable def uIn (t:Tsk) (n2 cst idd:Int) (s:UT) (a:Suc):Option (Ctl UT (Ctl US (Rsl×Err))):=bnd (Bh s.2.2.2.1.reg a.state) fun q=>if q.2.2.1.n≠0 then (bnd (BG 3 n2) fun z=>some (.ret (.ret (z.1,(⟨z.2.n⟩:Err))))) else (bnd (atI t.ops a.op) fun o=>bnd (chkI (cst + o.cost)) fun n=>bnd (if q.2.1=true then (bnd (appI 8 s.1 [n]) fun u=>bnd (appI 1 s.2.1 [false]) fun v=>some (.done (u,v))) else (bnd (bnd (atI s.2.1 q.1) fun b=>if b=true then (some true) else (bnd (atI s.1 q.1) fun c=>if c≤n then (some true) else (some false)):Option Bool) fun y=>if y=true then (some (.ret (.next (s.1,s.2.1,s.2.2.1,(⟨s.2.2.2.1.t,q.2.2.2,s.2.2.2.1.gen⟩:Spc),s.2.2.2.2)))) else (some (.done (s.1,s.2.1)))):Option (Fin ((List Int)×(List Bool)) (Ctl UT (Ctl US (Rsl×Err))))) fun y=>fin y fun (z:(List Int)×(List Bool))=>bnd (atI z.1 q.1) fun _=>bnd (Bi q.2.2.2 q.1 idd a.op n) fun k=>if k.1.n≠0 then (some (.ret (.ret ((⟨0,([]:List Int),0,0⟩:Rsl),(⟨k.1.n⟩:Err))))) else (bnd (BI s.2.2.2.2 (⟨(⟨n,s.2.2.1,q.1⟩:Itm)⟩:AI)) fun h=>bnd (chkI (s.2.2.1 + 1)) fun m=>some (.next ((z.1.set (q.1:Int).toNat n),z.2,m,(⟨s.2.2.2.1.t,k.2,s.2.2.2.1.gen⟩:Spc),h))))
noncomputable def uniF (t:Tsk) (lim:Int):US→Option (Ctl US (Rsl×Err)):=fun s=>bnd (Bd s.2.2.2.2.2.l) fun q=>if 0 < q then (bnd (BO s.2.2.2.2.2) fun e=>bnd (atI s.2.1 e.1.x.id) fun b=>if b=true then (some (.next (s.1,s.2.1,s.2.2.1,s.2.2.2.1,s.2.2.2.2.1,e.2))) else (bnd (Br s.2.2.2.2.1.reg e.1.x.id) fun w=>if w.2.n≠0 then (some (.ret ((⟨0,([]:List Int),0,0⟩:Rsl),(⟨w.2.n⟩:Err)))) else (bnd (CH t.goal w.1) fun g=>if g=true then bnd (BC s.2.2.2.2.1 e.1.x.id s.2.2.2.1) fun z=>some (.ret (z.1,(⟨z.2.n⟩:Err))) else if lim≤s.2.2.2.1 then (bnd (BG 3 s.2.2.2.1) fun z=>some (.ret (z.1,(⟨z.2.n⟩:Err)))) else (bnd (atI s.2.1 e.1.x.id) fun _=>bnd (chkI (s.2.2.2.1 + 1)) fun n2=>bnd (AX s.2.2.2.2.1.gen w.1) fun l=>bnd (rng (ρ:=Ctl US (Rsl×Err)) (fun (_:Nat) (a:Suc) (y:UT)=>uIn t n2 e.1.x.cost e.1.x.id y a) l 0 (s.1,(s.2.1.set (e.1.x.id:Int).toNat true),s.2.2.1,s.2.2.2.2.1,e.2)) fun r=>fin r fun (z:UT)=>some (.next (z.1,z.2.1,z.2.2.1,n2,z.2.2.2.1,z.2.2.2.2)))))) else (some (.brk s))
noncomputable def uniE:Fin US (Rsl×Err)→Option (Rsl×Err):=fun r=>fin r fun (s:US)=>bnd (BG 2 s.2.2.2.1) fun q=>some (q.1,(⟨q.2.n⟩:Err))
theorem ND (t:Tsk) (lim:Int):Bz t lim=bnd (Co t) fun q=>if q.2.n≠0 then (some ((⟨0,([]:List Int),0,0⟩:Rsl),(⟨q.2.n⟩:Err))) else (bnd q.1 fun o=>bnd (lop (uniF t lim) (([0]:List Int),[false],1,0,o,(⟨[(⟨0,0,0⟩:Itm)]⟩:BQ))) uniE):=rfl
theorem Ku {t:Tsk} {s:List Int} {k:Nat} {o:Opr} (ho:t.ops[k]?=some o) (hp:holdsB o.pre s=true):(k:Int)∈appl t s:=by
  rw [Ov,List.mem_map]
  exact ⟨k,List.mem_filter.2 ⟨List.mem_range.2 (AJ ho),by rw [(Lq ho).1];exact hp⟩,rfl⟩
theorem HA {t:Tsk} {s:List Int} {C:Int} (hw:Walk t s C):WalkS t (appl t) s C:=by
  induction hw with
  | goal h=>exact .goal h
  | step ho hp _ ih=>exact .step ho (Ku ho hp) ih
theorem GH {t:Tsk} (hs:Few t) {r:Reg} {L:List (List Int)} (h:RegI t.vars r L):L.length≤600:=by
  refine Nat.le_trans (Hz (Kt h.nodup) fun s hm=>?_) hs.many
  obtain ⟨i,hi⟩:=List.getElem?_of_mem hm
  exact HV.2 (h.st i s hi)
def KP (L:List (List Int)) (g:List Int) (fn:List Bool) (L':List (List Int)) (g':List Int) (fn':List Bool):Prop:=∀ j:Nat,fn'[j]?=some true→fn[j]?=some true∧g'[j]?=g[j]?∧L'[j]?=L[j]?
def HM (g:List Int) (fn:List Bool) (c:Int):Prop:=∀ (j:Nat) c',fn[j]?=some true→g[j]?=some c'→c'≤c
def CO (t:Tsk) (g:List Int) (fn:List Bool):Prop:=∀ (j:Nat) c',fn[j]?=some true→g[j]?=some c'→∀ C,Walk t t.init C→c'≤C
theorem KP.rfl {L:List (List Int)} {g:List Int} {fn:List Bool}:KP L g fn L g fn:=fun _ h=>⟨h,Eq.refl _,Eq.refl _⟩
theorem KP.upd {L L':List (List Int)} {g g':List Int} {fn fn':List Bool} {i:Nat} {s:List Int} {x:Int} (h1:UpL i s L L') (h2:UpL i x g g') (h3:UpL i false fn fn'):KP L g fn L' g' fn':=fun j hj=>by
  have hne:j≠i:=fun e=>by subst e;rw [h3.1] at hj;cases hj
  exact ⟨by rw [← h3.2 j hne];exact hj,h2.2 j hne,h1.2 j hne⟩
theorem HM.kp {L L':List (List Int)} {g g':List Int} {fn fn':List Bool} {c:Int} (h:HM g fn c) (k:KP L g fn L' g' fn'):HM g' fn' c:=fun j c' hj hc=>by
  obtain ⟨k1,k2,_⟩:=k j hj
  exact h j c' k1 (by rw [← k2];exact hc)
theorem CO.kp {t:Tsk} {L L':List (List Int)} {g g':List Int} {fn fn':List Bool} (h:CO t g fn) (k:KP L g fn L' g' fn'):CO t g' fn':=fun j c' hj hc=>by
  obtain ⟨k1,k2,_⟩:=k j hj
  exact h j c' k1 (by rw [← k2];exact hc)
theorem u_one {t:Tsk} (hs:Few t) {D:Nat→Int→Prop} {ord:Nat→Nat} {L:List (List Int)} {E:Nat} {g:List Int} {fn:List Bool} {order:Int} {x:Spc} {q:BQ} (hx:SQ t L x) (hinv:SrI t (appl t) D L (links x.reg) g fn (qs q.l) ord E) (hh:HeapOk (qs q.l)) (ho0:0≤order) (ho1:order≤100000) (hql:q.l.length≤100000) (hE:E≤601)
    {p k:Nat} {o:Opr} {sp:List Int} {cp n2:Int} (ho:t.ops[k]?=some o) (hsp:L[p]?=some sp) (hfp:fn[p]?=some true) (hpre:holdsB o.pre sp=true) (hgp:g[p]?=some cp) (hmax:HM g fn cp) (hcb:cp + 1048576≤(E:Int) * 1048576) :
    ∃ y:UT,uIn t n2 cp (p:Int) (g,fn,order,x,q) ⟨(k:Int),succ o sp⟩=some (.next y)∧∃ L',SQ t L' y.2.2.2.1∧SrI t (appl t) D L' (links y.2.2.2.1.reg) y.1 y.2.1 (qs y.2.2.2.2.l) ord E∧HeapOk (qs y.2.2.2.2.l)∧0≤y.2.2.1∧y.2.2.1≤order + 1∧y.2.2.2.2.l.length≤q.l.length + 1∧KP L g fn L' y.1 y.2.1∧L'[p]?=some sp∧y.2.1[p]?=some true∧y.1[p]?=some cp∧∃ (i:Nat) (c':Int),L'[i]?=some (succ o sp)∧y.1[i]?=some c'∧c'≤cp + o.cost:=by
  have hok:=hs.ok
  have hoo:=hok.2.2.2.2.2 k o ho
  have ho1':=hoo.1
  have ho2:=hoo.2.1
  have hL:=GH hs hx.reg
  have hcp:=(hinv.bound p cp hgp).1
  have hsok:StateOk t.vars (succ o sp):=Lg hok (hx.reg.st p sp hsp) ho
  have hgl:=hinv.leng
  have hfl:=hinv.lenf
  have hlkl:=My hx.reg
  have hpl:=AJ hsp
  unfold uIn
  dsimp only
  rcases Jw hok.1 hx.reg hsok (by omega) with ⟨i,hi,hadd⟩|⟨hno,r',hadd,hr',hlk⟩
  · have hil:=AJ hi
    obtain ⟨ci,hci⟩:=AH (l:=g) (k:=i) (by omega)
    obtain ⟨b,hb⟩:=AH (l:=fn) (k:=i) (by omega)
    rw [hadd,AB,if_neg (by simp),Bu,ho,AB,Bp (by unfold inI64;omega),AB]
    dsimp only
    rw [if_f,Bu,hb,AB,Bu,hci,AB]
    have keep:ci≤cp + o.cost→∃ y:UT,(some (.next (g,fn,order,(⟨x.t,x.reg,x.gen⟩:Spc),q)):Option (Ctl UT (Ctl US (Rsl×Err))))=some (.next y)∧∃ L',SQ t L' y.2.2.2.1∧SrI t (appl t) D L' (links y.2.2.2.1.reg) y.1 y.2.1 (qs y.2.2.2.2.l) ord E∧HeapOk (qs y.2.2.2.2.l)∧0≤y.2.2.1∧y.2.2.1≤order + 1∧y.2.2.2.2.l.length≤q.l.length + 1∧KP L g fn L' y.1 y.2.1∧L'[p]?=some sp∧y.2.1[p]?=some true∧y.1[p]?=some cp∧∃ (i:Nat) (c':Int),L'[i]?=some (succ o sp)∧y.1[i]?=some c'∧c'≤cp + o.cost:=fun hle =>
      ⟨_,rfl,L,hx,hinv,hh,ho0,by dsimp only;omega,by dsimp only;omega,KP.rfl,hsp,hfp,hgp,i,ci,hi,hci,hle⟩
    cases b with
    | true =>
      rw [if_t,AB,if_t,AB]
      exact keep (by have:=hmax i ci hb hci;omega)
    | false =>
      rw [if_f]
      by_cases hle:ci≤cp + o.cost
      · rw [if_pos hle,AB,if_t,AB]
        exact keep hle
      · have hip:p≠i:=fun e=>by subst e;rw [hfp] at hb;cases hb
        obtain ⟨reg',s1,s2,s3⟩:=IO hx.reg hil (p:=(p:Int)) (o:=(k:Int)) (c:=cp + o.cost) (.inr ⟨p,rfl,hpl⟩)
        obtain ⟨q',u1,u2,u3⟩:=Ks hh (by omega) ⟨cp + o.cost,order,(i:Int)⟩
        have hplen:=u3.length_eq
        simp only [List.length_cons,Ei] at hplen
        rw [if_neg hle,AB,if_f,AB,fin_d]
        dsimp only
        rw [Bu,hci,AB,s1,AB,if_neg (by simp),u1,AB,Bp (by unfold inI64;omega),AB,Int.toNat_natCast]
        have v1:UpL i (succ o sp) L L:=Kl hi
        have v3:UpL i (cp + o.cost) g (g.set i (cp + o.cost)):=Ll (by omega)
        have v4:UpL i false fn fn:=Kl hb
        refine ⟨_,rfl,L,⟨hx.tt,hx.gen,s2⟩,?_,u2,by dsimp only;omega,by dsimp only;omega,by dsimp only;omega,KP.upd v1 v3 v4,hsp,hfp,?_,i,cp + o.cost,hi,v3.1,Int.le_refl _⟩
        · dsimp only
          rw [s3]
          exact hinv.upd hok v1 (Ll (by omega)) v3 v4 u3 rfl rfl (by simp;omega) (by simp;omega) (by omega) (by omega) rfl (.inr ⟨hi,hb,fun c hc=>by rw [hci] at hc;have:=Option.some.inj hc;omega⟩) ho hsp hfp hpre rfl hgp rfl hmax (by omega)
        · dsimp only;rw [v3.2 p hip];exact hgp
  · rw [hadd,AB,if_neg (by simp),Bu,ho,AB,Bp (by unfold inI64;omega),AB]
    dsimp only
    have hg2:(g ++ [cp + o.cost])[L.length]?=some (cp + o.cost):=by rw [← hgl];simp
    obtain ⟨reg',s1,s2,s3⟩:=IO hr' (i:=L.length) (by simp) (p:=(p:Int)) (o:=(k:Int)) (c:=cp + o.cost) (.inr ⟨p,rfl,by simp;omega⟩)
    obtain ⟨q',u1,u2,u3⟩:=Ks hh (by omega) ⟨cp + o.cost,order,((L.length:Nat):Int)⟩
    have hplen:=u3.length_eq
    simp only [List.length_cons,Ei] at hplen
    rw [if_t,BZ (by simp;omega) (by simp;omega),AB,BZ (by simp;omega) (by simp;omega),AB,AB,fin_d]
    dsimp only
    rw [Bu,hg2,AB,s1,AB,if_neg (by simp),u1,AB,Bp (by unfold inI64;omega),AB,Int.toNat_natCast]
    have sc:(g ++ [cp + o.cost]).set L.length (cp + o.cost)=g ++ [cp + o.cost]:=by rw [← hgl];simp
    rw [sc]
    have hlk2:links reg'=links x.reg ++ [⟨(p:Int),(k:Int),cp + o.cost⟩]:=by rw [s3,hlk,← hlkl];simp
    have v1:UpL L.length (succ o sp) L (L ++ [succ o sp]):=HK
    have v2:UpL L.length (⟨(p:Int),(k:Int),cp + o.cost⟩:RLk) (links x.reg) (links x.reg ++ [⟨(p:Int),(k:Int),cp + o.cost⟩]):=by rw [← hlkl];exact HK
    have v3:UpL L.length (cp + o.cost) g (g ++ [cp + o.cost]):=by rw [← hgl];exact HK
    have v4:UpL L.length false fn (fn ++ [false]):=by rw [← hfl];exact HK
    have hne:p≠L.length:=by omega
    refine ⟨_,rfl,L ++ [succ o sp],⟨hx.tt,hx.gen,s2⟩,?_,u2,by dsimp only;omega,by dsimp only;omega,by dsimp only;omega,KP.upd v1 v3 v4,by rw [v1.2 p hne];exact hsp,by dsimp only;rw [v4.2 p hne];exact hfp,by dsimp only;rw [v3.2 p hne];exact hgp,L.length,cp + o.cost,v1.1,v3.1,Int.le_refl _⟩
    dsimp only
    rw [hlk2]
    exact hinv.upd hok v1 v2 v3 v4 u3 rfl rfl (by simp;omega) (by simp;omega) (by simp;omega) (by simp) (Ny _) (.inl (List.getElem?_eq_none (Nat.le_refl _))) ho hsp hfp hpre rfl hgp rfl hmax (by omega)
structure UJ (t:Tsk) (D:Nat→Int→Prop) (ord:Nat→Nat) (E N:Nat) (i:Nat) (s:List Int) (c:Int) (L:List (List Int)) (y:UT):Prop where
  sq:SQ t L y.2.2.2.1
  inv:SrI t (appl t) D L (links y.2.2.2.1.reg) y.1 y.2.1 (qs y.2.2.2.2.l) ord E
  heap:HeapOk (qs y.2.2.2.2.l)
  ord0:0≤y.2.2.1
  ord1:y.2.2.1≤(N:Int) + 1
  qlen:y.2.2.2.2.l.length≤N
  hi:L[i]?=some s
  hf:y.2.1[i]?=some true
  hc:y.1[i]?=some c
  hm:HM y.1 y.2.1 c
  co:CO t y.1 y.2.1
theorem u_exp {t:Tsk} (hs:Few t) {ord:Nat→Nat} {E N i:Nat} {s:List Int} {c n2:Int} {L:List (List Int)} {y:UT} (h:UJ t (fun j _=>j≠i) ord E N i s c L y) (hN:N≤90000) (hE:E≤601) (hcb:c + 1048576≤(E:Int) * 1048576) :
    ∃ y':UT,rng (ρ:=Ctl US (Rsl×Err)) (fun (_:Nat) (a:Suc) (y:UT)=>uIn t n2 c (i:Int) y a) ((appS t s).map (sucOf t s)) 0 y=some (.done y')∧∃ L',UJ t (fun _ _=>True) ord E (N + 80) i s c L' y':=by
  have hok:=hs.ok
  have hops:t.ops.length≤80:=hs.ops
  have hsok:=h.sq.reg.st i s h.hi
  have hlen:(appl t s).length≤80:=Nat.le_trans (Ka t s) hops
  rw [Gg hsok]
  obtain ⟨y',h1,h2⟩:=Gh (ρ:=Ctl US (Rsl×Err)) (f:=fun (_:Nat) (a:Suc) (y:UT)=>uIn t n2 c (i:Int) y a) (xs:=(appl t s).map (sucOf t s)) (s₀:=y) (fun m z=>∃ L',UJ t (fun j q=>j≠i∨q∈(appl t s).take m) ord E (N + m) i s c L' z)
    ⟨L, { h with inv:={ h.inv with rel:=fun j s' q hj hs' hq hd=>h.inv.rel j s' q hj hs' hq (by rcases hd with hd|hd;exact hd;simp at hd) } }⟩ (fun m a z hm hz=>by
      rw [List.getElem?_map] at hm
      obtain ⟨op,hop,rfl⟩:=Option.map_eq_some_iff.1 hm
      obtain ⟨L',hz⟩:=hz
      obtain ⟨k,o,rfl,ho,hp⟩:=JZ (List.mem_of_getElem? hop)
      have hml:=AJ hop
      have hq:=hz.qlen
      have hoo:=hz.ord1
      have e1:sucOf t s (k:Int)=⟨(k:Int),succ o s⟩:=by rw [NC,(Lq ho).2]
      obtain ⟨g,fn,order,x,q⟩:=z
      obtain ⟨z',z1,L'',z2,z3,z4,z5,z6,z7,z8,z9,z10,z11,i',c',z12,z13,z14⟩:=u_one hs (n2:=n2) hz.sq hz.inv hz.heap hz.ord0 (by have:=hz.ord1;dsimp only at this;omega) (by have:=hz.qlen;dsimp only at this;omega) hE ho hz.hi hz.hf hp hz.hc hz.hm hcb
      try dsimp only at hq
      try dsimp only at hoo
      try dsimp only at z6
      try dsimp only at z7
      refine ⟨z',by rw [e1];exact z1,L'',⟨z2,?_,z4,z5,by omega,by omega,z9,z10,z11,hz.hm.kp z8,hz.co.kp z8⟩⟩
      refine z3.more (j₀:=i) (q₀:=(k:Int)) (fun j q hd=>?_) z9 rfl ho z12 z11 z13 z14
      rcases hd with hd|hd
      · exact .inl (.inl hd)
      · rcases (MU hop).1 hd with hd|rfl
        · exact .inl (.inr hd)
        · by_cases e:j=i
          · exact .inr ⟨e,rfl⟩
          · exact .inl (.inl e))
  obtain ⟨L',h2⟩:=h2
  rw [List.length_map] at h2
  refine ⟨y',h1,L',?_⟩
  have hinv:=h2.inv
  have hq:=h2.qlen
  have hoo:=h2.ord1
  exact { h2 with
    inv:={ hinv with rel:=fun j s' q hj hs' hq hd=>hinv.rel j s' q hj hs' hq (by
      by_cases e:j=i
      · right;rw [List.take_length];subst e;rw [h2.hi] at hs';obtain rfl:=Option.some.inj hs';exact hq
      · exact .inl e) }
    ord1:=by omega
    qlen:=by omega }
structure UI (t:Tsk) (ord:Nat→Nat) (N:Nat) (L:List (List Int)) (s:US):Prop where
  sq:SQ t L s.2.2.2.2.1
  inv:SrI t (appl t) (fun _ _=>True) L (links s.2.2.2.2.1.reg) s.1 s.2.1 (qs s.2.2.2.2.2.l) ord s.2.2.2.1.toNat
  heap:HeapOk (qs s.2.2.2.2.2.l)
  ord0:0≤s.2.2.1
  ord1:s.2.2.1≤(N:Int) + 1
  qlen:s.2.2.2.2.2.l.length≤N
  exp0:0≤s.2.2.2.1
  co:CO t s.1 s.2.1
  nn:(N:Int)≤1 + 80 * s.2.2.2.1
theorem UI.exp {t:Tsk} (hs:Few t) {ord:Nat→Nat} {N:Nat} {L:List (List Int)} {s:US} (h:UI t ord N L s):s.2.2.2.1≤600:=by
  have h1:=h.inv.num
  have h2:=Mw s.2.1
  have h3:=h.inv.lenf
  have h4:=GH hs h.sq.reg
  have:=h.exp0
  omega
theorem SrI.ways {t:Tsk} {L:List (List Int)} {lk:List RLk} {g:List Int} {fn:List Bool} {hp:List QEn} {ord:Nat→Nat} {E:Nat} (h:SrI t (appl t) (fun _ _=>True) L lk g fn hp ord E) (hok:TaskOk t) {s0 p s:List Int} {C:Int} (hw:PlanR t s0 p s C):∀ (i:Nat) c,L[i]?=some s0→g[i]?=some c→(∃ e∈hp,e.key≤c + C)∨∃ i:Nat,L[i]?=some s∧fn[i]?=some true:=by
  induction hw with
  | nil =>
    intro i c hi hc
    obtain ⟨b,hb⟩:=AH (l:=fn) (k:=i) (by rw [h.lenf];exact AJ hi)
    cases b with
    | false=>obtain ⟨e,m,k1,_⟩:=h.opn i c hb hc;exact .inl ⟨e,m,by omega⟩
    | true=>exact .inr ⟨i,hi,hb⟩
  | @cons s0 rest s' k o C ho hpre hr ih =>
    intro i c hi hc
    have h1:=(hr.bound hok).1
    have h2:=(hok.2.2.2.2.2 k o ho).1
    obtain ⟨b,hb⟩:=AH (l:=fn) (k:=i) (by rw [h.lenf];exact AJ hi)
    cases b with
    | false=>obtain ⟨e,m,k1,_⟩:=h.opn i c hb hc;exact .inl ⟨e,m,by omega⟩
    | true =>
      obtain ⟨k',o',i',c0,c',a1,a2,a3,a4,a5,a6⟩:=h.rel i s0 _ hb hi (Ku ho hpre) trivial
      have e1:k=k':=by omega
      subst e1
      rw [ho] at a2
      obtain rfl:=Option.some.inj a2
      rw [hc] at a4
      obtain rfl:=Option.some.inj a4
      rcases ih i' c' a3 a5 with ⟨e,m,k1⟩|h3
      · exact .inl ⟨e,m,by omega⟩
      · exact .inr h3
theorem Oy {t:Tsk} (hs:Few t) {ord:Nat→Nat} {N:Nat} {L:List (List Int)} {st:US} (h:UI t ord N L st) :
    (∃ st':US,(∀ lim,uniF t lim st=some (.next st'))∧UI t ord N L st'∧st'.2.2.2.1=st.2.2.2.1∧st'.2.2.2.2.2.l.length < st.2.2.2.2.2.l.length) ∨
    ((∀ lim,uniF t lim st=some (.brk st))∧st.2.2.2.2.2.l.length=0) ∨
    (∃ p c,(∀ lim,uniF t lim st=some (.ret (⟨1,p,c,st.2.2.2.1⟩,⟨0⟩)))∧p.length≤600∧(∃ s',PlanR t t.init p s' c∧holdsB t.goal s'=true)∧(∀ e∈qs st.2.2.2.2.2.l,c≤e.key)) ∨
    (∃ (st':US) (ord':Nat→Nat) (N':Nat) (L':List (List Int)),(∀ lim,uniF t lim st=if lim≤st.2.2.2.1 then some (.ret (⟨3,[],0,st.2.2.2.1⟩,⟨0⟩)) else some (.next st'))∧UI t ord' N' L' st'∧st'.2.2.2.1=st.2.2.2.1 + 1∧∃ (i:Nat) (s:List Int) (c:Int),L[i]?=some s∧st.2.1[i]?=some false∧st.1[i]?=some c∧holdsB t.goal s=false∧∀ C,Walk t t.init C→c≤C):=by
  have hok:=hs.ok
  have hE:=h.exp hs
  have hE0:=h.exp0
  have hnn:=h.nn
  have hql:=h.qlen
  obtain ⟨g,fn,order,exp,x,q⟩:=st
  dsimp only at hE hE0 hnn hql ⊢
  by_cases h0:q.l.length=0
  · refine .inr (.inl ⟨fun lim=>?_,h0⟩)
    unfold uniF Bd
    dsimp only
    rw [AB,if_neg (by omega)]
  obtain ⟨pr,p1,e,q',rfl,p3,p4,p5⟩:=NB (q:=q) h.heap (by omega) (by omega)
  have hem:toQ e∈qs q.l:=p4.mem_iff.2 List.mem_cons_self
  obtain ⟨i,hei,hil,hek⟩:=h.inv.ent _ hem
  change e.id=(i:Int) at hei
  obtain ⟨s,hsi⟩:=AH (l:=L) (k:=i) hil
  obtain ⟨b,hb⟩:=AH (l:=fn) (k:=i) (by have:=h.inv.lenf;dsimp only at this;omega)
  obtain ⟨c,hc⟩:=AH (l:=g) (k:=i) (by have:=h.inv.leng;dsimp only at this;omega)
  have hpl:=p4.length_eq
  simp only [List.length_cons,Ei] at hpl
  cases b with
  | true =>
    refine .inl ⟨(g,fn,order,exp,x,q'),fun lim=>?_,⟨h.sq,h.inv.drop p4 hei (.inl hb),p3,h.ord0,h.ord1,by dsimp only;omega,h.exp0,h.co,h.nn⟩,rfl,by dsimp only;omega⟩
    unfold uniF Bd
    dsimp only
    rw [AB,if_pos (by omega),p1,AB]
    dsimp only
    rw [hei,Bu,hb,AB,if_t]
  | false =>
    have hke:e.cost=c:=by
      obtain ⟨e',m,k1,_⟩:=h.inv.opn i c hb hc
      have h1:=Ki (p5 e' m)
      have h2:=hek c hc
      change c≤e.cost at h2
      change e.cost≤e'.key at h1
      omega
    have start:∀ lim,uniF t lim (g,fn,order,exp,x,q)=if holdsB t.goal s=true then bnd (BC x (i:Int) exp) fun z=>some (.ret (z.1,(⟨z.2.n⟩:Err))) else if lim≤exp then (some (.ret (⟨3,[],0,exp⟩,⟨0⟩))) else (bnd (atI fn (i:Int)) fun _=>bnd (chkI (exp + 1)) fun n2=>bnd (AX x.gen s) fun l=>bnd (rng (ρ:=Ctl US (Rsl×Err)) (fun (_:Nat) (a:Suc) (y:UT)=>uIn t n2 c (i:Int) y a) l 0 (g,(fn.set i true),order,x,q')) fun r=>fin r fun (z:UT)=>some (.next (z.1,z.2.1,z.2.2.1,n2,z.2.2.2.1,z.2.2.2.2))):=by
      intro lim
      unfold uniF Bd BG
      dsimp only
      rw [AB,if_pos (by omega),p1,AB]
      dsimp only
      rw [hei,hke,Bu,hb,AB,if_f,KM hok.1 h.sq.reg hsi,AB,if_neg (by simp),Mr,AB,Int.toNat_natCast,AB]
    have hkey:g[i]?=some (toQ e).key:=by rw [hc,← hke];rfl
    have hleast:∀ e'∈qs q.l,c≤e'.key:=fun e' m=>by have:=Ki (p5 e' m);change e.cost≤e'.key at this;omega
    have hchp:∀ C,Walk t t.init C→c≤C:=fun C hw=>by
      obtain ⟨e',m,k1⟩:=h.inv.front hok (HA hw) 0 0 h.inv.root h.inv.root0
      have:=hleast e' m
      omega
    by_cases hg:holdsB t.goal s=true
    · obtain ⟨p,g1,g2,g3⟩:=h.inv.path hsi hc
      have hL:=GH hs h.sq.reg
      have hnum:=h.inv.num
      have hcl:=Mw fn
      have hfl:=h.inv.lenf
      dsimp only at g1 g2 g3 hnum hcl hfl
      refine .inr (.inr (.inl ⟨p,c,fun lim=>?_,by omega,⟨s,g2,hg⟩,hleast⟩))
      rw [start,if_pos hg]
      unfold BC
      rw [Nx h.sq.reg (by omega) g1 (by omega),AB,if_neg (by simp),h.sq.tt,Ox hok g2 0 0 (by omega) (by omega),AB,fin_d,Int.zero_add,AB]
    · have hgf:holdsB t.goal s=false:=by simpa using hg
      have hm:=h.inv.mark p4 p5 hei hb hkey hsi hgf
      have hbd:=h.inv.bound i c hc
      dsimp only at hm hbd
      rw [Int.toNat_of_nonneg hE0] at hbd
      have hfl:i < fn.length:=AJ hb
      have hset:∀ (j:Nat) c',(fn.set i true)[j]?=some true→g[j]?=some c'→c'≤c∧∀ C,Walk t t.init C→c'≤C:=fun j c' hj hc'=>by
        by_cases e1:i=j
        · subst e1
          rw [hc] at hc'
          obtain rfl:=Option.some.inj hc'
          exact ⟨Int.le_refl _,hchp⟩
        · rw [List.getElem?_set_ne e1] at hj
          exact ⟨by have:=h.inv.lower j c' hj hc' _ hem;change c'≤e.cost at this;omega,h.co j c' hj hc'⟩
      obtain ⟨y',y1,L',y2⟩:=u_exp hs (n2:=exp + 1) (E:=exp.toNat + 1) (N:=N) (i:=i) (s:=s) (c:=c) (L:=L) (y:=(g,fn.set i true,order,x,q')) ⟨h.sq,hm,p3,h.ord0,h.ord1,by dsimp only;omega,hsi,List.getElem?_set_self hfl,hc,fun j c' hj hc'=>(hset j c' hj hc').1,fun j c' hj hc'=>(hset j c' hj hc').2⟩ (by omega) (by omega) (by
        have:((exp.toNat + 1:Nat):Int)=exp + 1:=by omega
        rw [this];omega)
      have hsok:=h.sq.reg.st i s hsi
      refine .inr (.inr (.inr ⟨(y'.1,y'.2.1,y'.2.2.1,exp + 1,y'.2.2.2.1,y'.2.2.2.2),(fun j=>if j=i then exp.toNat else ord j),N + 80,L',fun lim=>?_,⟨y2.sq,?_,y2.heap,y2.ord0,y2.ord1,y2.qlen,by dsimp only;omega,y2.co,by dsimp only;omega⟩,rfl,i,s,c,hsi,hb,hc,hgf,hchp⟩))
      · rw [start,if_neg hg]
        by_cases hlim:lim≤exp
        · rw [if_pos hlim,if_pos hlim]
        · rw [if_neg hlim,if_neg hlim,Bu,hb,AB,Bp (by unfold inI64;omega),AB,h.sq.gen,Ns hok (Mz hok hsok),AB,y1,AB,fin_d]
      · dsimp only
        rw [show (exp + 1).toNat=exp.toNat + 1 from by omega]
        exact y2.inv
end
section
open Go Go.RowKit
def Cheap (t:Tsk) (s:List Int):Prop:=holdsB t.goal s=false∧∃ p c,PlanR t t.init p s c∧c≤1000000000∧∀ C,Walk t t.init C→c≤C
def ResU (t:Tsk) (m:Int) (r:Rsl):Prop:=0≤r.expanded∧r.expanded≤m∧∃ M:List (List Int),M.Nodup∧(M.length:Int)=r.expanded∧(∀ s∈M,Cheap t s) ∧
  ((r.verdict=1∧r.plan.length≤600∧(∃ s',PlanR t t.init r.plan s' r.cost∧holdsB t.goal s'=true)∧(∀ C,Walk t t.init C→r.cost≤C)∧∀ s p c,PlanR t t.init p s c→c < r.cost→s∈M) ∨
   (r.verdict=2∧r.plan=[]∧r.cost=0∧(∀ C,¬ Walk t t.init C)∧∀ s p c,PlanR t t.init p s c→s∈M) ∨
   (r.verdict=3∧r.plan=[]∧r.cost=0∧m≤r.expanded∧∃ s,¬ s∈M∧Cheap t s))
def outU:Fin US (Rsl×Err)→Rsl
  | .done s=>⟨2,[],0,s.2.2.2.1⟩
  | .ret r=>r.1
section
variable {t : Tsk} {ord : Nat → Nat} {N : Nat} {L : List (List Int)} {st : US}
theorem UI.set (hs:Few t) (h:UI t ord N L st):(marked L st.2.1).Nodup∧((marked L st.2.1).length:Int)=st.2.2.2.1∧∀ s∈marked L st.2.1,Cheap t s:=by
  have hE:=h.exp hs
  have hE0:=h.exp0
  refine ⟨(Kt h.sq.reg.nodup).sublist (IQ _ _),?_,fun s hm=>?_⟩
  · rw [IP L st.2.1 h.inv.lenf,h.inv.num,Int.toNat_of_nonneg h.exp0]
  · obtain ⟨i,hi,hb⟩:=Fh hm
    obtain ⟨c,hc⟩:=AH (l:=st.1) (k:=i) (by rw [h.inv.leng];exact AJ hi)
    obtain ⟨p,_,g2,_⟩:=h.inv.path hi hc
    have:=h.inv.bound i c hc
    rw [Int.toNat_of_nonneg hE0] at this
    exact ⟨h.inv.nogoal i s hb hi,p,c,g2,by omega,h.co i c hb hc⟩
theorem UI.len (hs:Few t) (h:UI t ord N L st):st.2.2.2.2.2.l.length≤90000:=by
  have h1:=h.exp hs
  have h2:=h.qlen
  have h3:=h.nn
  have:=h.exp0
  omega
end
theorem NE {M K a q q' n:Nat} (ha:a < M) (h:(M - a) * K + q < n + 1) (hq:q' < K):(M - (a + 1)) * K + q' < n:=by
  obtain ⟨b,hb⟩:∃ b,M - a=b + 1:=⟨M - a - 1,by omega⟩
  have hb':M - (a + 1)=b:=by omega
  rw [hb,Nat.add_mul,Nat.one_mul] at h
  rw [hb']
  omega
theorem u_all {t:Tsk} (hs:Few t) (lim:Int):∀ (n:Nat) (st:US) (ord:Nat→Nat) (N:Nat) (L:List (List Int)),UI t ord N L st→st.2.2.2.1≤max lim 0→(601 - st.2.2.2.1.toNat) * 100000 + st.2.2.2.2.2.l.length < n→∃ f,lop (uniF t lim) st=some f∧uniE f=some (outU f,⟨0⟩)∧ResU t (max lim 0) (outU f)∧st.2.2.2.1≤(outU f).expanded∧∀ lim',(outU f).verdict≠3→(outU f).expanded≤max lim' 0→lop (uniF t lim') st=some f:=by
  intro n
  induction n with
  | zero=>intro st ord N L _ _ hn;omega
  | succ n ih =>
    intro st ord N L h hsl hn
    have hE:=h.exp hs
    have hE0:=h.exp0
    have hok:=hs.ok
    obtain ⟨m1,m2,m3⟩:=h.set hs
    rcases Oy hs h with ⟨st',h1,h2,h3,h4⟩|⟨h1,h2⟩|⟨p,c,h1,h2,h3,h4⟩|⟨st',ord',N',L',h1,h2,h3,i,s,c,h4,h5,h6,h7,h8⟩
    · obtain ⟨f,f1,f0,f2,f3,f4⟩:=ih st' ord N L h2 (by omega) (by rw [h3];omega)
      refine ⟨f,by rw [DF,h1];exact f1,f0,f2,by omega,fun lim' hv hl=>?_⟩
      rw [DF,h1];exact f4 lim' hv hl
    · have hnil:∀ e,¬ e∈qs st.2.2.2.2.2.l:=fun e he=>by
        have:=List.length_pos_of_mem he
        rw [Ei] at this
        omega
      refine ⟨.done st,by rw [DF,h1],rfl,⟨hE0,hsl,marked L st.2.1,m1,m2,m3,.inr (.inl ⟨rfl,rfl,rfl,fun C hw=>?_,fun s p c hp=>?_⟩)⟩,Int.le_refl _,fun lim' _ _=>by rw [DF,h1]⟩
      · obtain ⟨e',m,_⟩:=h.inv.front hok (HA hw) 0 0 h.inv.root h.inv.root0
        exact hnil e' m
      · rcases h.inv.ways hok hp 0 0 h.inv.root h.inv.root0 with ⟨e,m,_⟩|⟨i,i1,i2⟩
        · exact absurd m (hnil e)
        · exact GG i1 i2
    · refine ⟨.ret (⟨1,p,c,st.2.2.2.1⟩,⟨0⟩),by rw [DF,h1],rfl,⟨hE0,hsl,marked L st.2.1,m1,m2,m3,.inl ⟨rfl,h2,h3,fun C hw=>?_,fun s p' c' hp hlt=>?_⟩⟩,Int.le_refl _,fun lim' _ _=>by rw [DF,h1]⟩
      · obtain ⟨e',m,k⟩:=h.inv.front hok (HA hw) 0 0 h.inv.root h.inv.root0
        have:=h4 e' m
        show c≤C
        omega
      · rcases h.inv.ways hok hp 0 0 h.inv.root h.inv.root0 with ⟨e,m,k⟩|⟨i,i1,i2⟩
        · have:=h4 e m
          change c' < c at hlt
          omega
        · exact GG i1 i2
    · by_cases hlim:lim≤st.2.2.2.1
      · refine ⟨.ret (⟨3,[],0,st.2.2.2.1⟩,⟨0⟩),by rw [DF,h1,if_pos hlim],rfl,⟨hE0,hsl,marked L st.2.1,m1,m2,m3,.inr (.inr ⟨rfl,rfl,rfl,by show max lim 0≤st.2.2.2.1;omega,s,fun hm=>?_,?_⟩)⟩,Int.le_refl _,fun lim' hv _=>absurd rfl hv⟩
        · obtain ⟨j,j1,j2⟩:=Fh hm
          have:=h.sq.reg.nodup i j s h4 j1
          subst this
          rw [h5] at j2
          cases j2
        · obtain ⟨p,_,g2,_⟩:=h.inv.path h4 h6
          have:=h.inv.bound i c h6
          rw [Int.toNat_of_nonneg hE0] at this
          exact ⟨h7,p,c,g2,by omega,h8⟩
      · have hmany:=h2.len hs
        obtain ⟨f,f1,f0,f2,f3,f4⟩:=ih st' ord' N' L' h2 (by omega) (by
          have:st'.2.2.2.1.toNat=st.2.2.2.1.toNat + 1:=by omega
          rw [this];exact NE (by omega) hn (by omega))
        refine ⟨f,by rw [DF,h1,if_neg hlim];exact f1,f0,f2,by omega,fun lim' hv hl=>?_⟩
        rw [DF,h1,if_neg (by omega)];exact f4 lim' hv hl
theorem Oz {t:Tsk} {reg:Reg} (hr:RegI t.vars reg [t.init]) (hlk:links reg=[⟨-1,-1,0⟩]):UI t (fun _=>0) 1 [t.init] (([0]:List Int),[false],1,0,⟨t,reg,some ⟨t⟩⟩,(⟨[(⟨0,0,0⟩:Itm)]⟩:BQ)):=by
  have one:∀ {α:Type} {a b:α} {i:Nat},[a][i]?=some b→i=0∧b=a:=fun {α a b i} h=>by
    cases i with
    | zero=>simp at h;exact ⟨rfl,h.symm⟩
    | succ i=>simp at h
  refine ⟨⟨rfl,rfl,hr⟩,?_,fun j x y hj hx=>by have:=(one hx).1;omega,by simp,by simp,by simp,by simp,(fun j c hj=>by have:=(one hj).2;cases this),by simp⟩
  dsimp only
  rw [hlk]
  refine ⟨rfl,rfl,rfl,rfl,rfl,fun i s k c hi hk hc=>?_,fun i hi=>?_,fun j c hj=>?_,fun e he=>?_,fun i c hi hc=>?_,fun i c hc=>?_,fun j s hj=>?_,fun j s q hj=>?_,rfl,fun i s hi=>?_,fun hE=>by simp at hE⟩
  · obtain ⟨rfl,rfl⟩:=one hi
    obtain ⟨_,rfl⟩:=one hk
    obtain ⟨_,rfl⟩:=one hc
    exact .inl ⟨rfl,rfl,rfl⟩
  · have:=(one hi).2;cases this
  · have:=(one hj).2;cases this
  · have he':e=toQ ⟨0,0,0⟩:=by simpa [qs] using he
    subst he'
    refine ⟨0,rfl,by simp,fun c hc=>?_⟩
    have:=(one hc).2
    rw [this]
    decide
  · obtain ⟨rfl,_⟩:=one hi
    have:=(one hc).2
    refine ⟨toQ ⟨0,0,0⟩,by simp [qs],?_,rfl⟩
    rw [this];rfl
  · have:=(one hc).2
    rw [this]
    decide
  · have:=(one hj).2;cases this
  · have:=(one hj).2;cases this
  · obtain ⟨_,rfl⟩:=one hi;exact .init
theorem LH {t:Tsk} (hs:Few t) (lim:Int):∃ r,Bz t lim=some (r,⟨0⟩)∧ResU t (max lim 0) r∧(r.verdict≠3→∀ lim',r.expanded≤max lim' 0→Bz t lim'=some (r,⟨0⟩)):=by
  obtain ⟨reg,b1,b2,b3⟩:=MZ hs.ok
  have unf:∀ l,Bz t l=bnd (lop (uniF t l) (([0]:List Int),[false],1,0,(⟨t,reg,some ⟨t⟩⟩:Spc),(⟨[(⟨0,0,0⟩:Itm)]⟩:BQ))) uniE:=fun l=>by
    rw [ND,b1,AB,if_neg (by simp),AB]
  obtain ⟨f,f1,f0,f2,f3,f4⟩:=u_all hs lim _ _ _ _ _ (Oz b2 b3) (by dsimp only;omega) (Nat.lt_succ_self _)
  refine ⟨outU f,by rw [unf,f1,AB,f0],f2,fun hv lim' hl=>?_⟩
  rw [unf,f4 lim' hv hl,AB,f0]
theorem LI {t:Tsk} (hs:Few t) {m:Int} {r:Rsl} (h:ResU t m r) (hm:600≤m):r.verdict≠3:=fun hv=>by
  obtain ⟨_,_,M,m1,m2,m3,h1|h1|⟨_,_,_,h4,s,h5,h6⟩⟩:=h
  · omega
  · omega
  · have h7:(s :: M).length≤(statesL t.vars).length:=Hz (List.nodup_cons.2 ⟨h5,m1⟩) fun s' hm'=>by
      have hc:Cheap t s':=by
        rcases List.mem_cons.1 hm' with rfl|hm'
        · exact h6
        · exact m3 s' hm'
      obtain ⟨_,p,c,hp,_⟩:=hc
      exact HV.2 ((hp.rch .init).ok hs.ok)
    have:=hs.many
    rw [List.length_cons] at h7
    omega
end
section
open Go Go.RowKit
structure Fit (t:Tsk) (old:List ByteArray):Prop where
  ok:TaskOk t
  ops:t.ops.length≤10
  old:old.length≤6
  states:∀ k,(statesL (t.vars.take k)).length≤81
theorem LJ {t:Tsk} (hok:TaskOk t):∃ r,Ef t.vars 81=some r∧(r≤81→∀ k,(statesL (t.vars.take k)).length≤81):=by
  have hv:=hok.2.2.1
  have hz:∀ k,k≤0→(statesL (t.vars.take k)).length≤81:=fun k hk=>by
    have:k=0:=by omega
    subst this
    simp [statesL]
  unfold Ef
  refine Gi (fun m s=>s=((statesL (t.vars.take m)).length:Int)∧∀ k,k≤m→(statesL (t.vars.take k)).length≤81) (fun q=>q=82) ⟨by simp [statesL],hz⟩ ?_ ?_ ?_
  · rintro m n s hn ⟨rfl,hI⟩
    obtain ⟨n1,n2⟩:=hv m n hn
    have h1:=hI m (Nat.le_refl _)
    have h3:((statesL (t.vars.take (m + 1))).length:Int)=((statesL (t.vars.take m)).length:Int) * n:=by
      rw [Hq hn,grows,Hr,Int.natCast_mul,Int.toNat_of_nonneg (by omega)]
    have h4:((statesL (t.vars.take m)).length:Int) * n≤81 * 64:=Int.le_trans (Int.mul_le_mul_of_nonneg_right (show ((statesL (t.vars.take m)).length:Int)≤81 by omega) (by omega)) (Int.mul_le_mul_of_nonneg_left (by omega) (by omega))
    have h5:0≤((statesL (t.vars.take m)).length:Int) * n:=Int.mul_nonneg (by omega) (by omega)
    rw [Bp (by unfold inI64;omega),AB,show min (max n 0) (81 + 1)=n from by omega,Bp (by unfold inI64;omega),AB]
    by_cases hq:81 < ((statesL (t.vars.take m)).length:Int) * n
    · rw [if_pos hq]
      exact .inr ⟨82,rfl,rfl⟩
    · rw [if_neg hq]
      refine .inl ⟨_,rfl,h3.symm,fun k hk=>?_⟩
      by_cases e:k=m + 1
      · subst e;omega
      · exact hI k (by omega)
  · rintro s ⟨rfl,hI⟩
    refine ⟨_,rfl,fun _ k=>?_⟩
    rcases Nat.lt_or_ge t.vars.length k with h|h
    · have h2:=hI t.vars.length (Nat.le_refl _)
      rw [List.take_of_length_le (by omega)]
      rwa [List.take_length] at h2
    · exact hI k h
  · rintro q rfl
    exact ⟨82,rfl,fun h=>by omega⟩
theorem Na (t:Tsk) (old:List ByteArray):∃ b,Eh t old=some b∧(b=true→SmallOk t∧Fit t old):=by
  unfold Eh Fx
  by_cases hs:SmallOk t
  case neg=>rw [bof_f hs,AB,if_f,AB];exact ⟨false,rfl,fun h=>by cases h⟩
  rw [bof_t hs,AB,if_t]
  by_cases h1:(t.ops.length:Int)≤10
  case neg=>rw [if_neg h1,AB];exact ⟨false,rfl,fun h=>by cases h⟩
  rw [if_pos h1]
  by_cases h2:(old.length:Int)≤6
  case neg=>rw [if_neg h2,AB];exact ⟨false,rfl,fun h=>by cases h⟩
  rw [if_pos h2]
  obtain ⟨r,hr,hr2⟩:=LJ hs.ok
  rw [hr,AB]
  by_cases h3:r≤81
  · rw [if_pos h3,AB];exact ⟨true,rfl,fun _=>⟨hs,hs.ok,by omega,by omega,hr2 h3⟩⟩
  · rw [if_neg h3,AB];exact ⟨false,rfl,fun h=>by cases h⟩
section
variable {t : Tsk} {old : List ByteArray} {w : Int}
theorem Fit.mid (h:Fit t old) (hu:TaskOk (cmpT t old w)):Mid (cmpT t old w):=by
  refine ⟨hu,fun k=>?_,?_⟩
  · show (statesL ((t.vars ++ [(old.length:Int) + 1]).take k)).length≤600
    rcases Nat.lt_or_ge t.vars.length k with hk|hk
    · have e:(t.vars ++ [(old.length:Int) + 1]).take k=(t.vars ++ [(old.length:Int) + 1]).take (t.vars.length + 1):=by
        rw [List.take_of_length_le (by simp;omega),List.take_of_length_le (by simp)]
      rw [e,Hq (n:=(old.length:Int) + 1) (by simp),grows,Hr,List.take_append_of_le_length (Nat.le_refl _),List.take_length]
      have h1:=h.states t.vars.length
      rw [List.take_length] at h1
      have h2:=h.old
      have:(statesL t.vars).length * ((old.length:Int) + 1).toNat≤81 * 7:=Nat.mul_le_mul h1 (by omega)
      omega
    · rw [List.take_append_of_le_length hk]
      have:=h.states k
      omega
  · show ((cmpL t old w).map (·.1)).length≤80
    rw [List.length_map]
    have h1:=Kf t old w
    have h2:old.length * (t.ops.length + 1)≤6 * 11:=Nat.mul_le_mul h.old (by have:=h.ops;omega)
    have:=h.ops
    omega
theorem NF {u:Tsk} {s P s':List Int} {C:Int} (h:PlanR u s P s' C):∀ (i:Nat) (k:Int),P[i]?=some k→∃ (j:Nat) (o:Opr),k=(j:Int)∧u.ops[j]?=some o:=by
  induction h with
  | nil=>intro i k hi;simp at hi
  | @cons s rest s' j o C ho _ _ ih =>
    intro i k hi
    cases i with
    | zero=>simp at hi;exact ⟨j,o,hi.symm,ho⟩
    | succ i=>exact ih i k (by simpa using hi)
theorem MA (L:List (Opr×Prt)) (P:List Int) (k:Int):mapP L (P ++ [k])=mapP L P ++ mapP L [k]:=by unfold mapP;rw [List.flatMap_append]
theorem FB (L:List (Opr×Prt)):∀ P:List Int,(mapP L P).length≤P.length
  | []=>by simp [mapP]
  | k :: P=>by
    have:=FB L P
    unfold mapP at this ⊢
    rw [List.flatMap_cons,List.length_append,List.length_cons]
    have h1:(partI L k).length≤1:=by
      unfold partI
      split
      · split<;>simp
      · simp
    omega
theorem GI (h:Fit t old) (hw0:0≤w) (hw1:w≤1000) (hu:¬ TaskOk (cmpT t old w)) (lim:Int):Bx t old w lim=some (⟨0,[],0,0⟩,0,⟨checkN (cmpT t old w)⟩)∧checkN (cmpT t old w)≠0:=by
  have hn:checkN (cmpT t old w)≠0:=fun h=>hu (DO.1 h)
  refine ⟨?_,hn⟩
  unfold Bx
  rw [IM h.ok (by have:=h.ops;omega) (by have:=h.old;omega) hw0 hw1,if_pos hn,AB,if_pos hn]
theorem GJ (h:Fit t old) (hw0:0≤w) (hw1:w≤1000) (hu:TaskOk (cmpT t old w)) (lim:Int):∃ r,Bz (cmpT t old w) lim=some (r,⟨0⟩)∧ResU (cmpT t old w) (max lim 0) r∧(r.verdict≠3→∀ lim',r.expanded≤max lim' 0→Bz (cmpT t old w) lim'=some (r,⟨0⟩)) ∧
    Bx t old w lim=some (if r.verdict≠1 then (r,0,⟨0⟩) else (⟨r.verdict,mapP (cmpL t old w) r.plan,r.cost,r.expanded⟩,(dist2 ((mapP (cmpL t old w) r.plan).map (nmO t)) old:Int),⟨0⟩)):=by
  obtain ⟨r,r1,r2,r3⟩:=LH (h.mid hu) lim
  refine ⟨r,r1,r2,r3,?_⟩
  unfold Bx
  rw [IM h.ok (by have:=h.ops;omega) (by have:=h.old;omega) hw0 hw1,if_neg (by rw [DO.2 hu];simp),AB,if_neg (by simp)]
  dsimp only
  rw [r1,AB,if_neg (by simp)]
  by_cases hv:r.verdict≠1
  · rw [if_pos hv,if_pos hv]
  rw [if_neg hv,if_neg hv]
  obtain ⟨_,_,M,_,_,_,⟨_,hl,⟨s',hp,_⟩,_,_⟩|⟨hv2,_⟩|⟨hv2,_⟩⟩:=r2
  · have hol:=h.ops
    have hold:=h.old
    rw [EN (fun i=>(mapP (cmpL t old w) (r.plan.take i),(mapP (cmpL t old w) (r.plan.take i)).map (nmO t))) (by simp [mapP]) ?gg1,AB,fin_d,List.take_length]
    case gg1 =>
      intro i k hk
      have hkl:=AJ hk
      obtain ⟨j,o,rfl,hj⟩:=NF hp i k hk
      obtain ⟨q,hq,_⟩:=Lp hj
      have hml:=FB (cmpL t old w) (r.plan.take i)
      rw [List.length_take] at hml
      have htk:r.plan.take (i + 1)=r.plan.take i ++ [(j:Int)]:=by rw [List.take_add_one,hk];rfl
      rw [htk,MA,JA hq,Bu,List.getElem?_map,hq,Option.map_some,AB]
      have hno:(0:Int)≤q.2.op→∃ (m:Nat) (o:Opr),q.2.op=(m:Int)∧t.ops[m]?=some o:=fun hop=>by
        rcases FA.1 (List.mem_of_getElem? hq) with ⟨m,o,hm,rfl⟩|⟨_,m,o,_,hm,rfl⟩|⟨p,_,_,rfl⟩
        · exact ⟨m,o,rfl,hm⟩
        · exact ⟨m,o,rfl,hm⟩
        · exact absurd (show (0:Int)≤-1 from hop) (by omega)
      by_cases hop:0≤q.2.op
      · obtain ⟨m,o',hm,hmo⟩:=hno hop
        rw [if_pos hop,if_pos hop,hm,Bu,hmo,AB,BZ (by simp;omega) (by simp;omega),AB,BZ (by simp;omega) (by simp;omega),AB]
        simp [mapP,Km hmo]
      · rw [if_neg hop,if_neg hop]
        simp [mapP]
    have hml:=FB (cmpL t old w) r.plan
    dsimp only
    rw [Oo (by simp;omega) (by omega),AB]
    rfl
  · exact absurd (by rw [hv2];decide) hv
  · exact absurd (by rw [hv2];decide) hv
theorem Lr (h:Fit t old) (hw0:0≤w) {m:Int} {r:Rsl} (hr:ResU (cmpT t old w) m r) (hv:r.verdict=1):∃ x c,PlanR t t.init (mapP (cmpL t old w) r.plan) x c∧holdsB t.goal x=true∧r.cost=c + w * (dist2 ((mapP (cmpL t old w) r.plan).map (nmO t)) old:Int) ∧
    ∀ π' x' c',PlanR t t.init π' x' c'→holdsB t.goal x'=true→r.cost≤c' + w * (dist2 (π'.map (nmO t)) old:Int):=by
  have hi:=h.ok.2.2.2.1.1
  have best:∀ π' x' c',(∀ C,Walk (cmpT t old w) (cmpT t old w).init C→r.cost≤C)→PlanR t t.init π' x' c'→holdsB t.goal x'=true→r.cost≤c' + w * (dist2 (π'.map (nmO t)) old:Int):=fun π' x' c' hb hp hg=>by
    have hx':x'.length=t.vars.length:=by
      have:∀ {s p s':List Int} {C:Int},PlanR t s p s' C→s'.length=s.length:=fun hp=>by
        induction hp with
        | nil=>rfl
        | cons _ _ _ ih=>rw [ih,Em]
      rw [this hp,hi]
    obtain ⟨P,hP⟩:=Mx (w:=w) h.ok (Hx (π'.map (nmO t)) old) t.init x' π' c' 0 hp rfl rfl (by omega) hi
    refine hb _ (hP.walk ?_)
    rw [Im h.ok hx',hg];simp
  obtain ⟨_,_,M,_,_,_,⟨_,_,⟨s',hp,hg⟩,hb,_⟩|⟨hv2,_⟩|⟨hv2,_⟩⟩:=hr
  · obtain ⟨x',p',c,n,rfl,_,hp2,hpl,hscr,hC⟩:=MX h.ok hp t.init 0 rfl hi (by omega)
    have hx':x'.length=t.vars.length:=by
      have:∀ {s p s':List Int} {C:Int},PlanR t s p s' C→s'.length=s.length:=fun hp=>by
        induction hp with
        | nil=>rfl
        | cons _ _ _ ih=>rw [ih,Em]
      rw [this hpl,hi]
    rw [Im h.ok hx',Bool.and_eq_true,decide_eq_true_eq] at hg
    have hpe:p'=old.length:=by omega
    subst hpe
    rw [List.take_length,List.drop_zero] at hscr
    have hle:=MW hscr
    have hbb:=best _ _ _ hb hpl hg.1
    refine ⟨x',c,hpl,hg.1,?_,fun π' x' c' h1 h2=>best π' x' c' hb h1 h2⟩
    have h1:w * (dist2 ((mapP (cmpL t old w) r.plan).map (nmO t)) old:Int)≤w * (n:Int):=Int.mul_le_mul_of_nonneg_left (by omega) hw0
    omega
  · omega
  · omega
theorem Nb (h:Fit t old) {m:Int} {r:Rsl} (hr:ResU (cmpT t old w) m r) (hv:r.verdict=2):r.plan=[]∧r.cost=0∧∀ π' x' c',PlanR t t.init π' x' c'→holdsB t.goal x'=true→False:=by
  have hi:=h.ok.2.2.2.1.1
  obtain ⟨_,_,M,_,_,_,⟨hv2,_⟩|⟨_,h1,h2,h3,_⟩|⟨hv2,_⟩⟩:=hr
  · omega
  · refine ⟨h1,h2,fun π' x' c' hp hg=>?_⟩
    have hx':x'.length=t.vars.length:=by
      have:∀ {s p s':List Int} {C:Int},PlanR t s p s' C→s'.length=s.length:=fun hp=>by
        induction hp with
        | nil=>rfl
        | cons _ _ _ ih=>rw [ih,Em]
      rw [this hp,hi]
    obtain ⟨P,hP⟩:=Mx (w:=w) h.ok (Hx (π'.map (nmO t)) old) t.init x' π' c' 0 hp rfl rfl (by omega) hi
    exact h3 _ (hP.walk (by rw [Im h.ok hx',hg];simp))
  · omega
theorem ResU.verd {u:Tsk} {m:Int} {r:Rsl} (h:ResU u m r):r.verdict=1∨r.verdict=2∨r.verdict=3:=by
  obtain ⟨_,_,M,_,_,_,⟨h,_⟩|⟨h,_⟩|⟨h,_⟩⟩:=h<;>simp [h]
end
end
section
open Go Go.RowKit
def Le {α:Type} (x y:Option α):Prop:=∀ r,x=some r→y=some r
theorem Le.rf {α:Type} {x:Option α}:Le x x:=fun _ h=>h
theorem Le.bnd {α β:Type} {x x':Option α} {f f':α→Option β} (h:Le x x') (hf:∀ a,Le (f a) (f' a)):Le (bnd x f) (bnd x' f'):=fun r hr=>by
  obtain ⟨a,ha,hb⟩:=bs hr
  rw [h a ha,AB]
  exact hf a r hb
theorem Le.ite {α:Type} {p:Prop} [Decidable p] {x x' y y':Option α} (h:Le x x') (k:Le y y'):Le (if p then x else y) (if p then x' else y'):=by
  by_cases hp:p
  · rw [if_pos hp,if_pos hp];exact h
  · rw [if_neg hp,if_neg hp];exact k
theorem Le.fin {σ κ:Type} {y:Fin σ κ} {f f':σ→Option κ} (hf:∀ a,Le (f a) (f' a)):Le (fin y f) (fin y f'):=by
  cases y with
  | done s=>exact hf s
  | ret c=>exact Le.rf
theorem Le.rng {α σ ρ:Type} {f f':Nat→α→σ→Option (Ctl σ ρ)} (hf:∀ k a s,Le (f k a s) (f' k a s)):∀ {xs:List α} {k:Nat} {s:σ},Le (rng f xs k s) (rng f' xs k s)
  | [],_,_=>Le.rf
  | x :: xs,k,s=>fun r hr=>by
    simp only [Proofs.Ytafdmfhdjfkooaa.rng] at hr ⊢
    cases hc:f k x s with
    | none=>rw [hc] at hr;cases hr
    | some c =>
      rw [hc] at hr
      rw [hf k x s c hc]
      cases c with
      | next s'=>exact Le.rng hf r hr
      | brk s'=>exact hr
      | ret q=>exact hr
theorem Le.rngN {σ ρ:Type} {f f':Nat→σ→Option (Ctl σ ρ)} {n:Nat} {s:σ} (hf:∀ k s,Le (f k s) (f' k s)):Le (rngN f n s) (rngN f' n s):=Le.rng fun _ k s=>hf k s
theorem Le.itr {σ ρ:Type} {f f':σ→Option (Ctl σ ρ)} (hf:∀ s,Le (f s) (f' s)):∀ (n:Nat) (s:σ),Le (itr f n s) (itr f' n s)
  | 0,_=>Le.rf
  | n + 1,s=>fun r hr=>by
    simp only [Proofs.Ytafdmfhdjfkooaa.itr] at hr ⊢
    cases hc:f s with
    | none=>rw [hc] at hr;cases hr
    | some c =>
      rw [hc] at hr
      rw [hf s c hc]
      cases c with
      | next s'=>exact Le.itr hf n s' r hr
      | brk s'=>exact hr
      | ret q=>exact hr
def lopE {σ ρ:Type} (f:σ→Option (Ctl σ ρ)) (s:σ):Option (Fin σ ρ):=itr f 600 s
theorem Le.lop {σ ρ:Type} {f f':σ→Option (Ctl σ ρ)} {s:σ} (hf:∀ s,Le (f s) (f' s)):Le (lopE f s) (lop f' s):=fun r hr=>Gr.2 ⟨600,Le.itr hf 600 s r hr⟩
end
section
open Go Go.RowKit
def factB (vars:List Int) (x:Fct):Bool:=decide (0≤x.var) && (decide (0≤x.val) && (match vars[x.var.toNat]? with|some y=>decide (x.val < y)|none=>false))
theorem Kv {vars:List Int} {x:Fct} (h:factB vars x=true):FactOk vars x:=by
  unfold factB at h
  simp only [Bool.and_eq_true,decide_eq_true_eq] at h
  obtain ⟨h1,h2,h3⟩:=h
  cases hv:vars[x.var.toNat]? with
  | none=>rw [hv] at h3;cases h3
  | some y=>rw [hv] at h3;exact ⟨h1,h2,y,hv,by simpa using h3⟩
def ascB:List Fct→Bool
  | x :: y :: r=>decide (x.var < y.var) && ascB (y :: r)
  | _=>true
theorem Ls:∀ {f:List Fct},ascB f=true→∀ (i:Nat) x y,f[i]?=some x→f[i + 1]?=some y→x.var < y.var
  | [],_,i,x,y,h,_=>by simp at h
  | [_],_,i,x,y,_,h=>by simp at h
  | a :: b :: r,h,i,x,y,h1,h2=>by
    simp only [ascB,Bool.and_eq_true,decide_eq_true_eq] at h
    cases i with
    | zero=>simp at h1 h2;subst h1;subst h2;exact h.1
    | succ i=>exact Ls h.2 i x y (by simpa using h1) (by simpa using h2)
def factsB (vars:List Int) (f:List Fct):Bool:=f.all (factB vars) && ascB f
theorem HB {vars:List Int} {f:List Fct} (h:factsB vars f=true):FactsOk vars f:=by
  unfold factsB at h
  rw [Bool.and_eq_true,List.all_eq_true] at h
  exact ⟨fun i x hx=>Kv (h.1 x (List.mem_of_getElem? hx)),Ls h.2⟩
def stateB:List Int→List Int→Bool
  | [],[]=>true
  | y :: vars,x :: s=>decide (0≤x) && (decide (x < y) && stateB vars s)
  | _,_=>false
theorem HC:∀ {vars s:List Int},stateB vars s=true→StateOk vars s
  | [],[],_=>⟨rfl,fun i x y h=>by simp at h⟩
  | y :: vars,x :: s,h=>by
    simp only [stateB,Bool.and_eq_true,decide_eq_true_eq] at h
    obtain ⟨h1,h2⟩:=HC h.2.2
    refine ⟨by simp [h1],fun i a b ha hb=>?_⟩
    cases i with
    | zero=>simp at ha hb;subst ha;subst hb;exact ⟨h.1,h.2.1⟩
    | succ i=>exact h2 i a b (by simpa using ha) (by simpa using hb)
  | [],_ :: _,h=>by simp [stateB] at h
  | _ :: _,[],h=>by simp [stateB] at h
def nameB (s:ByteArray):Bool:=decide (s.size≤256) && s.data.toList.all fun c=>decide (32≤c.toNat) && decide (c.toNat≤126)
theorem Nc {s:ByteArray} (h:nameB s=true):NameOk s:=by
  unfold nameB at h
  simp only [Bool.and_eq_true,decide_eq_true_eq,List.all_eq_true] at h
  refine ⟨h.1,fun i hi=>h.2 _ ?_⟩
  show s.data[i]∈_
  simp
def opB (vars:List Int) (o:Opr):Bool:=decide (0≤o.cost) && (decide (o.cost≤1048576) && (decide (o.effs.length≤64) && (nameB o.name && (factsB vars o.pre && o.effs.all fun e=>factsB vars e.cond && factB vars ⟨e.var,e.val⟩))))
theorem OA {vars:List Int} {o:Opr} (h:opB vars o=true):OpOk vars o:=by
  unfold opB at h
  simp only [Bool.and_eq_true,decide_eq_true_eq,List.all_eq_true] at h
  obtain ⟨h1,h2,h3,h4,h5,h6⟩:=h
  exact ⟨h1,h2,h3,Nc h4,HB h5,fun i e he=>⟨HB (h6 e (List.mem_of_getElem? he)).1,Kv (h6 e (List.mem_of_getElem? he)).2⟩⟩
def taskB (t:Tsk):Bool:=decide (t.vars.length≤64) && (decide (t.ops.length≤4096) && ((t.vars.all fun n=>decide (1≤n) && decide (n≤64)) && (stateB t.vars t.init && (factsB t.vars t.goal && t.ops.all (opB t.vars)))))
theorem Kw {t:Tsk} (h:taskB t=true):TaskOk t:=by
  unfold taskB at h
  simp only [Bool.and_eq_true,decide_eq_true_eq,List.all_eq_true] at h
  obtain ⟨h1,h2,h3,h4,h5,h6⟩:=h
  exact ⟨h1,h2,fun i n hn=>h3 n (List.mem_of_getElem? hn),HC h4,HB h5,fun i o ho=>OA (h6 o (List.mem_of_getElem? ho))⟩
def FC (t:Tsk):Option Err:=if taskB t=true then some ⟨0⟩ else none
theorem JD (t:Tsk):Le (FC t) (Dq t):=fun r h=>by
  obtain ⟨h1,rfl⟩:=DN h
  unfold Dq
  rw [DO.2 (Kw h1)]
def FV (x y:List Int):Option Bool:=some (decide (x=y))
theorem Kx (x y:List Int):Le (FV x y) (ER x y):=fun r h=>by
  unfold FV at h
  unfold ER
  rw [← h]
  by_cases hx:x=y
  · rw [bof_t hx];simp [hx]
  · rw [bof_f hx];simp [hx]
def FD (f:List Fct) (s:List Int):Option Bool:=CH f s
theorem GT (f:List Fct) (s:List Int):Le (FD f s) (CH f s):=Le.rf
def CA (x:List Int):Option (List Int):=Bq x
theorem DQ (x:List Int):Le (CA x) (Bq x):=Le.rf
end
section
open Go Go.RowKit
set_option maxRecDepth 20000
attribute [local irreducible] bnd fin rng rngN chkI mkI appI atI quoT AR Ba Bq BA
def Dm (x:List U64):Option (List U64):=BA x
theorem EG (x:List U64):Le (Dm x) (BA x):=Le.rf
def GU (t:Tsk):Option (Option Gnr×Err):=if taskB t=true then some (some ⟨t⟩,⟨0⟩) else none
theorem Jd (t:Tsk):Le (GU t) (DG t):=fun r h=>by
  obtain ⟨h1,rfl⟩:=DN h
  exact Mm (Kw h1)
def Ct (x:Option Gnr) (s:List Int):Option (List Int):=match x with
  | some g=>if stateB g.t.vars s=true then (if s.length≤1000000 then some (appl g.t s) else none) else none
  | none=>none
theorem Ey (x:Option Gnr) (s:List Int):Le (Ct x s) (BP x s):=fun r h=>by
  cases x with
  | none=>cases h
  | some g =>
    unfold Ct at h
    dsimp only at h
    split at h
    · rename_i h1
      obtain ⟨h3,rfl⟩:=DN h
      unfold BP
      rw [if_pos h3]
      show some (appS g.t s)=_
      rw [Gg (HC h1)]
    · cases h
noncomputable def CC (x0:List Itm):Option Int :=
  some (x0.length:Int)
theorem DA (x0:List Itm):Le (CC x0) (Bd x0):=by
  unfold CC Bd
  repeat' (first|apply Le.ite|apply Le.bnd|apply Le.fin|apply Le.rng|apply Le.rngN|apply Le.lop|exact Le.rf|intro _)
noncomputable def Cu (x0:List Itm) (x1:Int) (x2:Int):Option Bool :=
  bnd (bnd (atI x0 x1) fun a10=>bnd (atI x0 x2) fun a24=>if a10.cost < a24.cost then (some true) else (bnd (atI x0 x1) fun a39=>bnd (atI x0 x2) fun a53=>if a39.cost=a53.cost then (bnd (atI x0 x1) fun a68=>bnd (atI x0 x2) fun a82=>if a68.order < a82.order then (some true) else (some false)) else (some false)):Option Bool) fun y6=>some y6
theorem Ex (x0:List Itm) (x1:Int) (x2:Int):Le (Cu x0 x1 x2) (Bg x0 x1 x2):=by
  unfold Cu Bg
  repeat' (first|apply Le.ite|apply Le.bnd|apply Le.fin|apply Le.rng|apply Le.rngN|apply Le.lop|exact Le.rf|intro _)
noncomputable def Cv (x0:List Itm) (x1:Int) (x2:Int):Option (List Itm) :=
  bnd (atI x0 x2) fun a4=>bnd (atI x0 x1) fun a18=>bnd (atI x0 x1) fun a32=>bnd (atI (x0.set (x1:Int).toNat a4) x2) fun a48=>some ((x0.set (x1:Int).toNat a4).set (x2:Int).toNat a18)
theorem Dr (x0:List Itm) (x1:Int) (x2:Int):Le (Cv x0 x1 x2) (Bc x0 x1 x2):=by
  unfold Cv Bc
  repeat' (first|apply Le.ite|apply Le.bnd|apply Le.fin|apply Le.rng|apply Le.rngN|apply Le.lop|exact Le.rf|intro _)
noncomputable def DB (x0:BxR 77 75 Itm) (x1:An 75 Itm):Option (BxR 77 75 Itm) :=
  bnd (appI 24 x0.l [x1.x]) fun u31=>some (⟨u31⟩:BxR 77 75 Itm)
theorem Gk (x0:BxR 77 75 Itm) (x1:An 75 Itm):Le (DB x0 x1) (Ck x0 x1):=by
  unfold DB Ck
  repeat' (first|apply Le.ite|apply Le.bnd|apply Le.fin|apply Le.rng|apply Le.rngN|apply Le.lop|exact Le.rf|intro _)
noncomputable def DK (x0:BxR 77 75 Itm):Option ((An 75 Itm)×(BxR 77 75 Itm)) :=
  bnd (chkI ((x0.l.length:Int) - 1)) fun n13=>bnd (atI x0.l n13) fun a16=>bnd (cutI x0.l 0 n13) fun u37=>some ((⟨a16⟩:An 75 Itm),(⟨u37⟩:BxR 77 75 Itm))
theorem GK (x0:BxR 77 75 Itm):Le (DK x0) (Cp x0):=by
  unfold DK Cp
  repeat' (first|apply Le.ite|apply Le.bnd|apply Le.fin|apply Le.rng|apply Le.rngN|apply Le.lop|exact Le.rf|intro _)
noncomputable def DL (x0:BxR 77 75 Itm) (x1:Int):Option (BxR 77 75 Itm) :=
  bnd (lopE (ρ:=(BxR 77 75 Itm)) (fun (s5:Int×(BxR 77 75 Itm))=>bnd (chkI (s5.1 - 1)) fun n22=>bnd (quoT n22 2) fun n25=>bnd (if n25=s5.1 then (some true) else (bnd (Cu s5.2.l s5.1 n25) fun q42=>if q42=true then some false else some true):Option Bool) fun y28=>if y28=true then (some (.brk (s5.1,s5.2))) else (bnd (Cv s5.2.l n25 s5.1) fun q73=>some (.next (n25,(⟨q73⟩:BxR 77 75 Itm))))) (x1,x0)) fun res3=>fin res3 fun (s90:Int×(BxR 77 75 Itm))=>some s90.2
theorem GL (x0:BxR 77 75 Itm) (x1:Int):Le (DL x0 x1) (Cd x0 x1):=by
  unfold DL Cd
  repeat' (first|apply Ex|apply Dr|apply Le.ite|apply Le.bnd|apply Le.fin|apply Le.rng|apply Le.rngN|apply Le.lop|exact Le.rf|intro _)
noncomputable def Ds (x0:BxR 77 75 Itm) (x1:Int) (x2:Int):Option (Bool×(BxR 77 75 Itm)) :=
  bnd (lopE (ρ:=Bool×(BxR 77 75 Itm)) (fun (s6:Int×(BxR 77 75 Itm))=>bnd (chkI (2 * s6.1)) fun n23=>bnd (chkI (n23 + 1)) fun n26=>bnd (if x2≤n26 then (some true) else (if n26 < 0 then (some true) else (some false)):Option Bool) fun y29=>if y29=true then (some (.brk (s6.1,s6.2))) else (bnd (bnd (chkI (n26 + 1)) fun n45=>bnd (if n45 < x2 then (bnd (Cu s6.2.l n45 n26) fun q62=>if q62=true then some true else some false) else (some false):Option Bool) fun y48=>if y48=true then (some n45) else (some n26):Option Int) fun y40=>bnd (Cu s6.2.l y40 s6.1) fun q97=>if q97=true then bnd (Cv s6.2.l s6.1 y40) fun q109=>some (.next (y40,(⟨q109⟩:BxR 77 75 Itm))) else some (.brk (s6.1,s6.2)))) (x1,x0)) fun res4=>fin res4 fun (s126:Int×(BxR 77 75 Itm))=>bnd (if x1 < s126.1 then (some true) else (some false):Option Bool) fun y128=>some (y128,s126.2)
theorem FW (x0:BxR 77 75 Itm) (x1:Int) (x2:Int):Le (Ds x0 x1 x2) (BT x0 x1 x2):=by
  unfold Ds BT
  repeat' (first|apply Ex|apply Dr|apply Le.ite|apply Le.bnd|apply Le.fin|apply Le.rng|apply Le.rngN|apply Le.lop|exact Le.rf|intro _)
noncomputable def Dt (x0:BxR 77 75 Itm) (x1:An 75 Itm):Option (BxR 77 75 Itm) :=
  bnd (DB x0 (⟨x1.x⟩:An 75 Itm)) fun q9=>bnd (CC q9.l) fun q26=>bnd (chkI (q26 - 1)) fun n34=>bnd (DL q9 n34) fun q42=>some q42
theorem FX (x0:BxR 77 75 Itm) (x1:An 75 Itm):Le (Dt x0 x1) (BI x0 x1):=by
  unfold Dt BI
  repeat' (first|apply DA|apply Gk|apply GL|apply Le.ite|apply Le.bnd|apply Le.fin|apply Le.rng|apply Le.rngN|apply Le.lop|exact Le.rf|intro _)
noncomputable def DC (x0:BxR 77 75 Itm):Option ((An 75 Itm)×(BxR 77 75 Itm)) :=
  bnd (CC x0.l) fun q11=>bnd (chkI (q11 - 1)) fun n19=>bnd (Cv x0.l 0 n19) fun q22=>bnd (Ds (⟨q22⟩:BxR 77 75 Itm) 0 n19) fun q35=>bnd (DK q35.2) fun q44=>some ((⟨q44.1.x⟩:An 75 Itm),q44.2)
theorem Gl (x0:BxR 77 75 Itm):Le (DC x0) (BO x0):=by
  unfold DC BO
  repeat' (first|apply DA|apply GK|apply Dr|apply FW|apply Le.ite|apply Le.bnd|apply Le.fin|apply Le.rng|apply Le.rngN|apply Le.lop|exact Le.rf|intro _)
noncomputable def GM (x0:List Int):Option ((Option Pkr)×Err) :=
  if 64 < (x0.length:Int) then (some (none,(⟨5⟩:Err))) else (bnd (rng (ρ:=(Option Pkr)×Err) (fun (k25:Nat) (a26:Int) (s23:Int×Pkr)=>bnd (if a26 < 1 then (some true) else (if 64 < a26 then (some true) else (some false)):Option Bool) fun y48=>if y48=true then (some (.ret (none,(⟨1⟩:Err)))) else (bnd (lopE (ρ:=Ctl (Int×Pkr) ((Option Pkr)×Err)) (fun (s61:Int)=>bnd (shlI 1 s61) fun n76=>if n76 < a26 then (bnd (chkI (s61 + 1)) fun n80=>some (.next n80)) else (some (.brk s61))) 0) fun res59=>fin res59 fun (s87:Int)=>bnd (bnd (chkI (s23.1 + s87)) fun n95=>if 64 < n95 then (bnd (chkI (s23.2.words + 1)) fun n109=>some (0,(⟨s23.2.fields,n109⟩:Pkr))) else (some (s23.1,s23.2)):Option (Int×Pkr)) fun y89=>bnd (chkI (y89.2.words - 1)) fun n133=>bnd (appI 32 y89.2.fields [(⟨n133,y89.1,s87,a26⟩:PFd)]) fun u142=>bnd (chkI (y89.1 + s87)) fun n155=>some (.next (n155,(⟨u142,y89.2.words⟩:Pkr))))) x0 0 (0,(⟨([]:List PFd),1⟩:Pkr))) fun res21=>fin res21 fun (s167:Int×Pkr)=>some ((some s167.2),(⟨0⟩:Err)))
theorem KN (x0:List Int):Le (GM x0) (Dx x0):=by
  unfold GM Dx
  repeat' (first|apply Le.ite|apply Le.bnd|apply Le.fin|apply Le.rng|apply Le.rngN|apply Le.lop|exact Le.rf|intro _)
noncomputable def Dn (x0:PFd):Option U64 :=
  bnd (shlU (1:U64) x0.width) fun n12=>bnd (shlU (n12 - (1:U64)) x0.bit) fun n14=>some n14
theorem EX (x0:PFd):Le (Dn x0) (Ca x0):=by
  unfold Dn Ca
  repeat' (first|apply Le.ite|apply Le.bnd|apply Le.fin|apply Le.rng|apply Le.rngN|apply Le.lop|exact Le.rf|intro _)
noncomputable def En (x0:PFd) (x1:List U64):Option Int :=
  bnd (atI x1 x0.word) fun a15=>bnd (Dn x0) fun q26=>bnd (shrU (a15 &&& q26) x0.bit) fun n33=>some n33.toInt
theorem HP (x0:PFd) (x1:List U64):Le (En x0 x1) (Cr x0 x1):=by
  unfold En Cr
  repeat' (first|apply EX|apply Le.ite|apply Le.bnd|apply Le.fin|apply Le.rng|apply Le.rngN|apply Le.lop|exact Le.rf|intro _)
noncomputable def DR (x0:Pkr) (x1:List Int):Option ((List U64)×Err) :=
  if (x1.length:Int)≠(x0.fields.length:Int) then (some (([]:List U64),(⟨2⟩:Err))) else (bnd (mkI 8 ((0:U64):U64) x0.words) fun u25=>bnd (rng (ρ:=(List U64)×Err) (fun (k50:Nat) (a51:PFd) (s48:(List U64))=>bnd (bnd (x1[k50]?) fun a87=>if a87 < 0 then (some true) else (bnd (x1[k50]?) fun a98=>if a51.size≤a98 then (some true) else (some false)):Option Bool) fun y83=>if y83=true then (some (.ret (([]:List U64),(⟨2⟩:Err)))) else (bnd (atI s48 a51.word) fun a114=>bnd (x1[k50]?) fun a125=>bnd (shlU (BitVec.ofInt 64 a125) a51.bit) fun n135=>bnd (atI s48 a51.word) fun a137=>some (.next (s48.set (a51.word:Int).toNat (a114 ||| n135))))) x0.fields 0 u25) fun res46=>fin res46 fun (s154:(List U64))=>some (s154,(⟨0⟩:Err)))
theorem GZ (x0:Pkr) (x1:List Int):Le (DR x0 x1) (Bw x0 x1):=by
  unfold DR Bw
  repeat' (first|apply Le.ite|apply Le.bnd|apply Le.fin|apply Le.rng|apply Le.rngN|apply Le.lop|exact Le.rf|intro _)
noncomputable def DD (x0:Pkr) (x1:List U64):Option ((List Int)×Err) :=
  if (x1.length:Int)≠x0.words then (some (([]:List Int),(⟨2⟩:Err))) else (bnd (mkI 8 (0:Int) (x0.fields.length:Int)) fun u25=>bnd (Dm x1) fun q38=>bnd (rng (ρ:=(List Int)×Err) (fun (k60:Nat) (a61:PFd) (s58:(List Int)×(List U64))=>bnd (En a61 x1) fun q97=>bnd (s58.1[k60]?) fun a105=>bnd ((s58.1.set k60 q97)[k60]?) fun a117=>if a61.size≤a117 then (some (.ret (([]:List Int),(⟨2⟩:Err)))) else (bnd (atI s58.2 a61.word) fun a128=>bnd (Dn a61) fun q139=>bnd (atI s58.2 a61.word) fun a146=>some (.next ((s58.1.set k60 q97),(s58.2.set (a61.word:Int).toNat (a128 &&& ~~~q139)))))) x0.fields 0 (u25,q38)) fun res56=>fin res56 fun (s163:(List Int)×(List U64))=>bnd (rng (ρ:=(List Int)×Err) (fun (k171:Nat) (a172:U64) (s169:Unit)=>bnd (s163.2[k171]?) fun a182=>if (a182.toNat:Int)≠((0:U64).toNat:Int) then (some (.ret (([]:List Int),(⟨2⟩:Err)))) else (some (.next ()))) q38 0 ()) fun res167=>fin res167 fun (s196:Unit)=>some (s163.1,(⟨0⟩:Err)))
theorem Gm (x0:Pkr) (x1:List U64):Le (DD x0 x1) (BY x0 x1):=by
  unfold DD BY
  repeat' (first|apply HP|apply EX|apply EG|apply Le.ite|apply Le.bnd|apply Le.fin|apply Le.rng|apply Le.rngN|apply Le.lop|exact Le.rf|intro _)
noncomputable def DS (x0:Pkr) (x1:List U64):Option Int :=
  bnd (rng (ρ:=Int) (fun (k13:Nat) (a14:U64) (s11:U64)=>bnd (shrU ((s11 ^^^ a14) * (13787848793156543929:U64)) 29) fun n31=>some (.next (((s11 ^^^ a14) * (13787848793156543929:U64)) ^^^ n31))) x1 0 ((BitVec.ofInt 64 (x1.length:Int)) + (11400714819323198485:U64))) fun res9=>fin res9 fun (s37:U64)=>bnd (shrU s37 2) fun n39=>some n39.toInt
theorem Ha (x0:Pkr) (x1:List U64):Le (DS x0 x1) (BB x0 x1):=by
  unfold DS BB
  repeat' (first|apply Le.ite|apply Le.bnd|apply Le.fin|apply Le.rng|apply Le.rngN|apply Le.lop|exact Le.rf|intro _)
noncomputable def Cy (x0:List U64) (x1:List U64):Option Bool :=
  if (x0.length:Int)≠(x1.length:Int) then (some false) else (bnd (rng (ρ:=Bool) (fun (k18:Nat) (a19:U64) (s16:Unit)=>bnd (x1[k18]?) fun a36=>if (a19.toNat:Int)≠(a36.toNat:Int) then (some (.ret false)) else (some (.next ()))) x0 0 ()) fun res14=>fin res14 fun (s50:Unit)=>some true)
theorem EH (x0:List U64) (x1:List U64):Le (Cy x0 x1) (Bo x0 x1):=by
  unfold Cy Bo
  repeat' (first|apply Le.ite|apply Le.bnd|apply Le.fin|apply Le.rng|apply Le.rngN|apply Le.lop|exact Le.rf|intro _)
noncomputable def EO (x0:List Int):Option ((Option Reg)×Err) :=
  bnd (GM x0) fun q4=>if q4.2.n≠0 then (some (none,(⟨q4.2.n⟩:Err))) else (bnd q4.1 fun o22=>some ((some (⟨o22,([]:List REn),(⟨[]⟩:MapR 3 Int Int)⟩:Reg)),(⟨0⟩:Err)))
theorem IR (x0:List Int):Le (EO x0) (CE x0):=by
  unfold EO CE
  repeat' (first|apply KN|apply Le.ite|apply Le.bnd|apply Le.fin|apply Le.rng|apply Le.rngN|apply Le.lop|exact Le.rf|intro _)
noncomputable def CW (x0:Reg) (x1:List Int):Option ((List U64)×Int×Int×Err) :=
  bnd (DR x0.packer x1) fun q20=>if q20.2.n≠0 then (some (([]:List U64),0,(-1),(⟨2⟩:Err))) else (bnd (DS x0.packer q20.1) fun q41=>bnd (rng (ρ:=(List U64)×Int×Int×Err) (fun (k66:Nat) (a67:Int) (s64:Unit)=>bnd (atI x0.entries a67) fun a100=>bnd (Cy a100.words q20.1) fun q118=>if q118=true then some (.ret (q20.1,q41,a67,(⟨0⟩:Err))) else some (.next ())) (mget ([]:List Int) x0.table.l q41) 0 ()) fun res62=>fin res62 fun (s139:Unit)=>some (q20.1,q41,(-1),(⟨0⟩:Err)))
theorem Fi (x0:Reg) (x1:List Int):Le (CW x0 x1) (Bk x0 x1):=by
  unfold CW Bk
  repeat' (first|apply Ha|apply GZ|apply EH|apply Le.ite|apply Le.bnd|apply Le.fin|apply Le.rng|apply Le.rngN|apply Le.lop|exact Le.rf|intro _)
noncomputable def CB (x0:Reg) (x1:List Int):Option (Int×Bool×Err×Reg) :=
  bnd (CW x0 x1) fun q5=>if q5.2.2.2.n≠0 then (some (0,false,(⟨q5.2.2.2.n⟩:Err),x0)) else (if 0≤q5.2.2.1 then (some (q5.2.2.1,false,(⟨0⟩:Err),x0)) else (if 65536≤(x0.entries.length:Int) then (some (0,false,(⟨10⟩:Err),x0)) else (bnd (appI 48 x0.entries [(⟨q5.1,(⟨(-1),(-1),0⟩:RLk)⟩:REn)]) fun u53=>bnd (appI 8 (mget ([]:List Int) x0.table.l q5.2.1) ([(x0.entries.length:Int)]:List Int)) fun u82=>some ((x0.entries.length:Int),true,(⟨0⟩:Err),(⟨x0.packer,u53,(⟨mput x0.table.l q5.2.1 u82⟩:MapR 3 Int Int)⟩:Reg)))))
theorem DT (x0:Reg) (x1:List Int):Le (CB x0 x1) (Bh x0 x1):=by
  unfold CB Bh
  repeat' (first|apply Fi|apply Le.ite|apply Le.bnd|apply Le.fin|apply Le.rng|apply Le.rngN|apply Le.lop|exact Le.rf|intro _)
noncomputable def BW (x0:Reg) (x1:Int):Option Bool :=
  bnd (if 0≤x1 then (if x1 < (x0.entries.length:Int) then (some true) else (some false)) else (some false):Option Bool) fun y3=>some y3
theorem CX (x0:Reg) (x1:Int):Le (BW x0 x1) (AY x0 x1):=by
  unfold BW AY
  repeat' (first|apply Le.ite|apply Le.bnd|apply Le.fin|apply Le.rng|apply Le.rngN|apply Le.lop|exact Le.rf|intro _)
noncomputable def CN (x0:Reg) (x1:Int):Option ((List Int)×Err) :=
  bnd (BW x0 x1) fun q3=>if q3=true then bnd (atI x0.entries x1) fun a27=>bnd (DD x0.packer a27.words) fun q45=>some (q45.1,(⟨q45.2.n⟩:Err)) else some (([]:List Int),(⟨1⟩:Err))
theorem Fb (x0:Reg) (x1:Int):Le (CN x0 x1) (Br x0 x1):=by
  unfold CN Br
  repeat' (first|apply Gm|apply CX|apply Le.ite|apply Le.bnd|apply Le.fin|apply Le.rng|apply Le.rngN|apply Le.lop|exact Le.rf|intro _)
noncomputable def CI (x0:Reg) (x1:Int) (x2:Int) (x3:Int) (x4:Int):Option (Err×Reg) :=
  bnd (bnd (BW x0 x1) fun q10=>if q10=true then if x2≠(-1) then (bnd (BW x0 x2) fun q20=>if q20=true then some false else some true) else (some false) else some true:Option Bool) fun y6=>if y6=true then (some ((⟨1⟩:Err),x0)) else (bnd (atI x0.entries x1) fun a49=>some ((⟨0⟩:Err),(⟨x0.packer,(x0.entries.set (x1:Int).toNat ({ a49 with link:=(⟨x2,x3,x4⟩:RLk) }:REn)),x0.table⟩:Reg)))
theorem EP (x0:Reg) (x1:Int) (x2:Int) (x3:Int) (x4:Int):Le (CI x0 x1 x2 x3 x4) (Bi x0 x1 x2 x3 x4):=by
  unfold CI Bi
  repeat' (first|apply CX|apply Le.ite|apply Le.bnd|apply Le.fin|apply Le.rng|apply Le.rngN|apply Le.lop|exact Le.rf|intro _)
noncomputable def CP (x0:List Int):Option (List Int) :=
  bnd (chkI ((x0.length:Int) - 1)) fun n4=>bnd (lopE (ρ:=(List Int)) (fun (s9:(List Int)×Int×Int)=>if s9.2.1 < s9.2.2 then (bnd (atI s9.1 s9.2.2) fun a31=>bnd (atI s9.1 s9.2.1) fun a43=>bnd (atI s9.1 s9.2.1) fun a55=>bnd (atI (s9.1.set (s9.2.1:Int).toNat a31) s9.2.2) fun a69=>bnd (chkI (s9.2.1 + 1)) fun n83=>bnd (chkI (s9.2.2 - 1)) fun n86=>some (.next (((s9.1.set (s9.2.1:Int).toNat a31).set (s9.2.2:Int).toNat a43),n83,n86))) else (some (.brk (s9.1,s9.2.1,s9.2.2)))) (x0,0,n4)) fun res7=>fin res7 fun (s93:(List Int)×Int×Int)=>some s93.1
theorem Fc (x0:List Int):Le (CP x0) (Bt x0):=by
  unfold CP Bt
  repeat' (first|apply Le.ite|apply Le.bnd|apply Le.fin|apply Le.rng|apply Le.rngN|apply Le.lop|exact Le.rf|intro _)
noncomputable def CY (x0:Reg) (x1:Int):Option ((List Int)×Err) :=
  bnd (BW x0 x1) fun q3=>if q3=true then bnd (lopE (ρ:=(List Int)×Err) (fun (s14:Int×(List Int))=>bnd (atI x0.entries s14.1) fun a48=>if a48.link.parent < 0 then (bnd (CP s14.2) fun q74=>some (.ret (q74,(⟨0⟩:Err)))) else (bnd (appI 8 s14.2 [a48.link.op]) fun u89=>if (x0.entries.length:Int) < (u89.length:Int) then (some (.ret (([]:List Int),(⟨21⟩:Err)))) else (some (.next (a48.link.parent,u89))))) (x1,([]:List Int))) fun res12=>fin res12 fun (_:Int×(List Int))=>none else some (([]:List Int),(⟨1⟩:Err))
theorem Fj (x0:Reg) (x1:Int):Le (CY x0 x1) (BF x0 x1):=by
  unfold CY BF
  repeat' (first|apply CX|apply Fc|apply Le.ite|apply Le.bnd|apply Le.fin|apply Le.rng|apply Le.rngN|apply Le.lop|exact Le.rf|intro _)
noncomputable def Cw (x0:Option Gnr) (x1:List Int):Option (List Suc) :=
  bnd (Ct x0 x1) fun q7=>bnd (rng (ρ:=(List Suc)) (fun (k23:Nat) (a24:Int) (s21:(List Suc))=>bnd (CA x1) fun q46=>bnd (x0) fun o56=>bnd (atI o56.t.ops a24) fun a88=>bnd (rng (ρ:=Ctl (List Suc) (List Suc)) (fun (k115:Nat) (a116:Eff) (s113:(List Int))=>bnd (FD a116.cond x1) fun q150=>if q150=true then bnd (atI s113 a116.var) fun a157=>some (.next (s113.set (a116.var:Int).toNat a116.val)) else some (.next s113)) a88.effs 0 q46) fun res111=>fin res111 fun (s175:(List Int))=>bnd (appI 32 s21 [(⟨a24,s175⟩:Suc)]) fun u179=>some (.next u179)) q7 0 ([]:List Suc)) fun res19=>fin res19 fun (s195:(List Suc))=>some s195
theorem Ez (x0:Option Gnr) (x1:List Int):Le (Cw x0 x1) (AX x0 x1):=by
  unfold Cw AX
  repeat' (first|apply DQ|apply Ey|apply GT|apply Le.ite|apply Le.bnd|apply Le.fin|apply Le.rng|apply Le.rngN|apply Le.lop|exact Le.rf|intro _)
noncomputable def EI (x0:Tsk):Option ((Option Spc)×Err) :=
  bnd (GU x0) fun q24=>if q24.2.n≠0 then (some (none,(⟨q24.2.n⟩:Err))) else (bnd (EO x0.vars) fun q39=>if q39.2.n≠0 then (some (none,(⟨q39.2.n⟩:Err))) else (bnd q39.1 fun o52=>bnd (CB o52 x0.init) fun q55=>if q55.2.2.1.n≠0 then (some (none,(⟨q55.2.2.1.n⟩:Err))) else (some ((some (⟨(⟨x0.vars,x0.init,x0.goal,x0.ops⟩:Tsk),q55.2.2.2,q24.1⟩:Spc)),(⟨0⟩:Err)))))
theorem Iq (x0:Tsk):Le (EI x0) (Co x0):=by
  unfold EI Co
  repeat' (first|apply IR|apply DT|apply Jd|apply Le.ite|apply Le.bnd|apply Le.fin|apply Le.rng|apply Le.rngN|apply Le.lop|exact Le.rf|intro _)
noncomputable def Dl (x0:Spc) (x1:Int) (x2:Int):Option (Rsl×Err) :=
  bnd (CY x0.reg x1) fun q36=>if q36.2.n≠0 then (some ((⟨0,([]:List Int),0,0⟩:Rsl),(⟨q36.2.n⟩:Err))) else (bnd (rng (ρ:=Rsl×Err) (fun (k77:Nat) (a78:Int) (s75:Int)=>bnd (atI x0.t.ops a78) fun a125=>bnd (chkI (s75 + a125.cost)) fun n146=>some (.next n146)) q36.1 0 0) fun res73=>fin res73 fun (s160:Int)=>some ((⟨1,q36.1,s160,x2⟩:Rsl),(⟨0⟩:Err)))
theorem FE (x0:Spc) (x1:Int) (x2:Int):Le (Dl x0 x1 x2) (BC x0 x1 x2):=by
  unfold Dl BC
  repeat' (first|apply Fj|apply Le.ite|apply Le.bnd|apply Le.fin|apply Le.rng|apply Le.rngN|apply Le.lop|exact Le.rf|intro _)
noncomputable def CZ (x0:Int) (x1:Int):Option (Rsl×Err) :=
  some ((⟨x0,([]:List Int),0,x1⟩:Rsl),(⟨0⟩:Err))
theorem HQ (x0:Int) (x1:Int):Le (CZ x0 x1) (BG x0 x1):=by
  unfold CZ BG
  repeat' (first|apply Le.ite|apply Le.bnd|apply Le.fin|apply Le.rng|apply Le.rngN|apply Le.lop|exact Le.rf|intro _)
noncomputable def DZ (x0:Tsk) (x1:Int):Option (Rsl×Err) :=
  bnd (EI x0) fun q30=>if q30.2.n≠0 then (some ((⟨0,([]:List Int),0,0⟩:Rsl),(⟨q30.2.n⟩:Err))) else (bnd q30.1 fun o68=>bnd (lopE (ρ:=Rsl×Err) (fun (s78:(List Int)×(List Bool)×Int×Int×Spc×(BxR 77 75 Itm))=>bnd (CC s78.2.2.2.2.2.l) fun q116=>if 0 < q116 then (bnd (DC s78.2.2.2.2.2) fun q130=>bnd (atI s78.2.1 q130.1.x.id) fun a152=>if a152=true then (some (.next (s78.1,s78.2.1,s78.2.2.1,s78.2.2.2.1,s78.2.2.2.2.1,q130.2))) else (bnd (CN s78.2.2.2.2.1.reg q130.1.x.id) fun q191=>if q191.2.n≠0 then (some (.ret ((⟨0,([]:List Int),0,0⟩:Rsl),(⟨q191.2.n⟩:Err)))) else (bnd (FD x0.goal q191.1) fun q209=>if q209=true then bnd (Dl s78.2.2.2.2.1 q130.1.x.id s78.2.2.2.1) fun q581=>some (.ret (q581.1,(⟨q581.2.n⟩:Err))) else if x1≤s78.2.2.2.1 then (bnd (CZ 3 s78.2.2.2.1) fun q217=>some (.ret (q217.1,(⟨q217.2.n⟩:Err)))) else (bnd (atI s78.2.1 q130.1.x.id) fun a239=>bnd (chkI (s78.2.2.2.1 + 1)) fun n252=>bnd (Cw s78.2.2.2.2.1.gen q191.1) fun q255=>bnd (rng (ρ:=Ctl ((List Int)×(List Bool)×Int×Int×Spc×(BxR 77 75 Itm)) (Rsl×Err)) (fun (k275:Nat) (a276:Suc) (s273:(List Int)×(List Bool)×Int×Spc×(BxR 77 75 Itm))=>bnd (CB s273.2.2.2.1.reg a276.state) fun q346=>if q346.2.2.1.n≠0 then (bnd (CZ 3 n252) fun q363=>some (.ret (.ret (q363.1,(⟨q363.2.n⟩:Err))))) else (bnd (atI x0.ops a276.op) fun a385=>bnd (chkI (q130.1.x.cost + a385.cost)) fun n406=>bnd (if q346.2.1=true then (bnd (appI 8 s273.1 [n406]) fun u418=>bnd (appI 1 s273.2.1 [false]) fun u430=>some (.done (u418,u430))) else (bnd (bnd (atI s273.2.1 q346.1) fun a451=>if a451=true then (some true) else (bnd (atI s273.1 q346.1) fun a468=>if a468≤n406 then (some true) else (some false)):Option Bool) fun y447=>if y447=true then (some (.ret (.next (s273.1,s273.2.1,s273.2.2.1,(⟨(⟨s273.2.2.2.1.t.vars,s273.2.2.2.1.t.init,s273.2.2.2.1.t.goal,s273.2.2.2.1.t.ops⟩:Tsk),q346.2.2.2,s273.2.2.2.1.gen⟩:Spc),s273.2.2.2.2)))) else (some (.done (s273.1,s273.2.1)))):Option (Fin ((List Int)×(List Bool)) (Ctl ((List Int)×(List Bool)×Int×Spc×(BxR 77 75 Itm)) (Ctl ((List Int)×(List Bool)×Int×Int×Spc×(BxR 77 75 Itm)) (Rsl×Err))))) fun y409=>fin y409 fun (s411:(List Int)×(List Bool))=>bnd (atI s411.1 q346.1) fun a500=>bnd (CI ((⟨(⟨s273.2.2.2.1.t.vars,s273.2.2.2.1.t.init,s273.2.2.2.1.t.goal,s273.2.2.2.1.t.ops⟩:Tsk),q346.2.2.2,s273.2.2.2.1.gen⟩:Spc).reg) q346.1 q130.1.x.id a276.op n406) fun q541=>if q541.1.n≠0 then (some (.ret (.ret ((⟨0,([]:List Int),0,0⟩:Rsl),(⟨q541.1.n⟩:Err))))) else (bnd (Dt s273.2.2.2.2 (⟨(⟨n406,s273.2.2.1,q346.1⟩:Itm)⟩:An 75 Itm)) fun q554=>bnd (chkI (s273.2.2.1 + 1)) fun n562=>some (.next ((s411.1.set (q346.1:Int).toNat n406),s411.2,n562,(⟨(⟨(⟨(⟨s273.2.2.2.1.t.vars,s273.2.2.2.1.t.init,s273.2.2.2.1.t.goal,s273.2.2.2.1.t.ops⟩:Tsk),q346.2.2.2,s273.2.2.2.1.gen⟩:Spc).t.vars,(⟨(⟨s273.2.2.2.1.t.vars,s273.2.2.2.1.t.init,s273.2.2.2.1.t.goal,s273.2.2.2.1.t.ops⟩:Tsk),q346.2.2.2,s273.2.2.2.1.gen⟩:Spc).t.init,(⟨(⟨s273.2.2.2.1.t.vars,s273.2.2.2.1.t.init,s273.2.2.2.1.t.goal,s273.2.2.2.1.t.ops⟩:Tsk),q346.2.2.2,s273.2.2.2.1.gen⟩:Spc).t.goal,(⟨(⟨s273.2.2.2.1.t.vars,s273.2.2.2.1.t.init,s273.2.2.2.1.t.goal,s273.2.2.2.1.t.ops⟩:Tsk),q346.2.2.2,s273.2.2.2.1.gen⟩:Spc).t.ops⟩:Tsk),q541.2,(⟨(⟨s273.2.2.2.1.t.vars,s273.2.2.2.1.t.init,s273.2.2.2.1.t.goal,s273.2.2.2.1.t.ops⟩:Tsk),q346.2.2.2,s273.2.2.2.1.gen⟩:Spc).gen⟩:Spc),q554))))) q255 0 (s78.1,(s78.2.1.set (q130.1.x.id:Int).toNat true),s78.2.2.1,s78.2.2.2.2.1,q130.2)) fun res271=>fin res271 fun (s574:(List Int)×(List Bool)×Int×Spc×(BxR 77 75 Itm))=>some (.next (s574.1,s574.2.1,s574.2.2.1,n252,s574.2.2.2.1,s574.2.2.2.2)))))) else (some (.brk (s78.1,s78.2.1,s78.2.2.1,s78.2.2.2.1,s78.2.2.2.2.1,s78.2.2.2.2.2)))) (([0]:List Int),[false],1,0,o68,(⟨[(⟨0,0,0⟩:Itm)]⟩:BxR 77 75 Itm))) fun res76=>fin res76 fun (s613:(List Int)×(List Bool)×Int×Int×Spc×(BxR 77 75 Itm))=>bnd (CZ 2 s613.2.2.2.1) fun q615=>some (q615.1,(⟨q615.2.n⟩:Err)))
theorem HD (x0:Tsk) (x1:Int):Le (DZ x0 x1) (Bz x0 x1):=by
  unfold DZ Bz
  repeat' (first|apply Iq|apply HQ|apply DA|apply FE|apply Gl|apply FX|apply DT|apply EP|apply Fb|apply Ez|apply GT|apply Le.ite|apply Le.bnd|apply Le.fin|apply Le.rng|apply Le.rngN|apply Le.lop|exact Le.rf|intro _)
def BD (x:List Fct):Option (List Fct):=AR x
theorem Cm (x:List Fct):Le (BD x) (AR x):=Le.rf
def Cf (x:List Eff):Option (List Eff):=Ba x
theorem CD (x:List Eff):Le (Cf x) (Ba x):=Le.rf
noncomputable def Ea (x0:List ByteArray) (x1:List ByteArray):Option Int :=
  bnd (chkI ((x1.length:Int) + 1)) fun n9=>bnd (mkI 8 (0:Int) n9) fun u12=>bnd (rngN (ρ:=Int) (fun (k31:Nat) (s29:(List Int))=>bnd (s29[k31]?) fun a50=>some (.next (s29.set k31 (k31:Int)))) u12.length u12) fun res27=>fin res27 fun (s66:(List Int))=>bnd (rng (ρ:=Int) (fun (k74:Nat) (a75:ByteArray) (s72:(List Int))=>bnd (chkI ((x1.length:Int) + 1)) fun n99=>bnd (mkI 8 (0:Int) n99) fun u102=>bnd (chkI ((k74:Int) + 1)) fun n115=>bnd (atI u102 0) fun a118=>bnd (rng (ρ:=Ctl (List Int) Int) (fun (k138:Nat) (a139:ByteArray) (s136:(List Int))=>bnd (chkI ((k138:Int) + 1)) fun n161=>bnd (s136[k138]?) fun a164=>bnd (chkI ((k138:Int) + 1)) fun n174=>bnd (atI s72 n174) fun a177=>bnd (chkI ((min a164 a177) + 1)) fun n189=>bnd (atI s136 n161) fun a192=>if a75=a139 then (bnd (chkI ((k138:Int) + 1)) fun n207=>bnd (chkI ((k138:Int) + 1)) fun n210=>bnd (atI (s136.set (n161:Int).toNat n189) n210) fun a213=>bnd (s72[k138]?) fun a225=>bnd (atI (s136.set (n161:Int).toNat n189) n207) fun a235=>some (.next ((s136.set (n161:Int).toNat n189).set (n207:Int).toNat (min a213 a225)))) else (some (.next (s136.set (n161:Int).toNat n189)))) x1 0 (u102.set (0:Int).toNat n115)) fun res134=>fin res134 fun (s253:(List Int))=>some (.next s253)) x0 0 s66) fun res70=>fin res70 fun (s261:(List Int))=>bnd (s261[x1.length]?) fun a265=>some a265
theorem HE (x0:List ByteArray) (x1:List ByteArray):Le (Ea x0 x1) (Cl x0 x1):=by
  unfold Ea Cl
  repeat' (first|apply Le.ite|apply Le.bnd|apply Le.fin|apply Le.rng|apply Le.rngN|apply Le.lop|exact Le.rf|intro _)
noncomputable def Ek (x0:Opr) (x1:Int) (x2:Int):Option Opr :=
  bnd (BD x0.pre) fun q25=>bnd (appI 16 q25 [(⟨x1,x2⟩:Fct)]) fun u35=>bnd (Cf x0.effs) fun q49=>bnd (chkI (x2 + 1)) fun n59=>bnd (appI 40 q49 [(⟨([]:List Fct),x1,n59⟩:Eff)]) fun u62=>some (⟨x0.name,x0.cost,u35,u62⟩:Opr)
theorem Je (x0:Opr) (x1:Int) (x2:Int):Le (Ek x0 x1 x2) (Cx x0 x1 x2):=by
  unfold Ek Cx
  repeat' (first|apply CD|apply Cm|apply Le.ite|apply Le.bnd|apply Le.fin|apply Le.rng|apply Le.rngN|apply Le.lop|exact Le.rf|intro _)
noncomputable def DM (x0:List Eff):Option (List Eff) :=
  bnd (rngN (ρ:=(List Eff)) (fun (k8:Nat) (s6:(List Eff))=>bnd (s6[k8]?) fun a27=>bnd (BD a27.cond) fun q42=>bnd (s6[k8]?) fun a52=>some (.next (s6.set k8 ({ a52 with cond:=q42 }:Eff)))) x0.length x0) fun res4=>fin res4 fun (s81:(List Eff))=>some s81
theorem GN (x0:List Eff):Le (DM x0) (Cc x0):=by
  unfold DM Cc
  repeat' (first|apply Cm|apply Le.ite|apply Le.bnd|apply Le.fin|apply Le.rng|apply Le.rngN|apply Le.lop|exact Le.rf|intro _)
noncomputable def Ep (x0:Tsk) (x1:List ByteArray) (x2:Int):Option (Tsk×(List Prt)×Err) :=
  bnd (FC x0) fun q33=>if q33.n≠0 then (some ((⟨([]:List Int),([]:List Int),([]:List Fct),([]:List Opr)⟩:Tsk),([]:List Prt),(⟨q33.n⟩:Err))) else (bnd (if x2 < 0 then (some true) else (if 1000 < x2 then (some true) else (some false)):Option Bool) fun y44=>if y44=true then (some ((⟨([]:List Int),([]:List Int),([]:List Fct),([]:List Opr)⟩:Tsk),([]:List Prt),(⟨1⟩:Err))) else (if 63 < (x1.length:Int) then (some ((⟨([]:List Int),([]:List Int),([]:List Fct),([]:List Opr)⟩:Tsk),([]:List Prt),(⟨5⟩:Err))) else (bnd (chkI ((x1.length:Int) + 1)) fun n64=>bnd (CA x0.vars) fun q66=>bnd (appI 8 q66 ([n64]:List Int)) fun u68=>bnd (CA x0.init) fun q70=>bnd (appI 8 q70 ([0]:List Int)) fun u72=>bnd (BD x0.goal) fun q74=>bnd (appI 16 q74 ([(⟨(x0.vars.length:Int),(x1.length:Int)⟩:Fct)]:List Fct)) fun u76=>bnd (some (u68,u72,u76):Option ((List Int)×(List Int)×(List Fct))) fun y78=>bnd (rng (ρ:=Tsk×(List Prt)×Err) (fun (k214:Nat) (a215:Opr) (s212:(List Prt)×(List Opr))=>bnd (chkI (a215.cost + x2)) fun n257=>bnd (BD a215.pre) fun q262=>bnd (Cf a215.effs) fun q272=>bnd (appI 72 s212.2 [(⟨a215.name,n257,q262,q272⟩:Opr)]) fun u288=>bnd (appI 8 s212.1 [(⟨(k214:Int)⟩:Prt)]) fun u300=>some (.next (u300,u288))) x0.ops 0 (([]:List Prt),([]:List Opr))) fun res210=>fin res210 fun (s318:(List Prt)×(List Opr))=>bnd (rng (ρ:=Tsk×(List Prt)×Err) (fun (k326:Nat) (a327:ByteArray) (s324:(List Prt)×(List Opr))=>bnd (rng (ρ:=Ctl ((List Prt)×(List Opr)) (Tsk×(List Prt)×Err)) (fun (k359:Nat) (a360:Opr) (s357:(List Prt)×(List Opr))=>if a360.name=a327 then (bnd (Ek a360 (x0.vars.length:Int) (k326:Int)) fun q403=>bnd (appI 72 s357.2 [q403]) fun u405=>bnd (appI 8 s357.1 [(⟨(k359:Int)⟩:Prt)]) fun u407=>some (.next (u407,u405))) else (some (.next (s357.1,s357.2)))) x0.ops 0 (s324.1,s324.2)) fun res355=>fin res355 fun (s563:(List Prt)×(List Opr))=>bnd (Ek (⟨(⟨#[]⟩:ByteArray),x2,([]:List Fct),([]:List Eff)⟩:Opr) (x0.vars.length:Int) (k326:Int)) fun q565=>bnd (appI 72 s563.2 [q565]) fun u587=>bnd (appI 8 s563.1 [(⟨(-1)⟩:Prt)]) fun u600=>if 4096 < (u587.length:Int) then (some (.brk (u600,u587))) else (some (.next (u600,u587)))) x1 0 (s318.1,s318.2)) fun res322=>fin res322 fun (s619:(List Prt)×(List Opr))=>bnd (rngN (ρ:=Tsk×(List Prt)×Err) (fun (k627:Nat) (s625:(List Opr))=>bnd (s625[k627]?) fun a646=>bnd (DM a646.effs) fun q663=>bnd (s625[k627]?) fun a671=>some (.next (s625.set k627 ({ a671 with effs:=q663 }:Opr)))) s619.2.length s619.2) fun res623=>fin res623 fun (s688:(List Opr))=>bnd (FC (⟨y78.1,y78.2.1,y78.2.2,s688⟩:Tsk)) fun q698=>if q698.n≠0 then (some ((⟨([]:List Int),([]:List Int),([]:List Fct),([]:List Opr)⟩:Tsk),([]:List Prt),(⟨q698.n⟩:Err))) else (some ((⟨y78.1,y78.2.1,y78.2.2,s688⟩:Tsk),s619.1,(⟨0⟩:Err))))))
theorem HR (x0:Tsk) (x1:List ByteArray) (x2:Int):Le (Ep x0 x1 x2) (Cq x0 x1 x2):=by
  unfold Ep Cq
  repeat' (first|apply GN|apply Je|apply CD|apply Cm|apply DQ|apply JD|apply Le.ite|apply Le.bnd|apply Le.fin|apply Le.rng|apply Le.rngN|apply Le.lop|exact Le.rf|intro _)
noncomputable def EJ (x0:Tsk) (x1:List ByteArray) (x2:Int) (x3:Int):Option (Rsl×Int×Err) :=
  bnd (Ep x0 x1 x2) fun q34=>if q34.2.2.n≠0 then (some ((⟨0,([]:List Int),0,0⟩:Rsl),0,(⟨q34.2.2.n⟩:Err))) else (bnd (DZ q34.1 x3) fun q77=>if q77.2.n≠0 then (some ((⟨0,([]:List Int),0,0⟩:Rsl),0,(⟨q77.2.n⟩:Err))) else (if q77.1.verdict≠1 then (some (q77.1,0,(⟨0⟩:Err))) else (bnd (rng (ρ:=Rsl×Int×Err) (fun (k116:Nat) (a117:Int) (s114:(List Int)×(List ByteArray))=>bnd (atI q34.2.1 a117) fun a143=>if 0≤a143.op then (bnd (atI x0.ops a143.op) fun a156=>bnd (appI 8 s114.1 ([a143.op]:List Int)) fun u158=>bnd (appI 16 s114.2 [a156.name]) fun u160=>some (.next (u158,u160))) else (some (.next (s114.1,s114.2)))) q77.1.plan 0 (([]:List Int),([]:List ByteArray))) fun res112=>fin res112 fun (s269:(List Int)×(List ByteArray))=>bnd (Ea s269.2 x1) fun q273=>some ((⟨q77.1.verdict,s269.1,q77.1.cost,q77.1.expanded⟩:Rsl),q273,(⟨0⟩:Err)))))
theorem Ir (x0:Tsk) (x1:List ByteArray) (x2:Int) (x3:Int):Le (EJ x0 x1 x2 x3) (Bx x0 x1 x2 x3):=by
  unfold EJ Bx
  repeat' (first|apply HD|apply HE|apply HR|apply Le.ite|apply Le.bnd|apply Le.fin|apply Le.rng|apply Le.rngN|apply Le.lop|exact Le.rf|intro _)
noncomputable def GV  : Option Bool :=
  bnd (EJ (⟨([2]:List Int),([0]:List Int),[(⟨0,1⟩:Fct)],[(⟨(⟨#[97]⟩:ByteArray),3,([]:List Fct),[(⟨([]:List Fct),0,1⟩:Eff)]⟩:Opr)]⟩:Tsk) [(⟨#[97]⟩:ByteArray)] 5 100) fun q56=>bnd (if q56.2.2.n=0 then (if q56.2.1=0 then (if q56.1.verdict=1 then (if q56.1.cost=3 then (bnd (FV q56.1.plan ([0]:List Int)) fun q100=>if q100=true then some true else some false) else (some false)) else (some false)) else (some false)) else (some false):Option Bool) fun y86=>some y86
theorem Jf  : Le (GV ) (CL ):=by
  unfold GV CL
  repeat' (first|apply Kx|apply Ir|apply Le.ite|apply Le.bnd|apply Le.fin|apply Le.rng|apply Le.rngN|apply Le.lop|exact Le.rf|intro _)
set_option maxRecDepth 100000 in
theorem awake60:CL=some true:=Jf true (by kernel_rfl)
end
section
open Go Go.RowKit
def repR (t:Tsk) (old:List ByteArray) (w:Int) (r:Rsl):Rsl×Int×Err:=if r.verdict≠1 then (r,0,⟨0⟩) else (⟨r.verdict,mapP (cmpL t old w) r.plan,r.cost,r.expanded⟩,(dist2 ((mapP (cmpL t old w) r.plan).map (nmO t)) old:Int),⟨0⟩)
section
variable {t : Tsk} {old : List ByteArray} {w : Int} {r : Rsl}
theorem Is:(repR t old w r).2.2.n=0:=by unfold repR;split<;>rfl
theorem Ky:(repR t old w r).1.verdict=r.verdict:=by unfold repR;split<;>rfl
theorem JB:(repR t old w r).1.cost=r.cost:=by unfold repR;split<;>rfl
theorem Kz (h:r.verdict=1):repR t old w r=(⟨r.verdict,mapP (cmpL t old w) r.plan,r.cost,r.expanded⟩,(dist2 ((mapP (cmpL t old w) r.plan).map (nmO t)) old:Int),⟨0⟩):=if_neg (fun h'=>h' h)
theorem KA (a b:List ByteArray):dist2 a b≤a.length + b.length:=(Hx a b).bound.1
end
theorem LK {w v da db ca cb:Int} (h1:ca + w * da≤cb + w * db) (h2:cb + v * db≤ca + v * da) (hw:0≤w) (hwv:w < v):db≤da∧ca≤cb:=by
  have hd:db≤da:=by
    rcases Int.lt_or_le da db with h|h
    · exfalso
      obtain ⟨e,rfl⟩:∃ e,db=da + e:=⟨db - da,by omega⟩
      rw [Int.mul_add] at h1 h2
      have:=Int.mul_lt_mul_of_pos_right hwv (show 0 < e by omega)
      omega
    · exact h
  refine ⟨hd,?_⟩
  have:=Int.mul_le_mul_of_nonneg_left hd hw
  omega
theorem LL (t:Tsk) (old:List ByteArray) (ws:Int×Int):CM t old ws=some true:=by
  unfold CM
  obtain ⟨b,hb,hfit⟩:=Na t old
  obtain ⟨l,hl⟩:=Mp old
  rw [hb,hl,awake60]
  cases b with
  | false=>rfl
  | true =>
  cases l with
  | true=>rfl
  | false =>
  obtain ⟨hs,hf⟩:=hfit rfl
  unfold Eg
  rw [AB,if_t,AB,if_f,AB,if_t,AB,if_f,AB,AB]
  obtain ⟨w,hw⟩:∃ w,w=max 0 (min (min ws.1 ws.2) 1000):=⟨_,rfl⟩
  obtain ⟨v,hv⟩:∃ v,v=max 0 (min (max ws.1 ws.2) 1000):=⟨_,rfl⟩
  rw [← hw,← hv]
  have hw0:0≤w:=by omega
  have hw1:w≤1000:=by omega
  have hv0:0≤v:=by omega
  have hv1:v≤1000:=by omega
  have hwv:w≤v:=by omega
  clear hw hv
  by_cases hu:TaskOk (cmpT t old w)
  case neg =>
    obtain ⟨e1,hn⟩:=GI hf hw0 hw1 hu 2000
    by_cases hu2:TaskOk (cmpT t old v)
    · obtain ⟨r2,_,_,_,b4⟩:=GJ hf hv0 hv1 hu2 2000
      rw [e1,AB,b4,AB,if_pos hn,AB,if_t]
    · obtain ⟨e2,_⟩:=GI hf hv0 hv1 hu2 2000
      rw [e1,AB,e2,AB,if_pos hn,AB,if_t]
  obtain ⟨r1,a1,a2,a3,a4⟩:=GJ hf hw0 hw1 hu 2000
  have a4':Bx t old w 2000=some (repR t old w r1):=a4
  by_cases hu2:TaskOk (cmpT t old v)
  case neg =>
    obtain ⟨e2,hn⟩:=GI hf hv0 hv1 hu2 2000
    rw [a4',AB,e2,AB,Is,if_neg (by simp),if_pos hn,AB,if_t]
  obtain ⟨r2,b1,b2,b3,b4⟩:=GJ hf hv0 hv1 hu2 2000
  have b4':Bx t old v 2000=some (repR t old v r2):=b4
  rw [a4',AB,b4',AB,Is,Is,Ky,Ky,JB,JB,if_neg (by simp),if_neg (by simp)]
  by_cases h1:r1.verdict=1
  case neg=>rw [if_pos h1,AB,if_t]
  rw [if_neg (fun h=>h h1),AB,if_f]
  obtain ⟨x,ca,p1,p2,p3,p4⟩:=Lr hf hw0 a2 h1
  have h2:r2.verdict=1:=by
    rcases b2.verd with h|h|h
    · exact h
    · exact ((Nb hf b2 h).2.2 _ _ _ p1 p2).elim
    · exact absurd h (LI (hf.mid hu2) b2 (by decide))
  obtain ⟨y,cb,q1,q2,q3,q4⟩:=Lr hf hv0 b2 h2
  rw [if_pos h2]
  by_cases hvw:w=v
  · rw [if_pos hvw,AB]
  rw [if_neg hvw,Kz h1,Kz h2]
  have k1:=p4 _ _ _ q1 q2
  have k2:=q4 _ _ _ p1 p2
  have l1:(mapP (cmpL t old w) r1.plan).length≤600:=by
    obtain ⟨_,_,M,_,_,_,⟨_,hl,_⟩|⟨h3,_⟩|⟨h3,_⟩⟩:=a2
    · have:=FB (cmpL t old w) r1.plan;omega
    · omega
    · omega
  have l2:(mapP (cmpL t old v) r2.plan).length≤600:=by
    obtain ⟨_,_,M,_,_,_,⟨_,hl,_⟩|⟨h3,_⟩|⟨h3,_⟩⟩:=b2
    · have:=FB (cmpL t old v) r2.plan;omega
    · omega
    · omega
  have d1:=KA ((mapP (cmpL t old w) r1.plan).map (nmO t)) old
  have d2:=KA ((mapP (cmpL t old v) r2.plan).map (nmO t)) old
  rw [List.length_map] at d1 d2
  have ho:=hf.old
  have c1:=p1.bound hf.ok
  have c2:=q1.bound hf.ok
  dsimp only
  rw [p3] at k1 ⊢
  rw [q3] at k2 ⊢
  generalize (dist2 ((mapP (cmpL t old w) r1.plan).map (nmO t)) old:Nat)=da at *
  generalize (dist2 ((mapP (cmpL t old v) r2.plan).map (nmO t)) old:Nat)=db at *
  obtain ⟨g1,g2⟩:=LK k1 k2 hw0 (by omega)
  have m1:w * (da:Int)≤1000 * 1000:=Int.le_trans (Int.mul_le_mul_of_nonneg_right hw1 (by omega)) (Int.mul_le_mul_of_nonneg_left (by omega) (by decide))
  have m2:v * (db:Int)≤1000 * 1000:=Int.le_trans (Int.mul_le_mul_of_nonneg_right hv1 (by omega)) (Int.mul_le_mul_of_nonneg_left (by omega) (by decide))
  have m3:0≤w * (da:Int):=Int.mul_nonneg hw0 (by omega)
  have m4:0≤v * (db:Int):=Int.mul_nonneg hv0 (by omega)
  have z1:chkI (w * (da:Int))=some (w * (da:Int)):=Bp (by unfold inI64;omega)
  have z2:chkI (v * (db:Int))=some (v * (db:Int)):=Bp (by unfold inI64;omega)
  have z3:chkI (ca + w * (da:Int) - w * (da:Int))=some ca:=by rw [show ca + w * (da:Int) - w * (da:Int)=ca from by omega];exact Bp (by unfold inI64;omega)
  have z4:chkI (cb + v * (db:Int) - v * (db:Int))=some cb:=by rw [show cb + v * (db:Int) - v * (db:Int)=cb from by omega];exact Bp (by unfold inI64;omega)
  rw [if_pos g1,z1,AB,z3,AB,z2,AB,z4,AB,if_pos g2,AB]
end
section
open Go Go.RowKit Go.ChangeShapes Go.WideShapes Go.Deep
theorem V_arr {α:Type} [Rp α] {w:World} {F:Nat→Prop} {v:Value} {x:α} (hb:Rp.isAgg α=false) (h:Rp.R w F [v] x):Vb w F v x:=by unfold Vb;rw [hb];exact h
theorem readsPair {P:Program} {t e:TypeId} [hr:Reads P e Int] (ht:P.underlying t=some (.array 2 e)) (hc:P.cellsOf e=1) (hc2:P.cellsOf t=2):Reads P t (Int×Int):=⟨fun {H enc w n cs x} h=>by
  obtain ⟨xs,m,_,_,hl,hx,hi⟩:=DataW.trod_array ht h
  rw [hc2] at hl
  obtain ⟨a,b,rfl⟩:=len2 hl
  rw [hc] at hi
  have g:∀ i (hlt:i < 2),∃ y,DataW.trod enc P w 0 (fun _=>true) true m e (([a,b].drop (i * 1)).take 1)=some y:=fun i hlt=>⟨xs[i],(hi i hlt).trans (List.getElem?_eq_getElem (by omega))⟩
  obtain ⟨y0,g0⟩:=g 0 (by decide)
  obtain ⟨y1,g1⟩:=g 1 (by decide)
  obtain ⟨z0,q0⟩:=hr.of g0
  obtain ⟨z1,q1⟩:=hr.of g1
  exact ⟨(z0,z1),a,b,rfl,V_arr rfl q0,V_arr rfl q1⟩⟩
instance:Reads Try.prog 33 (Int×Int):=readsPair Try.underlying33 c_int (by kernel_rfl)
theorem lawRWeighs {w:World} {v0:Value} {a0:Tsk} (h0:V w v0 a0) {v1:Value} {a1:List ByteArray} (h1:V w v1 a1) {v2:Value} {a2:Int×Int} (h2:V w v2 a2):Fn Try.prog 5 [v0,v1,v2] w fun v w'=>v=.bool true∧Ext w w' :=
  (GC (fun _ h=>h) h0 h1 h2 (LL a0 a1 a2)).mono fun _ _ h=>⟨h.2.bool,h.1⟩
set_option maxRecDepth 100000 in
theorem Hb (os:Os) (started:os.Started) (H:Type) (enc:TypeId×Value→H) :
    ReturnsInHanded {} Try.checked os 5 .any (Rows.repairWeighsSpec.pre6 enc Try.prog Try.f5 Rows.repairWeighsRow.domain false) (Rows.repairWeighsSpec.post enc Try.prog Try.f5 false true false false):=by
  refine returnsInHanded_of_change (C:=Try.checked) ownTry started (by kernel_rfl) Try.func5 (ChangeSpec.witness6 (enc:=enc) (C:=Try.checked) false ⟨#[],#[(.agg #[.slice none 0 0,.slice none 0 0,.slice none 0 0,.slice none 0 0]),.slice none 0 0,(.agg #[.int .i64 0,.int .i64 0])],[]⟩ 8 (by kernel_rfl) (by kernel_rfl) (by kernel_rfl) (by kernel_rfl)) ?_
  intro W base args ds gs before hval hW _ _
  have hopen:∀ p,DataW.TrodAll enc Try.prog W 0 (fun _=>true) true Try.f5.params.toList args.toList ds p→∃ v0 v1 v2 d0 d1 d2,args=#[v0,v1,v2]∧ds=[d0,d1,d2]∧(∃ a:Tsk,V W v0 a)∧(∃ a:List ByteArray,V W v1 a)∧(∃ a:(Int×Int),V W v2 a):=by
    intro p hA
    rw [Try.params5] at hA
    replace hval:∀ (j:Nat) t v,(#[32,22,33]:Array TypeId)[j]?=some t→args[j]?=some v→Value.okWide Try.prog W .any base t v:=by rw [← Try.params5];exact hval
    obtain ⟨v0,vs0,d0,ds0,p0,q0,g0,e0,_,h0,r0⟩:=trodAll_cons hA
    obtain ⟨v1,vs1,d1,ds1,p1,q1,g1,e1,_,h1,r1⟩:=trodAll_cons r0
    obtain ⟨v2,vs2,d2,ds2,p2,q2,g2,e2,_,h2,r2⟩:=trodAll_cons r1
    obtain ⟨g,e,_⟩:=trodAll_nil r2
    rw [g] at g2;rw [e] at e2
    rw [g2] at g1;rw [e2] at e1
    rw [g1] at g0;rw [e1] at e0
    obtain rfl:args=#[v0,v1,v2]:=by cases args;simp_all
    exact ⟨v0,v1,v2,d0,d1,d2,rfl,e0,(by first|exact openAgg rfl (hval 0 32 v0 rfl rfl) h0|exact openOne rfl (hval 0 32 v0 rfl rfl) h0),(by first|exact openAgg rfl (hval 1 22 v1 rfl rfl) h1|exact openOne rfl (hval 1 22 v1 rfl rfl) h1),(by first|exact openAgg rfl (hval 2 33 v2 rfl rfl) h2|exact openOne rfl (hval 2 33 v2 rfl rfl) h2)⟩
  refine lawPost rfl (by kernel_rfl) (by rw [Try.params5];exact of_decide_eq_true (by kernel_rfl)) hW ?_ ?_
  · intro p hA
    obtain ⟨v0,v1,v2,d0,d1,d2,_,rfl,_⟩:=hopen p hA
    rfl
  · intro p hA
    obtain ⟨v0,v1,v2,d0,d1,d2,rfl,_,⟨a0,h0⟩,⟨a1,h1⟩,⟨a2,h2⟩⟩:=hopen p hA
    exact lawRWeighs h0 h1 h2
theorem repairWeighs_holds:Rows.RepairWeighsSaid :=
  OpenClaim.holds_of_wide 5 Try.f5 rfl rfl rfl rfl rfl rfl rfl ⟨rfl,rfl,rfl,rfl,rfl⟩ rfl rfl rfl rfl rfl (by kernel_rfl) Try.func5 (by kernel_rfl)
    (of_decide_eq_true (by kernel_rfl)) (by unfold Func.isWrapper;first|(rw [if_pos (by decide +kernel)];kernel_rfl)|(rw [if_neg (by decide +kernel)];exact ⟨rfl,rfl⟩))
    (fun os started H enc _=>Hb os started H enc)
#print axioms repairWeighs_holds
end
end Go.Proofs.Ytafdmfhdjfkooaa

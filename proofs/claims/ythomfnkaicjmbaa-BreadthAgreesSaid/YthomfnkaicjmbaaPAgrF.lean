/- BreadthAgrees returns true for every task and every cost, and the task reads behind the call as before. No conditions. -/
import Derived.Test.YthomfnkaicjmbaaPAgrE
import Derived.Test.YthomfnkaicjmbaaRows
set_option linter.unusedVariables false
set_option linter.unusedSimpArgs false
namespace Go.Proofs.Ythomfnkaicjmbaa
open Go Go.RowKit
section
open Go Go.RowKit
attribute [local irreducible] ewp owp hwp hwq hws Ev Evg Fn retPost loud loudS Res1
attribute [local irreducible] hwx loudX
noncomputable def Fs (x0:Tsk) (x1:List Int) (x2:List Int):Option ((List Int)×Int×Err) :=
  bnd (FD x0) fun q30=>if q30.n≠0 then (some (([]:List Int),0,(⟨q30.n⟩:Err))) else (bnd (DJ x0.vars x1) fun q39=>if q39=true then if 65536 < (x2.length:Int) then (some (([]:List Int),0,(⟨5⟩:Err))) else (bnd (Bp x1) fun q49=>bnd (rng (ρ:=(List Int)×Int×Err) (fun (k65:Nat) (a66:Int) (s63:(List Int)×Int)=>bnd (CY x0 s63.1 a66) fun q90=>if q90.2.n≠0 then (some (.ret (([]:List Int),0,(⟨q90.2.n⟩:Err)))) else (bnd (atI x0.ops a66) fun a105=>bnd (chkI (s63.2 + a105.cost)) fun n126=>some (.next (q90.1,n126)))) x2 0 (q49,0)) fun res61=>fin res61 fun (s133:(List Int)×Int)=>some (s133.1,s133.2,(⟨0⟩:Err))) else some (([]:List Int),0,(⟨2⟩:Err)))
theorem KK {w:World} {A:Nat→Prop} (hA:∀ k,A k→k < w.heap.size) {vx0:Value} {x0:Tsk} (hx0:Vb w A vx0 x0) {vx1:Value} {x1:List Int} (hx1:Vb w A vx1 x1) {vx2:Value} {x2:List Int} (hx2:Vb w A vx2 x2) {r:(List Int)×Int×Err} (hm:Fs x0 x1 x2=some r) :
    Fn Try.prog 58 [vx0,vx1,vx2] w fun v w'=>Ext w w'∧T3 w' (upA A w w') v r:=by
 obtain ⟨O,hB,hA0⟩:=enter hA
 replace hx0:=hx0.mono hA0
 obtain ⟨cs4,rfl,v5,v6,v7,v8,rfl,h9,h12,h15,h18⟩:=hx0
 obtain ⟨A10,c11,rfl⟩:=h9.form
 obtain ⟨A13,c14,rfl⟩:=h12.form
 obtain ⟨A16,c17,rfl⟩:=h15.form
 obtain ⟨A19,c20,rfl⟩:=h18.form
 replace hx1:=hx1.mono hA0
 obtain ⟨A21,c22,rfl⟩:=hx1.form
 replace hx2:=hx2.mono hA0
 obtain ⟨A23,c24,rfl⟩:=hx2.form
 refine AL Try.func58 rfl Try.ntmps58 rfl ?_
 unfold Fs at hm
 refine Ah (Ae (l_box 2 O rfl rfl fun g25 w26 O27 S28 h29=>?_))
 replace h29:Lc 2 w26 O27 g25 26 [(.slice A10 x0.vars.length c11),(.slice A13 x0.init.length c14),(.slice A16 x0.goal.length c17),(.slice A19 x0.ops.length c20)]:=h29
 refine o_as rfl rfl (o_as rfl rfl (o_as rfl rfl (o_z ?_)))
 refine Ah (Ah (Ae (o_la (hl:=rfl) (hc:=(h29.1).cellsAt) rfl rfl ?_)))
 obtain ⟨q30,e31,hm⟩:=bs hm
 replace h9:=h9.st S28
 replace h12:=h12.st S28
 replace h15:=h15.st S28
 replace h18:=h18.st S28
 refine BG (O:=O27) (A:=All w26) (R:=fun w' F v=>Vb w' F v q30) (Js (fun _ h=>h) (Vb.mono (F:=Fr 0 w26 O27) (Vb.ofAgg (cs:=[(.slice A10 x0.vars.length c11),(.slice A13 x0.init.length c14),(.slice A16 x0.goal.length c17),(.slice A19 x0.ops.length c20)]) (x:=x0) rfl ⟨_,_,_,_,rfl,h9,h12,h15,h18⟩) Fr.lt) e31) rfl rfl fun v36 w32 O33 S34 h35=>?_
 obtain ⟨rfl,r37⟩:=h35.err
 refine o_as rfl rfl (o_z ?_)
 refine Ah (Ae (o_mv rfl rfl (o_rnS rfl rfl (fun c38=>?_) fun c38=>?_)))
 ·
  replace hm:=ip hm c38
  refine o_z ?_
  refine Ar rfl (Ah (Ae (o_mv rfl rfl (o_as rfl rfl (o_as rfl rfl (o_as rfl rfl (o_z ?_)))))))
  refine Au ?_
  obtain rfl:=sm hm
  replace hB:=(hB.st S28).st S34
  exact ret3 rfl (AF rfl) (AF rfl) (AF rfl) ⟨hB.ext,_,_,_,rfl,(Vb.mono (F:=Fr 0 w32 O33) (Vb.nil _ _) hB.out),(vInt (show inI64 (0) from by decide)),(vErr r37)⟩
 ·
  replace hm:=im hm c38
  refine o_z ?_
  refine Aj rfl (Am (Ah (Ah (Ae (o_fa rfl rfl ?_)))))
  replace h29:=h29.st S34
  refine o_ld (hc:=Blk.cell (i:=0) (h29.1) rfl) rfl rfl ?_
  refine o_mv rfl rfl ?_
  obtain ⟨q39,e40,hm⟩:=bs hm
  replace hx1:=(hx1.st S28).st S34
  replace h9:=h9.st S34
  refine BG (O:=O33) (A:=All w32) (R:=fun w' F v=>Vb w' F v q39) (GM (fun _ h=>h) (Vb.mono (F:=Fr 0 w32 O33) h9 Fr.lt) (Vb.mono (F:=Fr 0 w32 O33) hx1 Fr.lt) e40) rfl rfl fun v45 w41 O42 S43 h44=>?_
  obtain rfl:=h44.bool
  cases q39
  case false =>
   replace hm:=iF hm
   refine o_nf rfl rfl (o_z ?_)
   refine Ar rfl (Ah (Ae (o_miE rfl rfl ?_)))
   refine o_as rfl rfl (o_as rfl rfl (o_as rfl rfl (o_z ?_)))
   refine Au ?_
   obtain rfl:=sm hm
   replace hB:=((hB.st S28).st S34).st S43
   exact ret3 rfl (AF rfl) (AF rfl) (AF rfl) ⟨hB.ext,_,_,_,rfl,(Vb.mono (F:=Fr 0 w41 O42) (Vb.nil _ _) hB.out),(vInt (show inI64 (0) from by decide)),(vErr (by decide))⟩
  replace hm:=iT hm
  refine o_nt rfl rfl (o_z ?_)
  refine Aj rfl (Am (Ah (Ah (Ae (o_mv rfl rfl (o_ln rfl rfl ?_))))))
  replace hx2:=((hx2.st S28).st S34).st S43
  have l47:x2.length≤9223372036854775807:=Nat.le_trans hx2.len.2.1 hx2.len.2.2
  have r46:inI64 (x2.length:Int):=rngNat l47
  refine o_gtS rfl rfl rfl (fun c48=>?_) fun c48=>?_
  ·
   replace hm:=ip hm c48
   refine o_z ?_
   refine Ar rfl (Ah (Ae (o_miE rfl rfl ?_)))
   refine o_as rfl rfl (o_as rfl rfl (o_as rfl rfl (o_z ?_)))
   refine Au ?_
   obtain rfl:=sm hm
   replace hB:=((hB.st S28).st S34).st S43
   exact ret3 rfl (AF rfl) (AF rfl) (AF rfl) ⟨hB.ext,_,_,_,rfl,(Vb.mono (F:=Fr 0 w41 O42) (Vb.nil _ _) hB.out),(vInt (show inI64 (0) from by decide)),(vErr (by decide))⟩
  ·
   replace hm:=im hm c48
   refine o_z ?_
   refine Aj rfl (Am (Ah (Ae (o_as rfl rfl (o_z ?_)))))
   refine Ah (Ae (o_mv rfl rfl ?_))
   obtain ⟨q49,e50,hm⟩:=bs hm
   replace hx1:=hx1.st S43
   refine Fd 3 (by decide) (O:=O42) (Dd Fr.lt hx1 e50) rfl rfl fun A56 c57 w51 O52 S53 h54=>?_
   refine o_as rfl rfl (o_z ?_)
   refine Ah (Ah (Ae (o_mv rfl rfl (o_ln rfl rfl ?_))))
   replace hx2:=hx2.st S53
   have l60:x2.length≤9223372036854775807:=Nat.le_trans hx2.len.2.1 hx2.len.2.2
   have r59:inI64 (x2.length:Int):=rngNat l60
   refine o_mv rfl rfl (o_z ?_)
   obtain ⟨res61,hL62,hm⟩:=bs hm
   refine AN (aft res61 (fun (s63:(List Int)×Int) (x64:(Option Addr×Nat))=>[(1,(.slice x64.1 s63.1.length x64.2)),(10,(.int .i64 s63.2))]) (fun s63 x64 w'=>∃ O':Lab,Bs w A w' O'∧Vb w' (Fr 0 w' O') (.slice x64.1 s63.1.length x64.2) s63.1∧inI64 s63.2)) ?_ ?_
   ·
    refine Al ?_
    obtain ⟨O80,S81,h54⟩:=h54.freeze
    replace hB:=((((hB.st S28).st S34).st S43).st S53).st S81
    replace hx2:=hx2.st S81
    replace h9:=((h9.st S43).st S53).st S81
    replace h12:=(((h12.st S34).st S43).st S53).st S81
    replace h15:=(((h15.st S34).st S43).st S53).st S81
    replace h18:=(((h18.st S34).st S43).st S53).st S81
    replace h29:=((h29.st S43).st S53).st S81
    refine Ck (σ:=(List Int)×Int) (X:=(Option Addr×Nat)) (x2.length) hL62 rfl l60 (fun (s63:(List Int)×Int) (x64:(Option Addr×Nat))=>[(1,(.slice x64.1 s63.1.length x64.2)),(3,(.pointer (some ⟨g25,0,none⟩))),(10,(.int .i64 s63.2)),(32,(.slice A23 x2.length c24))]) _ (fun s63 x64 w'=>∃ O':Lab,Bs w A w' O'∧Vb w' (Fr 0 w' O') (.slice x64.1 s63.1.length x64.2) s63.1∧Lc 2 w' O' g25 26 [(.slice A10 x0.vars.length c11),(.slice A13 x0.init.length c14),(.slice A16 x0.goal.length c17),(.slice A19 x0.ops.length c20)]∧Vb w' (Fr 0 w' O') (.slice A10 x0.vars.length c11) x0.vars∧Vb w' (Fr 0 w' O') (.slice A13 x0.init.length c14) x0.init∧Vb w' (Fr 0 w' O') (.slice A16 x0.goal.length c17) x0.goal∧Vb w' (Fr 0 w' O') (.slice A19 x0.ops.length c20) x0.ops∧Vb w' (Fr 0 w' O') (.slice A23 x2.length c24) x2∧inI64 s63.2) _ (A56,c57) ⟨O80,hB,h54,h29,h9,h12,h15,h18,hx2,(show inI64 (0) from by decide)⟩ ⟨rfl,rfl,rfl,rfl,rfl,rfl,trivial⟩ (fun _ _=>⟨rfl,rfl⟩) (fun _ _=>⟨rfl,rfl,trivial⟩) (fun _ _ _ ⟨O',hB,h78,h29,h9,h12,h15,h18,hx2,r79⟩=>⟨O',hB,h78,r79⟩) ⟨rfl,rfl,rfl⟩ ⟨rfl,rfl⟩ ?_
    rintro k65 a66 s63 x64 w67 cc69 hx70 ⟨O68,hB,h78,h29,h9,h12,h15,h18,hx2,r79⟩ hf71 hret72 hbrk73
    have rk65:inI64 (k65:Int):=rngK hx70 l60
    refine Ah (Ae ?_)
    obtain ⟨b82,o83,ce84,hA85,hl86,hd87,rfl,r89⟩:=hx2.elem' hx70
    refine o_iaE (hA:=hA85) (hj:=rfl) (hlt:=hl86) rfl rfl rfl ?_
    refine o_ld (hc:=cat0 hd87) rfl rfl ?_
    refine o_as rfl rfl (o_z ?_)
    refine Ah (Ae (o_la (hl:=rfl) (hc:=(h29.1).cellsAt) rfl rfl ?_))
    refine o_mv rfl rfl (o_mv rfl rfl ?_)
    obtain ⟨q90,e91,hf71⟩:=bs hf71
    refine Cr (O:=O68) (R:=fun w' F v=>T2 w' F v q90) (Jt Fr.lt (Vb.ofAgg (cs:=[(.slice A10 x0.vars.length c11),(.slice A13 x0.init.length c14),(.slice A16 x0.goal.length c17),(.slice A19 x0.ops.length c20)]) (x:=x0) rfl ⟨_,_,_,_,rfl,h9,h12,h15,h18⟩) h78 r89 e91) rfl rfl fun v96 w92 O93 S94 h95=>?_
    obtain ⟨v97,v98,rfl,h99,h100⟩:=h95
    obtain ⟨A101,c102,rfl⟩:=h99.form
    obtain ⟨rfl,r103⟩:=h100.err
    refine o_mv rfl rfl (o_ex rfl rfl rfl (o_ex rfl rfl rfl (o_as rfl rfl (o_as rfl rfl (o_z ?_)))))
    refine Ah (Ah (Ae (o_mv rfl rfl (o_rnS rfl rfl (fun c104=>?_) fun c104=>?_))))
    ·
     replace hf71:=ip hf71 c104
     refine o_z ?_
     refine Ar rfl (Ah (Ae (o_mv rfl rfl (o_as rfl rfl (o_as rfl rfl (o_as rfl rfl (o_z ?_)))))))
     refine Au ?_
     obtain rfl:=sm hf71
     obtain rfl:=hret72 _ rfl
     obtain rfl:=sm (Bw hm)
     replace hB:=hB.st S94
     exact ret3 rfl (AF rfl) (AF rfl) (AF rfl) ⟨hB.ext,_,_,_,rfl,(Vb.mono (F:=Fr 0 w92 O93) (Vb.nil _ _) hB.out),(vInt (show inI64 (0) from by decide)),(vErr r103)⟩
    ·
     replace hf71:=im hf71 c104
     refine o_z ?_
     refine Aj rfl (Am (BV (·=w92) [(0,true),(1,true),(2,true),(3,true),(4,true),(5,true),(6,true),(7,true),(8,true),(9,true),(10,true)] (by kernel_rfl) rfl (by kernel_rfl) rfl ?_))
     refine h_mv rfl rfl rfl (h_mv rfl rfl rfl (h_fa rfl rfl rfl ?_))
     replace h29:=h29.st S94
     refine h_ldA (hc:=Blk.cell (i:=3) (h29.1) rfl) rfl rfl rfl ?_
     refine h_mv rfl rfl rfl ?_
     obtain ⟨a105,e106,hf71⟩:=bs hf71
     obtain ⟨p108,x107⟩:=AS e106
     replace h18:=h18.st S94
     obtain ⟨b109,o110,ce111,hA112,hl113,hd114,v116,v117,rfl,h118,h121,r124,z125⟩:=h18.elem' x107
     obtain ⟨A119,c120,rfl⟩:=h118.form
     obtain ⟨A122,c123,rfl⟩:=h121.form
     refine h_iaE (hA:=hA112) (hj:=(Int.toNat_of_nonneg p108).symm) (hlt:=hl113) rfl rfl rfl rfl ?_
     refine h_fa rfl rfl rfl (h_ldA (hc:=cat1 hd114) rfl rfl rfl ?_)
     obtain ⟨n126,e127,hf71⟩:=bs hf71
     have r128:=(Br e127)
     refine h_adE (he:=e127) rfl rfl rfl rfl ?_
     refine h_as rfl rfl rfl (h_as rfl rfl rfl (h_z ?_))
     obtain rfl:=sm hf71
     refine (?_:Exists _)
     replace hB:=hB.st S94
     replace hx2:=hx2.st S94
     replace h9:=h9.st S94
     replace h12:=h12.st S94
     replace h15:=h15.st S94
     exact ⟨_,(A101,c102),rfl,⟨rfl,rfl,rfl,rfl,rfl,rfl,trivial⟩,_,hB,h99,h29,h9,h12,h15,h18,hx2,r128⟩
   replace hB:=(((hB.st S28).st S34).st S43).st S53
   rintro l129 w130 ⟨s133,x134,rfl,hs132,O131,hB,h78,r79⟩
   replace hm:=Bj hm
   refine AT _ hs132 ?_
   refine Ah (Ae (o_mv rfl rfl (o_mv rfl rfl (o_as rfl rfl (o_as rfl rfl (o_as rfl rfl (o_z ?_)))))))
   refine Au ?_
   obtain rfl:=sm hm
   exact ret3 rfl (AF rfl) (AF rfl) (AF rfl) ⟨hB.ext,_,_,_,rfl,(Vb.mono (F:=Fr 0 w130 O131) h78 hB.out),(vInt r79),(vErr (show inI64 0 from by decide))⟩
noncomputable def CE (x0:Tsk) (x1:List Int):Option (Int×Err) :=
  bnd (Fs x0 x0.init x1) fun q27=>if q27.2.2.n≠0 then (some (0,(⟨q27.2.2.n⟩:Err))) else (bnd (BK x0.goal q27.1) fun q45=>if q45=true then some (q27.2.1,(⟨0⟩:Err)) else some (0,(⟨13⟩:Err)))
theorem GS {w:World} {A:Nat→Prop} (hA:∀ k,A k→k < w.heap.size) {vx0:Value} {x0:Tsk} (hx0:Vb w A vx0 x0) {vx1:Value} {x1:List Int} (hx1:Vb w A vx1 x1) {r:Int×Err} (hm:CE x0 x1=some r) :
    Fn Try.prog 30 [vx0,vx1] w fun v w'=>Ext w w'∧T2 w' (upA A w w') v r:=by
 obtain ⟨O,hB,hA0⟩:=enter hA
 replace hx0:=hx0.mono hA0
 obtain ⟨cs3,rfl,v4,v5,v6,v7,rfl,h8,h11,h14,h17⟩:=hx0
 obtain ⟨A9,c10,rfl⟩:=h8.form
 obtain ⟨A12,c13,rfl⟩:=h11.form
 obtain ⟨A15,c16,rfl⟩:=h14.form
 obtain ⟨A18,c19,rfl⟩:=h17.form
 replace hx1:=hx1.mono hA0
 obtain ⟨A20,c21,rfl⟩:=hx1.form
 refine AL Try.func30 rfl Try.ntmps30 rfl ?_
 unfold CE at hm
 refine Ah (Ae (l_box 2 O rfl rfl fun g22 w23 O24 S25 h26=>?_))
 replace h26:Lc 2 w23 O24 g22 26 [(.slice A9 x0.vars.length c10),(.slice A12 x0.init.length c13),(.slice A15 x0.goal.length c16),(.slice A18 x0.ops.length c19)]:=h26
 refine o_as rfl rfl (o_as rfl rfl (o_z ?_))
 refine Ah (Ae (o_la (hl:=rfl) (hc:=(h26.1).cellsAt) rfl rfl ?_))
 refine o_fa rfl rfl (o_ld (hc:=Blk.cell (i:=1) (h26.1) rfl) rfl rfl ?_)
 refine o_mv rfl rfl ?_
 obtain ⟨q27,e28,hm⟩:=bs hm
 replace hx1:=hx1.st S25
 replace h8:=h8.st S25
 replace h11:=h11.st S25
 replace h14:=h14.st S25
 replace h17:=h17.st S25
 refine Cr (O:=O24) (R:=fun w' F v=>T3 w' F v q27) (KK Fr.lt (Vb.ofAgg (cs:=[(.slice A9 x0.vars.length c10),(.slice A12 x0.init.length c13),(.slice A15 x0.goal.length c16),(.slice A18 x0.ops.length c19)]) (x:=x0) rfl ⟨_,_,_,_,rfl,h8,h11,h14,h17⟩) h11 hx1 e28) rfl rfl fun v33 w29 O30 S31 h32=>?_
 obtain ⟨v34,v35,v36,rfl,h37,h38,h39⟩:=h32
 obtain ⟨A40,c41,rfl⟩:=h37.form
 obtain ⟨rfl,r42⟩:=h38.int
 obtain ⟨rfl,r43⟩:=h39.err
 refine o_mv rfl rfl (o_ex rfl rfl rfl (o_ex rfl rfl rfl (o_ex rfl rfl rfl (o_as rfl rfl (o_as rfl rfl (o_as rfl rfl (o_z ?_)))))))
 refine Ah (Ah (Ae (o_mv rfl rfl (o_rnS rfl rfl (fun c44=>?_) fun c44=>?_))))
 ·
  replace hm:=ip hm c44
  refine o_z ?_
  refine Ar rfl (Ah (Ae (o_mv rfl rfl (o_as rfl rfl (o_as rfl rfl (o_z ?_))))))
  refine Au ?_
  obtain rfl:=sm hm
  replace hB:=(hB.st S25).st S31
  exact ret2 rfl (AF rfl) (AF rfl) ⟨hB.ext,_,_,rfl,(vInt (show inI64 (0) from by decide)),(vErr r43)⟩
 ·
  replace hm:=im hm c44
  refine o_z ?_
  refine Aj rfl (Am (Ah (Ah (Ae (o_fa rfl rfl ?_)))))
  replace h26:=h26.st S31
  refine o_ld (hc:=Blk.cell (i:=2) (h26.1) rfl) rfl rfl ?_
  refine o_mv rfl rfl ?_
  obtain ⟨q45,e46,hm⟩:=bs hm
  replace h14:=h14.st S31
  refine BG (O:=O30) (A:=All w29) (R:=fun w' F v=>Vb w' F v q45) (Dr (fun _ h=>h) (Vb.mono (F:=Fr 0 w29 O30) h14 Fr.lt) (Vb.mono (F:=Fr 0 w29 O30) h37 Fr.lt) e46) rfl rfl fun v51 w47 O48 S49 h50=>?_
  obtain rfl:=h50.bool
  cases q45
  case false =>
   replace hm:=iF hm
   refine o_nf rfl rfl (o_z ?_)
   refine Ar rfl (Ah (Ae (o_miE rfl rfl ?_)))
   refine o_as rfl rfl (o_as rfl rfl (o_z ?_))
   refine Au ?_
   obtain rfl:=sm hm
   replace hB:=((hB.st S25).st S31).st S49
   exact ret2 rfl (AF rfl) (AF rfl) ⟨hB.ext,_,_,rfl,(vInt (show inI64 (0) from by decide)),(vErr (by decide))⟩
  replace hm:=iT hm
  refine o_nt rfl rfl (o_z ?_)
  refine Aj rfl (Am (Ah (Ae (o_mv rfl rfl (o_as rfl rfl (o_as rfl rfl (o_z ?_)))))))
  refine Au ?_
  obtain rfl:=sm hm
  replace hB:=((hB.st S25).st S31).st S49
  exact ret2 rfl (AF rfl) (AF rfl) ⟨hB.ext,_,_,rfl,(vInt r42),(vErr (show inI64 0 from by decide))⟩
noncomputable def CP (x0:Tsk) (x1:Byt):Option Bool :=
  bnd (bnd (FC x0) fun q29=>if q29=true then bnd (CQ) fun q36=>if q36=true then some false else some true else some true:Option Bool) fun y25=>if y25=true then (bnd (bnd (CQ) fun q52=>if q52=true then some true else some false:Option Bool) fun y48=>some y48) else (bnd (rng (ρ:=Bool) (fun (k78:Nat) (a79:Opr) (s76:(List Opr))=>bnd (appI 72 s76 [(⟨a79.name,x1.n,a79.pre,a79.effs⟩:Opr)]) fun u119=>some (.next u119)) x0.ops 0 ([]:List Opr)) fun res74=>fin res74 fun (s137:(List Opr))=>bnd (Ce (⟨x0.vars,x0.init,x0.goal,s137⟩:Tsk) 512) fun q141=>bnd (Bl (⟨x0.vars,x0.init,x0.goal,s137⟩:Tsk) 512) fun q168=>bnd (if q141.2.n≠0 then (some true) else (if q168.2.n≠0 then (some true) else (if q141.1.verdict≠q168.1.verdict then (some true) else (if q141.1.cost≠q168.1.cost then (some true) else (if q141.1.verdict=3 then (some true) else (some false))))):Option Bool) fun y195=>if y195=true then (some false) else (if q141.1.verdict=2 then (some true) else (bnd (CE (⟨x0.vars,x0.init,x0.goal,s137⟩:Tsk) q141.1.plan) fun q210=>bnd (CE (⟨x0.vars,x0.init,x0.goal,s137⟩:Tsk) q168.1.plan) fun q223=>bnd (if q210.2.n≠0 then (some true) else (if q223.2.n≠0 then (some true) else (if q210.1≠q141.1.cost then (some true) else (if q223.1≠q168.1.cost then (some true) else (bnd (chkI (x1.n * (q141.1.plan.length:Int))) fun n246=>if q141.1.cost≠n246 then (some true) else (some false))))):Option Bool) fun y236=>if y236=true then (some false) else (bnd (rng (ρ:=Bool) (fun (k270:Nat) (a271:Opr) (s268:(List Opr))=>bnd (rng (ρ:=Ctl (List Opr) Bool) (fun (k315:Nat) (a316:Int) (s313:Bool)=>if s313=true then (some (.next true)) else (if a316=(k270:Int) then (some (.next true)) else (some (.next false)))) q168.1.plan 0 false) fun res311=>fin res311 fun (s340:Bool)=>if (!s340)=true then (bnd (appI 72 s268 [a271]) fun u343=>some (.next u343)) else (some (.next s268))) s137 0 ([]:List Opr)) fun res266=>fin res266 fun (s361:(List Opr))=>bnd (Bl (⟨x0.vars,x0.init,x0.goal,s361⟩:Tsk) 512) fun q365=>bnd (if q365.2.n=0 then (if q365.1.verdict=2 then (some true) else (if q365.1.verdict=1 then (if q168.1.cost≤q365.1.cost then (some true) else (some false)) else (some false))) else (some false):Option Bool) fun y392=>some y392))))
theorem Gk {w:World} {A:Nat→Prop} (hA:∀ k,A k→k < w.heap.size) {vx0:Value} {x0:Tsk} (hx0:Vb w A vx0 x0) {x1:Byt} {r:Bool} (hm:CP x0 x1=some r) :
    Fn Try.prog 10 [vx0,(.int .u8 x1.n)] w fun v w'=>Ext w w'∧Vb w' (upA A w w') v r:=by
 obtain ⟨O,hB,hA0⟩:=enter hA
 replace hx0:=hx0.mono hA0
 obtain ⟨cs3,rfl,v4,v5,v6,v7,rfl,h8,h11,h14,h17⟩:=hx0
 obtain ⟨A9,c10,rfl⟩:=h8.form
 obtain ⟨A12,c13,rfl⟩:=h11.form
 obtain ⟨A15,c16,rfl⟩:=h14.form
 obtain ⟨A18,c19,rfl⟩:=h17.form
 refine AL Try.func10 rfl Try.ntmps10 rfl ?_
 unfold CP at hm
 refine Ah (Ae (l_box 2 O rfl rfl fun g20 w21 O22 S23 h24=>?_))
 replace h24:Lc 2 w21 O22 g20 26 [(.slice A9 x0.vars.length c10),(.slice A12 x0.init.length c13),(.slice A15 x0.goal.length c16),(.slice A18 x0.ops.length c19)]:=h24
 refine o_as rfl rfl (o_z ?_)
 refine Ah (Ah ?_)
 obtain ⟨y25,hy26,hm⟩:=bs hm
 refine AN (fun l' w'=>∃ (x28:Unit) (O':Lab),subs l' [(1,(.int .u8 x1.n)),(2,(.pointer (some ⟨g20,0,none⟩))),(27,(.bool y25))]∧Bs w A w' O'∧Lc 2 w' O' g20 26 [(.slice A9 x0.vars.length c10),(.slice A12 x0.init.length c13),(.slice A15 x0.goal.length c16),(.slice A18 x0.ops.length c19)]∧Vb w' (Fr 0 w' O') (.slice A9 x0.vars.length c10) x0.vars∧Vb w' (Fr 0 w' O') (.slice A12 x0.init.length c13) x0.init∧Vb w' (Fr 0 w' O') (.slice A15 x0.goal.length c16) x0.goal∧Vb w' (Fr 0 w' O') (.slice A18 x0.ops.length c19) x0.ops) ?_ ?_
 ·
  refine Ae (o_la (hl:=rfl) (hc:=(h24.1).cellsAt) rfl rfl ?_)
  obtain ⟨q29,e30,hy26⟩:=bs hy26
  replace h8:=h8.st S23
  replace h11:=h11.st S23
  replace h14:=h14.st S23
  replace h17:=h17.st S23
  refine BG (O:=O22) (A:=All w21) (R:=fun w' F v=>Vb w' F v q29) (Jr (fun _ h=>h) (Vb.mono (F:=Fr 0 w21 O22) (Vb.ofAgg (cs:=[(.slice A9 x0.vars.length c10),(.slice A12 x0.init.length c13),(.slice A15 x0.goal.length c16),(.slice A18 x0.ops.length c19)]) (x:=x0) rfl ⟨_,_,_,_,rfl,h8,h11,h14,h17⟩) Fr.lt) e30) rfl rfl fun v35 w31 O32 S33 h34=>?_
  obtain rfl:=h34.bool
  cases q29
  case false =>
   replace hy26:=iF hy26
   refine o_nf rfl rfl (o_mv rfl rfl (AB rfl rfl rfl rfl (AB rfl rfl rfl rfl (o_pt rfl rfl rfl (o_z ?_)))))
   obtain rfl:=sm hy26
   replace hB:=(hB.st S23).st S33
   replace h8:=h8.st S33
   replace h11:=h11.st S33
   replace h14:=h14.st S33
   replace h17:=h17.st S33
   replace h24:=h24.st S33
   exact ⟨(),_,⟨rfl,rfl,rfl,trivial⟩,hB,h24,h8,h11,h14,h17⟩
  replace hy26:=iT hy26
  refine o_nt rfl rfl (o_mv rfl rfl (AD rfl rfl ?_))
  obtain ⟨q36,e37,hy26⟩:=bs hy26
  refine BG (O:=O32) (A:=All w31) (R:=fun w' F v=>Vb w' F v q36) (GR (fun _ h=>h)  e37) rfl rfl fun v42 w38 O39 S40 h41=>?_
  obtain rfl:=h41.bool
  cases q36
  case false =>
   replace hy26:=iF hy26
   refine AD rfl rfl (o_nf rfl rfl (o_pf rfl rfl rfl (o_z ?_)))
   obtain rfl:=sm hy26
   replace hB:=((hB.st S23).st S33).st S40
   replace h8:=(h8.st S33).st S40
   replace h11:=(h11.st S33).st S40
   replace h14:=(h14.st S33).st S40
   replace h17:=(h17.st S33).st S40
   replace h24:=(h24.st S33).st S40
   exact ⟨(),_,⟨rfl,rfl,rfl,trivial⟩,hB,h24,h8,h11,h14,h17⟩
  replace hy26:=iT hy26
  refine AD rfl rfl (o_nt rfl rfl (o_pf rfl rfl rfl (o_z ?_)))
  obtain rfl:=sm hy26
  replace hB:=((hB.st S23).st S33).st S40
  replace h8:=(h8.st S33).st S40
  replace h11:=(h11.st S33).st S40
  replace h14:=(h14.st S33).st S40
  replace h17:=(h17.st S33).st S40
  replace h24:=(h24.st S33).st S40
  exact ⟨(),_,⟨rfl,rfl,rfl,trivial⟩,hB,h24,h8,h11,h14,h17⟩
 replace hB:=hB.st S23
 replace h8:=h8.st S23
 replace h11:=h11.st S23
 replace h14:=h14.st S23
 replace h17:=h17.st S23
 rintro l43 w44 ⟨x28,O45,hs46,hB,h24,h8,h11,h14,h17⟩
 refine AT _ hs46 ?_
 refine Cl rfl (fun c47=>?_) (fun c47=>?_)
 ·
  replace hm:=ip hm c47
  refine Ah ?_
  obtain ⟨y48,hy49,hm⟩:=bs hm
  refine AN (fun l' w'=>∃ (x51:Unit) (O':Lab),subs l' [(4,(.bool y48))]∧Bs w A w' O') ?_ ?_
  ·
   refine Ae ?_
   obtain ⟨q52,e53,hy49⟩:=bs hy49
   refine BG (O:=O45) (A:=All w44) (R:=fun w' F v=>Vb w' F v q52) (GR (fun _ h=>h)  e53) rfl rfl fun v58 w54 O55 S56 h57=>?_
   obtain rfl:=h57.bool
   cases q52
   case false =>
    replace hy49:=iF hy49
    refine o_as rfl rfl (o_z ?_)
    obtain rfl:=sm hy49
    replace hB:=hB.st S56
    exact ⟨(),_,⟨rfl,trivial⟩,hB⟩
   replace hy49:=iT hy49
   refine o_as rfl rfl (o_z ?_)
   obtain rfl:=sm hy49
   replace hB:=hB.st S56
   exact ⟨(),_,⟨rfl,trivial⟩,hB⟩
  rintro l59 w60 ⟨x51,O61,hs62,hB⟩
  refine AT _ hs62 ?_
  refine Au ?_
  obtain rfl:=sm hm
  exact ret1v rfl (AF rfl) ⟨hB.ext,vBool⟩
 ·
  replace hm:=im' hm c47
  refine Am (Ah (Ae (o_la (hl:=rfl) (hc:=(h24.1).cellsAt) rfl rfl ?_)))
  refine Bz 3 O45 rfl fun g63 w64 O65 S66 h67=>?_
  refine AR h67 rfl rfl rfl (Nat.le_of_ble_eq_true rfl) (by first|exact allOne rfl|simp [Value.cells,Value.oneCell',AM]) fun w68 S69 h67=>?_
  replace h67:Lc 3 w68 O65 g63 26 [(.slice A9 x0.vars.length c10),(.slice A12 x0.init.length c13),(.slice A15 x0.goal.length c16),(.slice A18 x0.ops.length c19)]:=h67
  refine o_z ?_
  refine Ah (Ae (o_fa rfl rfl (AR h67 rfl rfl rfl (Nat.le_of_ble_eq_true rfl) (by first|exact allOne rfl|simp [Value.cells,Value.oneCell',AM]) fun w70 S71 h67=>?_)))
  replace h67:Lc 3 w70 O65 g63 26 [(.slice A9 x0.vars.length c10),(.slice A12 x0.init.length c13),(.slice A15 x0.goal.length c16),(.slice none 0 0)]:=h67
  refine o_z ?_
  refine Ah (Ah (Ae (o_fa rfl rfl ?_)))
  replace h24:=((h24.st S66).st S69).st S71
  refine o_ld (hc:=Blk.cell (i:=3) (h24.1) rfl) rfl rfl ?_
  refine o_ln rfl rfl ?_
  replace h17:=((h17.st S66).st S69).st S71
  have l73:x0.ops.length≤9223372036854775807:=Nat.le_trans h17.len.2.1 h17.len.2.2
  have r72:inI64 (x0.ops.length:Int):=rngNat l73
  refine o_mv rfl rfl (o_z ?_)
  obtain ⟨res74,hL75,hm⟩:=bs hm
  refine AN (aft res74 (fun (s76:(List Opr)) (x77:(Option Addr×Nat))=>[(1,(.int .u8 x1.n)),(5,(.pointer (some ⟨g63,0,none⟩)))]) (fun s76 x77 w'=>∃ O':Lab,Bs w A w' O'∧Lc 3 w' O' g63 26 [(.slice A9 x0.vars.length c10),(.slice A12 x0.init.length c13),(.slice A15 x0.goal.length c16),(.slice x77.1 s76.length x77.2)]∧Vb w' (Fr 0 w' O') (.slice A9 x0.vars.length c10) x0.vars∧Vb w' (Fr 0 w' O') (.slice A12 x0.init.length c13) x0.init∧Vb w' (Fr 0 w' O') (.slice A15 x0.goal.length c16) x0.goal∧Rw 5 w' O' 55 (.slice x77.1 s76.length x77.2) s76)) ?_ ?_
  ·
   refine Al ?_
   replace hB:=((hB.st S66).st S69).st S71
   replace h8:=((h8.st S66).st S69).st S71
   replace h11:=((h11.st S66).st S69).st S71
   replace h14:=((h14.st S66).st S69).st S71
   refine Ck (σ:=(List Opr)) (X:=(Option Addr×Nat)) (x0.ops.length) hL75 rfl l73 (fun (s76:(List Opr)) (x77:(Option Addr×Nat))=>[(1,(.int .u8 x1.n)),(5,(.pointer (some ⟨g63,0,none⟩))),(32,(.slice A18 x0.ops.length c19))]) _ (fun s76 x77 w'=>∃ O':Lab,Bs w A w' O'∧Lc 3 w' O' g63 26 [(.slice A9 x0.vars.length c10),(.slice A12 x0.init.length c13),(.slice A15 x0.goal.length c16),(.slice x77.1 s76.length x77.2)]∧Vb w' (Fr 0 w' O') (.slice A9 x0.vars.length c10) x0.vars∧Vb w' (Fr 0 w' O') (.slice A12 x0.init.length c13) x0.init∧Vb w' (Fr 0 w' O') (.slice A15 x0.goal.length c16) x0.goal∧Rw 5 w' O' 55 (.slice x77.1 s76.length x77.2) s76∧Vb w' (Fr 0 w' O') (.slice A18 x0.ops.length c19) x0.ops) _ (none,0) ⟨O65,hB,h67,h8,h11,h14,(Rw.nil 5 (by decide)),h17⟩ ⟨rfl,rfl,rfl,rfl,rfl,trivial⟩ (fun _ _=>⟨rfl,rfl⟩) (fun _ _=>⟨rfl,rfl,trivial⟩) (fun _ _ _ ⟨O',hB,h67,h8,h11,h14,h91,h17⟩=>⟨O',hB,h67,h8,h11,h14,h91⟩) ⟨rfl,rfl,rfl⟩ ⟨rfl,rfl⟩ ?_
   rintro k78 a79 s76 x77 w80 cc82 hx83 ⟨O81,hB,h67,h8,h11,h14,h91,h17⟩ hf84 hret85 hbrk86
   have rk78:inI64 (k78:Int):=rngK hx83 l73
   refine Ah (Ae ?_)
   obtain ⟨b93,o94,ce95,hA96,hl97,hd98,v100,v101,rfl,h102,h105,r108,z109⟩:=h17.elem' hx83
   obtain ⟨A103,c104,rfl⟩:=h102.form
   obtain ⟨A106,c107,rfl⟩:=h105.form
   refine o_iaE (hA:=hA96) (hj:=rfl) (hlt:=hl97) rfl rfl rfl ?_
   refine o_la (hl:=rfl) (hc:=hd98) rfl rfl ?_
   refine Bz 4 O81 rfl fun g110 w111 O112 S113 h114=>?_
   refine AR h114 rfl rfl rfl (Nat.le_of_ble_eq_true rfl) (by first|exact allOne rfl|simp [Value.cells,Value.oneCell',AM]) fun w115 S116 h114=>?_
   replace h114:Lc 4 w115 O112 g110 55 [(.string a79.name),(.int .i64 a79.cost),(.slice A103 a79.pre.length c104),(.slice A106 a79.effs.length c107)]:=h114
   refine o_z ?_
   refine Ah (Ae (o_mv rfl rfl (o_cv (hr:=(x1.rng)) rfl rfl ?_)))
   refine o_fa rfl rfl (AR h114 rfl rfl rfl (Nat.le_of_ble_eq_true rfl) (by first|exact allOne rfl|simp [Value.cells,Value.oneCell',AM]) fun w117 S118 h114=>?_)
   replace h114:Lc 4 w117 O112 g110 55 [(.string a79.name),(.int .i64 x1.n),(.slice A103 a79.pre.length c104),(.slice A106 a79.effs.length c107)]:=h114
   refine o_z ?_
   refine Ae (o_fa rfl rfl ?_)
   replace h67:=((h67.st S113).st S116).st S118
   refine o_ld (hc:=Blk.cell (i:=3) (h67.1) rfl) rfl rfl ?_
   refine o_la (hl:=rfl) (hc:=(h114.1).cellsAt) rfl rfl ?_
   obtain ⟨u119,e120,hf84⟩:=bs hf84
   obtain ⟨e120,e121,e122⟩:=Cx e120
   replace h91:=((h91.st S113).st S116).st S118
   replace h102:=((h102.st S113).st S116).st S118
   replace h105:=((h105.st S113).st S116).st S118
   refine Df rfl (a:=(⟨a79.name,x1.n,a79.pre,a79.effs⟩:Opr)) h91 (Vb.ofAgg (cs:=[(.string a79.name),(.int .i64 x1.n),(.slice A103 a79.pre.length c104),(.slice A106 a79.effs.length c107)]) (x:=(⟨a79.name,x1.n,a79.pre,a79.effs⟩:Opr)) rfl ⟨_,_,rfl,h102,h105,(x1.rng),z109⟩) (fun _=>rfl) rfl (by decide) (by decide) e121 e122 ⟨rfl,rfl⟩ fun g123 A124 c125 w126 O127 S128 h129=>?_
   rw [← e120] at h129 ⊢
   refine o_fa rfl rfl ?_
   replace h67:=h67.st S128
   refine AR h67 rfl rfl rfl (Nat.le_of_ble_eq_true rfl) (by first|exact allOne rfl|simp [Value.cells,Value.oneCell',AM]) fun w131 S132 h67=>?_
   replace h67:Lc 3 w131 O127 g63 26 [(.slice A9 x0.vars.length c10),(.slice A12 x0.init.length c13),(.slice A15 x0.goal.length c16),(.slice A124 u119.length c125)]:=h67
   refine o_z ?_
   obtain rfl:=sm hf84
   refine (?_:Exists _)
   replace hB:=((((hB.st S113).st S116).st S118).st S128).st S132
   replace h8:=((((h8.st S113).st S116).st S118).st S128).st S132
   replace h11:=((((h11.st S113).st S116).st S118).st S128).st S132
   replace h14:=((((h14.st S113).st S116).st S118).st S128).st S132
   replace h17:=((((h17.st S113).st S116).st S118).st S128).st S132
   replace h129:=h129.st S132
   exact ⟨_,(A124,c125),rfl,⟨rfl,rfl,rfl,rfl,rfl,trivial⟩,_,hB,h67,h8,h11,h14,h129,h17⟩
  replace hB:=((hB.st S66).st S69).st S71
  replace h8:=((h8.st S66).st S69).st S71
  replace h11:=((h11.st S66).st S69).st S71
  replace h14:=((h14.st S66).st S69).st S71
  rintro l133 w134 ⟨s137,x138,rfl,hs136,O135,hB,h67,h8,h11,h14,h91⟩
  replace hm:=Bj hm
  refine AT _ hs136 ?_
  refine Ah (Ae (o_la (hl:=rfl) (hc:=(h67.1).cellsAt) rfl rfl ?_))
  obtain ⟨O139,S140,h91⟩:=h91.freeze
  obtain ⟨q141,e142,hm⟩:=bs hm
  replace h8:=h8.st S140
  replace h11:=h11.st S140
  replace h14:=h14.st S140
  refine Cr (O:=O139) (R:=fun w' F v=>T2 w' F v q141) (FG Fr.lt (Vb.ofAgg (cs:=[(.slice A9 x0.vars.length c10),(.slice A12 x0.init.length c13),(.slice A15 x0.goal.length c16),(.slice x138.1 s137.length x138.2)]) (x:=(⟨x0.vars,x0.init,x0.goal,s137⟩:Tsk)) rfl ⟨_,_,_,_,rfl,h8,h11,h14,h91⟩) (show inI64 (512) from by decide) e142) rfl rfl fun v147 w143 O144 S145 h146=>?_
  obtain ⟨v148,v149,rfl,h150,h151⟩:=h146
  obtain ⟨cs152,rfl,v153,rfl,h154,r157,r158,r159⟩:=h150
  obtain ⟨A155,c156,rfl⟩:=h154.form
  obtain ⟨rfl,r160⟩:=h151.err
  refine o_mv rfl rfl (o_ex rfl rfl rfl (o_ex rfl rfl rfl (Bz 6 O144 rfl fun g161 w162 O163 S164 h165=>?_)))
  refine AR h165 rfl rfl rfl (Nat.le_of_ble_eq_true rfl) (by first|exact allOne rfl|simp [Value.cells,Value.oneCell',AM]) fun w166 S167 h165=>?_
  replace h165:Lc 6 w166 O163 g161 30 [(.int .i64 q141.1.verdict),(.slice A155 q141.1.plan.length c156),(.int .i64 q141.1.cost),(.int .i64 q141.1.expanded)]:=h165
  refine o_as rfl rfl (o_z ?_)
  refine Ah (Ae ?_)
  replace h67:=(((h67.st S140).st S145).st S164).st S167
  refine o_la (hl:=rfl) (hc:=(h67.1).cellsAt) rfl rfl ?_
  obtain ⟨q168,e169,hm⟩:=bs hm
  replace h8:=((h8.st S145).st S164).st S167
  replace h11:=((h11.st S145).st S164).st S167
  replace h14:=((h14.st S145).st S164).st S167
  replace h91:=((h91.st S145).st S164).st S167
  refine Cr (O:=O163) (R:=fun w' F v=>T2 w' F v q168) (Ef Fr.lt (Vb.ofAgg (cs:=[(.slice A9 x0.vars.length c10),(.slice A12 x0.init.length c13),(.slice A15 x0.goal.length c16),(.slice x138.1 s137.length x138.2)]) (x:=(⟨x0.vars,x0.init,x0.goal,s137⟩:Tsk)) rfl ⟨_,_,_,_,rfl,h8,h11,h14,h91⟩) (show inI64 (512) from by decide) e169) rfl rfl fun v174 w170 O171 S172 h173=>?_
  obtain ⟨v175,v176,rfl,h177,h178⟩:=h173
  obtain ⟨cs179,rfl,v180,rfl,h181,r184,r185,r186⟩:=h177
  obtain ⟨A182,c183,rfl⟩:=h181.form
  obtain ⟨rfl,r187⟩:=h178.err
  refine o_mv rfl rfl (o_ex rfl rfl rfl (o_ex rfl rfl rfl (Bz 7 O171 rfl fun g188 w189 O190 S191 h192=>?_)))
  refine AR h192 rfl rfl rfl (Nat.le_of_ble_eq_true rfl) (by first|exact allOne rfl|simp [Value.cells,Value.oneCell',AM]) fun w193 S194 h192=>?_
  replace h192:Lc 7 w193 O190 g188 30 [(.int .i64 q168.1.verdict),(.slice A182 q168.1.plan.length c183),(.int .i64 q168.1.cost),(.int .i64 q168.1.expanded)]:=h192
  refine o_as rfl rfl (o_z ?_)
  refine Ah (Ah ?_)
  obtain ⟨y195,hy196,hm⟩:=bs hm
  refine AN (fun l' w'=>∃ (x198:Unit) (O':Lab),subs l' [(1,(.int .u8 x1.n)),(5,(.pointer (some ⟨g63,0,none⟩))),(8,(.pointer (some ⟨g161,0,none⟩))),(10,(.pointer (some ⟨g188,0,none⟩))),(82,(.bool y195))]∧Bs w A w' O'∧Lc 3 w' O' g63 26 [(.slice A9 x0.vars.length c10),(.slice A12 x0.init.length c13),(.slice A15 x0.goal.length c16),(.slice x138.1 s137.length x138.2)]∧Vb w' (Fr 0 w' O') (.slice A9 x0.vars.length c10) x0.vars∧Vb w' (Fr 0 w' O') (.slice A12 x0.init.length c13) x0.init∧Vb w' (Fr 0 w' O') (.slice A15 x0.goal.length c16) x0.goal∧Vb w' (Fr 0 w' O') (.slice x138.1 s137.length x138.2) s137∧Lc 6 w' O' g161 30 [(.int .i64 q141.1.verdict),(.slice A155 q141.1.plan.length c156),(.int .i64 q141.1.cost),(.int .i64 q141.1.expanded)]∧Vb w' (Fr 0 w' O') (.slice A155 q141.1.plan.length c156) q141.1.plan∧Lc 7 w' O' g188 30 [(.int .i64 q168.1.verdict),(.slice A182 q168.1.plan.length c183),(.int .i64 q168.1.cost),(.int .i64 q168.1.expanded)]∧Vb w' (Fr 0 w' O') (.slice A182 q168.1.plan.length c183) q168.1.plan) ?_ ?_
  ·
   refine Ae (o_mv rfl rfl (o_rnS rfl rfl (fun c199=>?_) fun c199=>?_))
   ·
    replace hy196:=ip hy196 c199
    refine o_mv rfl rfl (AB rfl rfl rfl rfl (AB rfl rfl rfl rfl (o_pt rfl rfl rfl (o_mv rfl rfl (AB rfl rfl rfl rfl (AB rfl rfl rfl rfl (AB rfl rfl rfl rfl (AB rfl rfl rfl rfl (AB rfl rfl rfl rfl (o_pt rfl rfl rfl (o_mv rfl rfl (AB rfl rfl rfl rfl (AB rfl rfl rfl rfl (AB rfl rfl rfl rfl ?_))))))))))))))
    refine AB rfl rfl rfl rfl (AB rfl rfl rfl rfl (o_pt rfl rfl rfl (o_mv rfl rfl (AB rfl rfl rfl rfl (AB rfl rfl rfl rfl (AB rfl rfl rfl rfl (o_pt rfl rfl rfl (o_z ?_))))))))
    obtain rfl:=sm hy196
    replace hB:=((((((hB.st S140).st S145).st S164).st S167).st S172).st S191).st S194
    replace h8:=((h8.st S172).st S191).st S194
    replace h11:=((h11.st S172).st S191).st S194
    replace h14:=((h14.st S172).st S191).st S194
    replace h67:=((h67.st S172).st S191).st S194
    replace h91:=((h91.st S172).st S191).st S194
    replace h154:=((((h154.st S164).st S167).st S172).st S191).st S194
    replace h165:=((h165.st S172).st S191).st S194
    replace h181:=(h181.st S191).st S194
    exact ⟨(),_,⟨rfl,rfl,rfl,rfl,rfl,trivial⟩,hB,h67,h8,h11,h14,h91,h165,h154,h192,h181⟩
   ·
    replace hy196:=im hy196 c199
    refine o_mv rfl rfl (AD rfl rfl (o_mv rfl rfl (AD rfl rfl (o_rnS rfl rfl (fun c200=>?_) fun c200=>?_))))
    ·
     replace hy196:=ip hy196 c200
     refine o_pf rfl rfl rfl (o_mv rfl rfl (AB rfl rfl rfl rfl (AB rfl rfl rfl rfl (AB rfl rfl rfl rfl (AB rfl rfl rfl rfl (AB rfl rfl rfl rfl (o_pt rfl rfl rfl (o_mv rfl rfl (AB rfl rfl rfl rfl (AB rfl rfl rfl rfl (AB rfl rfl rfl rfl (AB rfl rfl rfl rfl (AB rfl rfl rfl rfl (o_pt rfl rfl rfl ?_))))))))))))))
     refine o_mv rfl rfl (AB rfl rfl rfl rfl (AB rfl rfl rfl rfl (AB rfl rfl rfl rfl (o_pt rfl rfl rfl (o_z ?_)))))
     obtain rfl:=sm hy196
     replace hB:=((((((hB.st S140).st S145).st S164).st S167).st S172).st S191).st S194
     replace h8:=((h8.st S172).st S191).st S194
     replace h11:=((h11.st S172).st S191).st S194
     replace h14:=((h14.st S172).st S191).st S194
     replace h67:=((h67.st S172).st S191).st S194
     replace h91:=((h91.st S172).st S191).st S194
     replace h154:=((((h154.st S164).st S167).st S172).st S191).st S194
     replace h165:=((h165.st S172).st S191).st S194
     replace h181:=(h181.st S191).st S194
     exact ⟨(),_,⟨rfl,rfl,rfl,rfl,rfl,trivial⟩,hB,h67,h8,h11,h14,h91,h165,h154,h192,h181⟩
    ·
     replace hy196:=im hy196 c200
     refine o_pf rfl rfl rfl (o_mv rfl rfl (AD rfl rfl (o_fa rfl rfl (AD rfl rfl ?_))))
     replace h165:=((h165.st S172).st S191).st S194
     refine o_ld (hc:=Blk.cell (i:=0) (h165.1) rfl) rfl rfl ?_
     refine AD rfl rfl (o_fa rfl rfl (AD rfl rfl (o_ld (hc:=Blk.cell (i:=0) (h192.1) rfl) rfl rfl ?_)))
     refine AD rfl rfl (o_neS rfl rfl rfl (fun c201=>?_) fun c201=>?_)
     ·
      replace hy196:=ip hy196 c201
      refine o_pf rfl rfl rfl (o_mv rfl rfl (AB rfl rfl rfl rfl (AB rfl rfl rfl rfl (AB rfl rfl rfl rfl (AB rfl rfl rfl rfl (AB rfl rfl rfl rfl (o_pt rfl rfl rfl (o_mv rfl rfl (AB rfl rfl rfl rfl (AB rfl rfl rfl rfl (AB rfl rfl rfl rfl (o_pt rfl rfl rfl (o_z ?_)))))))))))))
      obtain rfl:=sm hy196
      replace hB:=((((((hB.st S140).st S145).st S164).st S167).st S172).st S191).st S194
      replace h8:=((h8.st S172).st S191).st S194
      replace h11:=((h11.st S172).st S191).st S194
      replace h14:=((h14.st S172).st S191).st S194
      replace h67:=((h67.st S172).st S191).st S194
      replace h91:=((h91.st S172).st S191).st S194
      replace h154:=((((h154.st S164).st S167).st S172).st S191).st S194
      replace h181:=(h181.st S191).st S194
      exact ⟨(),_,⟨rfl,rfl,rfl,rfl,rfl,trivial⟩,hB,h67,h8,h11,h14,h91,h165,h154,h192,h181⟩
     ·
      replace hy196:=im hy196 c201
      refine o_pf rfl rfl rfl (o_mv rfl rfl (AD rfl rfl (o_fa rfl rfl (AD rfl rfl (o_ld (hc:=Blk.cell (i:=2) (h165.1) rfl) rfl rfl ?_)))))
      refine AD rfl rfl (o_fa rfl rfl (AD rfl rfl (o_ld (hc:=Blk.cell (i:=2) (h192.1) rfl) rfl rfl ?_)))
      refine AD rfl rfl (o_neS rfl rfl rfl (fun c202=>?_) fun c202=>?_)
      ·
       replace hy196:=ip hy196 c202
       refine o_pf rfl rfl rfl (o_mv rfl rfl (AB rfl rfl rfl rfl (AB rfl rfl rfl rfl (AB rfl rfl rfl rfl (o_pt rfl rfl rfl (o_z ?_))))))
       obtain rfl:=sm hy196
       replace hB:=((((((hB.st S140).st S145).st S164).st S167).st S172).st S191).st S194
       replace h8:=((h8.st S172).st S191).st S194
       replace h11:=((h11.st S172).st S191).st S194
       replace h14:=((h14.st S172).st S191).st S194
       replace h67:=((h67.st S172).st S191).st S194
       replace h91:=((h91.st S172).st S191).st S194
       replace h154:=((((h154.st S164).st S167).st S172).st S191).st S194
       replace h181:=(h181.st S191).st S194
       exact ⟨(),_,⟨rfl,rfl,rfl,rfl,rfl,trivial⟩,hB,h67,h8,h11,h14,h91,h165,h154,h192,h181⟩
      ·
       replace hy196:=im hy196 c202
       refine o_pf rfl rfl rfl (o_mv rfl rfl (AD rfl rfl (o_fa rfl rfl (AD rfl rfl (o_ld (hc:=Blk.cell (i:=0) (h165.1) rfl) rfl rfl ?_)))))
       refine AD rfl rfl (o_eeS rfl rfl rfl (fun c203=>?_) fun c203=>?_)
       ·
        replace hy196:=ip hy196 c203
        refine o_pf rfl rfl rfl (o_z ?_)
        obtain rfl:=sm hy196
        replace hB:=((((((hB.st S140).st S145).st S164).st S167).st S172).st S191).st S194
        replace h8:=((h8.st S172).st S191).st S194
        replace h11:=((h11.st S172).st S191).st S194
        replace h14:=((h14.st S172).st S191).st S194
        replace h67:=((h67.st S172).st S191).st S194
        replace h91:=((h91.st S172).st S191).st S194
        replace h154:=((((h154.st S164).st S167).st S172).st S191).st S194
        replace h181:=(h181.st S191).st S194
        exact ⟨(),_,⟨rfl,rfl,rfl,rfl,rfl,trivial⟩,hB,h67,h8,h11,h14,h91,h165,h154,h192,h181⟩
       ·
        replace hy196:=im hy196 c203
        refine o_pf rfl rfl rfl (o_z ?_)
        obtain rfl:=sm hy196
        replace hB:=((((((hB.st S140).st S145).st S164).st S167).st S172).st S191).st S194
        replace h8:=((h8.st S172).st S191).st S194
        replace h11:=((h11.st S172).st S191).st S194
        replace h14:=((h14.st S172).st S191).st S194
        replace h67:=((h67.st S172).st S191).st S194
        replace h91:=((h91.st S172).st S191).st S194
        replace h154:=((((h154.st S164).st S167).st S172).st S191).st S194
        replace h181:=(h181.st S191).st S194
        exact ⟨(),_,⟨rfl,rfl,rfl,rfl,rfl,trivial⟩,hB,h67,h8,h11,h14,h91,h165,h154,h192,h181⟩
  replace hB:=((((((hB.st S140).st S145).st S164).st S167).st S172).st S191).st S194
  replace h8:=((h8.st S172).st S191).st S194
  replace h11:=((h11.st S172).st S191).st S194
  replace h14:=((h14.st S172).st S191).st S194
  replace h67:=((h67.st S172).st S191).st S194
  replace h91:=((h91.st S172).st S191).st S194
  replace h154:=((((h154.st S164).st S167).st S172).st S191).st S194
  replace h165:=((h165.st S172).st S191).st S194
  replace h181:=(h181.st S191).st S194
  rintro l204 w205 ⟨x198,O206,hs207,hB,h67,h8,h11,h14,h91,h165,h154,h192,h181⟩
  refine AT _ hs207 ?_
  refine Cl rfl (fun c208=>?_) (fun c208=>?_)
  ·
   replace hm:=ip hm c208
   refine Ah (Ae (o_as rfl rfl (o_z ?_)))
   refine Au ?_
   obtain rfl:=sm hm
   exact ret1v rfl (AF rfl) ⟨hB.ext,vBool⟩
  ·
   replace hm:=im' hm c208
   refine Am (Ah (Ah (Ae (o_fa rfl rfl (o_ld (hc:=Blk.cell (i:=0) (h165.1) rfl) rfl rfl ?_)))))
   refine o_eeS rfl rfl rfl (fun c209=>?_) fun c209=>?_
   ·
    replace hm:=ip hm c209
    refine o_z ?_
    refine Ar rfl (Ah (Ae (o_as rfl rfl (o_z ?_))))
    refine Au ?_
    obtain rfl:=sm hm
    exact ret1v rfl (AF rfl) ⟨hB.ext,vBool⟩
   ·
    replace hm:=im hm c209
    refine o_z ?_
    refine Aj rfl (Am (Ah (Ae (o_la (hl:=rfl) (hc:=(h67.1).cellsAt) rfl rfl ?_))))
    refine o_fa rfl rfl (o_ld (hc:=Blk.cell (i:=1) (h165.1) rfl) rfl rfl ?_)
    obtain ⟨q210,e211,hm⟩:=bs hm
    refine BG (O:=O206) (A:=All w205) (R:=fun w' F v=>T2 w' F v q210) (GS (fun _ h=>h) (Vb.mono (F:=Fr 0 w205 O206) (Vb.ofAgg (cs:=[(.slice A9 x0.vars.length c10),(.slice A12 x0.init.length c13),(.slice A15 x0.goal.length c16),(.slice x138.1 s137.length x138.2)]) (x:=(⟨x0.vars,x0.init,x0.goal,s137⟩:Tsk)) rfl ⟨_,_,_,_,rfl,h8,h11,h14,h91⟩) Fr.lt) (Vb.mono (F:=Fr 0 w205 O206) h154 Fr.lt) e211) rfl rfl fun v216 w212 O213 S214 h215=>?_
    obtain ⟨v217,v218,rfl,h219,h220⟩:=h215
    obtain ⟨rfl,r221⟩:=h219.int
    obtain ⟨rfl,r222⟩:=h220.err
    refine o_mv rfl rfl (o_ex rfl rfl rfl (o_ex rfl rfl rfl (o_as rfl rfl (o_as rfl rfl (o_z ?_)))))
    refine Ah (Ae ?_)
    replace h67:=h67.st S214
    refine o_la (hl:=rfl) (hc:=(h67.1).cellsAt) rfl rfl ?_
    refine o_fa rfl rfl ?_
    replace h192:=h192.st S214
    refine o_ld (hc:=Blk.cell (i:=1) (h192.1) rfl) rfl rfl ?_
    obtain ⟨q223,e224,hm⟩:=bs hm
    replace h8:=h8.st S214
    replace h11:=h11.st S214
    replace h14:=h14.st S214
    replace h91:=h91.st S214
    replace h181:=h181.st S214
    refine BG (O:=O213) (A:=All w212) (R:=fun w' F v=>T2 w' F v q223) (GS (fun _ h=>h) (Vb.mono (F:=Fr 0 w212 O213) (Vb.ofAgg (cs:=[(.slice A9 x0.vars.length c10),(.slice A12 x0.init.length c13),(.slice A15 x0.goal.length c16),(.slice x138.1 s137.length x138.2)]) (x:=(⟨x0.vars,x0.init,x0.goal,s137⟩:Tsk)) rfl ⟨_,_,_,_,rfl,h8,h11,h14,h91⟩) Fr.lt) (Vb.mono (F:=Fr 0 w212 O213) h181 Fr.lt) e224) rfl rfl fun v229 w225 O226 S227 h228=>?_
    obtain ⟨v230,v231,rfl,h232,h233⟩:=h228
    obtain ⟨rfl,r234⟩:=h232.int
    obtain ⟨rfl,r235⟩:=h233.err
    refine o_mv rfl rfl (o_ex rfl rfl rfl (o_ex rfl rfl rfl (o_as rfl rfl (o_as rfl rfl (o_z ?_)))))
    refine Ah (Ah ?_)
    obtain ⟨y236,hy237,hm⟩:=bs hm
    refine AN (fun l' w'=>∃ (x239:Unit) (O':Lab),subs l' [(5,(.pointer (some ⟨g63,0,none⟩))),(10,(.pointer (some ⟨g188,0,none⟩))),(128,(.bool y236))]∧Bs w A w' O'∧Lc 3 w' O' g63 26 [(.slice A9 x0.vars.length c10),(.slice A12 x0.init.length c13),(.slice A15 x0.goal.length c16),(.slice x138.1 s137.length x138.2)]∧Vb w' (Fr 0 w' O') (.slice A9 x0.vars.length c10) x0.vars∧Vb w' (Fr 0 w' O') (.slice A12 x0.init.length c13) x0.init∧Vb w' (Fr 0 w' O') (.slice A15 x0.goal.length c16) x0.goal∧Vb w' (Fr 0 w' O') (.slice x138.1 s137.length x138.2) s137∧Lc 7 w' O' g188 30 [(.int .i64 q168.1.verdict),(.slice A182 q168.1.plan.length c183),(.int .i64 q168.1.cost),(.int .i64 q168.1.expanded)]∧Vb w' (Fr 0 w' O') (.slice A182 q168.1.plan.length c183) q168.1.plan) ?_ ?_
    ·
     refine Ae (o_mv rfl rfl (o_rnS rfl rfl (fun c240=>?_) fun c240=>?_))
     ·
      replace hy237:=ip hy237 c240
      refine o_mv rfl rfl (AB rfl rfl rfl rfl (AB rfl rfl rfl rfl (o_pt rfl rfl rfl (o_mv rfl rfl (AB rfl rfl rfl rfl (AB rfl rfl rfl rfl (AB rfl rfl rfl rfl (AB rfl rfl rfl rfl (o_pt rfl rfl rfl (o_mv rfl rfl (AB rfl rfl rfl rfl (AB rfl rfl rfl rfl (AB rfl rfl rfl rfl (AB rfl rfl rfl rfl ?_))))))))))))))
      refine o_pt rfl rfl rfl (o_mv rfl rfl (AB rfl rfl rfl rfl (AB rfl rfl rfl rfl (AB rfl rfl rfl rfl (AB rfl rfl rfl rfl (AB rfl rfl rfl rfl (AB rfl rfl rfl rfl (AB rfl rfl rfl rfl (AB rfl rfl rfl rfl (AB rfl rfl rfl rfl (o_pt rfl rfl rfl (o_z ?_))))))))))))
      obtain rfl:=sm hy237
      replace hB:=(hB.st S214).st S227
      replace h8:=h8.st S227
      replace h11:=h11.st S227
      replace h14:=h14.st S227
      replace h67:=h67.st S227
      replace h91:=h91.st S227
      replace h181:=h181.st S227
      replace h192:=h192.st S227
      exact ⟨(),_,⟨rfl,rfl,rfl,trivial⟩,hB,h67,h8,h11,h14,h91,h192,h181⟩
     ·
      replace hy237:=im hy237 c240
      refine o_mv rfl rfl (AD rfl rfl (o_mv rfl rfl (AD rfl rfl (o_rnS rfl rfl (fun c241=>?_) fun c241=>?_))))
      ·
       replace hy237:=ip hy237 c241
       refine o_pf rfl rfl rfl (o_mv rfl rfl (AB rfl rfl rfl rfl (AB rfl rfl rfl rfl (AB rfl rfl rfl rfl (AB rfl rfl rfl rfl (o_pt rfl rfl rfl (o_mv rfl rfl (AB rfl rfl rfl rfl (AB rfl rfl rfl rfl (AB rfl rfl rfl rfl (AB rfl rfl rfl rfl (o_pt rfl rfl rfl (o_mv rfl rfl (AB rfl rfl rfl rfl ?_))))))))))))))
       refine AB rfl rfl rfl rfl (AB rfl rfl rfl rfl (AB rfl rfl rfl rfl (AB rfl rfl rfl rfl (AB rfl rfl rfl rfl (AB rfl rfl rfl rfl (AB rfl rfl rfl rfl (AB rfl rfl rfl rfl (o_pt rfl rfl rfl (o_z ?_)))))))))
       obtain rfl:=sm hy237
       replace hB:=(hB.st S214).st S227
       replace h8:=h8.st S227
       replace h11:=h11.st S227
       replace h14:=h14.st S227
       replace h67:=h67.st S227
       replace h91:=h91.st S227
       replace h181:=h181.st S227
       replace h192:=h192.st S227
       exact ⟨(),_,⟨rfl,rfl,rfl,trivial⟩,hB,h67,h8,h11,h14,h91,h192,h181⟩
      ·
       replace hy237:=im hy237 c241
       refine o_pf rfl rfl rfl (o_mv rfl rfl (AD rfl rfl (o_mv rfl rfl (AD rfl rfl (o_fa rfl rfl (AD rfl rfl ?_))))))
       replace h165:=(h165.st S214).st S227
       refine o_ld (hc:=Blk.cell (i:=2) (h165.1) rfl) rfl rfl ?_
       refine AD rfl rfl (o_neS rfl rfl rfl (fun c242=>?_) fun c242=>?_)
       ·
        replace hy237:=ip hy237 c242
        refine o_pf rfl rfl rfl (o_mv rfl rfl (AB rfl rfl rfl rfl (AB rfl rfl rfl rfl (AB rfl rfl rfl rfl (AB rfl rfl rfl rfl (o_pt rfl rfl rfl (o_mv rfl rfl (AB rfl rfl rfl rfl (AB rfl rfl rfl rfl (AB rfl rfl rfl rfl (AB rfl rfl rfl rfl (AB rfl rfl rfl rfl (AB rfl rfl rfl rfl (AB rfl rfl rfl rfl ?_))))))))))))))
        refine AB rfl rfl rfl rfl (AB rfl rfl rfl rfl (o_pt rfl rfl rfl (o_z ?_)))
        obtain rfl:=sm hy237
        replace hB:=(hB.st S214).st S227
        replace h8:=h8.st S227
        replace h11:=h11.st S227
        replace h14:=h14.st S227
        replace h67:=h67.st S227
        replace h91:=h91.st S227
        replace h181:=h181.st S227
        replace h192:=h192.st S227
        exact ⟨(),_,⟨rfl,rfl,rfl,trivial⟩,hB,h67,h8,h11,h14,h91,h192,h181⟩
       ·
        replace hy237:=im hy237 c242
        refine o_pf rfl rfl rfl (o_mv rfl rfl (AD rfl rfl (o_mv rfl rfl (AD rfl rfl (o_fa rfl rfl (AD rfl rfl ?_))))))
        replace h192:=h192.st S227
        refine o_ld (hc:=Blk.cell (i:=2) (h192.1) rfl) rfl rfl ?_
        refine AD rfl rfl (o_neS rfl rfl rfl (fun c243=>?_) fun c243=>?_)
        ·
         replace hy237:=ip hy237 c243
         refine o_pf rfl rfl rfl (o_mv rfl rfl (AB rfl rfl rfl rfl (AB rfl rfl rfl rfl (AB rfl rfl rfl rfl (AB rfl rfl rfl rfl (AB rfl rfl rfl rfl (AB rfl rfl rfl rfl (AB rfl rfl rfl rfl (AB rfl rfl rfl rfl (AB rfl rfl rfl rfl (o_pt rfl rfl rfl (o_z ?_))))))))))))
         obtain rfl:=sm hy237
         replace hB:=(hB.st S214).st S227
         replace h8:=h8.st S227
         replace h11:=h11.st S227
         replace h14:=h14.st S227
         replace h67:=h67.st S227
         replace h91:=h91.st S227
         replace h181:=h181.st S227
         exact ⟨(),_,⟨rfl,rfl,rfl,trivial⟩,hB,h67,h8,h11,h14,h91,h192,h181⟩
        ·
         replace hy237:=im hy237 c243
         refine o_pf rfl rfl rfl (o_mv rfl rfl (AD rfl rfl (o_fa rfl rfl (AD rfl rfl (o_ld (hc:=Blk.cell (i:=2) (h165.1) rfl) rfl rfl ?_)))))
         refine AD rfl rfl (o_mv rfl rfl (AD rfl rfl (o_cv (hr:=(x1.rng)) rfl rfl ?_)))
         refine AD rfl rfl (o_fa rfl rfl (AD rfl rfl (o_ld (hc:=Blk.cell (i:=1) (h165.1) rfl) rfl rfl ?_)))
         refine AD rfl rfl (o_ln rfl rfl ?_)
         replace h154:=(h154.st S214).st S227
         have l245:q141.1.plan.length≤9223372036854775807:=Nat.le_trans h154.len.2.1 h154.len.2.2
         have r244:inI64 (q141.1.plan.length:Int):=rngNat l245
         refine AD rfl rfl ?_
         obtain ⟨n246,e247,hy237⟩:=bs hy237
         have r248:=(Br e247)
         refine o_mlE (he:=e247) rfl rfl rfl ?_
         refine AD rfl rfl (o_neS rfl rfl rfl (fun c249=>?_) fun c249=>?_)
         ·
          replace hy237:=ip hy237 c249
          refine o_pf rfl rfl rfl (o_z ?_)
          obtain rfl:=sm hy237
          replace hB:=(hB.st S214).st S227
          replace h8:=h8.st S227
          replace h11:=h11.st S227
          replace h14:=h14.st S227
          replace h67:=h67.st S227
          replace h91:=h91.st S227
          replace h181:=h181.st S227
          exact ⟨(),_,⟨rfl,rfl,rfl,trivial⟩,hB,h67,h8,h11,h14,h91,h192,h181⟩
         ·
          replace hy237:=im hy237 c249
          refine o_pf rfl rfl rfl (o_z ?_)
          obtain rfl:=sm hy237
          replace hB:=(hB.st S214).st S227
          replace h8:=h8.st S227
          replace h11:=h11.st S227
          replace h14:=h14.st S227
          replace h67:=h67.st S227
          replace h91:=h91.st S227
          replace h181:=h181.st S227
          exact ⟨(),_,⟨rfl,rfl,rfl,trivial⟩,hB,h67,h8,h11,h14,h91,h192,h181⟩
    replace hB:=(hB.st S214).st S227
    replace h8:=h8.st S227
    replace h11:=h11.st S227
    replace h14:=h14.st S227
    replace h67:=h67.st S227
    replace h91:=h91.st S227
    replace h181:=h181.st S227
    replace h192:=h192.st S227
    rintro l250 w251 ⟨x239,O252,hs253,hB,h67,h8,h11,h14,h91,h192,h181⟩
    refine AT _ hs253 ?_
    refine Cl rfl (fun c254=>?_) (fun c254=>?_)
    ·
     replace hm:=ip hm c254
     refine Ah (Ae (o_as rfl rfl (o_z ?_)))
     refine Au ?_
     obtain rfl:=sm hm
     exact ret1v rfl (AF rfl) ⟨hB.ext,vBool⟩
    ·
     replace hm:=im' hm c254
     refine Am (Ah (Ae (o_la (hl:=rfl) (hc:=(h67.1).cellsAt) rfl rfl ?_)))
     refine Bz 8 O252 rfl fun g255 w256 O257 S258 h259=>?_
     refine AR h259 rfl rfl rfl (Nat.le_of_ble_eq_true rfl) (by first|exact allOne rfl|simp [Value.cells,Value.oneCell',AM]) fun w260 S261 h259=>?_
     replace h259:Lc 8 w260 O257 g255 26 [(.slice A9 x0.vars.length c10),(.slice A12 x0.init.length c13),(.slice A15 x0.goal.length c16),(.slice x138.1 s137.length x138.2)]:=h259
     refine o_z ?_
     refine Ah (Ae (o_fa rfl rfl (AR h259 rfl rfl rfl (Nat.le_of_ble_eq_true rfl) (by first|exact allOne rfl|simp [Value.cells,Value.oneCell',AM]) fun w262 S263 h259=>?_)))
     replace h259:Lc 8 w262 O257 g255 26 [(.slice A9 x0.vars.length c10),(.slice A12 x0.init.length c13),(.slice A15 x0.goal.length c16),(.slice none 0 0)]:=h259
     refine o_z ?_
     refine Ah (Ah (Ae (o_fa rfl rfl ?_)))
     replace h67:=((h67.st S258).st S261).st S263
     refine o_ld (hc:=Blk.cell (i:=3) (h67.1) rfl) rfl rfl ?_
     refine o_ln rfl rfl ?_
     replace h91:=((h91.st S258).st S261).st S263
     have l265:s137.length≤9223372036854775807:=Nat.le_trans h91.len.2.1 h91.len.2.2
     have r264:inI64 (s137.length:Int):=rngNat l265
     refine o_mv rfl rfl (o_z ?_)
     obtain ⟨res266,hL267,hm⟩:=bs hm
     refine AN (aft res266 (fun (s268:(List Opr)) (x269:(Option Addr×Nat))=>[(10,(.pointer (some ⟨g188,0,none⟩))),(14,(.pointer (some ⟨g255,0,none⟩)))]) (fun s268 x269 w'=>∃ O':Lab,Bs w A w' O'∧Lc 7 w' O' g188 30 [(.int .i64 q168.1.verdict),(.slice A182 q168.1.plan.length c183),(.int .i64 q168.1.cost),(.int .i64 q168.1.expanded)]∧Vb w' (Fr 0 w' O') (.slice A182 q168.1.plan.length c183) q168.1.plan∧Lc 8 w' O' g255 26 [(.slice A9 x0.vars.length c10),(.slice A12 x0.init.length c13),(.slice A15 x0.goal.length c16),(.slice x269.1 s268.length x269.2)]∧Vb w' (Fr 0 w' O') (.slice A9 x0.vars.length c10) x0.vars∧Vb w' (Fr 0 w' O') (.slice A12 x0.init.length c13) x0.init∧Vb w' (Fr 0 w' O') (.slice A15 x0.goal.length c16) x0.goal∧Rw 10 w' O' 55 (.slice x269.1 s268.length x269.2) s268)) ?_ ?_
     ·
      refine Al ?_
      replace hB:=((hB.st S258).st S261).st S263
      replace h8:=((h8.st S258).st S261).st S263
      replace h11:=((h11.st S258).st S261).st S263
      replace h14:=((h14.st S258).st S261).st S263
      replace h181:=((h181.st S258).st S261).st S263
      replace h192:=((h192.st S258).st S261).st S263
      refine Ck (σ:=(List Opr)) (X:=(Option Addr×Nat)) (s137.length) hL267 rfl l265 (fun (s268:(List Opr)) (x269:(Option Addr×Nat))=>[(10,(.pointer (some ⟨g188,0,none⟩))),(14,(.pointer (some ⟨g255,0,none⟩))),(132,(.slice x138.1 s137.length x138.2))]) _ (fun s268 x269 w'=>∃ O':Lab,Bs w A w' O'∧Lc 7 w' O' g188 30 [(.int .i64 q168.1.verdict),(.slice A182 q168.1.plan.length c183),(.int .i64 q168.1.cost),(.int .i64 q168.1.expanded)]∧Vb w' (Fr 0 w' O') (.slice A182 q168.1.plan.length c183) q168.1.plan∧Lc 8 w' O' g255 26 [(.slice A9 x0.vars.length c10),(.slice A12 x0.init.length c13),(.slice A15 x0.goal.length c16),(.slice x269.1 s268.length x269.2)]∧Vb w' (Fr 0 w' O') (.slice A9 x0.vars.length c10) x0.vars∧Vb w' (Fr 0 w' O') (.slice A12 x0.init.length c13) x0.init∧Vb w' (Fr 0 w' O') (.slice A15 x0.goal.length c16) x0.goal∧Rw 10 w' O' 55 (.slice x269.1 s268.length x269.2) s268∧Vb w' (Fr 0 w' O') (.slice x138.1 s137.length x138.2) s137) _ (none,0) ⟨O257,hB,h192,h181,h259,h8,h11,h14,(Rw.nil 10 (by decide)),h91⟩ ⟨rfl,rfl,rfl,rfl,rfl,trivial⟩ (fun _ _=>⟨rfl,rfl⟩) (fun _ _=>⟨rfl,rfl,trivial⟩) (fun _ _ _ ⟨O',hB,h192,h181,h259,h8,h11,h14,h283,h91⟩=>⟨O',hB,h192,h181,h259,h8,h11,h14,h283⟩) ⟨rfl,rfl,rfl⟩ ⟨rfl,rfl⟩ ?_
      rintro k270 a271 s268 x269 w272 cc274 hx275 ⟨O273,hB,h192,h181,h259,h8,h11,h14,h283,h91⟩ hf276 hret277 hbrk278
      have rk270:inI64 (k270:Int):=rngK hx275 l265
      refine Ah (Ae (o_mv rfl rfl ?_))
      obtain ⟨b285,o286,ce287,hA288,hl289,hd290,v292,v293,rfl,h294,h297,r300,z301⟩:=h91.elem' hx275
      obtain ⟨A295,c296,rfl⟩:=h294.form
      obtain ⟨A298,c299,rfl⟩:=h297.form
      refine o_iaE (hA:=hA288) (hj:=rfl) (hlt:=hl289) rfl rfl rfl ?_
      refine o_la (hl:=rfl) (hc:=hd290) rfl rfl ?_
      refine Bz 9 O273 rfl fun g302 w303 O304 S305 h306=>?_
      refine o_as rfl rfl (AR h306 rfl rfl rfl (Nat.le_of_ble_eq_true rfl) (by first|exact allOne rfl|simp [Value.cells,Value.oneCell',AM]) fun w307 S308 h306=>?_)
      replace h306:Lc 9 w307 O304 g302 55 [(.string a271.name),(.int .i64 a271.cost),(.slice A295 a271.pre.length c296),(.slice A298 a271.effs.length c299)]:=h306
      refine o_z ?_
      refine Ah (Ae (o_as rfl rfl (o_z ?_)))
      refine Ah (Ah (Ae (o_fa rfl rfl ?_)))
      replace h192:=(h192.st S305).st S308
      refine o_ld (hc:=Blk.cell (i:=1) (h192.1) rfl) rfl rfl ?_
      refine o_ln rfl rfl ?_
      replace h181:=(h181.st S305).st S308
      have l310:q168.1.plan.length≤9223372036854775807:=Nat.le_trans h181.len.2.1 h181.len.2.2
      have r309:inI64 (q168.1.plan.length:Int):=rngNat l310
      refine o_mv rfl rfl (o_z ?_)
      obtain ⟨res311,hL312,hf276⟩:=bs hf276
      refine AN (aft res311 (fun (s313:Bool) (x314:Unit)=>[(10,(.pointer (some ⟨g188,0,none⟩))),(14,(.pointer (some ⟨g255,0,none⟩))),(16,(.pointer (some ⟨g302,0,none⟩))),(17,(.bool s313)),(132,(.slice x138.1 s137.length x138.2)),(133,(.int .i64 (s137.length:Int))),(134,(.int .i64 (k270:Int)))]) (fun s313 x314 w'=>∃ O':Lab,Bs w A w' O'∧Lc 7 w' O' g188 30 [(.int .i64 q168.1.verdict),(.slice A182 q168.1.plan.length c183),(.int .i64 q168.1.cost),(.int .i64 q168.1.expanded)]∧Vb w' (Fr 0 w' O') (.slice A182 q168.1.plan.length c183) q168.1.plan∧Lc 8 w' O' g255 26 [(.slice A9 x0.vars.length c10),(.slice A12 x0.init.length c13),(.slice A15 x0.goal.length c16),(.slice x269.1 s268.length x269.2)]∧Vb w' (Fr 0 w' O') (.slice A9 x0.vars.length c10) x0.vars∧Vb w' (Fr 0 w' O') (.slice A12 x0.init.length c13) x0.init∧Vb w' (Fr 0 w' O') (.slice A15 x0.goal.length c16) x0.goal∧Rw 10 w' O' 55 (.slice x269.1 s268.length x269.2) s268∧Lc 9 w' O' g302 55 [(.string a271.name),(.int .i64 a271.cost),(.slice A295 a271.pre.length c296),(.slice A298 a271.effs.length c299)]∧Vb w' (Fr 0 w' O') (.slice A295 a271.pre.length c296) a271.pre∧Vb w' (Fr 0 w' O') (.slice A298 a271.effs.length c299) a271.effs∧Vb w' (Fr 0 w' O') (.slice x138.1 s137.length x138.2) s137)) ?_ ?_
      ·
       refine Al ?_
       replace hB:=(hB.st S305).st S308
       replace h8:=(h8.st S305).st S308
       replace h11:=(h11.st S305).st S308
       replace h14:=(h14.st S305).st S308
       replace h91:=(h91.st S305).st S308
       replace h259:=(h259.st S305).st S308
       replace h283:=(h283.st S305).st S308
       replace h294:=(h294.st S305).st S308
       replace h297:=(h297.st S305).st S308
       refine Ck (σ:=Bool) (X:=Unit) (q168.1.plan.length) hL312 rfl l310 (fun (s313:Bool) (x314:Unit)=>[(10,(.pointer (some ⟨g188,0,none⟩))),(14,(.pointer (some ⟨g255,0,none⟩))),(15,(.int .i64 (k270:Int))),(16,(.pointer (some ⟨g302,0,none⟩))),(17,(.bool s313)),(132,(.slice x138.1 s137.length x138.2)),(133,(.int .i64 (s137.length:Int))),(134,(.int .i64 (k270:Int))),(140,(.slice A182 q168.1.plan.length c183))]) _ (fun s313 x314 w'=>∃ O':Lab,Bs w A w' O'∧Lc 7 w' O' g188 30 [(.int .i64 q168.1.verdict),(.slice A182 q168.1.plan.length c183),(.int .i64 q168.1.cost),(.int .i64 q168.1.expanded)]∧Vb w' (Fr 0 w' O') (.slice A182 q168.1.plan.length c183) q168.1.plan∧Lc 8 w' O' g255 26 [(.slice A9 x0.vars.length c10),(.slice A12 x0.init.length c13),(.slice A15 x0.goal.length c16),(.slice x269.1 s268.length x269.2)]∧Vb w' (Fr 0 w' O') (.slice A9 x0.vars.length c10) x0.vars∧Vb w' (Fr 0 w' O') (.slice A12 x0.init.length c13) x0.init∧Vb w' (Fr 0 w' O') (.slice A15 x0.goal.length c16) x0.goal∧Rw 10 w' O' 55 (.slice x269.1 s268.length x269.2) s268∧Lc 9 w' O' g302 55 [(.string a271.name),(.int .i64 a271.cost),(.slice A295 a271.pre.length c296),(.slice A298 a271.effs.length c299)]∧Vb w' (Fr 0 w' O') (.slice A295 a271.pre.length c296) a271.pre∧Vb w' (Fr 0 w' O') (.slice A298 a271.effs.length c299) a271.effs∧Vb w' (Fr 0 w' O') (.slice x138.1 s137.length x138.2) s137) _ () ⟨O304,hB,h192,h181,h259,h8,h11,h14,h283,h306,h294,h297,h91⟩ ⟨rfl,rfl,rfl,rfl,rfl,rfl,rfl,rfl,rfl,rfl,rfl,trivial⟩ (fun _ _=>⟨rfl,rfl⟩) (fun _ _=>⟨rfl,rfl,rfl,rfl,rfl,rfl,rfl,trivial⟩) (fun _ _ _ ⟨O',hB,h192,h181,h259,h8,h11,h14,h283,h306,h294,h297,h91⟩=>⟨O',hB,h192,h181,h259,h8,h11,h14,h283,h306,h294,h297,h91⟩) ⟨rfl,rfl,rfl⟩ ⟨rfl,rfl⟩ ?_
       rintro k315 a316 s313 x314 w317 cc319 hx320 ⟨O318,hB,h192,h181,h259,h8,h11,h14,h283,h306,h294,h297,h91⟩ hf321 hret322 hbrk323
       have rk315:inI64 (k315:Int):=rngK hx320 l310
       refine Ah (Ae ?_)
       obtain ⟨b326,o327,ce328,hA329,hl330,hd331,rfl,r333⟩:=h181.elem' hx320
       refine o_iaE (hA:=hA329) (hj:=rfl) (hlt:=hl330) rfl rfl rfl ?_
       refine o_ld (hc:=cat0 hd331) rfl rfl ?_
       refine o_as rfl rfl (o_z ?_)
       refine Ae (o_mv rfl rfl (o_mv rfl rfl ?_))
       rcases Bool.eq_false_or_eq_true s313 with c334|c334
       ·
        try rw [c334]
        replace hf321:=ip hf321 c334
        refine AB rfl rfl rfl rfl (AB rfl rfl rfl rfl (AB rfl rfl rfl rfl (o_pt rfl rfl rfl (o_as rfl rfl (o_z ?_)))))
        obtain rfl:=sm hf321
        refine (?_:Exists _)
        exact ⟨_,(),rfl,⟨rfl,rfl,rfl,rfl,rfl,rfl,rfl,rfl,rfl,rfl,rfl,trivial⟩,_,hB,h192,h181,h259,h8,h11,h14,h283,h306,h294,h297,h91⟩
       ·
        try rw [c334]
        replace hf321:=im' hf321 c334
        refine AD rfl rfl (o_mv rfl rfl (AD rfl rfl (o_mv rfl rfl (AD rfl rfl (o_eeS rfl rfl rfl (fun c335=>?_) fun c335=>?_)))))
        ·
         replace hf321:=ip hf321 c335
         refine o_pf rfl rfl rfl (o_as rfl rfl (o_z ?_))
         obtain rfl:=sm hf321
         refine (?_:Exists _)
         exact ⟨_,(),rfl,⟨rfl,rfl,rfl,rfl,rfl,rfl,rfl,rfl,rfl,rfl,rfl,trivial⟩,_,hB,h192,h181,h259,h8,h11,h14,h283,h306,h294,h297,h91⟩
        ·
         replace hf321:=im hf321 c335
         refine o_pf rfl rfl rfl (o_as rfl rfl (o_z ?_))
         obtain rfl:=sm hf321
         refine (?_:Exists _)
         exact ⟨_,(),rfl,⟨rfl,rfl,rfl,rfl,rfl,rfl,rfl,rfl,rfl,rfl,rfl,trivial⟩,_,hB,h192,h181,h259,h8,h11,h14,h283,h306,h294,h297,h91⟩
      replace hB:=(hB.st S305).st S308
      replace h8:=(h8.st S305).st S308
      replace h11:=(h11.st S305).st S308
      replace h14:=(h14.st S305).st S308
      replace h91:=(h91.st S305).st S308
      replace h259:=(h259.st S305).st S308
      replace h283:=(h283.st S305).st S308
      replace h294:=(h294.st S305).st S308
      replace h297:=(h297.st S305).st S308
      rintro l336 w337 ⟨s340,x341,rfl,hs339,O338,hB,h192,h181,h259,h8,h11,h14,h283,h306,h294,h297,h91⟩
      replace hf276:=Bj hf276
      refine AT _ hs339 ?_
      refine Ah (Ae (o_mv rfl rfl (o_nn rfl rfl (o_z ?_))))
      refine Cl rfl (fun c342=>?_) (fun c342=>?_)
      ·
       replace hf276:=ip hf276 c342
       refine Ae (o_fa rfl rfl (o_ld (hc:=Blk.cell (i:=3) (h259.1) rfl) rfl rfl ?_))
       refine o_la (hl:=rfl) (hc:=(h306.1).cellsAt) rfl rfl ?_
       obtain ⟨u343,e344,hf276⟩:=bs hf276
       obtain ⟨e344,e345,e346⟩:=Cx e344
       refine Df rfl (a:=a271) h283 (Vb.ofAgg (cs:=[(.string a271.name),(.int .i64 a271.cost),(.slice A295 a271.pre.length c296),(.slice A298 a271.effs.length c299)]) (x:=a271) rfl ⟨_,_,rfl,h294,h297,r300,z301⟩) (fun _=>rfl) rfl (by decide) (by decide) e345 e346 ⟨rfl,rfl⟩ fun g347 A348 c349 w350 O351 S352 h353=>?_
       rw [← e344] at h353 ⊢
       refine o_fa rfl rfl ?_
       replace h259:=h259.st S352
       refine AR h259 rfl rfl rfl (Nat.le_of_ble_eq_true rfl) (by first|exact allOne rfl|simp [Value.cells,Value.oneCell',AM]) fun w355 S356 h259=>?_
       replace h259:Lc 8 w355 O351 g255 26 [(.slice A9 x0.vars.length c10),(.slice A12 x0.init.length c13),(.slice A15 x0.goal.length c16),(.slice A348 u343.length c349)]:=h259
       refine o_z ?_
       obtain rfl:=sm hf276
       refine (?_:Exists _)
       replace hB:=(hB.st S352).st S356
       replace h8:=(h8.st S352).st S356
       replace h11:=(h11.st S352).st S356
       replace h14:=(h14.st S352).st S356
       replace h91:=(h91.st S352).st S356
       replace h181:=(h181.st S352).st S356
       replace h192:=(h192.st S352).st S356
       replace h353:=h353.st S356
       exact ⟨_,(A348,c349),rfl,⟨rfl,rfl,rfl,rfl,rfl,trivial⟩,_,hB,h192,h181,h259,h8,h11,h14,h353,h91⟩
      ·
       replace hf276:=im' hf276 c342
       refine Am ?_
       obtain rfl:=sm hf276
       refine (?_:Exists _)
       exact ⟨_,(x269.1,x269.2),rfl,⟨rfl,rfl,rfl,rfl,rfl,trivial⟩,_,hB,h192,h181,h259,h8,h11,h14,h283,h91⟩
     replace hB:=((hB.st S258).st S261).st S263
     replace h8:=((h8.st S258).st S261).st S263
     replace h11:=((h11.st S258).st S261).st S263
     replace h14:=((h14.st S258).st S261).st S263
     replace h181:=((h181.st S258).st S261).st S263
     replace h192:=((h192.st S258).st S261).st S263
     rintro l357 w358 ⟨s361,x362,rfl,hs360,O359,hB,h192,h181,h259,h8,h11,h14,h283⟩
     replace hm:=Bj hm
     refine AT _ hs360 ?_
     refine Ah (Ae (o_la (hl:=rfl) (hc:=(h259.1).cellsAt) rfl rfl ?_))
     obtain ⟨O363,S364,h283⟩:=h283.freeze
     obtain ⟨q365,e366,hm⟩:=bs hm
     replace h8:=h8.st S364
     replace h11:=h11.st S364
     replace h14:=h14.st S364
     refine Cr (O:=O363) (R:=fun w' F v=>T2 w' F v q365) (Ef Fr.lt (Vb.ofAgg (cs:=[(.slice A9 x0.vars.length c10),(.slice A12 x0.init.length c13),(.slice A15 x0.goal.length c16),(.slice x362.1 s361.length x362.2)]) (x:=(⟨x0.vars,x0.init,x0.goal,s361⟩:Tsk)) rfl ⟨_,_,_,_,rfl,h8,h11,h14,h283⟩) (show inI64 (512) from by decide) e366) rfl rfl fun v371 w367 O368 S369 h370=>?_
     obtain ⟨v372,v373,rfl,h374,h375⟩:=h370
     obtain ⟨cs376,rfl,v377,rfl,h378,r381,r382,r383⟩:=h374
     obtain ⟨A379,c380,rfl⟩:=h378.form
     obtain ⟨rfl,r384⟩:=h375.err
     refine o_mv rfl rfl (o_ex rfl rfl rfl (o_ex rfl rfl rfl (Bz 11 O368 rfl fun g385 w386 O387 S388 h389=>?_)))
     refine AR h389 rfl rfl rfl (Nat.le_of_ble_eq_true rfl) (by first|exact allOne rfl|simp [Value.cells,Value.oneCell',AM]) fun w390 S391 h389=>?_
     replace h389:Lc 11 w390 O387 g385 30 [(.int .i64 q365.1.verdict),(.slice A379 q365.1.plan.length c380),(.int .i64 q365.1.cost),(.int .i64 q365.1.expanded)]:=h389
     refine o_as rfl rfl (o_z ?_)
     refine Ah ?_
     obtain ⟨y392,hy393,hm⟩:=bs hm
     refine AN (fun l' w'=>∃ (x395:Unit) (O':Lab),subs l' [(4,(.bool y392))]∧Bs w A w' O') ?_ ?_
     ·
      refine Ae (o_mv rfl rfl (o_erS rfl rfl (fun c396=>?_) fun c396=>?_))
      ·
       replace hy393:=ip hy393 c396
       refine o_mv rfl rfl (AD rfl rfl (o_fa rfl rfl (AD rfl rfl (o_ld (hc:=Blk.cell (i:=0) (h389.1) rfl) rfl rfl ?_))))
       refine AD rfl rfl (o_eeS rfl rfl rfl (fun c397=>?_) fun c397=>?_)
       ·
        replace hy393:=ip hy393 c397
        refine AD rfl rfl (o_mv rfl rfl (AB rfl rfl rfl rfl (AB rfl rfl rfl rfl (AB rfl rfl rfl rfl (AB rfl rfl rfl rfl (AB rfl rfl rfl rfl (AB rfl rfl rfl rfl (AB rfl rfl rfl rfl (AB rfl rfl rfl rfl (AB rfl rfl rfl rfl (AB rfl rfl rfl rfl (AD rfl rfl (o_pt rfl rfl rfl (o_pt rfl rfl rfl ?_))))))))))))))
        refine o_as rfl rfl (o_z ?_)
        obtain rfl:=sm hy393
        replace hB:=(((hB.st S364).st S369).st S388).st S391
        exact ⟨(),_,⟨rfl,trivial⟩,hB⟩
       ·
        replace hy393:=im hy393 c397
        refine AD rfl rfl (o_mv rfl rfl (AD rfl rfl (o_fa rfl rfl (AD rfl rfl (o_ld (hc:=Blk.cell (i:=0) (h389.1) rfl) rfl rfl ?_)))))
        refine AD rfl rfl (o_eeS rfl rfl rfl (fun c398=>?_) fun c398=>?_)
        ·
         replace hy393:=ip hy393 c398
         refine AD rfl rfl (o_mv rfl rfl (AD rfl rfl (o_fa rfl rfl (AD rfl rfl (o_ld (hc:=Blk.cell (i:=2) (h389.1) rfl) rfl rfl ?_)))))
         refine AD rfl rfl (o_fa rfl rfl (AD rfl rfl ?_))
         replace h192:=(((h192.st S364).st S369).st S388).st S391
         refine o_ld (hc:=Blk.cell (i:=2) (h192.1) rfl) rfl rfl ?_
         refine AD rfl rfl (o_geS rfl rfl rfl (fun c399=>?_) fun c399=>?_)
         ·
          replace hy393:=ip hy393 c399
          refine AD rfl rfl (o_pt rfl rfl rfl (AD rfl rfl (o_pf rfl rfl rfl (o_pt rfl rfl rfl (o_as rfl rfl (o_z ?_))))))
          obtain rfl:=sm hy393
          replace hB:=(((hB.st S364).st S369).st S388).st S391
          exact ⟨(),_,⟨rfl,trivial⟩,hB⟩
         ·
          replace hy393:=im hy393 c399
          refine AD rfl rfl (o_pt rfl rfl rfl (AD rfl rfl (o_pf rfl rfl rfl (o_pt rfl rfl rfl (o_as rfl rfl (o_z ?_))))))
          obtain rfl:=sm hy393
          replace hB:=(((hB.st S364).st S369).st S388).st S391
          exact ⟨(),_,⟨rfl,trivial⟩,hB⟩
        ·
         replace hy393:=im hy393 c398
         refine AD rfl rfl (o_mv rfl rfl (AB rfl rfl rfl rfl (AB rfl rfl rfl rfl (AB rfl rfl rfl rfl (AB rfl rfl rfl rfl (AB rfl rfl rfl rfl (AD rfl rfl (o_pf rfl rfl rfl (AD rfl rfl (o_pf rfl rfl rfl (o_pt rfl rfl rfl (o_as rfl rfl (o_z ?_)))))))))))))
         obtain rfl:=sm hy393
         replace hB:=(((hB.st S364).st S369).st S388).st S391
         exact ⟨(),_,⟨rfl,trivial⟩,hB⟩
      ·
       replace hy393:=im hy393 c396
       refine o_mv rfl rfl (AB rfl rfl rfl rfl (AB rfl rfl rfl rfl (AB rfl rfl rfl rfl (AB rfl rfl rfl rfl (AB rfl rfl rfl rfl (AB rfl rfl rfl rfl (AB rfl rfl rfl rfl (AB rfl rfl rfl rfl (AB rfl rfl rfl rfl (AB rfl rfl rfl rfl (AB rfl rfl rfl rfl (AB rfl rfl rfl rfl (AB rfl rfl rfl rfl (AB rfl rfl rfl rfl ?_))))))))))))))
       refine AB rfl rfl rfl rfl (o_pf rfl rfl rfl (o_as rfl rfl (o_z ?_)))
       obtain rfl:=sm hy393
       replace hB:=(((hB.st S364).st S369).st S388).st S391
       exact ⟨(),_,⟨rfl,trivial⟩,hB⟩
     replace hB:=(((hB.st S364).st S369).st S388).st S391
     rintro l400 w401 ⟨x395,O402,hs403,hB⟩
     refine AT _ hs403 ?_
     refine Au ?_
     obtain rfl:=sm hm
     exact ret1v rfl (AF rfl) ⟨hB.ext,vBool⟩
end
section
open Go Go.RowKit
def Le {α:Type} (x y:Option α):Prop:=∀ r,x=some r→y=some r
theorem Le.rf {α:Type} {x:Option α}:Le x x:=fun _ h=>h
theorem Le.bnd {α β:Type} {x x':Option α} {f f':α→Option β} (h:Le x x') (hf:∀ a,Le (f a) (f' a)):Le (bnd x f) (bnd x' f'):=fun r hr=>by
  obtain ⟨a,ha,hb⟩:=bs hr
  rw [h a ha,AC]
  exact hf a r hb
theorem Le.ite {α:Type} {p:Prop} [Decidable p] {x x' y y':Option α} (h:Le x x') (k:Le y y'):Le (if p then x else y) (if p then x' else y'):=by
  by_cases hp:p
  · rw [if_pos hp,if_pos hp];exact h
  · rw [if_neg hp,if_neg hp];exact k
theorem Le.fin {σ κ:Type} {y:Fin σ κ} {f f':σ→Option κ} (hf:∀ a,Le (f a) (f' a)):Le (fin y f) (fin y f'):=by
  cases y with
  | done s=>exact hf s
  | ret c=>exact Le.rf
theorem Le.rng {α σ ρ:Type} {f f':Nat→α→σ→Option (Ctl σ ρ)} (hf:∀ k a s,Le (f k a s) (f' k a s)):∀ {xs:List α} {k:Nat} {s:σ},Le (rng f xs k s) (rng f' xs k s)
  | [],_,_=>Le.rf
  | x :: xs,k,s=>fun r hr=>by
    simp only [Proofs.Ythomfnkaicjmbaa.rng] at hr ⊢
    cases hc:f k x s with
    | none=>rw [hc] at hr;cases hr
    | some c =>
      rw [hc] at hr
      rw [hf k x s c hc]
      cases c with
      | next s'=>exact Le.rng hf r hr
      | brk s'=>exact hr
      | ret q=>exact hr
theorem Le.rngN {σ ρ:Type} {f f':Nat→σ→Option (Ctl σ ρ)} {n:Nat} {s:σ} (hf:∀ k s,Le (f k s) (f' k s)):Le (rngN f n s) (rngN f' n s):=Le.rng fun _ k s=>hf k s
theorem Le.itr {σ ρ:Type} {f f':σ→Option (Ctl σ ρ)} (hf:∀ s,Le (f s) (f' s)):∀ (n:Nat) (s:σ),Le (itr f n s) (itr f' n s)
  | 0,_=>Le.rf
  | n + 1,s=>fun r hr=>by
    simp only [Proofs.Ythomfnkaicjmbaa.itr] at hr ⊢
    cases hc:f s with
    | none=>rw [hc] at hr;cases hr
    | some c =>
      rw [hc] at hr
      rw [hf s c hc]
      cases c with
      | next s'=>exact Le.itr hf n s' r hr
      | brk s'=>exact hr
      | ret q=>exact hr
def lopE {σ ρ:Type} (f:σ→Option (Ctl σ ρ)) (s:σ):Option (Fin σ ρ):=itr f 600 s
theorem Le.lop {σ ρ:Type} {f f':σ→Option (Ctl σ ρ)} {s:σ} (hf:∀ s,Le (f s) (f' s)):Le (lopE f s) (lop f' s):=fun r hr=>Gs.2 ⟨600,Le.itr hf 600 s r hr⟩
end
section
open Go Go.RowKit
def factB (vars:List Int) (x:Fct):Bool:=decide (0≤x.var) && (decide (0≤x.val) && (match vars[x.var.toNat]? with|some y=>decide (x.val < y)|none=>false))
theorem JO {vars:List Int} {x:Fct} (h:factB vars x=true):FactOk vars x:=by
  unfold factB at h
  simp only [Bool.and_eq_true,decide_eq_true_eq] at h
  obtain ⟨h1,h2,h3⟩:=h
  cases hv:vars[x.var.toNat]? with
  | none=>rw [hv] at h3;cases h3
  | some y=>rw [hv] at h3;exact ⟨h1,h2,y,hv,by simpa using h3⟩
def ascB:List Fct→Bool
  | x :: y :: r=>decide (x.var < y.var) && ascB (y :: r)
  | _=>true
theorem Kv:∀ {f:List Fct},ascB f=true→∀ (i:Nat) x y,f[i]?=some x→f[i + 1]?=some y→x.var < y.var
  | [],_,i,x,y,h,_=>by simp at h
  | [_],_,i,x,y,_,h=>by simp at h
  | a :: b :: r,h,i,x,y,h1,h2=>by
    simp only [ascB,Bool.and_eq_true,decide_eq_true_eq] at h
    cases i with
    | zero=>simp at h1 h2;subst h1;subst h2;exact h.1
    | succ i=>exact Kv h.2 i x y (by simpa using h1) (by simpa using h2)
def factsB (vars:List Int) (f:List Fct):Bool:=f.all (factB vars) && ascB f
theorem Ht {vars:List Int} {f:List Fct} (h:factsB vars f=true):FactsOk vars f:=by
  unfold factsB at h
  rw [Bool.and_eq_true,List.all_eq_true] at h
  exact ⟨fun i x hx=>JO (h.1 x (List.mem_of_getElem? hx)),Kv h.2⟩
def stateB:List Int→List Int→Bool
  | [],[]=>true
  | y :: vars,x :: s=>decide (0≤x) && (decide (x < y) && stateB vars s)
  | _,_=>false
theorem Hu:∀ {vars s:List Int},stateB vars s=true→StateOk vars s
  | [],[],_=>⟨rfl,fun i x y h=>by simp at h⟩
  | y :: vars,x :: s,h=>by
    simp only [stateB,Bool.and_eq_true,decide_eq_true_eq] at h
    obtain ⟨h1,h2⟩:=Hu h.2.2
    refine ⟨by simp [h1],fun i a b ha hb=>?_⟩
    cases i with
    | zero=>simp at ha hb;subst ha;subst hb;exact ⟨h.1,h.2.1⟩
    | succ i=>exact h2 i a b (by simpa using ha) (by simpa using hb)
  | [],_ :: _,h=>by simp [stateB] at h
  | _ :: _,[],h=>by simp [stateB] at h
def nameB (s:ByteArray):Bool:=decide (s.size≤256) && s.data.toList.all fun c=>decide (32≤c.toNat) && decide (c.toNat≤126)
theorem LV {s:ByteArray} (h:nameB s=true):NameOk s:=by
  unfold nameB at h
  simp only [Bool.and_eq_true,decide_eq_true_eq,List.all_eq_true] at h
  refine ⟨h.1,fun i hi=>h.2 _ ?_⟩
  show s.data[i]∈_
  simp
def opB (vars:List Int) (o:Opr):Bool:=decide (0≤o.cost) && (decide (o.cost≤1048576) && (decide (o.effs.length≤64) && (nameB o.name && (factsB vars o.pre && o.effs.all fun e=>factsB vars e.cond && factB vars ⟨e.var,e.val⟩))))
theorem Ni {vars:List Int} {o:Opr} (h:opB vars o=true):OpOk vars o:=by
  unfold opB at h
  simp only [Bool.and_eq_true,decide_eq_true_eq,List.all_eq_true] at h
  obtain ⟨h1,h2,h3,h4,h5,h6⟩:=h
  exact ⟨h1,h2,h3,LV h4,Ht h5,fun i e he=>⟨Ht (h6 e (List.mem_of_getElem? he)).1,JO (h6 e (List.mem_of_getElem? he)).2⟩⟩
def taskB (t:Tsk):Bool:=decide (t.vars.length≤64) && (decide (t.ops.length≤4096) && ((t.vars.all fun n=>decide (1≤n) && decide (n≤64)) && (stateB t.vars t.init && (factsB t.vars t.goal && t.ops.all (opB t.vars)))))
theorem LW {t:Tsk} (h:taskB t=true):TaskOk t:=by
  unfold taskB at h
  simp only [Bool.and_eq_true,decide_eq_true_eq,List.all_eq_true] at h
  obtain ⟨h1,h2,h3,h4,h5,h6⟩:=h
  exact ⟨h1,h2,fun i n hn=>h3 n (List.mem_of_getElem? hn),Hu h4,Ht h5,fun i o ho=>Ni (h6 o (List.mem_of_getElem? ho))⟩
def FV (x y:List Int):Option Bool:=some (decide (x=y))
theorem JP (x y:List Int):Le (FV x y) (EU x y):=fun r h=>by
  unfold FV at h
  unfold EU
  rw [← h]
  by_cases hx:x=y
  · rw [bof_t hx];simp [hx]
  · rw [bof_f hx];simp [hx]
def EI (f:List Fct) (s:List Int):Option Bool:=BK f s
theorem Fi (f:List Fct) (s:List Int):Le (EI f s) (BK f s):=Le.rf
def EJ (f:List Fct) (s:List Int):Option Bool:=Dq f s
theorem GT (f:List Fct) (s:List Int):Le (EJ f s) (Dq f s):=Le.rf
def Ec (x:List Int):Option (List Int):=Bp x
theorem FH (x:List Int):Le (Ec x) (Bp x):=Le.rf
end
section
open Go Go.RowKit
set_option maxRecDepth 20000
def Dk (x:List U64):Option (List U64):=BU x
theorem EK (x:List U64):Le (Dk x) (BU x):=Le.rf
def GU (t:Tsk):Option (Option Gnr×Err):=if taskB t=true then some (some ⟨t⟩,⟨0⟩) else none
theorem IG (t:Tsk):Le (GU t) (DL t):=fun r h=>by
  obtain ⟨h1,rfl⟩:=Fz h
  exact Lq (LW h1)
def CA (x:Option Gnr) (s:List Int):Option (List Int):=match x with
  | some g=>if stateB g.t.vars s=true then (if s.length≤1000000 then some (appl g.t s) else none) else none
  | none=>none
theorem ED (x:Option Gnr) (s:List Int):Le (CA x s) (BL x s):=fun r h=>by
  cases x with
  | none=>cases h
  | some g =>
    unfold CA at h
    dsimp only at h
    split at h
    · rename_i h1
      obtain ⟨h3,rfl⟩:=Fz h
      unfold BL
      rw [if_pos h3]
      show some (appS g.t s)=_
      rw [Fw (Hu h1)]
    · cases h
noncomputable def CJ (x0:List Itm):Option Int :=
  some (x0.length:Int)
theorem DD (x0:List Itm):Le (CJ x0) (Bf x0):=by
  unfold CJ Bf
  repeat' (first|apply Le.ite|apply Le.bnd|apply Le.fin|apply Le.rng|apply Le.rngN|apply Le.lop|exact Le.rf|intro _)
noncomputable def CB (x0:List Itm) (x1:Int) (x2:Int):Option Bool :=
  bnd (bnd (atI x0 x1) fun a10=>bnd (atI x0 x2) fun a24=>if a10.cost < a24.cost then (some true) else (bnd (atI x0 x1) fun a39=>bnd (atI x0 x2) fun a53=>if a39.cost=a53.cost then (bnd (atI x0 x1) fun a68=>bnd (atI x0 x2) fun a82=>if a68.order < a82.order then (some true) else (some false)) else (some false)):Option Bool) fun y6=>some y6
theorem EC (x0:List Itm) (x1:Int) (x2:Int):Le (CB x0 x1 x2) (Bh x0 x1 x2):=by
  unfold CB Bh
  repeat' (first|apply Le.ite|apply Le.bnd|apply Le.fin|apply Le.rng|apply Le.rngN|apply Le.lop|exact Le.rf|intro _)
noncomputable def CC (x0:List Itm) (x1:Int) (x2:Int):Option (List Itm) :=
  bnd (atI x0 x2) fun a4=>bnd (atI x0 x1) fun a18=>bnd (atI x0 x1) fun a32=>bnd (atI (x0.set (x1:Int).toNat a4) x2) fun a48=>some ((x0.set (x1:Int).toNat a4).set (x2:Int).toNat a18)
theorem Ds (x0:List Itm) (x1:Int) (x2:Int):Le (CC x0 x1 x2) (Be x0 x1 x2):=by
  unfold CC Be
  repeat' (first|apply Le.ite|apply Le.bnd|apply Le.fin|apply Le.rng|apply Le.rngN|apply Le.lop|exact Le.rf|intro _)
noncomputable def DE (x0:BxR 98 96 Itm) (x1:An 96 Itm):Option (BxR 98 96 Itm) :=
  bnd (appI 24 x0.l [x1.x]) fun u31=>some (⟨u31⟩:BxR 98 96 Itm)
theorem Gl (x0:BxR 98 96 Itm) (x1:An 96 Itm):Le (DE x0 x1) (Cq x0 x1):=by
  unfold DE Cq
  repeat' (first|apply Le.ite|apply Le.bnd|apply Le.fin|apply Le.rng|apply Le.rngN|apply Le.lop|exact Le.rf|intro _)
noncomputable def DQ (x0:BxR 98 96 Itm):Option ((An 96 Itm)×(BxR 98 96 Itm)) :=
  bnd (chkI ((x0.l.length:Int) - 1)) fun n13=>bnd (atI x0.l n13) fun a16=>bnd (cutI x0.l 0 n13) fun u37=>some ((⟨a16⟩:An 96 Itm),(⟨u37⟩:BxR 98 96 Itm))
theorem GF (x0:BxR 98 96 Itm):Le (DQ x0) (Cv x0):=by
  unfold DQ Cv
  repeat' (first|apply Le.ite|apply Le.bnd|apply Le.fin|apply Le.rng|apply Le.rngN|apply Le.lop|exact Le.rf|intro _)
noncomputable def DR (x0:BxR 98 96 Itm) (x1:Int):Option (BxR 98 96 Itm) :=
  bnd (lopE (ρ:=(BxR 98 96 Itm)) (fun (s5:Int×(BxR 98 96 Itm))=>bnd (chkI (s5.1 - 1)) fun n22=>bnd (quoT n22 2) fun n25=>bnd (if n25=s5.1 then (some true) else (bnd (CB s5.2.l s5.1 n25) fun q42=>if q42=true then some false else some true):Option Bool) fun y28=>if y28=true then (some (.brk (s5.1,s5.2))) else (bnd (CC s5.2.l n25 s5.1) fun q73=>some (.next (n25,(⟨q73⟩:BxR 98 96 Itm))))) (x1,x0)) fun res3=>fin res3 fun (s90:Int×(BxR 98 96 Itm))=>some s90.2
theorem GG (x0:BxR 98 96 Itm) (x1:Int):Le (DR x0 x1) (Ci x0 x1):=by
  unfold DR Ci
  repeat' (first|apply EC|apply Ds|apply Le.ite|apply Le.bnd|apply Le.fin|apply Le.rng|apply Le.rngN|apply Le.lop|exact Le.rf|intro _)
noncomputable def Dt (x0:BxR 98 96 Itm) (x1:Int) (x2:Int):Option (Bool×(BxR 98 96 Itm)) :=
  bnd (lopE (ρ:=Bool×(BxR 98 96 Itm)) (fun (s6:Int×(BxR 98 96 Itm))=>bnd (chkI (2 * s6.1)) fun n23=>bnd (chkI (n23 + 1)) fun n26=>bnd (if x2≤n26 then (some true) else (if n26 < 0 then (some true) else (some false)):Option Bool) fun y29=>if y29=true then (some (.brk (s6.1,s6.2))) else (bnd (bnd (chkI (n26 + 1)) fun n45=>bnd (if n45 < x2 then (bnd (CB s6.2.l n45 n26) fun q62=>if q62=true then some true else some false) else (some false):Option Bool) fun y48=>if y48=true then (some n45) else (some n26):Option Int) fun y40=>bnd (CB s6.2.l y40 s6.1) fun q97=>if q97=true then bnd (CC s6.2.l s6.1 y40) fun q109=>some (.next (y40,(⟨q109⟩:BxR 98 96 Itm))) else some (.brk (s6.1,s6.2)))) (x1,x0)) fun res4=>fin res4 fun (s126:Int×(BxR 98 96 Itm))=>bnd (if x1 < s126.1 then (some true) else (some false):Option Bool) fun y128=>some (y128,s126.2)
theorem FW (x0:BxR 98 96 Itm) (x1:Int) (x2:Int):Le (Dt x0 x1 x2) (BX x0 x1 x2):=by
  unfold Dt BX
  repeat' (first|apply EC|apply Ds|apply Le.ite|apply Le.bnd|apply Le.fin|apply Le.rng|apply Le.rngN|apply Le.lop|exact Le.rf|intro _)
noncomputable def Du (x0:BxR 98 96 Itm) (x1:An 96 Itm):Option (BxR 98 96 Itm) :=
  bnd (DE x0 (⟨x1.x⟩:An 96 Itm)) fun q9=>bnd (CJ q9.l) fun q26=>bnd (chkI (q26 - 1)) fun n34=>bnd (DR q9 n34) fun q42=>some q42
theorem FX (x0:BxR 98 96 Itm) (x1:An 96 Itm):Le (Du x0 x1) (BH x0 x1):=by
  unfold Du BH
  repeat' (first|apply DD|apply Gl|apply GG|apply Le.ite|apply Le.bnd|apply Le.fin|apply Le.rng|apply Le.rngN|apply Le.lop|exact Le.rf|intro _)
noncomputable def DF (x0:BxR 98 96 Itm):Option ((An 96 Itm)×(BxR 98 96 Itm)) :=
  bnd (CJ x0.l) fun q11=>bnd (chkI (q11 - 1)) fun n19=>bnd (CC x0.l 0 n19) fun q22=>bnd (Dt (⟨q22⟩:BxR 98 96 Itm) 0 n19) fun q35=>bnd (DQ q35.2) fun q44=>some ((⟨q44.1.x⟩:An 96 Itm),q44.2)
theorem Gm (x0:BxR 98 96 Itm):Le (DF x0) (BM x0):=by
  unfold DF BM
  repeat' (first|apply DD|apply GF|apply Ds|apply FW|apply Le.ite|apply Le.bnd|apply Le.fin|apply Le.rng|apply Le.rngN|apply Le.lop|exact Le.rf|intro _)
noncomputable def GH (x0:List Int):Option ((Option Pkr)×Err) :=
  if 64 < (x0.length:Int) then (some (none,(⟨5⟩:Err))) else (bnd (rng (ρ:=(Option Pkr)×Err) (fun (k25:Nat) (a26:Int) (s23:Int×Pkr)=>bnd (if a26 < 1 then (some true) else (if 64 < a26 then (some true) else (some false)):Option Bool) fun y48=>if y48=true then (some (.ret (none,(⟨1⟩:Err)))) else (bnd (lopE (ρ:=Ctl (Int×Pkr) ((Option Pkr)×Err)) (fun (s61:Int)=>bnd (shlI 1 s61) fun n76=>if n76 < a26 then (bnd (chkI (s61 + 1)) fun n80=>some (.next n80)) else (some (.brk s61))) 0) fun res59=>fin res59 fun (s87:Int)=>bnd (bnd (chkI (s23.1 + s87)) fun n95=>if 64 < n95 then (bnd (chkI (s23.2.words + 1)) fun n109=>some (0,(⟨s23.2.fields,n109⟩:Pkr))) else (some (s23.1,s23.2)):Option (Int×Pkr)) fun y89=>bnd (chkI (y89.2.words - 1)) fun n133=>bnd (appI 32 y89.2.fields [(⟨n133,y89.1,s87,a26⟩:PFd)]) fun u142=>bnd (chkI (y89.1 + s87)) fun n155=>some (.next (n155,(⟨u142,y89.2.words⟩:Pkr))))) x0 0 (0,(⟨([]:List PFd),1⟩:Pkr))) fun res21=>fin res21 fun (s167:Int×Pkr)=>some ((some s167.2),(⟨0⟩:Err)))
theorem Kb (x0:List Int):Le (GH x0) (DA x0):=by
  unfold GH DA
  repeat' (first|apply Le.ite|apply Le.bnd|apply Le.fin|apply Le.rng|apply Le.rngN|apply Le.lop|exact Le.rf|intro _)
noncomputable def Dl (x0:PFd):Option U64 :=
  bnd (shlU (1:U64) x0.width) fun n12=>bnd (shlU (n12 - (1:U64)) x0.bit) fun n14=>some n14
theorem Fg (x0:PFd):Le (Dl x0) (Cg x0):=by
  unfold Dl Cg
  repeat' (first|apply Le.ite|apply Le.bnd|apply Le.fin|apply Le.rng|apply Le.rngN|apply Le.lop|exact Le.rf|intro _)
noncomputable def Et (x0:PFd) (x1:List U64):Option Int :=
  bnd (atI x1 x0.word) fun a15=>bnd (Dl x0) fun q26=>bnd (shrU (a15 &&& q26) x0.bit) fun n33=>some n33.toInt
theorem HE (x0:PFd) (x1:List U64):Le (Et x0 x1) (Cw x0 x1):=by
  unfold Et Cw
  repeat' (first|apply Fg|apply Le.ite|apply Le.bnd|apply Le.fin|apply Le.rng|apply Le.rngN|apply Le.lop|exact Le.rf|intro _)
noncomputable def DW (x0:Pkr) (x1:List Int):Option ((List U64)×Err) :=
  if (x1.length:Int)≠(x0.fields.length:Int) then (some (([]:List U64),(⟨2⟩:Err))) else (bnd (mkI 8 ((0:U64):U64) x0.words) fun u25=>bnd (rng (ρ:=(List U64)×Err) (fun (k50:Nat) (a51:PFd) (s48:(List U64))=>bnd (bnd (x1[k50]?) fun a87=>if a87 < 0 then (some true) else (bnd (x1[k50]?) fun a98=>if a51.size≤a98 then (some true) else (some false)):Option Bool) fun y83=>if y83=true then (some (.ret (([]:List U64),(⟨2⟩:Err)))) else (bnd (atI s48 a51.word) fun a114=>bnd (x1[k50]?) fun a125=>bnd (shlU (BitVec.ofInt 64 a125) a51.bit) fun n135=>bnd (atI s48 a51.word) fun a137=>some (.next (s48.set (a51.word:Int).toNat (a114 ||| n135))))) x0.fields 0 u25) fun res46=>fin res46 fun (s154:(List U64))=>some (s154,(⟨0⟩:Err)))
theorem GZ (x0:Pkr) (x1:List Int):Le (DW x0 x1) (Bt x0 x1):=by
  unfold DW Bt
  repeat' (first|apply Le.ite|apply Le.bnd|apply Le.fin|apply Le.rng|apply Le.rngN|apply Le.lop|exact Le.rf|intro _)
noncomputable def DG (x0:Pkr) (x1:List U64):Option ((List Int)×Err) :=
  if (x1.length:Int)≠x0.words then (some (([]:List Int),(⟨2⟩:Err))) else (bnd (mkI 8 (0:Int) (x0.fields.length:Int)) fun u25=>bnd (Dk x1) fun q38=>bnd (rng (ρ:=(List Int)×Err) (fun (k60:Nat) (a61:PFd) (s58:(List Int)×(List U64))=>bnd (Et a61 x1) fun q97=>bnd (s58.1[k60]?) fun a105=>bnd ((s58.1.set k60 q97)[k60]?) fun a117=>if a61.size≤a117 then (some (.ret (([]:List Int),(⟨2⟩:Err)))) else (bnd (atI s58.2 a61.word) fun a128=>bnd (Dl a61) fun q139=>bnd (atI s58.2 a61.word) fun a146=>some (.next ((s58.1.set k60 q97),(s58.2.set (a61.word:Int).toNat (a128 &&& ~~~q139)))))) x0.fields 0 (u25,q38)) fun res56=>fin res56 fun (s163:(List Int)×(List U64))=>bnd (rng (ρ:=(List Int)×Err) (fun (k171:Nat) (a172:U64) (s169:Unit)=>bnd (s163.2[k171]?) fun a182=>if (a182.toNat:Int)≠((0:U64).toNat:Int) then (some (.ret (([]:List Int),(⟨2⟩:Err)))) else (some (.next ()))) q38 0 ()) fun res167=>fin res167 fun (s196:Unit)=>some (s163.1,(⟨0⟩:Err)))
theorem Gn (x0:Pkr) (x1:List U64):Le (DG x0 x1) (Cd x0 x1):=by
  unfold DG Cd
  repeat' (first|apply HE|apply Fg|apply EK|apply Le.ite|apply Le.bnd|apply Le.fin|apply Le.rng|apply Le.rngN|apply Le.lop|exact Le.rf|intro _)
noncomputable def DX (x0:Pkr) (x1:List U64):Option Int :=
  bnd (rng (ρ:=Int) (fun (k13:Nat) (a14:U64) (s11:U64)=>bnd (shrU ((s11 ^^^ a14) * (13787848793156543929:U64)) 29) fun n31=>some (.next (((s11 ^^^ a14) * (13787848793156543929:U64)) ^^^ n31))) x1 0 ((BitVec.ofInt 64 (x1.length:Int)) + (11400714819323198485:U64))) fun res9=>fin res9 fun (s37:U64)=>bnd (shrU s37 2) fun n39=>some n39.toInt
theorem Ha (x0:Pkr) (x1:List U64):Le (DX x0 x1) (BA x0 x1):=by
  unfold DX BA
  repeat' (first|apply Le.ite|apply Le.bnd|apply Le.fin|apply Le.rng|apply Le.rngN|apply Le.lop|exact Le.rf|intro _)
noncomputable def CF (x0:List U64) (x1:List U64):Option Bool :=
  if (x0.length:Int)≠(x1.length:Int) then (some false) else (bnd (rng (ρ:=Bool) (fun (k18:Nat) (a19:U64) (s16:Unit)=>bnd (x1[k18]?) fun a36=>if (a19.toNat:Int)≠(a36.toNat:Int) then (some (.ret false)) else (some (.next ()))) x0 0 ()) fun res14=>fin res14 fun (s50:Unit)=>some true)
theorem EL (x0:List U64) (x1:List U64):Le (CF x0 x1) (Bo x0 x1):=by
  unfold CF Bo
  repeat' (first|apply Le.ite|apply Le.bnd|apply Le.fin|apply Le.rng|apply Le.rngN|apply Le.lop|exact Le.rf|intro _)
noncomputable def ER (x0:List Int):Option ((Option Reg)×Err) :=
  bnd (GH x0) fun q4=>if q4.2.n≠0 then (some (none,(⟨q4.2.n⟩:Err))) else (bnd q4.1 fun o22=>some ((some (⟨o22,([]:List REn),(⟨[]⟩:MapR 3 Int Int)⟩:Reg)),(⟨0⟩:Err)))
theorem Iu (x0:List Int):Le (ER x0) (CK x0):=by
  unfold ER CK
  repeat' (first|apply Kb|apply Le.ite|apply Le.bnd|apply Le.fin|apply Le.rng|apply Le.rngN|apply Le.lop|exact Le.rf|intro _)
noncomputable def Da (x0:Reg) (x1:List Int):Option ((List U64)×Int×Int×Err) :=
  bnd (DW x0.packer x1) fun q20=>if q20.2.n≠0 then (some (([]:List U64),0,(-1),(⟨2⟩:Err))) else (bnd (DX x0.packer q20.1) fun q41=>bnd (rng (ρ:=(List U64)×Int×Int×Err) (fun (k66:Nat) (a67:Int) (s64:Unit)=>bnd (atI x0.entries a67) fun a100=>bnd (CF a100.words q20.1) fun q118=>if q118=true then some (.ret (q20.1,q41,a67,(⟨0⟩:Err))) else some (.next ())) (mget ([]:List Int) x0.table.l q41) 0 ()) fun res62=>fin res62 fun (s139:Unit)=>some (q20.1,q41,(-1),(⟨0⟩:Err)))
theorem Ft (x0:Reg) (x1:List Int):Le (Da x0 x1) (Bk x0 x1):=by
  unfold Da Bk
  repeat' (first|apply Ha|apply GZ|apply EL|apply Le.ite|apply Le.bnd|apply Le.fin|apply Le.rng|apply Le.rngN|apply Le.lop|exact Le.rf|intro _)
noncomputable def Cb (x0:Reg) (x1:List Int):Option (Int×Bool×Err×Reg) :=
  bnd (Da x0 x1) fun q5=>if q5.2.2.2.n≠0 then (some (0,false,(⟨q5.2.2.2.n⟩:Err),x0)) else (if 0≤q5.2.2.1 then (some (q5.2.2.1,false,(⟨0⟩:Err),x0)) else (if 65536≤(x0.entries.length:Int) then (some (0,false,(⟨10⟩:Err),x0)) else (bnd (appI 48 x0.entries [(⟨q5.1,(⟨(-1),(-1),0⟩:RLk)⟩:REn)]) fun u53=>bnd (appI 8 (mget ([]:List Int) x0.table.l q5.2.1) ([(x0.entries.length:Int)]:List Int)) fun u82=>some ((x0.entries.length:Int),true,(⟨0⟩:Err),(⟨x0.packer,u53,(⟨mput x0.table.l q5.2.1 u82⟩:MapR 3 Int Int)⟩:Reg)))))
theorem CD (x0:Reg) (x1:List Int):Le (Cb x0 x1) (AW x0 x1):=by
  unfold Cb AW
  repeat' (first|apply Ft|apply Le.ite|apply Le.bnd|apply Le.fin|apply Le.rng|apply Le.rngN|apply Le.lop|exact Le.rf|intro _)
noncomputable def By (x0:Reg):Option Int :=
  some (x0.entries.length:Int)
theorem DY (x0:Reg):Le (By x0) (AO x0):=by
  unfold By AO
  repeat' (first|apply Le.ite|apply Le.bnd|apply Le.fin|apply Le.rng|apply Le.rngN|apply Le.lop|exact Le.rf|intro _)
noncomputable def Cc (x0:Reg) (x1:Int):Option Bool :=
  bnd (if 0≤x1 then (if x1 < (x0.entries.length:Int) then (some true) else (some false)) else (some false):Option Bool) fun y3=>some y3
theorem Db (x0:Reg) (x1:Int):Le (Cc x0 x1) (Ba x0 x1):=by
  unfold Cc Ba
  repeat' (first|apply Le.ite|apply Le.bnd|apply Le.fin|apply Le.rng|apply Le.rngN|apply Le.lop|exact Le.rf|intro _)
noncomputable def Cj (x0:Reg) (x1:Int):Option ((List Int)×Err) :=
  bnd (Cc x0 x1) fun q3=>if q3=true then bnd (atI x0.entries x1) fun a27=>bnd (DG x0.packer a27.words) fun q45=>some (q45.1,(⟨q45.2.n⟩:Err)) else some (([]:List Int),(⟨1⟩:Err))
theorem CR (x0:Reg) (x1:Int):Le (Cj x0 x1) (AZ x0 x1):=by
  unfold Cj AZ
  repeat' (first|apply Gn|apply Db|apply Le.ite|apply Le.bnd|apply Le.fin|apply Le.rng|apply Le.rngN|apply Le.lop|exact Le.rf|intro _)
noncomputable def Cu (x0:Reg) (x1:Int) (x2:Int) (x3:Int) (x4:Int):Option (Err×Reg) :=
  bnd (bnd (Cc x0 x1) fun q10=>if q10=true then if x2≠(-1) then (bnd (Cc x0 x2) fun q20=>if q20=true then some false else some true) else (some false) else some true:Option Bool) fun y6=>if y6=true then (some ((⟨1⟩:Err),x0)) else (bnd (atI x0.entries x1) fun a49=>some ((⟨0⟩:Err),(⟨x0.packer,(x0.entries.set (x1:Int).toNat ({ a49 with link:=(⟨x2,x3,x4⟩:RLk) }:REn)),x0.table⟩:Reg)))
theorem Dv (x0:Reg) (x1:Int) (x2:Int) (x3:Int) (x4:Int):Le (Cu x0 x1 x2 x3 x4) (Bb x0 x1 x2 x3 x4):=by
  unfold Cu Bb
  repeat' (first|apply Db|apply Le.ite|apply Le.bnd|apply Le.fin|apply Le.rng|apply Le.rngN|apply Le.lop|exact Le.rf|intro _)
noncomputable def CU (x0:List Int):Option (List Int) :=
  bnd (chkI ((x0.length:Int) - 1)) fun n4=>bnd (lopE (ρ:=(List Int)) (fun (s9:(List Int)×Int×Int)=>if s9.2.1 < s9.2.2 then (bnd (atI s9.1 s9.2.2) fun a31=>bnd (atI s9.1 s9.2.1) fun a43=>bnd (atI s9.1 s9.2.1) fun a55=>bnd (atI (s9.1.set (s9.2.1:Int).toNat a31) s9.2.2) fun a69=>bnd (chkI (s9.2.1 + 1)) fun n83=>bnd (chkI (s9.2.2 - 1)) fun n86=>some (.next (((s9.1.set (s9.2.1:Int).toNat a31).set (s9.2.2:Int).toNat a43),n83,n86))) else (some (.brk (s9.1,s9.2.1,s9.2.2)))) (x0,0,n4)) fun res7=>fin res7 fun (s93:(List Int)×Int×Int)=>some s93.1
theorem Fj (x0:List Int):Le (CU x0) (Bq x0):=by
  unfold CU Bq
  repeat' (first|apply Le.ite|apply Le.bnd|apply Le.fin|apply Le.rng|apply Le.rngN|apply Le.lop|exact Le.rf|intro _)
noncomputable def Dc (x0:Reg) (x1:Int):Option ((List Int)×Err) :=
  bnd (Cc x0 x1) fun q3=>if q3=true then bnd (lopE (ρ:=(List Int)×Err) (fun (s14:Int×(List Int))=>bnd (atI x0.entries s14.1) fun a48=>if a48.link.parent < 0 then (bnd (CU s14.2) fun q74=>some (.ret (q74,(⟨0⟩:Err)))) else (bnd (appI 8 s14.2 [a48.link.op]) fun u89=>if (x0.entries.length:Int) < (u89.length:Int) then (some (.ret (([]:List Int),(⟨21⟩:Err)))) else (some (.next (a48.link.parent,u89))))) (x1,([]:List Int))) fun res12=>fin res12 fun (_:Int×(List Int))=>none else some (([]:List Int),(⟨1⟩:Err))
theorem Fu (x0:Reg) (x1:Int):Le (Dc x0 x1) (BD x0 x1):=by
  unfold Dc BD
  repeat' (first|apply Db|apply Fj|apply Le.ite|apply Le.bnd|apply Le.fin|apply Le.rng|apply Le.rngN|apply Le.lop|exact Le.rf|intro _)
noncomputable def BO (x0:Option Gnr) (x1:List Int):Option (List Suc) :=
  bnd (CA x0 x1) fun q7=>bnd (rng (ρ:=(List Suc)) (fun (k23:Nat) (a24:Int) (s21:(List Suc))=>bnd (Ec x1) fun q46=>bnd (x0) fun o56=>bnd (atI o56.t.ops a24) fun a88=>bnd (rng (ρ:=Ctl (List Suc) (List Suc)) (fun (k115:Nat) (a116:Eff) (s113:(List Int))=>bnd (EI a116.cond x1) fun q150=>if q150=true then bnd (atI s113 a116.var) fun a157=>some (.next (s113.set (a116.var:Int).toNat a116.val)) else some (.next s113)) a88.effs 0 q46) fun res111=>fin res111 fun (s175:(List Int))=>bnd (appI 32 s21 [(⟨a24,s175⟩:Suc)]) fun u179=>some (.next u179)) q7 0 ([]:List Suc)) fun res19=>fin res19 fun (s195:(List Suc))=>some s195
theorem Cy (x0:Option Gnr) (x1:List Int):Le (BO x0 x1) (AQ x0 x1):=by
  unfold BO AQ
  repeat' (first|apply FH|apply ED|apply Fi|apply Le.ite|apply Le.bnd|apply Le.fin|apply Le.rng|apply Le.rngN|apply Le.lop|exact Le.rf|intro _)
noncomputable def Dg (x0:Tsk):Option ((Option Spc)×Err) :=
  bnd (GU x0) fun q24=>if q24.2.n≠0 then (some (none,(⟨q24.2.n⟩:Err))) else (bnd (ER x0.vars) fun q39=>if q39.2.n≠0 then (some (none,(⟨q39.2.n⟩:Err))) else (bnd q39.1 fun o52=>bnd (Cb o52 x0.init) fun q55=>if q55.2.2.1.n≠0 then (some (none,(⟨q55.2.2.1.n⟩:Err))) else (some ((some (⟨(⟨x0.vars,x0.init,x0.goal,x0.ops⟩:Tsk),q55.2.2.2,q24.1⟩:Spc)),(⟨0⟩:Err)))))
theorem Eu (x0:Tsk):Le (Dg x0) (BN x0):=by
  unfold Dg BN
  repeat' (first|apply Iu|apply CD|apply IG|apply Le.ite|apply Le.bnd|apply Le.fin|apply Le.rng|apply Le.rngN|apply Le.lop|exact Le.rf|intro _)
noncomputable def CM (x0:Spc) (x1:Int) (x2:Int):Option (Rsl×Err) :=
  bnd (Dc x0.reg x1) fun q36=>if q36.2.n≠0 then (some ((⟨0,([]:List Int),0,0⟩:Rsl),(⟨q36.2.n⟩:Err))) else (bnd (rng (ρ:=Rsl×Err) (fun (k77:Nat) (a78:Int) (s75:Int)=>bnd (atI x0.t.ops a78) fun a125=>bnd (chkI (s75 + a125.cost)) fun n146=>some (.next n146)) q36.1 0 0) fun res73=>fin res73 fun (s160:Int)=>some ((⟨1,q36.1,s160,x2⟩:Rsl),(⟨0⟩:Err)))
theorem Ed (x0:Spc) (x1:Int) (x2:Int):Le (CM x0 x1 x2) (Bd x0 x1 x2):=by
  unfold CM Bd
  repeat' (first|apply Fu|apply Le.ite|apply Le.bnd|apply Le.fin|apply Le.rng|apply Le.rngN|apply Le.lop|exact Le.rf|intro _)
noncomputable def Co (x0:Int) (x1:Int):Option (Rsl×Err) :=
  some ((⟨x0,([]:List Int),0,x1⟩:Rsl),(⟨0⟩:Err))
theorem Fm (x0:Int) (x1:Int):Le (Co x0 x1) (AX x0 x1):=by
  unfold Co AX
  repeat' (first|apply Le.ite|apply Le.bnd|apply Le.fin|apply Le.rng|apply Le.rngN|apply Le.lop|exact Le.rf|intro _)
noncomputable def Ew (x0:Tsk) (x1:Int):Option (Rsl×Err) :=
  bnd (Dg x0) fun q30=>if q30.2.n≠0 then (some ((⟨0,([]:List Int),0,0⟩:Rsl),(⟨q30.2.n⟩:Err))) else (bnd q30.1 fun o45=>bnd (lopE (ρ:=Rsl×Err) (fun (s50:Int×Spc)=>bnd (By s50.2.reg) fun q94=>if s50.1 < q94 then (bnd (Cj s50.2.reg s50.1) fun q105=>if q105.2.n≠0 then (some (.ret ((⟨0,([]:List Int),0,0⟩:Rsl),(⟨q105.2.n⟩:Err)))) else (bnd (EI x0.goal q105.1) fun q123=>if q123=true then bnd (CM s50.2 s50.1 s50.1) fun q312=>some (.ret (q312.1,(⟨q312.2.n⟩:Err))) else if x1≤s50.1 then (bnd (Co 3 s50.1) fun q131=>some (.ret (q131.1,(⟨q131.2.n⟩:Err)))) else (bnd (BO s50.2.gen q105.1) fun q153=>bnd (rng (ρ:=Ctl (Int×Spc) (Rsl×Err)) (fun (k173:Nat) (a174:Suc) (s171:Spc)=>bnd (Cb s171.reg a174.state) fun q232=>if q232.2.2.1.n≠0 then (bnd (chkI (s50.1 + 1)) fun n249=>bnd (Co 3 n249) fun q252=>some (.ret (.ret (q252.1,(⟨q252.2.n⟩:Err))))) else (if q232.2.1=true then (bnd (Cu q232.2.2.2 q232.1 s50.1 a174.op 0) fun q275=>if q275.1.n≠0 then (some (.ret (.ret ((⟨0,([]:List Int),0,0⟩:Rsl),(⟨q275.1.n⟩:Err))))) else (some (.next (⟨(⟨s171.t.vars,s171.t.init,s171.t.goal,s171.t.ops⟩:Tsk),q275.2,s171.gen⟩:Spc)))) else (some (.next (⟨(⟨s171.t.vars,s171.t.init,s171.t.goal,s171.t.ops⟩:Tsk),q232.2.2.2,s171.gen⟩:Spc))))) q153 0 s50.2) fun res169=>fin res169 fun (s302:Spc)=>bnd (chkI (s50.1 + 1)) fun n304=>some (.next (n304,s302))))) else (some (.brk (s50.1,s50.2)))) (0,o45)) fun res48=>fin res48 fun (s344:Int×Spc)=>bnd (By s344.2.reg) fun q373=>bnd (Co 2 q373) fun q383=>some (q383.1,(⟨q383.2.n⟩:Err)))
theorem HF (x0:Tsk) (x1:Int):Le (Ew x0 x1) (Ce x0 x1):=by
  unfold Ew Ce
  repeat' (first|apply Eu|apply Fm|apply Ed|apply CD|apply DY|apply Dv|apply CR|apply Cy|apply Fi|apply Le.ite|apply Le.bnd|apply Le.fin|apply Le.rng|apply Le.rngN|apply Le.lop|exact Le.rf|intro _)
noncomputable def Eg (x0:Tsk) (x1:Int):Option (Rsl×Err) :=
  bnd (Dg x0) fun q30=>if q30.2.n≠0 then (some ((⟨0,([]:List Int),0,0⟩:Rsl),(⟨q30.2.n⟩:Err))) else (bnd q30.1 fun o68=>bnd (lopE (ρ:=Rsl×Err) (fun (s78:(List Int)×(List Bool)×Int×Int×Spc×(BxR 98 96 Itm))=>bnd (CJ s78.2.2.2.2.2.l) fun q116=>if 0 < q116 then (bnd (DF s78.2.2.2.2.2) fun q130=>bnd (atI s78.2.1 q130.1.x.id) fun a152=>if a152=true then (some (.next (s78.1,s78.2.1,s78.2.2.1,s78.2.2.2.1,s78.2.2.2.2.1,q130.2))) else (bnd (Cj s78.2.2.2.2.1.reg q130.1.x.id) fun q191=>if q191.2.n≠0 then (some (.ret ((⟨0,([]:List Int),0,0⟩:Rsl),(⟨q191.2.n⟩:Err)))) else (bnd (EI x0.goal q191.1) fun q209=>if q209=true then bnd (CM s78.2.2.2.2.1 q130.1.x.id s78.2.2.2.1) fun q581=>some (.ret (q581.1,(⟨q581.2.n⟩:Err))) else if x1≤s78.2.2.2.1 then (bnd (Co 3 s78.2.2.2.1) fun q217=>some (.ret (q217.1,(⟨q217.2.n⟩:Err)))) else (bnd (atI s78.2.1 q130.1.x.id) fun a239=>bnd (chkI (s78.2.2.2.1 + 1)) fun n252=>bnd (BO s78.2.2.2.2.1.gen q191.1) fun q255=>bnd (rng (ρ:=Ctl ((List Int)×(List Bool)×Int×Int×Spc×(BxR 98 96 Itm)) (Rsl×Err)) (fun (k275:Nat) (a276:Suc) (s273:(List Int)×(List Bool)×Int×Spc×(BxR 98 96 Itm))=>bnd (Cb s273.2.2.2.1.reg a276.state) fun q346=>if q346.2.2.1.n≠0 then (bnd (Co 3 n252) fun q363=>some (.ret (.ret (q363.1,(⟨q363.2.n⟩:Err))))) else (bnd (atI x0.ops a276.op) fun a385=>bnd (chkI (q130.1.x.cost + a385.cost)) fun n406=>bnd (if q346.2.1=true then (bnd (appI 8 s273.1 [n406]) fun u418=>bnd (appI 1 s273.2.1 [false]) fun u430=>some (.done (u418,u430))) else (bnd (bnd (atI s273.2.1 q346.1) fun a451=>if a451=true then (some true) else (bnd (atI s273.1 q346.1) fun a468=>if a468≤n406 then (some true) else (some false)):Option Bool) fun y447=>if y447=true then (some (.ret (.next (s273.1,s273.2.1,s273.2.2.1,(⟨(⟨s273.2.2.2.1.t.vars,s273.2.2.2.1.t.init,s273.2.2.2.1.t.goal,s273.2.2.2.1.t.ops⟩:Tsk),q346.2.2.2,s273.2.2.2.1.gen⟩:Spc),s273.2.2.2.2)))) else (some (.done (s273.1,s273.2.1)))):Option (Fin ((List Int)×(List Bool)) (Ctl ((List Int)×(List Bool)×Int×Spc×(BxR 98 96 Itm)) (Ctl ((List Int)×(List Bool)×Int×Int×Spc×(BxR 98 96 Itm)) (Rsl×Err))))) fun y409=>fin y409 fun (s411:(List Int)×(List Bool))=>bnd (atI s411.1 q346.1) fun a500=>bnd (Cu ((⟨(⟨s273.2.2.2.1.t.vars,s273.2.2.2.1.t.init,s273.2.2.2.1.t.goal,s273.2.2.2.1.t.ops⟩:Tsk),q346.2.2.2,s273.2.2.2.1.gen⟩:Spc).reg) q346.1 q130.1.x.id a276.op n406) fun q541=>if q541.1.n≠0 then (some (.ret (.ret ((⟨0,([]:List Int),0,0⟩:Rsl),(⟨q541.1.n⟩:Err))))) else (bnd (Du s273.2.2.2.2 (⟨(⟨n406,s273.2.2.1,q346.1⟩:Itm)⟩:An 96 Itm)) fun q554=>bnd (chkI (s273.2.2.1 + 1)) fun n562=>some (.next ((s411.1.set (q346.1:Int).toNat n406),s411.2,n562,(⟨(⟨(⟨(⟨s273.2.2.2.1.t.vars,s273.2.2.2.1.t.init,s273.2.2.2.1.t.goal,s273.2.2.2.1.t.ops⟩:Tsk),q346.2.2.2,s273.2.2.2.1.gen⟩:Spc).t.vars,(⟨(⟨s273.2.2.2.1.t.vars,s273.2.2.2.1.t.init,s273.2.2.2.1.t.goal,s273.2.2.2.1.t.ops⟩:Tsk),q346.2.2.2,s273.2.2.2.1.gen⟩:Spc).t.init,(⟨(⟨s273.2.2.2.1.t.vars,s273.2.2.2.1.t.init,s273.2.2.2.1.t.goal,s273.2.2.2.1.t.ops⟩:Tsk),q346.2.2.2,s273.2.2.2.1.gen⟩:Spc).t.goal,(⟨(⟨s273.2.2.2.1.t.vars,s273.2.2.2.1.t.init,s273.2.2.2.1.t.goal,s273.2.2.2.1.t.ops⟩:Tsk),q346.2.2.2,s273.2.2.2.1.gen⟩:Spc).t.ops⟩:Tsk),q541.2,(⟨(⟨s273.2.2.2.1.t.vars,s273.2.2.2.1.t.init,s273.2.2.2.1.t.goal,s273.2.2.2.1.t.ops⟩:Tsk),q346.2.2.2,s273.2.2.2.1.gen⟩:Spc).gen⟩:Spc),q554))))) q255 0 (s78.1,(s78.2.1.set (q130.1.x.id:Int).toNat true),s78.2.2.1,s78.2.2.2.2.1,q130.2)) fun res271=>fin res271 fun (s574:(List Int)×(List Bool)×Int×Spc×(BxR 98 96 Itm))=>some (.next (s574.1,s574.2.1,s574.2.2.1,n252,s574.2.2.2.1,s574.2.2.2.2)))))) else (some (.brk (s78.1,s78.2.1,s78.2.2.1,s78.2.2.2.1,s78.2.2.2.2.1,s78.2.2.2.2.2)))) (([0]:List Int),[false],1,0,o68,(⟨[(⟨0,0,0⟩:Itm)]⟩:BxR 98 96 Itm))) fun res76=>fin res76 fun (s613:(List Int)×(List Bool)×Int×Int×Spc×(BxR 98 96 Itm))=>bnd (Co 2 s613.2.2.2.1) fun q615=>some (q615.1,(⟨q615.2.n⟩:Err)))
theorem Hv (x0:Tsk) (x1:Int):Le (Eg x0 x1) (Bl x0 x1):=by
  unfold Eg Bl
  repeat' (first|apply Eu|apply Fm|apply DD|apply Ed|apply Gm|apply FX|apply CD|apply Dv|apply CR|apply Cy|apply Fi|apply Le.ite|apply Le.bnd|apply Le.fin|apply Le.rng|apply Le.rngN|apply Le.lop|exact Le.rf|intro _)
noncomputable def DS (x0:Tsk) (x1:Int):Option (Int×Err) :=
  bnd (Dg x0) fun q25=>if q25.2.n≠0 then (some (0,(⟨q25.2.n⟩:Err))) else (bnd q25.1 fun o38=>bnd (lopE (ρ:=Int×Err) (fun (s43:Int×Spc)=>bnd (By s43.2.reg) fun q87=>if s43.1 < q87 then (bnd (By s43.2.reg) fun q98=>if x1 < q98 then (some (.ret (0,(⟨10⟩:Err)))) else (bnd (Cj s43.2.reg s43.1) fun q109=>if q109.2.n≠0 then (some (.ret (0,(⟨q109.2.n⟩:Err)))) else (bnd (BO s43.2.gen q109.1) fun q125=>bnd (rng (ρ:=Ctl (Int×Spc) (Int×Err)) (fun (k145:Nat) (a146:Suc) (s143:Spc)=>bnd (Cb s143.reg a146.state) fun q204=>if q204.2.2.1.n≠0 then (some (.ret (.ret (0,(⟨10⟩:Err))))) else (some (.next (⟨(⟨s143.t.vars,s143.t.init,s143.t.goal,s143.t.ops⟩:Tsk),q204.2.2.2,s143.gen⟩:Spc)))) q125 0 s43.2) fun res141=>fin res141 fun (s230:Spc)=>bnd (chkI (s43.1 + 1)) fun n232=>some (.next (n232,s230))))) else (some (.brk (s43.1,s43.2)))) (0,o38)) fun res41=>fin res41 fun (s244:Int×Spc)=>bnd (By s244.2.reg) fun q273=>if x1 < q273 then (some (0,(⟨10⟩:Err))) else (bnd (By s244.2.reg) fun q284=>some (q284,(⟨0⟩:Err))))
theorem GI (x0:Tsk) (x1:Int):Le (DS x0 x1) (CI x0 x1):=by
  unfold DS CI
  repeat' (first|apply Eu|apply CD|apply DY|apply CR|apply Cy|apply Le.ite|apply Le.bnd|apply Le.fin|apply Le.rng|apply Le.rngN|apply Le.lop|exact Le.rf|intro _)
noncomputable def FI (x0:Tsk) (x1:List Int) (x2:Int):Option ((List Int)×Bool) :=
  bnd (if x2 < 0 then (some true) else (if (x0.ops.length:Int)≤x2 then (some true) else (bnd (atI x0.ops x2) fun a36=>bnd (EJ a36.pre x1) fun q57=>if q57=true then some false else some true)):Option Bool) fun y28=>if y28=true then (some (([]:List Int),false)) else (bnd (appI 8 ([]:List Int) x1) fun u75=>bnd (atI x0.ops x2) fun a86=>bnd (rng (ρ:=(List Int)×Bool) (fun (k113:Nat) (a114:Eff) (s111:(List Int))=>bnd (EJ a114.cond x1) fun q148=>if q148=true then bnd (atI s111 a114.var) fun a155=>some (.next (s111.set (a114.var:Int).toNat a114.val)) else some (.next s111)) a86.effs 0 u75) fun res109=>fin res109 fun (s173:(List Int))=>some (s173,true))
theorem Jc (x0:Tsk) (x1:List Int) (x2:Int):Le (FI x0 x1 x2) (DU x0 x1 x2):=by
  unfold FI DU
  repeat' (first|apply GT|apply Le.ite|apply Le.bnd|apply Le.fin|apply Le.rng|apply Le.rngN|apply Le.lop|exact Le.rf|intro _)
noncomputable def FY (x0:Tsk) (x1:List Int) (x2:List Int):Option (Int×Bool) :=
  bnd (rng (ρ:=Int×Bool) (fun (k36:Nat) (a37:Int) (s34:(List Int)×Int)=>bnd (FI x0 s34.1 a37) fun q59=>if (!q59.2)=true then (some (.ret (0,false))) else (bnd (atI x0.ops a37) fun a73=>bnd (chkI (s34.2 + a73.cost)) fun n94=>some (.next (q59.1,n94)))) x2 0 (x1,0)) fun res32=>fin res32 fun (s101:(List Int)×Int)=>bnd (bnd (EJ x0.goal s101.1) fun q107=>if q107=true then some true else some false:Option Bool) fun y103=>some (s101.2,y103)
theorem JQ (x0:Tsk) (x1:List Int) (x2:List Int):Le (FY x0 x1 x2) (Em x0 x1 x2):=by
  unfold FY Em
  repeat' (first|apply Jc|apply GT|apply Le.ite|apply Le.bnd|apply Le.fin|apply Le.rng|apply Le.rngN|apply Le.lop|exact Le.rf|intro _)
noncomputable def Fk (x0:Tsk) (x1:Rsl) (x2:Int):Option Bool :=
  if 1125899906842624≤x2 then (bnd (if x1.verdict=2 then (if (x1.plan.length:Int)=0 then (if x1.cost=0 then (some true) else (some false)) else (some false)) else (some false):Option Bool) fun y40=>some y40) else (bnd (FY x0 x0.init x1.plan) fun q53=>bnd (if x1.verdict=1 then (if q53.2=true then (if q53.1=x2 then (if x1.cost=x2 then (some true) else (some false)) else (some false)) else (some false)) else (some false):Option Bool) fun y65=>some y65)
theorem IH (x0:Tsk) (x1:Rsl) (x2:Int):Le (Fk x0 x1 x2) (DK x0 x1 x2):=by
  unfold Fk DK
  repeat' (first|apply JQ|apply Le.ite|apply Le.bnd|apply Le.fin|apply Le.rng|apply Le.rngN|apply Le.lop|exact Le.rf|intro _)
noncomputable def Dh:Option Tsk:=Ct
theorem HW:Le Dh Ct:=Le.rf
noncomputable def GV  : Option Bool :=
  bnd (Dh) fun q1=>bnd (Ew q1 100) fun q25=>bnd (Dh) fun q52=>bnd (Eg q52 100) fun q76=>bnd (Dh) fun q103=>bnd (DS q103 100) fun q127=>bnd (if q25.2.n=0 then (if q76.2.n=0 then (if q127.2.n=0 then (bnd (FV q25.1.plan ([3]:List Int)) fun q153=>if q153=true then if q25.1.cost=5 then (if q25.1.expanded=2 then (bnd (Dh) fun q162=>bnd (Fk q162 q76.1 3) fun q186=>if q186=true then if q127.1=4 then (some true) else (some false) else some false) else (some false)) else (some false) else some false) else (some false)) else (some false)) else (some false):Option Bool) fun y140=>some y140
theorem II  : Le (GV ) (CQ ):=by
  unfold GV CQ
  repeat' (first|apply JP|apply IH|apply GI|apply HF|apply Hv|apply HW|apply Le.ite|apply Le.bnd|apply Le.fin|apply Le.rng|apply Le.rngN|apply Le.lop|exact Le.rf|intro _)
set_option maxRecDepth 100000 in
theorem awake48:CQ=some true:=II true (by kernel_rfl)
end
section
open Go Go.RowKit
def costO (c:Int) (o:Opr):Opr:=⟨o.name,c,o.pre,o.effs⟩
def costT (c:Int) (t:Tsk):Tsk:=⟨t.vars,t.init,t.goal,t.ops.map (costO c)⟩
theorem Hw {c:Int} {t:Tsk} {k:Nat} {o:Opr} (h:(costT c t).ops[k]?=some o):∃ o',t.ops[k]?=some o'∧o=costO c o':=by
  have h':(t.ops.map (costO c))[k]?=some o:=h
  rw [List.getElem?_map] at h'
  obtain ⟨o',h1,h2⟩:=Option.map_eq_some_iff.1 h'
  exact ⟨o',h1,h2.symm⟩
theorem Kc {c:Int} {t:Tsk} (h:SmallOk t) (h0:0≤c) (hc:c≤1048576):SmallOk (costT c t):=by
  obtain ⟨h1,h2,h3,h4,h5⟩:=h
  refine ⟨h1,by show (t.ops.map (costO c)).length≤_;rw [List.length_map];exact h2,fun i o ho=>?_,⟨h4.1,by show (t.ops.map (costO c)).length≤_;rw [List.length_map];exact h4.2.1,h4.2.2.1,h4.2.2.2.1,h4.2.2.2.2.1,fun i o ho=>?_⟩,h5⟩
  · obtain ⟨o',h6,rfl⟩:=Hw ho
    exact h3 i o' h6
  · obtain ⟨o',h6,rfl⟩:=Hw ho
    exact ⟨h0,hc,(h4.2.2.2.2.2 i o' h6).2.2⟩
theorem Iv {c:Int} {t:Tsk} {s p s':List Int} {C:Int} (h:PlanR (costT c t) s p s' C):C=c * (p.length:Int):=by
  induction h with
  | nil=>simp
  | cons ho _ _ ih =>
    obtain ⟨o',_,rfl⟩:=Hw ho
    rw [ih,List.length_cons]
    show c + c * _=c * _
    rw [Int.natCast_add,Int.mul_add]
    simp [Int.add_comm]
theorem Mw {t:Tsk} (h:TaskOk t) {s:List Int} (hs:StateOk t.vars s) {k:Nat} {o:Opr} (ho:t.ops[k]?=some o) (hp:holdsB o.pre s=true):CY t s (k:Int)=some (succ o s,⟨0⟩):=by
  have hkl:=AJ ho
  unfold CY
  rw [if_neg (by omega),if_neg (by omega),AC,if_f]
  unfold DJ
  rw [AC,bof_t hs,if_t,BC,ho,AC,DV,AC]
  have hc:Bp s=some s:=if_pos ⟨by have:=hs.1;have:=h.1;omega,by have:=hs.1;have:=h.1;omega⟩
  rw [if_pos hp,hc,AC,AC,Jw (h.effs hs k o ho) BK DV s rfl,AC,fin_d]
  rfl
theorem Nj {t:Tsk} (h:TaskOk t) {s p s':List Int} {C:Int} (hr:PlanR t s p s' C):∀ (j:Nat) (c:Int),StateOk t.vars s→0≤c→c + p.length * 1048576≤1000000000000000 →
    rng (ρ:=(List Int)×Int×Err) (fun (_:Nat) (a66:Int) (s63:(List Int)×Int)=>bnd (CY t s63.1 a66) fun q90=>if q90.2.n≠0 then (some (.ret (([]:List Int),0,(⟨q90.2.n⟩:Err)))) else (bnd (atI t.ops a66) fun a105=>bnd (chkI (s63.2 + a105.cost)) fun n126=>some (.next (q90.1,n126)))) p j (s,c)=some (.done (s',c + C)):=by
  induction hr with
  | nil=>intro j c _ _ _;simp [rng]
  | @cons s rest s' k o C ho hp hr ih =>
    intro j c hs hc hb
    simp only [List.length_cons] at hb
    have hoo:=h.2.2.2.2.2 k o ho
    have h1:=hoo.1
    have h2:=hoo.2.1
    have e2:(bnd (CY t s (k:Int)) fun q90=>if q90.2.n≠0 then (some (.ret (([]:List Int),0,(⟨q90.2.n⟩:Err)))) else (bnd (atI t.ops (k:Int)) fun a105=>bnd (chkI (c + a105.cost)) fun n126=>some (.next (q90.1,n126))):Option (Ctl (List Int×Int) (List Int×Int×Err)))=some (.next (succ o s,c + o.cost)):=by
      rw [Mw h hs ho hp,AC,if_neg (by simp),BC,ho,AC,BT (by unfold inI64;omega),AC]
    simp only [rng,e2]
    rw [ih (j + 1) (c + o.cost) (HB h hs ho) (by omega) (by omega),Int.add_assoc]
theorem IZ {t:Tsk} (h:TaskOk t) {p s:List Int} {C:Int} (hp:PlanR t t.init p s C) (hg:holdsB t.goal s=true) (hl:p.length≤1000):CE t p=some (C,⟨0⟩):=by
  unfold CE Fs FD DJ
  have hs:=h.2.2.2.1
  have hc:Bp t.init=some t.init:=if_pos ⟨by have:=hs.1;have:=h.1;omega,by have:=hs.1;have:=h.1;omega⟩
  rw [AC,if_neg (by rw [FA.2 h];simp),AC,bof_t hs,if_t,if_neg (by omega),hc,AC,Nj h hp 0 0 hs (by omega) (by omega),AC,fin_d,AC,if_neg (by simp),DV,AC]
  dsimp only
  rw [if_pos hg,Int.zero_add]
theorem LX {t t':Tsk} (hg:t'.goal=t.goal) (ho:∀ o∈t'.ops,o∈t.ops) {s:List Int} {C:Int} (h:Walk t' s C):Walk t s C:=by
  induction h with
  | goal h=>exact .goal (by rw [← hg];exact h)
  | step h1 h2 _ ih =>
    obtain ⟨k,hk⟩:=List.getElem?_of_mem (ho _ (List.mem_of_getElem? h1))
    exact .step hk h2 ih
theorem Lw {t t':Tsk} (h:SmallOk t) (hv:t'.vars=t.vars) (hi:t'.init=t.init) (hg:t'.goal=t.goal) (ho:∀ o∈t'.ops,o∈t.ops) (hl:t'.ops.length≤t.ops.length):SmallOk t':=by
  obtain ⟨h1,h2,h3,h4,h5⟩:=h
  have get:∀ (i:Nat) o,t'.ops[i]?=some o→∃ k:Nat,t.ops[k]?=some o:=fun i o hio=>List.getElem?_of_mem (ho o (List.mem_of_getElem? hio))
  obtain ⟨v,i,g,os⟩:=t'
  dsimp only at hv hi hg hl get
  subst hv;subst hi;subst hg
  exact ⟨h1,Nat.le_trans hl h2,fun i o hio=>by obtain ⟨k,hk⟩:=get i o hio;exact h3 k o hk,⟨h4.1,Nat.le_trans hl h4.2.1,h4.2.2.1,h4.2.2.2.1,h4.2.2.2.2.1,fun i o hio=>by obtain ⟨k,hk⟩:=get i o hio;exact h4.2.2.2.2.2 k o hk⟩,h5⟩
theorem KL (t:Tsk) (x:Byt):CP t x=some true:=by
  unfold CP FC
  rw [AC,awake48,AC,if_t]
  by_cases hs:SmallOk t
  case neg=>rw [bof_f hs,if_f,AC,if_t,AC,if_t,AC]
  rw [bof_t hs,if_t,AC,if_f]
  have hx0:0≤x.n∧x.n≤255:=⟨x.lo,by have:=x.hi;omega⟩
  have hops:t.ops.length≤20:=hs.2.1
  have hS:=Kc hs hx0.1 (c:=x.n) (by omega)
  have hok:=hS.ok
  have l1:rng (ρ:=Bool) (fun (_:Nat) (a79:Opr) (s76:(List Opr))=>bnd (appI 72 s76 [(⟨a79.name,x.n,a79.pre,a79.effs⟩:Opr)]) fun u119=>some (.next u119)) t.ops 0 ([]:List Opr)=some (.done (t.ops.map (costO x.n))):=by
    rw [HS (fun k=>(t.ops.take k).map (costO x.n)) (by simp) (fun k o ho=>?_),List.take_length]
    have:=AJ ho
    rw [DM (by simp;omega) (by simp;omega),AC,List.take_add_one,ho,List.map_append]
    rfl
  rw [l1,AC,fin_d]
  change (bnd (Ce (costT x.n t) 512) _)=_
  obtain ⟨a,a1,a2⟩:=KJ hS 512
  have ares:=Mr hS a2 (IF _) (fun j s hj=>by omega)
  obtain ⟨b,b1,b2,_⟩:=Is hS 512
  have bv:=It hS b2 (by omega)
  obtain ⟨_,_,M,_,_,_,bres⟩:=b2
  have b1':Bl (⟨t.vars,t.init,t.goal,t.ops.map (costO x.n)⟩:Tsk) 512=some (b,⟨0⟩):=b1
  rw [a1,AC,b1',AC,if_neg (by simp),if_neg (by simp)]
  dsimp only
  rcases ares with ⟨v1,v2,v3,v4⟩|⟨v1,v2,⟨g,v3,v4⟩,v5⟩|⟨_,_,_,v4⟩
  · rcases bres with ⟨w1,_,⟨s',w3,w4⟩,_⟩|⟨w1,w2,w3,w4,_⟩|⟨w1,_⟩
    · have:=v4 _ _ _ w3;rw [w4] at this;cases this
    · rw [if_neg (by omega),if_neg (by omega),if_neg (by omega),AC,if_f,if_pos v1]
    · exact absurd w1 bv
  · rcases bres with ⟨w1,w2,⟨s',w3,w4⟩,w5,_⟩|⟨w1,w2,w3,w4,_⟩|⟨w1,_⟩
    · have ha := Iv v3
      have hb:=Iv w3
      have hle:a.plan.length≤b.plan.length:=by
        rcases v5 _ _ _ w3 w4 with e|e|⟨e,_⟩
        · rw [e];exact Nat.le_refl _
        · omega
        · omega
      have hc1:a.cost≤b.cost:=by
        rw [ha,hb];exact Int.mul_le_mul_of_nonneg_left (by omega) hx0.1
      have hc2:b.cost≤a.cost:=w5 _ (v3.walk v4)
      have hbd:0≤x.n * (a.plan.length:Int)∧x.n * (a.plan.length:Int)≤255 * 512:=⟨Int.mul_nonneg hx0.1 (by omega),Int.mul_le_mul hx0.2 (by omega) (by omega) (by omega)⟩
      have sa:=IZ hok v3 v4 (by omega)
      have sb:=IZ hok w3 w4 (by omega)
      have sa':CE (⟨t.vars,t.init,t.goal,t.ops.map (costO x.n)⟩:Tsk) a.plan=some (a.cost,⟨0⟩):=sa
      have sb':CE (⟨t.vars,t.init,t.goal,t.ops.map (costO x.n)⟩:Tsk) b.plan=some (b.cost,⟨0⟩):=sb
      rw [if_neg (by omega),if_neg (by omega),if_neg (by omega),AC,if_f,if_neg (by omega),sa',AC,sb',AC,if_neg (by simp),if_neg (by simp),if_neg (by simp),if_neg (by simp),BT (by unfold inI64;omega),AC,if_neg (by omega),AC,if_f]
      have fin2:∃ r,(bnd (rng (ρ:=Bool) (fun (k270:Nat) (a271:Opr) (s268:(List Opr))=>bnd (rng (ρ:=Ctl (List Opr) Bool) (fun (_:Nat) (a316:Int) (s313:Bool)=>if s313=true then (some (.next true)) else (if a316=(k270:Int) then (some (.next true)) else (some (.next false)))) b.plan 0 false) fun res311=>fin res311 fun (s340:Bool)=>if (!s340)=true then (bnd (appI 72 s268 [a271]) fun u343=>some (.next u343)) else (some (.next s268))) (t.ops.map (costO x.n)) 0 ([]:List Opr)) fun res266=>fin res266 fun (s361:(List Opr))=>bnd (Bl (⟨t.vars,t.init,t.goal,s361⟩:Tsk) 512) fun q365=>bnd (if q365.2.n=0 then (if q365.1.verdict=2 then (some true) else (if q365.1.verdict=1 then (if b.cost≤q365.1.cost then (some true) else (some false)) else (some false))) else (some false):Option Bool) fun y392=>some y392)=some r∧r=true:=by
        refine Gg (fun k s=>(∀ o∈s,o∈(costT x.n t).ops)∧s.length≤k) (fun _=>False) ⟨by simp,by simp⟩ (fun k o s hk hI=>?_) (fun s hI=>?_) (fun q hq=>hq.elim)
        · obtain ⟨u,u1,_⟩:=Gf (ρ:=Ctl (List Opr) Bool) (f:=fun (_:Nat) (a316:Int) (s313:Bool)=>if s313=true then (some (.next true)) else (if a316=(k:Int) then (some (.next true)) else (some (.next false)))) (xs:=b.plan) (s₀:=false) (fun _ _=>True) trivial (fun i y z _ _=>by
            by_cases h1:z=true
            · exact ⟨true,by rw [if_pos h1],trivial⟩
            · by_cases h2:y=(k:Int)
              · exact ⟨true,by rw [if_neg h1,if_pos h2],trivial⟩
              · exact ⟨false,by rw [if_neg h1,if_neg h2],trivial⟩)
          have hkl:=AJ hk
          rw [List.length_map] at hkl
          rw [u1,AC,fin_d]
          left
          by_cases h1:(!u)=true
          · rw [if_pos h1,DM (by simp;omega) (by simp;omega),AC]
            refine ⟨_,rfl,fun o' ho'=>?_,by simp;omega⟩
            rcases List.mem_append.1 ho' with ho'|ho'
            · exact hI.1 o' ho'
            · have:o'=o:=by simpa using ho'
              subst this
              exact List.mem_of_getElem? hk
          · rw [if_neg h1]
            exact ⟨_,rfl,hI.1,by omega⟩
        · rw [fin_d]
          have hL:SmallOk (⟨t.vars,t.init,t.goal,s⟩:Tsk):=Lw hS rfl rfl rfl hI.1 (by have:=hI.2;exact this)
          obtain ⟨c,c1,c2,_⟩:=Is hL 512
          have cv:=It hL c2 (by omega)
          obtain ⟨_,_,M',_,_,_,cres⟩:=c2
          rw [c1,AC,if_pos (by simp)]
          dsimp only
          rcases cres with ⟨z1,z2,⟨s2,z3,z4⟩,z5,_⟩|⟨z1,_⟩|⟨z1,_⟩
          · have hwc:b.cost≤c.cost:=w5 _ (LX (t:=costT x.n t) (t':=⟨t.vars,t.init,t.goal,s⟩) rfl hI.1 (z3.walk z4))
            rw [if_neg (by omega),if_pos z1,if_pos hwc,AC]
            exact ⟨_,rfl,rfl⟩
          · rw [if_pos z1,AC]
            exact ⟨_,rfl,rfl⟩
          · exact absurd z1 cv
      obtain ⟨r,h3,rfl⟩:=fin2
      exact h3
    · exact absurd (v3.walk v4) (w4 _)
    · exact absurd w1 bv
  · omega
end
section
open Go Go.RowKit Go.ChangeShapes Go.WideShapes Go.Deep
theorem lawBAgrees {w:World} {v0:Value} {a0:Tsk} (h0:V w v0 a0) {v1:Value} {a1:Byt} (h1:V w v1 a1):Fn Try.prog 10 [v0,v1] w fun v w'=>v=.bool true∧Ext w w':=by
  obtain rfl:=Vb.byte h1
  exact (Gk (fun _ h=>h) h0 (KL a0 a1)).mono fun _ _ h=>⟨h.2.bool,h.1⟩
set_option maxRecDepth 100000 in
theorem GJ (os:Os) (started:os.Started) (H:Type) (enc:TypeId×Value→H) :
    ReturnsInHanded {} Try.checked os 10 .any (Rows.breadthAgreesSpec.pre6 enc Try.prog Try.f10 Rows.breadthAgreesRow.domain false) (Rows.breadthAgreesSpec.post enc Try.prog Try.f10 false true false false):=by
  refine returnsInHanded_of_change (C:=Try.checked) ownTry started (by kernel_rfl) Try.func10 (ChangeSpec.witness6 (enc:=enc) (C:=Try.checked) false ⟨#[],#[(.agg #[.slice none 0 0,.slice none 0 0,.slice none 0 0,.slice none 0 0]),(.int .u8 0)],[]⟩ 8 (by kernel_rfl) (by kernel_rfl) (by kernel_rfl) (by kernel_rfl)) ?_
  intro W base args ds gs before hval hW _ _
  have hopen:∀ p,DataW.TrodAll enc Try.prog W 0 (fun _=>true) true Try.f10.params.toList args.toList ds p→∃ v0 v1 d0 d1,args=#[v0,v1]∧ds=[d0,d1]∧(∃ a:Tsk,V W v0 a)∧(∃ a:Byt,V W v1 a):=by
    intro p hA
    rw [Try.params10] at hA
    replace hval:∀ (j:Nat) t v,(#[26,5]:Array TypeId)[j]?=some t→args[j]?=some v→Value.okWide Try.prog W .any base t v:=by rw [← Try.params10];exact hval
    obtain ⟨v0,vs0,d0,ds0,p0,q0,g0,e0,_,h0,r0⟩:=trodAll_cons hA
    obtain ⟨v1,vs1,d1,ds1,p1,q1,g1,e1,_,h1,r1⟩:=trodAll_cons r0
    obtain ⟨g,e,_⟩:=trodAll_nil r1
    rw [g] at g1;rw [e] at e1
    rw [g1] at g0;rw [e1] at e0
    obtain rfl:args=#[v0,v1]:=by cases args;simp_all
    exact ⟨v0,v1,d0,d1,rfl,e0,(by first|exact openAgg rfl (hval 0 26 v0 rfl rfl) h0|exact openOne rfl (hval 0 26 v0 rfl rfl) h0),(by first|exact openAgg rfl (hval 1 5 v1 rfl rfl) h1|exact openOne rfl (hval 1 5 v1 rfl rfl) h1)⟩
  refine lawPost rfl (by kernel_rfl) (by rw [Try.params10];exact of_decide_eq_true (by kernel_rfl)) hW ?_ ?_
  · intro p hA
    obtain ⟨v0,v1,d0,d1,_,rfl,_⟩:=hopen p hA
    rfl
  · intro p hA
    obtain ⟨v0,v1,d0,d1,rfl,_,⟨a0,h0⟩,⟨a1,h1⟩⟩:=hopen p hA
    exact lawBAgrees h0 h1
theorem breadthAgrees_holds:Rows.BreadthAgreesSaid :=
  OpenClaim.holds_of_wide 10 Try.f10 rfl rfl rfl rfl rfl rfl rfl ⟨rfl,rfl,rfl,rfl,rfl⟩ rfl rfl rfl rfl rfl (by kernel_rfl) Try.func10 (by kernel_rfl)
    (of_decide_eq_true (by kernel_rfl)) (by unfold Func.isWrapper;first|(rw [if_pos (by decide +kernel)];kernel_rfl)|(rw [if_neg (by decide +kernel)];exact ⟨rfl,rfl⟩))
    (fun os started H enc _=>GJ os started H enc)
#print axioms breadthAgrees_holds
end
end Go.Proofs.Ythomfnkaicjmbaa

/- BreadthShortest returns true for every task, and the task reads behind the call as before. No conditions. -/
import Derived.Test.YthomfnkaicjmbaaPShoD
import Derived.Test.YthomfnkaicjmbaaRows
set_option linter.unusedVariables false
set_option linter.unusedSimpArgs false
namespace Go.Proofs.Ythomfnkaicjmbaa
open Go Go.RowKit
section
open Go Go.RowKit
attribute [local irreducible] ewp owp hwp hwq hws Ev Evg Fn retPost loud loudS Res1
attribute [local irreducible] hwx loudX
structure Spc where
  t:Tsk
  reg:Reg
  gen:Option Gnr
instance:Ow Spc where
  R w F M v x:=∃ (g:Nat) (L:Lab) (c0 c1 c2 c3 c4 c5:Value),v=.pointer (some ⟨g,0,none⟩)∧Blk w g 74 [c0,c1,c2,c3,c4,c5]∧M g∧L g=0∧Vb w F c0 x.t.vars∧Vb w F c1 x.t.init∧Vb w F c2 x.t.goal∧Vb w F c3 x.t.ops∧Ow.R w F (fun k=>M k∧L k=1) c4 x.reg∧Vb w F c5 x.gen
  agree:=by rintro w w' F M v x ⟨g,L,c0,c1,c2,c3,c4,c5,rfl,hb,hM,hL,h0,h1,h2,h3,h4,h5⟩ a1 a2;exact ⟨g,L,c0,c1,c2,c3,c4,c5,rfl,hb.keep (a2 g hM),hM,hL,h0.agree a1,h1.agree a1,h2.agree a1,h3.agree a1,Ow.agree h4 a1 fun k hk=>a2 k hk.1,h5.agree a1⟩
  mono:=by rintro w F M F' M' v x ⟨g,L,c0,c1,c2,c3,c4,c5,rfl,hb,hM,hL,h0,h1,h2,h3,h4,h5⟩ a1 a2 a3;exact ⟨g,L,c0,c1,c2,c3,c4,c5,rfl,hb,a2 g hM,hL,h0.mono a1,h1.mono a1,h2.mono a1,h3.mono a1,Ow.mono h4 a1 (fun k hk=>⟨a2 k hk.1,hk.2⟩) fun k hf hm=>a3 k hf hm.1,h5.mono a1⟩
instance:OwP Spc:=⟨by rintro w F M v x ⟨g,L,c0,c1,c2,c3,c4,c5,rfl,_⟩;exact ⟨g,rfl⟩⟩
theorem Spc.opn {i:Nat} {w:World} {O:Lab} {p:Nat} {x:Spc} (h:Ob i w O (.pointer (some ⟨p,0,none⟩)) x) (l0 l1:Nat) (hl:l0≠0∧l1≠0):∃ (O':Lab) (c0 c1 c2 c3 c4 c5:Value),St (eT i) w O w O'∧(∀ k,Fr i w O k→∃ q,q∈[l0,l1]∧Fr q w O' k)∧Lc l0 w O' p 74 [c0,c1,c2,c3,c4,c5]∧Vb w (Fr 0 w O') c0 x.t.vars∧Vb w (Fr 0 w O') c1 x.t.init∧Vb w (Fr 0 w O') c2 x.t.goal∧Vb w (Fr 0 w O') c3 x.t.ops∧Ob l1 w O' c4 x.reg∧Vb w (Fr 0 w O') c5 x.gen:=by
  obtain ⟨⟨g,L,c0,c1,c2,c3,c4,c5,hv,hb,hM,hL,h0,h1,h2,h3,h4,h5⟩,hi⟩:=h
  obtain rfl:p=g:=by injection hv with hv;injection hv with hv;injection hv
  exact ⟨part O i L [l0,l1],c0,c1,c2,c3,c4,c5,Hy hi,Gw (by simp),⟨hb,(DK (j:=0) rfl p ⟨hM,hL⟩).2⟩,h0.mono (Dc hi),h1.mono (Dc hi),h2.mono (Dc hi),h3.mono (Dc hi),⟨Ow.mono h4 (Dc hi) (DK (j:=1) rfl) (frNe0 hl.2),hl.2⟩,h5.mono (Dc hi)⟩
theorem Spc.shut {w:World} {O:Lab} {p:Nat} {x:Spc} {l0 l1:Nat} {c0 c1 c2 c3 c4 c5:Value} (hd:¬ 0∈[l0,l1]∧[l0,l1].idxOf l0=0∧[l0,l1].idxOf l1=1) (hb:Lc l0 w O p 74 [c0,c1,c2,c3,c4,c5]) (h0:Vb w (Fr 0 w O) c0 x.t.vars) (h1:Vb w (Fr 0 w O) c1 x.t.init) (h2:Vb w (Fr 0 w O) c2 x.t.goal) (h3:Vb w (Fr 0 w O) c3 x.t.ops) (h4:Ob l1 w O c4 x.reg) (h5:Vb w (Fr 0 w O) c5 x.gen):∃ O',St (·∈[l0,l1]) w O w O'∧(∀ k,Fr 0 w O k→Fr 0 w O' k)∧(∀ q,q∈[l0,l1]→∀ k,Fr q w O k→Fr l0 w O' k)∧Ob l0 w O' (.pointer (some ⟨p,0,none⟩)) x:=by
  have hb1:l0≠0:=fun e=>hd.1 (by simp [e])
  have hg:=Dl (i:=l0) hd.2.1 (by simp) p ⟨hb.1.lt,hb.2⟩
  exact ⟨whole O l0 [l0,l1],Gx,Ch hd.1,FJ,⟨p,fun k=>[l0,l1].idxOf (O k),c0,c1,c2,c3,c4,c5,rfl,hb.1,hg.1,hg.2,h0.mono (Ch hd.1),h1.mono (Ch hd.1),h2.mono (Ch hd.1),h3.mono (Ch hd.1),Ow.mono h4.1 (Ch hd.1) (Dl hd.2.2 (by simp)) (fun k a b=>frNe0 hb1 k a b.1),h5.mono (Ch hd.1)⟩,hb1⟩
noncomputable def BQ (x0:Tsk):Option ((Option Spc)×Err) :=
  bnd (DI x0) fun q24=>if q24.2.n≠0 then (some (none,(⟨q24.2.n⟩:Err))) else (bnd (CO x0.vars) fun q39=>if q39.2.n≠0 then (some (none,(⟨q39.2.n⟩:Err))) else (bnd q39.1 fun o52=>bnd (AW o52 x0.init) fun q55=>if q55.2.2.1.n≠0 then (some (none,(⟨q55.2.2.1.n⟩:Err))) else (some ((some (⟨(⟨x0.vars,x0.init,x0.goal,x0.ops⟩:Tsk),q55.2.2.2,q24.1⟩:Spc)),(⟨0⟩:Err)))))
theorem ED {w:World} {O:Lab} {vx0:Value} {x0:Tsk} (hx0:Vb w (Fr 0 w O) vx0 x0) (j0:Nat) (hj0:j0≠0) {r:(Option Spc)×Err} (hm:BQ x0=some r) :
    Fn Try.prog 34 [vx0] w fun v w'=>∃ O',St nT w O w' O'∧∃ v0 v1:Value,v=.tuple #[v0,v1]∧Obo j0 w' O' v0 r.1∧Vb w' (Fr 0 w' O') v1 r.2:=by
 obtain ⟨O0,hE,hz0⟩:=ent0 (w:=w) (O:=O)
 have hB:Bm w O0 w O0:=Bm.refl
 replace hx0:=hx0.mono hz0
 obtain ⟨cs2,rfl,v3,v4,v5,v6,rfl,h7,h10,h13,h16⟩:=hx0
 obtain ⟨A8,c9,rfl⟩:=h7.form
 obtain ⟨A11,c12,rfl⟩:=h10.form
 obtain ⟨A14,c15,rfl⟩:=h13.form
 obtain ⟨A17,c18,rfl⟩:=h16.form
 refine AK Try.func34 rfl Try.ntmps34 rfl ?_
 unfold BQ at hm
 refine Ah (Ae (l_box 2 O0 rfl rfl fun g19 w20 O21 S22 h23=>?_))
 replace h23:Lc 2 w20 O21 g19 26 [(.slice A8 x0.vars.length c9),(.slice A11 x0.init.length c12),(.slice A14 x0.goal.length c15),(.slice A17 x0.ops.length c18)]:=h23
 refine o_as rfl rfl (o_as rfl rfl (o_z ?_))
 refine Ah (Ae (o_la (hl:=rfl) (hc:=(h23.1).cellsAt) rfl rfl ?_))
 obtain ⟨q24,e25,hm⟩:=bs hm
 replace h7:=h7.st S22
 replace h10:=h10.st S22
 replace h13:=h13.st S22
 replace h16:=h16.st S22
 refine BY (O:=O21) (R:=fun w' F v=>T2 w' F v q24) (IV Fr.lt (Vb.ofAgg (cs:=[(.slice A8 x0.vars.length c9),(.slice A11 x0.init.length c12),(.slice A14 x0.goal.length c15),(.slice A17 x0.ops.length c18)]) (x:=x0) rfl ⟨_,_,_,_,rfl,h7,h10,h13,h16⟩) e25) rfl rfl fun v30 w26 O27 S28 h29=>?_
 obtain ⟨v31,v32,rfl,h33,h34⟩:=h29
 obtain ⟨p35,rfl,hq36⟩:=h33.ptr
 obtain ⟨rfl,r37⟩:=h34.err
 refine o_mv rfl rfl (o_ex rfl rfl rfl (o_ex rfl rfl rfl (o_as rfl rfl (o_as rfl rfl (o_z ?_)))))
 refine Ah (Ah (Ae (o_mv rfl rfl (o_rnS rfl rfl (fun c38=>?_) fun c38=>?_))))
 ·
  replace hm:=ip hm c38
  refine o_z ?_
  refine Ar rfl (Ah (Ae (o_mv rfl rfl (o_as rfl rfl (o_as rfl rfl (o_z ?_))))))
  refine Au ?_
  obtain rfl:=sm hm
  replace hB:=(hB.st S22).st S28
  obtain ⟨O',hS',hz,hl⟩:=hE.leave (fun _=>0) rfl hB
  exact ret2 rfl (AG rfl) (AG rfl) ⟨O',hS',_,_,rfl,rfl,(vErr r37)⟩
 ·
  replace hm:=im hm c38
  refine o_z ?_
  refine Aj rfl (Am (Ah (Ae (o_fa rfl rfl ?_))))
  replace h23:=h23.st S28
  refine o_ld (hc:=Blk.cell (i:=0) (h23.1) rfl) rfl rfl ?_
  obtain ⟨q39,e40,hm⟩:=bs hm
  replace h7:=h7.st S28
  refine Be (O:=O27) (Iv h7 3 (by decide) e40) rfl rfl fun v45 w41 O42 S43 h44=>?_
  obtain ⟨v46,v47,rfl,h48,h49⟩:=h44
  obtain ⟨rfl,r50⟩:=h49.err
  refine o_mv rfl rfl (o_ex rfl rfl rfl (o_ex rfl rfl rfl (o_as rfl rfl (o_as rfl rfl (o_z ?_)))))
  refine Ah (Ah (Ae (o_mv rfl rfl (o_rnS rfl rfl (fun c51=>?_) fun c51=>?_))))
  ·
   replace hm:=ip hm c51
   refine o_z ?_
   refine Ar rfl (Ah (Ae (o_mv rfl rfl (o_as rfl rfl (o_as rfl rfl (o_z ?_))))))
   refine Au ?_
   obtain rfl:=sm hm
   replace hB:=((hB.st S22).st S28).st S43
   obtain ⟨O',hS',hz,hl⟩:=hE.leave (fun _=>0) rfl hB
   exact ret2 rfl (AG rfl) (AG rfl) ⟨O',hS',_,_,rfl,rfl,(vErr r50)⟩
  ·
   replace hm:=im hm c51
   refine o_z ?_
   refine Aj rfl (Am (Ah (Ah (Ae (o_mv rfl rfl (o_fa rfl rfl ?_))))))
   replace h23:=h23.st S43
   refine o_ld (hc:=Blk.cell (i:=1) (h23.1) rfl) rfl rfl ?_
   obtain ⟨o52,e53,hm⟩:=bs hm
   rw [e53] at h48
   obtain ⟨p54,rfl⟩:=Ob.ptr h48
   obtain ⟨q55,e56,hm⟩:=bs hm
   replace h10:=(h10.st S28).st S43
   refine Be (O:=O42) (CG h48 h10 e56) rfl rfl fun v61 w57 O58 S59 h60=>?_
   obtain ⟨v63,v64,v65,h62,rfl,h66,h67,h68⟩:=h60
   obtain ⟨rfl,r69⟩:=h66.int
   obtain rfl:=h67.bool
   obtain ⟨rfl,r70⟩:=h68.err
   refine o_mv rfl rfl (o_ex rfl rfl rfl (o_ex rfl rfl rfl (o_ex rfl rfl rfl (o_as rfl rfl (o_as rfl rfl (o_as rfl rfl (o_z ?_)))))))
   refine Ah (Ae (o_mv rfl rfl (o_rnS rfl rfl (fun c71=>?_) fun c71=>?_)))
   ·
    replace hm:=ip hm c71
    refine o_z ?_
    refine Ar rfl (Ah (Ae (o_mv rfl rfl (o_as rfl rfl (o_as rfl rfl (o_z ?_))))))
    refine Au ?_
    obtain rfl:=sm hm
    replace hB:=(((hB.st S22).st S28).st S43).st S59
    obtain ⟨O',hS',hz,hl⟩:=hE.leave (fun _=>0) rfl hB
    exact ret2 rfl (AG rfl) (AG rfl) ⟨O',hS',_,_,rfl,rfl,(vErr r70)⟩
   ·
    replace hm:=im hm c71
    refine o_z ?_
    refine Aj rfl (Am (Ah (Ae ?_)))
    replace h23:=h23.st S59
    refine o_la (hl:=rfl) (hc:=(h23.1).cellsAt) rfl rfl ?_
    refine o_mv rfl rfl (o_mv rfl rfl (o_bd rfl rfl rfl ?_))
    refine l_box 4 O58 rfl rfl fun g72 w73 O74 S75 h76=>?_
    replace h76:Lc 4 w73 O74 g72 74 [(.slice A8 x0.vars.length c9),(.slice A11 x0.init.length c12),(.slice A14 x0.goal.length c15),(.slice A17 x0.ops.length c18),(.pointer (some ⟨p54,0,none⟩)),(.pointer p35)]:=h76
    refine o_as rfl rfl (o_as rfl rfl (o_z ?_))
    refine Au ?_
    replace h7:=((h7.st S43).st S59).st S75
    replace h10:=(h10.st S59).st S75
    replace h13:=(((h13.st S28).st S43).st S59).st S75
    replace h16:=(((h16.st S28).st S43).st S59).st S75
    replace h33:=((h33.st S43).st S59).st S75
    replace h62:=h62.st S75
    obtain ⟨O77,S78,hz80,ha81,h79⟩:=Spc.shut (x:=(⟨(⟨x0.vars,x0.init,x0.goal,x0.ops⟩:Tsk),q55.2.2.2,q24.1⟩:Spc)) (l0:=4) (l1:=3) (by decide) h76 h7 h10 h13 h16 h62 h33
    obtain rfl:=sm hm
    replace hB:=(((((hB.st S22).st S28).st S43).st S59).st S75).st S78
    obtain ⟨O',hS',hz,hl⟩:=hE.leave (fun q=>if q=4 then j0 else 0) rfl hB
    exact ret2 rfl (AG rfl) (AG rfl) ⟨O',hS',_,_,rfl,(Ob.leave h79 hz (hl 4 (by decide) (by decide)) hj0),(vErr (show inI64 0 from by decide))⟩
noncomputable def Bn (x0:Spc) (x1:Int) (x2:Int):Option (Rsl×Err) :=
  bnd (Bx x0.reg x1) fun q36=>if q36.2.n≠0 then (some ((⟨0,([]:List Int),0,0⟩:Rsl),(⟨q36.2.n⟩:Err))) else (bnd (rng (ρ:=Rsl×Err) (fun (k77:Nat) (a78:Int) (s75:Int)=>bnd (atI x0.t.ops a78) fun a125=>bnd (chkI (s75 + a125.cost)) fun n146=>some (.next n146)) q36.1 0 0) fun res73=>fin res73 fun (s160:Int)=>some ((⟨1,q36.1,s160,x2⟩:Rsl),(⟨0⟩:Err)))
theorem Ej {w:World} {O:Lab} {p0 i0:Nat} {x0:Spc} (hx0:Ob i0 w O (.pointer (some ⟨p0,0,none⟩)) x0) {x1:Int} (rx1:inI64 x1) {x2:Int} (rx2:inI64 x2) {r:Rsl×Err} (hm:Bn x0 x1 x2=some r) :
    Fn Try.prog 38 [(.pointer (some ⟨p0,0,none⟩)),(.int .i64 x1),(.int .i64 x2)] w fun v w'=>∃ O',St (eT i0) w O w' O'∧∃ v0 v1:Value,Ob i0 w' O' (.pointer (some ⟨p0,0,none⟩)) x0∧v=.tuple #[v0,v1]∧Vb w' (Fr 0 w' O') v0 r.1∧Vb w' (Fr 0 w' O') v1 r.2:=by
 obtain ⟨O0,hE,hz0,hl2⟩:=ent1 (w:=w) (O:=O) hx0.2
 have hx0':=Ob.leave hx0 hz0 hl2 (j:=2) (by decide)
 have hB:Bm w O0 w O0:=Bm.refl
 refine AK Try.func38 rfl Try.ntmps38 rfl ?_
 unfold Bn at hm
 refine Ah (Ae (BR 3 O0 rfl fun g4 w5 O6 S7 h8=>?_))
 refine o_as rfl rfl (o_z ?_)
 refine Ah (Ae (o_mv rfl rfl (o_nc rfl rfl ?_)))
 replace hx0':=hx0'.st S7
 obtain ⟨O9,v13,v17,v21,v25,v29,v32,S10,ha12,h11,h14,h18,h22,h26,h30,h33⟩:=Spc.opn hx0' 2 4 (by decide)
 obtain ⟨A15,c16,rfl⟩:=h14.form
 obtain ⟨A19,c20,rfl⟩:=h18.form
 obtain ⟨A23,c24,rfl⟩:=h22.form
 obtain ⟨A27,c28,rfl⟩:=h26.form
 obtain ⟨p31,rfl⟩:=h30.ptr
 obtain ⟨p34,rfl,hq35⟩:=h33.ptr
 refine o_fa rfl rfl (o_ld (hc:=Blk.cell (i:=4) (h11.1) rfl) rfl rfl ?_)
 refine o_mv rfl rfl ?_
 obtain ⟨q36,e37,hm⟩:=bs hm
 refine Be (O:=O9) (Fy h30 rx1 e37) rfl rfl fun v42 w38 O39 S40 h41=>?_
 obtain ⟨v44,v45,h43,rfl,h46,h47⟩:=h41
 obtain ⟨A48,c49,rfl⟩:=h46.form
 obtain ⟨rfl,r50⟩:=h47.err
 refine o_mv rfl rfl (o_ex rfl rfl rfl (o_ex rfl rfl rfl (o_as rfl rfl (o_as rfl rfl (o_z ?_)))))
 refine Ah (Ah (Ae (o_mv rfl rfl (o_rnS rfl rfl (fun c51=>?_) fun c51=>?_))))
 ·
  replace hm:=ip hm c51
  refine o_z ?_
  refine Ar rfl (Ah (Ae (o_bd rfl rfl rfl ?_)))
  refine o_mv rfl rfl ?_
  replace h8:=(h8.st S10).st S40
  refine AV h8 rfl rfl rfl (Nat.le_of_ble_eq_true rfl) (by first|exact allOne rfl|simp [Value.cells,Value.oneCell',AQ]) fun w52 S53 h8=>?_
  replace h8:Lc 3 w52 O39 g4 30 [(.int .i64 0),(.slice none 0 0),(.int .i64 0),(.int .i64 0)]:=h8
  refine o_as rfl rfl (o_z ?_)
  refine Au ?_
  replace h11:=(h11.st S40).st S53
  replace h14:=(h14.st S40).st S53
  replace h18:=(h18.st S40).st S53
  replace h22:=(h22.st S40).st S53
  replace h26:=(h26.st S40).st S53
  replace h33:=(h33.st S40).st S53
  replace h43:=h43.st S53
  obtain ⟨O54,S55,hz57,ha58,h56⟩:=Spc.shut (x:=x0) (l0:=2) (l1:=4) (by decide) h11 h14 h18 h22 h26 h43 h33
  obtain rfl:=sm hm
  replace hB:=((((hB.st S7).st S10).st S40).st S53).st S55
  obtain ⟨O',hS',hz,hl⟩:=hE.leave (fun q=>if q=2 then i0 else 0) rfl hB
  replace h8:=h8.st S55
  exact ret2 rfl (BD (cs:=[(.int .i64 0),(.slice none 0 0),(.int .i64 0),(.int .i64 0)]) rfl rfl h8.1.cellsAt) (AG rfl) ⟨O',hS',_,_,(Ob.leave h56 hz (hl 2 (by decide) (by decide)) hx0.2),rfl,(Vb.mono (Vb.ofAgg (cs:=[(.int .i64 0),(.slice none 0 0),(.int .i64 0),(.int .i64 0)]) (x:=(⟨0,([]:List Int),0,0⟩:Rsl)) rfl ⟨_,rfl,(Vb.nil _ _),(show inI64 0 from by decide),(show inI64 0 from by decide),(show inI64 0 from by decide)⟩) hz),(vErr r50)⟩
 ·
  replace hm:=im hm c51
  refine o_z ?_
  refine Aj rfl (Am (Ah (Ae (o_mv rfl rfl (o_mv rfl rfl (o_bd rfl rfl rfl ?_))))))
  refine BR 5 O39 rfl fun g59 w60 O61 S62 h63=>?_
  refine AV h63 rfl rfl rfl (Nat.le_of_ble_eq_true rfl) (by first|exact allOne rfl|simp [Value.cells,Value.oneCell',AQ]) fun w64 S65 h63=>?_
  replace h63:Lc 5 w64 O61 g59 30 [(.int .i64 1),(.slice A48 q36.1.length c49),(.int .i64 0),(.int .i64 x2)]:=h63
  refine o_z ?_
  refine Ah (Ah (Ae (o_mv rfl rfl (o_ln rfl rfl ?_))))
  replace h46:=(h46.st S62).st S65
  have l67:q36.1.length≤9223372036854775807:=Nat.le_trans h46.len.2.1 h46.len.2.2
  have r66:inI64 (q36.1.length:Int):=rngNat l67
  refine o_mv rfl rfl (o_z ?_)
  replace h11:=((h11.st S40).st S62).st S65
  replace h14:=((h14.st S40).st S62).st S65
  replace h18:=((h18.st S40).st S62).st S65
  replace h22:=((h22.st S40).st S62).st S65
  replace h26:=((h26.st S40).st S62).st S65
  replace h33:=((h33.st S40).st S62).st S65
  replace h43:=(h43.st S62).st S65
  obtain ⟨O68,S69,hz71,ha72,h70⟩:=Spc.shut (x:=x0) (l0:=2) (l1:=4) (by decide) h11 h14 h18 h22 h26 h43 h33
  obtain ⟨res73,hL74,hm⟩:=bs hm
  refine AL (aft res73 (fun (s75:Int) (x76:Unit)=>[(6,(.pointer (some ⟨g4,0,none⟩))),(10,(.pointer (some ⟨g59,0,none⟩)))]) (fun s75 x76 w'=>∃ O':Lab,Bm w O0 w' O'∧Lc 3 w' O' g4 30 [(.int .i64 0),(.slice none 0 0),(.int .i64 0),(.int .i64 0)]∧Lc 5 w' O' g59 30 [(.int .i64 1),(.slice A48 q36.1.length c49),(.int .i64 s75),(.int .i64 x2)]∧Vb w' (Fr 0 w' O') (.slice A48 q36.1.length c49) q36.1∧Ob 2 w' O' (.pointer (some ⟨p0,0,none⟩)) x0∧inI64 s75)) ?_ ?_
  ·
   refine Al ?_
   replace hB:=(((((hB.st S7).st S10).st S40).st S62).st S65).st S69
   replace h8:=((((h8.st S10).st S40).st S62).st S65).st S69
   replace h46:=h46.st S69
   replace h63:=h63.st S69
   refine BM (σ:=Int) (X:=Unit) (q36.1.length) hL74 rfl l67 (fun (s75:Int) (x76:Unit)=>[(0,(.pointer (some ⟨p0,0,none⟩))),(6,(.pointer (some ⟨g4,0,none⟩))),(10,(.pointer (some ⟨g59,0,none⟩))),(29,(.slice A48 q36.1.length c49))]) _ (fun s75 x76 w'=>∃ O':Lab,Bm w O0 w' O'∧Ob 2 w' O' (.pointer (some ⟨p0,0,none⟩)) x0∧Lc 3 w' O' g4 30 [(.int .i64 0),(.slice none 0 0),(.int .i64 0),(.int .i64 0)]∧Lc 5 w' O' g59 30 [(.int .i64 1),(.slice A48 q36.1.length c49),(.int .i64 s75),(.int .i64 x2)]∧Vb w' (Fr 0 w' O') (.slice A48 q36.1.length c49) q36.1∧inI64 s75) _ () ⟨O68,hB,h70,h8,h63,h46,(show inI64 0 from by decide)⟩ ⟨rfl,rfl,rfl,rfl,rfl,rfl,trivial⟩ (fun _ _=>⟨rfl,rfl⟩) (fun _ _=>⟨rfl,rfl,trivial⟩) (fun _ _ _ ⟨O',hB,h70,h8,h63,h46,r89⟩=>⟨O',hB,h8,h63,h46,h70,r89⟩) ⟨rfl,rfl,rfl⟩ ⟨rfl,rfl⟩ ?_
   rintro k77 a78 s75 x76 w79 cc81 hx82 ⟨O80,hB,h70,h8,h63,h46,r89⟩ hf83 hret84 hbrk85
   have rk77:inI64 (k77:Int):=rngK hx82 l67
   refine Ah (Ae ?_)
   obtain ⟨b90,o91,ce92,hA93,hl94,hd95,rfl,r97⟩:=h46.elem' hx82
   refine o_iaE (hA:=hA93) (hj:=rfl) (hlt:=hl94) rfl rfl rfl ?_
   refine o_ld (hc:=cat0 hd95) rfl rfl ?_
   refine o_as rfl rfl (o_z ?_)
   obtain ⟨O98,v102,v106,v110,v114,v118,v121,S99,ha101,h100,h103,h107,h111,h115,h119,h122⟩:=Spc.opn h70 2 4 (by decide)
   obtain ⟨A104,c105,rfl⟩:=h103.form
   obtain ⟨A108,c109,rfl⟩:=h107.form
   obtain ⟨A112,c113,rfl⟩:=h111.form
   obtain ⟨A116,c117,rfl⟩:=h115.form
   obtain ⟨p120,rfl⟩:=h119.ptr
   obtain ⟨p123,rfl,hq124⟩:=h122.ptr
   refine BA [] O98 ?_
   refine x_pre (fuel:=1) [] [(0,true),(1,true),(2,true),(3,true),(4,true),(5,true),(6,true),(7,true),(8,true),(9,true),(10,true),(11,true),(12,true)] (by kernel_rfl) rfl ?_
   refine h_fa rfl rfl rfl ?_
   replace h63:=h63.st S99
   refine h_ldC (hc:=fun w' ⟨O',hq⟩=>Blk.cell (i:=2) ((h63.st hq (by decide)).1) rfl) rfl rfl rfl ?_
   refine h_mv rfl rfl rfl (h_nc rfl rfl rfl (h_fa rfl rfl rfl (h_fa rfl rfl rfl (h_ldC (hc:=fun w' ⟨O',hq⟩=>Blk.cell (i:=3) ((h100.st hq (by decide)).1) rfl) rfl rfl rfl ?_))))
   refine h_mv rfl rfl rfl ?_
   obtain ⟨a125,e126,hf83⟩:=bs hf83
   obtain ⟨p128,x127⟩:=AM e126
   obtain ⟨b129,o130,ce131,hA132,hF135,hl133,hd134,v136,v137,rfl,h138,h141,r144,z145⟩:=h115.elem x127
   obtain ⟨A139,c140,rfl⟩:=h138.form
   obtain ⟨A142,c143,rfl⟩:=h141.form
   refine h_iaE (hA:=hA132) (hj:=(Int.toNat_of_nonneg p128).symm) (hlt:=hl133) rfl rfl rfl rfl ?_
   refine h_fa rfl rfl rfl (h_ldC (hc:=fun w' ⟨O',hq⟩=>cat1 (Bh (hq.agree (i:=0) (by decide)) hF135 hd134)) rfl rfl rfl ?_)
   obtain ⟨n146,e147,hf83⟩:=bs hf83
   have r148:=(Bj e147)
   refine h_adE (he:=e147) rfl rfl rfl rfl ?_
   refine h_fa rfl rfl rfl (AI ?_)
   refine x_one (i:=13) (by kernel_rfl) rfl ?_
   refine AV h63 rfl rfl rfl (Nat.le_of_ble_eq_true rfl) (by first|exact allOne rfl|simp [Value.cells,Value.oneCell',AQ]) fun w149 S150 h63=>?_
   replace h63:Lc 5 w149 O98 g59 30 [(.int .i64 1),(.slice A48 q36.1.length c49),(.int .i64 n146),(.int .i64 x2)]:=h63
   refine x_end (by kernel_rfl) ?_
   refine x_nil (by kernel_rfl) ?_
   replace h100:=h100.st S150
   replace h103:=h103.st S150
   replace h107:=h107.st S150
   replace h111:=h111.st S150
   replace h115:=h115.st S150
   replace h119:=h119.st S150
   replace h122:=h122.st S150
   obtain ⟨O151,S152,hz154,ha155,h153⟩:=Spc.shut (x:=x0) (l0:=2) (l1:=4) (by decide) h100 h103 h107 h111 h115 h119 h122
   obtain rfl:=sm hf83
   refine (?_:Exists _)
   replace hB:=((hB.st S99).st S150).st S152
   replace h8:=((h8.st S99).st S150).st S152
   replace h46:=((h46.st S99).st S150).st S152
   replace h63:=h63.st S152
   exact ⟨_,(),rfl,⟨rfl,rfl,rfl,rfl,rfl,rfl,trivial⟩,_,hB,h153,h8,h63,h46,r148⟩
  replace hB:=(((((hB.st S7).st S10).st S40).st S62).st S65).st S69
  replace h8:=((((h8.st S10).st S40).st S62).st S65).st S69
  replace h46:=h46.st S69
  replace h63:=h63.st S69
  rintro l156 w157 ⟨s160,x161,rfl,hs159,O158,hB,h8,h63,h46,h70,r89⟩
  replace hm:=AY hm
  refine AP _ hs159 ?_
  refine Ah (Ae (o_la (hl:=rfl) (hc:=(h63.1).cellsAt) rfl rfl ?_))
  refine AV h8 rfl rfl rfl (Nat.le_of_ble_eq_true rfl) (by first|exact allOne rfl|simp [Value.cells,Value.oneCell',AQ]) fun w162 S163 h8=>?_
  replace h8:Lc 3 w162 O158 g4 30 [(.int .i64 1),(.slice A48 q36.1.length c49),(.int .i64 s160),(.int .i64 x2)]:=h8
  refine o_as rfl rfl (o_z ?_)
  refine Au ?_
  obtain rfl:=sm hm
  replace hB:=hB.st S163
  obtain ⟨O',hS',hz,hl⟩:=hE.leave (fun q=>if q=2 then i0 else 0) rfl hB
  replace h46:=h46.st S163
  replace h70:=h70.st S163
  exact ret2 rfl (BD (cs:=[(.int .i64 1),(.slice A48 q36.1.length c49),(.int .i64 s160),(.int .i64 x2)]) rfl rfl h8.1.cellsAt) (AG rfl) ⟨O',hS',_,_,(Ob.leave h70 hz (hl 2 (by decide) (by decide)) hx0.2),rfl,(Vb.mono (Vb.ofAgg (cs:=[(.int .i64 1),(.slice A48 q36.1.length c49),(.int .i64 s160),(.int .i64 x2)]) (x:=(⟨1,q36.1,s160,x2⟩:Rsl)) rfl ⟨_,rfl,h46,(show inI64 (1) from by decide),r89,rx2⟩) hz),(vErr (show inI64 0 from by decide))⟩
noncomputable def Bf (x0:Int) (x1:Int):Option (Rsl×Err) :=
  some ((⟨x0,([]:List Int),0,x1⟩:Rsl),(⟨0⟩:Err))
theorem CP {w:World} {A:Nat→Prop} (hA:∀ k,A k→k < w.heap.size) {x0:Int} (rx0:inI64 x0) {x1:Int} (rx1:inI64 x1) {r:Rsl×Err} (hm:Bf x0 x1=some r) :
    Fn Try.prog 39 [(.int .i64 x0),(.int .i64 x1)] w fun v w'=>Ext w w'∧T2 w' (upA A w w') v r:=by
 obtain ⟨O,hB,hA0⟩:=enter hA
 refine AK Try.func39 rfl Try.ntmps39 rfl ?_
 unfold Bf at hm
 refine Ah (Ae (BR 2 O rfl fun g3 w4 O5 S6 h7=>?_))
 refine o_as rfl rfl (o_z ?_)
 refine Ah (Ae (o_mv rfl rfl (o_mv rfl rfl (o_bd rfl rfl rfl ?_))))
 refine AV h7 rfl rfl rfl (Nat.le_of_ble_eq_true rfl) (by first|exact allOne rfl|simp [Value.cells,Value.oneCell',AQ]) fun w8 S9 h7=>?_
 replace h7:Lc 2 w8 O5 g3 30 [(.int .i64 x0),(.slice none 0 0),(.int .i64 0),(.int .i64 x1)]:=h7
 refine o_as rfl rfl (o_z ?_)
 refine Au ?_
 obtain rfl:=sm hm
 replace hB:=(hB.st S6).st S9
 exact ret2 rfl (BD (cs:=[(.int .i64 x0),(.slice none 0 0),(.int .i64 0),(.int .i64 x1)]) rfl rfl h7.1.cellsAt) (AG rfl) ⟨hB.ext,_,_,rfl,(Vb.mono (F:=Fr 0 w8 O5) (Vb.ofAgg (cs:=[(.int .i64 x0),(.slice none 0 0),(.int .i64 0),(.int .i64 x1)]) (x:=(⟨x0,([]:List Int),0,x1⟩:Rsl)) rfl ⟨_,rfl,(Vb.nil _ _),rx0,(show inI64 0 from by decide),rx1⟩) hB.out),(vErr (show inI64 0 from by decide))⟩
noncomputable def Cj (x0:Tsk) (x1:Int):Option (Rsl×Err) :=
  bnd (BQ x0) fun q30=>if q30.2.n≠0 then (some ((⟨0,([]:List Int),0,0⟩:Rsl),(⟨q30.2.n⟩:Err))) else (bnd q30.1 fun o45=>bnd (lop (ρ:=Rsl×Err) (fun (s50:Int×Spc)=>bnd (AO s50.2.reg) fun q94=>if s50.1 < q94 then (bnd (Bb s50.2.reg s50.1) fun q105=>if q105.2.n≠0 then (some (.ret ((⟨0,([]:List Int),0,0⟩:Rsl),(⟨q105.2.n⟩:Err)))) else (bnd (Cw x0.goal q105.1) fun q123=>if q123=true then bnd (Bn s50.2 s50.1 s50.1) fun q312=>some (.ret (q312.1,(⟨q312.2.n⟩:Err))) else if x1≤s50.1 then (bnd (Bf 3 s50.1) fun q131=>some (.ret (q131.1,(⟨q131.2.n⟩:Err)))) else (bnd (AT s50.2.gen q105.1) fun q153=>bnd (rng (ρ:=Ctl (Int×Spc) (Rsl×Err)) (fun (k173:Nat) (a174:Suc) (s171:Spc)=>bnd (AW s171.reg a174.state) fun q232=>if q232.2.2.1.n≠0 then (bnd (chkI (s50.1 + 1)) fun n249=>bnd (Bf 3 n249) fun q252=>some (.ret (.ret (q252.1,(⟨q252.2.n⟩:Err))))) else (if q232.2.1=true then (bnd (Bc q232.2.2.2 q232.1 s50.1 a174.op 0) fun q275=>if q275.1.n≠0 then (some (.ret (.ret ((⟨0,([]:List Int),0,0⟩:Rsl),(⟨q275.1.n⟩:Err))))) else (some (.next (⟨(⟨s171.t.vars,s171.t.init,s171.t.goal,s171.t.ops⟩:Tsk),q275.2,s171.gen⟩:Spc)))) else (some (.next (⟨(⟨s171.t.vars,s171.t.init,s171.t.goal,s171.t.ops⟩:Tsk),q232.2.2.2,s171.gen⟩:Spc))))) q153 0 s50.2) fun res169=>fin res169 fun (s302:Spc)=>bnd (chkI (s50.1 + 1)) fun n304=>some (.next (n304,s302))))) else (some (.brk (s50.1,s50.2)))) (0,o45)) fun res48=>fin res48 fun (s344:Int×Spc)=>bnd (AO s344.2.reg) fun q373=>bnd (Bf 2 q373) fun q383=>some (q383.1,(⟨q383.2.n⟩:Err)))
theorem Fz {w:World} {A:Nat→Prop} (hA:∀ k,A k→k < w.heap.size) {vx0:Value} {x0:Tsk} (hx0:Vb w A vx0 x0) {x1:Int} (rx1:inI64 x1) {r:Rsl×Err} (hm:Cj x0 x1=some r) :
    Fn Try.prog 13 [vx0,(.int .i64 x1)] w fun v w'=>Ext w w'∧T2 w' (upA A w w') v r:=by
 obtain ⟨O,hB,hA0⟩:=enter hA
 replace hx0:=hx0.mono hA0
 obtain ⟨cs3,rfl,v4,v5,v6,v7,rfl,h8,h11,h14,h17⟩:=hx0
 obtain ⟨A9,c10,rfl⟩:=h8.form
 obtain ⟨A12,c13,rfl⟩:=h11.form
 obtain ⟨A15,c16,rfl⟩:=h14.form
 obtain ⟨A18,c19,rfl⟩:=h17.form
 refine AK Try.func13 rfl Try.ntmps13 rfl ?_
 unfold Cj at hm
 refine Ah (Ae (l_box 2 O rfl rfl fun g20 w21 O22 S23 h24=>?_))
 replace h24:Lc 2 w21 O22 g20 26 [(.slice A9 x0.vars.length c10),(.slice A12 x0.init.length c13),(.slice A15 x0.goal.length c16),(.slice A18 x0.ops.length c19)]:=h24
 refine BR 3 O22 rfl fun g25 w26 O27 S28 h29=>?_
 refine o_as rfl rfl (o_z ?_)
 refine Ah (Ae ?_)
 replace h24:=h24.st S28
 refine o_la (hl:=rfl) (hc:=(h24.1).cellsAt) rfl rfl ?_
 obtain ⟨q30,e31,hm⟩:=bs hm
 replace h8:=(h8.st S23).st S28
 replace h11:=(h11.st S23).st S28
 replace h14:=(h14.st S23).st S28
 replace h17:=(h17.st S23).st S28
 refine Be (O:=O27) (ED (Vb.ofAgg (cs:=[(.slice A9 x0.vars.length c10),(.slice A12 x0.init.length c13),(.slice A15 x0.goal.length c16),(.slice A18 x0.ops.length c19)]) (x:=x0) rfl ⟨_,_,_,_,rfl,h8,h11,h14,h17⟩) 4 (by decide) e31) rfl rfl fun v36 w32 O33 S34 h35=>?_
 obtain ⟨v37,v38,rfl,h39,h40⟩:=h35
 obtain ⟨rfl,r41⟩:=h40.err
 refine o_mv rfl rfl (o_ex rfl rfl rfl (o_ex rfl rfl rfl (o_as rfl rfl (o_as rfl rfl (o_z ?_)))))
 refine Ah (Ah (Ae (o_mv rfl rfl (o_rnS rfl rfl (fun c42=>?_) fun c42=>?_))))
 ·
  replace hm:=ip hm c42
  refine o_z ?_
  refine Ar rfl (Ah (Ae (o_bd rfl rfl rfl ?_)))
  refine o_mv rfl rfl ?_
  replace h29:=h29.st S34
  refine AV h29 rfl rfl rfl (Nat.le_of_ble_eq_true rfl) (by first|exact allOne rfl|simp [Value.cells,Value.oneCell',AQ]) fun w43 S44 h29=>?_
  replace h29:Lc 3 w43 O33 g25 30 [(.int .i64 0),(.slice none 0 0),(.int .i64 0),(.int .i64 0)]:=h29
  refine o_as rfl rfl (o_z ?_)
  refine Au ?_
  obtain rfl:=sm hm
  replace hB:=(((hB.st S23).st S28).st S34).st S44
  exact ret2 rfl (BD (cs:=[(.int .i64 0),(.slice none 0 0),(.int .i64 0),(.int .i64 0)]) rfl rfl h29.1.cellsAt) (AG rfl) ⟨hB.ext,_,_,rfl,(Vb.mono (F:=Fr 0 w43 O33) (Vb.ofAgg (cs:=[(.int .i64 0),(.slice none 0 0),(.int .i64 0),(.int .i64 0)]) (x:=(⟨0,([]:List Int),0,0⟩:Rsl)) rfl ⟨_,rfl,(Vb.nil _ _),(show inI64 0 from by decide),(show inI64 0 from by decide),(show inI64 0 from by decide)⟩) hB.out),(vErr r41)⟩
 ·
  replace hm:=im hm c42
  refine o_z ?_
  refine Aj rfl (Am (Ah (Ah (Ae (o_as rfl rfl (o_z ?_))))))
  obtain ⟨o45,e46,hm⟩:=bs hm
  rw [e46] at h39
  obtain ⟨p47,rfl⟩:=Ob.ptr h39
  obtain ⟨res48,hL49,hm⟩:=bs hm
  refine AL (aft res48 (fun (s50:Int×Spc) (x51:Unit)=>[(4,(.pointer (some ⟨g25,0,none⟩))),(6,(.pointer (some ⟨p47,0,none⟩)))]) (fun s50 x51 w'=>∃ O':Lab,Bs w A w' O'∧Lc 3 w' O' g25 30 [(.int .i64 0),(.slice none 0 0),(.int .i64 0),(.int .i64 0)]∧Ob 4 w' O' (.pointer (some ⟨p47,0,none⟩)) s50.2∧inI64 s50.1)) ?_ ?_
  ·
   refine Al ?_
   replace hB:=((hB.st S23).st S28).st S34
   replace h8:=h8.st S34
   replace h11:=h11.st S34
   replace h14:=h14.st S34
   replace h17:=h17.st S34
   replace h24:=h24.st S34
   replace h29:=h29.st S34
   refine DZ (σ:=Int×Spc) (X:=Unit) hL49 (fun (s50:Int×Spc) (x51:Unit)=>[(1,(.int .i64 x1)),(2,(.pointer (some ⟨g20,0,none⟩))),(4,(.pointer (some ⟨g25,0,none⟩))),(6,(.pointer (some ⟨p47,0,none⟩))),(8,(.int .i64 s50.1))]) _ (fun s50 x51 w'=>∃ O':Lab,Bs w A w' O'∧Lc 2 w' O' g20 26 [(.slice A9 x0.vars.length c10),(.slice A12 x0.init.length c13),(.slice A15 x0.goal.length c16),(.slice A18 x0.ops.length c19)]∧Vb w' (Fr 0 w' O') (.slice A9 x0.vars.length c10) x0.vars∧Vb w' (Fr 0 w' O') (.slice A12 x0.init.length c13) x0.init∧Vb w' (Fr 0 w' O') (.slice A15 x0.goal.length c16) x0.goal∧Vb w' (Fr 0 w' O') (.slice A18 x0.ops.length c19) x0.ops∧Lc 3 w' O' g25 30 [(.int .i64 0),(.slice none 0 0),(.int .i64 0),(.int .i64 0)]∧Ob 4 w' O' (.pointer (some ⟨p47,0,none⟩)) s50.2∧inI64 s50.1) _ () ⟨O33,hB,h24,h8,h11,h14,h17,h29,h39,(show inI64 (0) from by decide)⟩ ⟨rfl,rfl,rfl,rfl,rfl,trivial⟩ ?_
   rintro s50 x51 w54 cc56 ⟨O55,hB,h24,h8,h11,h14,h17,h29,h66,r65⟩ hf58 hret59 hbrk60
   refine Ah (Ah (Ae (o_mv rfl rfl (o_mv rfl rfl (o_nc rfl rfl ?_)))))
   obtain ⟨O67,v71,v75,v79,v83,v87,v90,S68,ha70,h69,h72,h76,h80,h84,h88,h91⟩:=Spc.opn h66 4 5 (by decide)
   obtain ⟨A73,c74,rfl⟩:=h72.form
   obtain ⟨A77,c78,rfl⟩:=h76.form
   obtain ⟨A81,c82,rfl⟩:=h80.form
   obtain ⟨A85,c86,rfl⟩:=h84.form
   obtain ⟨p89,rfl⟩:=h88.ptr
   obtain ⟨p92,rfl,hq93⟩:=h91.ptr
   refine o_fa rfl rfl (o_ld (hc:=Blk.cell (i:=4) (h69.1) rfl) rfl rfl ?_)
   obtain ⟨q94,e95,hf58⟩:=bs hf58
   refine Be (O:=O67) (BS h88 e95) rfl rfl fun v100 w96 O97 S98 h99=>?_
   obtain ⟨h101,h102⟩:=h99
   obtain ⟨rfl,r103⟩:=h102.int
   refine o_ltS rfl rfl rfl (fun c104=>?_) fun c104=>?_
   ·
    replace hf58:=ip hf58 c104
    refine o_z ?_
    refine Ar rfl (Am (Ah (Al (Ah (Ae (o_mv rfl rfl (o_nc rfl rfl (o_fa rfl rfl ?_))))))))
    replace h69:=h69.st S98
    refine o_ld (hc:=Blk.cell (i:=4) (h69.1) rfl) rfl rfl ?_
    refine o_mv rfl rfl ?_
    obtain ⟨q105,e106,hf58⟩:=bs hf58
    refine Be (O:=O97) (CV h101 r65 e106) rfl rfl fun v111 w107 O108 S109 h110=>?_
    obtain ⟨v113,v114,h112,rfl,h115,h116⟩:=h110
    obtain ⟨A117,c118,rfl⟩:=h115.form
    obtain ⟨rfl,r119⟩:=h116.err
    refine o_mv rfl rfl (o_ex rfl rfl rfl (o_ex rfl rfl rfl (o_as rfl rfl (o_as rfl rfl (o_z ?_)))))
    refine Ah (Ah (Ae (o_mv rfl rfl (o_rnS rfl rfl (fun c120=>?_) fun c120=>?_))))
    ·
     replace hf58:=ip hf58 c120
     refine o_z ?_
     refine Ar rfl (Ah (Ae (o_bd rfl rfl rfl ?_)))
     refine o_mv rfl rfl ?_
     replace h29:=((h29.st S68).st S98).st S109
     refine AV h29 rfl rfl rfl (Nat.le_of_ble_eq_true rfl) (by first|exact allOne rfl|simp [Value.cells,Value.oneCell',AQ]) fun w121 S122 h29=>?_
     replace h29:Lc 3 w121 O108 g25 30 [(.int .i64 0),(.slice none 0 0),(.int .i64 0),(.int .i64 0)]:=h29
     refine o_as rfl rfl (o_z ?_)
     refine Au ?_
     obtain rfl:=sm hf58
     obtain rfl:=hret59 _ rfl
     obtain rfl:=sm (Bo hm)
     replace hB:=(((hB.st S68).st S98).st S109).st S122
     exact ret2 rfl (BD (cs:=[(.int .i64 0),(.slice none 0 0),(.int .i64 0),(.int .i64 0)]) rfl rfl h29.1.cellsAt) (AG rfl) ⟨hB.ext,_,_,rfl,(Vb.mono (F:=Fr 0 w121 O108) (Vb.ofAgg (cs:=[(.int .i64 0),(.slice none 0 0),(.int .i64 0),(.int .i64 0)]) (x:=(⟨0,([]:List Int),0,0⟩:Rsl)) rfl ⟨_,rfl,(Vb.nil _ _),(show inI64 0 from by decide),(show inI64 0 from by decide),(show inI64 0 from by decide)⟩) hB.out),(vErr r119)⟩
    ·
     replace hf58:=im hf58 c120
     refine o_z ?_
     refine Aj rfl (Am (Ah (Ah (Ae (o_fa rfl rfl ?_)))))
     replace h24:=((h24.st S68).st S98).st S109
     refine o_ld (hc:=Blk.cell (i:=2) (h24.1) rfl) rfl rfl ?_
     refine o_mv rfl rfl ?_
     obtain ⟨q123,e124,hf58⟩:=bs hf58
     replace h14:=((h14.st S68).st S98).st S109
     refine BL (O:=O108) (A:=All w107) (R:=fun w' F v=>Vb w' F v q123) (Fu (fun _ h=>h) (Vb.mono (F:=Fr 0 w107 O108) h14 Fr.lt) (Vb.mono (F:=Fr 0 w107 O108) h115 Fr.lt) e124) rfl rfl fun v129 w125 O126 S127 h128=>?_
     obtain rfl:=h128.bool
     cases q123
     case false =>
      replace hf58:=iF hf58
      refine o_z ?_
      refine Aj rfl (Am (Ah (Ah (Ae (o_mv rfl rfl (o_mv rfl rfl (o_geS rfl rfl rfl (fun c130=>?_) fun c130=>?_)))))))
      ·
       replace hf58:=ip hf58 c130
       refine o_z ?_
       refine Ar rfl (Ah (Ae (o_mv rfl rfl ?_)))
       obtain ⟨q131,e132,hf58⟩:=bs hf58
       refine BY (O:=O126) (R:=fun w' F v=>T2 w' F v q131) (CP Fr.lt (show inI64 (3) from by decide) r65 e132) rfl rfl fun v137 w133 O134 S135 h136=>?_
       obtain ⟨v138,v139,rfl,h140,h141⟩:=h136
       obtain ⟨cs142,rfl,v143,rfl,h144,r147,r148,r149⟩:=h140
       obtain ⟨A145,c146,rfl⟩:=h144.form
       obtain ⟨rfl,r150⟩:=h141.err
       refine o_ex rfl rfl rfl (o_ex rfl rfl rfl ?_)
       replace h29:=((((h29.st S68).st S98).st S109).st S127).st S135
       refine AV h29 rfl rfl rfl (Nat.le_of_ble_eq_true rfl) (by first|exact allOne rfl|simp [Value.cells,Value.oneCell',AQ]) fun w151 S152 h29=>?_
       replace h29:Lc 3 w151 O134 g25 30 [(.int .i64 q131.1.verdict),(.slice A145 q131.1.plan.length c146),(.int .i64 q131.1.cost),(.int .i64 q131.1.expanded)]:=h29
       refine o_as rfl rfl (o_z ?_)
       refine Au ?_
       obtain rfl:=sm hf58
       obtain rfl:=hret59 _ rfl
       obtain rfl:=sm (Bo hm)
       replace hB:=(((((hB.st S68).st S98).st S109).st S127).st S135).st S152
       replace h144:=h144.st S152
       exact ret2 rfl (BD (cs:=[(.int .i64 q131.1.verdict),(.slice A145 q131.1.plan.length c146),(.int .i64 q131.1.cost),(.int .i64 q131.1.expanded)]) rfl rfl h29.1.cellsAt) (AG rfl) ⟨hB.ext,_,_,rfl,(Vb.mono (F:=Fr 0 w151 O134) (Vb.ofAgg (cs:=[(.int .i64 q131.1.verdict),(.slice A145 q131.1.plan.length c146),(.int .i64 q131.1.cost),(.int .i64 q131.1.expanded)]) (x:=q131.1) rfl ⟨_,rfl,h144,r147,r148,r149⟩) hB.out),(vErr r150)⟩
      ·
       replace hf58:=im hf58 c130
       refine o_z ?_
       refine Aj rfl (Am (Ah (Ae (o_mv rfl rfl (o_nc rfl rfl (o_fa rfl rfl ?_))))))
       replace h69:=(h69.st S109).st S127
       refine o_ld (hc:=Blk.cell (i:=5) (h69.1) rfl) rfl rfl ?_
       refine o_mv rfl rfl ?_
       obtain ⟨q153,e154,hf58⟩:=bs hf58
       replace h91:=((h91.st S98).st S109).st S127
       replace h115:=h115.st S127
       refine BY (O:=O126) (R:=fun w' F v=>Vb w' F v q153) (Cy Fr.lt h91 h115 e154) rfl rfl fun v159 w155 O156 S157 h158=>?_
       obtain ⟨A160,c161,rfl⟩:=h158.form
       refine o_ln rfl rfl ?_
       have l163:q153.length≤9223372036854775807:=Nat.le_trans h158.len.2.1 h158.len.2.2
       have r162:inI64 (q153.length:Int):=rngNat l163
       refine o_mv rfl rfl (o_z ?_)
       replace h69:=h69.st S157
       replace h72:=(((h72.st S98).st S109).st S127).st S157
       replace h76:=(((h76.st S98).st S109).st S127).st S157
       replace h80:=(((h80.st S98).st S109).st S127).st S157
       replace h84:=(((h84.st S98).st S109).st S127).st S157
       replace h91:=h91.st S157
       replace h112:=(h112.st S127).st S157
       obtain ⟨O164,S165,hz167,ha168,h166⟩:=Spc.shut (x:=s50.2) (l0:=4) (l1:=5) (by decide) h69 h72 h76 h80 h84 h112 h91
       obtain ⟨res169,hL170,hf58⟩:=bs hf58
       refine AL (aft res169 (fun (s171:Spc) (x172:Unit)=>[(1,(.int .i64 x1)),(2,(.pointer (some ⟨g20,0,none⟩))),(4,(.pointer (some ⟨g25,0,none⟩))),(6,(.pointer (some ⟨p47,0,none⟩))),(8,(.int .i64 s50.1))]) (fun s171 x172 w'=>∃ O':Lab,Bs w A w' O'∧Lc 2 w' O' g20 26 [(.slice A9 x0.vars.length c10),(.slice A12 x0.init.length c13),(.slice A15 x0.goal.length c16),(.slice A18 x0.ops.length c19)]∧Vb w' (Fr 0 w' O') (.slice A9 x0.vars.length c10) x0.vars∧Vb w' (Fr 0 w' O') (.slice A12 x0.init.length c13) x0.init∧Vb w' (Fr 0 w' O') (.slice A15 x0.goal.length c16) x0.goal∧Vb w' (Fr 0 w' O') (.slice A18 x0.ops.length c19) x0.ops∧Lc 3 w' O' g25 30 [(.int .i64 0),(.slice none 0 0),(.int .i64 0),(.int .i64 0)]∧Ob 4 w' O' (.pointer (some ⟨p47,0,none⟩)) s171)) ?_ ?_
       ·
        refine Al ?_
        replace hB:=(((((hB.st S68).st S98).st S109).st S127).st S157).st S165
        replace h8:=(((((h8.st S68).st S98).st S109).st S127).st S157).st S165
        replace h11:=(((((h11.st S68).st S98).st S109).st S127).st S157).st S165
        replace h14:=((h14.st S127).st S157).st S165
        replace h17:=(((((h17.st S68).st S98).st S109).st S127).st S157).st S165
        replace h24:=((h24.st S127).st S157).st S165
        replace h29:=(((((h29.st S68).st S98).st S109).st S127).st S157).st S165
        replace h158:=h158.st S165
        refine BM (σ:=Spc) (X:=Unit) (q153.length) hL170 rfl l163 (fun (s171:Spc) (x172:Unit)=>[(1,(.int .i64 x1)),(2,(.pointer (some ⟨g20,0,none⟩))),(4,(.pointer (some ⟨g25,0,none⟩))),(6,(.pointer (some ⟨p47,0,none⟩))),(8,(.int .i64 s50.1)),(70,(.slice A160 q153.length c161))]) _ (fun s171 x172 w'=>∃ O':Lab,Bs w A w' O'∧Lc 2 w' O' g20 26 [(.slice A9 x0.vars.length c10),(.slice A12 x0.init.length c13),(.slice A15 x0.goal.length c16),(.slice A18 x0.ops.length c19)]∧Vb w' (Fr 0 w' O') (.slice A9 x0.vars.length c10) x0.vars∧Vb w' (Fr 0 w' O') (.slice A12 x0.init.length c13) x0.init∧Vb w' (Fr 0 w' O') (.slice A15 x0.goal.length c16) x0.goal∧Vb w' (Fr 0 w' O') (.slice A18 x0.ops.length c19) x0.ops∧Lc 3 w' O' g25 30 [(.int .i64 0),(.slice none 0 0),(.int .i64 0),(.int .i64 0)]∧Ob 4 w' O' (.pointer (some ⟨p47,0,none⟩)) s171∧Vb w' (Fr 0 w' O') (.slice A160 q153.length c161) q153) _ () ⟨O164,hB,h24,h8,h11,h14,h17,h29,h166,h158⟩ ⟨rfl,rfl,rfl,rfl,rfl,rfl,rfl,rfl,trivial⟩ (fun _ _=>⟨rfl,rfl⟩) (fun _ _=>⟨rfl,rfl,rfl,rfl,rfl,trivial⟩) (fun _ _ _ ⟨O',hB,h24,h8,h11,h14,h17,h29,h185,h158⟩=>⟨O',hB,h24,h8,h11,h14,h17,h29,h185⟩) ⟨rfl,rfl,rfl⟩ ⟨rfl,rfl⟩ ?_
        rintro k173 a174 s171 x172 w175 cc177 hx178 ⟨O176,hB,h24,h8,h11,h14,h17,h29,h185,h158⟩ hf179 hret180 hbrk181
        have rk173:inI64 (k173:Int):=rngK hx178 l163
        refine Ah (Ae ?_)
        obtain ⟨b186,o187,ce188,hA189,hl190,hd191,v193,rfl,h194,r197⟩:=h158.elem' hx178
        obtain ⟨A195,c196,rfl⟩:=h194.form
        refine o_iaE (hA:=hA189) (hj:=rfl) (hlt:=hl190) rfl rfl rfl ?_
        refine o_la (hl:=rfl) (hc:=hd191) rfl rfl ?_
        refine BR 6 O176 rfl fun g198 w199 O200 S201 h202=>?_
        refine AV h202 rfl rfl rfl (Nat.le_of_ble_eq_true rfl) (by first|exact allOne rfl|simp [Value.cells,Value.oneCell',AQ]) fun w203 S204 h202=>?_
        replace h202:Lc 6 w203 O200 g198 83 [(.int .i64 a174.op),(.slice A195 a174.state.length c196)]:=h202
        refine o_z ?_
        refine Ah ?_
        replace h185:=(h185.st S201).st S204
        obtain ⟨O205,v209,v213,v217,v221,v225,v228,S206,ha208,h207,h210,h214,h218,h222,h226,h229⟩:=Spc.opn h185 4 5 (by decide)
        obtain ⟨A211,c212,rfl⟩:=h210.form
        obtain ⟨A215,c216,rfl⟩:=h214.form
        obtain ⟨A219,c220,rfl⟩:=h218.form
        obtain ⟨A223,c224,rfl⟩:=h222.form
        obtain ⟨p227,rfl⟩:=h226.ptr
        obtain ⟨p230,rfl,hq231⟩:=h229.ptr
        refine BA [(6,[5])] O205 ?_
        refine x_pre (fuel:=8) [] [(0,true),(1,true),(2,true),(3,true),(4,true),(5,true)] (by kernel_rfl) rfl ?_
        refine h_mv rfl rfl rfl (h_nc rfl rfl rfl (h_fa rfl rfl rfl (h_ldC (hc:=fun w' ⟨O',hq⟩=>Blk.cell (i:=4) ((h207.st hq (by decide)).1) rfl) rfl rfl rfl ?_)))
        refine h_fa rfl rfl rfl ?_
        replace h202:=h202.st S206
        refine h_ldC (hc:=fun w' ⟨O',hq⟩=>Blk.cell (i:=1) ((h202.st hq (by decide)).1) rfl) rfl rfl rfl ?_
        refine AI ?_
        refine x_one (i:=6) (by kernel_rfl) rfl ?_
        obtain ⟨q232,e233,hf179⟩:=bs hf179
        replace h194:=((h194.st S201).st S204).st S206
        refine Be (O:=O205) (CG h226 h194 e233) rfl rfl fun v238 w234 O235 S236 h237=>?_
        obtain ⟨v240,v241,v242,h239,rfl,h243,h244,h245⟩:=h237
        obtain ⟨rfl,r246⟩:=h243.int
        obtain rfl:=h244.bool
        obtain ⟨rfl,r247⟩:=h245.err
        have hZ:=S236.lst [5] (fun _ h=>by cases h;decide)
        refine x_go [] hZ (by kernel_rfl) ?_
        refine x_pre (fuel:=0) [] [(7,true),(8,true),(9,true),(10,true),(11,true),(12,true),(13,true)] (by kernel_rfl) rfl ?_
        refine h_mv rfl rfl rfl (h_ex rfl rfl rfl rfl (h_ex rfl rfl rfl rfl (h_ex rfl rfl rfl rfl (h_as rfl rfl rfl (h_as rfl rfl rfl (h_as rfl rfl rfl (AI ?_)))))))
        refine x_nil (by kernel_rfl) ?_
        refine Ah (Ah (Ae (o_mv rfl rfl (o_rnS rfl rfl (fun c248=>?_) fun c248=>?_))))
        ·
         replace hf179:=ip hf179 c248
         refine o_z ?_
         refine Ar rfl (Ah (Ae (o_mv rfl rfl ?_)))
         obtain ⟨n249,e250,hf179⟩:=bs hf179
         have r251:=(Bj e250)
         refine o_adE (he:=e250) rfl rfl rfl ?_
         obtain ⟨q252,e253,hf179⟩:=bs hf179
         refine BY (O:=O235) (R:=fun w' F v=>T2 w' F v q252) (CP Fr.lt (show inI64 (3) from by decide) r251 e253) rfl rfl fun v258 w254 O255 S256 h257=>?_
         obtain ⟨v259,v260,rfl,h261,h262⟩:=h257
         obtain ⟨cs263,rfl,v264,rfl,h265,r268,r269,r270⟩:=h261
         obtain ⟨A266,c267,rfl⟩:=h265.form
         obtain ⟨rfl,r271⟩:=h262.err
         refine o_ex rfl rfl rfl (o_ex rfl rfl rfl ?_)
         replace h29:=((((h29.st S201).st S204).st S206).st S236).st S256
         refine AV h29 rfl rfl rfl (Nat.le_of_ble_eq_true rfl) (by first|exact allOne rfl|simp [Value.cells,Value.oneCell',AQ]) fun w272 S273 h29=>?_
         replace h29:Lc 3 w272 O255 g25 30 [(.int .i64 q252.1.verdict),(.slice A266 q252.1.plan.length c267),(.int .i64 q252.1.cost),(.int .i64 q252.1.expanded)]:=h29
         refine o_as rfl rfl (o_z ?_)
         refine Au ?_
         obtain rfl:=sm hf179
         obtain rfl:=hret180 _ rfl
         obtain rfl:=sm (Bo hf58)
         obtain rfl:=hret59 _ rfl
         obtain rfl:=sm (Bo hm)
         replace hB:=(((((hB.st S201).st S204).st S206).st S236).st S256).st S273
         replace h265:=h265.st S273
         exact ret2 rfl (BD (cs:=[(.int .i64 q252.1.verdict),(.slice A266 q252.1.plan.length c267),(.int .i64 q252.1.cost),(.int .i64 q252.1.expanded)]) rfl rfl h29.1.cellsAt) (AG rfl) ⟨hB.ext,_,_,rfl,(Vb.mono (F:=Fr 0 w272 O255) (Vb.ofAgg (cs:=[(.int .i64 q252.1.verdict),(.slice A266 q252.1.plan.length c267),(.int .i64 q252.1.cost),(.int .i64 q252.1.expanded)]) (x:=q252.1) rfl ⟨_,rfl,h265,r268,r269,r270⟩) hB.out),(vErr r271)⟩
        ·
         replace hf179:=im hf179 c248
         refine o_z ?_
         refine Aj rfl (Am (Ah (Ae (o_mv rfl rfl (o_z ?_)))))
         refine Cb rfl (fun c274=>?_) (fun c274=>?_)
         ·
          replace hf179:=ip hf179 c274
          refine Ah (BA [(8,[5])] O235 ?_)
          refine x_pre (fuel:=2) [] [(0,true),(1,true),(2,true),(3,true),(4,true),(5,true),(6,true),(7,true)] (by kernel_rfl) rfl ?_
          refine h_mv rfl rfl rfl (h_nc rfl rfl rfl (h_fa rfl rfl rfl ?_))
          replace h207:=h207.st S236
          refine h_ldC (hc:=fun w' ⟨O',hq⟩=>Blk.cell (i:=4) ((h207.st hq (by decide)).1) rfl) rfl rfl rfl ?_
          refine h_mv rfl rfl rfl (h_mv rfl rfl rfl (h_fa rfl rfl rfl ?_))
          replace h202:=h202.st S236
          refine h_ldC (hc:=fun w' ⟨O',hq⟩=>Blk.cell (i:=0) ((h202.st hq (by decide)).1) rfl) rfl rfl rfl ?_
          refine AI ?_
          refine x_one (i:=8) (by kernel_rfl) rfl ?_
          obtain ⟨q275,e276,hf179⟩:=bs hf179
          refine Be (O:=O235) (Dw h239 r246 r65 r197 (show inI64 (0) from by decide) e276) rfl rfl fun v281 w277 O278 S279 h280=>?_
          obtain ⟨h282,h283⟩:=h280
          obtain ⟨rfl,r284⟩:=h283.err
          have hZ:=S279.lst [5] (fun _ h=>by cases h;decide)
          refine x_go [] hZ (by kernel_rfl) ?_
          refine x_pre (fuel:=0) [] [(9,true)] (by kernel_rfl) rfl ?_
          refine h_as rfl rfl rfl (AI ?_)
          refine x_nil (by kernel_rfl) ?_
          refine Ah (Ae (o_mv rfl rfl (o_rnS rfl rfl (fun c285=>?_) fun c285=>?_)))
          ·
           replace hf179:=ip hf179 c285
           refine o_z ?_
           refine Ar rfl (Ah (Ae (o_bd rfl rfl rfl ?_)))
           refine o_mv rfl rfl ?_
           replace h29:=((((h29.st S201).st S204).st S206).st S236).st S279
           refine AV h29 rfl rfl rfl (Nat.le_of_ble_eq_true rfl) (by first|exact allOne rfl|simp [Value.cells,Value.oneCell',AQ]) fun w286 S287 h29=>?_
           replace h29:Lc 3 w286 O278 g25 30 [(.int .i64 0),(.slice none 0 0),(.int .i64 0),(.int .i64 0)]:=h29
           refine o_as rfl rfl (o_z ?_)
           refine Au ?_
           obtain rfl:=sm hf179
           obtain rfl:=hret180 _ rfl
           obtain rfl:=sm (Bo hf58)
           obtain rfl:=hret59 _ rfl
           obtain rfl:=sm (Bo hm)
           replace hB:=(((((hB.st S201).st S204).st S206).st S236).st S279).st S287
           exact ret2 rfl (BD (cs:=[(.int .i64 0),(.slice none 0 0),(.int .i64 0),(.int .i64 0)]) rfl rfl h29.1.cellsAt) (AG rfl) ⟨hB.ext,_,_,rfl,(Vb.mono (F:=Fr 0 w286 O278) (Vb.ofAgg (cs:=[(.int .i64 0),(.slice none 0 0),(.int .i64 0),(.int .i64 0)]) (x:=(⟨0,([]:List Int),0,0⟩:Rsl)) rfl ⟨_,rfl,(Vb.nil _ _),(show inI64 0 from by decide),(show inI64 0 from by decide),(show inI64 0 from by decide)⟩) hB.out),(vErr r284)⟩
          ·
           replace hf179:=im hf179 c285
           refine o_z ?_
           refine Aj rfl (Am ?_)
           replace h207:=h207.st S279
           replace h210:=(h210.st S236).st S279
           replace h214:=(h214.st S236).st S279
           replace h218:=(h218.st S236).st S279
           replace h222:=(h222.st S236).st S279
           replace h229:=(h229.st S236).st S279
           obtain ⟨O288,S289,hz291,ha292,h290⟩:=Spc.shut (x:=(⟨(⟨s171.t.vars,s171.t.init,s171.t.goal,s171.t.ops⟩:Tsk),q275.2,s171.gen⟩:Spc)) (l0:=4) (l1:=5) (by decide) h207 h210 h214 h218 h222 h282 h229
           obtain rfl:=sm hf179
           refine (?_:Exists _)
           replace hB:=(((((hB.st S201).st S204).st S206).st S236).st S279).st S289
           replace h8:=(((((h8.st S201).st S204).st S206).st S236).st S279).st S289
           replace h11:=(((((h11.st S201).st S204).st S206).st S236).st S279).st S289
           replace h14:=(((((h14.st S201).st S204).st S206).st S236).st S279).st S289
           replace h17:=(((((h17.st S201).st S204).st S206).st S236).st S279).st S289
           replace h24:=(((((h24.st S201).st S204).st S206).st S236).st S279).st S289
           replace h29:=(((((h29.st S201).st S204).st S206).st S236).st S279).st S289
           replace h158:=(((((h158.st S201).st S204).st S206).st S236).st S279).st S289
           exact ⟨_,(),rfl,⟨rfl,rfl,rfl,rfl,rfl,rfl,rfl,rfl,trivial⟩,_,hB,h24,h8,h11,h14,h17,h29,h290,h158⟩
         ·
          replace hf179:=im' hf179 c274
          refine Am ?_
          replace h207:=h207.st S236
          replace h210:=h210.st S236
          replace h214:=h214.st S236
          replace h218:=h218.st S236
          replace h222:=h222.st S236
          replace h229:=h229.st S236
          obtain ⟨O293,S294,hz296,ha297,h295⟩:=Spc.shut (x:=(⟨(⟨s171.t.vars,s171.t.init,s171.t.goal,s171.t.ops⟩:Tsk),q232.2.2.2,s171.gen⟩:Spc)) (l0:=4) (l1:=5) (by decide) h207 h210 h214 h218 h222 h239 h229
          obtain rfl:=sm hf179
          refine (?_:Exists _)
          replace hB:=((((hB.st S201).st S204).st S206).st S236).st S294
          replace h8:=((((h8.st S201).st S204).st S206).st S236).st S294
          replace h11:=((((h11.st S201).st S204).st S206).st S236).st S294
          replace h14:=((((h14.st S201).st S204).st S206).st S236).st S294
          replace h17:=((((h17.st S201).st S204).st S206).st S236).st S294
          replace h24:=((((h24.st S201).st S204).st S206).st S236).st S294
          replace h29:=((((h29.st S201).st S204).st S206).st S236).st S294
          replace h158:=((((h158.st S201).st S204).st S206).st S236).st S294
          exact ⟨_,(),rfl,⟨rfl,rfl,rfl,rfl,rfl,rfl,rfl,rfl,trivial⟩,_,hB,h24,h8,h11,h14,h17,h29,h295,h158⟩
       replace hB:=(((((hB.st S68).st S98).st S109).st S127).st S157).st S165
       replace h8:=(((((h8.st S68).st S98).st S109).st S127).st S157).st S165
       replace h11:=(((((h11.st S68).st S98).st S109).st S127).st S157).st S165
       replace h14:=((h14.st S127).st S157).st S165
       replace h17:=(((((h17.st S68).st S98).st S109).st S127).st S157).st S165
       replace h24:=((h24.st S127).st S157).st S165
       replace h29:=(((((h29.st S68).st S98).st S109).st S127).st S157).st S165
       rintro l298 w299 ⟨s302,x303,rfl,hs301,O300,hB,h24,h8,h11,h14,h17,h29,h185⟩
       replace hf58:=AY hf58
       refine AP _ hs301 ?_
       refine Ae (o_mv rfl rfl ?_)
       obtain ⟨n304,e305,hf58⟩:=bs hf58
       have r306:=(Bj e305)
       refine o_adE (he:=e305) rfl rfl rfl ?_
       refine o_as rfl rfl (o_z ?_)
       obtain rfl:=sm hf58
       refine (?_:Exists _)
       exact ⟨_,(),rfl,⟨rfl,rfl,rfl,rfl,rfl,trivial⟩,_,hB,h24,h8,h11,h14,h17,h29,h185,r306⟩
     replace hf58:=iT hf58
     refine o_z ?_
     refine Ar rfl (Ah (Ae (o_mv rfl rfl (o_mv rfl rfl (o_mv rfl rfl ?_)))))
     replace h69:=(h69.st S109).st S127
     replace h72:=((h72.st S98).st S109).st S127
     replace h76:=((h76.st S98).st S109).st S127
     replace h80:=((h80.st S98).st S109).st S127
     replace h84:=((h84.st S98).st S109).st S127
     replace h91:=((h91.st S98).st S109).st S127
     replace h112:=h112.st S127
     obtain ⟨O307,S308,hz310,ha311,h309⟩:=Spc.shut (x:=s50.2) (l0:=4) (l1:=5) (by decide) h69 h72 h76 h80 h84 h112 h91
     obtain ⟨q312,e313,hf58⟩:=bs hf58
     refine Be (O:=O307) (Ej h309 r65 r65 e313) rfl rfl fun v318 w314 O315 S316 h317=>?_
     obtain ⟨v320,v321,h319,rfl,h322,h323⟩:=h317
     obtain ⟨cs324,rfl,v325,rfl,h326,r329,r330,r331⟩:=h322
     obtain ⟨A327,c328,rfl⟩:=h326.form
     obtain ⟨rfl,r332⟩:=h323.err
     refine o_ex rfl rfl rfl (o_ex rfl rfl rfl ?_)
     replace h29:=(((((h29.st S68).st S98).st S109).st S127).st S308).st S316
     refine AV h29 rfl rfl rfl (Nat.le_of_ble_eq_true rfl) (by first|exact allOne rfl|simp [Value.cells,Value.oneCell',AQ]) fun w333 S334 h29=>?_
     replace h29:Lc 3 w333 O315 g25 30 [(.int .i64 q312.1.verdict),(.slice A327 q312.1.plan.length c328),(.int .i64 q312.1.cost),(.int .i64 q312.1.expanded)]:=h29
     refine o_as rfl rfl (o_z ?_)
     refine Au ?_
     obtain rfl:=sm hf58
     obtain rfl:=hret59 _ rfl
     obtain rfl:=sm (Bo hm)
     replace hB:=((((((hB.st S68).st S98).st S109).st S127).st S308).st S316).st S334
     replace h326:=h326.st S334
     exact ret2 rfl (BD (cs:=[(.int .i64 q312.1.verdict),(.slice A327 q312.1.plan.length c328),(.int .i64 q312.1.cost),(.int .i64 q312.1.expanded)]) rfl rfl h29.1.cellsAt) (AG rfl) ⟨hB.ext,_,_,rfl,(Vb.mono (F:=Fr 0 w333 O315) (Vb.ofAgg (cs:=[(.int .i64 q312.1.verdict),(.slice A327 q312.1.plan.length c328),(.int .i64 q312.1.cost),(.int .i64 q312.1.expanded)]) (x:=q312.1) rfl ⟨_,rfl,h326,r329,r330,r331⟩) hB.out),(vErr r332)⟩
   ·
    replace hf58:=im hf58 c104
    refine o_z ?_
    refine Aj rfl (At ?_)
    replace h69:=h69.st S98
    replace h72:=h72.st S98
    replace h76:=h76.st S98
    replace h80:=h80.st S98
    replace h84:=h84.st S98
    replace h91:=h91.st S98
    obtain ⟨O335,S336,hz338,ha339,h337⟩:=Spc.shut (x:=s50.2) (l0:=4) (l1:=5) (by decide) h69 h72 h76 h80 h84 h101 h91
    obtain rfl:=sm hf58
    refine (?_:Exists _)
    replace hB:=((hB.st S68).st S98).st S336
    replace h29:=((h29.st S68).st S98).st S336
    exact ⟨_,(),hbrk60 _ rfl,⟨rfl,rfl,trivial⟩,_,hB,h29,h337,r65⟩
  replace hB:=((hB.st S23).st S28).st S34
  replace h29:=h29.st S34
  rintro l340 w341 ⟨s344,x345,rfl,hs343,O342,hB,h29,h66,r65⟩
  replace hm:=AY hm
  refine AP _ hs343 ?_
  refine Ah (Ae (o_mv rfl rfl (o_nc rfl rfl ?_)))
  obtain ⟨O346,v350,v354,v358,v362,v366,v369,S347,ha349,h348,h351,h355,h359,h363,h367,h370⟩:=Spc.opn h66 4 5 (by decide)
  obtain ⟨A352,c353,rfl⟩:=h351.form
  obtain ⟨A356,c357,rfl⟩:=h355.form
  obtain ⟨A360,c361,rfl⟩:=h359.form
  obtain ⟨A364,c365,rfl⟩:=h363.form
  obtain ⟨p368,rfl⟩:=h367.ptr
  obtain ⟨p371,rfl,hq372⟩:=h370.ptr
  refine o_fa rfl rfl (o_ld (hc:=Blk.cell (i:=4) (h348.1) rfl) rfl rfl ?_)
  obtain ⟨q373,e374,hm⟩:=bs hm
  refine Be (O:=O346) (BS h367 e374) rfl rfl fun v379 w375 O376 S377 h378=>?_
  obtain ⟨h380,h381⟩:=h378
  obtain ⟨rfl,r382⟩:=h381.int
  obtain ⟨q383,e384,hm⟩:=bs hm
  refine BY (O:=O376) (R:=fun w' F v=>T2 w' F v q383) (CP Fr.lt (show inI64 (2) from by decide) r382 e384) rfl rfl fun v389 w385 O386 S387 h388=>?_
  obtain ⟨v390,v391,rfl,h392,h393⟩:=h388
  obtain ⟨cs394,rfl,v395,rfl,h396,r399,r400,r401⟩:=h392
  obtain ⟨A397,c398,rfl⟩:=h396.form
  obtain ⟨rfl,r402⟩:=h393.err
  refine o_ex rfl rfl rfl (o_ex rfl rfl rfl ?_)
  replace h29:=((h29.st S347).st S377).st S387
  refine AV h29 rfl rfl rfl (Nat.le_of_ble_eq_true rfl) (by first|exact allOne rfl|simp [Value.cells,Value.oneCell',AQ]) fun w403 S404 h29=>?_
  replace h29:Lc 3 w403 O386 g25 30 [(.int .i64 q383.1.verdict),(.slice A397 q383.1.plan.length c398),(.int .i64 q383.1.cost),(.int .i64 q383.1.expanded)]:=h29
  refine o_as rfl rfl (o_z ?_)
  refine Au ?_
  obtain rfl:=sm hm
  replace hB:=(((hB.st S347).st S377).st S387).st S404
  replace h396:=h396.st S404
  exact ret2 rfl (BD (cs:=[(.int .i64 q383.1.verdict),(.slice A397 q383.1.plan.length c398),(.int .i64 q383.1.cost),(.int .i64 q383.1.expanded)]) rfl rfl h29.1.cellsAt) (AG rfl) ⟨hB.ext,_,_,rfl,(Vb.mono (F:=Fr 0 w403 O386) (Vb.ofAgg (cs:=[(.int .i64 q383.1.verdict),(.slice A397 q383.1.plan.length c398),(.int .i64 q383.1.cost),(.int .i64 q383.1.expanded)]) (x:=q383.1) rfl ⟨_,rfl,h396,r399,r400,r401⟩) hB.out),(vErr r402)⟩
noncomputable def CU (x0:Tsk) (x1:Int):Option (Rsl×Err) :=
  bnd (BQ x0) fun q30=>if q30.2.n≠0 then (some ((⟨0,([]:List Int),0,0⟩:Rsl),(⟨q30.2.n⟩:Err))) else (bnd q30.1 fun o68=>bnd (lop (ρ:=Rsl×Err) (fun (s78:(List Int)×(List Bool)×Int×Int×Spc×(BxR 98 96 Itm))=>bnd (Cc s78.2.2.2.2.2.l) fun q116=>if 0 < q116 then (bnd (CA s78.2.2.2.2.2) fun q130=>bnd (atI s78.2.1 q130.1.x.id) fun a152=>if a152=true then (some (.next (s78.1,s78.2.1,s78.2.2.1,s78.2.2.2.1,s78.2.2.2.2.1,q130.2))) else (bnd (Bb s78.2.2.2.2.1.reg q130.1.x.id) fun q191=>if q191.2.n≠0 then (some (.ret ((⟨0,([]:List Int),0,0⟩:Rsl),(⟨q191.2.n⟩:Err)))) else (bnd (Cw x0.goal q191.1) fun q209=>if q209=true then bnd (Bn s78.2.2.2.2.1 q130.1.x.id s78.2.2.2.1) fun q581=>some (.ret (q581.1,(⟨q581.2.n⟩:Err))) else if x1≤s78.2.2.2.1 then (bnd (Bf 3 s78.2.2.2.1) fun q217=>some (.ret (q217.1,(⟨q217.2.n⟩:Err)))) else (bnd (atI s78.2.1 q130.1.x.id) fun a239=>bnd (chkI (s78.2.2.2.1 + 1)) fun n252=>bnd (AT s78.2.2.2.2.1.gen q191.1) fun q255=>bnd (rng (ρ:=Ctl ((List Int)×(List Bool)×Int×Int×Spc×(BxR 98 96 Itm)) (Rsl×Err)) (fun (k275:Nat) (a276:Suc) (s273:(List Int)×(List Bool)×Int×Spc×(BxR 98 96 Itm))=>bnd (AW s273.2.2.2.1.reg a276.state) fun q346=>if q346.2.2.1.n≠0 then (bnd (Bf 3 n252) fun q363=>some (.ret (.ret (q363.1,(⟨q363.2.n⟩:Err))))) else (bnd (atI x0.ops a276.op) fun a385=>bnd (chkI (q130.1.x.cost + a385.cost)) fun n406=>bnd (if q346.2.1=true then (bnd (appI 8 s273.1 [n406]) fun u418=>bnd (appI 1 s273.2.1 [false]) fun u430=>some (.done (u418,u430))) else (bnd (bnd (atI s273.2.1 q346.1) fun a451=>if a451=true then (some true) else (bnd (atI s273.1 q346.1) fun a468=>if a468≤n406 then (some true) else (some false)):Option Bool) fun y447=>if y447=true then (some (.ret (.next (s273.1,s273.2.1,s273.2.2.1,(⟨(⟨s273.2.2.2.1.t.vars,s273.2.2.2.1.t.init,s273.2.2.2.1.t.goal,s273.2.2.2.1.t.ops⟩:Tsk),q346.2.2.2,s273.2.2.2.1.gen⟩:Spc),s273.2.2.2.2)))) else (some (.done (s273.1,s273.2.1)))):Option (Fin ((List Int)×(List Bool)) (Ctl ((List Int)×(List Bool)×Int×Spc×(BxR 98 96 Itm)) (Ctl ((List Int)×(List Bool)×Int×Int×Spc×(BxR 98 96 Itm)) (Rsl×Err))))) fun y409=>fin y409 fun (s411:(List Int)×(List Bool))=>bnd (atI s411.1 q346.1) fun a500=>bnd (Bc ((⟨(⟨s273.2.2.2.1.t.vars,s273.2.2.2.1.t.init,s273.2.2.2.1.t.goal,s273.2.2.2.1.t.ops⟩:Tsk),q346.2.2.2,s273.2.2.2.1.gen⟩:Spc).reg) q346.1 q130.1.x.id a276.op n406) fun q541=>if q541.1.n≠0 then (some (.ret (.ret ((⟨0,([]:List Int),0,0⟩:Rsl),(⟨q541.1.n⟩:Err))))) else (bnd (Cu s273.2.2.2.2 (⟨(⟨n406,s273.2.2.1,q346.1⟩:Itm)⟩:An 96 Itm)) fun q554=>bnd (chkI (s273.2.2.1 + 1)) fun n562=>some (.next ((s411.1.set (q346.1:Int).toNat n406),s411.2,n562,(⟨(⟨(⟨(⟨s273.2.2.2.1.t.vars,s273.2.2.2.1.t.init,s273.2.2.2.1.t.goal,s273.2.2.2.1.t.ops⟩:Tsk),q346.2.2.2,s273.2.2.2.1.gen⟩:Spc).t.vars,(⟨(⟨s273.2.2.2.1.t.vars,s273.2.2.2.1.t.init,s273.2.2.2.1.t.goal,s273.2.2.2.1.t.ops⟩:Tsk),q346.2.2.2,s273.2.2.2.1.gen⟩:Spc).t.init,(⟨(⟨s273.2.2.2.1.t.vars,s273.2.2.2.1.t.init,s273.2.2.2.1.t.goal,s273.2.2.2.1.t.ops⟩:Tsk),q346.2.2.2,s273.2.2.2.1.gen⟩:Spc).t.goal,(⟨(⟨s273.2.2.2.1.t.vars,s273.2.2.2.1.t.init,s273.2.2.2.1.t.goal,s273.2.2.2.1.t.ops⟩:Tsk),q346.2.2.2,s273.2.2.2.1.gen⟩:Spc).t.ops⟩:Tsk),q541.2,(⟨(⟨s273.2.2.2.1.t.vars,s273.2.2.2.1.t.init,s273.2.2.2.1.t.goal,s273.2.2.2.1.t.ops⟩:Tsk),q346.2.2.2,s273.2.2.2.1.gen⟩:Spc).gen⟩:Spc),q554))))) q255 0 (s78.1,(s78.2.1.set (q130.1.x.id:Int).toNat true),s78.2.2.1,s78.2.2.2.2.1,q130.2)) fun res271=>fin res271 fun (s574:(List Int)×(List Bool)×Int×Spc×(BxR 98 96 Itm))=>some (.next (s574.1,s574.2.1,s574.2.2.1,n252,s574.2.2.2.1,s574.2.2.2.2)))))) else (some (.brk (s78.1,s78.2.1,s78.2.2.1,s78.2.2.2.1,s78.2.2.2.2.1,s78.2.2.2.2.2)))) (([0]:List Int),[false],1,0,o68,(⟨[(⟨0,0,0⟩:Itm)]⟩:BxR 98 96 Itm))) fun res76=>fin res76 fun (s613:(List Int)×(List Bool)×Int×Int×Spc×(BxR 98 96 Itm))=>bnd (Bf 2 s613.2.2.2.1) fun q615=>some (q615.1,(⟨q615.2.n⟩:Err)))
theorem HA {w:World} {A:Nat→Prop} (hA:∀ k,A k→k < w.heap.size) {vx0:Value} {x0:Tsk} (hx0:Vb w A vx0 x0) {x1:Int} (rx1:inI64 x1) {r:Rsl×Err} (hm:CU x0 x1=some r) :
    Fn Try.prog 20 [vx0,(.int .i64 x1)] w fun v w'=>Ext w w'∧T2 w' (upA A w w') v r:=by
 obtain ⟨O,hB,hA0⟩:=enter hA
 replace hx0:=hx0.mono hA0
 obtain ⟨cs3,rfl,v4,v5,v6,v7,rfl,h8,h11,h14,h17⟩:=hx0
 obtain ⟨A9,c10,rfl⟩:=h8.form
 obtain ⟨A12,c13,rfl⟩:=h11.form
 obtain ⟨A15,c16,rfl⟩:=h14.form
 obtain ⟨A18,c19,rfl⟩:=h17.form
 refine AK Try.func20 rfl Try.ntmps20 rfl ?_
 unfold CU at hm
 refine Ah (Ae (l_box 2 O rfl rfl fun g20 w21 O22 S23 h24=>?_))
 replace h24:Lc 2 w21 O22 g20 26 [(.slice A9 x0.vars.length c10),(.slice A12 x0.init.length c13),(.slice A15 x0.goal.length c16),(.slice A18 x0.ops.length c19)]:=h24
 refine BR 3 O22 rfl fun g25 w26 O27 S28 h29=>?_
 refine o_as rfl rfl (o_z ?_)
 refine Ah (Ae ?_)
 replace h24:=h24.st S28
 refine o_la (hl:=rfl) (hc:=(h24.1).cellsAt) rfl rfl ?_
 obtain ⟨q30,e31,hm⟩:=bs hm
 replace h8:=(h8.st S23).st S28
 replace h11:=(h11.st S23).st S28
 replace h14:=(h14.st S23).st S28
 replace h17:=(h17.st S23).st S28
 refine Be (O:=O27) (ED (Vb.ofAgg (cs:=[(.slice A9 x0.vars.length c10),(.slice A12 x0.init.length c13),(.slice A15 x0.goal.length c16),(.slice A18 x0.ops.length c19)]) (x:=x0) rfl ⟨_,_,_,_,rfl,h8,h11,h14,h17⟩) 4 (by decide) e31) rfl rfl fun v36 w32 O33 S34 h35=>?_
 obtain ⟨v37,v38,rfl,h39,h40⟩:=h35
 obtain ⟨rfl,r41⟩:=h40.err
 refine o_mv rfl rfl (o_ex rfl rfl rfl (o_ex rfl rfl rfl (o_as rfl rfl (o_as rfl rfl (o_z ?_)))))
 refine Ah (Ah (Ae (o_mv rfl rfl (o_rnS rfl rfl (fun c42=>?_) fun c42=>?_))))
 ·
  replace hm:=ip hm c42
  refine o_z ?_
  refine Ar rfl (Ah (Ae (o_bd rfl rfl rfl ?_)))
  refine o_mv rfl rfl ?_
  replace h29:=h29.st S34
  refine AV h29 rfl rfl rfl (Nat.le_of_ble_eq_true rfl) (by first|exact allOne rfl|simp [Value.cells,Value.oneCell',AQ]) fun w43 S44 h29=>?_
  replace h29:Lc 3 w43 O33 g25 30 [(.int .i64 0),(.slice none 0 0),(.int .i64 0),(.int .i64 0)]:=h29
  refine o_as rfl rfl (o_z ?_)
  refine Au ?_
  obtain rfl:=sm hm
  replace hB:=(((hB.st S23).st S28).st S34).st S44
  exact ret2 rfl (BD (cs:=[(.int .i64 0),(.slice none 0 0),(.int .i64 0),(.int .i64 0)]) rfl rfl h29.1.cellsAt) (AG rfl) ⟨hB.ext,_,_,rfl,(Vb.mono (F:=Fr 0 w43 O33) (Vb.ofAgg (cs:=[(.int .i64 0),(.slice none 0 0),(.int .i64 0),(.int .i64 0)]) (x:=(⟨0,([]:List Int),0,0⟩:Rsl)) rfl ⟨_,rfl,(Vb.nil _ _),(show inI64 0 from by decide),(show inI64 0 from by decide),(show inI64 0 from by decide)⟩) hB.out),(vErr r41)⟩
 ·
  replace hm:=im hm c42
  refine o_z ?_
  refine Aj rfl (Am (Ah (Ae (BG 5 (by decide) O33 (xs:=(([0]:List Int):List Int)) rfl rfl rfl rfl ⟨(vInt (show inI64 (0) from by decide)),trivial⟩ (by decide) (by decide) rfl fun g45 w46 O47 S48 h49=>?_))))
  refine BG 6 (by decide) O47 (xs:=([false]:List Bool)) rfl rfl rfl rfl ⟨vBool,trivial⟩ (by decide) (by decide) rfl fun g51 w52 O53 S54 h55=>?_
  refine o_as rfl rfl (o_as rfl rfl (o_z ?_))
  refine Ah (Ae (o_bd rfl rfl rfl ?_))
  refine BG 7 (by decide) O53 (xs:=([(⟨0,0,0⟩:Itm)]:List Itm)) rfl rfl rfl rfl ⟨(Vb.ofAgg (cs:=[(.int .i64 0),(.int .i64 0),(.int .i64 0)]) (x:=(⟨0,0,0⟩:Itm)) rfl ⟨rfl,(show inI64 0 from by decide),(show inI64 0 from by decide),(show inI64 0 from by decide)⟩),trivial⟩ (by decide) (by decide) rfl fun g57 w58 O59 S60 h61=>?_
  refine l_box 8 O59 rfl rfl fun g63 w64 O65 S66 h67=>?_
  refine o_as rfl rfl (o_z ?_)
  refine Ah (Ae (o_as rfl rfl (o_as rfl rfl (o_z ?_))))
  refine Ah ?_
  obtain ⟨o68,e69,hm⟩:=bs hm
  replace h39:=(((h39.st S48).st S54).st S60).st S66
  rw [e69] at h39
  obtain ⟨p70,rfl⟩:=Ob.ptr h39
  replace h61:=h61.st S66
  obtain ⟨O71,S72,hz74,ha75,h73⟩:=BxR.shut (x:=(⟨[(⟨0,0,0⟩:Itm)]⟩:BxR 98 96 Itm)) (l0:=8) (l1:=7) (by decide) h67 h61
  obtain ⟨res76,hL77,hm⟩:=bs hm
  refine AL (aft res76 (fun (s78:(List Int)×(List Bool)×Int×Int×Spc×(BxR 98 96 Itm)) (x79:(Option Addr×Nat)×(Option Addr×Nat))=>[(4,(.pointer (some ⟨g25,0,none⟩))),(12,(.int .i64 s78.2.2.2.1))]) (fun s78 x79 w'=>∃ O':Lab,Bs w A w' O'∧Lc 3 w' O' g25 30 [(.int .i64 0),(.slice none 0 0),(.int .i64 0),(.int .i64 0)]∧inI64 s78.2.2.1∧inI64 s78.2.2.2.1)) ?_ ?_
  ·
   refine Al ?_
   replace hB:=(((((((hB.st S23).st S28).st S34).st S48).st S54).st S60).st S66).st S72
   replace h8:=(((((h8.st S34).st S48).st S54).st S60).st S66).st S72
   replace h11:=(((((h11.st S34).st S48).st S54).st S60).st S66).st S72
   replace h14:=(((((h14.st S34).st S48).st S54).st S60).st S66).st S72
   replace h17:=(((((h17.st S34).st S48).st S54).st S60).st S66).st S72
   replace h24:=(((((h24.st S34).st S48).st S54).st S60).st S66).st S72
   replace h29:=(((((h29.st S34).st S48).st S54).st S60).st S66).st S72
   replace h39:=h39.st S72
   replace h49:=(((h49.st S54).st S60).st S66).st S72
   replace h55:=((h55.st S60).st S66).st S72
   refine DZ (σ:=(List Int)×(List Bool)×Int×Int×Spc×(BxR 98 96 Itm)) (X:=(Option Addr×Nat)×(Option Addr×Nat)) hL77 (fun (s78:(List Int)×(List Bool)×Int×Int×Spc×(BxR 98 96 Itm)) (x79:(Option Addr×Nat)×(Option Addr×Nat))=>[(1,(.int .i64 x1)),(2,(.pointer (some ⟨g20,0,none⟩))),(4,(.pointer (some ⟨g25,0,none⟩))),(6,(.pointer (some ⟨p70,0,none⟩))),(8,(.slice x79.1.1 s78.1.length x79.1.2)),(9,(.slice x79.2.1 s78.2.1.length x79.2.2)),(10,(.pointer (some ⟨g63,0,none⟩))),(11,(.int .i64 s78.2.2.1)),(12,(.int .i64 s78.2.2.2.1))]) _ (fun s78 x79 w'=>∃ O':Lab,Bs w A w' O'∧Lc 2 w' O' g20 26 [(.slice A9 x0.vars.length c10),(.slice A12 x0.init.length c13),(.slice A15 x0.goal.length c16),(.slice A18 x0.ops.length c19)]∧Vb w' (Fr 0 w' O') (.slice A9 x0.vars.length c10) x0.vars∧Vb w' (Fr 0 w' O') (.slice A12 x0.init.length c13) x0.init∧Vb w' (Fr 0 w' O') (.slice A15 x0.goal.length c16) x0.goal∧Vb w' (Fr 0 w' O') (.slice A18 x0.ops.length c19) x0.ops∧Lc 3 w' O' g25 30 [(.int .i64 0),(.slice none 0 0),(.int .i64 0),(.int .i64 0)]∧Ob 4 w' O' (.pointer (some ⟨p70,0,none⟩)) s78.2.2.2.2.1∧Rw 5 w' O' 3 (.slice x79.1.1 s78.1.length x79.1.2) s78.1∧Rw 6 w' O' 4 (.slice x79.2.1 s78.2.1.length x79.2.2) s78.2.1∧Ob 8 w' O' (.pointer (some ⟨g63,0,none⟩)) s78.2.2.2.2.2∧inI64 s78.2.2.1∧inI64 s78.2.2.2.1) _ (((some ⟨g45,0,none⟩),1),((some ⟨g51,0,none⟩),1)) ⟨O71,hB,h24,h8,h11,h14,h17,h29,h39,h49,h55,h73,(show inI64 (1) from by decide),(show inI64 (0) from by decide)⟩ ⟨rfl,rfl,rfl,rfl,rfl,rfl,rfl,rfl,rfl,trivial⟩ ?_
   rintro s78 x79 w82 cc84 ⟨O83,hB,h24,h8,h11,h14,h17,h29,h105,h99,h101,h106,r103,r104⟩ hf86 hret87 hbrk88
   refine Ah (Ah (Ae (o_mv rfl rfl (o_nc rfl rfl ?_))))
   obtain ⟨O107,v111,S108,ha110,h109,h112⟩:=BxR.opn h106 8 9 (by decide)
   obtain ⟨A113,c114,rfl⟩:=h112.form
   refine o_ld (hc:=Blk.cell (i:=0) (h109.1) rfl) rfl rfl ?_
   obtain ⟨q116,e117,hf86⟩:=bs hf86
   refine BL (O:=O107) (A:=All w82) (R:=fun w' F v=>Vb w' F v q116) (DM (fun _ h=>h) (h112).all e117) rfl rfl fun v122 w118 O119 S120 h121=>?_
   obtain ⟨rfl,r123⟩:=h121.int
   refine o_gtS rfl rfl rfl (fun c124=>?_) fun c124=>?_
   ·
    replace hf86:=ip hf86 c124
    refine o_z ?_
    refine Ar rfl (Am (Al (Ah (Ae (o_mv rfl rfl (o_miA rfl rfl ?_))))))
    replace h109:=h109.st S120
    replace h112:=h112.st S120
    obtain ⟨O125,S126,hz128,ha129,h127⟩:=BxR.shut (x:=s78.2.2.2.2.2) (l0:=8) (l1:=9) (by decide) h109 h112
    obtain ⟨q130,e131,hf86⟩:=bs hf86
    refine Be (O:=O125) (GC h127 e131) rfl rfl fun v136 w132 O133 S134 h135=>?_
    obtain ⟨h137,h138⟩:=h135
    obtain ⟨v139,rfl,h140⟩:=h138.any
    obtain ⟨cs141,rfl,rfl,r142,r143,r144⟩:=h140
    refine o_taA rfl rfl ?_
    refine o_mv rfl rfl (o_ex rfl rfl rfl (o_ex rfl rfl rfl (BR 10 O133 rfl fun g145 w146 O147 S148 h149=>?_)))
    refine AV h149 rfl rfl rfl (Nat.le_of_ble_eq_true rfl) (by first|exact allOne rfl|simp [Value.cells,Value.oneCell',AQ]) fun w150 S151 h149=>?_
    replace h149:Lc 10 w150 O147 g145 96 [(.int .i64 q130.1.x.cost),(.int .i64 q130.1.x.order),(.int .i64 q130.1.x.id)]:=h149
    refine o_as rfl rfl (o_z ?_)
    refine Ah (Ah (Ae (o_mv rfl rfl (o_fa rfl rfl (o_ld (hc:=Blk.cell (i:=2) (h149.1) rfl) rfl rfl ?_)))))
    obtain ⟨a152,e153,hf86⟩:=bs hf86
    obtain ⟨p155,x154⟩:=AM e153
    replace h101:=(((((h101.st S108).st S120).st S126).st S134).st S148).st S151
    obtain ⟨b156,o157,ce158,hA159,hl160,hd161,rfl⟩:=h101.elem x154
    refine o_iaE (hA:=hA159) (hj:=(Int.toNat_of_nonneg p155).symm) (hlt:=hl160) rfl rfl rfl ?_
    refine o_ld (hc:=cat0 hd161) rfl rfl ?_
    refine o_z ?_
    refine Cb rfl (fun c163=>?_) (fun c163=>?_)
    ·
     replace hf86:=ip hf86 c163
     refine At ?_
     obtain rfl:=sm hf86
     refine (?_:Exists _)
     replace hB:=(((((hB.st S108).st S120).st S126).st S134).st S148).st S151
     replace h8:=(((((h8.st S108).st S120).st S126).st S134).st S148).st S151
     replace h11:=(((((h11.st S108).st S120).st S126).st S134).st S148).st S151
     replace h14:=(((((h14.st S108).st S120).st S126).st S134).st S148).st S151
     replace h17:=(((((h17.st S108).st S120).st S126).st S134).st S148).st S151
     replace h24:=(((((h24.st S108).st S120).st S126).st S134).st S148).st S151
     replace h29:=(((((h29.st S108).st S120).st S126).st S134).st S148).st S151
     replace h99:=(((((h99.st S108).st S120).st S126).st S134).st S148).st S151
     replace h105:=(((((h105.st S108).st S120).st S126).st S134).st S148).st S151
     replace h137:=(h137.st S148).st S151
     exact ⟨_,((x79.1.1,x79.1.2),(x79.2.1,x79.2.2)),rfl,⟨rfl,rfl,rfl,rfl,rfl,rfl,rfl,rfl,rfl,trivial⟩,_,hB,h24,h8,h11,h14,h17,h29,h105,h99,h101,h137,r103,r104⟩
    ·
     replace hf86:=im' hf86 c163
     refine Am (Ah ?_)
     replace h105:=(((((h105.st S108).st S120).st S126).st S134).st S148).st S151
     obtain ⟨O164,v168,v172,v176,v180,v184,v187,S165,ha167,h166,h169,h173,h177,h181,h185,h188⟩:=Spc.opn h105 4 11 (by decide)
     obtain ⟨A170,c171,rfl⟩:=h169.form
     obtain ⟨A174,c175,rfl⟩:=h173.form
     obtain ⟨A178,c179,rfl⟩:=h177.form
     obtain ⟨A182,c183,rfl⟩:=h181.form
     obtain ⟨p186,rfl⟩:=h185.ptr
     obtain ⟨p189,rfl,hq190⟩:=h188.ptr
     refine BA [(6,[11])] O164 ?_
     refine x_pre (fuel:=6) [] [(0,true),(1,true),(2,true),(3,true),(4,true),(5,true)] (by kernel_rfl) rfl ?_
     refine h_mv rfl rfl rfl (h_nc rfl rfl rfl (h_fa rfl rfl rfl (h_ldC (hc:=fun w' ⟨O',hq⟩=>Blk.cell (i:=4) ((h166.st hq (by decide)).1) rfl) rfl rfl rfl ?_)))
     refine h_fa rfl rfl rfl ?_
     replace h149:=h149.st S165
     refine h_ldC (hc:=fun w' ⟨O',hq⟩=>Blk.cell (i:=2) ((h149.st hq (by decide)).1) rfl) rfl rfl rfl ?_
     refine AI ?_
     refine x_one (i:=6) (by kernel_rfl) rfl ?_
     obtain ⟨q191,e192,hf86⟩:=bs hf86
     refine Be (O:=O164) (CV h185 r144 e192) rfl rfl fun v197 w193 O194 S195 h196=>?_
     obtain ⟨v199,v200,h198,rfl,h201,h202⟩:=h196
     obtain ⟨A203,c204,rfl⟩:=h201.form
     obtain ⟨rfl,r205⟩:=h202.err
     have hZ:=S195.lst [11] (fun _ h=>by cases h;decide)
     refine x_go [] hZ (by kernel_rfl) ?_
     refine x_pre (fuel:=0) [] [(7,true),(8,true),(9,true),(10,true),(11,true)] (by kernel_rfl) rfl ?_
     refine h_mv rfl rfl rfl (h_ex rfl rfl rfl rfl (h_ex rfl rfl rfl rfl (h_as rfl rfl rfl (h_as rfl rfl rfl (AI ?_)))))
     refine x_nil (by kernel_rfl) ?_
     refine Ah (Ah (Ae (o_mv rfl rfl (o_rnS rfl rfl (fun c206=>?_) fun c206=>?_))))
     ·
      replace hf86:=ip hf86 c206
      refine o_z ?_
      refine Ar rfl (Ah (Ae (o_bd rfl rfl rfl ?_)))
      refine o_mv rfl rfl ?_
      replace h29:=(((((((h29.st S108).st S120).st S126).st S134).st S148).st S151).st S165).st S195
      refine AV h29 rfl rfl rfl (Nat.le_of_ble_eq_true rfl) (by first|exact allOne rfl|simp [Value.cells,Value.oneCell',AQ]) fun w207 S208 h29=>?_
      replace h29:Lc 3 w207 O194 g25 30 [(.int .i64 0),(.slice none 0 0),(.int .i64 0),(.int .i64 0)]:=h29
      refine o_as rfl rfl (o_z ?_)
      refine Au ?_
      obtain rfl:=sm hf86
      obtain rfl:=hret87 _ rfl
      obtain rfl:=sm (Bo hm)
      replace hB:=((((((((hB.st S108).st S120).st S126).st S134).st S148).st S151).st S165).st S195).st S208
      exact ret2 rfl (BD (cs:=[(.int .i64 0),(.slice none 0 0),(.int .i64 0),(.int .i64 0)]) rfl rfl h29.1.cellsAt) (AG rfl) ⟨hB.ext,_,_,rfl,(Vb.mono (F:=Fr 0 w207 O194) (Vb.ofAgg (cs:=[(.int .i64 0),(.slice none 0 0),(.int .i64 0),(.int .i64 0)]) (x:=(⟨0,([]:List Int),0,0⟩:Rsl)) rfl ⟨_,rfl,(Vb.nil _ _),(show inI64 0 from by decide),(show inI64 0 from by decide),(show inI64 0 from by decide)⟩) hB.out),(vErr r205)⟩
     ·
      replace hf86:=im hf86 c206
      refine o_z ?_
      refine Aj rfl (Am (Ah (Ah (Ae (o_fa rfl rfl ?_)))))
      replace h24:=(((((((h24.st S108).st S120).st S126).st S134).st S148).st S151).st S165).st S195
      refine o_ld (hc:=Blk.cell (i:=2) (h24.1) rfl) rfl rfl ?_
      refine o_mv rfl rfl ?_
      obtain ⟨q209,e210,hf86⟩:=bs hf86
      replace h14:=(((((((h14.st S108).st S120).st S126).st S134).st S148).st S151).st S165).st S195
      refine BL (O:=O194) (A:=All w193) (R:=fun w' F v=>Vb w' F v q209) (Fu (fun _ h=>h) (Vb.mono (F:=Fr 0 w193 O194) h14 Fr.lt) (Vb.mono (F:=Fr 0 w193 O194) h201 Fr.lt) e210) rfl rfl fun v215 w211 O212 S213 h214=>?_
      obtain rfl:=h214.bool
      cases q209
      case false =>
       replace hf86:=iF hf86
       refine o_z ?_
       refine Aj rfl (Am (Ah (Ah (Ae (o_mv rfl rfl (o_mv rfl rfl (o_geS rfl rfl rfl (fun c216=>?_) fun c216=>?_)))))))
       ·
        replace hf86:=ip hf86 c216
        refine o_z ?_
        refine Ar rfl (Ah (Ae (o_mv rfl rfl ?_)))
        obtain ⟨q217,e218,hf86⟩:=bs hf86
        refine BY (O:=O212) (R:=fun w' F v=>T2 w' F v q217) (CP Fr.lt (show inI64 (3) from by decide) r104 e218) rfl rfl fun v223 w219 O220 S221 h222=>?_
        obtain ⟨v224,v225,rfl,h226,h227⟩:=h222
        obtain ⟨cs228,rfl,v229,rfl,h230,r233,r234,r235⟩:=h226
        obtain ⟨A231,c232,rfl⟩:=h230.form
        obtain ⟨rfl,r236⟩:=h227.err
        refine o_ex rfl rfl rfl (o_ex rfl rfl rfl ?_)
        replace h29:=(((((((((h29.st S108).st S120).st S126).st S134).st S148).st S151).st S165).st S195).st S213).st S221
        refine AV h29 rfl rfl rfl (Nat.le_of_ble_eq_true rfl) (by first|exact allOne rfl|simp [Value.cells,Value.oneCell',AQ]) fun w237 S238 h29=>?_
        replace h29:Lc 3 w237 O220 g25 30 [(.int .i64 q217.1.verdict),(.slice A231 q217.1.plan.length c232),(.int .i64 q217.1.cost),(.int .i64 q217.1.expanded)]:=h29
        refine o_as rfl rfl (o_z ?_)
        refine Au ?_
        obtain rfl:=sm hf86
        obtain rfl:=hret87 _ rfl
        obtain rfl:=sm (Bo hm)
        replace hB:=((((((((((hB.st S108).st S120).st S126).st S134).st S148).st S151).st S165).st S195).st S213).st S221).st S238
        replace h230:=h230.st S238
        exact ret2 rfl (BD (cs:=[(.int .i64 q217.1.verdict),(.slice A231 q217.1.plan.length c232),(.int .i64 q217.1.cost),(.int .i64 q217.1.expanded)]) rfl rfl h29.1.cellsAt) (AG rfl) ⟨hB.ext,_,_,rfl,(Vb.mono (F:=Fr 0 w237 O220) (Vb.ofAgg (cs:=[(.int .i64 q217.1.verdict),(.slice A231 q217.1.plan.length c232),(.int .i64 q217.1.cost),(.int .i64 q217.1.expanded)]) (x:=q217.1) rfl ⟨_,rfl,h230,r233,r234,r235⟩) hB.out),(vErr r236)⟩
       ·
        replace hf86:=im hf86 c216
        refine o_z ?_
        refine Aj rfl (Am (Ah (Ae (o_mv rfl rfl (o_fa rfl rfl ?_)))))
        replace h149:=(h149.st S195).st S213
        refine o_ld (hc:=Blk.cell (i:=2) (h149.1) rfl) rfl rfl ?_
        obtain ⟨a239,e240,hf86⟩:=bs hf86
        obtain ⟨p242,x241⟩:=AM e240
        replace h101:=((h101.st S165).st S195).st S213
        obtain ⟨b243,o244,ce245,hA246,hl247,hd248,rfl⟩:=h101.elem x241
        refine o_iaE (hA:=hA246) (hj:=(Int.toNat_of_nonneg p242).symm) (hlt:=hl247) rfl rfl rfl ?_
        refine Db rfl h101 (a:=true) vBool hA246 rfl rfl (AJ x241) fun w250 S251 h101=>?_
        refine o_z ?_
        refine Ah (Ae (o_mv rfl rfl ?_))
        obtain ⟨n252,e253,hf86⟩:=bs hf86
        have r254:=(Bj e253)
        refine o_adE (he:=e253) rfl rfl rfl ?_
        refine o_as rfl rfl (o_z ?_)
        refine Ah (Ae (o_mv rfl rfl (o_nc rfl rfl (o_fa rfl rfl ?_))))
        replace h166:=((h166.st S195).st S213).st S251
        refine o_ld (hc:=Blk.cell (i:=5) (h166.1) rfl) rfl rfl ?_
        refine o_mv rfl rfl ?_
        obtain ⟨q255,e256,hf86⟩:=bs hf86
        replace h188:=((h188.st S195).st S213).st S251
        replace h201:=(h201.st S213).st S251
        refine BY (O:=O212) (R:=fun w' F v=>Vb w' F v q255) (Cy Fr.lt h188 h201 e256) rfl rfl fun v261 w257 O258 S259 h260=>?_
        obtain ⟨A262,c263,rfl⟩:=h260.form
        refine o_ln rfl rfl ?_
        have l265:q255.length≤9223372036854775807:=Nat.le_trans h260.len.2.1 h260.len.2.2
        have r264:inI64 (q255.length:Int):=rngNat l265
        refine o_mv rfl rfl (o_z ?_)
        replace h166:=h166.st S259
        replace h169:=(((h169.st S195).st S213).st S251).st S259
        replace h173:=(((h173.st S195).st S213).st S251).st S259
        replace h177:=(((h177.st S195).st S213).st S251).st S259
        replace h181:=(((h181.st S195).st S213).st S251).st S259
        replace h188:=h188.st S259
        replace h198:=((h198.st S213).st S251).st S259
        obtain ⟨O266,S267,hz269,ha270,h268⟩:=Spc.shut (x:=s78.2.2.2.2.1) (l0:=4) (l1:=11) (by decide) h166 h169 h173 h177 h181 h198 h188
        obtain ⟨res271,hL272,hf86⟩:=bs hf86
        refine AL (aft res271 (fun (s273:(List Int)×(List Bool)×Int×Spc×(BxR 98 96 Itm)) (x274:(Option Addr×Nat)×(Option Addr×Nat))=>[(1,(.int .i64 x1)),(2,(.pointer (some ⟨g20,0,none⟩))),(4,(.pointer (some ⟨g25,0,none⟩))),(6,(.pointer (some ⟨p70,0,none⟩))),(8,(.slice x274.1.1 s273.1.length x274.1.2)),(9,(.slice x274.2.1 s273.2.1.length x274.2.2)),(10,(.pointer (some ⟨g63,0,none⟩))),(11,(.int .i64 s273.2.2.1)),(12,(.int .i64 n252))]) (fun s273 x274 w'=>∃ O':Lab,Bs w A w' O'∧Lc 2 w' O' g20 26 [(.slice A9 x0.vars.length c10),(.slice A12 x0.init.length c13),(.slice A15 x0.goal.length c16),(.slice A18 x0.ops.length c19)]∧Vb w' (Fr 0 w' O') (.slice A9 x0.vars.length c10) x0.vars∧Vb w' (Fr 0 w' O') (.slice A12 x0.init.length c13) x0.init∧Vb w' (Fr 0 w' O') (.slice A15 x0.goal.length c16) x0.goal∧Vb w' (Fr 0 w' O') (.slice A18 x0.ops.length c19) x0.ops∧Lc 3 w' O' g25 30 [(.int .i64 0),(.slice none 0 0),(.int .i64 0),(.int .i64 0)]∧Ob 4 w' O' (.pointer (some ⟨p70,0,none⟩)) s273.2.2.2.1∧Rw 5 w' O' 3 (.slice x274.1.1 s273.1.length x274.1.2) s273.1∧Rw 6 w' O' 4 (.slice x274.2.1 s273.2.1.length x274.2.2) s273.2.1∧Ob 8 w' O' (.pointer (some ⟨g63,0,none⟩)) s273.2.2.2.2∧inI64 s273.2.2.1)) ?_ ?_
        ·
         refine Al ?_
         replace hB:=(((((((((((hB.st S108).st S120).st S126).st S134).st S148).st S151).st S165).st S195).st S213).st S251).st S259).st S267
         replace h8:=(((((((((((h8.st S108).st S120).st S126).st S134).st S148).st S151).st S165).st S195).st S213).st S251).st S259).st S267
         replace h11:=(((((((((((h11.st S108).st S120).st S126).st S134).st S148).st S151).st S165).st S195).st S213).st S251).st S259).st S267
         replace h14:=(((h14.st S213).st S251).st S259).st S267
         replace h17:=(((((((((((h17.st S108).st S120).st S126).st S134).st S148).st S151).st S165).st S195).st S213).st S251).st S259).st S267
         replace h24:=(((h24.st S213).st S251).st S259).st S267
         replace h29:=(((((((((((h29.st S108).st S120).st S126).st S134).st S148).st S151).st S165).st S195).st S213).st S251).st S259).st S267
         replace h99:=(((((((((((h99.st S108).st S120).st S126).st S134).st S148).st S151).st S165).st S195).st S213).st S251).st S259).st S267
         replace h101:=(h101.st S259).st S267
         replace h137:=(((((((h137.st S148).st S151).st S165).st S195).st S213).st S251).st S259).st S267
         replace h149:=((h149.st S251).st S259).st S267
         replace h260:=h260.st S267
         refine BM (σ:=(List Int)×(List Bool)×Int×Spc×(BxR 98 96 Itm)) (X:=(Option Addr×Nat)×(Option Addr×Nat)) (q255.length) hL272 rfl l265 (fun (s273:(List Int)×(List Bool)×Int×Spc×(BxR 98 96 Itm)) (x274:(Option Addr×Nat)×(Option Addr×Nat))=>[(1,(.int .i64 x1)),(2,(.pointer (some ⟨g20,0,none⟩))),(4,(.pointer (some ⟨g25,0,none⟩))),(6,(.pointer (some ⟨p70,0,none⟩))),(8,(.slice x274.1.1 s273.1.length x274.1.2)),(9,(.slice x274.2.1 s273.2.1.length x274.2.2)),(10,(.pointer (some ⟨g63,0,none⟩))),(11,(.int .i64 s273.2.2.1)),(12,(.int .i64 n252)),(13,(.pointer (some ⟨g145,0,none⟩))),(98,(.slice A262 q255.length c263))]) _ (fun s273 x274 w'=>∃ O':Lab,Bs w A w' O'∧Lc 2 w' O' g20 26 [(.slice A9 x0.vars.length c10),(.slice A12 x0.init.length c13),(.slice A15 x0.goal.length c16),(.slice A18 x0.ops.length c19)]∧Vb w' (Fr 0 w' O') (.slice A9 x0.vars.length c10) x0.vars∧Vb w' (Fr 0 w' O') (.slice A12 x0.init.length c13) x0.init∧Vb w' (Fr 0 w' O') (.slice A15 x0.goal.length c16) x0.goal∧Vb w' (Fr 0 w' O') (.slice A18 x0.ops.length c19) x0.ops∧Lc 3 w' O' g25 30 [(.int .i64 0),(.slice none 0 0),(.int .i64 0),(.int .i64 0)]∧Ob 4 w' O' (.pointer (some ⟨p70,0,none⟩)) s273.2.2.2.1∧Rw 5 w' O' 3 (.slice x274.1.1 s273.1.length x274.1.2) s273.1∧Rw 6 w' O' 4 (.slice x274.2.1 s273.2.1.length x274.2.2) s273.2.1∧Ob 8 w' O' (.pointer (some ⟨g63,0,none⟩)) s273.2.2.2.2∧Lc 10 w' O' g145 96 [(.int .i64 q130.1.x.cost),(.int .i64 q130.1.x.order),(.int .i64 q130.1.x.id)]∧Vb w' (Fr 0 w' O') (.slice A262 q255.length c263) q255∧inI64 s273.2.2.1) _ ((x79.1.1,x79.1.2),(x79.2.1,x79.2.2)) ⟨O266,hB,h24,h8,h11,h14,h17,h29,h268,h99,h101.relen,h137,h149,h260,r103⟩ ⟨rfl,rfl,rfl,rfl,rfl,rfl,rfl,(congrArg (fun n=>some (Value.slice _ n _)) ((by simp:(s78.2.1.set (q130.1.x.id:Int).toNat true).length=s78.2.1.length).trans rfl).symm),rfl,rfl,rfl,rfl,rfl,trivial⟩ (fun _ _=>⟨rfl,rfl⟩) (fun _ _=>⟨rfl,rfl,rfl,rfl,rfl,rfl,rfl,rfl,rfl,trivial⟩) (fun _ _ _ ⟨O',hB,h24,h8,h11,h14,h17,h29,h298,h293,h295,h299,h149,h260,r297⟩=>⟨O',hB,h24,h8,h11,h14,h17,h29,h298,h293,h295,h299,r297⟩) ⟨rfl,rfl,rfl⟩ ⟨rfl,rfl⟩ ?_
         rintro k275 a276 s273 x274 w277 cc279 hx280 ⟨O278,hB,h24,h8,h11,h14,h17,h29,h298,h293,h295,h299,h149,h260,r297⟩ hf281 hret282 hbrk283
         have rk275:inI64 (k275:Int):=rngK hx280 l265
         refine Ah (Ae ?_)
         obtain ⟨b300,o301,ce302,hA303,hl304,hd305,v307,rfl,h308,r311⟩:=h260.elem' hx280
         obtain ⟨A309,c310,rfl⟩:=h308.form
         refine o_iaE (hA:=hA303) (hj:=rfl) (hlt:=hl304) rfl rfl rfl ?_
         refine o_la (hl:=rfl) (hc:=hd305) rfl rfl ?_
         refine BR 12 O278 rfl fun g312 w313 O314 S315 h316=>?_
         refine AV h316 rfl rfl rfl (Nat.le_of_ble_eq_true rfl) (by first|exact allOne rfl|simp [Value.cells,Value.oneCell',AQ]) fun w317 S318 h316=>?_
         replace h316:Lc 12 w317 O314 g312 83 [(.int .i64 a276.op),(.slice A309 a276.state.length c310)]:=h316
         refine o_z ?_
         refine Ah ?_
         replace h298:=(h298.st S315).st S318
         obtain ⟨O319,v323,v327,v331,v335,v339,v342,S320,ha322,h321,h324,h328,h332,h336,h340,h343⟩:=Spc.opn h298 4 11 (by decide)
         obtain ⟨A325,c326,rfl⟩:=h324.form
         obtain ⟨A329,c330,rfl⟩:=h328.form
         obtain ⟨A333,c334,rfl⟩:=h332.form
         obtain ⟨A337,c338,rfl⟩:=h336.form
         obtain ⟨p341,rfl⟩:=h340.ptr
         obtain ⟨p344,rfl,hq345⟩:=h343.ptr
         refine BA [(6,[11])] O319 ?_
         refine x_pre (fuel:=8) [] [(0,true),(1,true),(2,true),(3,true),(4,true),(5,true)] (by kernel_rfl) rfl ?_
         refine h_mv rfl rfl rfl (h_nc rfl rfl rfl (h_fa rfl rfl rfl (h_ldC (hc:=fun w' ⟨O',hq⟩=>Blk.cell (i:=4) ((h321.st hq (by decide)).1) rfl) rfl rfl rfl ?_)))
         refine h_fa rfl rfl rfl ?_
         replace h316:=h316.st S320
         refine h_ldC (hc:=fun w' ⟨O',hq⟩=>Blk.cell (i:=1) ((h316.st hq (by decide)).1) rfl) rfl rfl rfl ?_
         refine AI ?_
         refine x_one (i:=6) (by kernel_rfl) rfl ?_
         obtain ⟨q346,e347,hf281⟩:=bs hf281
         replace h308:=((h308.st S315).st S318).st S320
         refine Be (O:=O319) (CG h340 h308 e347) rfl rfl fun v352 w348 O349 S350 h351=>?_
         obtain ⟨v354,v355,v356,h353,rfl,h357,h358,h359⟩:=h351
         obtain ⟨rfl,r360⟩:=h357.int
         obtain rfl:=h358.bool
         obtain ⟨rfl,r361⟩:=h359.err
         have hZ:=S350.lst [11] (fun _ h=>by cases h;decide)
         refine x_go [] hZ (by kernel_rfl) ?_
         refine x_pre (fuel:=0) [] [(7,true),(8,true),(9,true),(10,true),(11,true),(12,true),(13,true)] (by kernel_rfl) rfl ?_
         refine h_mv rfl rfl rfl (h_ex rfl rfl rfl rfl (h_ex rfl rfl rfl rfl (h_ex rfl rfl rfl rfl (h_as rfl rfl rfl (h_as rfl rfl rfl (h_as rfl rfl rfl (AI ?_)))))))
         refine x_nil (by kernel_rfl) ?_
         refine Ah (Ah (Ae (o_mv rfl rfl (o_rnS rfl rfl (fun c362=>?_) fun c362=>?_))))
         ·
          replace hf281:=ip hf281 c362
          refine o_z ?_
          refine Ar rfl (Ah (Ae (o_mv rfl rfl ?_)))
          obtain ⟨q363,e364,hf281⟩:=bs hf281
          refine BY (O:=O349) (R:=fun w' F v=>T2 w' F v q363) (CP Fr.lt (show inI64 (3) from by decide) r254 e364) rfl rfl fun v369 w365 O366 S367 h368=>?_
          obtain ⟨v370,v371,rfl,h372,h373⟩:=h368
          obtain ⟨cs374,rfl,v375,rfl,h376,r379,r380,r381⟩:=h372
          obtain ⟨A377,c378,rfl⟩:=h376.form
          obtain ⟨rfl,r382⟩:=h373.err
          refine o_ex rfl rfl rfl (o_ex rfl rfl rfl ?_)
          replace h29:=((((h29.st S315).st S318).st S320).st S350).st S367
          refine AV h29 rfl rfl rfl (Nat.le_of_ble_eq_true rfl) (by first|exact allOne rfl|simp [Value.cells,Value.oneCell',AQ]) fun w383 S384 h29=>?_
          replace h29:Lc 3 w383 O366 g25 30 [(.int .i64 q363.1.verdict),(.slice A377 q363.1.plan.length c378),(.int .i64 q363.1.cost),(.int .i64 q363.1.expanded)]:=h29
          refine o_as rfl rfl (o_z ?_)
          refine Au ?_
          obtain rfl:=sm hf281
          obtain rfl:=hret282 _ rfl
          obtain rfl:=sm (Bo hf86)
          obtain rfl:=hret87 _ rfl
          obtain rfl:=sm (Bo hm)
          replace hB:=(((((hB.st S315).st S318).st S320).st S350).st S367).st S384
          replace h376:=h376.st S384
          exact ret2 rfl (BD (cs:=[(.int .i64 q363.1.verdict),(.slice A377 q363.1.plan.length c378),(.int .i64 q363.1.cost),(.int .i64 q363.1.expanded)]) rfl rfl h29.1.cellsAt) (AG rfl) ⟨hB.ext,_,_,rfl,(Vb.mono (F:=Fr 0 w383 O366) (Vb.ofAgg (cs:=[(.int .i64 q363.1.verdict),(.slice A377 q363.1.plan.length c378),(.int .i64 q363.1.cost),(.int .i64 q363.1.expanded)]) (x:=q363.1) rfl ⟨_,rfl,h376,r379,r380,r381⟩) hB.out),(vErr r382)⟩
         ·
          replace hf281:=im hf281 c362
          refine o_z ?_
          refine Aj rfl (Am (Ah (BE (·=w348) [(0,true),(1,true),(2,true),(3,true),(4,true),(5,true),(6,true),(7,true),(8,true),(9,true),(10,true)] (by kernel_rfl) rfl (by kernel_rfl) rfl ?_)))
          refine h_fa rfl rfl rfl ?_
          replace h149:=(((h149.st S315).st S318).st S320).st S350
          refine h_ldA (hc:=Blk.cell (i:=0) (h149.1) rfl) rfl rfl rfl ?_
          refine h_fa rfl rfl rfl ?_
          replace h24:=(((h24.st S315).st S318).st S320).st S350
          refine h_ldA (hc:=Blk.cell (i:=3) (h24.1) rfl) rfl rfl rfl ?_
          refine h_fa rfl rfl rfl ?_
          replace h316:=h316.st S350
          refine h_ldA (hc:=Blk.cell (i:=0) (h316.1) rfl) rfl rfl rfl ?_
          obtain ⟨a385,e386,hf281⟩:=bs hf281
          obtain ⟨p388,x387⟩:=AM e386
          replace h17:=(((h17.st S315).st S318).st S320).st S350
          obtain ⟨b389,o390,ce391,hA392,hl393,hd394,v396,v397,rfl,h398,h401,r404,z405⟩:=h17.elem' x387
          obtain ⟨A399,c400,rfl⟩:=h398.form
          obtain ⟨A402,c403,rfl⟩:=h401.form
          refine h_iaE (hA:=hA392) (hj:=(Int.toNat_of_nonneg p388).symm) (hlt:=hl393) rfl rfl rfl rfl ?_
          refine h_fa rfl rfl rfl (h_ldA (hc:=cat1 hd394) rfl rfl rfl ?_)
          obtain ⟨n406,e407,hf281⟩:=bs hf281
          have r408:=(Bj e407)
          refine h_adE (he:=e407) rfl rfl rfl rfl ?_
          refine h_as rfl rfl rfl (h_z ?_)
          refine Ah ?_
          obtain ⟨y409,hy410,hf281⟩:=bs hf281
          refine AL (fun l' w'=>∃ (s411:(List Int)×(List Bool)) (x412:(Option Addr×Nat)×(Option Addr×Nat)) (O':Lab),y409=.done s411∧subs l' [(1,(.int .i64 x1)),(2,(.pointer (some ⟨g20,0,none⟩))),(4,(.pointer (some ⟨g25,0,none⟩))),(6,(.pointer (some ⟨p70,0,none⟩))),(8,(.slice x412.1.1 s411.1.length x412.1.2)),(9,(.slice x412.2.1 s411.2.length x412.2.2)),(10,(.pointer (some ⟨g63,0,none⟩))),(11,(.int .i64 s273.2.2.1)),(12,(.int .i64 n252)),(13,(.pointer (some ⟨g145,0,none⟩))),(18,(.pointer (some ⟨g312,0,none⟩))),(19,(.int .i64 q346.1)),(22,(.int .i64 n406)),(98,(.slice A262 q255.length c263)),(99,(.int .i64 (q255.length:Int))),(100,(.int .i64 (k275:Int)))]∧Bs w A w' O'∧Lc 2 w' O' g20 26 [(.slice A9 x0.vars.length c10),(.slice A12 x0.init.length c13),(.slice A15 x0.goal.length c16),(.slice A18 x0.ops.length c19)]∧Vb w' (Fr 0 w' O') (.slice A9 x0.vars.length c10) x0.vars∧Vb w' (Fr 0 w' O') (.slice A12 x0.init.length c13) x0.init∧Vb w' (Fr 0 w' O') (.slice A15 x0.goal.length c16) x0.goal∧Vb w' (Fr 0 w' O') (.slice A18 x0.ops.length c19) x0.ops∧Lc 3 w' O' g25 30 [(.int .i64 0),(.slice none 0 0),(.int .i64 0),(.int .i64 0)]∧Ob 4 w' O' (.pointer (some ⟨p70,0,none⟩)) (⟨(⟨s273.2.2.2.1.t.vars,s273.2.2.2.1.t.init,s273.2.2.2.1.t.goal,s273.2.2.2.1.t.ops⟩:Tsk),q346.2.2.2,s273.2.2.2.1.gen⟩:Spc)∧Rw 5 w' O' 3 (.slice x412.1.1 s411.1.length x412.1.2) s411.1∧Rw 6 w' O' 4 (.slice x412.2.1 s411.2.length x412.2.2) s411.2∧Ob 8 w' O' (.pointer (some ⟨g63,0,none⟩)) s273.2.2.2.2∧Lc 10 w' O' g145 96 [(.int .i64 q130.1.x.cost),(.int .i64 q130.1.x.order),(.int .i64 q130.1.x.id)]∧Lc 12 w' O' g312 83 [(.int .i64 a276.op),(.slice A309 a276.state.length c310)]∧Vb w' (Fr 0 w' O') (.slice A309 a276.state.length c310) a276.state∧Vb w' (Fr 0 w' O') (.slice A262 q255.length c263) q255) ?_ ?_
          ·
           refine Ah (Ae (o_mv rfl rfl (o_z ?_)))
           refine Cb rfl (fun c417=>?_) (fun c417=>?_)
           ·
            replace hy410:=ip hy410 c417
            refine Ae (o_mv rfl rfl (o_mv rfl rfl ?_))
            obtain ⟨u418,e419,hy410⟩:=bs hy410
            obtain ⟨e419,e420,e421⟩:=Cg e419
            replace h293:=(((h293.st S315).st S318).st S320).st S350
            refine CY rfl (a:=n406) h293 (vInt r408) (fun _=>rfl) rfl (by decide) (by decide) e420 e421 ⟨rfl,rfl⟩ fun g422 A423 c424 w425 O426 S427 h428=>?_
            rw [← e419] at h428 ⊢
            refine o_mv rfl rfl ?_
            obtain ⟨u430,e431,hy410⟩:=bs hy410
            obtain ⟨e431,e432,e433⟩:=Cg e431
            replace h295:=((((h295.st S315).st S318).st S320).st S350).st S427
            refine CY rfl (a:=false) h295 vBool (fun _=>rfl) rfl (by decide) (by decide) e432 e433 ⟨rfl,rfl⟩ fun g434 A435 c436 w437 O438 S439 h440=>?_
            rw [← e431] at h440 ⊢
            refine o_as rfl rfl (o_as rfl rfl (o_z ?_))
            replace h321:=((h321.st S350).st S427).st S439
            replace h324:=((h324.st S350).st S427).st S439
            replace h328:=((h328.st S350).st S427).st S439
            replace h332:=((h332.st S350).st S427).st S439
            replace h336:=((h336.st S350).st S427).st S439
            replace h343:=((h343.st S350).st S427).st S439
            replace h353:=(h353.st S427).st S439
            obtain ⟨O442,S443,hz445,ha446,h444⟩:=Spc.shut (x:=(⟨(⟨s273.2.2.2.1.t.vars,s273.2.2.2.1.t.init,s273.2.2.2.1.t.goal,s273.2.2.2.1.t.ops⟩:Tsk),q346.2.2.2,s273.2.2.2.1.gen⟩:Spc)) (l0:=4) (l1:=11) (by decide) h321 h324 h328 h332 h336 h353 h343
            obtain rfl:=sm hy410
            replace hB:=((((((hB.st S315).st S318).st S320).st S350).st S427).st S439).st S443
            replace h8:=((((((h8.st S315).st S318).st S320).st S350).st S427).st S439).st S443
            replace h11:=((((((h11.st S315).st S318).st S320).st S350).st S427).st S439).st S443
            replace h14:=((((((h14.st S315).st S318).st S320).st S350).st S427).st S439).st S443
            replace h17:=((h17.st S427).st S439).st S443
            replace h24:=((h24.st S427).st S439).st S443
            replace h29:=((((((h29.st S315).st S318).st S320).st S350).st S427).st S439).st S443
            replace h149:=((h149.st S427).st S439).st S443
            replace h260:=((((((h260.st S315).st S318).st S320).st S350).st S427).st S439).st S443
            replace h299:=((((((h299.st S315).st S318).st S320).st S350).st S427).st S439).st S443
            replace h308:=(((h308.st S350).st S427).st S439).st S443
            replace h316:=((h316.st S427).st S439).st S443
            replace h428:=(h428.st S439).st S443
            replace h440:=h440.st S443
            exact ⟨_,((A423,c424),(A435,c436)),_,rfl,⟨rfl,rfl,rfl,rfl,rfl,rfl,rfl,rfl,rfl,rfl,rfl,rfl,rfl,rfl,rfl,rfl,trivial⟩,hB,h24,h8,h11,h14,h17,h29,h444,h428,h440,h299,h149,h316,h308,h260⟩
           ·
            replace hy410:=im' hy410 c417
            refine Ah ?_
            obtain ⟨y447,hy448,hy410⟩:=bs hy410
            refine AL (fun l' w'=>∃ (x450:Unit) (O':Lab),subs l' [(1,(.int .i64 x1)),(2,(.pointer (some ⟨g20,0,none⟩))),(4,(.pointer (some ⟨g25,0,none⟩))),(6,(.pointer (some ⟨p70,0,none⟩))),(8,(.slice x274.1.1 s273.1.length x274.1.2)),(9,(.slice x274.2.1 s273.2.1.length x274.2.2)),(10,(.pointer (some ⟨g63,0,none⟩))),(11,(.int .i64 s273.2.2.1)),(12,(.int .i64 n252)),(13,(.pointer (some ⟨g145,0,none⟩))),(18,(.pointer (some ⟨g312,0,none⟩))),(19,(.int .i64 q346.1)),(22,(.int .i64 n406)),(98,(.slice A262 q255.length c263)),(99,(.int .i64 (q255.length:Int))),(100,(.int .i64 (k275:Int))),(150,(.bool y447))]∧Bs w A w' O'∧Lc 2 w' O' g20 26 [(.slice A9 x0.vars.length c10),(.slice A12 x0.init.length c13),(.slice A15 x0.goal.length c16),(.slice A18 x0.ops.length c19)]∧Vb w' (Fr 0 w' O') (.slice A9 x0.vars.length c10) x0.vars∧Vb w' (Fr 0 w' O') (.slice A12 x0.init.length c13) x0.init∧Vb w' (Fr 0 w' O') (.slice A15 x0.goal.length c16) x0.goal∧Vb w' (Fr 0 w' O') (.slice A18 x0.ops.length c19) x0.ops∧Lc 3 w' O' g25 30 [(.int .i64 0),(.slice none 0 0),(.int .i64 0),(.int .i64 0)]∧Ob 4 w' O' (.pointer (some ⟨p70,0,none⟩)) (⟨(⟨s273.2.2.2.1.t.vars,s273.2.2.2.1.t.init,s273.2.2.2.1.t.goal,s273.2.2.2.1.t.ops⟩:Tsk),q346.2.2.2,s273.2.2.2.1.gen⟩:Spc)∧Rw 5 w' O' 3 (.slice x274.1.1 s273.1.length x274.1.2) s273.1∧Rw 6 w' O' 4 (.slice x274.2.1 s273.2.1.length x274.2.2) s273.2.1∧Ob 8 w' O' (.pointer (some ⟨g63,0,none⟩)) s273.2.2.2.2∧Lc 10 w' O' g145 96 [(.int .i64 q130.1.x.cost),(.int .i64 q130.1.x.order),(.int .i64 q130.1.x.id)]∧Lc 12 w' O' g312 83 [(.int .i64 a276.op),(.slice A309 a276.state.length c310)]∧Vb w' (Fr 0 w' O') (.slice A309 a276.state.length c310) a276.state∧Vb w' (Fr 0 w' O') (.slice A262 q255.length c263) q255) ?_ ?_
            ·
             refine Ae (o_mv rfl rfl (o_mv rfl rfl ?_))
             obtain ⟨a451,e452,hy448⟩:=bs hy448
             obtain ⟨p454,x453⟩:=AM e452
             replace h295:=(((h295.st S315).st S318).st S320).st S350
             obtain ⟨b455,o456,ce457,hA458,hl459,hd460,rfl⟩:=h295.elem x453
             refine o_iaE (hA:=hA458) (hj:=(Int.toNat_of_nonneg p454).symm) (hlt:=hl459) rfl rfl rfl ?_
             refine o_ld (hc:=cat0 hd460) rfl rfl ?_
             refine o_mv rfl rfl ?_
             rcases Bool.eq_false_or_eq_true a451 with c462|c462
             ·
              try rw [c462]
              replace hy448:=ip hy448 c462
              refine AD rfl rfl rfl rfl (AD rfl rfl rfl rfl (AD rfl rfl rfl rfl (AD rfl rfl rfl rfl (AD rfl rfl rfl rfl (AD rfl rfl rfl rfl (o_pt rfl rfl rfl (o_z ?_)))))))
              replace h321:=h321.st S350
              replace h324:=h324.st S350
              replace h328:=h328.st S350
              replace h332:=h332.st S350
              replace h336:=h336.st S350
              replace h343:=h343.st S350
              obtain ⟨O463,S464,hz466,ha467,h465⟩:=Spc.shut (x:=(⟨(⟨s273.2.2.2.1.t.vars,s273.2.2.2.1.t.init,s273.2.2.2.1.t.goal,s273.2.2.2.1.t.ops⟩:Tsk),q346.2.2.2,s273.2.2.2.1.gen⟩:Spc)) (l0:=4) (l1:=11) (by decide) h321 h324 h328 h332 h336 h353 h343
              obtain rfl:=sm hy448
              replace hB:=((((hB.st S315).st S318).st S320).st S350).st S464
              replace h8:=((((h8.st S315).st S318).st S320).st S350).st S464
              replace h11:=((((h11.st S315).st S318).st S320).st S350).st S464
              replace h14:=((((h14.st S315).st S318).st S320).st S350).st S464
              replace h17:=h17.st S464
              replace h24:=h24.st S464
              replace h29:=((((h29.st S315).st S318).st S320).st S350).st S464
              replace h149:=h149.st S464
              replace h260:=((((h260.st S315).st S318).st S320).st S350).st S464
              replace h293:=((((h293.st S315).st S318).st S320).st S350).st S464
              replace h295:=h295.st S464
              replace h299:=((((h299.st S315).st S318).st S320).st S350).st S464
              replace h308:=(h308.st S350).st S464
              replace h316:=h316.st S464
              exact ⟨(),_,⟨rfl,rfl,rfl,rfl,rfl,rfl,rfl,rfl,rfl,rfl,rfl,rfl,rfl,rfl,rfl,rfl,rfl,trivial⟩,hB,h24,h8,h11,h14,h17,h29,h465,h293,h295,h299,h149,h316,h308,h260⟩
             ·
              try rw [c462]
              replace hy448:=im' hy448 c462
              refine AE rfl rfl (o_mv rfl rfl (AE rfl rfl (o_mv rfl rfl (AE rfl rfl (o_mv rfl rfl (AE rfl rfl ?_))))))
              obtain ⟨a468,e469,hy448⟩:=bs hy448
              obtain ⟨p471,x470⟩:=AM e469
              replace h293:=(((h293.st S315).st S318).st S320).st S350
              obtain ⟨b472,o473,ce474,hA475,hl476,hd477,rfl,r479⟩:=h293.elem x470
              refine o_iaE (hA:=hA475) (hj:=(Int.toNat_of_nonneg p471).symm) (hlt:=hl476) rfl rfl rfl ?_
              refine AE rfl rfl (o_ld (hc:=cat0 hd477) rfl rfl ?_)
              refine AE rfl rfl (o_geS rfl rfl rfl (fun c480=>?_) fun c480=>?_)
              ·
               replace hy448:=ip hy448 c480
               refine o_pf rfl rfl rfl (o_z ?_)
               replace h321:=h321.st S350
               replace h324:=h324.st S350
               replace h328:=h328.st S350
               replace h332:=h332.st S350
               replace h336:=h336.st S350
               replace h343:=h343.st S350
               obtain ⟨O481,S482,hz484,ha485,h483⟩:=Spc.shut (x:=(⟨(⟨s273.2.2.2.1.t.vars,s273.2.2.2.1.t.init,s273.2.2.2.1.t.goal,s273.2.2.2.1.t.ops⟩:Tsk),q346.2.2.2,s273.2.2.2.1.gen⟩:Spc)) (l0:=4) (l1:=11) (by decide) h321 h324 h328 h332 h336 h353 h343
               obtain rfl:=sm hy448
               replace hB:=((((hB.st S315).st S318).st S320).st S350).st S482
               replace h8:=((((h8.st S315).st S318).st S320).st S350).st S482
               replace h11:=((((h11.st S315).st S318).st S320).st S350).st S482
               replace h14:=((((h14.st S315).st S318).st S320).st S350).st S482
               replace h17:=h17.st S482
               replace h24:=h24.st S482
               replace h29:=((((h29.st S315).st S318).st S320).st S350).st S482
               replace h149:=h149.st S482
               replace h260:=((((h260.st S315).st S318).st S320).st S350).st S482
               replace h293:=h293.st S482
               replace h295:=h295.st S482
               replace h299:=((((h299.st S315).st S318).st S320).st S350).st S482
               replace h308:=(h308.st S350).st S482
               replace h316:=h316.st S482
               exact ⟨(),_,⟨rfl,rfl,rfl,rfl,rfl,rfl,rfl,rfl,rfl,rfl,rfl,rfl,rfl,rfl,rfl,rfl,rfl,trivial⟩,hB,h24,h8,h11,h14,h17,h29,h483,h293,h295,h299,h149,h316,h308,h260⟩
              ·
               replace hy448:=im hy448 c480
               refine o_pf rfl rfl rfl (o_z ?_)
               replace h321:=h321.st S350
               replace h324:=h324.st S350
               replace h328:=h328.st S350
               replace h332:=h332.st S350
               replace h336:=h336.st S350
               replace h343:=h343.st S350
               obtain ⟨O486,S487,hz489,ha490,h488⟩:=Spc.shut (x:=(⟨(⟨s273.2.2.2.1.t.vars,s273.2.2.2.1.t.init,s273.2.2.2.1.t.goal,s273.2.2.2.1.t.ops⟩:Tsk),q346.2.2.2,s273.2.2.2.1.gen⟩:Spc)) (l0:=4) (l1:=11) (by decide) h321 h324 h328 h332 h336 h353 h343
               obtain rfl:=sm hy448
               replace hB:=((((hB.st S315).st S318).st S320).st S350).st S487
               replace h8:=((((h8.st S315).st S318).st S320).st S350).st S487
               replace h11:=((((h11.st S315).st S318).st S320).st S350).st S487
               replace h14:=((((h14.st S315).st S318).st S320).st S350).st S487
               replace h17:=h17.st S487
               replace h24:=h24.st S487
               replace h29:=((((h29.st S315).st S318).st S320).st S350).st S487
               replace h149:=h149.st S487
               replace h260:=((((h260.st S315).st S318).st S320).st S350).st S487
               replace h293:=h293.st S487
               replace h295:=h295.st S487
               replace h299:=((((h299.st S315).st S318).st S320).st S350).st S487
               replace h308:=(h308.st S350).st S487
               replace h316:=h316.st S487
               exact ⟨(),_,⟨rfl,rfl,rfl,rfl,rfl,rfl,rfl,rfl,rfl,rfl,rfl,rfl,rfl,rfl,rfl,rfl,rfl,trivial⟩,hB,h24,h8,h11,h14,h17,h29,h488,h293,h295,h299,h149,h316,h308,h260⟩
            replace hB:=(((hB.st S315).st S318).st S320).st S350
            replace h8:=(((h8.st S315).st S318).st S320).st S350
            replace h11:=(((h11.st S315).st S318).st S320).st S350
            replace h14:=(((h14.st S315).st S318).st S320).st S350
            replace h29:=(((h29.st S315).st S318).st S320).st S350
            replace h260:=(((h260.st S315).st S318).st S320).st S350
            replace h293:=(((h293.st S315).st S318).st S320).st S350
            replace h295:=(((h295.st S315).st S318).st S320).st S350
            replace h299:=(((h299.st S315).st S318).st S320).st S350
            replace h308:=h308.st S350
            rintro l491 w492 ⟨x450,O493,hs494,hB,h24,h8,h11,h14,h17,h29,h461,h293,h295,h299,h149,h316,h308,h260⟩
            refine AP _ hs494 ?_
            refine Cb rfl (fun c495=>?_) (fun c495=>?_)
            ·
             replace hy410:=ip hy410 c495
             refine At ?_
             obtain rfl:=sm hy410
             obtain rfl:=sm (Bo hf281)
             refine (?_:Exists _)
             exact ⟨_,((x274.1.1,x274.1.2),(x274.2.1,x274.2.2)),rfl,⟨rfl,rfl,rfl,rfl,rfl,rfl,rfl,rfl,rfl,rfl,rfl,rfl,rfl,trivial⟩,_,hB,h24,h8,h11,h14,h17,h29,h461,h293,h295,h299,h149,h260,r297⟩
            ·
             replace hy410:=im' hy410 c495
             refine Am ?_
             obtain rfl:=sm hy410
             exact ⟨_,((x274.1.1,x274.1.2),(x274.2.1,x274.2.2)),_,rfl,⟨rfl,rfl,rfl,rfl,rfl,rfl,rfl,rfl,rfl,rfl,rfl,rfl,rfl,rfl,rfl,rfl,trivial⟩,hB,h24,h8,h11,h14,h17,h29,h461,h293,h295,h299,h149,h316,h308,h260⟩
          replace hB:=(((hB.st S315).st S318).st S320).st S350
          replace h8:=(((h8.st S315).st S318).st S320).st S350
          replace h11:=(((h11.st S315).st S318).st S320).st S350
          replace h14:=(((h14.st S315).st S318).st S320).st S350
          replace h29:=(((h29.st S315).st S318).st S320).st S350
          replace h260:=(((h260.st S315).st S318).st S320).st S350
          replace h299:=(((h299.st S315).st S318).st S320).st S350
          replace h308:=h308.st S350
          rintro l496 w497 ⟨s411,x412,O498,rfl,hs499,hB,h24,h8,h11,h14,h17,h29,h436,h413,h415,h299,h149,h316,h308,h260⟩
          replace hf281:=AY hf281
          refine AP _ hs499 ?_
          refine Ah (Ae (o_mv rfl rfl (o_mv rfl rfl (o_mv rfl rfl ?_))))
          obtain ⟨a500,e501,hf281⟩:=bs hf281
          obtain ⟨p503,x502⟩:=AM e501
          obtain ⟨b504,o505,ce506,hA507,hl508,hd509,rfl,r511⟩:=h413.elem x502
          refine o_iaE (hA:=hA507) (hj:=(Int.toNat_of_nonneg p503).symm) (hlt:=hl508) rfl rfl rfl ?_
          refine Db rfl h413 (a:=n406) (vInt r408) hA507 rfl rfl (AJ x502) fun w512 S513 h413=>?_
          refine o_z ?_
          refine Ah (Ah ?_)
          replace h436:=h436.st S513
          obtain ⟨O514,v518,v522,v526,v530,v534,v537,S515,ha517,h516,h519,h523,h527,h531,h535,h538⟩:=Spc.opn h436 4 11 (by decide)
          obtain ⟨A520,c521,rfl⟩:=h519.form
          obtain ⟨A524,c525,rfl⟩:=h523.form
          obtain ⟨A528,c529,rfl⟩:=h527.form
          obtain ⟨A532,c533,rfl⟩:=h531.form
          obtain ⟨p536,rfl⟩:=h535.ptr
          obtain ⟨p539,rfl,hq540⟩:=h538.ptr
          refine BA [(10,[11])] O514 ?_
          refine x_pre (fuel:=2) [] [(0,true),(1,true),(2,true),(3,true),(4,true),(5,true),(6,true),(7,true),(8,true),(9,true)] (by kernel_rfl) rfl ?_
          refine h_mv rfl rfl rfl (h_nc rfl rfl rfl (h_fa rfl rfl rfl (h_ldC (hc:=fun w' ⟨O',hq⟩=>Blk.cell (i:=4) ((h516.st hq (by decide)).1) rfl) rfl rfl rfl ?_)))
          refine h_mv rfl rfl rfl (h_fa rfl rfl rfl ?_)
          replace h149:=(h149.st S513).st S515
          refine h_ldC (hc:=fun w' ⟨O',hq⟩=>Blk.cell (i:=2) ((h149.st hq (by decide)).1) rfl) rfl rfl rfl ?_
          refine h_fa rfl rfl rfl ?_
          replace h316:=(h316.st S513).st S515
          refine h_ldC (hc:=fun w' ⟨O',hq⟩=>Blk.cell (i:=0) ((h316.st hq (by decide)).1) rfl) rfl rfl rfl ?_
          refine h_mv rfl rfl rfl (AI ?_)
          refine x_one (i:=10) (by kernel_rfl) rfl ?_
          obtain ⟨q541,e542,hf281⟩:=bs hf281
          refine Be (O:=O514) (Dw h535 r360 r144 r311 r408 e542) rfl rfl fun v547 w543 O544 S545 h546=>?_
          obtain ⟨h548,h549⟩:=h546
          obtain ⟨rfl,r550⟩:=h549.err
          have hZ:=S545.lst [11] (fun _ h=>by cases h;decide)
          refine x_go [] hZ (by kernel_rfl) ?_
          refine x_pre (fuel:=0) [] [(11,true)] (by kernel_rfl) rfl ?_
          refine h_as rfl rfl rfl (AI ?_)
          refine x_nil (by kernel_rfl) ?_
          refine Ah (Ae (o_mv rfl rfl (o_rnS rfl rfl (fun c551=>?_) fun c551=>?_)))
          ·
           replace hf281:=ip hf281 c551
           refine o_z ?_
           refine Ar rfl (Ah (Ae (o_bd rfl rfl rfl ?_)))
           refine o_mv rfl rfl ?_
           replace h29:=((h29.st S513).st S515).st S545
           refine AV h29 rfl rfl rfl (Nat.le_of_ble_eq_true rfl) (by first|exact allOne rfl|simp [Value.cells,Value.oneCell',AQ]) fun w552 S553 h29=>?_
           replace h29:Lc 3 w552 O544 g25 30 [(.int .i64 0),(.slice none 0 0),(.int .i64 0),(.int .i64 0)]:=h29
           refine o_as rfl rfl (o_z ?_)
           refine Au ?_
           obtain rfl:=sm hf281
           obtain rfl:=hret282 _ rfl
           obtain rfl:=sm (Bo hf86)
           obtain rfl:=hret87 _ rfl
           obtain rfl:=sm (Bo hm)
           replace hB:=(((hB.st S513).st S515).st S545).st S553
           exact ret2 rfl (BD (cs:=[(.int .i64 0),(.slice none 0 0),(.int .i64 0),(.int .i64 0)]) rfl rfl h29.1.cellsAt) (AG rfl) ⟨hB.ext,_,_,rfl,(Vb.mono (F:=Fr 0 w552 O544) (Vb.ofAgg (cs:=[(.int .i64 0),(.slice none 0 0),(.int .i64 0),(.int .i64 0)]) (x:=(⟨0,([]:List Int),0,0⟩:Rsl)) rfl ⟨_,rfl,(Vb.nil _ _),(show inI64 0 from by decide),(show inI64 0 from by decide),(show inI64 0 from by decide)⟩) hB.out),(vErr r550)⟩
          ·
           replace hf281:=im hf281 c551
           refine o_z ?_
           refine Aj rfl (Am (Ah (Ae (o_mv rfl rfl (o_miA rfl rfl ?_)))))
           refine o_mv rfl rfl (o_mv rfl rfl (o_mv rfl rfl (o_bd rfl rfl rfl ?_)))
           refine o_miA rfl rfl ?_
           obtain ⟨q554,e555,hf281⟩:=bs hf281
           replace h299:=((h299.st S513).st S515).st S545
           refine Be (O:=O544) (Gj h299 (vAny (Vb.ofAgg (cs:=[(.int .i64 n406),(.int .i64 s273.2.2.1),(.int .i64 q346.1)]) (x:=(⟨n406,s273.2.2.1,q346.1⟩:Itm)) rfl ⟨rfl,r408,r297,r360⟩)) e555) rfl rfl fun v560 w556 O557 S558 h561=>?_
           refine o_z ?_
           refine Ae (o_mv rfl rfl ?_)
           obtain ⟨n562,e563,hf281⟩:=bs hf281
           have r564:=(Bj e563)
           refine o_adE (he:=e563) rfl rfl rfl ?_
           refine o_as rfl rfl (o_z ?_)
           replace h516:=(h516.st S545).st S558
           replace h519:=(h519.st S545).st S558
           replace h523:=(h523.st S545).st S558
           replace h527:=(h527.st S545).st S558
           replace h531:=(h531.st S545).st S558
           replace h538:=(h538.st S545).st S558
           replace h548:=h548.st S558
           obtain ⟨O565,S566,hz568,ha569,h567⟩:=Spc.shut (x:=(⟨(⟨(⟨(⟨s273.2.2.2.1.t.vars,s273.2.2.2.1.t.init,s273.2.2.2.1.t.goal,s273.2.2.2.1.t.ops⟩:Tsk),q346.2.2.2,s273.2.2.2.1.gen⟩:Spc).t.vars,(⟨(⟨s273.2.2.2.1.t.vars,s273.2.2.2.1.t.init,s273.2.2.2.1.t.goal,s273.2.2.2.1.t.ops⟩:Tsk),q346.2.2.2,s273.2.2.2.1.gen⟩:Spc).t.init,(⟨(⟨s273.2.2.2.1.t.vars,s273.2.2.2.1.t.init,s273.2.2.2.1.t.goal,s273.2.2.2.1.t.ops⟩:Tsk),q346.2.2.2,s273.2.2.2.1.gen⟩:Spc).t.goal,(⟨(⟨s273.2.2.2.1.t.vars,s273.2.2.2.1.t.init,s273.2.2.2.1.t.goal,s273.2.2.2.1.t.ops⟩:Tsk),q346.2.2.2,s273.2.2.2.1.gen⟩:Spc).t.ops⟩:Tsk),q541.2,(⟨(⟨s273.2.2.2.1.t.vars,s273.2.2.2.1.t.init,s273.2.2.2.1.t.goal,s273.2.2.2.1.t.ops⟩:Tsk),q346.2.2.2,s273.2.2.2.1.gen⟩:Spc).gen⟩:Spc)) (l0:=4) (l1:=11) (by decide) h516 h519 h523 h527 h531 h548 h538
           obtain rfl:=sm hf281
           refine (?_:Exists _)
           replace hB:=((((hB.st S513).st S515).st S545).st S558).st S566
           replace h8:=((((h8.st S513).st S515).st S545).st S558).st S566
           replace h11:=((((h11.st S513).st S515).st S545).st S558).st S566
           replace h14:=((((h14.st S513).st S515).st S545).st S558).st S566
           replace h17:=((((h17.st S513).st S515).st S545).st S558).st S566
           replace h24:=((((h24.st S513).st S515).st S545).st S558).st S566
           replace h29:=((((h29.st S513).st S515).st S545).st S558).st S566
           replace h149:=((h149.st S545).st S558).st S566
           replace h260:=((((h260.st S513).st S515).st S545).st S558).st S566
           replace h413:=(((h413.st S515).st S545).st S558).st S566
           replace h415:=((((h415.st S513).st S515).st S545).st S558).st S566
           replace h561:=h561.st S566
           exact ⟨_,((x412.1.1,x412.1.2),(x412.2.1,x412.2.2)),rfl,⟨rfl,rfl,rfl,rfl,rfl,rfl,(congrArg (fun n=>some (Value.slice _ n _)) ((by simp:(s411.1.set (q346.1:Int).toNat n406).length=s411.1.length).trans rfl).symm),rfl,rfl,rfl,rfl,rfl,rfl,trivial⟩,_,hB,h24,h8,h11,h14,h17,h29,h567,h413.relen,h415,h561,h149,h260,r564⟩
        replace hB:=(((((((((((hB.st S108).st S120).st S126).st S134).st S148).st S151).st S165).st S195).st S213).st S251).st S259).st S267
        replace h8:=(((((((((((h8.st S108).st S120).st S126).st S134).st S148).st S151).st S165).st S195).st S213).st S251).st S259).st S267
        replace h11:=(((((((((((h11.st S108).st S120).st S126).st S134).st S148).st S151).st S165).st S195).st S213).st S251).st S259).st S267
        replace h14:=(((h14.st S213).st S251).st S259).st S267
        replace h17:=(((((((((((h17.st S108).st S120).st S126).st S134).st S148).st S151).st S165).st S195).st S213).st S251).st S259).st S267
        replace h24:=(((h24.st S213).st S251).st S259).st S267
        replace h29:=(((((((((((h29.st S108).st S120).st S126).st S134).st S148).st S151).st S165).st S195).st S213).st S251).st S259).st S267
        rintro l570 w571 ⟨s574,x575,rfl,hs573,O572,hB,h24,h8,h11,h14,h17,h29,h298,h293,h295,h299,r297⟩
        replace hf86:=AY hf86
        obtain rfl:=sm hf86
        refine (?_:Exists _)
        exact ⟨_,((x575.1.1,x575.1.2),(x575.2.1,x575.2.2)),rfl,⟨(Bq hs573 _ _ rfl),(Bq hs573 _ _ rfl),(Bq hs573 _ _ rfl),(Bq hs573 _ _ rfl),(Bq hs573 _ _ rfl),(Bq hs573 _ _ rfl),(Bq hs573 _ _ rfl),(Bq hs573 _ _ rfl),(Bq hs573 _ _ rfl),trivial⟩,_,hB,h24,h8,h11,h14,h17,h29,h298,h293,h295,h299,r297,r254⟩
      replace hf86:=iT hf86
      refine o_z ?_
      refine Ar rfl (Ah (Ae (o_mv rfl rfl (o_fa rfl rfl ?_))))
      replace h149:=(h149.st S195).st S213
      refine o_ld (hc:=Blk.cell (i:=2) (h149.1) rfl) rfl rfl ?_
      refine o_mv rfl rfl ?_
      replace h166:=(h166.st S195).st S213
      replace h169:=(h169.st S195).st S213
      replace h173:=(h173.st S195).st S213
      replace h177:=(h177.st S195).st S213
      replace h181:=(h181.st S195).st S213
      replace h188:=(h188.st S195).st S213
      replace h198:=h198.st S213
      obtain ⟨O576,S577,hz579,ha580,h578⟩:=Spc.shut (x:=s78.2.2.2.2.1) (l0:=4) (l1:=11) (by decide) h166 h169 h173 h177 h181 h198 h188
      obtain ⟨q581,e582,hf86⟩:=bs hf86
      refine Be (O:=O576) (Ej h578 r144 r104 e582) rfl rfl fun v587 w583 O584 S585 h586=>?_
      obtain ⟨v589,v590,h588,rfl,h591,h592⟩:=h586
      obtain ⟨cs593,rfl,v594,rfl,h595,r598,r599,r600⟩:=h591
      obtain ⟨A596,c597,rfl⟩:=h595.form
      obtain ⟨rfl,r601⟩:=h592.err
      refine o_ex rfl rfl rfl (o_ex rfl rfl rfl ?_)
      replace h29:=((((((((((h29.st S108).st S120).st S126).st S134).st S148).st S151).st S165).st S195).st S213).st S577).st S585
      refine AV h29 rfl rfl rfl (Nat.le_of_ble_eq_true rfl) (by first|exact allOne rfl|simp [Value.cells,Value.oneCell',AQ]) fun w602 S603 h29=>?_
      replace h29:Lc 3 w602 O584 g25 30 [(.int .i64 q581.1.verdict),(.slice A596 q581.1.plan.length c597),(.int .i64 q581.1.cost),(.int .i64 q581.1.expanded)]:=h29
      refine o_as rfl rfl (o_z ?_)
      refine Au ?_
      obtain rfl:=sm hf86
      obtain rfl:=hret87 _ rfl
      obtain rfl:=sm (Bo hm)
      replace hB:=(((((((((((hB.st S108).st S120).st S126).st S134).st S148).st S151).st S165).st S195).st S213).st S577).st S585).st S603
      replace h595:=h595.st S603
      exact ret2 rfl (BD (cs:=[(.int .i64 q581.1.verdict),(.slice A596 q581.1.plan.length c597),(.int .i64 q581.1.cost),(.int .i64 q581.1.expanded)]) rfl rfl h29.1.cellsAt) (AG rfl) ⟨hB.ext,_,_,rfl,(Vb.mono (F:=Fr 0 w602 O584) (Vb.ofAgg (cs:=[(.int .i64 q581.1.verdict),(.slice A596 q581.1.plan.length c597),(.int .i64 q581.1.cost),(.int .i64 q581.1.expanded)]) (x:=q581.1) rfl ⟨_,rfl,h595,r598,r599,r600⟩) hB.out),(vErr r601)⟩
   ·
    replace hf86:=im hf86 c124
    refine o_z ?_
    refine Aj rfl (At ?_)
    replace h109:=h109.st S120
    replace h112:=h112.st S120
    obtain ⟨O604,S605,hz607,ha608,h606⟩:=BxR.shut (x:=s78.2.2.2.2.2) (l0:=8) (l1:=9) (by decide) h109 h112
    obtain rfl:=sm hf86
    refine (?_:Exists _)
    replace hB:=((hB.st S108).st S120).st S605
    replace h29:=((h29.st S108).st S120).st S605
    exact ⟨_,((x79.1.1,x79.1.2),(x79.2.1,x79.2.2)),hbrk88 _ rfl,⟨rfl,rfl,trivial⟩,_,hB,h29,r103,r104⟩
  replace hB:=(((((((hB.st S23).st S28).st S34).st S48).st S54).st S60).st S66).st S72
  replace h29:=(((((h29.st S34).st S48).st S54).st S60).st S66).st S72
  rintro l609 w610 ⟨s613,x614,rfl,hs612,O611,hB,h29,r103,r104⟩
  replace hm:=AY hm
  refine AP _ hs612 ?_
  refine Ah (Ae (o_mv rfl rfl ?_))
  obtain ⟨q615,e616,hm⟩:=bs hm
  refine BY (O:=O611) (R:=fun w' F v=>T2 w' F v q615) (CP Fr.lt (show inI64 (2) from by decide) r104 e616) rfl rfl fun v621 w617 O618 S619 h620=>?_
  obtain ⟨v622,v623,rfl,h624,h625⟩:=h620
  obtain ⟨cs626,rfl,v627,rfl,h628,r631,r632,r633⟩:=h624
  obtain ⟨A629,c630,rfl⟩:=h628.form
  obtain ⟨rfl,r634⟩:=h625.err
  refine o_ex rfl rfl rfl (o_ex rfl rfl rfl ?_)
  replace h29:=h29.st S619
  refine AV h29 rfl rfl rfl (Nat.le_of_ble_eq_true rfl) (by first|exact allOne rfl|simp [Value.cells,Value.oneCell',AQ]) fun w635 S636 h29=>?_
  replace h29:Lc 3 w635 O618 g25 30 [(.int .i64 q615.1.verdict),(.slice A629 q615.1.plan.length c630),(.int .i64 q615.1.cost),(.int .i64 q615.1.expanded)]:=h29
  refine o_as rfl rfl (o_z ?_)
  refine Au ?_
  obtain rfl:=sm hm
  replace hB:=(hB.st S619).st S636
  replace h628:=h628.st S636
  exact ret2 rfl (BD (cs:=[(.int .i64 q615.1.verdict),(.slice A629 q615.1.plan.length c630),(.int .i64 q615.1.cost),(.int .i64 q615.1.expanded)]) rfl rfl h29.1.cellsAt) (AG rfl) ⟨hB.ext,_,_,rfl,(Vb.mono (F:=Fr 0 w635 O618) (Vb.ofAgg (cs:=[(.int .i64 q615.1.verdict),(.slice A629 q615.1.plan.length c630),(.int .i64 q615.1.cost),(.int .i64 q615.1.expanded)]) (x:=q615.1) rfl ⟨_,rfl,h628,r631,r632,r633⟩) hB.out),(vErr r634)⟩
noncomputable def CL (x0:Tsk) (x1:Int):Option (Int×Err) :=
  bnd (BQ x0) fun q25=>if q25.2.n≠0 then (some (0,(⟨q25.2.n⟩:Err))) else (bnd q25.1 fun o38=>bnd (lop (ρ:=Int×Err) (fun (s43:Int×Spc)=>bnd (AO s43.2.reg) fun q87=>if s43.1 < q87 then (bnd (AO s43.2.reg) fun q98=>if x1 < q98 then (some (.ret (0,(⟨10⟩:Err)))) else (bnd (Bb s43.2.reg s43.1) fun q109=>if q109.2.n≠0 then (some (.ret (0,(⟨q109.2.n⟩:Err)))) else (bnd (AT s43.2.gen q109.1) fun q125=>bnd (rng (ρ:=Ctl (Int×Spc) (Int×Err)) (fun (k145:Nat) (a146:Suc) (s143:Spc)=>bnd (AW s143.reg a146.state) fun q204=>if q204.2.2.1.n≠0 then (some (.ret (.ret (0,(⟨10⟩:Err))))) else (some (.next (⟨(⟨s143.t.vars,s143.t.init,s143.t.goal,s143.t.ops⟩:Tsk),q204.2.2.2,s143.gen⟩:Spc)))) q125 0 s43.2) fun res141=>fin res141 fun (s230:Spc)=>bnd (chkI (s43.1 + 1)) fun n232=>some (.next (n232,s230))))) else (some (.brk (s43.1,s43.2)))) (0,o38)) fun res41=>fin res41 fun (s244:Int×Spc)=>bnd (AO s244.2.reg) fun q273=>if x1 < q273 then (some (0,(⟨10⟩:Err))) else (bnd (AO s244.2.reg) fun q284=>some (q284,(⟨0⟩:Err))))
theorem GU {w:World} {A:Nat→Prop} (hA:∀ k,A k→k < w.heap.size) {vx0:Value} {x0:Tsk} (hx0:Vb w A vx0 x0) {x1:Int} (rx1:inI64 x1) {r:Int×Err} (hm:CL x0 x1=some r) :
    Fn Try.prog 25 [vx0,(.int .i64 x1)] w fun v w'=>Ext w w'∧T2 w' (upA A w w') v r:=by
 obtain ⟨O,hB,hA0⟩:=enter hA
 replace hx0:=hx0.mono hA0
 obtain ⟨cs3,rfl,v4,v5,v6,v7,rfl,h8,h11,h14,h17⟩:=hx0
 obtain ⟨A9,c10,rfl⟩:=h8.form
 obtain ⟨A12,c13,rfl⟩:=h11.form
 obtain ⟨A15,c16,rfl⟩:=h14.form
 obtain ⟨A18,c19,rfl⟩:=h17.form
 refine AK Try.func25 rfl Try.ntmps25 rfl ?_
 unfold CL at hm
 refine Ah (Ae (l_box 2 O rfl rfl fun g20 w21 O22 S23 h24=>?_))
 replace h24:Lc 2 w21 O22 g20 26 [(.slice A9 x0.vars.length c10),(.slice A12 x0.init.length c13),(.slice A15 x0.goal.length c16),(.slice A18 x0.ops.length c19)]:=h24
 refine o_as rfl rfl (o_as rfl rfl (o_z ?_))
 refine Ah (Ae (o_la (hl:=rfl) (hc:=(h24.1).cellsAt) rfl rfl ?_))
 obtain ⟨q25,e26,hm⟩:=bs hm
 replace h8:=h8.st S23
 replace h11:=h11.st S23
 replace h14:=h14.st S23
 replace h17:=h17.st S23
 refine Be (O:=O22) (ED (Vb.ofAgg (cs:=[(.slice A9 x0.vars.length c10),(.slice A12 x0.init.length c13),(.slice A15 x0.goal.length c16),(.slice A18 x0.ops.length c19)]) (x:=x0) rfl ⟨_,_,_,_,rfl,h8,h11,h14,h17⟩) 3 (by decide) e26) rfl rfl fun v31 w27 O28 S29 h30=>?_
 obtain ⟨v32,v33,rfl,h34,h35⟩:=h30
 obtain ⟨rfl,r36⟩:=h35.err
 refine o_mv rfl rfl (o_ex rfl rfl rfl (o_ex rfl rfl rfl (o_as rfl rfl (o_as rfl rfl (o_z ?_)))))
 refine Ah (Ah (Ae (o_mv rfl rfl (o_rnS rfl rfl (fun c37=>?_) fun c37=>?_))))
 ·
  replace hm:=ip hm c37
  refine o_z ?_
  refine Ar rfl (Ah (Ae (o_mv rfl rfl (o_as rfl rfl (o_as rfl rfl (o_z ?_))))))
  refine Au ?_
  obtain rfl:=sm hm
  replace hB:=(hB.st S23).st S29
  exact ret2 rfl (AG rfl) (AG rfl) ⟨hB.ext,_,_,rfl,(vInt (show inI64 (0) from by decide)),(vErr r36)⟩
 ·
  replace hm:=im hm c37
  refine o_z ?_
  refine Aj rfl (Am (Ah (Ah (Ae (o_as rfl rfl (o_z ?_))))))
  obtain ⟨o38,e39,hm⟩:=bs hm
  rw [e39] at h34
  obtain ⟨p40,rfl⟩:=Ob.ptr h34
  obtain ⟨res41,hL42,hm⟩:=bs hm
  refine AL (aft res41 (fun (s43:Int×Spc) (x44:Unit)=>[(1,(.int .i64 x1)),(6,(.pointer (some ⟨p40,0,none⟩)))]) (fun s43 x44 w'=>∃ O':Lab,Bs w A w' O'∧Ob 3 w' O' (.pointer (some ⟨p40,0,none⟩)) s43.2∧inI64 s43.1)) ?_ ?_
  ·
   refine Al ?_
   replace hB:=(hB.st S23).st S29
   refine DZ (σ:=Int×Spc) (X:=Unit) hL42 (fun (s43:Int×Spc) (x44:Unit)=>[(1,(.int .i64 x1)),(6,(.pointer (some ⟨p40,0,none⟩))),(8,(.int .i64 s43.1))]) _ (fun s43 x44 w'=>∃ O':Lab,Bs w A w' O'∧Ob 3 w' O' (.pointer (some ⟨p40,0,none⟩)) s43.2∧inI64 s43.1) _ () ⟨O28,hB,h34,(show inI64 (0) from by decide)⟩ ⟨rfl,rfl,rfl,trivial⟩ ?_
   rintro s43 x44 w47 cc49 ⟨O48,hB,h59,r58⟩ hf51 hret52 hbrk53
   refine Ah (Ah (Ae (o_mv rfl rfl (o_mv rfl rfl (o_nc rfl rfl ?_)))))
   obtain ⟨O60,v64,v68,v72,v76,v80,v83,S61,ha63,h62,h65,h69,h73,h77,h81,h84⟩:=Spc.opn h59 3 4 (by decide)
   obtain ⟨A66,c67,rfl⟩:=h65.form
   obtain ⟨A70,c71,rfl⟩:=h69.form
   obtain ⟨A74,c75,rfl⟩:=h73.form
   obtain ⟨A78,c79,rfl⟩:=h77.form
   obtain ⟨p82,rfl⟩:=h81.ptr
   obtain ⟨p85,rfl,hq86⟩:=h84.ptr
   refine o_fa rfl rfl (o_ld (hc:=Blk.cell (i:=4) (h62.1) rfl) rfl rfl ?_)
   obtain ⟨q87,e88,hf51⟩:=bs hf51
   refine Be (O:=O60) (BS h81 e88) rfl rfl fun v93 w89 O90 S91 h92=>?_
   obtain ⟨h94,h95⟩:=h92
   obtain ⟨rfl,r96⟩:=h95.int
   refine o_ltS rfl rfl rfl (fun c97=>?_) fun c97=>?_
   ·
    replace hf51:=ip hf51 c97
    refine o_z ?_
    refine Ar rfl (Am (Ah (Al (Ah (Ah (Ae (o_mv rfl rfl (o_nc rfl rfl (o_fa rfl rfl ?_)))))))))
    replace h62:=h62.st S91
    refine o_ld (hc:=Blk.cell (i:=4) (h62.1) rfl) rfl rfl ?_
    obtain ⟨q98,e99,hf51⟩:=bs hf51
    refine Be (O:=O90) (BS h94 e99) rfl rfl fun v104 w100 O101 S102 h103=>?_
    obtain ⟨h105,h106⟩:=h103
    obtain ⟨rfl,r107⟩:=h106.int
    refine o_mv rfl rfl (o_gtS rfl rfl rfl (fun c108=>?_) fun c108=>?_)
    ·
     replace hf51:=ip hf51 c108
     refine o_z ?_
     refine Ar rfl (Ah (Ae (o_miE rfl rfl ?_)))
     refine o_as rfl rfl (o_as rfl rfl (o_z ?_))
     refine Au ?_
     obtain rfl:=sm hf51
     obtain rfl:=hret52 _ rfl
     obtain rfl:=sm (Bo hm)
     replace hB:=((hB.st S61).st S91).st S102
     exact ret2 rfl (AG rfl) (AG rfl) ⟨hB.ext,_,_,rfl,(vInt (show inI64 (0) from by decide)),(vErr (by decide))⟩
    ·
     replace hf51:=im hf51 c108
     refine o_z ?_
     refine Aj rfl (Am (Ah (Ae (o_mv rfl rfl (o_nc rfl rfl (o_fa rfl rfl ?_))))))
     replace h62:=h62.st S102
     refine o_ld (hc:=Blk.cell (i:=4) (h62.1) rfl) rfl rfl ?_
     refine o_mv rfl rfl ?_
     obtain ⟨q109,e110,hf51⟩:=bs hf51
     refine Be (O:=O101) (CV h105 r58 e110) rfl rfl fun v115 w111 O112 S113 h114=>?_
     obtain ⟨v117,v118,h116,rfl,h119,h120⟩:=h114
     obtain ⟨A121,c122,rfl⟩:=h119.form
     obtain ⟨rfl,r123⟩:=h120.err
     refine o_mv rfl rfl (o_ex rfl rfl rfl (o_ex rfl rfl rfl (o_as rfl rfl (o_as rfl rfl (o_z ?_)))))
     refine Ah (Ah (Ae (o_mv rfl rfl (o_rnS rfl rfl (fun c124=>?_) fun c124=>?_))))
     ·
      replace hf51:=ip hf51 c124
      refine o_z ?_
      refine Ar rfl (Ah (Ae (o_mv rfl rfl (o_as rfl rfl (o_as rfl rfl (o_z ?_))))))
      refine Au ?_
      obtain rfl:=sm hf51
      obtain rfl:=hret52 _ rfl
      obtain rfl:=sm (Bo hm)
      replace hB:=(((hB.st S61).st S91).st S102).st S113
      exact ret2 rfl (AG rfl) (AG rfl) ⟨hB.ext,_,_,rfl,(vInt (show inI64 (0) from by decide)),(vErr r123)⟩
     ·
      replace hf51:=im hf51 c124
      refine o_z ?_
      refine Aj rfl (Am (Ah (Ae (o_mv rfl rfl (o_nc rfl rfl (o_fa rfl rfl ?_))))))
      replace h62:=h62.st S113
      refine o_ld (hc:=Blk.cell (i:=5) (h62.1) rfl) rfl rfl ?_
      refine o_mv rfl rfl ?_
      obtain ⟨q125,e126,hf51⟩:=bs hf51
      replace h84:=((h84.st S91).st S102).st S113
      refine BY (O:=O112) (R:=fun w' F v=>Vb w' F v q125) (Cy Fr.lt h84 h119 e126) rfl rfl fun v131 w127 O128 S129 h130=>?_
      obtain ⟨A132,c133,rfl⟩:=h130.form
      refine o_ln rfl rfl ?_
      have l135:q125.length≤9223372036854775807:=Nat.le_trans h130.len.2.1 h130.len.2.2
      have r134:inI64 (q125.length:Int):=rngNat l135
      refine o_mv rfl rfl (o_z ?_)
      replace h62:=h62.st S129
      replace h65:=(((h65.st S91).st S102).st S113).st S129
      replace h69:=(((h69.st S91).st S102).st S113).st S129
      replace h73:=(((h73.st S91).st S102).st S113).st S129
      replace h77:=(((h77.st S91).st S102).st S113).st S129
      replace h84:=h84.st S129
      replace h116:=h116.st S129
      obtain ⟨O136,S137,hz139,ha140,h138⟩:=Spc.shut (x:=s43.2) (l0:=3) (l1:=4) (by decide) h62 h65 h69 h73 h77 h116 h84
      obtain ⟨res141,hL142,hf51⟩:=bs hf51
      refine AL (aft res141 (fun (s143:Spc) (x144:Unit)=>[(1,(.int .i64 x1)),(6,(.pointer (some ⟨p40,0,none⟩))),(8,(.int .i64 s43.1))]) (fun s143 x144 w'=>∃ O':Lab,Bs w A w' O'∧Ob 3 w' O' (.pointer (some ⟨p40,0,none⟩)) s143)) ?_ ?_
      ·
       refine Al ?_
       replace hB:=(((((hB.st S61).st S91).st S102).st S113).st S129).st S137
       replace h130:=h130.st S137
       refine BM (σ:=Spc) (X:=Unit) (q125.length) hL142 rfl l135 (fun (s143:Spc) (x144:Unit)=>[(1,(.int .i64 x1)),(6,(.pointer (some ⟨p40,0,none⟩))),(8,(.int .i64 s43.1)),(58,(.slice A132 q125.length c133))]) _ (fun s143 x144 w'=>∃ O':Lab,Bs w A w' O'∧Ob 3 w' O' (.pointer (some ⟨p40,0,none⟩)) s143∧Vb w' (Fr 0 w' O') (.slice A132 q125.length c133) q125) _ () ⟨O136,hB,h138,h130⟩ ⟨rfl,rfl,rfl,rfl,rfl,rfl,trivial⟩ (fun _ _=>⟨rfl,rfl⟩) (fun _ _=>⟨rfl,rfl,rfl,trivial⟩) (fun _ _ _ ⟨O',hB,h157,h130⟩=>⟨O',hB,h157⟩) ⟨rfl,rfl,rfl⟩ ⟨rfl,rfl⟩ ?_
       rintro k145 a146 s143 x144 w147 cc149 hx150 ⟨O148,hB,h157,h130⟩ hf151 hret152 hbrk153
       have rk145:inI64 (k145:Int):=rngK hx150 l135
       refine Ah (Ae ?_)
       obtain ⟨b158,o159,ce160,hA161,hl162,hd163,v165,rfl,h166,r169⟩:=h130.elem' hx150
       obtain ⟨A167,c168,rfl⟩:=h166.form
       refine o_iaE (hA:=hA161) (hj:=rfl) (hlt:=hl162) rfl rfl rfl ?_
       refine o_la (hl:=rfl) (hc:=hd163) rfl rfl ?_
       refine BR 5 O148 rfl fun g170 w171 O172 S173 h174=>?_
       refine AV h174 rfl rfl rfl (Nat.le_of_ble_eq_true rfl) (by first|exact allOne rfl|simp [Value.cells,Value.oneCell',AQ]) fun w175 S176 h174=>?_
       replace h174:Lc 5 w175 O172 g170 83 [(.int .i64 a146.op),(.slice A167 a146.state.length c168)]:=h174
       refine o_z ?_
       refine Ah ?_
       replace h157:=(h157.st S173).st S176
       obtain ⟨O177,v181,v185,v189,v193,v197,v200,S178,ha180,h179,h182,h186,h190,h194,h198,h201⟩:=Spc.opn h157 3 4 (by decide)
       obtain ⟨A183,c184,rfl⟩:=h182.form
       obtain ⟨A187,c188,rfl⟩:=h186.form
       obtain ⟨A191,c192,rfl⟩:=h190.form
       obtain ⟨A195,c196,rfl⟩:=h194.form
       obtain ⟨p199,rfl⟩:=h198.ptr
       obtain ⟨p202,rfl,hq203⟩:=h201.ptr
       refine BA [(6,[4])] O177 ?_
       refine x_pre (fuel:=8) [] [(0,true),(1,true),(2,true),(3,true),(4,true),(5,true)] (by kernel_rfl) rfl ?_
       refine h_mv rfl rfl rfl (h_nc rfl rfl rfl (h_fa rfl rfl rfl (h_ldC (hc:=fun w' ⟨O',hq⟩=>Blk.cell (i:=4) ((h179.st hq (by decide)).1) rfl) rfl rfl rfl ?_)))
       refine h_fa rfl rfl rfl ?_
       replace h174:=h174.st S178
       refine h_ldC (hc:=fun w' ⟨O',hq⟩=>Blk.cell (i:=1) ((h174.st hq (by decide)).1) rfl) rfl rfl rfl ?_
       refine AI ?_
       refine x_one (i:=6) (by kernel_rfl) rfl ?_
       obtain ⟨q204,e205,hf151⟩:=bs hf151
       replace h166:=((h166.st S173).st S176).st S178
       refine Be (O:=O177) (CG h198 h166 e205) rfl rfl fun v210 w206 O207 S208 h209=>?_
       obtain ⟨v212,v213,v214,h211,rfl,h215,h216,h217⟩:=h209
       obtain ⟨rfl,r218⟩:=h215.int
       obtain rfl:=h216.bool
       obtain ⟨rfl,r219⟩:=h217.err
       have hZ:=S208.lst [4] (fun _ h=>by cases h;decide)
       refine x_go [] hZ (by kernel_rfl) ?_
       refine x_pre (fuel:=0) [] [(7,true),(8,true),(9,true),(10,true),(11,true),(12,true),(13,true)] (by kernel_rfl) rfl ?_
       refine h_mv rfl rfl rfl (h_ex rfl rfl rfl rfl (h_ex rfl rfl rfl rfl (h_ex rfl rfl rfl rfl (h_as rfl rfl rfl (h_as rfl rfl rfl (h_as rfl rfl rfl (AI ?_)))))))
       refine x_nil (by kernel_rfl) ?_
       refine Ah (Ae (o_mv rfl rfl (o_rnS rfl rfl (fun c220=>?_) fun c220=>?_)))
       ·
        replace hf151:=ip hf151 c220
        refine o_z ?_
        refine Ar rfl (Ah (Ae (o_miE rfl rfl ?_)))
        refine o_as rfl rfl (o_as rfl rfl (o_z ?_))
        refine Au ?_
        obtain rfl:=sm hf151
        obtain rfl:=hret152 _ rfl
        obtain rfl:=sm (Bo hf51)
        obtain rfl:=hret52 _ rfl
        obtain rfl:=sm (Bo hm)
        replace hB:=(((hB.st S173).st S176).st S178).st S208
        exact ret2 rfl (AG rfl) (AG rfl) ⟨hB.ext,_,_,rfl,(vInt (show inI64 (0) from by decide)),(vErr (by decide))⟩
       ·
        replace hf151:=im hf151 c220
        refine o_z ?_
        refine Aj rfl (Am ?_)
        replace h179:=h179.st S208
        replace h182:=h182.st S208
        replace h186:=h186.st S208
        replace h190:=h190.st S208
        replace h194:=h194.st S208
        replace h201:=h201.st S208
        obtain ⟨O221,S222,hz224,ha225,h223⟩:=Spc.shut (x:=(⟨(⟨s143.t.vars,s143.t.init,s143.t.goal,s143.t.ops⟩:Tsk),q204.2.2.2,s143.gen⟩:Spc)) (l0:=3) (l1:=4) (by decide) h179 h182 h186 h190 h194 h211 h201
        obtain rfl:=sm hf151
        refine (?_:Exists _)
        replace hB:=((((hB.st S173).st S176).st S178).st S208).st S222
        replace h130:=((((h130.st S173).st S176).st S178).st S208).st S222
        exact ⟨_,(),rfl,⟨rfl,rfl,rfl,rfl,rfl,rfl,trivial⟩,_,hB,h223,h130⟩
      replace hB:=(((((hB.st S61).st S91).st S102).st S113).st S129).st S137
      rintro l226 w227 ⟨s230,x231,rfl,hs229,O228,hB,h157⟩
      replace hf51:=AY hf51
      refine AP _ hs229 ?_
      refine Ae (o_mv rfl rfl ?_)
      obtain ⟨n232,e233,hf51⟩:=bs hf51
      have r234:=(Bj e233)
      refine o_adE (he:=e233) rfl rfl rfl ?_
      refine o_as rfl rfl (o_z ?_)
      obtain rfl:=sm hf51
      refine (?_:Exists _)
      exact ⟨_,(),rfl,⟨rfl,rfl,rfl,trivial⟩,_,hB,h157,r234⟩
   ·
    replace hf51:=im hf51 c97
    refine o_z ?_
    refine Aj rfl (At ?_)
    replace h62:=h62.st S91
    replace h65:=h65.st S91
    replace h69:=h69.st S91
    replace h73:=h73.st S91
    replace h77:=h77.st S91
    replace h84:=h84.st S91
    obtain ⟨O235,S236,hz238,ha239,h237⟩:=Spc.shut (x:=s43.2) (l0:=3) (l1:=4) (by decide) h62 h65 h69 h73 h77 h94 h84
    obtain rfl:=sm hf51
    refine (?_:Exists _)
    replace hB:=((hB.st S61).st S91).st S236
    exact ⟨_,(),hbrk53 _ rfl,⟨rfl,rfl,trivial⟩,_,hB,h237,r58⟩
  replace hB:=(hB.st S23).st S29
  rintro l240 w241 ⟨s244,x245,rfl,hs243,O242,hB,h59,r58⟩
  replace hm:=AY hm
  refine AP _ hs243 ?_
  refine Ah (Ah (Ae (o_mv rfl rfl (o_nc rfl rfl ?_))))
  obtain ⟨O246,v250,v254,v258,v262,v266,v269,S247,ha249,h248,h251,h255,h259,h263,h267,h270⟩:=Spc.opn h59 3 4 (by decide)
  obtain ⟨A252,c253,rfl⟩:=h251.form
  obtain ⟨A256,c257,rfl⟩:=h255.form
  obtain ⟨A260,c261,rfl⟩:=h259.form
  obtain ⟨A264,c265,rfl⟩:=h263.form
  obtain ⟨p268,rfl⟩:=h267.ptr
  obtain ⟨p271,rfl,hq272⟩:=h270.ptr
  refine o_fa rfl rfl (o_ld (hc:=Blk.cell (i:=4) (h248.1) rfl) rfl rfl ?_)
  obtain ⟨q273,e274,hm⟩:=bs hm
  refine Be (O:=O246) (BS h267 e274) rfl rfl fun v279 w275 O276 S277 h278=>?_
  obtain ⟨h280,h281⟩:=h278
  obtain ⟨rfl,r282⟩:=h281.int
  refine o_mv rfl rfl (o_gtS rfl rfl rfl (fun c283=>?_) fun c283=>?_)
  ·
   replace hm:=ip hm c283
   refine o_z ?_
   refine Ar rfl (Ah (Ae (o_miE rfl rfl ?_)))
   refine o_as rfl rfl (o_as rfl rfl (o_z ?_))
   refine Au ?_
   obtain rfl:=sm hm
   replace hB:=(hB.st S247).st S277
   exact ret2 rfl (AG rfl) (AG rfl) ⟨hB.ext,_,_,rfl,(vInt (show inI64 (0) from by decide)),(vErr (by decide))⟩
  ·
   replace hm:=im hm c283
   refine o_z ?_
   refine Aj rfl (Am (Ah (Ae (o_mv rfl rfl (o_nc rfl rfl (o_fa rfl rfl ?_))))))
   replace h248:=h248.st S277
   refine o_ld (hc:=Blk.cell (i:=4) (h248.1) rfl) rfl rfl ?_
   obtain ⟨q284,e285,hm⟩:=bs hm
   refine Be (O:=O276) (BS h280 e285) rfl rfl fun v290 w286 O287 S288 h289=>?_
   obtain ⟨h291,h292⟩:=h289
   obtain ⟨rfl,r293⟩:=h292.int
   refine o_as rfl rfl (o_as rfl rfl (o_z ?_))
   refine Au ?_
   obtain rfl:=sm hm
   replace hB:=((hB.st S247).st S277).st S288
   exact ret2 rfl (AG rfl) (AG rfl) ⟨hB.ext,_,_,rfl,(vInt r293),(vErr (show inI64 0 from by decide))⟩
end
section
open Go Go.RowKit
attribute [local irreducible] ewp owp hwp hwq hws Ev Evg Fn retPost loud loudS Res1
attribute [local irreducible] hwx loudX
noncomputable def Co  : Option Tsk :=
  bnd (rngN (ρ:=Tsk) (fun (k35:Nat) (s33:(List Opr))=>bnd (chkI ((k35:Int) + 1)) fun n56=>bnd (appI 72 s33 [(⟨(⟨#[]⟩:ByteArray),1,[(⟨0,(k35:Int)⟩:Fct)],[(⟨([]:List Fct),0,n56⟩:Eff)]⟩:Opr)]) fun u69=>some (.next u69)) 3 ([]:List Opr)) fun res31=>fin res31 fun (s87:(List Opr))=>bnd (appI 72 s87 [(⟨(⟨#[]⟩:ByteArray),5,[(⟨0,0⟩:Fct)],[(⟨([]:List Fct),0,3⟩:Eff)]⟩:Opr)]) fun u105=>some (⟨([4]:List Int),([0]:List Int),[(⟨0,3⟩:Fct)],u105⟩:Tsk)
theorem DQ {w:World} {A:Nat→Prop} (hA:∀ k,A k→k < w.heap.size)  {r:Tsk} (hm:Co  = some r) :
    Fn Try.prog 32 [] w fun v w'=>Ext w w'∧Vb w' (upA A w w') v r:=by
 obtain ⟨O,hB,hA0⟩:=enter hA
 refine AK Try.func32 rfl Try.ntmps32 rfl ?_
 unfold Co at hm
 refine Ah (Ae (BR 2 O rfl fun g1 w2 O3 S4 h5=>?_))
 refine o_z ?_
 refine Ah (Ae (BG 3 (by decide) O3 (xs:=(([4]:List Int):List Int)) rfl rfl rfl rfl ⟨(vInt (show inI64 (4) from by decide)),trivial⟩ (by decide) (by decide) rfl fun g6 w7 O8 S9 h10=>?_))
 refine BG 4 (by decide) O8 (xs:=(([0]:List Int):List Int)) rfl rfl rfl rfl ⟨(vInt (show inI64 (0) from by decide)),trivial⟩ (by decide) (by decide) rfl fun g12 w13 O14 S15 h16=>?_
 refine o_bd rfl rfl rfl ?_
 refine BG 5 (by decide) O14 (xs:=([(⟨0,3⟩:Fct)]:List Fct)) rfl rfl rfl rfl ⟨(Vb.ofAgg (cs:=[(.int .i64 0),(.int .i64 3)]) (x:=(⟨0,3⟩:Fct)) rfl ⟨rfl,(show inI64 (0) from by decide),(show inI64 (3) from by decide)⟩),trivial⟩ (by decide) (by decide) rfl fun g18 w19 O20 S21 h22=>?_
 refine o_bd rfl rfl rfl ?_
 refine BR 6 O20 rfl fun g24 w25 O26 S27 h28=>?_
 refine AV h28 rfl rfl rfl (Nat.le_of_ble_eq_true rfl) (by first|exact allOne rfl|simp [Value.cells,Value.oneCell',AQ]) fun w29 S30 h28=>?_
 replace h28:Lc 6 w29 O26 g24 26 [(.slice (some ⟨g6,0,none⟩) ([4]:List Int).length 1),(.slice (some ⟨g12,0,none⟩) ([0]:List Int).length 1),(.slice (some ⟨g18,0,none⟩) [(⟨0,3⟩:Fct)].length 1),(.slice none 0 0)]:=h28
 refine o_z ?_
 refine Ah (Ah (Ae (o_mv rfl rfl (o_z ?_))))
 obtain ⟨res31,hL32,hm⟩:=bs hm
 refine AL (aft res31 (fun (s33:(List Opr)) (x34:(Option Addr×Nat))=>[(0,(.pointer (some ⟨g1,0,none⟩))),(1,(.pointer (some ⟨g24,0,none⟩)))]) (fun s33 x34 w'=>∃ O':Lab,Bs w A w' O'∧Lc 2 w' O' g1 26 [(.slice none 0 0),(.slice none 0 0),(.slice none 0 0),(.slice none 0 0)]∧Lc 6 w' O' g24 26 [(.slice (some ⟨g6,0,none⟩) ([4]:List Int).length 1),(.slice (some ⟨g12,0,none⟩) ([0]:List Int).length 1),(.slice (some ⟨g18,0,none⟩) [(⟨0,3⟩:Fct)].length 1),(.slice x34.1 s33.length x34.2)]∧Rw 3 w' O' 3 (.slice (some ⟨g6,0,none⟩) ([4]:List Int).length 1) ([4]:List Int)∧Rw 4 w' O' 3 (.slice (some ⟨g12,0,none⟩) ([0]:List Int).length 1) ([0]:List Int)∧Rw 5 w' O' 57 (.slice (some ⟨g18,0,none⟩) [(⟨0,3⟩:Fct)].length 1) [(⟨0,3⟩:Fct)]∧Rw 9 w' O' 55 (.slice x34.1 s33.length x34.2) s33)) ?_ ?_
 ·
  refine Al ?_
  replace hB:=(((((hB.st S4).st S9).st S15).st S21).st S27).st S30
  replace h5:=((((h5.st S9).st S15).st S21).st S27).st S30
  replace h10:=(((h10.st S15).st S21).st S27).st S30
  replace h16:=((h16.st S21).st S27).st S30
  replace h22:=(h22.st S27).st S30
  refine Lk (σ:=(List Opr)) (X:=(Option Addr×Nat)) (N:=3) rfl hL32 (by decide) (fun (s33:(List Opr)) (x34:(Option Addr×Nat))=>[(0,(.pointer (some ⟨g1,0,none⟩))),(1,(.pointer (some ⟨g24,0,none⟩)))]) _ (fun s33 x34 w'=>∃ O':Lab,Bs w A w' O'∧Lc 2 w' O' g1 26 [(.slice none 0 0),(.slice none 0 0),(.slice none 0 0),(.slice none 0 0)]∧Lc 6 w' O' g24 26 [(.slice (some ⟨g6,0,none⟩) ([4]:List Int).length 1),(.slice (some ⟨g12,0,none⟩) ([0]:List Int).length 1),(.slice (some ⟨g18,0,none⟩) [(⟨0,3⟩:Fct)].length 1),(.slice x34.1 s33.length x34.2)]∧Rw 3 w' O' 3 (.slice (some ⟨g6,0,none⟩) ([4]:List Int).length 1) ([4]:List Int)∧Rw 4 w' O' 3 (.slice (some ⟨g12,0,none⟩) ([0]:List Int).length 1) ([0]:List Int)∧Rw 5 w' O' 57 (.slice (some ⟨g18,0,none⟩) [(⟨0,3⟩:Fct)].length 1) [(⟨0,3⟩:Fct)]∧Rw 9 w' O' 55 (.slice x34.1 s33.length x34.2) s33) _ (none,0) ⟨O26,hB,h5,h28,h10,h16,h22,(Rw.nil 9 (by decide))⟩ ⟨rfl,rfl,rfl,trivial⟩ (fun _ _=>⟨rfl,rfl⟩) (fun _ _=>⟨rfl,rfl,trivial⟩) (fun _ _ _ ⟨O',hB,h5,h28,h10,h16,h22,h48⟩=>⟨O',hB,h5,h28,h10,h16,h22,h48⟩) ⟨rfl,rfl,rfl⟩ ?_
  rintro k35 s33 x34 w37 cc39 hx40 ⟨O38,hB,h5,h28,h10,h16,h22,h48⟩ hf41 hret42 hbrk43
  have rk35:inI64 (k35:Int):=rngKN hx40 (by decide)
  refine Ah (Ae (o_mv rfl rfl (o_as rfl rfl (o_z ?_))))
  refine Ae (o_fa rfl rfl (o_ld (hc:=Blk.cell (i:=3) (h28.1) rfl) rfl rfl ?_))
  refine o_mv rfl rfl (o_bd rfl rfl rfl ?_)
  refine BG 7 (by decide) O38 (xs:=([(⟨0,(k35:Int)⟩:Fct)]:List Fct)) rfl rfl rfl rfl ⟨(Vb.ofAgg (cs:=[(.int .i64 0),(.int .i64 (k35:Int))]) (x:=(⟨0,(k35:Int)⟩:Fct)) rfl ⟨rfl,(show inI64 (0) from by decide),rk35⟩),trivial⟩ (by decide) (by decide) rfl fun g50 w51 O52 S53 h54=>?_
  refine o_mv rfl rfl ?_
  obtain ⟨n56,e57,hf41⟩:=bs hf41
  have r58:=(Bj e57)
  refine o_adE (he:=e57) rfl rfl rfl ?_
  refine o_bd rfl rfl rfl ?_
  refine BG 8 (by decide) O52 (xs:=([(⟨([]:List Fct),0,n56⟩:Eff)]:List Eff)) rfl rfl rfl rfl ⟨(Vb.ofAgg (cs:=[(.slice none 0 0),(.int .i64 0),(.int .i64 n56)]) (x:=(⟨([]:List Fct),0,n56⟩:Eff)) rfl ⟨_,rfl,(Vb.nil _ _),(show inI64 (0) from by decide),r58⟩),trivial⟩ (by decide) (by decide) rfl fun g59 w60 O61 S62 h63=>?_
  refine o_bd rfl rfl rfl ?_
  replace h54:=h54.st S62
  obtain ⟨O65,S66,h54⟩:=h54.freeze
  replace h63:=h63.st S66
  obtain ⟨O67,S68,h63⟩:=h63.freeze
  obtain ⟨u69,e70,hf41⟩:=bs hf41
  obtain ⟨e70,e71,e72⟩:=Cg e70
  replace h48:=(((h48.st S53).st S62).st S66).st S68
  replace h54:=h54.st S68
  refine CY rfl (a:=(⟨(⟨#[]⟩:ByteArray),1,[(⟨0,(k35:Int)⟩:Fct)],[(⟨([]:List Fct),0,n56⟩:Eff)]⟩:Opr)) h48 (Vb.ofAgg (cs:=[(.string (⟨#[]⟩:ByteArray)),(.int .i64 1),(.slice (some ⟨g50,0,none⟩) [(⟨0,(k35:Int)⟩:Fct)].length 1),(.slice (some ⟨g59,0,none⟩) [(⟨([]:List Fct),0,n56⟩:Eff)].length 1)]) (x:=(⟨(⟨#[]⟩:ByteArray),1,[(⟨0,(k35:Int)⟩:Fct)],[(⟨([]:List Fct),0,n56⟩:Eff)]⟩:Opr)) rfl ⟨_,_,rfl,h54,h63,(show inI64 (1) from by decide),(show (⟨#[]⟩:ByteArray).size≤9223372036854775807 from by decide)⟩) (fun _=>rfl) rfl (by decide) (by decide) e71 e72 ⟨rfl,rfl⟩ fun g73 A74 c75 w76 O77 S78 h79=>?_
  rw [← e70] at h79 ⊢
  refine o_fa rfl rfl ?_
  replace h28:=((((h28.st S53).st S62).st S66).st S68).st S78
  refine AV h28 rfl rfl rfl (Nat.le_of_ble_eq_true rfl) (by first|exact allOne rfl|simp [Value.cells,Value.oneCell',AQ]) fun w81 S82 h28=>?_
  replace h28:Lc 6 w81 O77 g24 26 [(.slice (some ⟨g6,0,none⟩) ([4]:List Int).length 1),(.slice (some ⟨g12,0,none⟩) ([0]:List Int).length 1),(.slice (some ⟨g18,0,none⟩) [(⟨0,3⟩:Fct)].length 1),(.slice A74 u69.length c75)]:=h28
  refine o_z ?_
  obtain rfl:=sm hf41
  refine (?_:Exists _)
  replace hB:=(((((hB.st S53).st S62).st S66).st S68).st S78).st S82
  replace h5:=(((((h5.st S53).st S62).st S66).st S68).st S78).st S82
  replace h10:=(((((h10.st S53).st S62).st S66).st S68).st S78).st S82
  replace h16:=(((((h16.st S53).st S62).st S66).st S68).st S78).st S82
  replace h22:=(((((h22.st S53).st S62).st S66).st S68).st S78).st S82
  replace h79:=h79.st S82
  exact ⟨_,(A74,c75),rfl,⟨rfl,rfl,rfl,trivial⟩,_,hB,h5,h28,h10,h16,h22,h79⟩
 replace hB:=(((((hB.st S4).st S9).st S15).st S21).st S27).st S30
 replace h5:=((((h5.st S9).st S15).st S21).st S27).st S30
 replace h10:=(((h10.st S15).st S21).st S27).st S30
 replace h16:=((h16.st S21).st S27).st S30
 replace h22:=(h22.st S27).st S30
 rintro l83 w84 ⟨s87,x88,rfl,hs86,O85,hB,h5,h28,h10,h16,h22,h48⟩
 replace hm:=AY hm
 refine AP _ hs86 ?_
 refine Ah (Ae (o_fa rfl rfl (o_ld (hc:=Blk.cell (i:=3) (h28.1) rfl) rfl rfl ?_)))
 refine o_bd rfl rfl rfl ?_
 refine BG 10 (by decide) O85 (xs:=([(⟨0,0⟩:Fct)]:List Fct)) rfl rfl rfl rfl ⟨(Vb.ofAgg (cs:=[(.int .i64 0),(.int .i64 0)]) (x:=(⟨0,0⟩:Fct)) rfl ⟨rfl,(show inI64 (0) from by decide),(show inI64 (0) from by decide)⟩),trivial⟩ (by decide) (by decide) rfl fun g89 w90 O91 S92 h93=>?_
 refine o_bd rfl rfl rfl ?_
 refine BG 11 (by decide) O91 (xs:=([(⟨([]:List Fct),0,3⟩:Eff)]:List Eff)) rfl rfl rfl rfl ⟨(Vb.ofAgg (cs:=[(.slice none 0 0),(.int .i64 0),(.int .i64 3)]) (x:=(⟨([]:List Fct),0,3⟩:Eff)) rfl ⟨_,rfl,(Vb.nil _ _),(show inI64 (0) from by decide),(show inI64 (3) from by decide)⟩),trivial⟩ (by decide) (by decide) rfl fun g95 w96 O97 S98 h99=>?_
 refine o_bd rfl rfl rfl ?_
 replace h93:=h93.st S98
 obtain ⟨O101,S102,h93⟩:=h93.freeze
 replace h99:=h99.st S102
 obtain ⟨O103,S104,h99⟩:=h99.freeze
 obtain ⟨u105,e106,hm⟩:=bs hm
 obtain ⟨e106,e107,e108⟩:=Cg e106
 replace h48:=(((h48.st S92).st S98).st S102).st S104
 replace h93:=h93.st S104
 refine CY rfl (a:=(⟨(⟨#[]⟩:ByteArray),5,[(⟨0,0⟩:Fct)],[(⟨([]:List Fct),0,3⟩:Eff)]⟩:Opr)) h48 (Vb.ofAgg (cs:=[(.string (⟨#[]⟩:ByteArray)),(.int .i64 5),(.slice (some ⟨g89,0,none⟩) [(⟨0,0⟩:Fct)].length 1),(.slice (some ⟨g95,0,none⟩) [(⟨([]:List Fct),0,3⟩:Eff)].length 1)]) (x:=(⟨(⟨#[]⟩:ByteArray),5,[(⟨0,0⟩:Fct)],[(⟨([]:List Fct),0,3⟩:Eff)]⟩:Opr)) rfl ⟨_,_,rfl,h93,h99,(show inI64 (5) from by decide),(show (⟨#[]⟩:ByteArray).size≤9223372036854775807 from by decide)⟩) (fun _=>rfl) rfl (by decide) (by decide) e107 e108 ⟨rfl,rfl⟩ fun g109 A110 c111 w112 O113 S114 h115=>?_
 rw [← e106] at h115 ⊢
 refine o_fa rfl rfl ?_
 replace h28:=((((h28.st S92).st S98).st S102).st S104).st S114
 refine AV h28 rfl rfl rfl (Nat.le_of_ble_eq_true rfl) (by first|exact allOne rfl|simp [Value.cells,Value.oneCell',AQ]) fun w117 S118 h28=>?_
 replace h28:Lc 6 w117 O113 g24 26 [(.slice (some ⟨g6,0,none⟩) ([4]:List Int).length 1),(.slice (some ⟨g12,0,none⟩) ([0]:List Int).length 1),(.slice (some ⟨g18,0,none⟩) [(⟨0,3⟩:Fct)].length 1),(.slice A110 u105.length c111)]:=h28
 refine o_z ?_
 refine Ah (Ae (o_la (hl:=rfl) (hc:=(h28.1).cellsAt) rfl rfl ?_))
 replace h5:=(((((h5.st S92).st S98).st S102).st S104).st S114).st S118
 refine AV h5 rfl rfl rfl (Nat.le_of_ble_eq_true rfl) (by first|exact allOne rfl|simp [Value.cells,Value.oneCell',AQ]) fun w119 S120 h5=>?_
 replace h5:Lc 2 w119 O113 g1 26 [(.slice (some ⟨g6,0,none⟩) ([4]:List Int).length 1),(.slice (some ⟨g12,0,none⟩) ([0]:List Int).length 1),(.slice (some ⟨g18,0,none⟩) [(⟨0,3⟩:Fct)].length 1),(.slice A110 u105.length c111)]:=h5
 refine o_z ?_
 refine Au ?_
 replace h10:=((((((h10.st S92).st S98).st S102).st S104).st S114).st S118).st S120
 obtain ⟨O121,S122,h10⟩:=h10.freeze
 replace h16:=(((((((h16.st S92).st S98).st S102).st S104).st S114).st S118).st S120).st S122
 obtain ⟨O123,S124,h16⟩:=h16.freeze
 replace h22:=((((((((h22.st S92).st S98).st S102).st S104).st S114).st S118).st S120).st S122).st S124
 obtain ⟨O125,S126,h22⟩:=h22.freeze
 replace h115:=((((h115.st S118).st S120).st S122).st S124).st S126
 obtain ⟨O127,S128,h115⟩:=h115.freeze
 obtain rfl:=sm hm
 replace hB:=((((((((((hB.st S92).st S98).st S102).st S104).st S114).st S118).st S120).st S122).st S124).st S126).st S128
 replace h5:=(((h5.st S122).st S124).st S126).st S128
 replace h10:=((h10.st S124).st S126).st S128
 replace h16:=(h16.st S126).st S128
 replace h22:=h22.st S128
 exact ret1v rfl (BD (cs:=[(.slice (some ⟨g6,0,none⟩) ([4]:List Int).length 1),(.slice (some ⟨g12,0,none⟩) ([0]:List Int).length 1),(.slice (some ⟨g18,0,none⟩) [(⟨0,3⟩:Fct)].length 1),(.slice A110 u105.length c111)]) rfl rfl h5.1.cellsAt) ⟨hB.ext,(Vb.mono (F:=Fr 0 w119 O127) (Vb.ofAgg (cs:=[(.slice (some ⟨g6,0,none⟩) ([4]:List Int).length 1),(.slice (some ⟨g12,0,none⟩) ([0]:List Int).length 1),(.slice (some ⟨g18,0,none⟩) [(⟨0,3⟩:Fct)].length 1),(.slice A110 u105.length c111)]) (x:=(⟨([4]:List Int),([0]:List Int),[(⟨0,3⟩:Fct)],u105⟩:Tsk)) rfl ⟨_,_,_,_,rfl,h10,h16,h22,h115⟩) hB.out)⟩
noncomputable def CS  : Option Bool :=
  bnd (Co) fun q1=>bnd (Cj q1 100) fun q25=>bnd (Co) fun q52=>bnd (CU q52 100) fun q76=>bnd (Co) fun q103=>bnd (CL q103 100) fun q127=>bnd (if q25.2.n=0 then (if q76.2.n=0 then (if q127.2.n=0 then (bnd (ER q25.1.plan ([3]:List Int)) fun q153=>if q153=true then if q25.1.cost=5 then (if q25.1.expanded=2 then (bnd (Co) fun q162=>bnd (DH q162 q76.1 3) fun q186=>if q186=true then if q127.1=4 then (some true) else (some false) else some false) else (some false)) else (some false) else some false) else (some false)) else (some false)) else (some false):Option Bool) fun y140=>some y140
theorem GO {w:World} {A:Nat→Prop} (hA:∀ k,A k→k < w.heap.size)  {r:Bool} (hm:CS  = some r) :
    Fn Try.prog 12 [] w fun v w'=>Ext w w'∧Vb w' (upA A w w') v r:=by
 obtain ⟨O,hB,hA0⟩:=enter hA
 refine AK Try.func12 rfl Try.ntmps12 rfl ?_
 unfold CS at hm
 refine Ah (Ae (o_as rfl rfl (o_z ?_)))
 refine Ah (Ae ?_)
 obtain ⟨q1,e2,hm⟩:=bs hm
 refine BY (O:=O) (R:=fun w' F v=>Vb w' F v q1) (DQ Fr.lt  e2) rfl rfl fun v7 w3 O4 S5 h6=>?_
 obtain ⟨cs8,rfl,v9,v10,v11,v12,rfl,h13,h16,h19,h22⟩:=h6
 obtain ⟨A14,c15,rfl⟩:=h13.form
 obtain ⟨A17,c18,rfl⟩:=h16.form
 obtain ⟨A20,c21,rfl⟩:=h19.form
 obtain ⟨A23,c24,rfl⟩:=h22.form
 obtain ⟨q25,e26,hm⟩:=bs hm
 refine BY (O:=O4) (R:=fun w' F v=>T2 w' F v q25) (Fz Fr.lt (Vb.ofAgg (cs:=[(.slice A14 q1.vars.length c15),(.slice A17 q1.init.length c18),(.slice A20 q1.goal.length c21),(.slice A23 q1.ops.length c24)]) (x:=q1) rfl ⟨_,_,_,_,rfl,h13,h16,h19,h22⟩) (show inI64 (100) from by decide) e26) rfl rfl fun v31 w27 O28 S29 h30=>?_
 obtain ⟨v32,v33,rfl,h34,h35⟩:=h30
 obtain ⟨cs36,rfl,v37,rfl,h38,r41,r42,r43⟩:=h34
 obtain ⟨A39,c40,rfl⟩:=h38.form
 obtain ⟨rfl,r44⟩:=h35.err
 refine o_mv rfl rfl (o_ex rfl rfl rfl (o_ex rfl rfl rfl (BR 2 O28 rfl fun g45 w46 O47 S48 h49=>?_)))
 refine AV h49 rfl rfl rfl (Nat.le_of_ble_eq_true rfl) (by first|exact allOne rfl|simp [Value.cells,Value.oneCell',AQ]) fun w50 S51 h49=>?_
 replace h49:Lc 2 w50 O47 g45 30 [(.int .i64 q25.1.verdict),(.slice A39 q25.1.plan.length c40),(.int .i64 q25.1.cost),(.int .i64 q25.1.expanded)]:=h49
 refine o_as rfl rfl (o_z ?_)
 refine Ah (Ae ?_)
 obtain ⟨q52,e53,hm⟩:=bs hm
 refine BY (O:=O47) (R:=fun w' F v=>Vb w' F v q52) (DQ Fr.lt  e53) rfl rfl fun v58 w54 O55 S56 h57=>?_
 obtain ⟨cs59,rfl,v60,v61,v62,v63,rfl,h64,h67,h70,h73⟩:=h57
 obtain ⟨A65,c66,rfl⟩:=h64.form
 obtain ⟨A68,c69,rfl⟩:=h67.form
 obtain ⟨A71,c72,rfl⟩:=h70.form
 obtain ⟨A74,c75,rfl⟩:=h73.form
 obtain ⟨q76,e77,hm⟩:=bs hm
 refine BY (O:=O55) (R:=fun w' F v=>T2 w' F v q76) (HA Fr.lt (Vb.ofAgg (cs:=[(.slice A65 q52.vars.length c66),(.slice A68 q52.init.length c69),(.slice A71 q52.goal.length c72),(.slice A74 q52.ops.length c75)]) (x:=q52) rfl ⟨_,_,_,_,rfl,h64,h67,h70,h73⟩) (show inI64 (100) from by decide) e77) rfl rfl fun v82 w78 O79 S80 h81=>?_
 obtain ⟨v83,v84,rfl,h85,h86⟩:=h81
 obtain ⟨cs87,rfl,v88,rfl,h89,r92,r93,r94⟩:=h85
 obtain ⟨A90,c91,rfl⟩:=h89.form
 obtain ⟨rfl,r95⟩:=h86.err
 refine o_mv rfl rfl (o_ex rfl rfl rfl (o_ex rfl rfl rfl (BR 3 O79 rfl fun g96 w97 O98 S99 h100=>?_)))
 refine AV h100 rfl rfl rfl (Nat.le_of_ble_eq_true rfl) (by first|exact allOne rfl|simp [Value.cells,Value.oneCell',AQ]) fun w101 S102 h100=>?_
 replace h100:Lc 3 w101 O98 g96 30 [(.int .i64 q76.1.verdict),(.slice A90 q76.1.plan.length c91),(.int .i64 q76.1.cost),(.int .i64 q76.1.expanded)]:=h100
 refine o_as rfl rfl (o_z ?_)
 refine Ah (Ae ?_)
 obtain ⟨q103,e104,hm⟩:=bs hm
 refine BY (O:=O98) (R:=fun w' F v=>Vb w' F v q103) (DQ Fr.lt  e104) rfl rfl fun v109 w105 O106 S107 h108=>?_
 obtain ⟨cs110,rfl,v111,v112,v113,v114,rfl,h115,h118,h121,h124⟩:=h108
 obtain ⟨A116,c117,rfl⟩:=h115.form
 obtain ⟨A119,c120,rfl⟩:=h118.form
 obtain ⟨A122,c123,rfl⟩:=h121.form
 obtain ⟨A125,c126,rfl⟩:=h124.form
 obtain ⟨q127,e128,hm⟩:=bs hm
 refine BL (O:=O106) (A:=All w105) (R:=fun w' F v=>T2 w' F v q127) (GU (fun _ h=>h) (Vb.mono (F:=Fr 0 w105 O106) (Vb.ofAgg (cs:=[(.slice A116 q103.vars.length c117),(.slice A119 q103.init.length c120),(.slice A122 q103.goal.length c123),(.slice A125 q103.ops.length c126)]) (x:=q103) rfl ⟨_,_,_,_,rfl,h115,h118,h121,h124⟩) Fr.lt) (show inI64 (100) from by decide) e128) rfl rfl fun v133 w129 O130 S131 h132=>?_
 obtain ⟨v134,v135,rfl,h136,h137⟩:=h132
 obtain ⟨rfl,r138⟩:=h136.int
 obtain ⟨rfl,r139⟩:=h137.err
 refine o_mv rfl rfl (o_ex rfl rfl rfl (o_ex rfl rfl rfl (o_as rfl rfl (o_as rfl rfl (o_z ?_)))))
 refine Ah ?_
 obtain ⟨y140,hy141,hm⟩:=bs hm
 refine AL (fun l' w'=>∃ (x143:Unit) (O':Lab),subs l' [(0,(.bool y140))]∧Bs w A w' O') ?_ ?_
 ·
  refine BA [(13,[]),(14,[]),(27,[]),(29,[])] O130 ?_
  refine x_pre (fuel:=23) [] [(0,true),(1,true),(2,true),(3,true),(4,true),(5,true),(6,true),(7,true),(8,true),(9,true),(10,true),(11,true),(12,true)] (by kernel_rfl) rfl ?_
  refine h_mv rfl rfl rfl (hwp_o rfl (AN (fun _ _=>Iu rfl) rfl (fun c144=>?_) (fun c144=>?_)))
  ·
   replace hy141:=ip hy141 c144
   refine h_mv rfl rfl rfl (hwp_o rfl (AB rfl rfl (g_mv rfl rfl (hwp_o rfl (AB rfl rfl (AN (fun _ _=>Iu rfl) rfl (fun c145=>?_) (fun c145=>?_)))))))
   ·
    replace hy141:=ip hy141 c145
    refine h_pt rfl rfl rfl rfl (h_mv rfl rfl rfl (hwp_o rfl (AB rfl rfl (g_mv rfl rfl (hwp_o rfl (AB rfl rfl (AN (fun _ _=>Iu rfl) rfl (fun c146=>?_) (fun c146=>?_))))))))
    ·
     replace hy141:=ip hy141 c146
     refine h_pt rfl rfl rfl rfl (h_mv rfl rfl rfl (hwp_o rfl (AB rfl rfl (g_fa rfl rfl (hwp_o rfl (AB rfl rfl ?_))))))
     replace h49:=(((((h49.st S56).st S80).st S99).st S102).st S107).st S131
     refine g_ldC (hc:=fun w' ⟨O',hq⟩=>Blk.cell (i:=1) ((h49.st hq (by decide)).1) rfl) rfl rfl ?_
     refine AI ?_
     refine x_one (i:=13) (by kernel_rfl) rfl ?_
     refine AE rfl rfl (BG 4 (by decide) O130 (xs:=(([3]:List Int):List Int)) rfl rfl rfl rfl ⟨(vInt (show inI64 (3) from by decide)),trivial⟩ (by decide) (by decide) rfl fun g147 w148 O149 S150 h151=>?_)
     have hZ:=S150.lst [] (fun _ h=>h.elim)
     refine x_go [(14,[]),(27,[]),(29,[])] hZ (by kernel_rfl) ?_
     refine x_one (i:=14) (by kernel_rfl) rfl ?_
     refine AE rfl rfl ?_
     obtain ⟨q153,e154,hy141⟩:=bs hy141
     replace h38:=((((((((h38.st S48).st S51).st S56).st S80).st S99).st S102).st S107).st S131).st S150
     refine BL (O:=O149) (A:=All w148) (R:=fun w' F v=>Vb w' F v q153) (JA (fun _ h=>h) (Vb.mono (F:=Fr 0 w148 O149) h38 Fr.lt) (h151).all e154) rfl rfl fun v159 w155 O156 S157 h158=>?_
     obtain rfl:=h158.bool
     have hZ:=S157.lst [] (fun _ h=>h.elim)
     cases q153
     case false =>
      replace hy141:=iF hy141
      refine x_go [(27,[]),(29,[])] hZ (by kernel_rfl) ?_
      refine x_pre (fuel:=8) [] [(15,true),(16,true),(17,true),(18,true),(19,true),(20,true),(21,true),(22,true),(23,true),(24,true),(25,true),(26,true),(28,true)] (by kernel_rfl) rfl ?_
      refine h_pt rfl rfl rfl rfl (h_mv rfl rfl rfl (h_no rfl rfl rfl rfl rfl (h_no rfl rfl rfl rfl rfl (h_no rfl rfl rfl rfl rfl (h_pf rfl rfl rfl rfl (h_mv rfl rfl rfl (h_no rfl rfl rfl rfl rfl (h_no rfl rfl rfl rfl rfl (h_no rfl rfl rfl rfl rfl (h_pf rfl rfl rfl rfl (h_mv rfl rfl rfl (h_no rfl rfl rfl rfl rfl (AI ?_)))))))))))))
      refine x_one (i:=27) (by kernel_rfl) rfl ?_
      refine AD rfl rfl rfl rfl (x_go [(29,[])] ((St.refl nT _ _).lst [] (fun _ h=>h.elim)) (by kernel_rfl) ?_)
      refine x_one (i:=29) (by kernel_rfl) rfl ?_
      refine AD rfl rfl rfl rfl (x_go [] ((St.refl nT _ _).lst [] (fun _ h=>h.elim)) (by kernel_rfl) ?_)
      refine x_pre (fuel:=0) [] [(30,true),(31,true),(32,true),(33,true),(34,true),(35,true)] (by kernel_rfl) rfl ?_
      refine h_pf rfl rfl rfl rfl (h_mv rfl rfl rfl (h_no rfl rfl rfl rfl rfl (h_no rfl rfl rfl rfl rfl (h_pf rfl rfl rfl rfl (h_as rfl rfl rfl (AI ?_))))))
      refine x_nil (by kernel_rfl) ?_
      obtain rfl:=sm hy141
      replace hB:=(((((((((((hB.st S5).st S29).st S48).st S51).st S56).st S80).st S99).st S102).st S107).st S131).st S150).st S157
      exact ⟨(),_,⟨rfl,trivial⟩,hB⟩
     replace hy141:=iT hy141
     refine x_go [(27,[]),(29,[])] hZ (by kernel_rfl) ?_
     refine x_pre (fuel:=8) [] [(15,true),(16,true),(17,true),(18,true),(19,true),(20,true),(21,true),(22,true),(23,true),(24,true),(25,true),(26,true),(28,true)] (by kernel_rfl) rfl ?_
     refine h_pt rfl rfl rfl rfl (h_mv rfl rfl rfl (hwp_o rfl (AB rfl rfl (g_fa rfl rfl (hwp_o rfl (AB rfl rfl ?_))))))
     replace h49:=(h49.st S150).st S157
     refine g_ldC (hc:=fun w' ⟨O',hq⟩=>Blk.cell (i:=2) ((h49.st hq (by decide)).1) rfl) rfl rfl ?_
     refine hwp_o rfl (AB rfl rfl (AN (fun _ _=>Ee rfl rfl) rfl (fun c160=>?_) (fun c160=>?_)))
     ·
      replace hy141:=ip hy141 c160
      refine h_pt rfl rfl rfl rfl (h_mv rfl rfl rfl (hwp_o rfl (AB rfl rfl (g_fa rfl rfl (hwp_o rfl (AB rfl rfl (g_ldC (hc:=fun w' ⟨O',hq⟩=>Blk.cell (i:=3) ((h49.st hq (by decide)).1) rfl) rfl rfl ?_)))))))
      refine hwp_o rfl (AB rfl rfl (AN (fun _ _=>Ee rfl rfl) rfl (fun c161=>?_) (fun c161=>?_)))
      ·
       replace hy141:=ip hy141 c161
       refine h_pt rfl rfl rfl rfl (h_mv rfl rfl rfl (hwp_o rfl (AB rfl rfl ?_)))
       replace h100:=(((h100.st S107).st S131).st S150).st S157
       refine g_laB (hl:=rfl) (hb:=fun w' ⟨O',hq⟩=>((h100.st hq (by decide)).1).cellsAt) rfl rfl ?_
       refine AI ?_
       refine x_one (i:=27) (by kernel_rfl) rfl ?_
       refine AE rfl rfl ?_
       obtain ⟨q162,e163,hy141⟩:=bs hy141
       refine BY (O:=O156) (R:=fun w' F v=>Vb w' F v q162) (DQ Fr.lt  e163) rfl rfl fun v168 w164 O165 S166 h167=>?_
       obtain ⟨cs169,rfl,v170,v171,v172,v173,rfl,h174,h177,h180,h183⟩:=h167
       obtain ⟨A175,c176,rfl⟩:=h174.form
       obtain ⟨A178,c179,rfl⟩:=h177.form
       obtain ⟨A181,c182,rfl⟩:=h180.form
       obtain ⟨A184,c185,rfl⟩:=h183.form
       have hZ:=S166.lst [] (fun _ h=>h.elim)
       refine x_go [(29,[])] hZ (by kernel_rfl) ?_
       refine x_one (i:=29) (by kernel_rfl) rfl ?_
       refine AE rfl rfl ?_
       obtain ⟨q186,e187,hy141⟩:=bs hy141
       replace h89:=((((((h89.st S99).st S102).st S107).st S131).st S150).st S157).st S166
       refine BL (O:=O165) (A:=All w164) (R:=fun w' F v=>Vb w' F v q186) (IU (fun _ h=>h) (Vb.mono (F:=Fr 0 w164 O165) (Vb.ofAgg (cs:=[(.slice A175 q162.vars.length c176),(.slice A178 q162.init.length c179),(.slice A181 q162.goal.length c182),(.slice A184 q162.ops.length c185)]) (x:=q162) rfl ⟨_,_,_,_,rfl,h174,h177,h180,h183⟩) Fr.lt) (Vb.mono (F:=Fr 0 w164 O165) (Vb.ofAgg (cs:=[(.int .i64 q76.1.verdict),(.slice A90 q76.1.plan.length c91),(.int .i64 q76.1.cost),(.int .i64 q76.1.expanded)]) (x:=q76.1) rfl ⟨_,rfl,h89,r92,r93,r94⟩) Fr.lt) (show inI64 (3) from by decide) e187) rfl rfl fun v192 w188 O189 S190 h191=>?_
       obtain rfl:=h191.bool
       have hZ:=S190.lst [] (fun _ h=>h.elim)
       cases q186
       case false =>
        replace hy141:=iF hy141
        refine x_go [] hZ (by kernel_rfl) ?_
        refine x_pre (fuel:=0) [] [(30,true),(31,true),(32,true),(33,true),(34,true),(35,true)] (by kernel_rfl) rfl ?_
        refine h_pt rfl rfl rfl rfl (h_mv rfl rfl rfl (h_no rfl rfl rfl rfl rfl (h_no rfl rfl rfl rfl rfl (h_pf rfl rfl rfl rfl (h_as rfl rfl rfl (AI ?_))))))
        refine x_nil (by kernel_rfl) ?_
        obtain rfl:=sm hy141
        replace hB:=(((((((((((((hB.st S5).st S29).st S48).st S51).st S56).st S80).st S99).st S102).st S107).st S131).st S150).st S157).st S166).st S190
        exact ⟨(),_,⟨rfl,trivial⟩,hB⟩
       replace hy141:=iT hy141
       refine x_go [] hZ (by kernel_rfl) ?_
       refine x_pre (fuel:=0) [] [(30,true),(31,true),(32,true),(33,true),(34,true),(35,true)] (by kernel_rfl) rfl ?_
       refine h_pt rfl rfl rfl rfl (h_mv rfl rfl rfl (hwp_o rfl (AB rfl rfl (g_mv rfl rfl (hwp_o rfl (AB rfl rfl (AN (fun _ _=>Ee rfl rfl) rfl (fun c193=>?_) (fun c193=>?_))))))))
       ·
        replace hy141:=ip hy141 c193
        refine h_pt rfl rfl rfl rfl (h_as rfl rfl rfl (AI ?_))
        refine x_nil (by kernel_rfl) ?_
        obtain rfl:=sm hy141
        replace hB:=(((((((((((((hB.st S5).st S29).st S48).st S51).st S56).st S80).st S99).st S102).st S107).st S131).st S150).st S157).st S166).st S190
        exact ⟨(),_,⟨rfl,trivial⟩,hB⟩
       ·
        replace hy141:=im hy141 c193
        refine h_pt rfl rfl rfl rfl (h_as rfl rfl rfl (AI ?_))
        refine x_nil (by kernel_rfl) ?_
        obtain rfl:=sm hy141
        replace hB:=(((((((((((((hB.st S5).st S29).st S48).st S51).st S56).st S80).st S99).st S102).st S107).st S131).st S150).st S157).st S166).st S190
        exact ⟨(),_,⟨rfl,trivial⟩,hB⟩
      ·
       replace hy141:=im hy141 c161
       refine h_pt rfl rfl rfl rfl (h_mv rfl rfl rfl (h_no rfl rfl rfl rfl rfl (AI ?_)))
       refine x_one (i:=27) (by kernel_rfl) rfl ?_
       refine AD rfl rfl rfl rfl (x_go [(29,[])] ((St.refl nT _ _).lst [] (fun _ h=>h.elim)) (by kernel_rfl) ?_)
       refine x_one (i:=29) (by kernel_rfl) rfl ?_
       refine AD rfl rfl rfl rfl (x_go [] ((St.refl nT _ _).lst [] (fun _ h=>h.elim)) (by kernel_rfl) ?_)
       refine x_pre (fuel:=0) [] [(30,true),(31,true),(32,true),(33,true),(34,true),(35,true)] (by kernel_rfl) rfl ?_
       refine h_pf rfl rfl rfl rfl (h_mv rfl rfl rfl (h_no rfl rfl rfl rfl rfl (h_no rfl rfl rfl rfl rfl (h_pf rfl rfl rfl rfl (h_as rfl rfl rfl (AI ?_))))))
       refine x_nil (by kernel_rfl) ?_
       obtain rfl:=sm hy141
       replace hB:=(((((((((((hB.st S5).st S29).st S48).st S51).st S56).st S80).st S99).st S102).st S107).st S131).st S150).st S157
       exact ⟨(),_,⟨rfl,trivial⟩,hB⟩
     ·
      replace hy141:=im hy141 c160
      refine h_pt rfl rfl rfl rfl (h_mv rfl rfl rfl (h_no rfl rfl rfl rfl rfl (h_no rfl rfl rfl rfl rfl (h_no rfl rfl rfl rfl rfl (h_pf rfl rfl rfl rfl (h_mv rfl rfl rfl (h_no rfl rfl rfl rfl rfl (AI ?_))))))))
      refine x_one (i:=27) (by kernel_rfl) rfl ?_
      refine AD rfl rfl rfl rfl (x_go [(29,[])] ((St.refl nT _ _).lst [] (fun _ h=>h.elim)) (by kernel_rfl) ?_)
      refine x_one (i:=29) (by kernel_rfl) rfl ?_
      refine AD rfl rfl rfl rfl (x_go [] ((St.refl nT _ _).lst [] (fun _ h=>h.elim)) (by kernel_rfl) ?_)
      refine x_pre (fuel:=0) [] [(30,true),(31,true),(32,true),(33,true),(34,true),(35,true)] (by kernel_rfl) rfl ?_
      refine h_pf rfl rfl rfl rfl (h_mv rfl rfl rfl (h_no rfl rfl rfl rfl rfl (h_no rfl rfl rfl rfl rfl (h_pf rfl rfl rfl rfl (h_as rfl rfl rfl (AI ?_))))))
      refine x_nil (by kernel_rfl) ?_
      obtain rfl:=sm hy141
      replace hB:=(((((((((((hB.st S5).st S29).st S48).st S51).st S56).st S80).st S99).st S102).st S107).st S131).st S150).st S157
      exact ⟨(),_,⟨rfl,trivial⟩,hB⟩
    ·
     replace hy141:=im hy141 c146
     refine h_pt rfl rfl rfl rfl (h_mv rfl rfl rfl (h_no rfl rfl rfl rfl rfl (h_no rfl rfl rfl rfl rfl (AI ?_))))
     refine x_one (i:=13) (by kernel_rfl) rfl ?_
     refine AD rfl rfl rfl rfl (x_go [(14,[]),(27,[]),(29,[])] ((St.refl nT _ _).lst [] (fun _ h=>h.elim)) (by kernel_rfl) ?_)
     refine x_one (i:=14) (by kernel_rfl) rfl ?_
     refine AD rfl rfl rfl rfl (x_go [(27,[]),(29,[])] ((St.refl nT _ _).lst [] (fun _ h=>h.elim)) (by kernel_rfl) ?_)
     refine x_pre (fuel:=8) [] [(15,true),(16,true),(17,true),(18,true),(19,true),(20,true),(21,true),(22,true),(23,true),(24,true),(25,true),(26,true),(28,true)] (by kernel_rfl) rfl ?_
     refine h_pf rfl rfl rfl rfl (h_mv rfl rfl rfl (h_no rfl rfl rfl rfl rfl (h_no rfl rfl rfl rfl rfl (h_no rfl rfl rfl rfl rfl (h_pf rfl rfl rfl rfl (h_mv rfl rfl rfl (h_no rfl rfl rfl rfl rfl (h_no rfl rfl rfl rfl rfl (h_no rfl rfl rfl rfl rfl (h_pf rfl rfl rfl rfl (h_mv rfl rfl rfl (h_no rfl rfl rfl rfl rfl (AI ?_)))))))))))))
     refine x_one (i:=27) (by kernel_rfl) rfl ?_
     refine AD rfl rfl rfl rfl (x_go [(29,[])] ((St.refl nT _ _).lst [] (fun _ h=>h.elim)) (by kernel_rfl) ?_)
     refine x_one (i:=29) (by kernel_rfl) rfl ?_
     refine AD rfl rfl rfl rfl (x_go [] ((St.refl nT _ _).lst [] (fun _ h=>h.elim)) (by kernel_rfl) ?_)
     refine x_pre (fuel:=0) [] [(30,true),(31,true),(32,true),(33,true),(34,true),(35,true)] (by kernel_rfl) rfl ?_
     refine h_pf rfl rfl rfl rfl (h_mv rfl rfl rfl (h_no rfl rfl rfl rfl rfl (h_no rfl rfl rfl rfl rfl (h_pf rfl rfl rfl rfl (h_as rfl rfl rfl (AI ?_))))))
     refine x_nil (by kernel_rfl) ?_
     obtain rfl:=sm hy141
     replace hB:=(((((((((hB.st S5).st S29).st S48).st S51).st S56).st S80).st S99).st S102).st S107).st S131
     exact ⟨(),_,⟨rfl,trivial⟩,hB⟩
   ·
    replace hy141:=im hy141 c145
    refine h_pt rfl rfl rfl rfl (h_mv rfl rfl rfl (h_no rfl rfl rfl rfl rfl (h_no rfl rfl rfl rfl rfl (h_pf rfl rfl rfl rfl (h_mv rfl rfl rfl (h_no rfl rfl rfl rfl rfl (h_no rfl rfl rfl rfl rfl (AI ?_))))))))
    refine x_one (i:=13) (by kernel_rfl) rfl ?_
    refine AD rfl rfl rfl rfl (x_go [(14,[]),(27,[]),(29,[])] ((St.refl nT _ _).lst [] (fun _ h=>h.elim)) (by kernel_rfl) ?_)
    refine x_one (i:=14) (by kernel_rfl) rfl ?_
    refine AD rfl rfl rfl rfl (x_go [(27,[]),(29,[])] ((St.refl nT _ _).lst [] (fun _ h=>h.elim)) (by kernel_rfl) ?_)
    refine x_pre (fuel:=8) [] [(15,true),(16,true),(17,true),(18,true),(19,true),(20,true),(21,true),(22,true),(23,true),(24,true),(25,true),(26,true),(28,true)] (by kernel_rfl) rfl ?_
    refine h_pf rfl rfl rfl rfl (h_mv rfl rfl rfl (h_no rfl rfl rfl rfl rfl (h_no rfl rfl rfl rfl rfl (h_no rfl rfl rfl rfl rfl (h_pf rfl rfl rfl rfl (h_mv rfl rfl rfl (h_no rfl rfl rfl rfl rfl (h_no rfl rfl rfl rfl rfl (h_no rfl rfl rfl rfl rfl (h_pf rfl rfl rfl rfl (h_mv rfl rfl rfl (h_no rfl rfl rfl rfl rfl (AI ?_)))))))))))))
    refine x_one (i:=27) (by kernel_rfl) rfl ?_
    refine AD rfl rfl rfl rfl (x_go [(29,[])] ((St.refl nT _ _).lst [] (fun _ h=>h.elim)) (by kernel_rfl) ?_)
    refine x_one (i:=29) (by kernel_rfl) rfl ?_
    refine AD rfl rfl rfl rfl (x_go [] ((St.refl nT _ _).lst [] (fun _ h=>h.elim)) (by kernel_rfl) ?_)
    refine x_pre (fuel:=0) [] [(30,true),(31,true),(32,true),(33,true),(34,true),(35,true)] (by kernel_rfl) rfl ?_
    refine h_pf rfl rfl rfl rfl (h_mv rfl rfl rfl (h_no rfl rfl rfl rfl rfl (h_no rfl rfl rfl rfl rfl (h_pf rfl rfl rfl rfl (h_as rfl rfl rfl (AI ?_))))))
    refine x_nil (by kernel_rfl) ?_
    obtain rfl:=sm hy141
    replace hB:=(((((((((hB.st S5).st S29).st S48).st S51).st S56).st S80).st S99).st S102).st S107).st S131
    exact ⟨(),_,⟨rfl,trivial⟩,hB⟩
  ·
   replace hy141:=im hy141 c144
   refine h_mv rfl rfl rfl (h_no rfl rfl rfl rfl rfl (h_no rfl rfl rfl rfl rfl (h_pf rfl rfl rfl rfl (h_mv rfl rfl rfl (h_no rfl rfl rfl rfl rfl (h_no rfl rfl rfl rfl rfl (h_pf rfl rfl rfl rfl (h_mv rfl rfl rfl (h_no rfl rfl rfl rfl rfl (h_no rfl rfl rfl rfl rfl (AI ?_)))))))))))
   refine x_one (i:=13) (by kernel_rfl) rfl ?_
   refine AD rfl rfl rfl rfl (x_go [(14,[]),(27,[]),(29,[])] ((St.refl nT _ _).lst [] (fun _ h=>h.elim)) (by kernel_rfl) ?_)
   refine x_one (i:=14) (by kernel_rfl) rfl ?_
   refine AD rfl rfl rfl rfl (x_go [(27,[]),(29,[])] ((St.refl nT _ _).lst [] (fun _ h=>h.elim)) (by kernel_rfl) ?_)
   refine x_pre (fuel:=8) [] [(15,true),(16,true),(17,true),(18,true),(19,true),(20,true),(21,true),(22,true),(23,true),(24,true),(25,true),(26,true),(28,true)] (by kernel_rfl) rfl ?_
   refine h_pf rfl rfl rfl rfl (h_mv rfl rfl rfl (h_no rfl rfl rfl rfl rfl (h_no rfl rfl rfl rfl rfl (h_no rfl rfl rfl rfl rfl (h_pf rfl rfl rfl rfl (h_mv rfl rfl rfl (h_no rfl rfl rfl rfl rfl (h_no rfl rfl rfl rfl rfl (h_no rfl rfl rfl rfl rfl (h_pf rfl rfl rfl rfl (h_mv rfl rfl rfl (h_no rfl rfl rfl rfl rfl (AI ?_)))))))))))))
   refine x_one (i:=27) (by kernel_rfl) rfl ?_
   refine AD rfl rfl rfl rfl (x_go [(29,[])] ((St.refl nT _ _).lst [] (fun _ h=>h.elim)) (by kernel_rfl) ?_)
   refine x_one (i:=29) (by kernel_rfl) rfl ?_
   refine AD rfl rfl rfl rfl (x_go [] ((St.refl nT _ _).lst [] (fun _ h=>h.elim)) (by kernel_rfl) ?_)
   refine x_pre (fuel:=0) [] [(30,true),(31,true),(32,true),(33,true),(34,true),(35,true)] (by kernel_rfl) rfl ?_
   refine h_pf rfl rfl rfl rfl (h_mv rfl rfl rfl (h_no rfl rfl rfl rfl rfl (h_no rfl rfl rfl rfl rfl (h_pf rfl rfl rfl rfl (h_as rfl rfl rfl (AI ?_))))))
   refine x_nil (by kernel_rfl) ?_
   obtain rfl:=sm hy141
   replace hB:=(((((((((hB.st S5).st S29).st S48).st S51).st S56).st S80).st S99).st S102).st S107).st S131
   exact ⟨(),_,⟨rfl,trivial⟩,hB⟩
 replace hB:=(((((((((hB.st S5).st S29).st S48).st S51).st S56).st S80).st S99).st S102).st S107).st S131
 rintro l194 w195 ⟨x143,O196,hs197,hB⟩
 refine AP _ hs197 ?_
 refine Au ?_
 obtain rfl:=sm hm
 exact ret1v rfl (AG rfl) ⟨hB.ext,vBool⟩
end
section
open Go Go.RowKit
theorem LG {t:Tsk} (hok:TaskOk t):∃ reg,BQ t=some (some ⟨t,reg,some ⟨t⟩⟩,⟨0⟩)∧RegI t.vars reg [t.init]∧links reg=[⟨-1,-1,0⟩]:=by
  obtain ⟨rr,n1,reg,rfl,n2,n3⟩:=KU hok.1 hok.2.2.1
  rcases IN hok.1 n2 hok.2.2.2.1 (by simp) with ⟨i,hi,_⟩|⟨_,r',hadd,hr',hlk⟩
  · simp at hi
  refine ⟨r',?_,hr',by rw [hlk,n3];rfl⟩
  unfold BQ
  rw [KZ hok,AC,if_neg (by simp),n1,AC,if_neg (by simp),AC,hadd,AC,if_neg (by simp)]
structure SR (t:Tsk) (lp:LP) (x:Spc):Prop where
  tt:x.t=t
  gen:x.gen=some ⟨t⟩
  reg:RegI t.vars x.reg lp.1
  path:∀ (j:Nat) p,lp.2[j]?=some p→PathL (links x.reg) j p
theorem PathL.pre {lk lk':List RLk} (hp:∃ A,lk'=lk ++ A) {j:Nat} {p:List Int} (h:PathL lk j p):PathL lk' j p:=by
  induction h with
  | root h1 h2=>exact .root (Cl hp h1) h2
  | step h1 h2 _ ih=>exact .step (Cl hp h1) h2 ih
theorem IR {vars:List Int} {r:Reg} {L:List (List Int)} (h:RegI vars r L):(links r).length=L.length:=by unfold links;rw [List.length_map,h.len]
theorem IS {t:Tsk} {s:List Int} {k:Nat}:∀ {n j:Nat},(appN t s n)[j]?=some k→(appN t s n).take j=appN t s k∧appB t s k=true
  | 0,j,h=>by simp [appN] at h
  | n + 1,j,h=>by
    have e:appN t s (n + 1)=appN t s n ++ if appB t s n=true then [n] else []:=by
      unfold appN
      rw [List.range_succ,List.filter_append]
      by_cases h:appB t s n=true<;>simp [h]
    rw [e] at h ⊢
    by_cases hj:j < (appN t s n).length
    · rw [List.getElem?_append_left hj] at h
      rw [List.take_append_of_le_length (by omega)]
      exact IS h
    · rw [List.getElem?_append_right (by omega)] at h
      by_cases ha:appB t s n=true
      · rw [if_pos ha] at h ⊢
        have h0:j - (appN t s n).length=0:=by have:=AJ h;simp at this;omega
        rw [h0] at h
        have hk:n=k:=by simpa using h
        subst hk
        have hj2:j=(appN t s n).length:=by omega
        rw [hj2]
        exact ⟨by simp,ha⟩
      · rw [if_neg ha] at h;simp at h
noncomputable def innF (id:Int) (s171:Spc) (a174:Suc):Option (Ctl Spc (Ctl (Int×Spc) (Rsl×Err))):=bnd (AW s171.reg a174.state) fun q232=>if q232.2.2.1.n≠0 then (bnd (chkI (id + 1)) fun n249=>bnd (Bf 3 n249) fun q252=>some (.ret (.ret (q252.1,(⟨q252.2.n⟩:Err))))) else (if q232.2.1=true then (bnd (Bc q232.2.2.2 q232.1 id a174.op 0) fun q275=>if q275.1.n≠0 then (some (.ret (.ret ((⟨0,([]:List Int),0,0⟩:Rsl),(⟨q275.1.n⟩:Err))))) else (some (.next (⟨(⟨s171.t.vars,s171.t.init,s171.t.goal,s171.t.ops⟩:Tsk),q275.2,s171.gen⟩:Spc)))) else (some (.next (⟨(⟨s171.t.vars,s171.t.init,s171.t.goal,s171.t.ops⟩:Tsk),q232.2.2.2,s171.gen⟩:Spc))))
theorem MS {t:Tsk} (hs:SmallOk t) {i:Nat} {lp:LP} {s p:List Int} (h:BI t i lp) (his:lp.1[i]?=some s) (hip:lp.2[i]?=some p) {k:Nat} (hk:appB t s k=true) {x:Spc} (hx:SR t (expN t s i k lp) x):∃ x',innF (i:Int) x ⟨(k:Int),sucN t s k⟩=some (.next x')∧SR t (addK t s i (expN t s i k lp) k) x':=by
  have hJ:=h.part his hip k
  have hi1:=Cl hJ.pre1 his
  have hi2:=Cl hJ.pre2 hip
  obtain ⟨o,ho,hpre,hsuc⟩:=Ho hk
  have hsok:StateOk t.vars (sucN t s k):=by rw [hsuc];exact Fm hs.ok ((h.rch his).ok hs.ok) ho
  have hfew:(expN t s i k lp).1.length≤512:=by
    refine Nat.le_trans (Hl hJ.nodup fun s' hm=>?_) hs.many
    obtain ⟨j,hj⟩:=List.getElem?_of_mem hm
    exact ES.2 (hx.reg.st j s' hj)
  unfold innF
  dsimp only
  unfold addK
  rcases IN hs.ok.1 hx.reg hsok (by omega) with ⟨j,hj,hadd⟩|⟨hno,r',hadd,hr',hlk⟩
  · rw [if_pos (List.mem_of_getElem? hj),hadd,AC,if_neg (by simp)]
    dsimp only
    rw [if_f]
    exact ⟨_,rfl,hx⟩
  · have hnm:¬ sucN t s k∈(expN t s i k lp).1:=fun hm=>by
      obtain ⟨j,hj⟩:=List.getElem?_of_mem hm
      exact hno j hj
    have hil:=AJ hi1
    obtain ⟨r'',s1,s2,s3⟩:=Ko hr' (i:=(expN t s i k lp).1.length) (by simp) (p:=(i:Int)) (o:=(k:Int)) (c:=0) (.inr ⟨i,rfl,by simp;omega⟩)
    rw [if_neg hnm,hadd,AC,if_neg (by simp)]
    dsimp only
    rw [if_t,s1,AC,if_neg (by simp)]
    have hl2:links r''=links x.reg ++ [⟨(i:Int),(k:Int),0⟩]:=by
      rw [s3,hlk,← IR hx.reg];simp
    refine ⟨_,rfl,hx.tt,hx.gen,s2,fun j q hq=>?_⟩
    dsimp only at hq ⊢
    rw [hl2]
    rcases BZ hq with hq|⟨rfl,rfl⟩
    · exact (hx.path j q hq).pre ⟨_,rfl⟩
    · rw [hi2,Option.getD_some]
      refine PathL.step (j:=i) (k:=⟨(i:Int),(k:Int),0⟩) ?_ rfl ((hx.path i p hi2).pre ⟨_,rfl⟩)
      rw [hJ.len,← IR hx.reg];simp
theorem MT {t:Tsk} (h:TaskOk t) {s p s':List Int} {C:Int} (hr:PlanR t s p s' C):∀ (j:Nat) (c:Int),0≤c→c + p.length * 1048576≤1000000000000000 →
    rng (ρ:=Rsl×Err) (fun (_:Nat) (a78:Int) (s75:Int)=>bnd (atI t.ops a78) fun a125=>bnd (chkI (s75 + a125.cost)) fun n146=>some (.next n146)) p j c=some (.done (c + C)):=by
  induction hr with
  | nil=>intro j c _ _;simp [rng]
  | @cons s rest s' k o C ho hp hr ih =>
    intro j c hc hb
    simp only [List.length_cons] at hb
    have hoo:=h.2.2.2.2.2 k o ho
    have h1:=hoo.1
    have h2:=hoo.2.1
    have e2:(bnd (atI t.ops (k:Int)) fun a125=>bnd (chkI (c + a125.cost)) fun n146=>some (Ctl.next (ρ:=Rsl×Err) n146))=some (.next (c + o.cost)):=by
      rw [Cf,ho,AC,CN (by unfold inI64;omega),AC]
    simp only [rng,e2]
    rw [ih (j + 1) (c + o.cost) (by omega) (by omega),Int.add_assoc]
theorem Lb {t:Tsk} (hs:SmallOk t) {lp:LP} {x:Spc} (hx:SR t lp x) (hl:lp.1.length≤512) {i:Nat} {s p:List Int} {C e:Int} (hp:lp.2[i]?=some p) (hpl:p.length≤lp.1.length) (hC:PlanR t t.init p s C):Bn x (i:Int) e=some (⟨1,p,C,e⟩,⟨0⟩):=by
  unfold Bn
  rw [LZ hx.reg (by omega) (hx.path i p hp) hpl,AC,if_neg (by simp),hx.tt,MT hs.ok hC 0 0 (by omega) (by omega),AC,fin_d,Int.zero_add]
noncomputable def schF (x0:Tsk) (x1:Int):Int×Spc→Option (Ctl (Int×Spc) (Rsl×Err)):=fun s50=>bnd (AO s50.2.reg) fun q94=>if s50.1 < q94 then (bnd (Bb s50.2.reg s50.1) fun q105=>if q105.2.n≠0 then (some (.ret ((⟨0,([]:List Int),0,0⟩:Rsl),(⟨q105.2.n⟩:Err)))) else (bnd (Cw x0.goal q105.1) fun q123=>if q123=true then bnd (Bn s50.2 s50.1 s50.1) fun q312=>some (.ret (q312.1,(⟨q312.2.n⟩:Err))) else if x1≤s50.1 then (bnd (Bf 3 s50.1) fun q131=>some (.ret (q131.1,(⟨q131.2.n⟩:Err)))) else (bnd (AT s50.2.gen q105.1) fun q153=>bnd (rng (ρ:=Ctl (Int×Spc) (Rsl×Err)) (fun (_:Nat) (a174:Suc) (s171:Spc)=>innF s50.1 s171 a174) q153 0 s50.2) fun res169=>fin res169 fun (s302:Spc)=>bnd (chkI (s50.1 + 1)) fun n304=>some (.next (n304,s302))))) else (some (.brk (s50.1,s50.2)))
noncomputable def schE:Fin (Int×Spc) (Rsl×Err)→Option (Rsl×Err):=fun res48=>fin res48 fun (s344:Int×Spc)=>bnd (AO s344.2.reg) fun q373=>bnd (Bf 2 q373) fun q383=>some (q383.1,(⟨q383.2.n⟩:Err))
theorem Mg (t:Tsk) (lim:Int):Cj t lim=bnd (BQ t) fun q30=>if q30.2.n≠0 then (some ((⟨0,([]:List Int),0,0⟩:Rsl),(⟨q30.2.n⟩:Err))) else (bnd q30.1 fun o45=>bnd (lop (schF t lim) (0,o45)) schE):=rfl
theorem Ld {t:Tsk} {s:List Int} (h:TaskOk t) (hs:StateOk t.vars s):s.length≤1000000:=by have:=hs.1;have:=h.1;omega
theorem MU {t:Tsk} (hs:SmallOk t) {i:Nat} {lp:LP} {s p:List Int} (h:BI t i lp) (his:lp.1[i]?=some s) (hip:lp.2[i]?=some p) {x:Spc} (hx:SR t lp x):∃ x',rng (ρ:=Ctl (Int×Spc) (Rsl×Err)) (fun (_:Nat) (a174:Suc) (s171:Spc)=>innF (i:Int) s171 a174) ((appS t s).map (sucOf t s)) 0 x=some (.done x')∧SR t (expN t s i t.ops.length lp) x':=by
  have hsok:=(h.rch his).ok hs.ok
  have hap:(appS t s).map (sucOf t s)=(appN t s t.ops.length).map fun k:Nat=>(⟨(k:Int),sucN t s k⟩:Suc):=by
    rw [Gh hsok,MO,List.map_map];rfl
  rw [hap]
  obtain ⟨x',h1,h2⟩:=Er (ρ:=Ctl (Int×Spc) (Rsl×Err)) (f:=fun (_:Nat) (a174:Suc) (s171:Spc)=>innF (i:Int) s171 a174) (xs:=(appN t s t.ops.length).map fun k:Nat=>(⟨(k:Int),sucN t s k⟩:Suc)) (s₀:=x) (fun j y=>SR t (((appN t s t.ops.length).take j).foldl (addK t s i) lp) y) (by simpa using hx) (fun j a y hj hy=>by
    rw [List.getElem?_map] at hj
    obtain ⟨k,hk,rfl⟩:=Option.map_eq_some_iff.1 hj
    obtain ⟨t1,t2⟩:=IS hk
    rw [t1] at hy
    obtain ⟨y',e1,e2⟩:=MS hs h his hip t2 (x:=y) hy
    refine ⟨y',e1,?_⟩
    rw [List.take_add_one,hk,List.foldl_append,t1]
    exact e2)
  refine ⟨x',h1,?_⟩
  rw [List.length_map,List.take_length] at h2
  exact h2
theorem LH {t:Tsk} (hs:SmallOk t) {lim:Int} {i:Nat} {lp:LP} {r:Rsl} (hb:Bfs t lim i lp r):∀ x,BI t i lp→SR t lp x→bnd (lop (schF t lim) ((i:Int),x)) schE=some (r,⟨0⟩):=by
  have hok:=hs.ok
  induction hb with
  | @none i lp he =>
    intro x h hx
    have:schF t lim ((i:Int),x)=some (.brk ((i:Int),x)):=by
      unfold schF AO
      dsimp only
      rw [AC,hx.reg.len,if_neg (by omega)]
    rw [Ft,this,AC]
    unfold schE AO Bf
    rw [fin_d,AC,AC,hx.reg.len]
  | @goal i lp s p C hsi hpi hg hC =>
    intro x h hx
    have hf:=h.few hs
    have hil:=AJ hsi
    have:schF t lim ((i:Int),x)=some (.ret (⟨1,p,C,(i:Int)⟩,⟨0⟩)):=by
      unfold schF AO
      dsimp only
      rw [AC,hx.reg.len,if_pos (by omega),FQ hok.1 hx.reg hsi,AC,if_neg (by simp),Hh,AC,if_pos hg,Lb hs hx hf hpi (by have:=(h.pl i s p hsi hpi).2;omega) hC,AC]
    rw [Ft,this,AC]
    rfl
  | @full i lp s hsi hg hl =>
    intro x h hx
    have hil:=AJ hsi
    have:schF t lim ((i:Int),x)=some (.ret (⟨3,[],0,(i:Int)⟩,⟨0⟩)):=by
      unfold schF AO Bf
      dsimp only
      rw [AC,hx.reg.len,if_pos (by omega),FQ hok.1 hx.reg hsi,AC,if_neg (by simp),Hh,AC,hg,if_f,if_pos hl,AC]
    rw [Ft,this,AC]
    rfl
  | @step i lp s r hsi hg hl hb ih =>
    intro x h hx
    have hf:=h.few hs
    have hil:=AJ hsi
    obtain ⟨p,hpi⟩:=AH (l:=lp.2) (k:=i) (by rw [h.len];exact hil)
    obtain ⟨x',e1,e2⟩:=MU hs h hsi hpi hx
    have:schF t lim ((i:Int),x)=some (.next (((i + 1:Nat):Int),x')):=by
      unfold schF AO
      dsimp only
      rw [AC,hx.reg.len,if_pos (by omega),FQ hok.1 hx.reg hsi,AC,if_neg (by simp),Hh,AC,hg,if_f,if_neg (by omega),hx.gen,Md hok (Ld hok ((h.rch hsi).ok hok)),AC,e1,AC,fin_d,CN (by unfold inI64;omega),AC]
      rfl
    rw [Ft,this]
    exact ih x' (h.next hsi hpi) e2
theorem Ku {t:Tsk} (hs:SmallOk t) (lim:Int):∃ r,Cj t lim=some (r,⟨0⟩)∧Bfs t lim 0 ([t.init],[[]]) r:=by
  obtain ⟨r,hr⟩:=LF hs lim 513 0 ([t.init],[[]]) (by omega) (by simp) (Iy t)
  obtain ⟨reg,b1,b2,b3⟩:=LG hs.ok
  refine ⟨r,?_,hr⟩
  rw [Mg,b1,AC,if_neg (by simp),AC]
  refine LH hs hr _ (Iy t) ⟨rfl,rfl,b2,fun j p hj=>?_⟩
  have:j=0∧p=[]:=by
    cases j with
    | zero=>simp at hj;exact ⟨rfl,hj⟩
    | succ j=>simp at hj
  obtain ⟨rfl,rfl⟩:=this
  dsimp only
  rw [b3]
  exact .root rfl (by decide)
end
section
open Go Go.RowKit
def one1 (o:Opr):Opr:=⟨o.name,1,o.pre,o.effs⟩
def unit (t:Tsk):Tsk:=⟨t.vars,t.init,t.goal,t.ops.map one1⟩
theorem Kc {α β:Type} (f:α→β) (l:List α) (i:Int):atI (l.map f) i=(atI l i).map f:=by
  unfold atI
  split
  · rw [List.getElem?_map]
  · rfl
theorem Kd {α β γ:Type} (f:α→β) (x:Option α) (g:β→Option γ):bnd (x.map f) g=bnd x fun a=>g (f a):=by cases x<;>rfl
theorem Ke {α β σ ρ:Type} (g:α→β) (f:Nat→β→σ→Option (Ctl σ ρ)):∀ (xs:List α) (k:Nat) (s:σ),rng f (xs.map g) k s=rng (fun k a s=>f k (g a) s) xs k s
  | [],_,_=>rfl
  | x :: xs,k,s=>by
    simp only [List.map_cons,rng]
    cases f k (g x) s with
    | none=>rfl
    | some c =>
      cases c with
      | next s'=>exact Ke g f xs (k + 1) s'
      | brk s'=>rfl
      | ret r=>rfl
theorem Kv (t:Tsk) (s:List Int) (k:Int):Ba (unit t) s k=Ba t s k:=by
  unfold Ba unit
  simp only [List.length_map,Kc,Kd]
  rfl
theorem Kw (t:Tsk):Cx (unit t)=Cx t:=by
  unfold Cx
  simp only [Kv]
  show (bnd (Cq t.vars) fun q24=>bnd (rng (ρ:=(List Edg)) (fun (k39:Nat) (a40:List Int) (s37:(List Edg))=>bnd (rng (ρ:=Ctl (List Edg) (List Edg)) (fun (k71:Nat) (_:Opr) (s69:(List Edg))=>bnd (Ba t a40 (k71:Int)) fun q86=>if q86.2=true then (bnd (BH t.vars q86.1) fun q100=>bnd (appI 24 s69 [(⟨(k39:Int),(k71:Int),q100⟩:Edg)]) fun u108=>some (.next u108)) else (some (.next s69))) (t.ops.map one1) 0 s37) fun res67=>fin res67 fun (s124:(List Edg))=>some (.next s124)) q24 0 ([]:List Edg)) fun res35=>fin res35 fun (s130:(List Edg))=>some s130)=_
  simp only [Ke]
theorem Lf {γ:Type} (t:Tsk) (k:Int) (X:Int→Option γ):(bnd (atI t.ops k) fun _=>bnd (atI (List.replicate t.ops.length (1:Int)) k) X)=bnd (atI (t.ops.map one1) k) fun o=>X o.cost:=by
  rw [Kc,Kd]
  unfold atI
  split
  · cases ho:t.ops[k.toNat]? with
    | none=>rfl
    | some o =>
      have:=AJ ho
      have e:(List.replicate t.ops.length (1:Int))[k.toNat]?=some 1:=by simp [this]
      rw [AC,e,AC,AC]
      rfl
  · rfl
theorem Lg (t:Tsk):Cs t (List.replicate t.ops.length (1:Int))=Dy (unit t):=by
  unfold Cs Dy
  simp only [Lf,Kw]
  rfl
theorem HT {t:Tsk} {k:Nat} {o:Opr} (h:(unit t).ops[k]?=some o):∃ o',t.ops[k]?=some o'∧o=one1 o':=by
  have h':(t.ops.map one1)[k]?=some o:=h
  rw [List.getElem?_map] at h'
  obtain ⟨o',h1,h2⟩:=Option.map_eq_some_iff.1 h'
  exact ⟨o',h1,h2.symm⟩
theorem LI {t:Tsk} {k:Nat} {o:Opr} (h:t.ops[k]?=some o):(unit t).ops[k]?=some (one1 o):=by
  show (t.ops.map one1)[k]?=_
  rw [List.getElem?_map,h];rfl
theorem Mh {t:Tsk} (h:TaskOk t):TaskOk (unit t):=by
  refine ⟨h.1,by show (t.ops.map one1).length≤_;rw [List.length_map];exact h.2.1,h.2.2.1,h.2.2.2.1,h.2.2.2.2.1,fun i o ho=>?_⟩
  obtain ⟨o',h1,rfl⟩:=HT ho
  have:=h.2.2.2.2.2 i o' h1
  exact ⟨show (0:Int)≤1 by decide,show (1:Int)≤1048576 by decide,this.2.2⟩
theorem Kx {t:Tsk} (h:SmallOk t):SmallOk (unit t):=by
  obtain ⟨h1,h2,h3,h4,h5⟩:=h
  refine ⟨h1,by show (t.ops.map one1).length≤_;rw [List.length_map];exact h2,fun i o ho=>?_,Mh h4,h5⟩
  obtain ⟨o',h6,rfl⟩:=HT ho
  exact h3 i o' h6
theorem Hr {t:Tsk} {s:List Int} {C:Int} (h:Walk (unit t) s C):∃ p s' C',PlanR t s p s' C'∧holdsB t.goal s'=true∧(p.length:Int)=C:=by
  induction h with
  | goal hg=>exact ⟨[],_,0,.nil,hg,rfl⟩
  | step ho hp _ ih =>
    obtain ⟨o',h1,rfl⟩:=HT ho
    obtain ⟨p,s',C',h2,h3,h4⟩:=ih
    exact ⟨_,s',_,.cons h1 hp h2,h3,by simp [one1];omega⟩
theorem IT {t:Tsk} {s p s':List Int} {C:Int} (h:PlanR t s p s' C) (hg:holdsB t.goal s'=true):Walk (unit t) s (p.length:Int):=by
  induction h with
  | nil=>exact .goal hg
  | @cons s rest s' k o C ho hp _ ih =>
    have:=Walk.step (LI ho) hp (ih hg)
    simpa [one1] using this
theorem PlanR.app {t:Tsk} {a p b q c:List Int} {C C':Int} (h:PlanR t a p b C) (h':PlanR t b q c C'):PlanR t a (p ++ q) c (C + C'):=by
  induction h with
  | nil=>simpa using h'
  | cons ho hp _ ih=>have:=PlanR.cons ho hp (ih h');rw [Int.add_assoc];exact this
theorem Mi {t:Tsk} (hs:SmallOk t) {lim:Int} {i:Nat} {lp:LP} {r:Rsl} (hb:Bfs t lim i lp r):BI t i lp→(∀ (j:Nat) s,j < i→lp.1[j]?=some s→holdsB t.goal s=false) →
    (r.verdict=2∧r.plan=[]∧r.cost=0∧∀ p s C,PlanR t t.init p s C→holdsB t.goal s=false)∨(r.verdict=1∧r.plan.length≤512∧(∃ s,PlanR t t.init r.plan s r.cost∧holdsB t.goal s=true)∧∀ p' s' C',PlanR t t.init p' s' C'→holdsB t.goal s'=true→sle r.plan p')∨(r.verdict=3∧r.plan=[]∧r.cost=0∧lim < 512):=by
  induction hb with
  | @none i lp he =>
    intro h hno
    subst he
    refine .inl ⟨rfl,rfl,rfl,fun p s C hp=>?_⟩
    obtain ⟨j,hj⟩:=List.getElem?_of_mem (h.all hp)
    exact hno j s (AJ hj) hj
  | @goal i lp s p C hsi hpi hg hC =>
    intro h hno
    have hpl:=(h.pl i s p hsi hpi).2
    have:=AJ hsi
    have:=h.few hs
    exact .inr (.inl ⟨rfl,by show p.length≤512;omega,⟨s,hC,hg⟩,fun p' s' C' hp' hg'=>h.first hpi hno hp' hg'⟩)
  | @full i lp s hsi hg hl =>
    intro h hno
    have:=AJ hsi
    have:=h.few hs
    exact .inr (.inr ⟨rfl,rfl,rfl,by omega⟩)
  | @step i lp s r hsi hg hl hb ih =>
    intro h hno
    obtain ⟨p,hpi⟩:=AH (l:=lp.2) (k:=i) (by rw [h.len];exact AJ hsi)
    have hJ:=h.part hsi hpi t.ops.length
    refine ih (h.next hsi hpi) fun j s' hj hs'=>?_
    have hjl:j < lp.1.length:=by have:=AJ hsi;omega
    obtain ⟨s0,hs0⟩:=AH (l:=lp.1) (k:=j) hjl
    rw [Cl hJ.pre1 hs0] at hs'
    obtain rfl:=Option.some.inj hs'
    by_cases e:j=i
    · subst e
      rw [hsi] at hs0
      obtain rfl:=Option.some.inj hs0
      exact hg
    · exact hno j s0 (by omega) hs0
end
section
open Go Go.RowKit
attribute [local irreducible] ewp owp hwp hwq hws Ev Evg Fn retPost loud loudS Res1
attribute [local irreducible] hwx loudX
noncomputable def CI (x0:Tsk):Option Bool :=
  bnd (bnd (Fv x0) fun q28=>if q28=true then bnd (CS) fun q35=>if q35=true then some false else some true else some true:Option Bool) fun y24=>if y24=true then (bnd (bnd (CS) fun q51=>if q51=true then some true else some false:Option Bool) fun y47=>some y47) else (bnd (Cj x0 1000) fun q62=>if q62.2.n≠0 then (some false) else (bnd (mkI 8 (0:Int) (x0.ops.length:Int)) fun u92=>bnd (rngN (ρ:=Bool) (fun (k111:Nat) (s109:(List Int))=>bnd (s109[k111]?) fun a130=>some (.next (s109.set k111 1))) u92.length u92) fun res107=>fin res107 fun (s146:(List Int))=>bnd (Cs x0 s146) fun q150=>bnd (BH x0.vars x0.init) fun q159=>bnd (atI q150 q159) fun a167=>if 1125899906842624≤a167 then (bnd (if q62.1.verdict=2 then (if (q62.1.plan.length:Int)=0 then (if q62.1.cost=0 then (some true) else (some false)) else (some false)) else (some false):Option Bool) fun y180=>some y180) else (bnd (CZ x0 x0.init q62.1.plan) fun q193=>bnd (if q62.1.verdict≠1 then (some true) else (if (!q193.2)=true then (some true) else (if q193.1≠q62.1.cost then (some true) else (if (q62.1.plan.length:Int)≠a167 then (some true) else (some false)))):Option Bool) fun y205=>if y205=true then (some false) else (bnd (rng (ρ:=Bool) (fun (k226:Nat) (a227:Int) (s224:(List Int))=>bnd (Ba x0 s224 a227) fun q247=>bnd (natI a227) fun N273=>bnd (rngN (ρ:=Ctl (List Int) Bool) (fun (k264:Nat) (s262:Unit)=>bnd (Ba x0 s224 (k264:Int)) fun q275=>bnd (if q275.2=true then (bnd (BH x0.vars q275.1) fun q293=>bnd (atI q150 q293) fun a301=>bnd (BH x0.vars s224) fun q313=>bnd (atI q150 q313) fun a321=>if a301 < a321 then (some true) else (some false)) else (some false):Option Bool) fun y288=>if y288=true then (some (.ret (.ret false))) else (some (.next ()))) N273 ()) fun res260=>fin res260 fun (s343:Unit)=>some (.next q247.1)) q62.1.plan 0 x0.init) fun res222=>fin res222 fun (s349:(List Int))=>some true))))
theorem FD {w:World} {A:Nat→Prop} (hA:∀ k,A k→k < w.heap.size) {vx0:Value} {x0:Tsk} (hx0:Vb w A vx0 x0) {r:Bool} (hm:CI x0=some r) :
    Fn Try.prog 4 [vx0] w fun v w'=>Ext w w'∧Vb w' (upA A w w') v r:=by
 obtain ⟨O,hB,hA0⟩:=enter hA
 replace hx0:=hx0.mono hA0
 obtain ⟨cs2,rfl,v3,v4,v5,v6,rfl,h7,h10,h13,h16⟩:=hx0
 obtain ⟨A8,c9,rfl⟩:=h7.form
 obtain ⟨A11,c12,rfl⟩:=h10.form
 obtain ⟨A14,c15,rfl⟩:=h13.form
 obtain ⟨A17,c18,rfl⟩:=h16.form
 refine AK Try.func4 rfl Try.ntmps4 rfl ?_
 unfold CI at hm
 refine Ah (Ae (l_box 2 O rfl rfl fun g19 w20 O21 S22 h23=>?_))
 replace h23:Lc 2 w20 O21 g19 26 [(.slice A8 x0.vars.length c9),(.slice A11 x0.init.length c12),(.slice A14 x0.goal.length c15),(.slice A17 x0.ops.length c18)]:=h23
 refine o_as rfl rfl (o_z ?_)
 refine Ah (Ah ?_)
 obtain ⟨y24,hy25,hm⟩:=bs hm
 refine AL (fun l' w'=>∃ (x27:Unit) (O':Lab),subs l' [(1,(.pointer (some ⟨g19,0,none⟩))),(25,(.bool y24))]∧Bs w A w' O'∧Lc 2 w' O' g19 26 [(.slice A8 x0.vars.length c9),(.slice A11 x0.init.length c12),(.slice A14 x0.goal.length c15),(.slice A17 x0.ops.length c18)]∧Vb w' (Fr 0 w' O') (.slice A8 x0.vars.length c9) x0.vars∧Vb w' (Fr 0 w' O') (.slice A11 x0.init.length c12) x0.init∧Vb w' (Fr 0 w' O') (.slice A14 x0.goal.length c15) x0.goal∧Vb w' (Fr 0 w' O') (.slice A17 x0.ops.length c18) x0.ops) ?_ ?_
 ·
  refine Ae (o_la (hl:=rfl) (hc:=(h23.1).cellsAt) rfl rfl ?_)
  obtain ⟨q28,e29,hy25⟩:=bs hy25
  replace h7:=h7.st S22
  replace h10:=h10.st S22
  replace h13:=h13.st S22
  replace h16:=h16.st S22
  refine BL (O:=O21) (A:=All w20) (R:=fun w' F v=>Vb w' F v q28) (Jk (fun _ h=>h) (Vb.mono (F:=Fr 0 w20 O21) (Vb.ofAgg (cs:=[(.slice A8 x0.vars.length c9),(.slice A11 x0.init.length c12),(.slice A14 x0.goal.length c15),(.slice A17 x0.ops.length c18)]) (x:=x0) rfl ⟨_,_,_,_,rfl,h7,h10,h13,h16⟩) Fr.lt) e29) rfl rfl fun v34 w30 O31 S32 h33=>?_
  obtain rfl:=h33.bool
  cases q28
  case false =>
   replace hy25:=iF hy25
   refine o_nf rfl rfl (o_mv rfl rfl (AD rfl rfl rfl rfl (AD rfl rfl rfl rfl (o_pt rfl rfl rfl (o_z ?_)))))
   obtain rfl:=sm hy25
   replace hB:=(hB.st S22).st S32
   replace h7:=h7.st S32
   replace h10:=h10.st S32
   replace h13:=h13.st S32
   replace h16:=h16.st S32
   replace h23:=h23.st S32
   exact ⟨(),_,⟨rfl,rfl,trivial⟩,hB,h23,h7,h10,h13,h16⟩
  replace hy25:=iT hy25
  refine o_nt rfl rfl (o_mv rfl rfl (AE rfl rfl ?_))
  obtain ⟨q35,e36,hy25⟩:=bs hy25
  refine BL (O:=O31) (A:=All w30) (R:=fun w' F v=>Vb w' F v q35) (GO (fun _ h=>h)  e36) rfl rfl fun v41 w37 O38 S39 h40=>?_
  obtain rfl:=h40.bool
  cases q35
  case false =>
   replace hy25:=iF hy25
   refine AE rfl rfl (o_nf rfl rfl (o_pf rfl rfl rfl (o_z ?_)))
   obtain rfl:=sm hy25
   replace hB:=((hB.st S22).st S32).st S39
   replace h7:=(h7.st S32).st S39
   replace h10:=(h10.st S32).st S39
   replace h13:=(h13.st S32).st S39
   replace h16:=(h16.st S32).st S39
   replace h23:=(h23.st S32).st S39
   exact ⟨(),_,⟨rfl,rfl,trivial⟩,hB,h23,h7,h10,h13,h16⟩
  replace hy25:=iT hy25
  refine AE rfl rfl (o_nt rfl rfl (o_pf rfl rfl rfl (o_z ?_)))
  obtain rfl:=sm hy25
  replace hB:=((hB.st S22).st S32).st S39
  replace h7:=(h7.st S32).st S39
  replace h10:=(h10.st S32).st S39
  replace h13:=(h13.st S32).st S39
  replace h16:=(h16.st S32).st S39
  replace h23:=(h23.st S32).st S39
  exact ⟨(),_,⟨rfl,rfl,trivial⟩,hB,h23,h7,h10,h13,h16⟩
 replace hB:=hB.st S22
 replace h7:=h7.st S22
 replace h10:=h10.st S22
 replace h13:=h13.st S22
 replace h16:=h16.st S22
 rintro l42 w43 ⟨x27,O44,hs45,hB,h23,h7,h10,h13,h16⟩
 refine AP _ hs45 ?_
 refine Cb rfl (fun c46=>?_) (fun c46=>?_)
 ·
  replace hm:=ip hm c46
  refine Ah ?_
  obtain ⟨y47,hy48,hm⟩:=bs hm
  refine AL (fun l' w'=>∃ (x50:Unit) (O':Lab),subs l' [(2,(.bool y47))]∧Bs w A w' O') ?_ ?_
  ·
   refine Ae ?_
   obtain ⟨q51,e52,hy48⟩:=bs hy48
   refine BL (O:=O44) (A:=All w43) (R:=fun w' F v=>Vb w' F v q51) (GO (fun _ h=>h)  e52) rfl rfl fun v57 w53 O54 S55 h56=>?_
   obtain rfl:=h56.bool
   cases q51
   case false =>
    replace hy48:=iF hy48
    refine o_as rfl rfl (o_z ?_)
    obtain rfl:=sm hy48
    replace hB:=hB.st S55
    exact ⟨(),_,⟨rfl,trivial⟩,hB⟩
   replace hy48:=iT hy48
   refine o_as rfl rfl (o_z ?_)
   obtain rfl:=sm hy48
   replace hB:=hB.st S55
   exact ⟨(),_,⟨rfl,trivial⟩,hB⟩
  rintro l58 w59 ⟨x50,O60,hs61,hB⟩
  refine AP _ hs61 ?_
  refine Au ?_
  obtain rfl:=sm hm
  exact ret1v rfl (AG rfl) ⟨hB.ext,vBool⟩
 ·
  replace hm:=im' hm c46
  refine Am (Ah (Ae (o_la (hl:=rfl) (hc:=(h23.1).cellsAt) rfl rfl ?_)))
  obtain ⟨q62,e63,hm⟩:=bs hm
  refine BY (O:=O44) (R:=fun w' F v=>T2 w' F v q62) (Fz Fr.lt (Vb.ofAgg (cs:=[(.slice A8 x0.vars.length c9),(.slice A11 x0.init.length c12),(.slice A14 x0.goal.length c15),(.slice A17 x0.ops.length c18)]) (x:=x0) rfl ⟨_,_,_,_,rfl,h7,h10,h13,h16⟩) (show inI64 (1000) from by decide) e63) rfl rfl fun v68 w64 O65 S66 h67=>?_
  obtain ⟨v69,v70,rfl,h71,h72⟩:=h67
  obtain ⟨cs73,rfl,v74,rfl,h75,r78,r79,r80⟩:=h71
  obtain ⟨A76,c77,rfl⟩:=h75.form
  obtain ⟨rfl,r81⟩:=h72.err
  refine o_mv rfl rfl (o_ex rfl rfl rfl (o_ex rfl rfl rfl (BR 3 O65 rfl fun g82 w83 O84 S85 h86=>?_)))
  refine AV h86 rfl rfl rfl (Nat.le_of_ble_eq_true rfl) (by first|exact allOne rfl|simp [Value.cells,Value.oneCell',AQ]) fun w87 S88 h86=>?_
  replace h86:Lc 3 w87 O84 g82 30 [(.int .i64 q62.1.verdict),(.slice A76 q62.1.plan.length c77),(.int .i64 q62.1.cost),(.int .i64 q62.1.expanded)]:=h86
  refine o_as rfl rfl (o_z ?_)
  refine Ah (Ah (Ae (o_mv rfl rfl (o_rnS rfl rfl (fun c89=>?_) fun c89=>?_))))
  ·
   replace hm:=ip hm c89
   refine o_z ?_
   refine Ar rfl (Ah (Ae (o_as rfl rfl (o_z ?_))))
   refine Au ?_
   obtain rfl:=sm hm
   replace hB:=((hB.st S66).st S85).st S88
   exact ret1v rfl (AG rfl) ⟨hB.ext,vBool⟩
  ·
   replace hm:=im hm c89
   refine o_z ?_
   refine Aj rfl (Am (Ah (Ae (o_fa rfl rfl ?_))))
   replace h23:=((h23.st S66).st S85).st S88
   refine o_ld (hc:=Blk.cell (i:=3) (h23.1) rfl) rfl rfl ?_
   refine o_ln rfl rfl ?_
   replace h16:=((h16.st S66).st S85).st S88
   have l91:x0.ops.length≤9223372036854775807:=Nat.le_trans h16.len.2.1 h16.len.2.2
   have r90:inI64 (x0.ops.length:Int):=rngNat l91
   obtain ⟨u92,e93,hm⟩:=bs hm
   obtain ⟨m94,e95,e96,e97,e98⟩:=Gr e93
   refine Ib 4 (by decide) O84 (z0:=(0:Int)) rfl rfl rfl rfl rfl e95 (vInt (show inI64 0 from by decide)) e96 e97 rfl fun g99 w100 O101 S102 h103=>?_
   rw [← e98] at h103 ⊢
   refine o_as rfl rfl (o_z ?_)
   refine Ah (Ah (Ae (o_mv rfl rfl (o_ln rfl rfl ?_))))
   have l106:u92.length≤9223372036854775807:=Nat.le_trans h103.len.2.1 h103.len.2.2
   have r105:inI64 (u92.length:Int):=rngNat l106
   refine o_mv rfl rfl (o_z ?_)
   obtain ⟨res107,hL108,hm⟩:=bs hm
   refine AL (aft res107 (fun (s109:(List Int)) (x110:Unit)=>[(1,(.pointer (some ⟨g19,0,none⟩))),(3,(.pointer (some ⟨g82,0,none⟩))),(5,(.slice (some ⟨g99,0,none⟩) u92.length m94))]) (fun s109 x110 w'=>∃ O':Lab,Bs w A w' O'∧Lc 2 w' O' g19 26 [(.slice A8 x0.vars.length c9),(.slice A11 x0.init.length c12),(.slice A14 x0.goal.length c15),(.slice A17 x0.ops.length c18)]∧Vb w' (Fr 0 w' O') (.slice A8 x0.vars.length c9) x0.vars∧Vb w' (Fr 0 w' O') (.slice A11 x0.init.length c12) x0.init∧Vb w' (Fr 0 w' O') (.slice A14 x0.goal.length c15) x0.goal∧Vb w' (Fr 0 w' O') (.slice A17 x0.ops.length c18) x0.ops∧Lc 3 w' O' g82 30 [(.int .i64 q62.1.verdict),(.slice A76 q62.1.plan.length c77),(.int .i64 q62.1.cost),(.int .i64 q62.1.expanded)]∧Vb w' (Fr 0 w' O') (.slice A76 q62.1.plan.length c77) q62.1.plan∧Rw 4 w' O' 3 (.slice (some ⟨g99,0,none⟩) u92.length m94) s109)) ?_ ?_
   ·
    refine Al ?_
    replace hB:=(((hB.st S66).st S85).st S88).st S102
    replace h7:=(((h7.st S66).st S85).st S88).st S102
    replace h10:=(((h10.st S66).st S85).st S88).st S102
    replace h13:=(((h13.st S66).st S85).st S88).st S102
    replace h16:=h16.st S102
    replace h23:=h23.st S102
    replace h75:=((h75.st S85).st S88).st S102
    replace h86:=h86.st S102
    refine HP (σ:=(List Int)) (X:=Unit) (u92.length) hL108 l106 (fun (s109:(List Int)) (x110:Unit)=>[(1,(.pointer (some ⟨g19,0,none⟩))),(3,(.pointer (some ⟨g82,0,none⟩))),(5,(.slice (some ⟨g99,0,none⟩) u92.length m94))]) _ (fun s109 x110 w'=>∃ O':Lab,Bs w A w' O'∧Lc 2 w' O' g19 26 [(.slice A8 x0.vars.length c9),(.slice A11 x0.init.length c12),(.slice A14 x0.goal.length c15),(.slice A17 x0.ops.length c18)]∧Vb w' (Fr 0 w' O') (.slice A8 x0.vars.length c9) x0.vars∧Vb w' (Fr 0 w' O') (.slice A11 x0.init.length c12) x0.init∧Vb w' (Fr 0 w' O') (.slice A14 x0.goal.length c15) x0.goal∧Vb w' (Fr 0 w' O') (.slice A17 x0.ops.length c18) x0.ops∧Lc 3 w' O' g82 30 [(.int .i64 q62.1.verdict),(.slice A76 q62.1.plan.length c77),(.int .i64 q62.1.cost),(.int .i64 q62.1.expanded)]∧Vb w' (Fr 0 w' O') (.slice A76 q62.1.plan.length c77) q62.1.plan∧Rw 4 w' O' 3 (.slice (some ⟨g99,0,none⟩) u92.length m94) s109) _ () ⟨O101,hB,h23,h7,h10,h13,h16,h86,h75,h103⟩ ⟨rfl,rfl,rfl,rfl,rfl,trivial⟩ (fun _ _=>⟨rfl,rfl⟩) (fun _ _=>⟨rfl,rfl,rfl,trivial⟩) (fun _ _ _ ⟨O',hB,h23,h7,h10,h13,h16,h86,h75,h128⟩=>⟨O',hB,h23,h7,h10,h13,h16,h86,h75,h128⟩) ⟨rfl,rfl,rfl⟩ ⟨rfl,rfl⟩ ?_
    rintro k111 s109 x110 w113 cc115 hx116 ⟨O114,hB,h23,h7,h10,h13,h16,h86,h75,h128⟩ hf117 hret118 hbrk119
    have rk111:inI64 (k111:Int):=rngKN hx116 l106
    refine Ah (Ae (o_mv rfl rfl (o_as rfl rfl (o_z ?_))))
    refine Ae (o_mv rfl rfl (o_mv rfl rfl ?_))
    obtain ⟨a130,e131,hf117⟩:=bs hf117
    obtain ⟨b132,o133,ce134,hA135,hl136,hd137,rfl,r139⟩:=h128.elem e131
    refine o_iaE (hA:=hA135) (hj:=rfl) (hlt:=hl136) rfl rfl rfl ?_
    refine Db rfl h128 (a:=1) (vInt (show inI64 (1) from by decide)) hA135 rfl rfl (AJ e131) fun w140 S141 h128=>?_
    refine o_z ?_
    obtain rfl:=sm hf117
    refine (?_:Exists _)
    replace hB:=hB.st S141
    replace h7:=h7.st S141
    replace h10:=h10.st S141
    replace h13:=h13.st S141
    replace h16:=h16.st S141
    replace h23:=h23.st S141
    replace h75:=h75.st S141
    replace h86:=h86.st S141
    exact ⟨_,(),rfl,⟨rfl,rfl,rfl,rfl,rfl,trivial⟩,_,hB,h23,h7,h10,h13,h16,h86,h75,h128⟩
   replace hB:=(((hB.st S66).st S85).st S88).st S102
   replace h7:=(((h7.st S66).st S85).st S88).st S102
   replace h10:=(((h10.st S66).st S85).st S88).st S102
   replace h13:=(((h13.st S66).st S85).st S88).st S102
   replace h16:=h16.st S102
   replace h23:=h23.st S102
   replace h75:=((h75.st S85).st S88).st S102
   replace h86:=h86.st S102
   rintro l142 w143 ⟨s146,x147,rfl,hs145,O144,hB,h23,h7,h10,h13,h16,h86,h75,h128⟩
   replace hm:=AY hm
   refine AP _ hs145 ?_
   refine Ah (Ae (o_la (hl:=rfl) (hc:=(h23.1).cellsAt) rfl rfl ?_))
   refine o_mv rfl rfl ?_
   obtain ⟨O148,S149,h128⟩:=h128.freeze
   obtain ⟨q150,e151,hm⟩:=bs hm
   replace h7:=h7.st S149
   replace h10:=h10.st S149
   replace h13:=h13.st S149
   replace h16:=h16.st S149
   refine BY (O:=O148) (R:=fun w' F v=>Vb w' F v q150) (Gg Fr.lt (Vb.ofAgg (cs:=[(.slice A8 x0.vars.length c9),(.slice A11 x0.init.length c12),(.slice A14 x0.goal.length c15),(.slice A17 x0.ops.length c18)]) (x:=x0) rfl ⟨_,_,_,_,rfl,h7,h10,h13,h16⟩) h128 e151) rfl rfl fun v156 w152 O153 S154 h155=>?_
   obtain ⟨A157,c158,rfl⟩:=h155.form
   refine o_as rfl rfl (o_z ?_)
   refine Ah (Ae (o_fa rfl rfl ?_))
   replace h23:=(h23.st S149).st S154
   refine o_ld (hc:=Blk.cell (i:=1) (h23.1) rfl) rfl rfl ?_
   refine o_as rfl rfl (o_z ?_)
   refine Ah (Ae (o_mv rfl rfl (o_fa rfl rfl (o_ld (hc:=Blk.cell (i:=0) (h23.1) rfl) rfl rfl ?_))))
   refine o_mv rfl rfl ?_
   obtain ⟨q159,e160,hm⟩:=bs hm
   replace h7:=h7.st S154
   replace h10:=h10.st S154
   refine BL (O:=O153) (A:=All w152) (R:=fun w' F v=>Vb w' F v q159) (ET (fun _ h=>h) (Vb.mono (F:=Fr 0 w152 O153) h7 Fr.lt) (Vb.mono (F:=Fr 0 w152 O153) h10 Fr.lt) e160) rfl rfl fun v165 w161 O162 S163 h164=>?_
   obtain ⟨rfl,r166⟩:=h164.int
   obtain ⟨a167,e168,hm⟩:=bs hm
   obtain ⟨p170,x169⟩:=AM e168
   replace h155:=h155.st S163
   obtain ⟨b171,o172,ce173,hA174,hl175,hd176,rfl,r178⟩:=h155.elem' x169
   refine o_iaE (hA:=hA174) (hj:=(Int.toNat_of_nonneg p170).symm) (hlt:=hl175) rfl rfl rfl ?_
   refine o_ld (hc:=cat0 hd176) rfl rfl ?_
   refine o_as rfl rfl (o_z ?_)
   refine Ah (Ah (Ae (o_mv rfl rfl (o_geS rfl rfl rfl (fun c179=>?_) fun c179=>?_))))
   ·
    replace hm:=ip hm c179
    refine o_z ?_
    refine Ar rfl (Ah ?_)
    obtain ⟨y180,hy181,hm⟩:=bs hm
    refine AL (fun l' w'=>∃ (x183:Unit) (O':Lab),subs l' [(2,(.bool y180))]∧Bs w A w' O') ?_ ?_
    ·
     refine Ae (o_fa rfl rfl ?_)
     replace h86:=((h86.st S149).st S154).st S163
     refine o_ld (hc:=Blk.cell (i:=0) (h86.1) rfl) rfl rfl ?_
     refine o_eeS rfl rfl rfl (fun c184=>?_) fun c184=>?_
     ·
      replace hy181:=ip hy181 c184
      refine o_mv rfl rfl (AE rfl rfl (o_fa rfl rfl (AE rfl rfl (o_ld (hc:=Blk.cell (i:=1) (h86.1) rfl) rfl rfl ?_))))
      refine AE rfl rfl (o_ln rfl rfl ?_)
      replace h75:=((h75.st S149).st S154).st S163
      have l186:q62.1.plan.length≤9223372036854775807:=Nat.le_trans h75.len.2.1 h75.len.2.2
      have r185:inI64 (q62.1.plan.length:Int):=rngNat l186
      refine AE rfl rfl (o_eeS rfl rfl rfl (fun c187=>?_) fun c187=>?_)
      ·
       replace hy181:=ip hy181 c187
       refine o_pt rfl rfl rfl (o_mv rfl rfl (AE rfl rfl (o_fa rfl rfl (AE rfl rfl (o_ld (hc:=Blk.cell (i:=2) (h86.1) rfl) rfl rfl ?_)))))
       refine AE rfl rfl (o_eeS rfl rfl rfl (fun c188=>?_) fun c188=>?_)
       ·
        replace hy181:=ip hy181 c188
        refine o_pt rfl rfl rfl (o_as rfl rfl (o_z ?_))
        obtain rfl:=sm hy181
        replace hB:=((hB.st S149).st S154).st S163
        exact ⟨(),_,⟨rfl,trivial⟩,hB⟩
       ·
        replace hy181:=im hy181 c188
        refine o_pt rfl rfl rfl (o_as rfl rfl (o_z ?_))
        obtain rfl:=sm hy181
        replace hB:=((hB.st S149).st S154).st S163
        exact ⟨(),_,⟨rfl,trivial⟩,hB⟩
      ·
       replace hy181:=im hy181 c187
       refine o_pt rfl rfl rfl (o_mv rfl rfl (AD rfl rfl rfl rfl (AD rfl rfl rfl rfl (AD rfl rfl rfl rfl (o_pf rfl rfl rfl (o_as rfl rfl (o_z ?_)))))))
       obtain rfl:=sm hy181
       replace hB:=((hB.st S149).st S154).st S163
       exact ⟨(),_,⟨rfl,trivial⟩,hB⟩
     ·
      replace hy181:=im hy181 c184
      refine o_mv rfl rfl (AD rfl rfl rfl rfl (AD rfl rfl rfl rfl (AD rfl rfl rfl rfl (AD rfl rfl rfl rfl (o_pf rfl rfl rfl (o_mv rfl rfl (AD rfl rfl rfl rfl (AD rfl rfl rfl rfl (AD rfl rfl rfl rfl (o_pf rfl rfl rfl (o_as rfl rfl (o_z ?_))))))))))))
      obtain rfl:=sm hy181
      replace hB:=((hB.st S149).st S154).st S163
      exact ⟨(),_,⟨rfl,trivial⟩,hB⟩
    replace hB:=((hB.st S149).st S154).st S163
    rintro l189 w190 ⟨x183,O191,hs192,hB⟩
    refine AP _ hs192 ?_
    refine Au ?_
    obtain rfl:=sm hm
    exact ret1v rfl (AG rfl) ⟨hB.ext,vBool⟩
   ·
    replace hm:=im hm c179
    refine o_z ?_
    refine Aj rfl (Am (Ah (Ae ?_)))
    replace h23:=h23.st S163
    refine o_la (hl:=rfl) (hc:=(h23.1).cellsAt) rfl rfl ?_
    refine o_mv rfl rfl (o_fa rfl rfl ?_)
    replace h86:=((h86.st S149).st S154).st S163
    refine o_ld (hc:=Blk.cell (i:=1) (h86.1) rfl) rfl rfl ?_
    obtain ⟨q193,e194,hm⟩:=bs hm
    replace h7:=h7.st S163
    replace h10:=h10.st S163
    replace h13:=(h13.st S154).st S163
    replace h16:=(h16.st S154).st S163
    replace h75:=((h75.st S149).st S154).st S163
    refine BL (O:=O162) (A:=All w161) (R:=fun w' F v=>T2 w' F v q193) (HI (fun _ h=>h) (Vb.mono (F:=Fr 0 w161 O162) (Vb.ofAgg (cs:=[(.slice A8 x0.vars.length c9),(.slice A11 x0.init.length c12),(.slice A14 x0.goal.length c15),(.slice A17 x0.ops.length c18)]) (x:=x0) rfl ⟨_,_,_,_,rfl,h7,h10,h13,h16⟩) Fr.lt) (Vb.mono (F:=Fr 0 w161 O162) h10 Fr.lt) (Vb.mono (F:=Fr 0 w161 O162) h75 Fr.lt) e194) rfl rfl fun v199 w195 O196 S197 h198=>?_
    obtain ⟨v200,v201,rfl,h202,h203⟩:=h198
    obtain ⟨rfl,r204⟩:=h202.int
    obtain rfl:=h203.bool
    refine o_mv rfl rfl (o_ex rfl rfl rfl (o_ex rfl rfl rfl (o_as rfl rfl (o_as rfl rfl (o_z ?_)))))
    refine Ah (Ah ?_)
    obtain ⟨y205,hy206,hm⟩:=bs hm
    refine AL (fun l' w'=>∃ (x208:Unit) (O':Lab),subs l' [(1,(.pointer (some ⟨g19,0,none⟩))),(3,(.pointer (some ⟨g82,0,none⟩))),(7,(.slice A157 q150.length c158)),(8,(.slice A11 x0.init.length c12)),(102,(.bool y205))]∧Bs w A w' O'∧Lc 2 w' O' g19 26 [(.slice A8 x0.vars.length c9),(.slice A11 x0.init.length c12),(.slice A14 x0.goal.length c15),(.slice A17 x0.ops.length c18)]∧Vb w' (Fr 0 w' O') (.slice A8 x0.vars.length c9) x0.vars∧Vb w' (Fr 0 w' O') (.slice A11 x0.init.length c12) x0.init∧Vb w' (Fr 0 w' O') (.slice A14 x0.goal.length c15) x0.goal∧Vb w' (Fr 0 w' O') (.slice A17 x0.ops.length c18) x0.ops∧Lc 3 w' O' g82 30 [(.int .i64 q62.1.verdict),(.slice A76 q62.1.plan.length c77),(.int .i64 q62.1.cost),(.int .i64 q62.1.expanded)]∧Vb w' (Fr 0 w' O') (.slice A76 q62.1.plan.length c77) q62.1.plan∧Vb w' (Fr 0 w' O') (.slice A157 q150.length c158) q150) ?_ ?_
    ·
     refine Ae (o_fa rfl rfl ?_)
     replace h86:=h86.st S197
     refine o_ld (hc:=Blk.cell (i:=0) (h86.1) rfl) rfl rfl ?_
     refine o_neS rfl rfl rfl (fun c209=>?_) fun c209=>?_
     ·
      replace hy206:=ip hy206 c209
      refine o_mv rfl rfl (AD rfl rfl rfl rfl (AD rfl rfl rfl rfl (o_pt rfl rfl rfl (o_mv rfl rfl (AD rfl rfl rfl rfl (AD rfl rfl rfl rfl (AD rfl rfl rfl rfl (AD rfl rfl rfl rfl (o_pt rfl rfl rfl (o_mv rfl rfl (AD rfl rfl rfl rfl (AD rfl rfl rfl rfl (AD rfl rfl rfl rfl (AD rfl rfl rfl rfl ?_))))))))))))))
      refine AD rfl rfl rfl rfl (o_pt rfl rfl rfl (o_z ?_))
      obtain rfl:=sm hy206
      replace hB:=(((hB.st S149).st S154).st S163).st S197
      replace h7:=h7.st S197
      replace h10:=h10.st S197
      replace h13:=h13.st S197
      replace h16:=h16.st S197
      replace h23:=h23.st S197
      replace h75:=h75.st S197
      replace h155:=h155.st S197
      exact ⟨(),_,⟨rfl,rfl,rfl,rfl,rfl,trivial⟩,hB,h23,h7,h10,h13,h16,h86,h75,h155⟩
     ·
      replace hy206:=im hy206 c209
      refine o_mv rfl rfl (AE rfl rfl (o_mv rfl rfl (AE rfl rfl (o_nn rfl rfl (o_pf rfl rfl rfl (o_mv rfl rfl ?_))))))
      rcases Bool.eq_false_or_eq_true (!q193.2) with c210|c210
      ·
       try simp only [c210]
       replace hy206:=ip hy206 c210
       refine AD rfl rfl rfl rfl (AD rfl rfl rfl rfl (AD rfl rfl rfl rfl (AD rfl rfl rfl rfl (o_pt rfl rfl rfl (o_mv rfl rfl (AD rfl rfl rfl rfl (AD rfl rfl rfl rfl (AD rfl rfl rfl rfl (AD rfl rfl rfl rfl (AD rfl rfl rfl rfl (o_pt rfl rfl rfl (o_z ?_))))))))))))
       obtain rfl:=sm hy206
       replace hB:=(((hB.st S149).st S154).st S163).st S197
       replace h7:=h7.st S197
       replace h10:=h10.st S197
       replace h13:=h13.st S197
       replace h16:=h16.st S197
       replace h23:=h23.st S197
       replace h75:=h75.st S197
       replace h155:=h155.st S197
       exact ⟨(),_,⟨rfl,rfl,rfl,rfl,rfl,trivial⟩,hB,h23,h7,h10,h13,h16,h86,h75,h155⟩
      ·
       try simp only [c210]
       replace hy206:=im' hy206 c210
       refine AE rfl rfl (o_mv rfl rfl (AE rfl rfl (o_fa rfl rfl (AE rfl rfl (o_ld (hc:=Blk.cell (i:=2) (h86.1) rfl) rfl rfl ?_)))))
       refine AE rfl rfl (o_neS rfl rfl rfl (fun c211=>?_) fun c211=>?_)
       ·
        replace hy206:=ip hy206 c211
        refine o_pf rfl rfl rfl (o_mv rfl rfl (AD rfl rfl rfl rfl (AD rfl rfl rfl rfl (AD rfl rfl rfl rfl (AD rfl rfl rfl rfl (AD rfl rfl rfl rfl (o_pt rfl rfl rfl (o_z ?_))))))))
        obtain rfl:=sm hy206
        replace hB:=(((hB.st S149).st S154).st S163).st S197
        replace h7:=h7.st S197
        replace h10:=h10.st S197
        replace h13:=h13.st S197
        replace h16:=h16.st S197
        replace h23:=h23.st S197
        replace h75:=h75.st S197
        replace h155:=h155.st S197
        exact ⟨(),_,⟨rfl,rfl,rfl,rfl,rfl,trivial⟩,hB,h23,h7,h10,h13,h16,h86,h75,h155⟩
       ·
        replace hy206:=im hy206 c211
        refine o_pf rfl rfl rfl (o_mv rfl rfl (AE rfl rfl (o_fa rfl rfl (AE rfl rfl (o_ld (hc:=Blk.cell (i:=1) (h86.1) rfl) rfl rfl ?_)))))
        refine AE rfl rfl (o_ln rfl rfl ?_)
        replace h75:=h75.st S197
        have l213:q62.1.plan.length≤9223372036854775807:=Nat.le_trans h75.len.2.1 h75.len.2.2
        have r212:inI64 (q62.1.plan.length:Int):=rngNat l213
        refine AE rfl rfl (o_mv rfl rfl (AE rfl rfl (o_neS rfl rfl rfl (fun c214=>?_) fun c214=>?_)))
        ·
         replace hy206:=ip hy206 c214
         refine o_pf rfl rfl rfl (o_z ?_)
         obtain rfl:=sm hy206
         replace hB:=(((hB.st S149).st S154).st S163).st S197
         replace h7:=h7.st S197
         replace h10:=h10.st S197
         replace h13:=h13.st S197
         replace h16:=h16.st S197
         replace h23:=h23.st S197
         replace h155:=h155.st S197
         exact ⟨(),_,⟨rfl,rfl,rfl,rfl,rfl,trivial⟩,hB,h23,h7,h10,h13,h16,h86,h75,h155⟩
        ·
         replace hy206:=im hy206 c214
         refine o_pf rfl rfl rfl (o_z ?_)
         obtain rfl:=sm hy206
         replace hB:=(((hB.st S149).st S154).st S163).st S197
         replace h7:=h7.st S197
         replace h10:=h10.st S197
         replace h13:=h13.st S197
         replace h16:=h16.st S197
         replace h23:=h23.st S197
         replace h155:=h155.st S197
         exact ⟨(),_,⟨rfl,rfl,rfl,rfl,rfl,trivial⟩,hB,h23,h7,h10,h13,h16,h86,h75,h155⟩
    replace hB:=(((hB.st S149).st S154).st S163).st S197
    replace h7:=h7.st S197
    replace h10:=h10.st S197
    replace h13:=h13.st S197
    replace h16:=h16.st S197
    replace h23:=h23.st S197
    replace h75:=h75.st S197
    replace h86:=h86.st S197
    replace h155:=h155.st S197
    rintro l215 w216 ⟨x208,O217,hs218,hB,h23,h7,h10,h13,h16,h86,h75,h155⟩
    refine AP _ hs218 ?_
    refine Cb rfl (fun c219=>?_) (fun c219=>?_)
    ·
     replace hm:=ip hm c219
     refine Ah (Ae (o_as rfl rfl (o_z ?_)))
     refine Au ?_
     obtain rfl:=sm hm
     exact ret1v rfl (AG rfl) ⟨hB.ext,vBool⟩
    ·
     replace hm:=im' hm c219
     refine Am (Ah (Ah (Ae (o_fa rfl rfl (o_ld (hc:=Blk.cell (i:=1) (h86.1) rfl) rfl rfl ?_)))))
     refine o_ln rfl rfl ?_
     have l221:q62.1.plan.length≤9223372036854775807:=Nat.le_trans h75.len.2.1 h75.len.2.2
     have r220:inI64 (q62.1.plan.length:Int):=rngNat l221
     refine o_mv rfl rfl (o_z ?_)
     obtain ⟨res222,hL223,hm⟩:=bs hm
     refine AL (aft res222 (fun (s224:(List Int)) (x225:(Option Addr×Nat))=>[]) (fun s224 x225 w'=>∃ O':Lab,Bs w A w' O')) ?_ ?_
     ·
      refine Al (BM (σ:=(List Int)) (X:=(Option Addr×Nat)) (q62.1.plan.length) hL223 rfl l221 (fun (s224:(List Int)) (x225:(Option Addr×Nat))=>[(1,(.pointer (some ⟨g19,0,none⟩))),(7,(.slice A157 q150.length c158)),(8,(.slice x225.1 s224.length x225.2)),(104,(.slice A76 q62.1.plan.length c77))]) _ (fun s224 x225 w'=>∃ O':Lab,Bs w A w' O'∧Lc 2 w' O' g19 26 [(.slice A8 x0.vars.length c9),(.slice A11 x0.init.length c12),(.slice A14 x0.goal.length c15),(.slice A17 x0.ops.length c18)]∧Vb w' (Fr 0 w' O') (.slice A8 x0.vars.length c9) x0.vars∧Vb w' (Fr 0 w' O') (.slice A11 x0.init.length c12) x0.init∧Vb w' (Fr 0 w' O') (.slice A14 x0.goal.length c15) x0.goal∧Vb w' (Fr 0 w' O') (.slice A17 x0.ops.length c18) x0.ops∧Vb w' (Fr 0 w' O') (.slice A157 q150.length c158) q150∧Vb w' (Fr 0 w' O') (.slice x225.1 s224.length x225.2) s224∧Vb w' (Fr 0 w' O') (.slice A76 q62.1.plan.length c77) q62.1.plan) _ (A11,c12) ⟨O217,hB,h23,h7,h10,h13,h16,h155,h10,h75⟩ ⟨rfl,rfl,rfl,rfl,rfl,rfl,trivial⟩ (fun _ _=>⟨rfl,rfl⟩) (fun _ _=>trivial) (fun _ _ _ ⟨O',hB,h23,h7,h10,h13,h16,h155,h238,h75⟩=>⟨O',hB⟩) ⟨rfl,rfl,rfl⟩ ⟨rfl,rfl⟩ ?_)
      rintro k226 a227 s224 x225 w228 cc230 hx231 ⟨O229,hB,h23,h7,h10,h13,h16,h155,h238,h75⟩ hf232 hret233 hbrk234
      have rk226:inI64 (k226:Int):=rngK hx231 l221
      refine Ah (Ae ?_)
      obtain ⟨b239,o240,ce241,hA242,hl243,hd244,rfl,r246⟩:=h75.elem' hx231
      refine o_iaE (hA:=hA242) (hj:=rfl) (hlt:=hl243) rfl rfl rfl ?_
      refine o_ld (hc:=cat0 hd244) rfl rfl ?_
      refine o_as rfl rfl (o_z ?_)
      refine Ah (Ae (o_la (hl:=rfl) (hc:=(h23.1).cellsAt) rfl rfl ?_))
      refine o_mv rfl rfl (o_mv rfl rfl ?_)
      obtain ⟨q247,e248,hf232⟩:=bs hf232
      refine BY (O:=O229) (R:=fun w' F v=>T2 w' F v q247) (EB Fr.lt (Vb.ofAgg (cs:=[(.slice A8 x0.vars.length c9),(.slice A11 x0.init.length c12),(.slice A14 x0.goal.length c15),(.slice A17 x0.ops.length c18)]) (x:=x0) rfl ⟨_,_,_,_,rfl,h7,h10,h13,h16⟩) h238 r246 e248) rfl rfl fun v253 w249 O250 S251 h252=>?_
      obtain ⟨v254,v255,rfl,h256,h257⟩:=h252
      obtain ⟨A258,c259,rfl⟩:=h256.form
      obtain rfl:=h257.bool
      refine o_mv rfl rfl (o_ex rfl rfl rfl (o_ex rfl rfl rfl (o_as rfl rfl (o_as rfl rfl (o_z ?_)))))
      refine Ah (Ah (Ae (o_mv rfl rfl (o_mv rfl rfl (o_z ?_)))))
      obtain ⟨N273,hN274,hf232⟩:=bs hf232
      replace hN274:=IG hN274
      obtain ⟨res260,hL261,hf232⟩:=bs hf232
      refine AL (aft res260 (fun (s262:Unit) (x263:Unit)=>[(1,(.pointer (some ⟨g19,0,none⟩))),(7,(.slice A157 q150.length c158)),(14,(.slice A258 q247.1.length c259)),(104,(.slice A76 q62.1.plan.length c77)),(105,(.int .i64 (q62.1.plan.length:Int))),(106,(.int .i64 (k226:Int)))]) (fun s262 x263 w'=>∃ O':Lab,Bs w A w' O'∧Lc 2 w' O' g19 26 [(.slice A8 x0.vars.length c9),(.slice A11 x0.init.length c12),(.slice A14 x0.goal.length c15),(.slice A17 x0.ops.length c18)]∧Vb w' (Fr 0 w' O') (.slice A8 x0.vars.length c9) x0.vars∧Vb w' (Fr 0 w' O') (.slice A11 x0.init.length c12) x0.init∧Vb w' (Fr 0 w' O') (.slice A14 x0.goal.length c15) x0.goal∧Vb w' (Fr 0 w' O') (.slice A17 x0.ops.length c18) x0.ops∧Vb w' (Fr 0 w' O') (.slice A157 q150.length c158) q150∧Vb w' (Fr 0 w' O') (.slice A258 q247.1.length c259) q247.1∧Vb w' (Fr 0 w' O') (.slice A76 q62.1.plan.length c77) q62.1.plan)) ?_ ?_
      ·
       refine Al ?_
       replace hB:=hB.st S251
       replace h7:=h7.st S251
       replace h10:=h10.st S251
       replace h13:=h13.st S251
       replace h16:=h16.st S251
       replace h23:=h23.st S251
       replace h75:=h75.st S251
       replace h155:=h155.st S251
       replace h238:=h238.st S251
       refine HP (σ:=Unit) (X:=Unit) N273 hL261 (Hw hN274 r246) (fun (s262:Unit) (x263:Unit)=>[(1,(.pointer (some ⟨g19,0,none⟩))),(7,(.slice A157 q150.length c158)),(8,(.slice x225.1 s224.length x225.2)),(14,(.slice A258 q247.1.length c259)),(104,(.slice A76 q62.1.plan.length c77)),(105,(.int .i64 (q62.1.plan.length:Int))),(106,(.int .i64 (k226:Int)))]) _ (fun s262 x263 w'=>∃ O':Lab,Bs w A w' O'∧Lc 2 w' O' g19 26 [(.slice A8 x0.vars.length c9),(.slice A11 x0.init.length c12),(.slice A14 x0.goal.length c15),(.slice A17 x0.ops.length c18)]∧Vb w' (Fr 0 w' O') (.slice A8 x0.vars.length c9) x0.vars∧Vb w' (Fr 0 w' O') (.slice A11 x0.init.length c12) x0.init∧Vb w' (Fr 0 w' O') (.slice A14 x0.goal.length c15) x0.goal∧Vb w' (Fr 0 w' O') (.slice A17 x0.ops.length c18) x0.ops∧Vb w' (Fr 0 w' O') (.slice A157 q150.length c158) q150∧Vb w' (Fr 0 w' O') (.slice x225.1 s224.length x225.2) s224∧Vb w' (Fr 0 w' O') (.slice A258 q247.1.length c259) q247.1∧Vb w' (Fr 0 w' O') (.slice A76 q62.1.plan.length c77) q62.1.plan) _ () ⟨O250,hB,h23,h7,h10,h13,h16,h155,h238,h256,h75⟩ ⟨rfl,(congrArg (fun z=>some (Value.int .i64 z)) hN274),rfl,rfl,rfl,rfl,rfl,rfl,rfl,trivial⟩ (fun _ _=>⟨rfl,rfl⟩) (fun _ _=>⟨rfl,rfl,rfl,rfl,rfl,rfl,trivial⟩) (fun _ _ _ ⟨O',hB,h23,h7,h10,h13,h16,h155,h238,h256,h75⟩=>⟨O',hB,h23,h7,h10,h13,h16,h155,h256,h75⟩) ⟨rfl,rfl,rfl⟩ ⟨rfl,rfl⟩ ?_
       rintro k264 s262 x263 w266 cc268 hx269 ⟨O267,hB,h23,h7,h10,h13,h16,h155,h238,h256,h75⟩ hf270 hret271 hbrk272
       have rk264:inI64 (k264:Int):=rngKN hx269 (Hw hN274 r246)
       refine Ah (Ae (o_mv rfl rfl (o_as rfl rfl (o_z ?_))))
       refine Ah (Ae (o_la (hl:=rfl) (hc:=(h23.1).cellsAt) rfl rfl ?_))
       refine o_mv rfl rfl (o_mv rfl rfl ?_)
       obtain ⟨q275,e276,hf270⟩:=bs hf270
       refine BY (O:=O267) (R:=fun w' F v=>T2 w' F v q275) (EB Fr.lt (Vb.ofAgg (cs:=[(.slice A8 x0.vars.length c9),(.slice A11 x0.init.length c12),(.slice A14 x0.goal.length c15),(.slice A17 x0.ops.length c18)]) (x:=x0) rfl ⟨_,_,_,_,rfl,h7,h10,h13,h16⟩) h238 rk264 e276) rfl rfl fun v281 w277 O278 S279 h280=>?_
       obtain ⟨v282,v283,rfl,h284,h285⟩:=h280
       obtain ⟨A286,c287,rfl⟩:=h284.form
       obtain rfl:=h285.bool
       refine o_mv rfl rfl (o_ex rfl rfl rfl (o_ex rfl rfl rfl (o_as rfl rfl (o_as rfl rfl (o_z ?_)))))
       refine Ah ?_
       obtain ⟨y288,hy289,hf270⟩:=bs hf270
       refine AL (fun l' w'=>∃ (x291:Unit) (O':Lab),subs l' [(1,(.pointer (some ⟨g19,0,none⟩))),(7,(.slice A157 q150.length c158)),(8,(.slice x225.1 s224.length x225.2)),(14,(.slice A258 q247.1.length c259)),(104,(.slice A76 q62.1.plan.length c77)),(105,(.int .i64 (q62.1.plan.length:Int))),(106,(.int .i64 (k226:Int))),(117,(.int .i64 (N273:Int))),(118,(.int .i64 (k264:Int))),(145,(.bool y288))]∧Bs w A w' O'∧Lc 2 w' O' g19 26 [(.slice A8 x0.vars.length c9),(.slice A11 x0.init.length c12),(.slice A14 x0.goal.length c15),(.slice A17 x0.ops.length c18)]∧Vb w' (Fr 0 w' O') (.slice A8 x0.vars.length c9) x0.vars∧Vb w' (Fr 0 w' O') (.slice A11 x0.init.length c12) x0.init∧Vb w' (Fr 0 w' O') (.slice A14 x0.goal.length c15) x0.goal∧Vb w' (Fr 0 w' O') (.slice A17 x0.ops.length c18) x0.ops∧Vb w' (Fr 0 w' O') (.slice A157 q150.length c158) q150∧Vb w' (Fr 0 w' O') (.slice x225.1 s224.length x225.2) s224∧Vb w' (Fr 0 w' O') (.slice A258 q247.1.length c259) q247.1∧Vb w' (Fr 0 w' O') (.slice A76 q62.1.plan.length c77) q62.1.plan) ?_ ?_
       ·
        refine BA [(6,[]),(13,[])] O278 ?_
        refine x_pre (fuel:=8) [] [(0,true),(1,true),(2,true),(3,true),(4,true),(5,true),(9,true),(10,true),(11,true),(12,true)] (by kernel_rfl) rfl ?_
        refine h_mv rfl rfl rfl (h_mv rfl rfl rfl ?_)
        rcases Bool.eq_false_or_eq_true q275.2 with c292|c292
        ·
         try simp only [c292]
         replace hy289:=ip hy289 c292
         refine hwp_o rfl (AB rfl rfl (g_mv rfl rfl (hwp_o rfl (AB rfl rfl (g_fa rfl rfl (hwp_o rfl (AB rfl rfl ?_)))))))
         replace h23:=h23.st S279
         refine g_ldC (hc:=fun w' ⟨O',hq⟩=>Blk.cell (i:=0) ((h23.st hq (by decide)).1) rfl) rfl rfl ?_
         refine hwp_o rfl (AB rfl rfl (g_mv rfl rfl (hwp_o rfl (AB rfl rfl (g_mv rfl rfl (hwp_o rfl (AB rfl rfl (g_fa rfl rfl (hwp_o rfl (AB rfl rfl (g_ldC (hc:=fun w' ⟨O',hq⟩=>Blk.cell (i:=0) ((h23.st hq (by decide)).1) rfl) rfl rfl ?_)))))))))))
         refine hwp_o rfl (AB rfl rfl (g_mv rfl rfl (AI ?_)))
         refine x_one (i:=6) (by kernel_rfl) rfl ?_
         refine AE rfl rfl ?_
         obtain ⟨q293,e294,hy289⟩:=bs hy289
         replace h7:=h7.st S279
         refine BL (O:=O278) (A:=All w277) (R:=fun w' F v=>Vb w' F v q293) (ET (fun _ h=>h) (Vb.mono (F:=Fr 0 w277 O278) h7 Fr.lt) (Vb.mono (F:=Fr 0 w277 O278) h284 Fr.lt) e294) rfl rfl fun v299 w295 O296 S297 h298=>?_
         obtain ⟨rfl,r300⟩:=h298.int
         have hZ:=S297.lst [] (fun _ h=>h.elim)
         refine x_go [(13,[])] hZ (by kernel_rfl) ?_
         refine x_pre (fuel:=5) [] [(7,true),(8,true)] (by kernel_rfl) rfl ?_
         refine hwp_o rfl (AB rfl rfl ?_)
         obtain ⟨a301,e302,hy289⟩:=bs hy289
         obtain ⟨p304,x303⟩:=AM e302
         replace h155:=(h155.st S279).st S297
         obtain ⟨b305,o306,ce307,hA308,hF311,hl309,hd310,rfl,r312⟩:=h155.elem x303
         refine g_iaE (hA:=hA308) (hj:=(Int.toNat_of_nonneg p304).symm) (hlt:=hl309) rfl rfl rfl ?_
         refine hwp_o rfl (AB rfl rfl (g_ldC (hc:=fun w' ⟨O',hq⟩=>cat0 (Bh (hq.agree (i:=0) (by decide)) hF311 hd310)) rfl rfl ?_))
         refine AI ?_
         refine x_one (i:=13) (by kernel_rfl) rfl ?_
         refine AE rfl rfl ?_
         obtain ⟨q313,e314,hy289⟩:=bs hy289
         replace h7:=h7.st S297
         replace h238:=(h238.st S279).st S297
         refine BL (O:=O296) (A:=All w295) (R:=fun w' F v=>Vb w' F v q313) (ET (fun _ h=>h) (Vb.mono (F:=Fr 0 w295 O296) h7 Fr.lt) (Vb.mono (F:=Fr 0 w295 O296) h238 Fr.lt) e314) rfl rfl fun v319 w315 O316 S317 h318=>?_
         obtain ⟨rfl,r320⟩:=h318.int
         have hZ:=S317.lst [] (fun _ h=>h.elim)
         refine x_go [] hZ (by kernel_rfl) ?_
         refine x_pre (fuel:=0) [] [(14,true),(15,true),(16,true),(17,true)] (by kernel_rfl) rfl ?_
         refine hwp_o rfl (AB rfl rfl ?_)
         obtain ⟨a321,e322,hy289⟩:=bs hy289
         obtain ⟨p324,x323⟩:=AM e322
         replace h155:=h155.st S317
         obtain ⟨b325,o326,ce327,hA328,hF331,hl329,hd330,rfl,r332⟩:=h155.elem x323
         refine g_iaE (hA:=hA328) (hj:=(Int.toNat_of_nonneg p324).symm) (hlt:=hl329) rfl rfl rfl ?_
         refine hwp_o rfl (AB rfl rfl (g_ldC (hc:=fun w' ⟨O',hq⟩=>cat0 (Bh (hq.agree (i:=0) (by decide)) hF331 hd330)) rfl rfl ?_))
         refine hwp_o rfl (AB rfl rfl (AN (fun _ _=>BN rfl rfl) rfl (fun c333=>?_) (fun c333=>?_)))
         ·
          replace hy289:=ip hy289 c333
          refine h_pt rfl rfl rfl rfl (AI ?_)
          refine x_nil (by kernel_rfl) ?_
          obtain rfl:=sm hy289
          replace hB:=((hB.st S279).st S297).st S317
          replace h7:=h7.st S317
          replace h10:=((h10.st S279).st S297).st S317
          replace h13:=((h13.st S279).st S297).st S317
          replace h16:=((h16.st S279).st S297).st S317
          replace h23:=(h23.st S297).st S317
          replace h75:=((h75.st S279).st S297).st S317
          replace h238:=h238.st S317
          replace h256:=((h256.st S279).st S297).st S317
          exact ⟨(),_,⟨rfl,rfl,rfl,rfl,rfl,rfl,rfl,rfl,rfl,rfl,trivial⟩,hB,h23,h7,h10,h13,h16,h155,h238,h256,h75⟩
         ·
          replace hy289:=im hy289 c333
          refine h_pt rfl rfl rfl rfl (AI ?_)
          refine x_nil (by kernel_rfl) ?_
          obtain rfl:=sm hy289
          replace hB:=((hB.st S279).st S297).st S317
          replace h7:=h7.st S317
          replace h10:=((h10.st S279).st S297).st S317
          replace h13:=((h13.st S279).st S297).st S317
          replace h16:=((h16.st S279).st S297).st S317
          replace h23:=(h23.st S297).st S317
          replace h75:=((h75.st S279).st S297).st S317
          replace h238:=h238.st S317
          replace h256:=((h256.st S279).st S297).st S317
          exact ⟨(),_,⟨rfl,rfl,rfl,rfl,rfl,rfl,rfl,rfl,rfl,rfl,trivial⟩,hB,h23,h7,h10,h13,h16,h155,h238,h256,h75⟩
        ·
         try simp only [c292]
         replace hy289:=im' hy289 c292
         refine h_no rfl rfl rfl rfl rfl (h_no rfl rfl rfl rfl rfl (h_no rfl rfl rfl rfl rfl (h_no rfl rfl rfl rfl rfl (h_no rfl rfl rfl rfl rfl (h_no rfl rfl rfl rfl rfl (h_no rfl rfl rfl rfl rfl (h_no rfl rfl rfl rfl rfl (AI ?_))))))))
         refine x_one (i:=6) (by kernel_rfl) rfl ?_
         refine AD rfl rfl rfl rfl (x_go [(13,[])] ((St.refl nT _ _).lst [] (fun _ h=>h.elim)) (by kernel_rfl) ?_)
         refine x_pre (fuel:=5) [] [(7,true),(8,true)] (by kernel_rfl) rfl ?_
         refine h_no rfl rfl rfl rfl rfl (h_no rfl rfl rfl rfl rfl (AI ?_))
         refine x_one (i:=13) (by kernel_rfl) rfl ?_
         refine AD rfl rfl rfl rfl (x_go [] ((St.refl nT _ _).lst [] (fun _ h=>h.elim)) (by kernel_rfl) ?_)
         refine x_pre (fuel:=0) [] [(14,true),(15,true),(16,true),(17,true)] (by kernel_rfl) rfl ?_
         refine h_no rfl rfl rfl rfl rfl (h_no rfl rfl rfl rfl rfl (h_no rfl rfl rfl rfl rfl (h_pf rfl rfl rfl rfl (AI ?_))))
         refine x_nil (by kernel_rfl) ?_
         obtain rfl:=sm hy289
         replace hB:=hB.st S279
         replace h7:=h7.st S279
         replace h10:=h10.st S279
         replace h13:=h13.st S279
         replace h16:=h16.st S279
         replace h23:=h23.st S279
         replace h75:=h75.st S279
         replace h155:=h155.st S279
         replace h238:=h238.st S279
         replace h256:=h256.st S279
         exact ⟨(),_,⟨rfl,rfl,rfl,rfl,rfl,rfl,rfl,rfl,rfl,rfl,trivial⟩,hB,h23,h7,h10,h13,h16,h155,h238,h256,h75⟩
       replace hB:=hB.st S279
       replace h7:=h7.st S279
       replace h10:=h10.st S279
       replace h13:=h13.st S279
       replace h16:=h16.st S279
       replace h23:=h23.st S279
       replace h75:=h75.st S279
       replace h155:=h155.st S279
       replace h238:=h238.st S279
       replace h256:=h256.st S279
       rintro l334 w335 ⟨x291,O336,hs337,hB,h23,h7,h10,h13,h16,h155,h238,h256,h75⟩
       refine AP _ hs337 ?_
       refine Cb rfl (fun c338=>?_) (fun c338=>?_)
       ·
        replace hf270:=ip hf270 c338
        refine Ah (Ae (o_as rfl rfl (o_z ?_)))
        refine Au ?_
        obtain rfl:=sm hf270
        obtain rfl:=hret271 _ rfl
        obtain rfl:=sm (Bo hf232)
        obtain rfl:=hret233 _ rfl
        obtain rfl:=sm (Bo hm)
        exact ret1v rfl (AG rfl) ⟨hB.ext,vBool⟩
       ·
        replace hf270:=im' hf270 c338
        refine Am ?_
        obtain rfl:=sm hf270
        refine (?_:Exists _)
        exact ⟨_,(),rfl,⟨rfl,rfl,rfl,rfl,rfl,rfl,rfl,rfl,rfl,trivial⟩,_,hB,h23,h7,h10,h13,h16,h155,h238,h256,h75⟩
      replace hB:=hB.st S251
      replace h7:=h7.st S251
      replace h10:=h10.st S251
      replace h13:=h13.st S251
      replace h16:=h16.st S251
      replace h23:=h23.st S251
      replace h75:=h75.st S251
      replace h155:=h155.st S251
      rintro l339 w340 ⟨s343,x344,rfl,hs342,O341,hB,h23,h7,h10,h13,h16,h155,h256,h75⟩
      replace hf232:=AY hf232
      refine AP _ hs342 ?_
      refine Ae (o_mv rfl rfl (o_as rfl rfl (o_z ?_)))
      obtain rfl:=sm hf232
      refine (?_:Exists _)
      exact ⟨_,(A258,c259),rfl,⟨rfl,rfl,rfl,rfl,rfl,rfl,trivial⟩,_,hB,h23,h7,h10,h13,h16,h155,h256,h75⟩
     rintro l345 w346 ⟨s349,x350,rfl,hs348,O347,hB⟩
     replace hm:=AY hm
     refine AP _ hs348 ?_
     refine Ah (Ae (o_as rfl rfl (o_z ?_)))
     refine Au ?_
     obtain rfl:=sm hm
     exact ret1v rfl (AG rfl) ⟨hB.ext,vBool⟩
end
section
open Go Go.RowKit
def Le {α:Type} (x y:Option α):Prop:=∀ r,x=some r→y=some r
theorem Le.rf {α:Type} {x:Option α}:Le x x:=fun _ h=>h
theorem Le.bnd {α β:Type} {x x':Option α} {f f':α→Option β} (h:Le x x') (hf:∀ a,Le (f a) (f' a)):Le (bnd x f) (bnd x' f'):=fun r hr=>by
  obtain ⟨a,ha,hb⟩:=bs hr
  rw [h a ha,AC]
  exact hf a r hb
theorem Le.ite {α:Type} {p:Prop} [Decidable p] {x x' y y':Option α} (h:Le x x') (k:Le y y'):Le (if p then x else y) (if p then x' else y'):=by
  by_cases hp:p
  · rw [if_pos hp,if_pos hp];exact h
  · rw [if_neg hp,if_neg hp];exact k
theorem Le.fin {σ κ:Type} {y:Fin σ κ} {f f':σ→Option κ} (hf:∀ a,Le (f a) (f' a)):Le (fin y f) (fin y f'):=by
  cases y with
  | done s=>exact hf s
  | ret c=>exact Le.rf
theorem Le.rng {α σ ρ:Type} {f f':Nat→α→σ→Option (Ctl σ ρ)} (hf:∀ k a s,Le (f k a s) (f' k a s)):∀ {xs:List α} {k:Nat} {s:σ},Le (rng f xs k s) (rng f' xs k s)
  | [],_,_=>Le.rf
  | x :: xs,k,s=>fun r hr=>by
    simp only [Proofs.Ythomfnkaicjmbaa.rng] at hr ⊢
    cases hc:f k x s with
    | none=>rw [hc] at hr;cases hr
    | some c =>
      rw [hc] at hr
      rw [hf k x s c hc]
      cases c with
      | next s'=>exact Le.rng hf r hr
      | brk s'=>exact hr
      | ret q=>exact hr
theorem Le.rngN {σ ρ:Type} {f f':Nat→σ→Option (Ctl σ ρ)} {n:Nat} {s:σ} (hf:∀ k s,Le (f k s) (f' k s)):Le (rngN f n s) (rngN f' n s):=Le.rng fun _ k s=>hf k s
theorem Le.itr {σ ρ:Type} {f f':σ→Option (Ctl σ ρ)} (hf:∀ s,Le (f s) (f' s)):∀ (n:Nat) (s:σ),Le (itr f n s) (itr f' n s)
  | 0,_=>Le.rf
  | n + 1,s=>fun r hr=>by
    simp only [Proofs.Ythomfnkaicjmbaa.itr] at hr ⊢
    cases hc:f s with
    | none=>rw [hc] at hr;cases hr
    | some c =>
      rw [hc] at hr
      rw [hf s c hc]
      cases c with
      | next s'=>exact Le.itr hf n s' r hr
      | brk s'=>exact hr
      | ret q=>exact hr
def lopE {σ ρ:Type} (f:σ→Option (Ctl σ ρ)) (s:σ):Option (Fin σ ρ):=itr f 600 s
theorem Le.lop {σ ρ:Type} {f f':σ→Option (Ctl σ ρ)} {s:σ} (hf:∀ s,Le (f s) (f' s)):Le (lopE f s) (lop f' s):=fun r hr=>Fs.2 ⟨600,Le.itr hf 600 s r hr⟩
end
section
open Go Go.RowKit
def factB (vars:List Int) (x:Fct):Bool:=decide (0≤x.var) && (decide (0≤x.val) && (match vars[x.var.toNat]? with|some y=>decide (x.val < y)|none=>false))
theorem Jw {vars:List Int} {x:Fct} (h:factB vars x=true):FactOk vars x:=by
  unfold factB at h
  simp only [Bool.and_eq_true,decide_eq_true_eq] at h
  obtain ⟨h1,h2,h3⟩:=h
  cases hv:vars[x.var.toNat]? with
  | none=>rw [hv] at h3;cases h3
  | some y=>rw [hv] at h3;exact ⟨h1,h2,y,hv,by simpa using h3⟩
def ascB:List Fct→Bool
  | x :: y :: r=>decide (x.var < y.var) && ascB (y :: r)
  | _=>true
theorem Kf:∀ {f:List Fct},ascB f=true→∀ (i:Nat) x y,f[i]?=some x→f[i + 1]?=some y→x.var < y.var
  | [],_,i,x,y,h,_=>by simp at h
  | [_],_,i,x,y,_,h=>by simp at h
  | a :: b :: r,h,i,x,y,h1,h2=>by
    simp only [ascB,Bool.and_eq_true,decide_eq_true_eq] at h
    cases i with
    | zero=>simp at h1 h2;subst h1;subst h2;exact h.1
    | succ i=>exact Kf h.2 i x y (by simpa using h1) (by simpa using h2)
def factsB (vars:List Int) (f:List Fct):Bool:=f.all (factB vars) && ascB f
theorem Hs {vars:List Int} {f:List Fct} (h:factsB vars f=true):FactsOk vars f:=by
  unfold factsB at h
  rw [Bool.and_eq_true,List.all_eq_true] at h
  exact ⟨fun i x hx=>Jw (h.1 x (List.mem_of_getElem? hx)),Kf h.2⟩
def stateB:List Int→List Int→Bool
  | [],[]=>true
  | y :: vars,x :: s=>decide (0≤x) && (decide (x < y) && stateB vars s)
  | _,_=>false
theorem Ht:∀ {vars s:List Int},stateB vars s=true→StateOk vars s
  | [],[],_=>⟨rfl,fun i x y h=>by simp at h⟩
  | y :: vars,x :: s,h=>by
    simp only [stateB,Bool.and_eq_true,decide_eq_true_eq] at h
    obtain ⟨h1,h2⟩:=Ht h.2.2
    refine ⟨by simp [h1],fun i a b ha hb=>?_⟩
    cases i with
    | zero=>simp at ha hb;subst ha;subst hb;exact ⟨h.1,h.2.1⟩
    | succ i=>exact h2 i a b (by simpa using ha) (by simpa using hb)
  | [],_ :: _,h=>by simp [stateB] at h
  | _ :: _,[],h=>by simp [stateB] at h
def nameB (s:ByteArray):Bool:=decide (s.size≤256) && s.data.toList.all fun c=>decide (32≤c.toNat) && decide (c.toNat≤126)
theorem LJ {s:ByteArray} (h:nameB s=true):NameOk s:=by
  unfold nameB at h
  simp only [Bool.and_eq_true,decide_eq_true_eq,List.all_eq_true] at h
  refine ⟨h.1,fun i hi=>h.2 _ ?_⟩
  show s.data[i]∈_
  simp
def opB (vars:List Int) (o:Opr):Bool:=decide (0≤o.cost) && (decide (o.cost≤1048576) && (decide (o.effs.length≤64) && (nameB o.name && (factsB vars o.pre && o.effs.all fun e=>factsB vars e.cond && factB vars ⟨e.var,e.val⟩))))
theorem MV {vars:List Int} {o:Opr} (h:opB vars o=true):OpOk vars o:=by
  unfold opB at h
  simp only [Bool.and_eq_true,decide_eq_true_eq,List.all_eq_true] at h
  obtain ⟨h1,h2,h3,h4,h5,h6⟩:=h
  exact ⟨h1,h2,h3,LJ h4,Hs h5,fun i e he=>⟨Hs (h6 e (List.mem_of_getElem? he)).1,Jw (h6 e (List.mem_of_getElem? he)).2⟩⟩
def taskB (t:Tsk):Bool:=decide (t.vars.length≤64) && (decide (t.ops.length≤4096) && ((t.vars.all fun n=>decide (1≤n) && decide (n≤64)) && (stateB t.vars t.init && (factsB t.vars t.goal && t.ops.all (opB t.vars)))))
theorem LK {t:Tsk} (h:taskB t=true):TaskOk t:=by
  unfold taskB at h
  simp only [Bool.and_eq_true,decide_eq_true_eq,List.all_eq_true] at h
  obtain ⟨h1,h2,h3,h4,h5,h6⟩:=h
  exact ⟨h1,h2,fun i n hn=>h3 n (List.mem_of_getElem? hn),Ht h4,Hs h5,fun i o ho=>MV (h6 o (List.mem_of_getElem? ho))⟩
def FT (x y:List Int):Option Bool:=some (decide (x=y))
theorem Jx (x y:List Int):Le (FT x y) (ER x y):=fun r h=>by
  unfold FT at h
  unfold ER
  rw [← h]
  by_cases hx:x=y
  · rw [bof_t hx];simp [hx]
  · rw [bof_f hx];simp [hx]
def EE (f:List Fct) (s:List Int):Option Bool:=Cw f s
theorem Fc (f:List Fct) (s:List Int):Le (EE f s) (Cw f s):=Le.rf
def EF (f:List Fct) (s:List Int):Option Bool:=Ci f s
theorem GP (f:List Fct) (s:List Int):Le (EF f s) (Ci f s):=Le.rf
def Ea (x:List Int):Option (List Int):=Cm x
theorem FA (x:List Int):Le (Ea x) (Cm x):=Le.rf
end
section
open Go Go.RowKit
set_option maxRecDepth 20000
def Dm (x:List U64):Option (List U64):=BO x
theorem EG (x:List U64):Le (Dm x) (BO x):=Le.rf
def GQ (t:Tsk):Option (Option Gnr×Err):=if taskB t=true then some (some ⟨t⟩,⟨0⟩) else none
theorem Iz (t:Tsk):Le (GQ t) (DI t):=fun r h=>by
  obtain ⟨h1,rfl⟩:=Fq h
  exact KZ (LK h1)
def CB (x:Option Gnr) (s:List Int):Option (List Int):=match x with
  | some g=>if stateB g.t.vars s=true then (if s.length≤1000000 then some (appl g.t s) else none) else none
  | none=>none
theorem Ew (x:Option Gnr) (s:List Int):Le (CB x s) (BB x s):=fun r h=>by
  cases x with
  | none=>cases h
  | some g =>
    unfold CB at h
    dsimp only at h
    split at h
    · rename_i h1
      obtain ⟨h3,rfl⟩:=Fq h
      unfold BB
      rw [if_pos h3]
      show some (appS g.t s)=_
      rw [Gh (Ht h1)]
    · cases h
noncomputable def CM (x0:List Itm):Option Int :=
  some (x0.length:Int)
theorem DC (x0:List Itm):Le (CM x0) (Cc x0):=by
  unfold CM Cc
  repeat' (first|apply Le.ite|apply Le.bnd|apply Le.fin|apply Le.rng|apply Le.rngN|apply Le.lop|exact Le.rf|intro _)
noncomputable def CC (x0:List Itm) (x1:Int) (x2:Int):Option Bool :=
  bnd (bnd (atI x0 x1) fun a10=>bnd (atI x0 x2) fun a24=>if a10.cost < a24.cost then (some true) else (bnd (atI x0 x1) fun a39=>bnd (atI x0 x2) fun a53=>if a39.cost=a53.cost then (bnd (atI x0 x1) fun a68=>bnd (atI x0 x2) fun a82=>if a68.order < a82.order then (some true) else (some false)) else (some false)):Option Bool) fun y6=>some y6
theorem Eu (x0:List Itm) (x1:Int) (x2:Int):Le (CC x0 x1 x2) (BW x0 x1 x2):=by
  unfold CC BW
  repeat' (first|apply Le.ite|apply Le.bnd|apply Le.fin|apply Le.rng|apply Le.rngN|apply Le.lop|exact Le.rf|intro _)
noncomputable def CD (x0:List Itm) (x1:Int) (x2:Int):Option (List Itm) :=
  bnd (atI x0 x2) fun a4=>bnd (atI x0 x1) fun a18=>bnd (atI x0 x1) fun a32=>bnd (atI (x0.set (x1:Int).toNat a4) x2) fun a48=>some ((x0.set (x1:Int).toNat a4).set (x2:Int).toNat a18)
theorem Dr (x0:List Itm) (x1:Int) (x2:Int):Le (CD x0 x1 x2) (BX x0 x1 x2):=by
  unfold CD BX
  repeat' (first|apply Le.ite|apply Le.bnd|apply Le.fin|apply Le.rng|apply Le.rngN|apply Le.lop|exact Le.rf|intro _)
noncomputable def DD (x0:BxR 98 96 Itm) (x1:An 96 Itm):Option (BxR 98 96 Itm) :=
  bnd (appI 24 x0.l [x1.x]) fun u31=>some (⟨u31⟩:BxR 98 96 Itm)
theorem Gk (x0:BxR 98 96 Itm) (x1:An 96 Itm):Le (DD x0 x1) (Cz x0 x1):=by
  unfold DD Cz
  repeat' (first|apply Le.ite|apply Le.bnd|apply Le.fin|apply Le.rng|apply Le.rngN|apply Le.lop|exact Le.rf|intro _)
noncomputable def DN (x0:BxR 98 96 Itm):Option ((An 96 Itm)×(BxR 98 96 Itm)) :=
  bnd (chkI ((x0.l.length:Int) - 1)) fun n13=>bnd (atI x0.l n13) fun a16=>bnd (cutI x0.l 0 n13) fun u37=>some ((⟨a16⟩:An 96 Itm),(⟨u37⟩:BxR 98 96 Itm))
theorem GD (x0:BxR 98 96 Itm):Le (DN x0) (CJ x0):=by
  unfold DN CJ
  repeat' (first|apply Le.ite|apply Le.bnd|apply Le.fin|apply Le.rng|apply Le.rngN|apply Le.lop|exact Le.rf|intro _)
noncomputable def DO (x0:BxR 98 96 Itm) (x1:Int):Option (BxR 98 96 Itm) :=
  bnd (lopE (ρ:=(BxR 98 96 Itm)) (fun (s5:Int×(BxR 98 96 Itm))=>bnd (chkI (s5.1 - 1)) fun n22=>bnd (quoT n22 2) fun n25=>bnd (if n25=s5.1 then (some true) else (bnd (CC s5.2.l s5.1 n25) fun q42=>if q42=true then some false else some true):Option Bool) fun y28=>if y28=true then (some (.brk (s5.1,s5.2))) else (bnd (CD s5.2.l n25 s5.1) fun q73=>some (.next (n25,(⟨q73⟩:BxR 98 96 Itm))))) (x1,x0)) fun res3=>fin res3 fun (s90:Int×(BxR 98 96 Itm))=>some s90.2
theorem GE (x0:BxR 98 96 Itm) (x1:Int):Le (DO x0 x1) (CK x0 x1):=by
  unfold DO CK
  repeat' (first|apply Eu|apply Dr|apply Le.ite|apply Le.bnd|apply Le.fin|apply Le.rng|apply Le.rngN|apply Le.lop|exact Le.rf|intro _)
noncomputable def Ds (x0:BxR 98 96 Itm) (x1:Int) (x2:Int):Option (Bool×(BxR 98 96 Itm)) :=
  bnd (lopE (ρ:=Bool×(BxR 98 96 Itm)) (fun (s6:Int×(BxR 98 96 Itm))=>bnd (chkI (2 * s6.1)) fun n23=>bnd (chkI (n23 + 1)) fun n26=>bnd (if x2≤n26 then (some true) else (if n26 < 0 then (some true) else (some false)):Option Bool) fun y29=>if y29=true then (some (.brk (s6.1,s6.2))) else (bnd (bnd (chkI (n26 + 1)) fun n45=>bnd (if n45 < x2 then (bnd (CC s6.2.l n45 n26) fun q62=>if q62=true then some true else some false) else (some false):Option Bool) fun y48=>if y48=true then (some n45) else (some n26):Option Int) fun y40=>bnd (CC s6.2.l y40 s6.1) fun q97=>if q97=true then bnd (CD s6.2.l s6.1 y40) fun q109=>some (.next (y40,(⟨q109⟩:BxR 98 96 Itm))) else some (.brk (s6.1,s6.2)))) (x1,x0)) fun res4=>fin res4 fun (s126:Int×(BxR 98 96 Itm))=>bnd (if x1 < s126.1 then (some true) else (some false):Option Bool) fun y128=>some (y128,s126.2)
theorem FU (x0:BxR 98 96 Itm) (x1:Int) (x2:Int):Le (Ds x0 x1 x2) (Ct x0 x1 x2):=by
  unfold Ds Ct
  repeat' (first|apply Eu|apply Dr|apply Le.ite|apply Le.bnd|apply Le.fin|apply Le.rng|apply Le.rngN|apply Le.lop|exact Le.rf|intro _)
noncomputable def Dt (x0:BxR 98 96 Itm) (x1:An 96 Itm):Option (BxR 98 96 Itm) :=
  bnd (DD x0 (⟨x1.x⟩:An 96 Itm)) fun q9=>bnd (CM q9.l) fun q26=>bnd (chkI (q26 - 1)) fun n34=>bnd (DO q9 n34) fun q42=>some q42
theorem FV (x0:BxR 98 96 Itm) (x1:An 96 Itm):Le (Dt x0 x1) (Cu x0 x1):=by
  unfold Dt Cu
  repeat' (first|apply DC|apply Gk|apply GE|apply Le.ite|apply Le.bnd|apply Le.fin|apply Le.rng|apply Le.rngN|apply Le.lop|exact Le.rf|intro _)
noncomputable def DE (x0:BxR 98 96 Itm):Option ((An 96 Itm)×(BxR 98 96 Itm)) :=
  bnd (CM x0.l) fun q11=>bnd (chkI (q11 - 1)) fun n19=>bnd (CD x0.l 0 n19) fun q22=>bnd (Ds (⟨q22⟩:BxR 98 96 Itm) 0 n19) fun q35=>bnd (DN q35.2) fun q44=>some ((⟨q44.1.x⟩:An 96 Itm),q44.2)
theorem Gl (x0:BxR 98 96 Itm):Le (DE x0) (CA x0):=by
  unfold DE CA
  repeat' (first|apply DC|apply GD|apply Dr|apply FU|apply Le.ite|apply Le.bnd|apply Le.fin|apply Le.rng|apply Le.rngN|apply Le.lop|exact Le.rf|intro _)
noncomputable def GF (x0:List Int):Option ((Option Pkr)×Err) :=
  if 64 < (x0.length:Int) then (some (none,(⟨5⟩:Err))) else (bnd (rng (ρ:=(Option Pkr)×Err) (fun (k25:Nat) (a26:Int) (s23:Int×Pkr)=>bnd (if a26 < 1 then (some true) else (if 64 < a26 then (some true) else (some false)):Option Bool) fun y48=>if y48=true then (some (.ret (none,(⟨1⟩:Err)))) else (bnd (lopE (ρ:=Ctl (Int×Pkr) ((Option Pkr)×Err)) (fun (s61:Int)=>bnd (shlI 1 s61) fun n76=>if n76 < a26 then (bnd (chkI (s61 + 1)) fun n80=>some (.next n80)) else (some (.brk s61))) 0) fun res59=>fin res59 fun (s87:Int)=>bnd (bnd (chkI (s23.1 + s87)) fun n95=>if 64 < n95 then (bnd (chkI (s23.2.words + 1)) fun n109=>some (0,(⟨s23.2.fields,n109⟩:Pkr))) else (some (s23.1,s23.2)):Option (Int×Pkr)) fun y89=>bnd (chkI (y89.2.words - 1)) fun n133=>bnd (appI 32 y89.2.fields [(⟨n133,y89.1,s87,a26⟩:PFd)]) fun u142=>bnd (chkI (y89.1 + s87)) fun n155=>some (.next (n155,(⟨u142,y89.2.words⟩:Pkr))))) x0 0 (0,(⟨([]:List PFd),1⟩:Pkr))) fun res21=>fin res21 fun (s167:Int×Pkr)=>some ((some s167.2),(⟨0⟩:Err)))
theorem JL (x0:List Int):Le (GF x0) (Dz x0):=by
  unfold GF Dz
  repeat' (first|apply Le.ite|apply Le.bnd|apply Le.fin|apply Le.rng|apply Le.rngN|apply Le.lop|exact Le.rf|intro _)
noncomputable def Dn (x0:PFd):Option U64 :=
  bnd (shlU (1:U64) x0.width) fun n12=>bnd (shlU (n12 - (1:U64)) x0.bit) fun n14=>some n14
theorem Fa (x0:PFd):Le (Dn x0) (Ca x0):=by
  unfold Dn Ca
  repeat' (first|apply Le.ite|apply Le.bnd|apply Le.fin|apply Le.rng|apply Le.rngN|apply Le.lop|exact Le.rf|intro _)
noncomputable def El (x0:PFd) (x1:List U64):Option Int :=
  bnd (atI x1 x0.word) fun a15=>bnd (Dn x0) fun q26=>bnd (shrU (a15 &&& q26) x0.bit) fun n33=>some n33.toInt
theorem HB (x0:PFd) (x1:List U64):Le (El x0 x1) (Cr x0 x1):=by
  unfold El Cr
  repeat' (first|apply Fa|apply Le.ite|apply Le.bnd|apply Le.fin|apply Le.rng|apply Le.rngN|apply Le.lop|exact Le.rf|intro _)
noncomputable def DT (x0:Pkr) (x1:List Int):Option ((List U64)×Err) :=
  if (x1.length:Int)≠(x0.fields.length:Int) then (some (([]:List U64),(⟨2⟩:Err))) else (bnd (mkI 8 ((0:U64):U64) x0.words) fun u25=>bnd (rng (ρ:=(List U64)×Err) (fun (k50:Nat) (a51:PFd) (s48:(List U64))=>bnd (bnd (x1[k50]?) fun a87=>if a87 < 0 then (some true) else (bnd (x1[k50]?) fun a98=>if a51.size≤a98 then (some true) else (some false)):Option Bool) fun y83=>if y83=true then (some (.ret (([]:List U64),(⟨2⟩:Err)))) else (bnd (atI s48 a51.word) fun a114=>bnd (x1[k50]?) fun a125=>bnd (shlU (BitVec.ofInt 64 a125) a51.bit) fun n135=>bnd (atI s48 a51.word) fun a137=>some (.next (s48.set (a51.word:Int).toNat (a114 ||| n135))))) x0.fields 0 u25) fun res46=>fin res46 fun (s154:(List U64))=>some (s154,(⟨0⟩:Err)))
theorem GV (x0:Pkr) (x1:List Int):Le (DT x0 x1) (Bp x0 x1):=by
  unfold DT Bp
  repeat' (first|apply Le.ite|apply Le.bnd|apply Le.fin|apply Le.rng|apply Le.rngN|apply Le.lop|exact Le.rf|intro _)
noncomputable def DF (x0:Pkr) (x1:List U64):Option ((List Int)×Err) :=
  if (x1.length:Int)≠x0.words then (some (([]:List Int),(⟨2⟩:Err))) else (bnd (mkI 8 (0:Int) (x0.fields.length:Int)) fun u25=>bnd (Dm x1) fun q38=>bnd (rng (ρ:=(List Int)×Err) (fun (k60:Nat) (a61:PFd) (s58:(List Int)×(List U64))=>bnd (El a61 x1) fun q97=>bnd (s58.1[k60]?) fun a105=>bnd ((s58.1.set k60 q97)[k60]?) fun a117=>if a61.size≤a117 then (some (.ret (([]:List Int),(⟨2⟩:Err)))) else (bnd (atI s58.2 a61.word) fun a128=>bnd (Dn a61) fun q139=>bnd (atI s58.2 a61.word) fun a146=>some (.next ((s58.1.set k60 q97),(s58.2.set (a61.word:Int).toNat (a128 &&& ~~~q139)))))) x0.fields 0 (u25,q38)) fun res56=>fin res56 fun (s163:(List Int)×(List U64))=>bnd (rng (ρ:=(List Int)×Err) (fun (k171:Nat) (a172:U64) (s169:Unit)=>bnd (s163.2[k171]?) fun a182=>if (a182.toNat:Int)≠((0:U64).toNat:Int) then (some (.ret (([]:List Int),(⟨2⟩:Err)))) else (some (.next ()))) q38 0 ()) fun res167=>fin res167 fun (s196:Unit)=>some (s163.1,(⟨0⟩:Err)))
theorem Gm (x0:Pkr) (x1:List U64):Le (DF x0 x1) (BV x0 x1):=by
  unfold DF BV
  repeat' (first|apply HB|apply Fa|apply EG|apply Le.ite|apply Le.bnd|apply Le.fin|apply Le.rng|apply Le.rngN|apply Le.lop|exact Le.rf|intro _)
noncomputable def DU (x0:Pkr) (x1:List U64):Option Int :=
  bnd (rng (ρ:=Int) (fun (k13:Nat) (a14:U64) (s11:U64)=>bnd (shrU ((s11 ^^^ a14) * (13787848793156543929:U64)) 29) fun n31=>some (.next (((s11 ^^^ a14) * (13787848793156543929:U64)) ^^^ n31))) x1 0 ((BitVec.ofInt 64 (x1.length:Int)) + (11400714819323198485:U64))) fun res9=>fin res9 fun (s37:U64)=>bnd (shrU s37 2) fun n39=>some n39.toInt
theorem GW (x0:Pkr) (x1:List U64):Le (DU x0 x1) (Bw x0 x1):=by
  unfold DU Bw
  repeat' (first|apply Le.ite|apply Le.bnd|apply Le.fin|apply Le.rng|apply Le.rngN|apply Le.lop|exact Le.rf|intro _)
noncomputable def CF (x0:List U64) (x1:List U64):Option Bool :=
  if (x0.length:Int)≠(x1.length:Int) then (some false) else (bnd (rng (ρ:=Bool) (fun (k18:Nat) (a19:U64) (s16:Unit)=>bnd (x1[k18]?) fun a36=>if (a19.toNat:Int)≠(a36.toNat:Int) then (some (.ret false)) else (some (.next ()))) x0 0 ()) fun res14=>fin res14 fun (s50:Unit)=>some true)
theorem EH (x0:List U64) (x1:List U64):Le (CF x0 x1) (Bk x0 x1):=by
  unfold CF Bk
  repeat' (first|apply Le.ite|apply Le.bnd|apply Le.fin|apply Le.rng|apply Le.rngN|apply Le.lop|exact Le.rf|intro _)
noncomputable def EO (x0:List Int):Option ((Option Reg)×Err) :=
  bnd (GF x0) fun q4=>if q4.2.n≠0 then (some (none,(⟨q4.2.n⟩:Err))) else (bnd q4.1 fun o22=>some ((some (⟨o22,([]:List REn),(⟨[]⟩:MapR 3 Int Int)⟩:Reg)),(⟨0⟩:Err)))
theorem In (x0:List Int):Le (EO x0) (CO x0):=by
  unfold EO CO
  repeat' (first|apply JL|apply Le.ite|apply Le.bnd|apply Le.fin|apply Le.rng|apply Le.rngN|apply Le.lop|exact Le.rf|intro _)
noncomputable def De (x0:Reg) (x1:List Int):Option ((List U64)×Int×Int×Err) :=
  bnd (DT x0.packer x1) fun q20=>if q20.2.n≠0 then (some (([]:List U64),0,(-1),(⟨2⟩:Err))) else (bnd (DU x0.packer q20.1) fun q41=>bnd (rng (ρ:=(List U64)×Int×Int×Err) (fun (k66:Nat) (a67:Int) (s64:Unit)=>bnd (atI x0.entries a67) fun a100=>bnd (CF a100.words q20.1) fun q118=>if q118=true then some (.ret (q20.1,q41,a67,(⟨0⟩:Err))) else some (.next ())) (mget ([]:List Int) x0.table.l q41) 0 ()) fun res62=>fin res62 fun (s139:Unit)=>some (q20.1,q41,(-1),(⟨0⟩:Err)))
theorem Fj (x0:Reg) (x1:List Int):Le (De x0 x1) (Bg x0 x1):=by
  unfold De Bg
  repeat' (first|apply GW|apply GV|apply EH|apply Le.ite|apply Le.bnd|apply Le.fin|apply Le.rng|apply Le.rngN|apply Le.lop|exact Le.rf|intro _)
noncomputable def BT (x0:Reg) (x1:List Int):Option (Int×Bool×Err×Reg) :=
  bnd (De x0 x1) fun q5=>if q5.2.2.2.n≠0 then (some (0,false,(⟨q5.2.2.2.n⟩:Err),x0)) else (if 0≤q5.2.2.1 then (some (q5.2.2.1,false,(⟨0⟩:Err),x0)) else (if 65536≤(x0.entries.length:Int) then (some (0,false,(⟨10⟩:Err),x0)) else (bnd (appI 48 x0.entries [(⟨q5.1,(⟨(-1),(-1),0⟩:RLk)⟩:REn)]) fun u53=>bnd (appI 8 (mget ([]:List Int) x0.table.l q5.2.1) ([(x0.entries.length:Int)]:List Int)) fun u82=>some ((x0.entries.length:Int),true,(⟨0⟩:Err),(⟨x0.packer,u53,(⟨mput x0.table.l q5.2.1 u82⟩:MapR 3 Int Int)⟩:Reg)))))
theorem CE (x0:Reg) (x1:List Int):Le (BT x0 x1) (AW x0 x1):=by
  unfold BT AW
  repeat' (first|apply Fj|apply Le.ite|apply Le.bnd|apply Le.fin|apply Le.rng|apply Le.rngN|apply Le.lop|exact Le.rf|intro _)
noncomputable def Bv (x0:Reg):Option Int :=
  some (x0.entries.length:Int)
theorem DV (x0:Reg):Le (Bv x0) (AO x0):=by
  unfold Bv AO
  repeat' (first|apply Le.ite|apply Le.bnd|apply Le.fin|apply Le.rng|apply Le.rngN|apply Le.lop|exact Le.rf|intro _)
noncomputable def BU (x0:Reg) (x1:Int):Option Bool :=
  bnd (if 0≤x1 then (if x1 < (x0.entries.length:Int) then (some true) else (some false)) else (some false):Option Bool) fun y3=>some y3
theorem Df (x0:Reg) (x1:Int):Le (BU x0 x1) (AX x0 x1):=by
  unfold BU AX
  repeat' (first|apply Le.ite|apply Le.bnd|apply Le.fin|apply Le.rng|apply Le.rngN|apply Le.lop|exact Le.rf|intro _)
noncomputable def Cd (x0:Reg) (x1:Int):Option ((List Int)×Err) :=
  bnd (BU x0 x1) fun q3=>if q3=true then bnd (atI x0.entries x1) fun a27=>bnd (DF x0.packer a27.words) fun q45=>some (q45.1,(⟨q45.2.n⟩:Err)) else some (([]:List Int),(⟨1⟩:Err))
theorem CT (x0:Reg) (x1:Int):Le (Cd x0 x1) (Bb x0 x1):=by
  unfold Cd Bb
  repeat' (first|apply Gm|apply Df|apply Le.ite|apply Le.bnd|apply Le.fin|apply Le.rng|apply Le.rngN|apply Le.lop|exact Le.rf|intro _)
noncomputable def Cp (x0:Reg) (x1:Int) (x2:Int) (x3:Int) (x4:Int):Option (Err×Reg) :=
  bnd (bnd (BU x0 x1) fun q10=>if q10=true then if x2≠(-1) then (bnd (BU x0 x2) fun q20=>if q20=true then some false else some true) else (some false) else some true:Option Bool) fun y6=>if y6=true then (some ((⟨1⟩:Err),x0)) else (bnd (atI x0.entries x1) fun a49=>some ((⟨0⟩:Err),(⟨x0.packer,(x0.entries.set (x1:Int).toNat ({ a49 with link:=(⟨x2,x3,x4⟩:RLk) }:REn)),x0.table⟩:Reg)))
theorem Du (x0:Reg) (x1:Int) (x2:Int) (x3:Int) (x4:Int):Le (Cp x0 x1 x2 x3 x4) (Bc x0 x1 x2 x3 x4):=by
  unfold Cp Bc
  repeat' (first|apply Df|apply Le.ite|apply Le.bnd|apply Le.fin|apply Le.rng|apply Le.rngN|apply Le.lop|exact Le.rf|intro _)
noncomputable def CW (x0:List Int):Option (List Int) :=
  bnd (chkI ((x0.length:Int) - 1)) fun n4=>bnd (lopE (ρ:=(List Int)) (fun (s9:(List Int)×Int×Int)=>if s9.2.1 < s9.2.2 then (bnd (atI s9.1 s9.2.2) fun a31=>bnd (atI s9.1 s9.2.1) fun a43=>bnd (atI s9.1 s9.2.1) fun a55=>bnd (atI (s9.1.set (s9.2.1:Int).toNat a31) s9.2.2) fun a69=>bnd (chkI (s9.2.1 + 1)) fun n83=>bnd (chkI (s9.2.2 - 1)) fun n86=>some (.next (((s9.1.set (s9.2.1:Int).toNat a31).set (s9.2.2:Int).toNat a43),n83,n86))) else (some (.brk (s9.1,s9.2.1,s9.2.2)))) (x0,0,n4)) fun res7=>fin res7 fun (s93:(List Int)×Int×Int)=>some s93.1
theorem Fd (x0:List Int):Le (CW x0) (Bl x0):=by
  unfold CW Bl
  repeat' (first|apply Le.ite|apply Le.bnd|apply Le.fin|apply Le.rng|apply Le.rngN|apply Le.lop|exact Le.rf|intro _)
noncomputable def Dg (x0:Reg) (x1:Int):Option ((List Int)×Err) :=
  bnd (BU x0 x1) fun q3=>if q3=true then bnd (lopE (ρ:=(List Int)×Err) (fun (s14:Int×(List Int))=>bnd (atI x0.entries s14.1) fun a48=>if a48.link.parent < 0 then (bnd (CW s14.2) fun q74=>some (.ret (q74,(⟨0⟩:Err)))) else (bnd (appI 8 s14.2 [a48.link.op]) fun u89=>if (x0.entries.length:Int) < (u89.length:Int) then (some (.ret (([]:List Int),(⟨21⟩:Err)))) else (some (.next (a48.link.parent,u89))))) (x1,([]:List Int))) fun res12=>fin res12 fun (_:Int×(List Int))=>none else some (([]:List Int),(⟨1⟩:Err))
theorem Fk (x0:Reg) (x1:Int):Le (Dg x0 x1) (Bx x0 x1):=by
  unfold Dg Bx
  repeat' (first|apply Df|apply Fd|apply Le.ite|apply Le.bnd|apply Le.fin|apply Le.rng|apply Le.rngN|apply Le.lop|exact Le.rf|intro _)
noncomputable def BC (x0:Option Gnr) (x1:List Int):Option (List Suc) :=
  bnd (CB x0 x1) fun q7=>bnd (rng (ρ:=(List Suc)) (fun (k23:Nat) (a24:Int) (s21:(List Suc))=>bnd (Ea x1) fun q46=>bnd (x0) fun o56=>bnd (atI o56.t.ops a24) fun a88=>bnd (rng (ρ:=Ctl (List Suc) (List Suc)) (fun (k115:Nat) (a116:Eff) (s113:(List Int))=>bnd (EE a116.cond x1) fun q150=>if q150=true then bnd (atI s113 a116.var) fun a157=>some (.next (s113.set (a116.var:Int).toNat a116.val)) else some (.next s113)) a88.effs 0 q46) fun res111=>fin res111 fun (s175:(List Int))=>bnd (appI 32 s21 [(⟨a24,s175⟩:Suc)]) fun u179=>some (.next u179)) q7 0 ([]:List Suc)) fun res19=>fin res19 fun (s195:(List Suc))=>some s195
theorem Cv (x0:Option Gnr) (x1:List Int):Le (BC x0 x1) (AT x0 x1):=by
  unfold BC AT
  repeat' (first|apply FA|apply Ew|apply Fc|apply Le.ite|apply Le.bnd|apply Le.fin|apply Le.rng|apply Le.rngN|apply Le.lop|exact Le.rf|intro _)
noncomputable def Di (x0:Tsk):Option ((Option Spc)×Err) :=
  bnd (GQ x0) fun q24=>if q24.2.n≠0 then (some (none,(⟨q24.2.n⟩:Err))) else (bnd (EO x0.vars) fun q39=>if q39.2.n≠0 then (some (none,(⟨q39.2.n⟩:Err))) else (bnd q39.1 fun o52=>bnd (BT o52 x0.init) fun q55=>if q55.2.2.1.n≠0 then (some (none,(⟨q55.2.2.1.n⟩:Err))) else (some ((some (⟨(⟨x0.vars,x0.init,x0.goal,x0.ops⟩:Tsk),q55.2.2.2,q24.1⟩:Spc)),(⟨0⟩:Err)))))
theorem Em (x0:Tsk):Le (Di x0) (BQ x0):=by
  unfold Di BQ
  repeat' (first|apply In|apply CE|apply Iz|apply Le.ite|apply Le.bnd|apply Le.fin|apply Le.rng|apply Le.rngN|apply Le.lop|exact Le.rf|intro _)
noncomputable def CQ (x0:Spc) (x1:Int) (x2:Int):Option (Rsl×Err) :=
  bnd (Dg x0.reg x1) fun q36=>if q36.2.n≠0 then (some ((⟨0,([]:List Int),0,0⟩:Rsl),(⟨q36.2.n⟩:Err))) else (bnd (rng (ρ:=Rsl×Err) (fun (k77:Nat) (a78:Int) (s75:Int)=>bnd (atI x0.t.ops a78) fun a125=>bnd (chkI (s75 + a125.cost)) fun n146=>some (.next n146)) q36.1 0 0) fun res73=>fin res73 fun (s160:Int)=>some ((⟨1,q36.1,s160,x2⟩:Rsl),(⟨0⟩:Err)))
theorem Eb (x0:Spc) (x1:Int) (x2:Int):Le (CQ x0 x1 x2) (Bn x0 x1 x2):=by
  unfold CQ Bn
  repeat' (first|apply Fk|apply Le.ite|apply Le.bnd|apply Le.fin|apply Le.rng|apply Le.rngN|apply Le.lop|exact Le.rf|intro _)
noncomputable def Ck (x0:Int) (x1:Int):Option (Rsl×Err) :=
  some ((⟨x0,([]:List Int),0,x1⟩:Rsl),(⟨0⟩:Err))
theorem Fg (x0:Int) (x1:Int):Le (Ck x0 x1) (Bf x0 x1):=by
  unfold Ck Bf
  repeat' (first|apply Le.ite|apply Le.bnd|apply Le.fin|apply Le.rng|apply Le.rngN|apply Le.lop|exact Le.rf|intro _)
noncomputable def En (x0:Tsk) (x1:Int):Option (Rsl×Err) :=
  bnd (Di x0) fun q30=>if q30.2.n≠0 then (some ((⟨0,([]:List Int),0,0⟩:Rsl),(⟨q30.2.n⟩:Err))) else (bnd q30.1 fun o45=>bnd (lopE (ρ:=Rsl×Err) (fun (s50:Int×Spc)=>bnd (Bv s50.2.reg) fun q94=>if s50.1 < q94 then (bnd (Cd s50.2.reg s50.1) fun q105=>if q105.2.n≠0 then (some (.ret ((⟨0,([]:List Int),0,0⟩:Rsl),(⟨q105.2.n⟩:Err)))) else (bnd (EE x0.goal q105.1) fun q123=>if q123=true then bnd (CQ s50.2 s50.1 s50.1) fun q312=>some (.ret (q312.1,(⟨q312.2.n⟩:Err))) else if x1≤s50.1 then (bnd (Ck 3 s50.1) fun q131=>some (.ret (q131.1,(⟨q131.2.n⟩:Err)))) else (bnd (BC s50.2.gen q105.1) fun q153=>bnd (rng (ρ:=Ctl (Int×Spc) (Rsl×Err)) (fun (k173:Nat) (a174:Suc) (s171:Spc)=>bnd (BT s171.reg a174.state) fun q232=>if q232.2.2.1.n≠0 then (bnd (chkI (s50.1 + 1)) fun n249=>bnd (Ck 3 n249) fun q252=>some (.ret (.ret (q252.1,(⟨q252.2.n⟩:Err))))) else (if q232.2.1=true then (bnd (Cp q232.2.2.2 q232.1 s50.1 a174.op 0) fun q275=>if q275.1.n≠0 then (some (.ret (.ret ((⟨0,([]:List Int),0,0⟩:Rsl),(⟨q275.1.n⟩:Err))))) else (some (.next (⟨(⟨s171.t.vars,s171.t.init,s171.t.goal,s171.t.ops⟩:Tsk),q275.2,s171.gen⟩:Spc)))) else (some (.next (⟨(⟨s171.t.vars,s171.t.init,s171.t.goal,s171.t.ops⟩:Tsk),q232.2.2.2,s171.gen⟩:Spc))))) q153 0 s50.2) fun res169=>fin res169 fun (s302:Spc)=>bnd (chkI (s50.1 + 1)) fun n304=>some (.next (n304,s302))))) else (some (.brk (s50.1,s50.2)))) (0,o45)) fun res48=>fin res48 fun (s344:Int×Spc)=>bnd (Bv s344.2.reg) fun q373=>bnd (Ck 2 q373) fun q383=>some (q383.1,(⟨q383.2.n⟩:Err)))
theorem HC (x0:Tsk) (x1:Int):Le (En x0 x1) (Cj x0 x1):=by
  unfold En Cj
  repeat' (first|apply Em|apply Fg|apply Eb|apply CE|apply DV|apply Du|apply CT|apply Cv|apply Fc|apply Le.ite|apply Le.bnd|apply Le.fin|apply Le.rng|apply Le.rngN|apply Le.lop|exact Le.rf|intro _)
noncomputable def Ed (x0:Tsk) (x1:Int):Option (Rsl×Err) :=
  bnd (Di x0) fun q30=>if q30.2.n≠0 then (some ((⟨0,([]:List Int),0,0⟩:Rsl),(⟨q30.2.n⟩:Err))) else (bnd q30.1 fun o68=>bnd (lopE (ρ:=Rsl×Err) (fun (s78:(List Int)×(List Bool)×Int×Int×Spc×(BxR 98 96 Itm))=>bnd (CM s78.2.2.2.2.2.l) fun q116=>if 0 < q116 then (bnd (DE s78.2.2.2.2.2) fun q130=>bnd (atI s78.2.1 q130.1.x.id) fun a152=>if a152=true then (some (.next (s78.1,s78.2.1,s78.2.2.1,s78.2.2.2.1,s78.2.2.2.2.1,q130.2))) else (bnd (Cd s78.2.2.2.2.1.reg q130.1.x.id) fun q191=>if q191.2.n≠0 then (some (.ret ((⟨0,([]:List Int),0,0⟩:Rsl),(⟨q191.2.n⟩:Err)))) else (bnd (EE x0.goal q191.1) fun q209=>if q209=true then bnd (CQ s78.2.2.2.2.1 q130.1.x.id s78.2.2.2.1) fun q581=>some (.ret (q581.1,(⟨q581.2.n⟩:Err))) else if x1≤s78.2.2.2.1 then (bnd (Ck 3 s78.2.2.2.1) fun q217=>some (.ret (q217.1,(⟨q217.2.n⟩:Err)))) else (bnd (atI s78.2.1 q130.1.x.id) fun a239=>bnd (chkI (s78.2.2.2.1 + 1)) fun n252=>bnd (BC s78.2.2.2.2.1.gen q191.1) fun q255=>bnd (rng (ρ:=Ctl ((List Int)×(List Bool)×Int×Int×Spc×(BxR 98 96 Itm)) (Rsl×Err)) (fun (k275:Nat) (a276:Suc) (s273:(List Int)×(List Bool)×Int×Spc×(BxR 98 96 Itm))=>bnd (BT s273.2.2.2.1.reg a276.state) fun q346=>if q346.2.2.1.n≠0 then (bnd (Ck 3 n252) fun q363=>some (.ret (.ret (q363.1,(⟨q363.2.n⟩:Err))))) else (bnd (atI x0.ops a276.op) fun a385=>bnd (chkI (q130.1.x.cost + a385.cost)) fun n406=>bnd (if q346.2.1=true then (bnd (appI 8 s273.1 [n406]) fun u418=>bnd (appI 1 s273.2.1 [false]) fun u430=>some (.done (u418,u430))) else (bnd (bnd (atI s273.2.1 q346.1) fun a451=>if a451=true then (some true) else (bnd (atI s273.1 q346.1) fun a468=>if a468≤n406 then (some true) else (some false)):Option Bool) fun y447=>if y447=true then (some (.ret (.next (s273.1,s273.2.1,s273.2.2.1,(⟨(⟨s273.2.2.2.1.t.vars,s273.2.2.2.1.t.init,s273.2.2.2.1.t.goal,s273.2.2.2.1.t.ops⟩:Tsk),q346.2.2.2,s273.2.2.2.1.gen⟩:Spc),s273.2.2.2.2)))) else (some (.done (s273.1,s273.2.1)))):Option (Fin ((List Int)×(List Bool)) (Ctl ((List Int)×(List Bool)×Int×Spc×(BxR 98 96 Itm)) (Ctl ((List Int)×(List Bool)×Int×Int×Spc×(BxR 98 96 Itm)) (Rsl×Err))))) fun y409=>fin y409 fun (s411:(List Int)×(List Bool))=>bnd (atI s411.1 q346.1) fun a500=>bnd (Cp ((⟨(⟨s273.2.2.2.1.t.vars,s273.2.2.2.1.t.init,s273.2.2.2.1.t.goal,s273.2.2.2.1.t.ops⟩:Tsk),q346.2.2.2,s273.2.2.2.1.gen⟩:Spc).reg) q346.1 q130.1.x.id a276.op n406) fun q541=>if q541.1.n≠0 then (some (.ret (.ret ((⟨0,([]:List Int),0,0⟩:Rsl),(⟨q541.1.n⟩:Err))))) else (bnd (Dt s273.2.2.2.2 (⟨(⟨n406,s273.2.2.1,q346.1⟩:Itm)⟩:An 96 Itm)) fun q554=>bnd (chkI (s273.2.2.1 + 1)) fun n562=>some (.next ((s411.1.set (q346.1:Int).toNat n406),s411.2,n562,(⟨(⟨(⟨(⟨s273.2.2.2.1.t.vars,s273.2.2.2.1.t.init,s273.2.2.2.1.t.goal,s273.2.2.2.1.t.ops⟩:Tsk),q346.2.2.2,s273.2.2.2.1.gen⟩:Spc).t.vars,(⟨(⟨s273.2.2.2.1.t.vars,s273.2.2.2.1.t.init,s273.2.2.2.1.t.goal,s273.2.2.2.1.t.ops⟩:Tsk),q346.2.2.2,s273.2.2.2.1.gen⟩:Spc).t.init,(⟨(⟨s273.2.2.2.1.t.vars,s273.2.2.2.1.t.init,s273.2.2.2.1.t.goal,s273.2.2.2.1.t.ops⟩:Tsk),q346.2.2.2,s273.2.2.2.1.gen⟩:Spc).t.goal,(⟨(⟨s273.2.2.2.1.t.vars,s273.2.2.2.1.t.init,s273.2.2.2.1.t.goal,s273.2.2.2.1.t.ops⟩:Tsk),q346.2.2.2,s273.2.2.2.1.gen⟩:Spc).t.ops⟩:Tsk),q541.2,(⟨(⟨s273.2.2.2.1.t.vars,s273.2.2.2.1.t.init,s273.2.2.2.1.t.goal,s273.2.2.2.1.t.ops⟩:Tsk),q346.2.2.2,s273.2.2.2.1.gen⟩:Spc).gen⟩:Spc),q554))))) q255 0 (s78.1,(s78.2.1.set (q130.1.x.id:Int).toNat true),s78.2.2.1,s78.2.2.2.2.1,q130.2)) fun res271=>fin res271 fun (s574:(List Int)×(List Bool)×Int×Spc×(BxR 98 96 Itm))=>some (.next (s574.1,s574.2.1,s574.2.2.1,n252,s574.2.2.2.1,s574.2.2.2.2)))))) else (some (.brk (s78.1,s78.2.1,s78.2.2.1,s78.2.2.2.1,s78.2.2.2.2.1,s78.2.2.2.2.2)))) (([0]:List Int),[false],1,0,o68,(⟨[(⟨0,0,0⟩:Itm)]⟩:BxR 98 96 Itm))) fun res76=>fin res76 fun (s613:(List Int)×(List Bool)×Int×Int×Spc×(BxR 98 96 Itm))=>bnd (Ck 2 s613.2.2.2.1) fun q615=>some (q615.1,(⟨q615.2.n⟩:Err)))
theorem Hu (x0:Tsk) (x1:Int):Le (Ed x0 x1) (CU x0 x1):=by
  unfold Ed CU
  repeat' (first|apply Em|apply Fg|apply DC|apply Eb|apply Gl|apply FV|apply CE|apply Du|apply CT|apply Cv|apply Fc|apply Le.ite|apply Le.bnd|apply Le.fin|apply Le.rng|apply Le.rngN|apply Le.lop|exact Le.rf|intro _)
noncomputable def DP (x0:Tsk) (x1:Int):Option (Int×Err) :=
  bnd (Di x0) fun q25=>if q25.2.n≠0 then (some (0,(⟨q25.2.n⟩:Err))) else (bnd q25.1 fun o38=>bnd (lopE (ρ:=Int×Err) (fun (s43:Int×Spc)=>bnd (Bv s43.2.reg) fun q87=>if s43.1 < q87 then (bnd (Bv s43.2.reg) fun q98=>if x1 < q98 then (some (.ret (0,(⟨10⟩:Err)))) else (bnd (Cd s43.2.reg s43.1) fun q109=>if q109.2.n≠0 then (some (.ret (0,(⟨q109.2.n⟩:Err)))) else (bnd (BC s43.2.gen q109.1) fun q125=>bnd (rng (ρ:=Ctl (Int×Spc) (Int×Err)) (fun (k145:Nat) (a146:Suc) (s143:Spc)=>bnd (BT s143.reg a146.state) fun q204=>if q204.2.2.1.n≠0 then (some (.ret (.ret (0,(⟨10⟩:Err))))) else (some (.next (⟨(⟨s143.t.vars,s143.t.init,s143.t.goal,s143.t.ops⟩:Tsk),q204.2.2.2,s143.gen⟩:Spc)))) q125 0 s43.2) fun res141=>fin res141 fun (s230:Spc)=>bnd (chkI (s43.1 + 1)) fun n232=>some (.next (n232,s230))))) else (some (.brk (s43.1,s43.2)))) (0,o38)) fun res41=>fin res41 fun (s244:Int×Spc)=>bnd (Bv s244.2.reg) fun q273=>if x1 < q273 then (some (0,(⟨10⟩:Err))) else (bnd (Bv s244.2.reg) fun q284=>some (q284,(⟨0⟩:Err))))
theorem GG (x0:Tsk) (x1:Int):Le (DP x0 x1) (CL x0 x1):=by
  unfold DP CL
  repeat' (first|apply Em|apply CE|apply DV|apply CT|apply Cv|apply Le.ite|apply Le.bnd|apply Le.fin|apply Le.rng|apply Le.rngN|apply Le.lop|exact Le.rf|intro _)
noncomputable def FB (x0:Tsk) (x1:List Int) (x2:Int):Option ((List Int)×Bool) :=
  bnd (if x2 < 0 then (some true) else (if (x0.ops.length:Int)≤x2 then (some true) else (bnd (atI x0.ops x2) fun a36=>bnd (EF a36.pre x1) fun q57=>if q57=true then some false else some true)):Option Bool) fun y28=>if y28=true then (some (([]:List Int),false)) else (bnd (appI 8 ([]:List Int) x1) fun u75=>bnd (atI x0.ops x2) fun a86=>bnd (rng (ρ:=(List Int)×Bool) (fun (k113:Nat) (a114:Eff) (s111:(List Int))=>bnd (EF a114.cond x1) fun q148=>if q148=true then bnd (atI s111 a114.var) fun a155=>some (.next (s111.set (a114.var:Int).toNat a114.val)) else some (.next s111)) a86.effs 0 u75) fun res109=>fin res109 fun (s173:(List Int))=>some (s173,true))
theorem IW (x0:Tsk) (x1:List Int) (x2:Int):Le (FB x0 x1 x2) (Ba x0 x1 x2):=by
  unfold FB Ba
  repeat' (first|apply GP|apply Le.ite|apply Le.bnd|apply Le.fin|apply Le.rng|apply Le.rngN|apply Le.lop|exact Le.rf|intro _)
noncomputable def FW (x0:Tsk) (x1:List Int) (x2:List Int):Option (Int×Bool) :=
  bnd (rng (ρ:=Int×Bool) (fun (k36:Nat) (a37:Int) (s34:(List Int)×Int)=>bnd (FB x0 s34.1 a37) fun q59=>if (!q59.2)=true then (some (.ret (0,false))) else (bnd (atI x0.ops a37) fun a73=>bnd (chkI (s34.2 + a73.cost)) fun n94=>some (.next (q59.1,n94)))) x2 0 (x1,0)) fun res32=>fin res32 fun (s101:(List Int)×Int)=>bnd (bnd (EF x0.goal s101.1) fun q107=>if q107=true then some true else some false:Option Bool) fun y103=>some (s101.2,y103)
theorem Jy (x0:Tsk) (x1:List Int) (x2:List Int):Le (FW x0 x1 x2) (CZ x0 x1 x2):=by
  unfold FW CZ
  repeat' (first|apply IW|apply GP|apply Le.ite|apply Le.bnd|apply Le.fin|apply Le.rng|apply Le.rngN|apply Le.lop|exact Le.rf|intro _)
noncomputable def Fe (x0:Tsk) (x1:Rsl) (x2:Int):Option Bool :=
  if 1125899906842624≤x2 then (bnd (if x1.verdict=2 then (if (x1.plan.length:Int)=0 then (if x1.cost=0 then (some true) else (some false)) else (some false)) else (some false):Option Bool) fun y40=>some y40) else (bnd (FW x0 x0.init x1.plan) fun q53=>bnd (if x1.verdict=1 then (if q53.2=true then (if q53.1=x2 then (if x1.cost=x2 then (some true) else (some false)) else (some false)) else (some false)) else (some false):Option Bool) fun y65=>some y65)
theorem IA (x0:Tsk) (x1:Rsl) (x2:Int):Le (Fe x0 x1 x2) (DH x0 x1 x2):=by
  unfold Fe DH
  repeat' (first|apply Jy|apply Le.ite|apply Le.bnd|apply Le.fin|apply Le.rng|apply Le.rngN|apply Le.lop|exact Le.rf|intro _)
noncomputable def Dj:Option Tsk:=Co
theorem HU:Le Dj Co:=Le.rf
noncomputable def GR  : Option Bool :=
  bnd (Dj) fun q1=>bnd (En q1 100) fun q25=>bnd (Dj) fun q52=>bnd (Ed q52 100) fun q76=>bnd (Dj) fun q103=>bnd (DP q103 100) fun q127=>bnd (if q25.2.n=0 then (if q76.2.n=0 then (if q127.2.n=0 then (bnd (FT q25.1.plan ([3]:List Int)) fun q153=>if q153=true then if q25.1.cost=5 then (if q25.1.expanded=2 then (bnd (Dj) fun q162=>bnd (Fe q162 q76.1 3) fun q186=>if q186=true then if q127.1=4 then (some true) else (some false) else some false) else (some false)) else (some false) else some false) else (some false)) else (some false)) else (some false):Option Bool) fun y140=>some y140
theorem IB  : Le (GR ) (CS ):=by
  unfold GR CS
  repeat' (first|apply Jx|apply IA|apply GG|apply HC|apply Hu|apply HU|apply Le.ite|apply Le.bnd|apply Le.fin|apply Le.rng|apply Le.rngN|apply Le.lop|exact Le.rf|intro _)
set_option maxRecDepth 100000 in
theorem awake48:CS=some true:=IB true (by kernel_rfl)
end
section
open Go Go.RowKit
theorem Kg {p q:List Int} (h:sle p q):p.length≤q.length:=by
  rcases h with rfl|h|⟨h,_⟩
  · exact Nat.le_refl _
  · omega
  · omega
theorem Mj {n:Nat} (hn:n≤1000000):(bnd (mkI 8 (0:Int) (n:Int)) fun u92=>bnd (rngN (ρ:=Bool) (fun (k111:Nat) (s109:(List Int))=>bnd (s109[k111]?) fun _=>some (.next (s109.set k111 1))) u92.length u92) fun res107=>some res107)=some (.done (List.replicate n (1:Int))):=by
  rw [Ic (by omega) (by omega),AC,List.length_replicate]
  rw [Hf (fun k=>List.replicate k (1:Int) ++ List.replicate (n - k) 0) (by simp) (fun k hk=>?_),AC]
  · simp
  · have e:(List.replicate k (1:Int) ++ List.replicate (n - k) 0)[k]?=some 0:=by
      rw [List.getElem?_append_right (by simp),List.getElem?_replicate,if_pos (by simp;omega)]
    rw [e,AC]
    congr 2
    apply List.ext_getElem?
    intro j
    rcases Nat.lt_trichotomy j k with h|h|h
    · rw [List.getElem?_set_ne (by omega),List.getElem?_append_left (by simp;omega),List.getElem?_append_left (by simp;omega)]
      rw [List.getElem?_replicate,List.getElem?_replicate,if_pos (by omega),if_pos (by omega)]
    · subst h
      rw [List.getElem?_set_self (by simp;omega),List.getElem?_append_left (by simp)]
      simp
    · rw [List.getElem?_set_ne (by omega),List.getElem?_append_right (by simp;omega),List.getElem?_append_right (by simp;omega)]
      simp only [List.length_replicate,List.getElem?_replicate]
      by_cases hj:j < n
      · rw [if_pos (by omega),if_pos (by omega)]
      · rw [if_neg (by omega),if_neg (by omega)]
theorem Jz (t:Tsk):CI t=some true:=by
  unfold CI Fv
  rw [AC,awake48,AC,if_t]
  by_cases hs:SmallOk t
  case neg=>rw [bof_f hs,if_f,AC,if_t,AC,if_t,AC]
  have hok:=hs.ok
  rw [bof_t hs,if_t,AC,if_f]
  obtain ⟨r,r1,r2⟩:=Ku hs 1000
  have hres:=Mi hs r2 (Iy t) (fun j s hj=>by omega)
  obtain ⟨d,d1,d2⟩:=LV (Kx hs)
  obtain ⟨i0,i1,i2⟩:=Ge hs hok.2.2.2.1
  have hst:statesL (unit t).vars=statesL t.vars:=rfl
  obtain ⟨l0,l1,l2,l3,l4,_⟩:=d2.1.2 i0 t.init (by rw [hst];exact i2)
  have hone:=Mj (n:=t.ops.length) (by have:=hok.2.1;omega)
  rw [r1,AC,if_neg (by simp)]
  obtain ⟨u,u1,hone⟩:=bs hone
  obtain ⟨w,w1,w2⟩:=bs hone
  obtain rfl:=sm w2
  rw [u1,AC,w1,AC,fin_d,Lg,d1,AC,i1,AC,Cf,l1,AC]
  have hup:∀ p s C,PlanR t t.init p s C→holdsB t.goal s=true→l0≤(p.length:Int):=fun p s C hp hg=>d2.2 i0 t.init l0 _ (by rw [hst];exact i2) l1 (IT hp hg)
  rcases hres with ⟨v1,v2,v3,v4⟩|⟨v1,v2,⟨g,v3,v4⟩,v5⟩|⟨_,_,_,v4⟩
  · have hInf:1125899906842624≤l0:=by
      rcases Int.lt_or_le l0 Inf with h|h
      · obtain ⟨p,s',C',h1,h2,_⟩:=Hr (l4 h)
        have:=v4 p s' C' h1
        rw [h2] at this;cases this
      · exact h
    rw [if_pos hInf,if_pos v1,if_pos (by rw [v2];rfl),if_pos v3,AC]
  · have hl := hup _ _ _ v3 v4
    have hlt:l0 < Inf:=by unfold Inf;omega
    obtain ⟨p',s',C',h1,h2,h3⟩:=Hr (l4 hlt)
    have hge:=Kg (v5 p' s' C' h1 h2)
    have hleft:(r.plan.length:Int)=l0:=by omega
    rw [if_neg (by unfold Inf at hlt;omega),LT hok hok.2.2.2.1 v3 (by omega),AC,v4]
    dsimp only
    rw [if_neg (by omega),if_neg (by simp),if_neg (by simp),if_neg (by omega),AC,if_f]
    have loop : ∃ b,(bnd (rng (ρ:=Bool) (fun (_:Nat) (a227:Int) (s224:(List Int))=>bnd (Ba t s224 a227) fun q247=>bnd (natI a227) fun N273=>bnd (rngN (ρ:=Ctl (List Int) Bool) (fun (k264:Nat) (_:Unit)=>bnd (Ba t s224 (k264:Int)) fun q275=>bnd (if q275.2=true then (bnd (BH t.vars q275.1) fun q293=>bnd (atI d q293) fun a301=>bnd (BH t.vars s224) fun q313=>bnd (atI d q313) fun a321=>if a301 < a321 then (some true) else (some false)) else (some false):Option Bool) fun y288=>if y288=true then (some (.ret (.ret false))) else (some (.next ()))) N273 ()) fun res260=>fin res260 fun (_:Unit)=>some (.next q247.1)) r.plan 0 t.init) fun res222=>fin res222 fun (_:(List Int))=>some true)=some b∧b=true:=by
      refine Gf (fun j s=>∃ C1 C2,PlanR t t.init (r.plan.take j) s C1∧PlanR t s (r.plan.drop j) g C2) (fun _=>False) ⟨0,r.cost,.nil,v3⟩ (fun j op s hj hI=>?_) (fun s _=>⟨_,rfl,rfl⟩) (fun q hq=>hq.elim)
      obtain ⟨C1,C2,a1,a2⟩:=hI
      have hjl:=AJ hj
      have hdrop:r.plan.drop j=op :: r.plan.drop (j + 1):=by
        rw [List.drop_eq_getElem_cons hjl]
        rw [List.getElem?_eq_getElem hjl] at hj
        rw [Option.some.inj hj]
      rw [hdrop] at a2
      have hso:StateOk t.vars s:=(a1.rch .init).ok hok
      cases a2 with
      | @cons _ _ _ k o C' ho hp hr =>
        obtain ⟨m,m1,m2⟩:=Ge hs hso
        obtain ⟨c,c1,c2,c3,_,_⟩:=d2.1.2 m s (by rw [hst];exact m2)
        have hcb:c≤((r.plan.drop j).length:Int):=d2.2 m s c _ (by rw [hst];exact m2) c1 (IT (by rw [hdrop];exact .cons ho hp hr) v4)
        have hinner : rngN (ρ:=Ctl (List Int) Bool) (fun (k264:Nat) (_:Unit)=>bnd (Ba t s (k264:Int)) fun q275=>bnd (if q275.2=true then (bnd (BH t.vars q275.1) fun q293=>bnd (atI d q293) fun a301=>bnd (BH t.vars s) fun q313=>bnd (atI d q313) fun a321=>if a301 < a321 then (some true) else (some false)) else (some false):Option Bool) fun y288=>if y288=true then (some (.ret (.ret false))) else (some (.next ()))) k ()=some (.done ()):=by
          refine Hf (fun _=>()) rfl fun q hq=>?_
          obtain ⟨o',ho'⟩:=AH (l:=t.ops) (k:=q) (by have:=AJ ho;omega)
          rw [FM hok hso ho',AC]
          by_cases hp':holdsB o'.pre s=true
          · rw [if_pos hp']
            have hso':StateOk t.vars (succ o' s):=Fm hok hso ho'
            obtain ⟨n,n1,n2⟩:=Ge hs hso'
            obtain ⟨e,e1,e2,e3,e4,_⟩:=d2.1.2 n (succ o' s) (by rw [hst];exact n2)
            dsimp only
            rw [if_t,n1,AC,Cf,e1,AC,m1,AC,Cf,c1,AC]
            have hno:¬ e < c:=fun hlt'=>by
              have hel:e < Inf:=by
                have:((r.plan.drop j).length:Int)≤512:=by simp;omega
                unfold Inf;omega
              obtain ⟨w,s'',C'',w1,w2,w3⟩:=Hr (e4 hel)
              have hplan:=a1.app (.cons ho' hp' w1)
              have hsl:=v5 _ _ _ hplan w2
              have htk:r.plan=r.plan.take j ++ ((k:Int) :: r.plan.drop (j + 1)):=by rw [← hdrop,List.take_append_drop]
              have hlen:=Kg hsl
              simp only [List.length_append,List.length_cons,List.length_take,List.length_drop] at hlen hcb
              have hlt2:slt (r.plan.take j ++ ((q:Int) :: w)) r.plan:=by
                rcases Nat.lt_or_ge (r.plan.take j ++ ((q:Int) :: w)).length r.plan.length with h|h
                · exact .inl h
                · refine .inr ⟨?_,?_⟩
                  · simp only [List.length_append,List.length_cons,List.length_take] at h ⊢;omega
                  · have h3:=HS (r.plan.take j) (u:=(q:Int) :: w) (v:=(k:Int) :: r.plan.drop (j + 1)) (.inl (by omega))
                    rw [← htk] at h3
                    exact h3
              rcases hsl with he|hsl
              · rw [← he] at hlt2;exact JY hlt2
              · exact JY (IQ hsl hlt2)
            rw [if_neg hno,AC,if_f]
          · rw [if_neg hp']
            dsimp only
            rw [if_f,AC,if_f]
        refine .inl ⟨succ o s,?_,C1 + o.cost,C',?_,hr⟩
        · rw [FM hok hso ho,if_pos hp,AC,JP,AC,hinner,AC,fin_d]
        · rw [List.take_add_one,hj]
          exact a1.snoc ho hp
    obtain ⟨b,b1,rfl⟩:=loop
    exact b1
  · omega
end
section
open Go Go.RowKit Go.ChangeShapes Go.WideShapes Go.Deep
theorem lawBShortest {w:World} {v0:Value} {a0:Tsk} (h0:V w v0 a0):Fn Try.prog 4 [v0] w fun v w'=>v=.bool true∧Ext w w':=by
  exact (FD (fun _ h=>h) h0 (Jz a0)).mono fun _ _ h=>⟨h.2.bool,h.1⟩
set_option maxRecDepth 100000 in
theorem FX (os:Os) (started:os.Started) (H:Type) (enc:TypeId×Value→H) :
    ReturnsInHanded {} Try.checked os 4 .any (Rows.breadthShortestSpec.pre6 enc Try.prog Try.f4 Rows.breadthShortestRow.domain false) (Rows.breadthShortestSpec.post enc Try.prog Try.f4 false true false false):=by
  refine returnsInHanded_of_change (C:=Try.checked) ownTry started (by kernel_rfl) Try.func4 (ChangeSpec.witness6 (enc:=enc) (C:=Try.checked) false ⟨#[],#[(.agg #[.slice none 0 0,.slice none 0 0,.slice none 0 0,.slice none 0 0])],[]⟩ 8 (by kernel_rfl) (by kernel_rfl) (by kernel_rfl) (by kernel_rfl)) ?_
  intro W base args ds gs before hval hW _ _
  have hopen:∀ p,DataW.TrodAll enc Try.prog W 0 (fun _=>true) true Try.f4.params.toList args.toList ds p→∃ v0 d0,args=#[v0]∧ds=[d0]∧(∃ a:Tsk,V W v0 a):=by
    intro p hA
    rw [Try.params4] at hA
    replace hval:∀ (j:Nat) t v,(#[26]:Array TypeId)[j]?=some t→args[j]?=some v→Value.okWide Try.prog W .any base t v:=by rw [← Try.params4];exact hval
    obtain ⟨v0,vs0,d0,ds0,p0,q0,g0,e0,_,h0,r0⟩:=trodAll_cons hA
    obtain ⟨g,e,_⟩:=trodAll_nil r0
    rw [g] at g0;rw [e] at e0
    obtain rfl:args=#[v0]:=by cases args;simp_all
    exact ⟨v0,d0,rfl,e0,(by first|exact openAgg rfl (hval 0 26 v0 rfl rfl) h0|exact openOne rfl (hval 0 26 v0 rfl rfl) h0)⟩
  refine lawPost rfl (by kernel_rfl) (by rw [Try.params4];exact of_decide_eq_true (by kernel_rfl)) hW ?_ ?_
  · intro p hA
    obtain ⟨v0,d0,_,rfl,_⟩:=hopen p hA
    rfl
  · intro p hA
    obtain ⟨v0,d0,rfl,_,⟨a0,h0⟩⟩:=hopen p hA
    exact lawBShortest h0
theorem breadthShortest_holds:Rows.BreadthShortestSaid :=
  OpenClaim.holds_of_wide 4 Try.f4 rfl rfl rfl rfl rfl rfl rfl ⟨rfl,rfl,rfl,rfl,rfl⟩ rfl rfl rfl rfl rfl (by kernel_rfl) Try.func4 (by kernel_rfl)
    (of_decide_eq_true (by kernel_rfl)) (by unfold Func.isWrapper;first|(rw [if_pos (by decide +kernel)];kernel_rfl)|(rw [if_neg (by decide +kernel)];exact ⟨rfl,rfl⟩))
    (fun os started H enc _=>FX os started H enc)
#print axioms breadthShortest_holds
end
end Go.Proofs.Ythomfnkaicjmbaa

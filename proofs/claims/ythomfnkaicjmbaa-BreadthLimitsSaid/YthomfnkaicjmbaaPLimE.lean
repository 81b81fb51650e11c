/- Own text: what the proof of breadthLimits_holds uses, part 5: rules, models and their proofs, plain laws. -/
import Derived.Test.YthomfnkaicjmbaaPLimD
set_option linter.unusedVariables false
set_option linter.unusedSimpArgs false
namespace Go.Proofs.Ythomfnkaicjmbaa
open Go Go.RowKit
section
open Go Go.RowKit
attribute [local irreducible] ewp owp hwp hwq hws Ev Evg Fn retPost loud loudS Res1
attribute [local irreducible] hwx loudX
structure Spc where
  t:Tsk
  reg:Reg
  gen:Option Gnr
instance:Ow Spc where
  R w F M v x:=∃ (g:Nat) (L:Lab) (c0 c1 c2 c3 c4 c5:Value),v=.pointer (some ⟨g,0,none⟩)∧Blk w g 74 [c0,c1,c2,c3,c4,c5]∧M g∧L g=0∧Vb w F c0 x.t.vars∧Vb w F c1 x.t.init∧Vb w F c2 x.t.goal∧Vb w F c3 x.t.ops∧Ow.R w F (fun k=>M k∧L k=1) c4 x.reg∧Vb w F c5 x.gen
  agree:=by rintro w w' F M v x ⟨g,L,c0,c1,c2,c3,c4,c5,rfl,hb,hM,hL,h0,h1,h2,h3,h4,h5⟩ a1 a2;exact ⟨g,L,c0,c1,c2,c3,c4,c5,rfl,hb.keep (a2 g hM),hM,hL,h0.agree a1,h1.agree a1,h2.agree a1,h3.agree a1,Ow.agree h4 a1 fun k hk=>a2 k hk.1,h5.agree a1⟩
  mono:=by rintro w F M F' M' v x ⟨g,L,c0,c1,c2,c3,c4,c5,rfl,hb,hM,hL,h0,h1,h2,h3,h4,h5⟩ a1 a2 a3;exact ⟨g,L,c0,c1,c2,c3,c4,c5,rfl,hb,a2 g hM,hL,h0.mono a1,h1.mono a1,h2.mono a1,h3.mono a1,Ow.mono h4 a1 (fun k hk=>⟨a2 k hk.1,hk.2⟩) fun k hf hm=>a3 k hf hm.1,h5.mono a1⟩
instance:OwP Spc:=⟨by rintro w F M v x ⟨g,L,c0,c1,c2,c3,c4,c5,rfl,_⟩;exact ⟨g,rfl⟩⟩
theorem Spc.opn {i:Nat} {w:World} {O:Lab} {p:Nat} {x:Spc} (h:Ob i w O (.pointer (some ⟨p,0,none⟩)) x) (l0 l1:Nat) (hl:l0≠0∧l1≠0):∃ (O':Lab) (c0 c1 c2 c3 c4 c5:Value),St (eT i) w O w O'∧(∀ k,Fr i w O k→∃ q,q∈[l0,l1]∧Fr q w O' k)∧Lc l0 w O' p 74 [c0,c1,c2,c3,c4,c5]∧Vb w (Fr 0 w O') c0 x.t.vars∧Vb w (Fr 0 w O') c1 x.t.init∧Vb w (Fr 0 w O') c2 x.t.goal∧Vb w (Fr 0 w O') c3 x.t.ops∧Ob l1 w O' c4 x.reg∧Vb w (Fr 0 w O') c5 x.gen:=by
  obtain ⟨⟨g,L,c0,c1,c2,c3,c4,c5,hv,hb,hM,hL,h0,h1,h2,h3,h4,h5⟩,hi⟩:=h
  obtain rfl:p=g:=by injection hv with hv;injection hv with hv;injection hv
  exact ⟨part O i L [l0,l1],c0,c1,c2,c3,c4,c5,HF hi,Gx (by simp),⟨hb,(DM (j:=0) rfl p ⟨hM,hL⟩).2⟩,h0.mono (Da hi),h1.mono (Da hi),h2.mono (Da hi),h3.mono (Da hi),⟨Ow.mono h4 (Da hi) (DM (j:=1) rfl) (frNe0 hl.2),hl.2⟩,h5.mono (Da hi)⟩
theorem Spc.shut {w:World} {O:Lab} {p:Nat} {x:Spc} {l0 l1:Nat} {c0 c1 c2 c3 c4 c5:Value} (hd:¬ 0∈[l0,l1]∧[l0,l1].idxOf l0=0∧[l0,l1].idxOf l1=1) (hb:Lc l0 w O p 74 [c0,c1,c2,c3,c4,c5]) (h0:Vb w (Fr 0 w O) c0 x.t.vars) (h1:Vb w (Fr 0 w O) c1 x.t.init) (h2:Vb w (Fr 0 w O) c2 x.t.goal) (h3:Vb w (Fr 0 w O) c3 x.t.ops) (h4:Ob l1 w O c4 x.reg) (h5:Vb w (Fr 0 w O) c5 x.gen):∃ O',St (·∈[l0,l1]) w O w O'∧(∀ k,Fr 0 w O k→Fr 0 w O' k)∧(∀ q,q∈[l0,l1]→∀ k,Fr q w O k→Fr l0 w O' k)∧Ob l0 w O' (.pointer (some ⟨p,0,none⟩)) x:=by
  have hb1:l0≠0:=fun e=>hd.1 (by simp [e])
  have hg:=Dm (i:=l0) hd.2.1 (by simp) p ⟨hb.1.lt,hb.2⟩
  exact ⟨whole O l0 [l0,l1],Gy,Ck hd.1,FN,⟨p,fun k=>[l0,l1].idxOf (O k),c0,c1,c2,c3,c4,c5,rfl,hb.1,hg.1,hg.2,h0.mono (Ck hd.1),h1.mono (Ck hd.1),h2.mono (Ck hd.1),h3.mono (Ck hd.1),Ow.mono h4.1 (Ck hd.1) (Dm hd.2.2 (by simp)) (fun k a b=>frNe0 hb1 k a b.1),h5.mono (Ck hd.1)⟩,hb1⟩
noncomputable def Ca (x0:Tsk):Option ((Option Spc)×Err) :=
  bnd (DJ x0) fun q24=>if q24.2.n≠0 then (some (none,(⟨q24.2.n⟩:Err))) else (bnd (CJ x0.vars) fun q39=>if q39.2.n≠0 then (some (none,(⟨q39.2.n⟩:Err))) else (bnd q39.1 fun o52=>bnd (AX o52 x0.init) fun q55=>if q55.2.2.1.n≠0 then (some (none,(⟨q55.2.2.1.n⟩:Err))) else (some ((some (⟨(⟨x0.vars,x0.init,x0.goal,x0.ops⟩:Tsk),q55.2.2.2,q24.1⟩:Spc)),(⟨0⟩:Err)))))
theorem EJ {w:World} {O:Lab} {vx0:Value} {x0:Tsk} (hx0:Vb w (Fr 0 w O) vx0 x0) (j0:Nat) (hj0:j0≠0) {r:(Option Spc)×Err} (hm:Ca x0=some r) :
    Fn Try.prog 34 [vx0] w fun v w'=>∃ O',St nT w O w' O'∧∃ v0 v1:Value,v=.tuple #[v0,v1]∧Obo j0 w' O' v0 r.1∧Vb w' (Fr 0 w' O') v1 r.2:=by
 obtain ⟨O0,hE,hz0⟩:=ent0 (w:=w) (O:=O)
 have hB:Bm w O0 w O0:=Bm.refl
 replace hx0:=hx0.mono hz0
 obtain ⟨cs2,rfl,v3,v4,v5,v6,rfl,h7,h10,h13,h16⟩:=hx0
 obtain ⟨A8,c9,rfl⟩:=h7.form
 obtain ⟨A11,c12,rfl⟩:=h10.form
 obtain ⟨A14,c15,rfl⟩:=h13.form
 obtain ⟨A17,c18,rfl⟩:=h16.form
 refine AL Try.func34 rfl Try.ntmps34 rfl ?_
 unfold Ca at hm
 refine Ah (Ae (l_box 2 O0 rfl rfl fun g19 w20 O21 S22 h23=>?_))
 replace h23:Lc 2 w20 O21 g19 26 [(.slice A8 x0.vars.length c9),(.slice A11 x0.init.length c12),(.slice A14 x0.goal.length c15),(.slice A17 x0.ops.length c18)]:=h23
 refine o_as rfl rfl (o_as rfl rfl (o_z ?_))
 refine Ah (Ae (o_la (hl:=rfl) (hc:=(h23.1).cellsAt) rfl rfl ?_))
 obtain ⟨q24,e25,hm⟩:=bs hm
 replace h7:=h7.st S22
 replace h10:=h10.st S22
 replace h13:=h13.st S22
 replace h16:=h16.st S22
 refine Cf (O:=O21) (R:=fun w' F v=>T2 w' F v q24) (Jk Fr.lt (Vb.ofAgg (cs:=[(.slice A8 x0.vars.length c9),(.slice A11 x0.init.length c12),(.slice A14 x0.goal.length c15),(.slice A17 x0.ops.length c18)]) (x:=x0) rfl ⟨_,_,_,_,rfl,h7,h10,h13,h16⟩) e25) rfl rfl fun v30 w26 O27 S28 h29=>?_
 obtain ⟨v31,v32,rfl,h33,h34⟩:=h29
 obtain ⟨p35,rfl,hq36⟩:=h33.ptr
 obtain ⟨rfl,r37⟩:=h34.err
 refine o_mv rfl rfl (o_ex rfl rfl rfl (o_ex rfl rfl rfl (o_as rfl rfl (o_as rfl rfl (o_z ?_)))))
 refine Ah (Ah (Ae (o_mv rfl rfl (o_rnS rfl rfl (fun c38=>?_) fun c38=>?_))))
 ·
  replace hm:=ip hm c38
  refine o_z ?_
  refine Ar rfl (Ah (Ae (o_mv rfl rfl (o_as rfl rfl (o_as rfl rfl (o_z ?_))))))
  refine Au ?_
  obtain rfl:=sm hm
  replace hB:=(hB.st S22).st S28
  obtain ⟨O',hS',hz,hl⟩:=hE.leave (fun _=>0) rfl hB
  exact ret2 rfl (AG rfl) (AG rfl) ⟨O',hS',_,_,rfl,rfl,(vErr r37)⟩
 ·
  replace hm:=im hm c38
  refine o_z ?_
  refine Aj rfl (Am (Ah (Ae (o_fa rfl rfl ?_))))
  replace h23:=h23.st S28
  refine o_ld (hc:=Blk.cell (i:=0) (h23.1) rfl) rfl rfl ?_
  obtain ⟨q39,e40,hm⟩:=bs hm
  replace h7:=h7.st S28
  refine Bh (O:=O27) (IM h7 3 (by decide) e40) rfl rfl fun v45 w41 O42 S43 h44=>?_
  obtain ⟨v46,v47,rfl,h48,h49⟩:=h44
  obtain ⟨rfl,r50⟩:=h49.err
  refine o_mv rfl rfl (o_ex rfl rfl rfl (o_ex rfl rfl rfl (o_as rfl rfl (o_as rfl rfl (o_z ?_)))))
  refine Ah (Ah (Ae (o_mv rfl rfl (o_rnS rfl rfl (fun c51=>?_) fun c51=>?_))))
  ·
   replace hm:=ip hm c51
   refine o_z ?_
   refine Ar rfl (Ah (Ae (o_mv rfl rfl (o_as rfl rfl (o_as rfl rfl (o_z ?_))))))
   refine Au ?_
   obtain rfl:=sm hm
   replace hB:=((hB.st S22).st S28).st S43
   obtain ⟨O',hS',hz,hl⟩:=hE.leave (fun _=>0) rfl hB
   exact ret2 rfl (AG rfl) (AG rfl) ⟨O',hS',_,_,rfl,rfl,(vErr r50)⟩
  ·
   replace hm:=im hm c51
   refine o_z ?_
   refine Aj rfl (Am (Ah (Ah (Ae (o_mv rfl rfl (o_fa rfl rfl ?_))))))
   replace h23:=h23.st S43
   refine o_ld (hc:=Blk.cell (i:=1) (h23.1) rfl) rfl rfl ?_
   obtain ⟨o52,e53,hm⟩:=bs hm
   rw [e53] at h48
   obtain ⟨p54,rfl⟩:=Ob.ptr h48
   obtain ⟨q55,e56,hm⟩:=bs hm
   replace h10:=(h10.st S28).st S43
   refine Bh (O:=O42) (CF h48 h10 e56) rfl rfl fun v61 w57 O58 S59 h60=>?_
   obtain ⟨v63,v64,v65,h62,rfl,h66,h67,h68⟩:=h60
   obtain ⟨rfl,r69⟩:=h66.int
   obtain rfl:=h67.bool
   obtain ⟨rfl,r70⟩:=h68.err
   refine o_mv rfl rfl (o_ex rfl rfl rfl (o_ex rfl rfl rfl (o_ex rfl rfl rfl (o_as rfl rfl (o_as rfl rfl (o_as rfl rfl (o_z ?_)))))))
   refine Ah (Ae (o_mv rfl rfl (o_rnS rfl rfl (fun c71=>?_) fun c71=>?_)))
   ·
    replace hm:=ip hm c71
    refine o_z ?_
    refine Ar rfl (Ah (Ae (o_mv rfl rfl (o_as rfl rfl (o_as rfl rfl (o_z ?_))))))
    refine Au ?_
    obtain rfl:=sm hm
    replace hB:=(((hB.st S22).st S28).st S43).st S59
    obtain ⟨O',hS',hz,hl⟩:=hE.leave (fun _=>0) rfl hB
    exact ret2 rfl (AG rfl) (AG rfl) ⟨O',hS',_,_,rfl,rfl,(vErr r70)⟩
   ·
    replace hm:=im hm c71
    refine o_z ?_
    refine Aj rfl (Am (Ah (Ae ?_)))
    replace h23:=h23.st S59
    refine o_la (hl:=rfl) (hc:=(h23.1).cellsAt) rfl rfl ?_
    refine o_mv rfl rfl (o_mv rfl rfl (o_bd rfl rfl rfl ?_))
    refine l_box 4 O58 rfl rfl fun g72 w73 O74 S75 h76=>?_
    replace h76:Lc 4 w73 O74 g72 74 [(.slice A8 x0.vars.length c9),(.slice A11 x0.init.length c12),(.slice A14 x0.goal.length c15),(.slice A17 x0.ops.length c18),(.pointer (some ⟨p54,0,none⟩)),(.pointer p35)]:=h76
    refine o_as rfl rfl (o_as rfl rfl (o_z ?_))
    refine Au ?_
    replace h7:=((h7.st S43).st S59).st S75
    replace h10:=(h10.st S59).st S75
    replace h13:=(((h13.st S28).st S43).st S59).st S75
    replace h16:=(((h16.st S28).st S43).st S59).st S75
    replace h33:=((h33.st S43).st S59).st S75
    replace h62:=h62.st S75
    obtain ⟨O77,S78,hz80,ha81,h79⟩:=Spc.shut (x:=(⟨(⟨x0.vars,x0.init,x0.goal,x0.ops⟩:Tsk),q55.2.2.2,q24.1⟩:Spc)) (l0:=4) (l1:=3) (by decide) h76 h7 h10 h13 h16 h62 h33
    obtain rfl:=sm hm
    replace hB:=(((((hB.st S22).st S28).st S43).st S59).st S75).st S78
    obtain ⟨O',hS',hz,hl⟩:=hE.leave (fun q=>if q=4 then j0 else 0) rfl hB
    exact ret2 rfl (AG rfl) (AG rfl) ⟨O',hS',_,_,rfl,(Ob.leave h79 hz (hl 4 (by decide) (by decide)) hj0),(vErr (show inI64 0 from by decide))⟩
noncomputable def Bu (x0:Spc) (x1:Int) (x2:Int):Option (Rsl×Err) :=
  bnd (BC x0.reg x1) fun q36=>if q36.2.n≠0 then (some ((⟨0,([]:List Int),0,0⟩:Rsl),(⟨q36.2.n⟩:Err))) else (bnd (rng (ρ:=Rsl×Err) (fun (k77:Nat) (a78:Int) (s75:Int)=>bnd (atI x0.t.ops a78) fun a125=>bnd (chkI (s75 + a125.cost)) fun n146=>some (.next n146)) q36.1 0 0) fun res73=>fin res73 fun (s160:Int)=>some ((⟨1,q36.1,s160,x2⟩:Rsl),(⟨0⟩:Err)))
theorem Es {w:World} {O:Lab} {p0 i0:Nat} {x0:Spc} (hx0:Ob i0 w O (.pointer (some ⟨p0,0,none⟩)) x0) {x1:Int} (rx1:inI64 x1) {x2:Int} (rx2:inI64 x2) {r:Rsl×Err} (hm:Bu x0 x1 x2=some r) :
    Fn Try.prog 38 [(.pointer (some ⟨p0,0,none⟩)),(.int .i64 x1),(.int .i64 x2)] w fun v w'=>∃ O',St (eT i0) w O w' O'∧∃ v0 v1:Value,Ob i0 w' O' (.pointer (some ⟨p0,0,none⟩)) x0∧v=.tuple #[v0,v1]∧Vb w' (Fr 0 w' O') v0 r.1∧Vb w' (Fr 0 w' O') v1 r.2:=by
 obtain ⟨O0,hE,hz0,hl2⟩:=ent1 (w:=w) (O:=O) hx0.2
 have hx0':=Ob.leave hx0 hz0 hl2 (j:=2) (by decide)
 have hB:Bm w O0 w O0:=Bm.refl
 refine AL Try.func38 rfl Try.ntmps38 rfl ?_
 unfold Bu at hm
 refine Ah (Ae (BY 3 O0 rfl fun g4 w5 O6 S7 h8=>?_))
 refine o_as rfl rfl (o_z ?_)
 refine Ah (Ae (o_mv rfl rfl (o_nc rfl rfl ?_)))
 replace hx0':=hx0'.st S7
 obtain ⟨O9,v13,v17,v21,v25,v29,v32,S10,ha12,h11,h14,h18,h22,h26,h30,h33⟩:=Spc.opn hx0' 2 4 (by decide)
 obtain ⟨A15,c16,rfl⟩:=h14.form
 obtain ⟨A19,c20,rfl⟩:=h18.form
 obtain ⟨A23,c24,rfl⟩:=h22.form
 obtain ⟨A27,c28,rfl⟩:=h26.form
 obtain ⟨p31,rfl⟩:=h30.ptr
 obtain ⟨p34,rfl,hq35⟩:=h33.ptr
 refine o_fa rfl rfl (o_ld (hc:=Blk.cell (i:=4) (h11.1) rfl) rfl rfl ?_)
 refine o_mv rfl rfl ?_
 obtain ⟨q36,e37,hm⟩:=bs hm
 refine Bh (O:=O9) (FE h30 rx1 e37) rfl rfl fun v42 w38 O39 S40 h41=>?_
 obtain ⟨v44,v45,h43,rfl,h46,h47⟩:=h41
 obtain ⟨A48,c49,rfl⟩:=h46.form
 obtain ⟨rfl,r50⟩:=h47.err
 refine o_mv rfl rfl (o_ex rfl rfl rfl (o_ex rfl rfl rfl (o_as rfl rfl (o_as rfl rfl (o_z ?_)))))
 refine Ah (Ah (Ae (o_mv rfl rfl (o_rnS rfl rfl (fun c51=>?_) fun c51=>?_))))
 ·
  replace hm:=ip hm c51
  refine o_z ?_
  refine Ar rfl (Ah (Ae (o_bd rfl rfl rfl ?_)))
  refine o_mv rfl rfl ?_
  replace h8:=(h8.st S10).st S40
  refine AV h8 rfl rfl rfl (Nat.le_of_ble_eq_true rfl) (by first|exact allOne rfl|simp [Value.cells,Value.oneCell',AQ]) fun w52 S53 h8=>?_
  replace h8:Lc 3 w52 O39 g4 30 [(.int .i64 0),(.slice none 0 0),(.int .i64 0),(.int .i64 0)]:=h8
  refine o_as rfl rfl (o_z ?_)
  refine Au ?_
  replace h11:=(h11.st S40).st S53
  replace h14:=(h14.st S40).st S53
  replace h18:=(h18.st S40).st S53
  replace h22:=(h22.st S40).st S53
  replace h26:=(h26.st S40).st S53
  replace h33:=(h33.st S40).st S53
  replace h43:=h43.st S53
  obtain ⟨O54,S55,hz57,ha58,h56⟩:=Spc.shut (x:=x0) (l0:=2) (l1:=4) (by decide) h11 h14 h18 h22 h26 h43 h33
  obtain rfl:=sm hm
  replace hB:=((((hB.st S7).st S10).st S40).st S53).st S55
  obtain ⟨O',hS',hz,hl⟩:=hE.leave (fun q=>if q=2 then i0 else 0) rfl hB
  replace h8:=h8.st S55
  exact ret2 rfl (BR (cs:=[(.int .i64 0),(.slice none 0 0),(.int .i64 0),(.int .i64 0)]) rfl rfl h8.1.cellsAt) (AG rfl) ⟨O',hS',_,_,(Ob.leave h56 hz (hl 2 (by decide) (by decide)) hx0.2),rfl,(Vb.mono (Vb.ofAgg (cs:=[(.int .i64 0),(.slice none 0 0),(.int .i64 0),(.int .i64 0)]) (x:=(⟨0,([]:List Int),0,0⟩:Rsl)) rfl ⟨_,rfl,(Vb.nil _ _),(show inI64 0 from by decide),(show inI64 0 from by decide),(show inI64 0 from by decide)⟩) hz),(vErr r50)⟩
 ·
  replace hm:=im hm c51
  refine o_z ?_
  refine Aj rfl (Am (Ah (Ae (o_mv rfl rfl (o_mv rfl rfl (o_bd rfl rfl rfl ?_))))))
  refine BY 5 O39 rfl fun g59 w60 O61 S62 h63=>?_
  refine AV h63 rfl rfl rfl (Nat.le_of_ble_eq_true rfl) (by first|exact allOne rfl|simp [Value.cells,Value.oneCell',AQ]) fun w64 S65 h63=>?_
  replace h63:Lc 5 w64 O61 g59 30 [(.int .i64 1),(.slice A48 q36.1.length c49),(.int .i64 0),(.int .i64 x2)]:=h63
  refine o_z ?_
  refine Ah (Ah (Ae (o_mv rfl rfl (o_ln rfl rfl ?_))))
  replace h46:=(h46.st S62).st S65
  have l67:q36.1.length≤9223372036854775807:=Nat.le_trans h46.len.2.1 h46.len.2.2
  have r66:inI64 (q36.1.length:Int):=rngNat l67
  refine o_mv rfl rfl (o_z ?_)
  replace h11:=((h11.st S40).st S62).st S65
  replace h14:=((h14.st S40).st S62).st S65
  replace h18:=((h18.st S40).st S62).st S65
  replace h22:=((h22.st S40).st S62).st S65
  replace h26:=((h26.st S40).st S62).st S65
  replace h33:=((h33.st S40).st S62).st S65
  replace h43:=(h43.st S62).st S65
  obtain ⟨O68,S69,hz71,ha72,h70⟩:=Spc.shut (x:=x0) (l0:=2) (l1:=4) (by decide) h11 h14 h18 h22 h26 h43 h33
  obtain ⟨res73,hL74,hm⟩:=bs hm
  refine AM (aft res73 (fun (s75:Int) (x76:Unit)=>[(6,(.pointer (some ⟨g4,0,none⟩))),(10,(.pointer (some ⟨g59,0,none⟩)))]) (fun s75 x76 w'=>∃ O':Lab,Bm w O0 w' O'∧Lc 3 w' O' g4 30 [(.int .i64 0),(.slice none 0 0),(.int .i64 0),(.int .i64 0)]∧Lc 5 w' O' g59 30 [(.int .i64 1),(.slice A48 q36.1.length c49),(.int .i64 s75),(.int .i64 x2)]∧Vb w' (Fr 0 w' O') (.slice A48 q36.1.length c49) q36.1∧Ob 2 w' O' (.pointer (some ⟨p0,0,none⟩)) x0∧inI64 s75)) ?_ ?_
  ·
   refine Al ?_
   replace hB:=(((((hB.st S7).st S10).st S40).st S62).st S65).st S69
   replace h8:=((((h8.st S10).st S40).st S62).st S65).st S69
   replace h46:=h46.st S69
   replace h63:=h63.st S69
   refine BF (σ:=Int) (X:=Unit) (q36.1.length) hL74 rfl l67 (fun (s75:Int) (x76:Unit)=>[(0,(.pointer (some ⟨p0,0,none⟩))),(6,(.pointer (some ⟨g4,0,none⟩))),(10,(.pointer (some ⟨g59,0,none⟩))),(29,(.slice A48 q36.1.length c49))]) _ (fun s75 x76 w'=>∃ O':Lab,Bm w O0 w' O'∧Ob 2 w' O' (.pointer (some ⟨p0,0,none⟩)) x0∧Lc 3 w' O' g4 30 [(.int .i64 0),(.slice none 0 0),(.int .i64 0),(.int .i64 0)]∧Lc 5 w' O' g59 30 [(.int .i64 1),(.slice A48 q36.1.length c49),(.int .i64 s75),(.int .i64 x2)]∧Vb w' (Fr 0 w' O') (.slice A48 q36.1.length c49) q36.1∧inI64 s75) _ () ⟨O68,hB,h70,h8,h63,h46,(show inI64 0 from by decide)⟩ ⟨rfl,rfl,rfl,rfl,rfl,rfl,trivial⟩ (fun _ _=>⟨rfl,rfl⟩) (fun _ _=>⟨rfl,rfl,trivial⟩) (fun _ _ _ ⟨O',hB,h70,h8,h63,h46,r89⟩=>⟨O',hB,h8,h63,h46,h70,r89⟩) ⟨rfl,rfl,rfl⟩ ⟨rfl,rfl⟩ ?_
   rintro k77 a78 s75 x76 w79 cc81 hx82 ⟨O80,hB,h70,h8,h63,h46,r89⟩ hf83 hret84 hbrk85
   have rk77:inI64 (k77:Int):=rngK hx82 l67
   refine Ah (Ae ?_)
   obtain ⟨b90,o91,ce92,hA93,hl94,hd95,rfl,r97⟩:=h46.elem' hx82
   refine o_iaE (hA:=hA93) (hj:=rfl) (hlt:=hl94) rfl rfl rfl ?_
   refine o_ld (hc:=cat0 hd95) rfl rfl ?_
   refine o_as rfl rfl (o_z ?_)
   obtain ⟨O98,v102,v106,v110,v114,v118,v121,S99,ha101,h100,h103,h107,h111,h115,h119,h122⟩:=Spc.opn h70 2 4 (by decide)
   obtain ⟨A104,c105,rfl⟩:=h103.form
   obtain ⟨A108,c109,rfl⟩:=h107.form
   obtain ⟨A112,c113,rfl⟩:=h111.form
   obtain ⟨A116,c117,rfl⟩:=h115.form
   obtain ⟨p120,rfl⟩:=h119.ptr
   obtain ⟨p123,rfl,hq124⟩:=h122.ptr
   refine BG [] O98 ?_
   refine x_pre (fuel:=1) [] [(0,true),(1,true),(2,true),(3,true),(4,true),(5,true),(6,true),(7,true),(8,true),(9,true),(10,true),(11,true),(12,true)] (by kernel_rfl) rfl ?_
   refine h_fa rfl rfl rfl ?_
   replace h63:=h63.st S99
   refine h_ldC (hc:=fun w' ⟨O',hq⟩=>Blk.cell (i:=2) ((h63.st hq (by decide)).1) rfl) rfl rfl rfl ?_
   refine h_mv rfl rfl rfl (h_nc rfl rfl rfl (h_fa rfl rfl rfl (h_fa rfl rfl rfl (h_ldC (hc:=fun w' ⟨O',hq⟩=>Blk.cell (i:=3) ((h100.st hq (by decide)).1) rfl) rfl rfl rfl ?_))))
   refine h_mv rfl rfl rfl ?_
   obtain ⟨a125,e126,hf83⟩:=bs hf83
   obtain ⟨p128,x127⟩:=AN e126
   obtain ⟨b129,o130,ce131,hA132,hF135,hl133,hd134,v136,v137,rfl,h138,h141,r144,z145⟩:=h115.elem x127
   obtain ⟨A139,c140,rfl⟩:=h138.form
   obtain ⟨A142,c143,rfl⟩:=h141.form
   refine h_iaE (hA:=hA132) (hj:=(Int.toNat_of_nonneg p128).symm) (hlt:=hl133) rfl rfl rfl rfl ?_
   refine h_fa rfl rfl rfl (h_ldC (hc:=fun w' ⟨O',hq⟩=>cat1 (Bj (hq.agree (i:=0) (by decide)) hF135 hd134)) rfl rfl rfl ?_)
   obtain ⟨n146,e147,hf83⟩:=bs hf83
   have r148:=(Ba e147)
   refine h_adE (he:=e147) rfl rfl rfl rfl ?_
   refine h_fa rfl rfl rfl (AK ?_)
   refine x_one (i:=13) (by kernel_rfl) rfl ?_
   refine AV h63 rfl rfl rfl (Nat.le_of_ble_eq_true rfl) (by first|exact allOne rfl|simp [Value.cells,Value.oneCell',AQ]) fun w149 S150 h63=>?_
   replace h63:Lc 5 w149 O98 g59 30 [(.int .i64 1),(.slice A48 q36.1.length c49),(.int .i64 n146),(.int .i64 x2)]:=h63
   refine x_end (by kernel_rfl) ?_
   refine x_nil (by kernel_rfl) ?_
   replace h100:=h100.st S150
   replace h103:=h103.st S150
   replace h107:=h107.st S150
   replace h111:=h111.st S150
   replace h115:=h115.st S150
   replace h119:=h119.st S150
   replace h122:=h122.st S150
   obtain ⟨O151,S152,hz154,ha155,h153⟩:=Spc.shut (x:=x0) (l0:=2) (l1:=4) (by decide) h100 h103 h107 h111 h115 h119 h122
   obtain rfl:=sm hf83
   refine (?_:Exists _)
   replace hB:=((hB.st S99).st S150).st S152
   replace h8:=((h8.st S99).st S150).st S152
   replace h46:=((h46.st S99).st S150).st S152
   replace h63:=h63.st S152
   exact ⟨_,(),rfl,⟨rfl,rfl,rfl,rfl,rfl,rfl,trivial⟩,_,hB,h153,h8,h63,h46,r148⟩
  replace hB:=(((((hB.st S7).st S10).st S40).st S62).st S65).st S69
  replace h8:=((((h8.st S10).st S40).st S62).st S65).st S69
  replace h46:=h46.st S69
  replace h63:=h63.st S69
  rintro l156 w157 ⟨s160,x161,rfl,hs159,O158,hB,h8,h63,h46,h70,r89⟩
  replace hm:=AW hm
  refine AO _ hs159 ?_
  refine Ah (Ae (o_la (hl:=rfl) (hc:=(h63.1).cellsAt) rfl rfl ?_))
  refine AV h8 rfl rfl rfl (Nat.le_of_ble_eq_true rfl) (by first|exact allOne rfl|simp [Value.cells,Value.oneCell',AQ]) fun w162 S163 h8=>?_
  replace h8:Lc 3 w162 O158 g4 30 [(.int .i64 1),(.slice A48 q36.1.length c49),(.int .i64 s160),(.int .i64 x2)]:=h8
  refine o_as rfl rfl (o_z ?_)
  refine Au ?_
  obtain rfl:=sm hm
  replace hB:=hB.st S163
  obtain ⟨O',hS',hz,hl⟩:=hE.leave (fun q=>if q=2 then i0 else 0) rfl hB
  replace h46:=h46.st S163
  replace h70:=h70.st S163
  exact ret2 rfl (BR (cs:=[(.int .i64 1),(.slice A48 q36.1.length c49),(.int .i64 s160),(.int .i64 x2)]) rfl rfl h8.1.cellsAt) (AG rfl) ⟨O',hS',_,_,(Ob.leave h70 hz (hl 2 (by decide) (by decide)) hx0.2),rfl,(Vb.mono (Vb.ofAgg (cs:=[(.int .i64 1),(.slice A48 q36.1.length c49),(.int .i64 s160),(.int .i64 x2)]) (x:=(⟨1,q36.1,s160,x2⟩:Rsl)) rfl ⟨_,rfl,h46,(show inI64 (1) from by decide),r89,rx2⟩) hz),(vErr (show inI64 0 from by decide))⟩
noncomputable def Bn (x0:Int) (x1:Int):Option (Rsl×Err) :=
  some ((⟨x0,([]:List Int),0,x1⟩:Rsl),(⟨0⟩:Err))
theorem CK {w:World} {A:Nat→Prop} (hA:∀ k,A k→k < w.heap.size) {x0:Int} (rx0:inI64 x0) {x1:Int} (rx1:inI64 x1) {r:Rsl×Err} (hm:Bn x0 x1=some r) :
    Fn Try.prog 39 [(.int .i64 x0),(.int .i64 x1)] w fun v w'=>Ext w w'∧T2 w' (upA A w w') v r:=by
 obtain ⟨O,hB,hA0⟩:=enter hA
 refine AL Try.func39 rfl Try.ntmps39 rfl ?_
 unfold Bn at hm
 refine Ah (Ae (BY 2 O rfl fun g3 w4 O5 S6 h7=>?_))
 refine o_as rfl rfl (o_z ?_)
 refine Ah (Ae (o_mv rfl rfl (o_mv rfl rfl (o_bd rfl rfl rfl ?_))))
 refine AV h7 rfl rfl rfl (Nat.le_of_ble_eq_true rfl) (by first|exact allOne rfl|simp [Value.cells,Value.oneCell',AQ]) fun w8 S9 h7=>?_
 replace h7:Lc 2 w8 O5 g3 30 [(.int .i64 x0),(.slice none 0 0),(.int .i64 0),(.int .i64 x1)]:=h7
 refine o_as rfl rfl (o_z ?_)
 refine Au ?_
 obtain rfl:=sm hm
 replace hB:=(hB.st S6).st S9
 exact ret2 rfl (BR (cs:=[(.int .i64 x0),(.slice none 0 0),(.int .i64 0),(.int .i64 x1)]) rfl rfl h7.1.cellsAt) (AG rfl) ⟨hB.ext,_,_,rfl,(Vb.mono (F:=Fr 0 w8 O5) (Vb.ofAgg (cs:=[(.int .i64 x0),(.slice none 0 0),(.int .i64 0),(.int .i64 x1)]) (x:=(⟨x0,([]:List Int),0,x1⟩:Rsl)) rfl ⟨_,rfl,(Vb.nil _ _),rx0,(show inI64 0 from by decide),rx1⟩) hB.out),(vErr (show inI64 0 from by decide))⟩
noncomputable def De (x0:Tsk) (x1:Int):Option (Rsl×Err) :=
  bnd (Ca x0) fun q30=>if q30.2.n≠0 then (some ((⟨0,([]:List Int),0,0⟩:Rsl),(⟨q30.2.n⟩:Err))) else (bnd q30.1 fun o45=>bnd (lop (ρ:=Rsl×Err) (fun (s50:Int×Spc)=>bnd (Bi s50.2.reg) fun q94=>if s50.1 < q94 then (bnd (Bc s50.2.reg s50.1) fun q105=>if q105.2.n≠0 then (some (.ret ((⟨0,([]:List Int),0,0⟩:Rsl),(⟨q105.2.n⟩:Err)))) else (bnd (Cy x0.goal q105.1) fun q123=>if q123=true then bnd (Bu s50.2 s50.1 s50.1) fun q312=>some (.ret (q312.1,(⟨q312.2.n⟩:Err))) else if x1≤s50.1 then (bnd (Bn 3 s50.1) fun q131=>some (.ret (q131.1,(⟨q131.2.n⟩:Err)))) else (bnd (AS s50.2.gen q105.1) fun q153=>bnd (rng (ρ:=Ctl (Int×Spc) (Rsl×Err)) (fun (k173:Nat) (a174:Suc) (s171:Spc)=>bnd (AX s171.reg a174.state) fun q232=>if q232.2.2.1.n≠0 then (bnd (chkI (s50.1 + 1)) fun n249=>bnd (Bn 3 n249) fun q252=>some (.ret (.ret (q252.1,(⟨q252.2.n⟩:Err))))) else (if q232.2.1=true then (bnd (Bd q232.2.2.2 q232.1 s50.1 a174.op 0) fun q275=>if q275.1.n≠0 then (some (.ret (.ret ((⟨0,([]:List Int),0,0⟩:Rsl),(⟨q275.1.n⟩:Err))))) else (some (.next (⟨(⟨s171.t.vars,s171.t.init,s171.t.goal,s171.t.ops⟩:Tsk),q275.2,s171.gen⟩:Spc)))) else (some (.next (⟨(⟨s171.t.vars,s171.t.init,s171.t.goal,s171.t.ops⟩:Tsk),q232.2.2.2,s171.gen⟩:Spc))))) q153 0 s50.2) fun res169=>fin res169 fun (s302:Spc)=>bnd (chkI (s50.1 + 1)) fun n304=>some (.next (n304,s302))))) else (some (.brk (s50.1,s50.2)))) (0,o45)) fun res48=>fin res48 fun (s344:Int×Spc)=>bnd (Bi s344.2.reg) fun q373=>bnd (Bn 2 q373) fun q383=>some (q383.1,(⟨q383.2.n⟩:Err)))
theorem Ig {w:World} {A:Nat→Prop} (hA:∀ k,A k→k < w.heap.size) {vx0:Value} {x0:Tsk} (hx0:Vb w A vx0 x0) {x1:Int} (rx1:inI64 x1) {r:Rsl×Err} (hm:De x0 x1=some r) :
    Fn Try.prog 13 [vx0,(.int .i64 x1)] w fun v w'=>Ext w w'∧T2 w' (upA A w w') v r:=by
 obtain ⟨O,hB,hA0⟩:=enter hA
 replace hx0:=hx0.mono hA0
 obtain ⟨cs3,rfl,v4,v5,v6,v7,rfl,h8,h11,h14,h17⟩:=hx0
 obtain ⟨A9,c10,rfl⟩:=h8.form
 obtain ⟨A12,c13,rfl⟩:=h11.form
 obtain ⟨A15,c16,rfl⟩:=h14.form
 obtain ⟨A18,c19,rfl⟩:=h17.form
 refine AL Try.func13 rfl Try.ntmps13 rfl ?_
 unfold De at hm
 refine Ah (Ae (l_box 2 O rfl rfl fun g20 w21 O22 S23 h24=>?_))
 replace h24:Lc 2 w21 O22 g20 26 [(.slice A9 x0.vars.length c10),(.slice A12 x0.init.length c13),(.slice A15 x0.goal.length c16),(.slice A18 x0.ops.length c19)]:=h24
 refine BY 3 O22 rfl fun g25 w26 O27 S28 h29=>?_
 refine o_as rfl rfl (o_z ?_)
 refine Ah (Ae ?_)
 replace h24:=h24.st S28
 refine o_la (hl:=rfl) (hc:=(h24.1).cellsAt) rfl rfl ?_
 obtain ⟨q30,e31,hm⟩:=bs hm
 replace h8:=(h8.st S23).st S28
 replace h11:=(h11.st S23).st S28
 replace h14:=(h14.st S23).st S28
 replace h17:=(h17.st S23).st S28
 refine Bh (O:=O27) (EJ (Vb.ofAgg (cs:=[(.slice A9 x0.vars.length c10),(.slice A12 x0.init.length c13),(.slice A15 x0.goal.length c16),(.slice A18 x0.ops.length c19)]) (x:=x0) rfl ⟨_,_,_,_,rfl,h8,h11,h14,h17⟩) 4 (by decide) e31) rfl rfl fun v36 w32 O33 S34 h35=>?_
 obtain ⟨v37,v38,rfl,h39,h40⟩:=h35
 obtain ⟨rfl,r41⟩:=h40.err
 refine o_mv rfl rfl (o_ex rfl rfl rfl (o_ex rfl rfl rfl (o_as rfl rfl (o_as rfl rfl (o_z ?_)))))
 refine Ah (Ah (Ae (o_mv rfl rfl (o_rnS rfl rfl (fun c42=>?_) fun c42=>?_))))
 ·
  replace hm:=ip hm c42
  refine o_z ?_
  refine Ar rfl (Ah (Ae (o_bd rfl rfl rfl ?_)))
  refine o_mv rfl rfl ?_
  replace h29:=h29.st S34
  refine AV h29 rfl rfl rfl (Nat.le_of_ble_eq_true rfl) (by first|exact allOne rfl|simp [Value.cells,Value.oneCell',AQ]) fun w43 S44 h29=>?_
  replace h29:Lc 3 w43 O33 g25 30 [(.int .i64 0),(.slice none 0 0),(.int .i64 0),(.int .i64 0)]:=h29
  refine o_as rfl rfl (o_z ?_)
  refine Au ?_
  obtain rfl:=sm hm
  replace hB:=(((hB.st S23).st S28).st S34).st S44
  exact ret2 rfl (BR (cs:=[(.int .i64 0),(.slice none 0 0),(.int .i64 0),(.int .i64 0)]) rfl rfl h29.1.cellsAt) (AG rfl) ⟨hB.ext,_,_,rfl,(Vb.mono (F:=Fr 0 w43 O33) (Vb.ofAgg (cs:=[(.int .i64 0),(.slice none 0 0),(.int .i64 0),(.int .i64 0)]) (x:=(⟨0,([]:List Int),0,0⟩:Rsl)) rfl ⟨_,rfl,(Vb.nil _ _),(show inI64 0 from by decide),(show inI64 0 from by decide),(show inI64 0 from by decide)⟩) hB.out),(vErr r41)⟩
 ·
  replace hm:=im hm c42
  refine o_z ?_
  refine Aj rfl (Am (Ah (Ah (Ae (o_as rfl rfl (o_z ?_))))))
  obtain ⟨o45,e46,hm⟩:=bs hm
  rw [e46] at h39
  obtain ⟨p47,rfl⟩:=Ob.ptr h39
  obtain ⟨res48,hL49,hm⟩:=bs hm
  refine AM (aft res48 (fun (s50:Int×Spc) (x51:Unit)=>[(4,(.pointer (some ⟨g25,0,none⟩))),(6,(.pointer (some ⟨p47,0,none⟩)))]) (fun s50 x51 w'=>∃ O':Lab,Bs w A w' O'∧Lc 3 w' O' g25 30 [(.int .i64 0),(.slice none 0 0),(.int .i64 0),(.int .i64 0)]∧Ob 4 w' O' (.pointer (some ⟨p47,0,none⟩)) s50.2∧inI64 s50.1)) ?_ ?_
  ·
   refine Al ?_
   replace hB:=((hB.st S23).st S28).st S34
   replace h8:=h8.st S34
   replace h11:=h11.st S34
   replace h14:=h14.st S34
   replace h17:=h17.st S34
   replace h24:=h24.st S34
   replace h29:=h29.st S34
   refine DL (σ:=Int×Spc) (X:=Unit) hL49 (fun (s50:Int×Spc) (x51:Unit)=>[(1,(.int .i64 x1)),(2,(.pointer (some ⟨g20,0,none⟩))),(4,(.pointer (some ⟨g25,0,none⟩))),(6,(.pointer (some ⟨p47,0,none⟩))),(8,(.int .i64 s50.1))]) _ (fun s50 x51 w'=>∃ O':Lab,Bs w A w' O'∧Lc 2 w' O' g20 26 [(.slice A9 x0.vars.length c10),(.slice A12 x0.init.length c13),(.slice A15 x0.goal.length c16),(.slice A18 x0.ops.length c19)]∧Vb w' (Fr 0 w' O') (.slice A9 x0.vars.length c10) x0.vars∧Vb w' (Fr 0 w' O') (.slice A12 x0.init.length c13) x0.init∧Vb w' (Fr 0 w' O') (.slice A15 x0.goal.length c16) x0.goal∧Vb w' (Fr 0 w' O') (.slice A18 x0.ops.length c19) x0.ops∧Lc 3 w' O' g25 30 [(.int .i64 0),(.slice none 0 0),(.int .i64 0),(.int .i64 0)]∧Ob 4 w' O' (.pointer (some ⟨p47,0,none⟩)) s50.2∧inI64 s50.1) _ () ⟨O33,hB,h24,h8,h11,h14,h17,h29,h39,(show inI64 (0) from by decide)⟩ ⟨rfl,rfl,rfl,rfl,rfl,trivial⟩ ?_
   rintro s50 x51 w54 cc56 ⟨O55,hB,h24,h8,h11,h14,h17,h29,h66,r65⟩ hf58 hret59 hbrk60
   refine Ah (Ah (Ae (o_mv rfl rfl (o_mv rfl rfl (o_nc rfl rfl ?_)))))
   obtain ⟨O67,v71,v75,v79,v83,v87,v90,S68,ha70,h69,h72,h76,h80,h84,h88,h91⟩:=Spc.opn h66 4 5 (by decide)
   obtain ⟨A73,c74,rfl⟩:=h72.form
   obtain ⟨A77,c78,rfl⟩:=h76.form
   obtain ⟨A81,c82,rfl⟩:=h80.form
   obtain ⟨A85,c86,rfl⟩:=h84.form
   obtain ⟨p89,rfl⟩:=h88.ptr
   obtain ⟨p92,rfl,hq93⟩:=h91.ptr
   refine o_fa rfl rfl (o_ld (hc:=Blk.cell (i:=4) (h69.1) rfl) rfl rfl ?_)
   obtain ⟨q94,e95,hf58⟩:=bs hf58
   refine Bh (O:=O67) (Cb h88 e95) rfl rfl fun v100 w96 O97 S98 h99=>?_
   obtain ⟨h101,h102⟩:=h99
   obtain ⟨rfl,r103⟩:=h102.int
   refine o_ltS rfl rfl rfl (fun c104=>?_) fun c104=>?_
   ·
    replace hf58:=ip hf58 c104
    refine o_z ?_
    refine Ar rfl (Am (Ah (Al (Ah (Ae (o_mv rfl rfl (o_nc rfl rfl (o_fa rfl rfl ?_))))))))
    replace h69:=h69.st S98
    refine o_ld (hc:=Blk.cell (i:=4) (h69.1) rfl) rfl rfl ?_
    refine o_mv rfl rfl ?_
    obtain ⟨q105,e106,hf58⟩:=bs hf58
    refine Bh (O:=O97) (CT h101 r65 e106) rfl rfl fun v111 w107 O108 S109 h110=>?_
    obtain ⟨v113,v114,h112,rfl,h115,h116⟩:=h110
    obtain ⟨A117,c118,rfl⟩:=h115.form
    obtain ⟨rfl,r119⟩:=h116.err
    refine o_mv rfl rfl (o_ex rfl rfl rfl (o_ex rfl rfl rfl (o_as rfl rfl (o_as rfl rfl (o_z ?_)))))
    refine Ah (Ah (Ae (o_mv rfl rfl (o_rnS rfl rfl (fun c120=>?_) fun c120=>?_))))
    ·
     replace hf58:=ip hf58 c120
     refine o_z ?_
     refine Ar rfl (Ah (Ae (o_bd rfl rfl rfl ?_)))
     refine o_mv rfl rfl ?_
     replace h29:=((h29.st S68).st S98).st S109
     refine AV h29 rfl rfl rfl (Nat.le_of_ble_eq_true rfl) (by first|exact allOne rfl|simp [Value.cells,Value.oneCell',AQ]) fun w121 S122 h29=>?_
     replace h29:Lc 3 w121 O108 g25 30 [(.int .i64 0),(.slice none 0 0),(.int .i64 0),(.int .i64 0)]:=h29
     refine o_as rfl rfl (o_z ?_)
     refine Au ?_
     obtain rfl:=sm hf58
     obtain rfl:=hret59 _ rfl
     obtain rfl:=sm (By hm)
     replace hB:=(((hB.st S68).st S98).st S109).st S122
     exact ret2 rfl (BR (cs:=[(.int .i64 0),(.slice none 0 0),(.int .i64 0),(.int .i64 0)]) rfl rfl h29.1.cellsAt) (AG rfl) ⟨hB.ext,_,_,rfl,(Vb.mono (F:=Fr 0 w121 O108) (Vb.ofAgg (cs:=[(.int .i64 0),(.slice none 0 0),(.int .i64 0),(.int .i64 0)]) (x:=(⟨0,([]:List Int),0,0⟩:Rsl)) rfl ⟨_,rfl,(Vb.nil _ _),(show inI64 0 from by decide),(show inI64 0 from by decide),(show inI64 0 from by decide)⟩) hB.out),(vErr r119)⟩
    ·
     replace hf58:=im hf58 c120
     refine o_z ?_
     refine Aj rfl (Am (Ah (Ah (Ae (o_fa rfl rfl ?_)))))
     replace h24:=((h24.st S68).st S98).st S109
     refine o_ld (hc:=Blk.cell (i:=2) (h24.1) rfl) rfl rfl ?_
     refine o_mv rfl rfl ?_
     obtain ⟨q123,e124,hf58⟩:=bs hf58
     replace h14:=((h14.st S68).st S98).st S109
     refine BK (O:=O108) (A:=All w107) (R:=fun w' F v=>Vb w' F v q123) (FB (fun _ h=>h) (Vb.mono (F:=Fr 0 w107 O108) h14 Fr.lt) (Vb.mono (F:=Fr 0 w107 O108) h115 Fr.lt) e124) rfl rfl fun v129 w125 O126 S127 h128=>?_
     obtain rfl:=h128.bool
     cases q123
     case false =>
      replace hf58:=iF hf58
      refine o_z ?_
      refine Aj rfl (Am (Ah (Ah (Ae (o_mv rfl rfl (o_mv rfl rfl (o_geS rfl rfl rfl (fun c130=>?_) fun c130=>?_)))))))
      ·
       replace hf58:=ip hf58 c130
       refine o_z ?_
       refine Ar rfl (Ah (Ae (o_mv rfl rfl ?_)))
       obtain ⟨q131,e132,hf58⟩:=bs hf58
       refine Cf (O:=O126) (R:=fun w' F v=>T2 w' F v q131) (CK Fr.lt (show inI64 (3) from by decide) r65 e132) rfl rfl fun v137 w133 O134 S135 h136=>?_
       obtain ⟨v138,v139,rfl,h140,h141⟩:=h136
       obtain ⟨cs142,rfl,v143,rfl,h144,r147,r148,r149⟩:=h140
       obtain ⟨A145,c146,rfl⟩:=h144.form
       obtain ⟨rfl,r150⟩:=h141.err
       refine o_ex rfl rfl rfl (o_ex rfl rfl rfl ?_)
       replace h29:=((((h29.st S68).st S98).st S109).st S127).st S135
       refine AV h29 rfl rfl rfl (Nat.le_of_ble_eq_true rfl) (by first|exact allOne rfl|simp [Value.cells,Value.oneCell',AQ]) fun w151 S152 h29=>?_
       replace h29:Lc 3 w151 O134 g25 30 [(.int .i64 q131.1.verdict),(.slice A145 q131.1.plan.length c146),(.int .i64 q131.1.cost),(.int .i64 q131.1.expanded)]:=h29
       refine o_as rfl rfl (o_z ?_)
       refine Au ?_
       obtain rfl:=sm hf58
       obtain rfl:=hret59 _ rfl
       obtain rfl:=sm (By hm)
       replace hB:=(((((hB.st S68).st S98).st S109).st S127).st S135).st S152
       replace h144:=h144.st S152
       exact ret2 rfl (BR (cs:=[(.int .i64 q131.1.verdict),(.slice A145 q131.1.plan.length c146),(.int .i64 q131.1.cost),(.int .i64 q131.1.expanded)]) rfl rfl h29.1.cellsAt) (AG rfl) ⟨hB.ext,_,_,rfl,(Vb.mono (F:=Fr 0 w151 O134) (Vb.ofAgg (cs:=[(.int .i64 q131.1.verdict),(.slice A145 q131.1.plan.length c146),(.int .i64 q131.1.cost),(.int .i64 q131.1.expanded)]) (x:=q131.1) rfl ⟨_,rfl,h144,r147,r148,r149⟩) hB.out),(vErr r150)⟩
      ·
       replace hf58:=im hf58 c130
       refine o_z ?_
       refine Aj rfl (Am (Ah (Ae (o_mv rfl rfl (o_nc rfl rfl (o_fa rfl rfl ?_))))))
       replace h69:=(h69.st S109).st S127
       refine o_ld (hc:=Blk.cell (i:=5) (h69.1) rfl) rfl rfl ?_
       refine o_mv rfl rfl ?_
       obtain ⟨q153,e154,hf58⟩:=bs hf58
       replace h91:=((h91.st S98).st S109).st S127
       replace h115:=h115.st S127
       refine Cf (O:=O126) (R:=fun w' F v=>Vb w' F v q153) (Cz Fr.lt h91 h115 e154) rfl rfl fun v159 w155 O156 S157 h158=>?_
       obtain ⟨A160,c161,rfl⟩:=h158.form
       refine o_ln rfl rfl ?_
       have l163:q153.length≤9223372036854775807:=Nat.le_trans h158.len.2.1 h158.len.2.2
       have r162:inI64 (q153.length:Int):=rngNat l163
       refine o_mv rfl rfl (o_z ?_)
       replace h69:=h69.st S157
       replace h72:=(((h72.st S98).st S109).st S127).st S157
       replace h76:=(((h76.st S98).st S109).st S127).st S157
       replace h80:=(((h80.st S98).st S109).st S127).st S157
       replace h84:=(((h84.st S98).st S109).st S127).st S157
       replace h91:=h91.st S157
       replace h112:=(h112.st S127).st S157
       obtain ⟨O164,S165,hz167,ha168,h166⟩:=Spc.shut (x:=s50.2) (l0:=4) (l1:=5) (by decide) h69 h72 h76 h80 h84 h112 h91
       obtain ⟨res169,hL170,hf58⟩:=bs hf58
       refine AM (aft res169 (fun (s171:Spc) (x172:Unit)=>[(1,(.int .i64 x1)),(2,(.pointer (some ⟨g20,0,none⟩))),(4,(.pointer (some ⟨g25,0,none⟩))),(6,(.pointer (some ⟨p47,0,none⟩))),(8,(.int .i64 s50.1))]) (fun s171 x172 w'=>∃ O':Lab,Bs w A w' O'∧Lc 2 w' O' g20 26 [(.slice A9 x0.vars.length c10),(.slice A12 x0.init.length c13),(.slice A15 x0.goal.length c16),(.slice A18 x0.ops.length c19)]∧Vb w' (Fr 0 w' O') (.slice A9 x0.vars.length c10) x0.vars∧Vb w' (Fr 0 w' O') (.slice A12 x0.init.length c13) x0.init∧Vb w' (Fr 0 w' O') (.slice A15 x0.goal.length c16) x0.goal∧Vb w' (Fr 0 w' O') (.slice A18 x0.ops.length c19) x0.ops∧Lc 3 w' O' g25 30 [(.int .i64 0),(.slice none 0 0),(.int .i64 0),(.int .i64 0)]∧Ob 4 w' O' (.pointer (some ⟨p47,0,none⟩)) s171)) ?_ ?_
       ·
        refine Al ?_
        replace hB:=(((((hB.st S68).st S98).st S109).st S127).st S157).st S165
        replace h8:=(((((h8.st S68).st S98).st S109).st S127).st S157).st S165
        replace h11:=(((((h11.st S68).st S98).st S109).st S127).st S157).st S165
        replace h14:=((h14.st S127).st S157).st S165
        replace h17:=(((((h17.st S68).st S98).st S109).st S127).st S157).st S165
        replace h24:=((h24.st S127).st S157).st S165
        replace h29:=(((((h29.st S68).st S98).st S109).st S127).st S157).st S165
        replace h158:=h158.st S165
        refine BF (σ:=Spc) (X:=Unit) (q153.length) hL170 rfl l163 (fun (s171:Spc) (x172:Unit)=>[(1,(.int .i64 x1)),(2,(.pointer (some ⟨g20,0,none⟩))),(4,(.pointer (some ⟨g25,0,none⟩))),(6,(.pointer (some ⟨p47,0,none⟩))),(8,(.int .i64 s50.1)),(70,(.slice A160 q153.length c161))]) _ (fun s171 x172 w'=>∃ O':Lab,Bs w A w' O'∧Lc 2 w' O' g20 26 [(.slice A9 x0.vars.length c10),(.slice A12 x0.init.length c13),(.slice A15 x0.goal.length c16),(.slice A18 x0.ops.length c19)]∧Vb w' (Fr 0 w' O') (.slice A9 x0.vars.length c10) x0.vars∧Vb w' (Fr 0 w' O') (.slice A12 x0.init.length c13) x0.init∧Vb w' (Fr 0 w' O') (.slice A15 x0.goal.length c16) x0.goal∧Vb w' (Fr 0 w' O') (.slice A18 x0.ops.length c19) x0.ops∧Lc 3 w' O' g25 30 [(.int .i64 0),(.slice none 0 0),(.int .i64 0),(.int .i64 0)]∧Ob 4 w' O' (.pointer (some ⟨p47,0,none⟩)) s171∧Vb w' (Fr 0 w' O') (.slice A160 q153.length c161) q153) _ () ⟨O164,hB,h24,h8,h11,h14,h17,h29,h166,h158⟩ ⟨rfl,rfl,rfl,rfl,rfl,rfl,rfl,rfl,trivial⟩ (fun _ _=>⟨rfl,rfl⟩) (fun _ _=>⟨rfl,rfl,rfl,rfl,rfl,trivial⟩) (fun _ _ _ ⟨O',hB,h24,h8,h11,h14,h17,h29,h185,h158⟩=>⟨O',hB,h24,h8,h11,h14,h17,h29,h185⟩) ⟨rfl,rfl,rfl⟩ ⟨rfl,rfl⟩ ?_
        rintro k173 a174 s171 x172 w175 cc177 hx178 ⟨O176,hB,h24,h8,h11,h14,h17,h29,h185,h158⟩ hf179 hret180 hbrk181
        have rk173:inI64 (k173:Int):=rngK hx178 l163
        refine Ah (Ae ?_)
        obtain ⟨b186,o187,ce188,hA189,hl190,hd191,v193,rfl,h194,r197⟩:=h158.elem' hx178
        obtain ⟨A195,c196,rfl⟩:=h194.form
        refine o_iaE (hA:=hA189) (hj:=rfl) (hlt:=hl190) rfl rfl rfl ?_
        refine o_la (hl:=rfl) (hc:=hd191) rfl rfl ?_
        refine BY 6 O176 rfl fun g198 w199 O200 S201 h202=>?_
        refine AV h202 rfl rfl rfl (Nat.le_of_ble_eq_true rfl) (by first|exact allOne rfl|simp [Value.cells,Value.oneCell',AQ]) fun w203 S204 h202=>?_
        replace h202:Lc 6 w203 O200 g198 83 [(.int .i64 a174.op),(.slice A195 a174.state.length c196)]:=h202
        refine o_z ?_
        refine Ah ?_
        replace h185:=(h185.st S201).st S204
        obtain ⟨O205,v209,v213,v217,v221,v225,v228,S206,ha208,h207,h210,h214,h218,h222,h226,h229⟩:=Spc.opn h185 4 5 (by decide)
        obtain ⟨A211,c212,rfl⟩:=h210.form
        obtain ⟨A215,c216,rfl⟩:=h214.form
        obtain ⟨A219,c220,rfl⟩:=h218.form
        obtain ⟨A223,c224,rfl⟩:=h222.form
        obtain ⟨p227,rfl⟩:=h226.ptr
        obtain ⟨p230,rfl,hq231⟩:=h229.ptr
        refine BG [(6,[5])] O205 ?_
        refine x_pre (fuel:=8) [] [(0,true),(1,true),(2,true),(3,true),(4,true),(5,true)] (by kernel_rfl) rfl ?_
        refine h_mv rfl rfl rfl (h_nc rfl rfl rfl (h_fa rfl rfl rfl (h_ldC (hc:=fun w' ⟨O',hq⟩=>Blk.cell (i:=4) ((h207.st hq (by decide)).1) rfl) rfl rfl rfl ?_)))
        refine h_fa rfl rfl rfl ?_
        replace h202:=h202.st S206
        refine h_ldC (hc:=fun w' ⟨O',hq⟩=>Blk.cell (i:=1) ((h202.st hq (by decide)).1) rfl) rfl rfl rfl ?_
        refine AK ?_
        refine x_one (i:=6) (by kernel_rfl) rfl ?_
        obtain ⟨q232,e233,hf179⟩:=bs hf179
        replace h194:=((h194.st S201).st S204).st S206
        refine Bh (O:=O205) (CF h226 h194 e233) rfl rfl fun v238 w234 O235 S236 h237=>?_
        obtain ⟨v240,v241,v242,h239,rfl,h243,h244,h245⟩:=h237
        obtain ⟨rfl,r246⟩:=h243.int
        obtain rfl:=h244.bool
        obtain ⟨rfl,r247⟩:=h245.err
        have hZ:=S236.lst [5] (fun _ h=>by cases h;decide)
        refine x_go [] hZ (by kernel_rfl) ?_
        refine x_pre (fuel:=0) [] [(7,true),(8,true),(9,true),(10,true),(11,true),(12,true),(13,true)] (by kernel_rfl) rfl ?_
        refine h_mv rfl rfl rfl (h_ex rfl rfl rfl rfl (h_ex rfl rfl rfl rfl (h_ex rfl rfl rfl rfl (h_as rfl rfl rfl (h_as rfl rfl rfl (h_as rfl rfl rfl (AK ?_)))))))
        refine x_nil (by kernel_rfl) ?_
        refine Ah (Ah (Ae (o_mv rfl rfl (o_rnS rfl rfl (fun c248=>?_) fun c248=>?_))))
        ·
         replace hf179:=ip hf179 c248
         refine o_z ?_
         refine Ar rfl (Ah (Ae (o_mv rfl rfl ?_)))
         obtain ⟨n249,e250,hf179⟩:=bs hf179
         have r251:=(Ba e250)
         refine o_adE (he:=e250) rfl rfl rfl ?_
         obtain ⟨q252,e253,hf179⟩:=bs hf179
         refine Cf (O:=O235) (R:=fun w' F v=>T2 w' F v q252) (CK Fr.lt (show inI64 (3) from by decide) r251 e253) rfl rfl fun v258 w254 O255 S256 h257=>?_
         obtain ⟨v259,v260,rfl,h261,h262⟩:=h257
         obtain ⟨cs263,rfl,v264,rfl,h265,r268,r269,r270⟩:=h261
         obtain ⟨A266,c267,rfl⟩:=h265.form
         obtain ⟨rfl,r271⟩:=h262.err
         refine o_ex rfl rfl rfl (o_ex rfl rfl rfl ?_)
         replace h29:=((((h29.st S201).st S204).st S206).st S236).st S256
         refine AV h29 rfl rfl rfl (Nat.le_of_ble_eq_true rfl) (by first|exact allOne rfl|simp [Value.cells,Value.oneCell',AQ]) fun w272 S273 h29=>?_
         replace h29:Lc 3 w272 O255 g25 30 [(.int .i64 q252.1.verdict),(.slice A266 q252.1.plan.length c267),(.int .i64 q252.1.cost),(.int .i64 q252.1.expanded)]:=h29
         refine o_as rfl rfl (o_z ?_)
         refine Au ?_
         obtain rfl:=sm hf179
         obtain rfl:=hret180 _ rfl
         obtain rfl:=sm (By hf58)
         obtain rfl:=hret59 _ rfl
         obtain rfl:=sm (By hm)
         replace hB:=(((((hB.st S201).st S204).st S206).st S236).st S256).st S273
         replace h265:=h265.st S273
         exact ret2 rfl (BR (cs:=[(.int .i64 q252.1.verdict),(.slice A266 q252.1.plan.length c267),(.int .i64 q252.1.cost),(.int .i64 q252.1.expanded)]) rfl rfl h29.1.cellsAt) (AG rfl) ⟨hB.ext,_,_,rfl,(Vb.mono (F:=Fr 0 w272 O255) (Vb.ofAgg (cs:=[(.int .i64 q252.1.verdict),(.slice A266 q252.1.plan.length c267),(.int .i64 q252.1.cost),(.int .i64 q252.1.expanded)]) (x:=q252.1) rfl ⟨_,rfl,h265,r268,r269,r270⟩) hB.out),(vErr r271)⟩
        ·
         replace hf179:=im hf179 c248
         refine o_z ?_
         refine Aj rfl (Am (Ah (Ae (o_mv rfl rfl (o_z ?_)))))
         refine BP rfl (fun c274=>?_) (fun c274=>?_)
         ·
          replace hf179:=ip hf179 c274
          refine Ah (BG [(8,[5])] O235 ?_)
          refine x_pre (fuel:=2) [] [(0,true),(1,true),(2,true),(3,true),(4,true),(5,true),(6,true),(7,true)] (by kernel_rfl) rfl ?_
          refine h_mv rfl rfl rfl (h_nc rfl rfl rfl (h_fa rfl rfl rfl ?_))
          replace h207:=h207.st S236
          refine h_ldC (hc:=fun w' ⟨O',hq⟩=>Blk.cell (i:=4) ((h207.st hq (by decide)).1) rfl) rfl rfl rfl ?_
          refine h_mv rfl rfl rfl (h_mv rfl rfl rfl (h_fa rfl rfl rfl ?_))
          replace h202:=h202.st S236
          refine h_ldC (hc:=fun w' ⟨O',hq⟩=>Blk.cell (i:=0) ((h202.st hq (by decide)).1) rfl) rfl rfl rfl ?_
          refine AK ?_
          refine x_one (i:=8) (by kernel_rfl) rfl ?_
          obtain ⟨q275,e276,hf179⟩:=bs hf179
          refine Bh (O:=O235) (Dy h239 r246 r65 r197 (show inI64 (0) from by decide) e276) rfl rfl fun v281 w277 O278 S279 h280=>?_
          obtain ⟨h282,h283⟩:=h280
          obtain ⟨rfl,r284⟩:=h283.err
          have hZ:=S279.lst [5] (fun _ h=>by cases h;decide)
          refine x_go [] hZ (by kernel_rfl) ?_
          refine x_pre (fuel:=0) [] [(9,true)] (by kernel_rfl) rfl ?_
          refine h_as rfl rfl rfl (AK ?_)
          refine x_nil (by kernel_rfl) ?_
          refine Ah (Ae (o_mv rfl rfl (o_rnS rfl rfl (fun c285=>?_) fun c285=>?_)))
          ·
           replace hf179:=ip hf179 c285
           refine o_z ?_
           refine Ar rfl (Ah (Ae (o_bd rfl rfl rfl ?_)))
           refine o_mv rfl rfl ?_
           replace h29:=((((h29.st S201).st S204).st S206).st S236).st S279
           refine AV h29 rfl rfl rfl (Nat.le_of_ble_eq_true rfl) (by first|exact allOne rfl|simp [Value.cells,Value.oneCell',AQ]) fun w286 S287 h29=>?_
           replace h29:Lc 3 w286 O278 g25 30 [(.int .i64 0),(.slice none 0 0),(.int .i64 0),(.int .i64 0)]:=h29
           refine o_as rfl rfl (o_z ?_)
           refine Au ?_
           obtain rfl:=sm hf179
           obtain rfl:=hret180 _ rfl
           obtain rfl:=sm (By hf58)
           obtain rfl:=hret59 _ rfl
           obtain rfl:=sm (By hm)
           replace hB:=(((((hB.st S201).st S204).st S206).st S236).st S279).st S287
           exact ret2 rfl (BR (cs:=[(.int .i64 0),(.slice none 0 0),(.int .i64 0),(.int .i64 0)]) rfl rfl h29.1.cellsAt) (AG rfl) ⟨hB.ext,_,_,rfl,(Vb.mono (F:=Fr 0 w286 O278) (Vb.ofAgg (cs:=[(.int .i64 0),(.slice none 0 0),(.int .i64 0),(.int .i64 0)]) (x:=(⟨0,([]:List Int),0,0⟩:Rsl)) rfl ⟨_,rfl,(Vb.nil _ _),(show inI64 0 from by decide),(show inI64 0 from by decide),(show inI64 0 from by decide)⟩) hB.out),(vErr r284)⟩
          ·
           replace hf179:=im hf179 c285
           refine o_z ?_
           refine Aj rfl (Am ?_)
           replace h207:=h207.st S279
           replace h210:=(h210.st S236).st S279
           replace h214:=(h214.st S236).st S279
           replace h218:=(h218.st S236).st S279
           replace h222:=(h222.st S236).st S279
           replace h229:=(h229.st S236).st S279
           obtain ⟨O288,S289,hz291,ha292,h290⟩:=Spc.shut (x:=(⟨(⟨s171.t.vars,s171.t.init,s171.t.goal,s171.t.ops⟩:Tsk),q275.2,s171.gen⟩:Spc)) (l0:=4) (l1:=5) (by decide) h207 h210 h214 h218 h222 h282 h229
           obtain rfl:=sm hf179
           refine (?_:Exists _)
           replace hB:=(((((hB.st S201).st S204).st S206).st S236).st S279).st S289
           replace h8:=(((((h8.st S201).st S204).st S206).st S236).st S279).st S289
           replace h11:=(((((h11.st S201).st S204).st S206).st S236).st S279).st S289
           replace h14:=(((((h14.st S201).st S204).st S206).st S236).st S279).st S289
           replace h17:=(((((h17.st S201).st S204).st S206).st S236).st S279).st S289
           replace h24:=(((((h24.st S201).st S204).st S206).st S236).st S279).st S289
           replace h29:=(((((h29.st S201).st S204).st S206).st S236).st S279).st S289
           replace h158:=(((((h158.st S201).st S204).st S206).st S236).st S279).st S289
           exact ⟨_,(),rfl,⟨rfl,rfl,rfl,rfl,rfl,rfl,rfl,rfl,trivial⟩,_,hB,h24,h8,h11,h14,h17,h29,h290,h158⟩
         ·
          replace hf179:=im' hf179 c274
          refine Am ?_
          replace h207:=h207.st S236
          replace h210:=h210.st S236
          replace h214:=h214.st S236
          replace h218:=h218.st S236
          replace h222:=h222.st S236
          replace h229:=h229.st S236
          obtain ⟨O293,S294,hz296,ha297,h295⟩:=Spc.shut (x:=(⟨(⟨s171.t.vars,s171.t.init,s171.t.goal,s171.t.ops⟩:Tsk),q232.2.2.2,s171.gen⟩:Spc)) (l0:=4) (l1:=5) (by decide) h207 h210 h214 h218 h222 h239 h229
          obtain rfl:=sm hf179
          refine (?_:Exists _)
          replace hB:=((((hB.st S201).st S204).st S206).st S236).st S294
          replace h8:=((((h8.st S201).st S204).st S206).st S236).st S294
          replace h11:=((((h11.st S201).st S204).st S206).st S236).st S294
          replace h14:=((((h14.st S201).st S204).st S206).st S236).st S294
          replace h17:=((((h17.st S201).st S204).st S206).st S236).st S294
          replace h24:=((((h24.st S201).st S204).st S206).st S236).st S294
          replace h29:=((((h29.st S201).st S204).st S206).st S236).st S294
          replace h158:=((((h158.st S201).st S204).st S206).st S236).st S294
          exact ⟨_,(),rfl,⟨rfl,rfl,rfl,rfl,rfl,rfl,rfl,rfl,trivial⟩,_,hB,h24,h8,h11,h14,h17,h29,h295,h158⟩
       replace hB:=(((((hB.st S68).st S98).st S109).st S127).st S157).st S165
       replace h8:=(((((h8.st S68).st S98).st S109).st S127).st S157).st S165
       replace h11:=(((((h11.st S68).st S98).st S109).st S127).st S157).st S165
       replace h14:=((h14.st S127).st S157).st S165
       replace h17:=(((((h17.st S68).st S98).st S109).st S127).st S157).st S165
       replace h24:=((h24.st S127).st S157).st S165
       replace h29:=(((((h29.st S68).st S98).st S109).st S127).st S157).st S165
       rintro l298 w299 ⟨s302,x303,rfl,hs301,O300,hB,h24,h8,h11,h14,h17,h29,h185⟩
       replace hf58:=AW hf58
       refine AO _ hs301 ?_
       refine Ae (o_mv rfl rfl ?_)
       obtain ⟨n304,e305,hf58⟩:=bs hf58
       have r306:=(Ba e305)
       refine o_adE (he:=e305) rfl rfl rfl ?_
       refine o_as rfl rfl (o_z ?_)
       obtain rfl:=sm hf58
       refine (?_:Exists _)
       exact ⟨_,(),rfl,⟨rfl,rfl,rfl,rfl,rfl,trivial⟩,_,hB,h24,h8,h11,h14,h17,h29,h185,r306⟩
     replace hf58:=iT hf58
     refine o_z ?_
     refine Ar rfl (Ah (Ae (o_mv rfl rfl (o_mv rfl rfl (o_mv rfl rfl ?_)))))
     replace h69:=(h69.st S109).st S127
     replace h72:=((h72.st S98).st S109).st S127
     replace h76:=((h76.st S98).st S109).st S127
     replace h80:=((h80.st S98).st S109).st S127
     replace h84:=((h84.st S98).st S109).st S127
     replace h91:=((h91.st S98).st S109).st S127
     replace h112:=h112.st S127
     obtain ⟨O307,S308,hz310,ha311,h309⟩:=Spc.shut (x:=s50.2) (l0:=4) (l1:=5) (by decide) h69 h72 h76 h80 h84 h112 h91
     obtain ⟨q312,e313,hf58⟩:=bs hf58
     refine Bh (O:=O307) (Es h309 r65 r65 e313) rfl rfl fun v318 w314 O315 S316 h317=>?_
     obtain ⟨v320,v321,h319,rfl,h322,h323⟩:=h317
     obtain ⟨cs324,rfl,v325,rfl,h326,r329,r330,r331⟩:=h322
     obtain ⟨A327,c328,rfl⟩:=h326.form
     obtain ⟨rfl,r332⟩:=h323.err
     refine o_ex rfl rfl rfl (o_ex rfl rfl rfl ?_)
     replace h29:=(((((h29.st S68).st S98).st S109).st S127).st S308).st S316
     refine AV h29 rfl rfl rfl (Nat.le_of_ble_eq_true rfl) (by first|exact allOne rfl|simp [Value.cells,Value.oneCell',AQ]) fun w333 S334 h29=>?_
     replace h29:Lc 3 w333 O315 g25 30 [(.int .i64 q312.1.verdict),(.slice A327 q312.1.plan.length c328),(.int .i64 q312.1.cost),(.int .i64 q312.1.expanded)]:=h29
     refine o_as rfl rfl (o_z ?_)
     refine Au ?_
     obtain rfl:=sm hf58
     obtain rfl:=hret59 _ rfl
     obtain rfl:=sm (By hm)
     replace hB:=((((((hB.st S68).st S98).st S109).st S127).st S308).st S316).st S334
     replace h326:=h326.st S334
     exact ret2 rfl (BR (cs:=[(.int .i64 q312.1.verdict),(.slice A327 q312.1.plan.length c328),(.int .i64 q312.1.cost),(.int .i64 q312.1.expanded)]) rfl rfl h29.1.cellsAt) (AG rfl) ⟨hB.ext,_,_,rfl,(Vb.mono (F:=Fr 0 w333 O315) (Vb.ofAgg (cs:=[(.int .i64 q312.1.verdict),(.slice A327 q312.1.plan.length c328),(.int .i64 q312.1.cost),(.int .i64 q312.1.expanded)]) (x:=q312.1) rfl ⟨_,rfl,h326,r329,r330,r331⟩) hB.out),(vErr r332)⟩
   ·
    replace hf58:=im hf58 c104
    refine o_z ?_
    refine Aj rfl (At ?_)
    replace h69:=h69.st S98
    replace h72:=h72.st S98
    replace h76:=h76.st S98
    replace h80:=h80.st S98
    replace h84:=h84.st S98
    replace h91:=h91.st S98
    obtain ⟨O335,S336,hz338,ha339,h337⟩:=Spc.shut (x:=s50.2) (l0:=4) (l1:=5) (by decide) h69 h72 h76 h80 h84 h101 h91
    obtain rfl:=sm hf58
    refine (?_:Exists _)
    replace hB:=((hB.st S68).st S98).st S336
    replace h29:=((h29.st S68).st S98).st S336
    exact ⟨_,(),hbrk60 _ rfl,⟨rfl,rfl,trivial⟩,_,hB,h29,h337,r65⟩
  replace hB:=((hB.st S23).st S28).st S34
  replace h29:=h29.st S34
  rintro l340 w341 ⟨s344,x345,rfl,hs343,O342,hB,h29,h66,r65⟩
  replace hm:=AW hm
  refine AO _ hs343 ?_
  refine Ah (Ae (o_mv rfl rfl (o_nc rfl rfl ?_)))
  obtain ⟨O346,v350,v354,v358,v362,v366,v369,S347,ha349,h348,h351,h355,h359,h363,h367,h370⟩:=Spc.opn h66 4 5 (by decide)
  obtain ⟨A352,c353,rfl⟩:=h351.form
  obtain ⟨A356,c357,rfl⟩:=h355.form
  obtain ⟨A360,c361,rfl⟩:=h359.form
  obtain ⟨A364,c365,rfl⟩:=h363.form
  obtain ⟨p368,rfl⟩:=h367.ptr
  obtain ⟨p371,rfl,hq372⟩:=h370.ptr
  refine o_fa rfl rfl (o_ld (hc:=Blk.cell (i:=4) (h348.1) rfl) rfl rfl ?_)
  obtain ⟨q373,e374,hm⟩:=bs hm
  refine Bh (O:=O346) (Cb h367 e374) rfl rfl fun v379 w375 O376 S377 h378=>?_
  obtain ⟨h380,h381⟩:=h378
  obtain ⟨rfl,r382⟩:=h381.int
  obtain ⟨q383,e384,hm⟩:=bs hm
  refine Cf (O:=O376) (R:=fun w' F v=>T2 w' F v q383) (CK Fr.lt (show inI64 (2) from by decide) r382 e384) rfl rfl fun v389 w385 O386 S387 h388=>?_
  obtain ⟨v390,v391,rfl,h392,h393⟩:=h388
  obtain ⟨cs394,rfl,v395,rfl,h396,r399,r400,r401⟩:=h392
  obtain ⟨A397,c398,rfl⟩:=h396.form
  obtain ⟨rfl,r402⟩:=h393.err
  refine o_ex rfl rfl rfl (o_ex rfl rfl rfl ?_)
  replace h29:=((h29.st S347).st S377).st S387
  refine AV h29 rfl rfl rfl (Nat.le_of_ble_eq_true rfl) (by first|exact allOne rfl|simp [Value.cells,Value.oneCell',AQ]) fun w403 S404 h29=>?_
  replace h29:Lc 3 w403 O386 g25 30 [(.int .i64 q383.1.verdict),(.slice A397 q383.1.plan.length c398),(.int .i64 q383.1.cost),(.int .i64 q383.1.expanded)]:=h29
  refine o_as rfl rfl (o_z ?_)
  refine Au ?_
  obtain rfl:=sm hm
  replace hB:=(((hB.st S347).st S377).st S387).st S404
  replace h396:=h396.st S404
  exact ret2 rfl (BR (cs:=[(.int .i64 q383.1.verdict),(.slice A397 q383.1.plan.length c398),(.int .i64 q383.1.cost),(.int .i64 q383.1.expanded)]) rfl rfl h29.1.cellsAt) (AG rfl) ⟨hB.ext,_,_,rfl,(Vb.mono (F:=Fr 0 w403 O386) (Vb.ofAgg (cs:=[(.int .i64 q383.1.verdict),(.slice A397 q383.1.plan.length c398),(.int .i64 q383.1.cost),(.int .i64 q383.1.expanded)]) (x:=q383.1) rfl ⟨_,rfl,h396,r399,r400,r401⟩) hB.out),(vErr r402)⟩
noncomputable def BI (x0:Tsk) (x1:Int):Option (Rsl×Err) :=
  bnd (Ca x0) fun q30=>if q30.2.n≠0 then (some ((⟨0,([]:List Int),0,0⟩:Rsl),(⟨q30.2.n⟩:Err))) else (bnd q30.1 fun o68=>bnd (lop (ρ:=Rsl×Err) (fun (s78:(List Int)×(List Bool)×Int×Int×Spc×(BxR 98 96 Itm))=>bnd (Be s78.2.2.2.2.2.l) fun q116=>if 0 < q116 then (bnd (BL s78.2.2.2.2.2) fun q130=>bnd (atI s78.2.1 q130.1.x.id) fun a152=>if a152=true then (some (.next (s78.1,s78.2.1,s78.2.2.1,s78.2.2.2.1,s78.2.2.2.2.1,q130.2))) else (bnd (Bc s78.2.2.2.2.1.reg q130.1.x.id) fun q191=>if q191.2.n≠0 then (some (.ret ((⟨0,([]:List Int),0,0⟩:Rsl),(⟨q191.2.n⟩:Err)))) else (bnd (Cy x0.goal q191.1) fun q209=>if q209=true then bnd (Bu s78.2.2.2.2.1 q130.1.x.id s78.2.2.2.1) fun q581=>some (.ret (q581.1,(⟨q581.2.n⟩:Err))) else if x1≤s78.2.2.2.1 then (bnd (Bn 3 s78.2.2.2.1) fun q217=>some (.ret (q217.1,(⟨q217.2.n⟩:Err)))) else (bnd (atI s78.2.1 q130.1.x.id) fun a239=>bnd (chkI (s78.2.2.2.1 + 1)) fun n252=>bnd (AS s78.2.2.2.2.1.gen q191.1) fun q255=>bnd (rng (ρ:=Ctl ((List Int)×(List Bool)×Int×Int×Spc×(BxR 98 96 Itm)) (Rsl×Err)) (fun (k275:Nat) (a276:Suc) (s273:(List Int)×(List Bool)×Int×Spc×(BxR 98 96 Itm))=>bnd (AX s273.2.2.2.1.reg a276.state) fun q346=>if q346.2.2.1.n≠0 then (bnd (Bn 3 n252) fun q363=>some (.ret (.ret (q363.1,(⟨q363.2.n⟩:Err))))) else (bnd (atI x0.ops a276.op) fun a385=>bnd (chkI (q130.1.x.cost + a385.cost)) fun n406=>bnd (if q346.2.1=true then (bnd (appI 8 s273.1 [n406]) fun u418=>bnd (appI 1 s273.2.1 [false]) fun u430=>some (.done (u418,u430))) else (bnd (bnd (atI s273.2.1 q346.1) fun a451=>if a451=true then (some true) else (bnd (atI s273.1 q346.1) fun a468=>if a468≤n406 then (some true) else (some false)):Option Bool) fun y447=>if y447=true then (some (.ret (.next (s273.1,s273.2.1,s273.2.2.1,(⟨(⟨s273.2.2.2.1.t.vars,s273.2.2.2.1.t.init,s273.2.2.2.1.t.goal,s273.2.2.2.1.t.ops⟩:Tsk),q346.2.2.2,s273.2.2.2.1.gen⟩:Spc),s273.2.2.2.2)))) else (some (.done (s273.1,s273.2.1)))):Option (Fin ((List Int)×(List Bool)) (Ctl ((List Int)×(List Bool)×Int×Spc×(BxR 98 96 Itm)) (Ctl ((List Int)×(List Bool)×Int×Int×Spc×(BxR 98 96 Itm)) (Rsl×Err))))) fun y409=>fin y409 fun (s411:(List Int)×(List Bool))=>bnd (atI s411.1 q346.1) fun a500=>bnd (Bd ((⟨(⟨s273.2.2.2.1.t.vars,s273.2.2.2.1.t.init,s273.2.2.2.1.t.goal,s273.2.2.2.1.t.ops⟩:Tsk),q346.2.2.2,s273.2.2.2.1.gen⟩:Spc).reg) q346.1 q130.1.x.id a276.op n406) fun q541=>if q541.1.n≠0 then (some (.ret (.ret ((⟨0,([]:List Int),0,0⟩:Rsl),(⟨q541.1.n⟩:Err))))) else (bnd (BH s273.2.2.2.2 (⟨(⟨n406,s273.2.2.1,q346.1⟩:Itm)⟩:An 96 Itm)) fun q554=>bnd (chkI (s273.2.2.1 + 1)) fun n562=>some (.next ((s411.1.set (q346.1:Int).toNat n406),s411.2,n562,(⟨(⟨(⟨(⟨s273.2.2.2.1.t.vars,s273.2.2.2.1.t.init,s273.2.2.2.1.t.goal,s273.2.2.2.1.t.ops⟩:Tsk),q346.2.2.2,s273.2.2.2.1.gen⟩:Spc).t.vars,(⟨(⟨s273.2.2.2.1.t.vars,s273.2.2.2.1.t.init,s273.2.2.2.1.t.goal,s273.2.2.2.1.t.ops⟩:Tsk),q346.2.2.2,s273.2.2.2.1.gen⟩:Spc).t.init,(⟨(⟨s273.2.2.2.1.t.vars,s273.2.2.2.1.t.init,s273.2.2.2.1.t.goal,s273.2.2.2.1.t.ops⟩:Tsk),q346.2.2.2,s273.2.2.2.1.gen⟩:Spc).t.goal,(⟨(⟨s273.2.2.2.1.t.vars,s273.2.2.2.1.t.init,s273.2.2.2.1.t.goal,s273.2.2.2.1.t.ops⟩:Tsk),q346.2.2.2,s273.2.2.2.1.gen⟩:Spc).t.ops⟩:Tsk),q541.2,(⟨(⟨s273.2.2.2.1.t.vars,s273.2.2.2.1.t.init,s273.2.2.2.1.t.goal,s273.2.2.2.1.t.ops⟩:Tsk),q346.2.2.2,s273.2.2.2.1.gen⟩:Spc).gen⟩:Spc),q554))))) q255 0 (s78.1,(s78.2.1.set (q130.1.x.id:Int).toNat true),s78.2.2.1,s78.2.2.2.2.1,q130.2)) fun res271=>fin res271 fun (s574:(List Int)×(List Bool)×Int×Spc×(BxR 98 96 Itm))=>some (.next (s574.1,s574.2.1,s574.2.2.1,n252,s574.2.2.2.1,s574.2.2.2.2)))))) else (some (.brk (s78.1,s78.2.1,s78.2.2.1,s78.2.2.2.1,s78.2.2.2.2.1,s78.2.2.2.2.2)))) (([0]:List Int),[false],1,0,o68,(⟨[(⟨0,0,0⟩:Itm)]⟩:BxR 98 96 Itm))) fun res76=>fin res76 fun (s613:(List Int)×(List Bool)×Int×Int×Spc×(BxR 98 96 Itm))=>bnd (Bn 2 s613.2.2.2.1) fun q615=>some (q615.1,(⟨q615.2.n⟩:Err)))
theorem Fm {w:World} {A:Nat→Prop} (hA:∀ k,A k→k < w.heap.size) {vx0:Value} {x0:Tsk} (hx0:Vb w A vx0 x0) {x1:Int} (rx1:inI64 x1) {r:Rsl×Err} (hm:BI x0 x1=some r) :
    Fn Try.prog 20 [vx0,(.int .i64 x1)] w fun v w'=>Ext w w'∧T2 w' (upA A w w') v r:=by
 obtain ⟨O,hB,hA0⟩:=enter hA
 replace hx0:=hx0.mono hA0
 obtain ⟨cs3,rfl,v4,v5,v6,v7,rfl,h8,h11,h14,h17⟩:=hx0
 obtain ⟨A9,c10,rfl⟩:=h8.form
 obtain ⟨A12,c13,rfl⟩:=h11.form
 obtain ⟨A15,c16,rfl⟩:=h14.form
 obtain ⟨A18,c19,rfl⟩:=h17.form
 refine AL Try.func20 rfl Try.ntmps20 rfl ?_
 unfold BI at hm
 refine Ah (Ae (l_box 2 O rfl rfl fun g20 w21 O22 S23 h24=>?_))
 replace h24:Lc 2 w21 O22 g20 26 [(.slice A9 x0.vars.length c10),(.slice A12 x0.init.length c13),(.slice A15 x0.goal.length c16),(.slice A18 x0.ops.length c19)]:=h24
 refine BY 3 O22 rfl fun g25 w26 O27 S28 h29=>?_
 refine o_as rfl rfl (o_z ?_)
 refine Ah (Ae ?_)
 replace h24:=h24.st S28
 refine o_la (hl:=rfl) (hc:=(h24.1).cellsAt) rfl rfl ?_
 obtain ⟨q30,e31,hm⟩:=bs hm
 replace h8:=(h8.st S23).st S28
 replace h11:=(h11.st S23).st S28
 replace h14:=(h14.st S23).st S28
 replace h17:=(h17.st S23).st S28
 refine Bh (O:=O27) (EJ (Vb.ofAgg (cs:=[(.slice A9 x0.vars.length c10),(.slice A12 x0.init.length c13),(.slice A15 x0.goal.length c16),(.slice A18 x0.ops.length c19)]) (x:=x0) rfl ⟨_,_,_,_,rfl,h8,h11,h14,h17⟩) 4 (by decide) e31) rfl rfl fun v36 w32 O33 S34 h35=>?_
 obtain ⟨v37,v38,rfl,h39,h40⟩:=h35
 obtain ⟨rfl,r41⟩:=h40.err
 refine o_mv rfl rfl (o_ex rfl rfl rfl (o_ex rfl rfl rfl (o_as rfl rfl (o_as rfl rfl (o_z ?_)))))
 refine Ah (Ah (Ae (o_mv rfl rfl (o_rnS rfl rfl (fun c42=>?_) fun c42=>?_))))
 ·
  replace hm:=ip hm c42
  refine o_z ?_
  refine Ar rfl (Ah (Ae (o_bd rfl rfl rfl ?_)))
  refine o_mv rfl rfl ?_
  replace h29:=h29.st S34
  refine AV h29 rfl rfl rfl (Nat.le_of_ble_eq_true rfl) (by first|exact allOne rfl|simp [Value.cells,Value.oneCell',AQ]) fun w43 S44 h29=>?_
  replace h29:Lc 3 w43 O33 g25 30 [(.int .i64 0),(.slice none 0 0),(.int .i64 0),(.int .i64 0)]:=h29
  refine o_as rfl rfl (o_z ?_)
  refine Au ?_
  obtain rfl:=sm hm
  replace hB:=(((hB.st S23).st S28).st S34).st S44
  exact ret2 rfl (BR (cs:=[(.int .i64 0),(.slice none 0 0),(.int .i64 0),(.int .i64 0)]) rfl rfl h29.1.cellsAt) (AG rfl) ⟨hB.ext,_,_,rfl,(Vb.mono (F:=Fr 0 w43 O33) (Vb.ofAgg (cs:=[(.int .i64 0),(.slice none 0 0),(.int .i64 0),(.int .i64 0)]) (x:=(⟨0,([]:List Int),0,0⟩:Rsl)) rfl ⟨_,rfl,(Vb.nil _ _),(show inI64 0 from by decide),(show inI64 0 from by decide),(show inI64 0 from by decide)⟩) hB.out),(vErr r41)⟩
 ·
  replace hm:=im hm c42
  refine o_z ?_
  refine Aj rfl (Am (Ah (Ae (BT 5 (by decide) O33 (xs:=(([0]:List Int):List Int)) rfl rfl rfl rfl ⟨(vInt (show inI64 (0) from by decide)),trivial⟩ (by decide) (by decide) rfl fun g45 w46 O47 S48 h49=>?_))))
  refine BT 6 (by decide) O47 (xs:=([false]:List Bool)) rfl rfl rfl rfl ⟨vBool,trivial⟩ (by decide) (by decide) rfl fun g51 w52 O53 S54 h55=>?_
  refine o_as rfl rfl (o_as rfl rfl (o_z ?_))
  refine Ah (Ae (o_bd rfl rfl rfl ?_))
  refine BT 7 (by decide) O53 (xs:=([(⟨0,0,0⟩:Itm)]:List Itm)) rfl rfl rfl rfl ⟨(Vb.ofAgg (cs:=[(.int .i64 0),(.int .i64 0),(.int .i64 0)]) (x:=(⟨0,0,0⟩:Itm)) rfl ⟨rfl,(show inI64 0 from by decide),(show inI64 0 from by decide),(show inI64 0 from by decide)⟩),trivial⟩ (by decide) (by decide) rfl fun g57 w58 O59 S60 h61=>?_
  refine l_box 8 O59 rfl rfl fun g63 w64 O65 S66 h67=>?_
  refine o_as rfl rfl (o_z ?_)
  refine Ah (Ae (o_as rfl rfl (o_as rfl rfl (o_z ?_))))
  refine Ah ?_
  obtain ⟨o68,e69,hm⟩:=bs hm
  replace h39:=(((h39.st S48).st S54).st S60).st S66
  rw [e69] at h39
  obtain ⟨p70,rfl⟩:=Ob.ptr h39
  replace h61:=h61.st S66
  obtain ⟨O71,S72,hz74,ha75,h73⟩:=BxR.shut (x:=(⟨[(⟨0,0,0⟩:Itm)]⟩:BxR 98 96 Itm)) (l0:=8) (l1:=7) (by decide) h67 h61
  obtain ⟨res76,hL77,hm⟩:=bs hm
  refine AM (aft res76 (fun (s78:(List Int)×(List Bool)×Int×Int×Spc×(BxR 98 96 Itm)) (x79:(Option Addr×Nat)×(Option Addr×Nat))=>[(4,(.pointer (some ⟨g25,0,none⟩))),(12,(.int .i64 s78.2.2.2.1))]) (fun s78 x79 w'=>∃ O':Lab,Bs w A w' O'∧Lc 3 w' O' g25 30 [(.int .i64 0),(.slice none 0 0),(.int .i64 0),(.int .i64 0)]∧inI64 s78.2.2.1∧inI64 s78.2.2.2.1)) ?_ ?_
  ·
   refine Al ?_
   replace hB:=(((((((hB.st S23).st S28).st S34).st S48).st S54).st S60).st S66).st S72
   replace h8:=(((((h8.st S34).st S48).st S54).st S60).st S66).st S72
   replace h11:=(((((h11.st S34).st S48).st S54).st S60).st S66).st S72
   replace h14:=(((((h14.st S34).st S48).st S54).st S60).st S66).st S72
   replace h17:=(((((h17.st S34).st S48).st S54).st S60).st S66).st S72
   replace h24:=(((((h24.st S34).st S48).st S54).st S60).st S66).st S72
   replace h29:=(((((h29.st S34).st S48).st S54).st S60).st S66).st S72
   replace h39:=h39.st S72
   replace h49:=(((h49.st S54).st S60).st S66).st S72
   replace h55:=((h55.st S60).st S66).st S72
   refine DL (σ:=(List Int)×(List Bool)×Int×Int×Spc×(BxR 98 96 Itm)) (X:=(Option Addr×Nat)×(Option Addr×Nat)) hL77 (fun (s78:(List Int)×(List Bool)×Int×Int×Spc×(BxR 98 96 Itm)) (x79:(Option Addr×Nat)×(Option Addr×Nat))=>[(1,(.int .i64 x1)),(2,(.pointer (some ⟨g20,0,none⟩))),(4,(.pointer (some ⟨g25,0,none⟩))),(6,(.pointer (some ⟨p70,0,none⟩))),(8,(.slice x79.1.1 s78.1.length x79.1.2)),(9,(.slice x79.2.1 s78.2.1.length x79.2.2)),(10,(.pointer (some ⟨g63,0,none⟩))),(11,(.int .i64 s78.2.2.1)),(12,(.int .i64 s78.2.2.2.1))]) _ (fun s78 x79 w'=>∃ O':Lab,Bs w A w' O'∧Lc 2 w' O' g20 26 [(.slice A9 x0.vars.length c10),(.slice A12 x0.init.length c13),(.slice A15 x0.goal.length c16),(.slice A18 x0.ops.length c19)]∧Vb w' (Fr 0 w' O') (.slice A9 x0.vars.length c10) x0.vars∧Vb w' (Fr 0 w' O') (.slice A12 x0.init.length c13) x0.init∧Vb w' (Fr 0 w' O') (.slice A15 x0.goal.length c16) x0.goal∧Vb w' (Fr 0 w' O') (.slice A18 x0.ops.length c19) x0.ops∧Lc 3 w' O' g25 30 [(.int .i64 0),(.slice none 0 0),(.int .i64 0),(.int .i64 0)]∧Ob 4 w' O' (.pointer (some ⟨p70,0,none⟩)) s78.2.2.2.2.1∧Rw 5 w' O' 3 (.slice x79.1.1 s78.1.length x79.1.2) s78.1∧Rw 6 w' O' 4 (.slice x79.2.1 s78.2.1.length x79.2.2) s78.2.1∧Ob 8 w' O' (.pointer (some ⟨g63,0,none⟩)) s78.2.2.2.2.2∧inI64 s78.2.2.1∧inI64 s78.2.2.2.1) _ (((some ⟨g45,0,none⟩),1),((some ⟨g51,0,none⟩),1)) ⟨O71,hB,h24,h8,h11,h14,h17,h29,h39,h49,h55,h73,(show inI64 (1) from by decide),(show inI64 (0) from by decide)⟩ ⟨rfl,rfl,rfl,rfl,rfl,rfl,rfl,rfl,rfl,trivial⟩ ?_
   rintro s78 x79 w82 cc84 ⟨O83,hB,h24,h8,h11,h14,h17,h29,h105,h99,h101,h106,r103,r104⟩ hf86 hret87 hbrk88
   refine Ah (Ah (Ae (o_mv rfl rfl (o_nc rfl rfl ?_))))
   obtain ⟨O107,v111,S108,ha110,h109,h112⟩:=BxR.opn h106 8 9 (by decide)
   obtain ⟨A113,c114,rfl⟩:=h112.form
   refine o_ld (hc:=Blk.cell (i:=0) (h109.1) rfl) rfl rfl ?_
   obtain ⟨q116,e117,hf86⟩:=bs hf86
   refine BK (O:=O107) (A:=All w82) (R:=fun w' F v=>Vb w' F v q116) (DP (fun _ h=>h) (h112).all e117) rfl rfl fun v122 w118 O119 S120 h121=>?_
   obtain ⟨rfl,r123⟩:=h121.int
   refine o_gtS rfl rfl rfl (fun c124=>?_) fun c124=>?_
   ·
    replace hf86:=ip hf86 c124
    refine o_z ?_
    refine Ar rfl (Am (Al (Ah (Ae (o_mv rfl rfl (o_miA rfl rfl ?_))))))
    replace h109:=h109.st S120
    replace h112:=h112.st S120
    obtain ⟨O125,S126,hz128,ha129,h127⟩:=BxR.shut (x:=s78.2.2.2.2.2) (l0:=8) (l1:=9) (by decide) h109 h112
    obtain ⟨q130,e131,hf86⟩:=bs hf86
    refine Bh (O:=O125) (GF h127 e131) rfl rfl fun v136 w132 O133 S134 h135=>?_
    obtain ⟨h137,h138⟩:=h135
    obtain ⟨v139,rfl,h140⟩:=h138.any
    obtain ⟨cs141,rfl,rfl,r142,r143,r144⟩:=h140
    refine o_taA rfl rfl ?_
    refine o_mv rfl rfl (o_ex rfl rfl rfl (o_ex rfl rfl rfl (BY 10 O133 rfl fun g145 w146 O147 S148 h149=>?_)))
    refine AV h149 rfl rfl rfl (Nat.le_of_ble_eq_true rfl) (by first|exact allOne rfl|simp [Value.cells,Value.oneCell',AQ]) fun w150 S151 h149=>?_
    replace h149:Lc 10 w150 O147 g145 96 [(.int .i64 q130.1.x.cost),(.int .i64 q130.1.x.order),(.int .i64 q130.1.x.id)]:=h149
    refine o_as rfl rfl (o_z ?_)
    refine Ah (Ah (Ae (o_mv rfl rfl (o_fa rfl rfl (o_ld (hc:=Blk.cell (i:=2) (h149.1) rfl) rfl rfl ?_)))))
    obtain ⟨a152,e153,hf86⟩:=bs hf86
    obtain ⟨p155,x154⟩:=AN e153
    replace h101:=(((((h101.st S108).st S120).st S126).st S134).st S148).st S151
    obtain ⟨b156,o157,ce158,hA159,hl160,hd161,rfl⟩:=h101.elem x154
    refine o_iaE (hA:=hA159) (hj:=(Int.toNat_of_nonneg p155).symm) (hlt:=hl160) rfl rfl rfl ?_
    refine o_ld (hc:=cat0 hd161) rfl rfl ?_
    refine o_z ?_
    refine BP rfl (fun c163=>?_) (fun c163=>?_)
    ·
     replace hf86:=ip hf86 c163
     refine At ?_
     obtain rfl:=sm hf86
     refine (?_:Exists _)
     replace hB:=(((((hB.st S108).st S120).st S126).st S134).st S148).st S151
     replace h8:=(((((h8.st S108).st S120).st S126).st S134).st S148).st S151
     replace h11:=(((((h11.st S108).st S120).st S126).st S134).st S148).st S151
     replace h14:=(((((h14.st S108).st S120).st S126).st S134).st S148).st S151
     replace h17:=(((((h17.st S108).st S120).st S126).st S134).st S148).st S151
     replace h24:=(((((h24.st S108).st S120).st S126).st S134).st S148).st S151
     replace h29:=(((((h29.st S108).st S120).st S126).st S134).st S148).st S151
     replace h99:=(((((h99.st S108).st S120).st S126).st S134).st S148).st S151
     replace h105:=(((((h105.st S108).st S120).st S126).st S134).st S148).st S151
     replace h137:=(h137.st S148).st S151
     exact ⟨_,((x79.1.1,x79.1.2),(x79.2.1,x79.2.2)),rfl,⟨rfl,rfl,rfl,rfl,rfl,rfl,rfl,rfl,rfl,trivial⟩,_,hB,h24,h8,h11,h14,h17,h29,h105,h99,h101,h137,r103,r104⟩
    ·
     replace hf86:=im' hf86 c163
     refine Am (Ah ?_)
     replace h105:=(((((h105.st S108).st S120).st S126).st S134).st S148).st S151
     obtain ⟨O164,v168,v172,v176,v180,v184,v187,S165,ha167,h166,h169,h173,h177,h181,h185,h188⟩:=Spc.opn h105 4 11 (by decide)
     obtain ⟨A170,c171,rfl⟩:=h169.form
     obtain ⟨A174,c175,rfl⟩:=h173.form
     obtain ⟨A178,c179,rfl⟩:=h177.form
     obtain ⟨A182,c183,rfl⟩:=h181.form
     obtain ⟨p186,rfl⟩:=h185.ptr
     obtain ⟨p189,rfl,hq190⟩:=h188.ptr
     refine BG [(6,[11])] O164 ?_
     refine x_pre (fuel:=6) [] [(0,true),(1,true),(2,true),(3,true),(4,true),(5,true)] (by kernel_rfl) rfl ?_
     refine h_mv rfl rfl rfl (h_nc rfl rfl rfl (h_fa rfl rfl rfl (h_ldC (hc:=fun w' ⟨O',hq⟩=>Blk.cell (i:=4) ((h166.st hq (by decide)).1) rfl) rfl rfl rfl ?_)))
     refine h_fa rfl rfl rfl ?_
     replace h149:=h149.st S165
     refine h_ldC (hc:=fun w' ⟨O',hq⟩=>Blk.cell (i:=2) ((h149.st hq (by decide)).1) rfl) rfl rfl rfl ?_
     refine AK ?_
     refine x_one (i:=6) (by kernel_rfl) rfl ?_
     obtain ⟨q191,e192,hf86⟩:=bs hf86
     refine Bh (O:=O164) (CT h185 r144 e192) rfl rfl fun v197 w193 O194 S195 h196=>?_
     obtain ⟨v199,v200,h198,rfl,h201,h202⟩:=h196
     obtain ⟨A203,c204,rfl⟩:=h201.form
     obtain ⟨rfl,r205⟩:=h202.err
     have hZ:=S195.lst [11] (fun _ h=>by cases h;decide)
     refine x_go [] hZ (by kernel_rfl) ?_
     refine x_pre (fuel:=0) [] [(7,true),(8,true),(9,true),(10,true),(11,true)] (by kernel_rfl) rfl ?_
     refine h_mv rfl rfl rfl (h_ex rfl rfl rfl rfl (h_ex rfl rfl rfl rfl (h_as rfl rfl rfl (h_as rfl rfl rfl (AK ?_)))))
     refine x_nil (by kernel_rfl) ?_
     refine Ah (Ah (Ae (o_mv rfl rfl (o_rnS rfl rfl (fun c206=>?_) fun c206=>?_))))
     ·
      replace hf86:=ip hf86 c206
      refine o_z ?_
      refine Ar rfl (Ah (Ae (o_bd rfl rfl rfl ?_)))
      refine o_mv rfl rfl ?_
      replace h29:=(((((((h29.st S108).st S120).st S126).st S134).st S148).st S151).st S165).st S195
      refine AV h29 rfl rfl rfl (Nat.le_of_ble_eq_true rfl) (by first|exact allOne rfl|simp [Value.cells,Value.oneCell',AQ]) fun w207 S208 h29=>?_
      replace h29:Lc 3 w207 O194 g25 30 [(.int .i64 0),(.slice none 0 0),(.int .i64 0),(.int .i64 0)]:=h29
      refine o_as rfl rfl (o_z ?_)
      refine Au ?_
      obtain rfl:=sm hf86
      obtain rfl:=hret87 _ rfl
      obtain rfl:=sm (By hm)
      replace hB:=((((((((hB.st S108).st S120).st S126).st S134).st S148).st S151).st S165).st S195).st S208
      exact ret2 rfl (BR (cs:=[(.int .i64 0),(.slice none 0 0),(.int .i64 0),(.int .i64 0)]) rfl rfl h29.1.cellsAt) (AG rfl) ⟨hB.ext,_,_,rfl,(Vb.mono (F:=Fr 0 w207 O194) (Vb.ofAgg (cs:=[(.int .i64 0),(.slice none 0 0),(.int .i64 0),(.int .i64 0)]) (x:=(⟨0,([]:List Int),0,0⟩:Rsl)) rfl ⟨_,rfl,(Vb.nil _ _),(show inI64 0 from by decide),(show inI64 0 from by decide),(show inI64 0 from by decide)⟩) hB.out),(vErr r205)⟩
     ·
      replace hf86:=im hf86 c206
      refine o_z ?_
      refine Aj rfl (Am (Ah (Ah (Ae (o_fa rfl rfl ?_)))))
      replace h24:=(((((((h24.st S108).st S120).st S126).st S134).st S148).st S151).st S165).st S195
      refine o_ld (hc:=Blk.cell (i:=2) (h24.1) rfl) rfl rfl ?_
      refine o_mv rfl rfl ?_
      obtain ⟨q209,e210,hf86⟩:=bs hf86
      replace h14:=(((((((h14.st S108).st S120).st S126).st S134).st S148).st S151).st S165).st S195
      refine BK (O:=O194) (A:=All w193) (R:=fun w' F v=>Vb w' F v q209) (FB (fun _ h=>h) (Vb.mono (F:=Fr 0 w193 O194) h14 Fr.lt) (Vb.mono (F:=Fr 0 w193 O194) h201 Fr.lt) e210) rfl rfl fun v215 w211 O212 S213 h214=>?_
      obtain rfl:=h214.bool
      cases q209
      case false =>
       replace hf86:=iF hf86
       refine o_z ?_
       refine Aj rfl (Am (Ah (Ah (Ae (o_mv rfl rfl (o_mv rfl rfl (o_geS rfl rfl rfl (fun c216=>?_) fun c216=>?_)))))))
       ·
        replace hf86:=ip hf86 c216
        refine o_z ?_
        refine Ar rfl (Ah (Ae (o_mv rfl rfl ?_)))
        obtain ⟨q217,e218,hf86⟩:=bs hf86
        refine Cf (O:=O212) (R:=fun w' F v=>T2 w' F v q217) (CK Fr.lt (show inI64 (3) from by decide) r104 e218) rfl rfl fun v223 w219 O220 S221 h222=>?_
        obtain ⟨v224,v225,rfl,h226,h227⟩:=h222
        obtain ⟨cs228,rfl,v229,rfl,h230,r233,r234,r235⟩:=h226
        obtain ⟨A231,c232,rfl⟩:=h230.form
        obtain ⟨rfl,r236⟩:=h227.err
        refine o_ex rfl rfl rfl (o_ex rfl rfl rfl ?_)
        replace h29:=(((((((((h29.st S108).st S120).st S126).st S134).st S148).st S151).st S165).st S195).st S213).st S221
        refine AV h29 rfl rfl rfl (Nat.le_of_ble_eq_true rfl) (by first|exact allOne rfl|simp [Value.cells,Value.oneCell',AQ]) fun w237 S238 h29=>?_
        replace h29:Lc 3 w237 O220 g25 30 [(.int .i64 q217.1.verdict),(.slice A231 q217.1.plan.length c232),(.int .i64 q217.1.cost),(.int .i64 q217.1.expanded)]:=h29
        refine o_as rfl rfl (o_z ?_)
        refine Au ?_
        obtain rfl:=sm hf86
        obtain rfl:=hret87 _ rfl
        obtain rfl:=sm (By hm)
        replace hB:=((((((((((hB.st S108).st S120).st S126).st S134).st S148).st S151).st S165).st S195).st S213).st S221).st S238
        replace h230:=h230.st S238
        exact ret2 rfl (BR (cs:=[(.int .i64 q217.1.verdict),(.slice A231 q217.1.plan.length c232),(.int .i64 q217.1.cost),(.int .i64 q217.1.expanded)]) rfl rfl h29.1.cellsAt) (AG rfl) ⟨hB.ext,_,_,rfl,(Vb.mono (F:=Fr 0 w237 O220) (Vb.ofAgg (cs:=[(.int .i64 q217.1.verdict),(.slice A231 q217.1.plan.length c232),(.int .i64 q217.1.cost),(.int .i64 q217.1.expanded)]) (x:=q217.1) rfl ⟨_,rfl,h230,r233,r234,r235⟩) hB.out),(vErr r236)⟩
       ·
        replace hf86:=im hf86 c216
        refine o_z ?_
        refine Aj rfl (Am (Ah (Ae (o_mv rfl rfl (o_fa rfl rfl ?_)))))
        replace h149:=(h149.st S195).st S213
        refine o_ld (hc:=Blk.cell (i:=2) (h149.1) rfl) rfl rfl ?_
        obtain ⟨a239,e240,hf86⟩:=bs hf86
        obtain ⟨p242,x241⟩:=AN e240
        replace h101:=((h101.st S165).st S195).st S213
        obtain ⟨b243,o244,ce245,hA246,hl247,hd248,rfl⟩:=h101.elem x241
        refine o_iaE (hA:=hA246) (hj:=(Int.toNat_of_nonneg p242).symm) (hlt:=hl247) rfl rfl rfl ?_
        refine CM rfl h101 (a:=true) vBool hA246 rfl rfl (AJ x241) fun w250 S251 h101=>?_
        refine o_z ?_
        refine Ah (Ae (o_mv rfl rfl ?_))
        obtain ⟨n252,e253,hf86⟩:=bs hf86
        have r254:=(Ba e253)
        refine o_adE (he:=e253) rfl rfl rfl ?_
        refine o_as rfl rfl (o_z ?_)
        refine Ah (Ae (o_mv rfl rfl (o_nc rfl rfl (o_fa rfl rfl ?_))))
        replace h166:=((h166.st S195).st S213).st S251
        refine o_ld (hc:=Blk.cell (i:=5) (h166.1) rfl) rfl rfl ?_
        refine o_mv rfl rfl ?_
        obtain ⟨q255,e256,hf86⟩:=bs hf86
        replace h188:=((h188.st S195).st S213).st S251
        replace h201:=(h201.st S213).st S251
        refine Cf (O:=O212) (R:=fun w' F v=>Vb w' F v q255) (Cz Fr.lt h188 h201 e256) rfl rfl fun v261 w257 O258 S259 h260=>?_
        obtain ⟨A262,c263,rfl⟩:=h260.form
        refine o_ln rfl rfl ?_
        have l265:q255.length≤9223372036854775807:=Nat.le_trans h260.len.2.1 h260.len.2.2
        have r264:inI64 (q255.length:Int):=rngNat l265
        refine o_mv rfl rfl (o_z ?_)
        replace h166:=h166.st S259
        replace h169:=(((h169.st S195).st S213).st S251).st S259
        replace h173:=(((h173.st S195).st S213).st S251).st S259
        replace h177:=(((h177.st S195).st S213).st S251).st S259
        replace h181:=(((h181.st S195).st S213).st S251).st S259
        replace h188:=h188.st S259
        replace h198:=((h198.st S213).st S251).st S259
        obtain ⟨O266,S267,hz269,ha270,h268⟩:=Spc.shut (x:=s78.2.2.2.2.1) (l0:=4) (l1:=11) (by decide) h166 h169 h173 h177 h181 h198 h188
        obtain ⟨res271,hL272,hf86⟩:=bs hf86
        refine AM (aft res271 (fun (s273:(List Int)×(List Bool)×Int×Spc×(BxR 98 96 Itm)) (x274:(Option Addr×Nat)×(Option Addr×Nat))=>[(1,(.int .i64 x1)),(2,(.pointer (some ⟨g20,0,none⟩))),(4,(.pointer (some ⟨g25,0,none⟩))),(6,(.pointer (some ⟨p70,0,none⟩))),(8,(.slice x274.1.1 s273.1.length x274.1.2)),(9,(.slice x274.2.1 s273.2.1.length x274.2.2)),(10,(.pointer (some ⟨g63,0,none⟩))),(11,(.int .i64 s273.2.2.1)),(12,(.int .i64 n252))]) (fun s273 x274 w'=>∃ O':Lab,Bs w A w' O'∧Lc 2 w' O' g20 26 [(.slice A9 x0.vars.length c10),(.slice A12 x0.init.length c13),(.slice A15 x0.goal.length c16),(.slice A18 x0.ops.length c19)]∧Vb w' (Fr 0 w' O') (.slice A9 x0.vars.length c10) x0.vars∧Vb w' (Fr 0 w' O') (.slice A12 x0.init.length c13) x0.init∧Vb w' (Fr 0 w' O') (.slice A15 x0.goal.length c16) x0.goal∧Vb w' (Fr 0 w' O') (.slice A18 x0.ops.length c19) x0.ops∧Lc 3 w' O' g25 30 [(.int .i64 0),(.slice none 0 0),(.int .i64 0),(.int .i64 0)]∧Ob 4 w' O' (.pointer (some ⟨p70,0,none⟩)) s273.2.2.2.1∧Rw 5 w' O' 3 (.slice x274.1.1 s273.1.length x274.1.2) s273.1∧Rw 6 w' O' 4 (.slice x274.2.1 s273.2.1.length x274.2.2) s273.2.1∧Ob 8 w' O' (.pointer (some ⟨g63,0,none⟩)) s273.2.2.2.2∧inI64 s273.2.2.1)) ?_ ?_
        ·
         refine Al ?_
         replace hB:=(((((((((((hB.st S108).st S120).st S126).st S134).st S148).st S151).st S165).st S195).st S213).st S251).st S259).st S267
         replace h8:=(((((((((((h8.st S108).st S120).st S126).st S134).st S148).st S151).st S165).st S195).st S213).st S251).st S259).st S267
         replace h11:=(((((((((((h11.st S108).st S120).st S126).st S134).st S148).st S151).st S165).st S195).st S213).st S251).st S259).st S267
         replace h14:=(((h14.st S213).st S251).st S259).st S267
         replace h17:=(((((((((((h17.st S108).st S120).st S126).st S134).st S148).st S151).st S165).st S195).st S213).st S251).st S259).st S267
         replace h24:=(((h24.st S213).st S251).st S259).st S267
         replace h29:=(((((((((((h29.st S108).st S120).st S126).st S134).st S148).st S151).st S165).st S195).st S213).st S251).st S259).st S267
         replace h99:=(((((((((((h99.st S108).st S120).st S126).st S134).st S148).st S151).st S165).st S195).st S213).st S251).st S259).st S267
         replace h101:=(h101.st S259).st S267
         replace h137:=(((((((h137.st S148).st S151).st S165).st S195).st S213).st S251).st S259).st S267
         replace h149:=((h149.st S251).st S259).st S267
         replace h260:=h260.st S267
         refine BF (σ:=(List Int)×(List Bool)×Int×Spc×(BxR 98 96 Itm)) (X:=(Option Addr×Nat)×(Option Addr×Nat)) (q255.length) hL272 rfl l265 (fun (s273:(List Int)×(List Bool)×Int×Spc×(BxR 98 96 Itm)) (x274:(Option Addr×Nat)×(Option Addr×Nat))=>[(1,(.int .i64 x1)),(2,(.pointer (some ⟨g20,0,none⟩))),(4,(.pointer (some ⟨g25,0,none⟩))),(6,(.pointer (some ⟨p70,0,none⟩))),(8,(.slice x274.1.1 s273.1.length x274.1.2)),(9,(.slice x274.2.1 s273.2.1.length x274.2.2)),(10,(.pointer (some ⟨g63,0,none⟩))),(11,(.int .i64 s273.2.2.1)),(12,(.int .i64 n252)),(13,(.pointer (some ⟨g145,0,none⟩))),(98,(.slice A262 q255.length c263))]) _ (fun s273 x274 w'=>∃ O':Lab,Bs w A w' O'∧Lc 2 w' O' g20 26 [(.slice A9 x0.vars.length c10),(.slice A12 x0.init.length c13),(.slice A15 x0.goal.length c16),(.slice A18 x0.ops.length c19)]∧Vb w' (Fr 0 w' O') (.slice A9 x0.vars.length c10) x0.vars∧Vb w' (Fr 0 w' O') (.slice A12 x0.init.length c13) x0.init∧Vb w' (Fr 0 w' O') (.slice A15 x0.goal.length c16) x0.goal∧Vb w' (Fr 0 w' O') (.slice A18 x0.ops.length c19) x0.ops∧Lc 3 w' O' g25 30 [(.int .i64 0),(.slice none 0 0),(.int .i64 0),(.int .i64 0)]∧Ob 4 w' O' (.pointer (some ⟨p70,0,none⟩)) s273.2.2.2.1∧Rw 5 w' O' 3 (.slice x274.1.1 s273.1.length x274.1.2) s273.1∧Rw 6 w' O' 4 (.slice x274.2.1 s273.2.1.length x274.2.2) s273.2.1∧Ob 8 w' O' (.pointer (some ⟨g63,0,none⟩)) s273.2.2.2.2∧Lc 10 w' O' g145 96 [(.int .i64 q130.1.x.cost),(.int .i64 q130.1.x.order),(.int .i64 q130.1.x.id)]∧Vb w' (Fr 0 w' O') (.slice A262 q255.length c263) q255∧inI64 s273.2.2.1) _ ((x79.1.1,x79.1.2),(x79.2.1,x79.2.2)) ⟨O266,hB,h24,h8,h11,h14,h17,h29,h268,h99,h101.relen,h137,h149,h260,r103⟩ ⟨rfl,rfl,rfl,rfl,rfl,rfl,rfl,(congrArg (fun n=>some (Value.slice _ n _)) ((by simp:(s78.2.1.set (q130.1.x.id:Int).toNat true).length=s78.2.1.length).trans rfl).symm),rfl,rfl,rfl,rfl,rfl,trivial⟩ (fun _ _=>⟨rfl,rfl⟩) (fun _ _=>⟨rfl,rfl,rfl,rfl,rfl,rfl,rfl,rfl,rfl,trivial⟩) (fun _ _ _ ⟨O',hB,h24,h8,h11,h14,h17,h29,h298,h293,h295,h299,h149,h260,r297⟩=>⟨O',hB,h24,h8,h11,h14,h17,h29,h298,h293,h295,h299,r297⟩) ⟨rfl,rfl,rfl⟩ ⟨rfl,rfl⟩ ?_
         rintro k275 a276 s273 x274 w277 cc279 hx280 ⟨O278,hB,h24,h8,h11,h14,h17,h29,h298,h293,h295,h299,h149,h260,r297⟩ hf281 hret282 hbrk283
         have rk275:inI64 (k275:Int):=rngK hx280 l265
         refine Ah (Ae ?_)
         obtain ⟨b300,o301,ce302,hA303,hl304,hd305,v307,rfl,h308,r311⟩:=h260.elem' hx280
         obtain ⟨A309,c310,rfl⟩:=h308.form
         refine o_iaE (hA:=hA303) (hj:=rfl) (hlt:=hl304) rfl rfl rfl ?_
         refine o_la (hl:=rfl) (hc:=hd305) rfl rfl ?_
         refine BY 12 O278 rfl fun g312 w313 O314 S315 h316=>?_
         refine AV h316 rfl rfl rfl (Nat.le_of_ble_eq_true rfl) (by first|exact allOne rfl|simp [Value.cells,Value.oneCell',AQ]) fun w317 S318 h316=>?_
         replace h316:Lc 12 w317 O314 g312 83 [(.int .i64 a276.op),(.slice A309 a276.state.length c310)]:=h316
         refine o_z ?_
         refine Ah ?_
         replace h298:=(h298.st S315).st S318
         obtain ⟨O319,v323,v327,v331,v335,v339,v342,S320,ha322,h321,h324,h328,h332,h336,h340,h343⟩:=Spc.opn h298 4 11 (by decide)
         obtain ⟨A325,c326,rfl⟩:=h324.form
         obtain ⟨A329,c330,rfl⟩:=h328.form
         obtain ⟨A333,c334,rfl⟩:=h332.form
         obtain ⟨A337,c338,rfl⟩:=h336.form
         obtain ⟨p341,rfl⟩:=h340.ptr
         obtain ⟨p344,rfl,hq345⟩:=h343.ptr
         refine BG [(6,[11])] O319 ?_
         refine x_pre (fuel:=8) [] [(0,true),(1,true),(2,true),(3,true),(4,true),(5,true)] (by kernel_rfl) rfl ?_
         refine h_mv rfl rfl rfl (h_nc rfl rfl rfl (h_fa rfl rfl rfl (h_ldC (hc:=fun w' ⟨O',hq⟩=>Blk.cell (i:=4) ((h321.st hq (by decide)).1) rfl) rfl rfl rfl ?_)))
         refine h_fa rfl rfl rfl ?_
         replace h316:=h316.st S320
         refine h_ldC (hc:=fun w' ⟨O',hq⟩=>Blk.cell (i:=1) ((h316.st hq (by decide)).1) rfl) rfl rfl rfl ?_
         refine AK ?_
         refine x_one (i:=6) (by kernel_rfl) rfl ?_
         obtain ⟨q346,e347,hf281⟩:=bs hf281
         replace h308:=((h308.st S315).st S318).st S320
         refine Bh (O:=O319) (CF h340 h308 e347) rfl rfl fun v352 w348 O349 S350 h351=>?_
         obtain ⟨v354,v355,v356,h353,rfl,h357,h358,h359⟩:=h351
         obtain ⟨rfl,r360⟩:=h357.int
         obtain rfl:=h358.bool
         obtain ⟨rfl,r361⟩:=h359.err
         have hZ:=S350.lst [11] (fun _ h=>by cases h;decide)
         refine x_go [] hZ (by kernel_rfl) ?_
         refine x_pre (fuel:=0) [] [(7,true),(8,true),(9,true),(10,true),(11,true),(12,true),(13,true)] (by kernel_rfl) rfl ?_
         refine h_mv rfl rfl rfl (h_ex rfl rfl rfl rfl (h_ex rfl rfl rfl rfl (h_ex rfl rfl rfl rfl (h_as rfl rfl rfl (h_as rfl rfl rfl (h_as rfl rfl rfl (AK ?_)))))))
         refine x_nil (by kernel_rfl) ?_
         refine Ah (Ah (Ae (o_mv rfl rfl (o_rnS rfl rfl (fun c362=>?_) fun c362=>?_))))
         ·
          replace hf281:=ip hf281 c362
          refine o_z ?_
          refine Ar rfl (Ah (Ae (o_mv rfl rfl ?_)))
          obtain ⟨q363,e364,hf281⟩:=bs hf281
          refine Cf (O:=O349) (R:=fun w' F v=>T2 w' F v q363) (CK Fr.lt (show inI64 (3) from by decide) r254 e364) rfl rfl fun v369 w365 O366 S367 h368=>?_
          obtain ⟨v370,v371,rfl,h372,h373⟩:=h368
          obtain ⟨cs374,rfl,v375,rfl,h376,r379,r380,r381⟩:=h372
          obtain ⟨A377,c378,rfl⟩:=h376.form
          obtain ⟨rfl,r382⟩:=h373.err
          refine o_ex rfl rfl rfl (o_ex rfl rfl rfl ?_)
          replace h29:=((((h29.st S315).st S318).st S320).st S350).st S367
          refine AV h29 rfl rfl rfl (Nat.le_of_ble_eq_true rfl) (by first|exact allOne rfl|simp [Value.cells,Value.oneCell',AQ]) fun w383 S384 h29=>?_
          replace h29:Lc 3 w383 O366 g25 30 [(.int .i64 q363.1.verdict),(.slice A377 q363.1.plan.length c378),(.int .i64 q363.1.cost),(.int .i64 q363.1.expanded)]:=h29
          refine o_as rfl rfl (o_z ?_)
          refine Au ?_
          obtain rfl:=sm hf281
          obtain rfl:=hret282 _ rfl
          obtain rfl:=sm (By hf86)
          obtain rfl:=hret87 _ rfl
          obtain rfl:=sm (By hm)
          replace hB:=(((((hB.st S315).st S318).st S320).st S350).st S367).st S384
          replace h376:=h376.st S384
          exact ret2 rfl (BR (cs:=[(.int .i64 q363.1.verdict),(.slice A377 q363.1.plan.length c378),(.int .i64 q363.1.cost),(.int .i64 q363.1.expanded)]) rfl rfl h29.1.cellsAt) (AG rfl) ⟨hB.ext,_,_,rfl,(Vb.mono (F:=Fr 0 w383 O366) (Vb.ofAgg (cs:=[(.int .i64 q363.1.verdict),(.slice A377 q363.1.plan.length c378),(.int .i64 q363.1.cost),(.int .i64 q363.1.expanded)]) (x:=q363.1) rfl ⟨_,rfl,h376,r379,r380,r381⟩) hB.out),(vErr r382)⟩
         ·
          replace hf281:=im hf281 c362
          refine o_z ?_
          refine Aj rfl (Am (Ah (BJ (·=w348) [(0,true),(1,true),(2,true),(3,true),(4,true),(5,true),(6,true),(7,true),(8,true),(9,true),(10,true)] (by kernel_rfl) rfl (by kernel_rfl) rfl ?_)))
          refine h_fa rfl rfl rfl ?_
          replace h149:=(((h149.st S315).st S318).st S320).st S350
          refine h_ldA (hc:=Blk.cell (i:=0) (h149.1) rfl) rfl rfl rfl ?_
          refine h_fa rfl rfl rfl ?_
          replace h24:=(((h24.st S315).st S318).st S320).st S350
          refine h_ldA (hc:=Blk.cell (i:=3) (h24.1) rfl) rfl rfl rfl ?_
          refine h_fa rfl rfl rfl ?_
          replace h316:=h316.st S350
          refine h_ldA (hc:=Blk.cell (i:=0) (h316.1) rfl) rfl rfl rfl ?_
          obtain ⟨a385,e386,hf281⟩:=bs hf281
          obtain ⟨p388,x387⟩:=AN e386
          replace h17:=(((h17.st S315).st S318).st S320).st S350
          obtain ⟨b389,o390,ce391,hA392,hl393,hd394,v396,v397,rfl,h398,h401,r404,z405⟩:=h17.elem' x387
          obtain ⟨A399,c400,rfl⟩:=h398.form
          obtain ⟨A402,c403,rfl⟩:=h401.form
          refine h_iaE (hA:=hA392) (hj:=(Int.toNat_of_nonneg p388).symm) (hlt:=hl393) rfl rfl rfl rfl ?_
          refine h_fa rfl rfl rfl (h_ldA (hc:=cat1 hd394) rfl rfl rfl ?_)
          obtain ⟨n406,e407,hf281⟩:=bs hf281
          have r408:=(Ba e407)
          refine h_adE (he:=e407) rfl rfl rfl rfl ?_
          refine h_as rfl rfl rfl (h_z ?_)
          refine Ah ?_
          obtain ⟨y409,hy410,hf281⟩:=bs hf281
          refine AM (fun l' w'=>∃ (s411:(List Int)×(List Bool)) (x412:(Option Addr×Nat)×(Option Addr×Nat)) (O':Lab),y409=.done s411∧subs l' [(1,(.int .i64 x1)),(2,(.pointer (some ⟨g20,0,none⟩))),(4,(.pointer (some ⟨g25,0,none⟩))),(6,(.pointer (some ⟨p70,0,none⟩))),(8,(.slice x412.1.1 s411.1.length x412.1.2)),(9,(.slice x412.2.1 s411.2.length x412.2.2)),(10,(.pointer (some ⟨g63,0,none⟩))),(11,(.int .i64 s273.2.2.1)),(12,(.int .i64 n252)),(13,(.pointer (some ⟨g145,0,none⟩))),(18,(.pointer (some ⟨g312,0,none⟩))),(19,(.int .i64 q346.1)),(22,(.int .i64 n406)),(98,(.slice A262 q255.length c263)),(99,(.int .i64 (q255.length:Int))),(100,(.int .i64 (k275:Int)))]∧Bs w A w' O'∧Lc 2 w' O' g20 26 [(.slice A9 x0.vars.length c10),(.slice A12 x0.init.length c13),(.slice A15 x0.goal.length c16),(.slice A18 x0.ops.length c19)]∧Vb w' (Fr 0 w' O') (.slice A9 x0.vars.length c10) x0.vars∧Vb w' (Fr 0 w' O') (.slice A12 x0.init.length c13) x0.init∧Vb w' (Fr 0 w' O') (.slice A15 x0.goal.length c16) x0.goal∧Vb w' (Fr 0 w' O') (.slice A18 x0.ops.length c19) x0.ops∧Lc 3 w' O' g25 30 [(.int .i64 0),(.slice none 0 0),(.int .i64 0),(.int .i64 0)]∧Ob 4 w' O' (.pointer (some ⟨p70,0,none⟩)) (⟨(⟨s273.2.2.2.1.t.vars,s273.2.2.2.1.t.init,s273.2.2.2.1.t.goal,s273.2.2.2.1.t.ops⟩:Tsk),q346.2.2.2,s273.2.2.2.1.gen⟩:Spc)∧Rw 5 w' O' 3 (.slice x412.1.1 s411.1.length x412.1.2) s411.1∧Rw 6 w' O' 4 (.slice x412.2.1 s411.2.length x412.2.2) s411.2∧Ob 8 w' O' (.pointer (some ⟨g63,0,none⟩)) s273.2.2.2.2∧Lc 10 w' O' g145 96 [(.int .i64 q130.1.x.cost),(.int .i64 q130.1.x.order),(.int .i64 q130.1.x.id)]∧Lc 12 w' O' g312 83 [(.int .i64 a276.op),(.slice A309 a276.state.length c310)]∧Vb w' (Fr 0 w' O') (.slice A309 a276.state.length c310) a276.state∧Vb w' (Fr 0 w' O') (.slice A262 q255.length c263) q255) ?_ ?_
          ·
           refine Ah (Ae (o_mv rfl rfl (o_z ?_)))
           refine BP rfl (fun c417=>?_) (fun c417=>?_)
           ·
            replace hy410:=ip hy410 c417
            refine Ae (o_mv rfl rfl (o_mv rfl rfl ?_))
            obtain ⟨u418,e419,hy410⟩:=bs hy410
            obtain ⟨e419,e420,e421⟩:=Cj e419
            replace h293:=(((h293.st S315).st S318).st S320).st S350
            refine CW rfl (a:=n406) h293 (vInt r408) (fun _=>rfl) rfl (by decide) (by decide) e420 e421 ⟨rfl,rfl⟩ fun g422 A423 c424 w425 O426 S427 h428=>?_
            rw [← e419] at h428 ⊢
            refine o_mv rfl rfl ?_
            obtain ⟨u430,e431,hy410⟩:=bs hy410
            obtain ⟨e431,e432,e433⟩:=Cj e431
            replace h295:=((((h295.st S315).st S318).st S320).st S350).st S427
            refine CW rfl (a:=false) h295 vBool (fun _=>rfl) rfl (by decide) (by decide) e432 e433 ⟨rfl,rfl⟩ fun g434 A435 c436 w437 O438 S439 h440=>?_
            rw [← e431] at h440 ⊢
            refine o_as rfl rfl (o_as rfl rfl (o_z ?_))
            replace h321:=((h321.st S350).st S427).st S439
            replace h324:=((h324.st S350).st S427).st S439
            replace h328:=((h328.st S350).st S427).st S439
            replace h332:=((h332.st S350).st S427).st S439
            replace h336:=((h336.st S350).st S427).st S439
            replace h343:=((h343.st S350).st S427).st S439
            replace h353:=(h353.st S427).st S439
            obtain ⟨O442,S443,hz445,ha446,h444⟩:=Spc.shut (x:=(⟨(⟨s273.2.2.2.1.t.vars,s273.2.2.2.1.t.init,s273.2.2.2.1.t.goal,s273.2.2.2.1.t.ops⟩:Tsk),q346.2.2.2,s273.2.2.2.1.gen⟩:Spc)) (l0:=4) (l1:=11) (by decide) h321 h324 h328 h332 h336 h353 h343
            obtain rfl:=sm hy410
            replace hB:=((((((hB.st S315).st S318).st S320).st S350).st S427).st S439).st S443
            replace h8:=((((((h8.st S315).st S318).st S320).st S350).st S427).st S439).st S443
            replace h11:=((((((h11.st S315).st S318).st S320).st S350).st S427).st S439).st S443
            replace h14:=((((((h14.st S315).st S318).st S320).st S350).st S427).st S439).st S443
            replace h17:=((h17.st S427).st S439).st S443
            replace h24:=((h24.st S427).st S439).st S443
            replace h29:=((((((h29.st S315).st S318).st S320).st S350).st S427).st S439).st S443
            replace h149:=((h149.st S427).st S439).st S443
            replace h260:=((((((h260.st S315).st S318).st S320).st S350).st S427).st S439).st S443
            replace h299:=((((((h299.st S315).st S318).st S320).st S350).st S427).st S439).st S443
            replace h308:=(((h308.st S350).st S427).st S439).st S443
            replace h316:=((h316.st S427).st S439).st S443
            replace h428:=(h428.st S439).st S443
            replace h440:=h440.st S443
            exact ⟨_,((A423,c424),(A435,c436)),_,rfl,⟨rfl,rfl,rfl,rfl,rfl,rfl,rfl,rfl,rfl,rfl,rfl,rfl,rfl,rfl,rfl,rfl,trivial⟩,hB,h24,h8,h11,h14,h17,h29,h444,h428,h440,h299,h149,h316,h308,h260⟩
           ·
            replace hy410:=im' hy410 c417
            refine Ah ?_
            obtain ⟨y447,hy448,hy410⟩:=bs hy410
            refine AM (fun l' w'=>∃ (x450:Unit) (O':Lab),subs l' [(1,(.int .i64 x1)),(2,(.pointer (some ⟨g20,0,none⟩))),(4,(.pointer (some ⟨g25,0,none⟩))),(6,(.pointer (some ⟨p70,0,none⟩))),(8,(.slice x274.1.1 s273.1.length x274.1.2)),(9,(.slice x274.2.1 s273.2.1.length x274.2.2)),(10,(.pointer (some ⟨g63,0,none⟩))),(11,(.int .i64 s273.2.2.1)),(12,(.int .i64 n252)),(13,(.pointer (some ⟨g145,0,none⟩))),(18,(.pointer (some ⟨g312,0,none⟩))),(19,(.int .i64 q346.1)),(22,(.int .i64 n406)),(98,(.slice A262 q255.length c263)),(99,(.int .i64 (q255.length:Int))),(100,(.int .i64 (k275:Int))),(150,(.bool y447))]∧Bs w A w' O'∧Lc 2 w' O' g20 26 [(.slice A9 x0.vars.length c10),(.slice A12 x0.init.length c13),(.slice A15 x0.goal.length c16),(.slice A18 x0.ops.length c19)]∧Vb w' (Fr 0 w' O') (.slice A9 x0.vars.length c10) x0.vars∧Vb w' (Fr 0 w' O') (.slice A12 x0.init.length c13) x0.init∧Vb w' (Fr 0 w' O') (.slice A15 x0.goal.length c16) x0.goal∧Vb w' (Fr 0 w' O') (.slice A18 x0.ops.length c19) x0.ops∧Lc 3 w' O' g25 30 [(.int .i64 0),(.slice none 0 0),(.int .i64 0),(.int .i64 0)]∧Ob 4 w' O' (.pointer (some ⟨p70,0,none⟩)) (⟨(⟨s273.2.2.2.1.t.vars,s273.2.2.2.1.t.init,s273.2.2.2.1.t.goal,s273.2.2.2.1.t.ops⟩:Tsk),q346.2.2.2,s273.2.2.2.1.gen⟩:Spc)∧Rw 5 w' O' 3 (.slice x274.1.1 s273.1.length x274.1.2) s273.1∧Rw 6 w' O' 4 (.slice x274.2.1 s273.2.1.length x274.2.2) s273.2.1∧Ob 8 w' O' (.pointer (some ⟨g63,0,none⟩)) s273.2.2.2.2∧Lc 10 w' O' g145 96 [(.int .i64 q130.1.x.cost),(.int .i64 q130.1.x.order),(.int .i64 q130.1.x.id)]∧Lc 12 w' O' g312 83 [(.int .i64 a276.op),(.slice A309 a276.state.length c310)]∧Vb w' (Fr 0 w' O') (.slice A309 a276.state.length c310) a276.state∧Vb w' (Fr 0 w' O') (.slice A262 q255.length c263) q255) ?_ ?_
            ·
             refine Ae (o_mv rfl rfl (o_mv rfl rfl ?_))
             obtain ⟨a451,e452,hy448⟩:=bs hy448
             obtain ⟨p454,x453⟩:=AN e452
             replace h295:=(((h295.st S315).st S318).st S320).st S350
             obtain ⟨b455,o456,ce457,hA458,hl459,hd460,rfl⟩:=h295.elem x453
             refine o_iaE (hA:=hA458) (hj:=(Int.toNat_of_nonneg p454).symm) (hlt:=hl459) rfl rfl rfl ?_
             refine o_ld (hc:=cat0 hd460) rfl rfl ?_
             refine o_mv rfl rfl ?_
             rcases Bool.eq_false_or_eq_true a451 with c462|c462
             ·
              try rw [c462]
              replace hy448:=ip hy448 c462
              refine AD rfl rfl rfl rfl (AD rfl rfl rfl rfl (AD rfl rfl rfl rfl (AD rfl rfl rfl rfl (AD rfl rfl rfl rfl (AD rfl rfl rfl rfl (o_pt rfl rfl rfl (o_z ?_)))))))
              replace h321:=h321.st S350
              replace h324:=h324.st S350
              replace h328:=h328.st S350
              replace h332:=h332.st S350
              replace h336:=h336.st S350
              replace h343:=h343.st S350
              obtain ⟨O463,S464,hz466,ha467,h465⟩:=Spc.shut (x:=(⟨(⟨s273.2.2.2.1.t.vars,s273.2.2.2.1.t.init,s273.2.2.2.1.t.goal,s273.2.2.2.1.t.ops⟩:Tsk),q346.2.2.2,s273.2.2.2.1.gen⟩:Spc)) (l0:=4) (l1:=11) (by decide) h321 h324 h328 h332 h336 h353 h343
              obtain rfl:=sm hy448
              replace hB:=((((hB.st S315).st S318).st S320).st S350).st S464
              replace h8:=((((h8.st S315).st S318).st S320).st S350).st S464
              replace h11:=((((h11.st S315).st S318).st S320).st S350).st S464
              replace h14:=((((h14.st S315).st S318).st S320).st S350).st S464
              replace h17:=h17.st S464
              replace h24:=h24.st S464
              replace h29:=((((h29.st S315).st S318).st S320).st S350).st S464
              replace h149:=h149.st S464
              replace h260:=((((h260.st S315).st S318).st S320).st S350).st S464
              replace h293:=((((h293.st S315).st S318).st S320).st S350).st S464
              replace h295:=h295.st S464
              replace h299:=((((h299.st S315).st S318).st S320).st S350).st S464
              replace h308:=(h308.st S350).st S464
              replace h316:=h316.st S464
              exact ⟨(),_,⟨rfl,rfl,rfl,rfl,rfl,rfl,rfl,rfl,rfl,rfl,rfl,rfl,rfl,rfl,rfl,rfl,rfl,trivial⟩,hB,h24,h8,h11,h14,h17,h29,h465,h293,h295,h299,h149,h316,h308,h260⟩
             ·
              try rw [c462]
              replace hy448:=im' hy448 c462
              refine AE rfl rfl (o_mv rfl rfl (AE rfl rfl (o_mv rfl rfl (AE rfl rfl (o_mv rfl rfl (AE rfl rfl ?_))))))
              obtain ⟨a468,e469,hy448⟩:=bs hy448
              obtain ⟨p471,x470⟩:=AN e469
              replace h293:=(((h293.st S315).st S318).st S320).st S350
              obtain ⟨b472,o473,ce474,hA475,hl476,hd477,rfl,r479⟩:=h293.elem x470
              refine o_iaE (hA:=hA475) (hj:=(Int.toNat_of_nonneg p471).symm) (hlt:=hl476) rfl rfl rfl ?_
              refine AE rfl rfl (o_ld (hc:=cat0 hd477) rfl rfl ?_)
              refine AE rfl rfl (o_geS rfl rfl rfl (fun c480=>?_) fun c480=>?_)
              ·
               replace hy448:=ip hy448 c480
               refine o_pf rfl rfl rfl (o_z ?_)
               replace h321:=h321.st S350
               replace h324:=h324.st S350
               replace h328:=h328.st S350
               replace h332:=h332.st S350
               replace h336:=h336.st S350
               replace h343:=h343.st S350
               obtain ⟨O481,S482,hz484,ha485,h483⟩:=Spc.shut (x:=(⟨(⟨s273.2.2.2.1.t.vars,s273.2.2.2.1.t.init,s273.2.2.2.1.t.goal,s273.2.2.2.1.t.ops⟩:Tsk),q346.2.2.2,s273.2.2.2.1.gen⟩:Spc)) (l0:=4) (l1:=11) (by decide) h321 h324 h328 h332 h336 h353 h343
               obtain rfl:=sm hy448
               replace hB:=((((hB.st S315).st S318).st S320).st S350).st S482
               replace h8:=((((h8.st S315).st S318).st S320).st S350).st S482
               replace h11:=((((h11.st S315).st S318).st S320).st S350).st S482
               replace h14:=((((h14.st S315).st S318).st S320).st S350).st S482
               replace h17:=h17.st S482
               replace h24:=h24.st S482
               replace h29:=((((h29.st S315).st S318).st S320).st S350).st S482
               replace h149:=h149.st S482
               replace h260:=((((h260.st S315).st S318).st S320).st S350).st S482
               replace h293:=h293.st S482
               replace h295:=h295.st S482
               replace h299:=((((h299.st S315).st S318).st S320).st S350).st S482
               replace h308:=(h308.st S350).st S482
               replace h316:=h316.st S482
               exact ⟨(),_,⟨rfl,rfl,rfl,rfl,rfl,rfl,rfl,rfl,rfl,rfl,rfl,rfl,rfl,rfl,rfl,rfl,rfl,trivial⟩,hB,h24,h8,h11,h14,h17,h29,h483,h293,h295,h299,h149,h316,h308,h260⟩
              ·
               replace hy448:=im hy448 c480
               refine o_pf rfl rfl rfl (o_z ?_)
               replace h321:=h321.st S350
               replace h324:=h324.st S350
               replace h328:=h328.st S350
               replace h332:=h332.st S350
               replace h336:=h336.st S350
               replace h343:=h343.st S350
               obtain ⟨O486,S487,hz489,ha490,h488⟩:=Spc.shut (x:=(⟨(⟨s273.2.2.2.1.t.vars,s273.2.2.2.1.t.init,s273.2.2.2.1.t.goal,s273.2.2.2.1.t.ops⟩:Tsk),q346.2.2.2,s273.2.2.2.1.gen⟩:Spc)) (l0:=4) (l1:=11) (by decide) h321 h324 h328 h332 h336 h353 h343
               obtain rfl:=sm hy448
               replace hB:=((((hB.st S315).st S318).st S320).st S350).st S487
               replace h8:=((((h8.st S315).st S318).st S320).st S350).st S487
               replace h11:=((((h11.st S315).st S318).st S320).st S350).st S487
               replace h14:=((((h14.st S315).st S318).st S320).st S350).st S487
               replace h17:=h17.st S487
               replace h24:=h24.st S487
               replace h29:=((((h29.st S315).st S318).st S320).st S350).st S487
               replace h149:=h149.st S487
               replace h260:=((((h260.st S315).st S318).st S320).st S350).st S487
               replace h293:=h293.st S487
               replace h295:=h295.st S487
               replace h299:=((((h299.st S315).st S318).st S320).st S350).st S487
               replace h308:=(h308.st S350).st S487
               replace h316:=h316.st S487
               exact ⟨(),_,⟨rfl,rfl,rfl,rfl,rfl,rfl,rfl,rfl,rfl,rfl,rfl,rfl,rfl,rfl,rfl,rfl,rfl,trivial⟩,hB,h24,h8,h11,h14,h17,h29,h488,h293,h295,h299,h149,h316,h308,h260⟩
            replace hB:=(((hB.st S315).st S318).st S320).st S350
            replace h8:=(((h8.st S315).st S318).st S320).st S350
            replace h11:=(((h11.st S315).st S318).st S320).st S350
            replace h14:=(((h14.st S315).st S318).st S320).st S350
            replace h29:=(((h29.st S315).st S318).st S320).st S350
            replace h260:=(((h260.st S315).st S318).st S320).st S350
            replace h293:=(((h293.st S315).st S318).st S320).st S350
            replace h295:=(((h295.st S315).st S318).st S320).st S350
            replace h299:=(((h299.st S315).st S318).st S320).st S350
            replace h308:=h308.st S350
            rintro l491 w492 ⟨x450,O493,hs494,hB,h24,h8,h11,h14,h17,h29,h461,h293,h295,h299,h149,h316,h308,h260⟩
            refine AO _ hs494 ?_
            refine BP rfl (fun c495=>?_) (fun c495=>?_)
            ·
             replace hy410:=ip hy410 c495
             refine At ?_
             obtain rfl:=sm hy410
             obtain rfl:=sm (By hf281)
             refine (?_:Exists _)
             exact ⟨_,((x274.1.1,x274.1.2),(x274.2.1,x274.2.2)),rfl,⟨rfl,rfl,rfl,rfl,rfl,rfl,rfl,rfl,rfl,rfl,rfl,rfl,rfl,trivial⟩,_,hB,h24,h8,h11,h14,h17,h29,h461,h293,h295,h299,h149,h260,r297⟩
            ·
             replace hy410:=im' hy410 c495
             refine Am ?_
             obtain rfl:=sm hy410
             exact ⟨_,((x274.1.1,x274.1.2),(x274.2.1,x274.2.2)),_,rfl,⟨rfl,rfl,rfl,rfl,rfl,rfl,rfl,rfl,rfl,rfl,rfl,rfl,rfl,rfl,rfl,rfl,trivial⟩,hB,h24,h8,h11,h14,h17,h29,h461,h293,h295,h299,h149,h316,h308,h260⟩
          replace hB:=(((hB.st S315).st S318).st S320).st S350
          replace h8:=(((h8.st S315).st S318).st S320).st S350
          replace h11:=(((h11.st S315).st S318).st S320).st S350
          replace h14:=(((h14.st S315).st S318).st S320).st S350
          replace h29:=(((h29.st S315).st S318).st S320).st S350
          replace h260:=(((h260.st S315).st S318).st S320).st S350
          replace h299:=(((h299.st S315).st S318).st S320).st S350
          replace h308:=h308.st S350
          rintro l496 w497 ⟨s411,x412,O498,rfl,hs499,hB,h24,h8,h11,h14,h17,h29,h436,h413,h415,h299,h149,h316,h308,h260⟩
          replace hf281:=AW hf281
          refine AO _ hs499 ?_
          refine Ah (Ae (o_mv rfl rfl (o_mv rfl rfl (o_mv rfl rfl ?_))))
          obtain ⟨a500,e501,hf281⟩:=bs hf281
          obtain ⟨p503,x502⟩:=AN e501
          obtain ⟨b504,o505,ce506,hA507,hl508,hd509,rfl,r511⟩:=h413.elem x502
          refine o_iaE (hA:=hA507) (hj:=(Int.toNat_of_nonneg p503).symm) (hlt:=hl508) rfl rfl rfl ?_
          refine CM rfl h413 (a:=n406) (vInt r408) hA507 rfl rfl (AJ x502) fun w512 S513 h413=>?_
          refine o_z ?_
          refine Ah (Ah ?_)
          replace h436:=h436.st S513
          obtain ⟨O514,v518,v522,v526,v530,v534,v537,S515,ha517,h516,h519,h523,h527,h531,h535,h538⟩:=Spc.opn h436 4 11 (by decide)
          obtain ⟨A520,c521,rfl⟩:=h519.form
          obtain ⟨A524,c525,rfl⟩:=h523.form
          obtain ⟨A528,c529,rfl⟩:=h527.form
          obtain ⟨A532,c533,rfl⟩:=h531.form
          obtain ⟨p536,rfl⟩:=h535.ptr
          obtain ⟨p539,rfl,hq540⟩:=h538.ptr
          refine BG [(10,[11])] O514 ?_
          refine x_pre (fuel:=2) [] [(0,true),(1,true),(2,true),(3,true),(4,true),(5,true),(6,true),(7,true),(8,true),(9,true)] (by kernel_rfl) rfl ?_
          refine h_mv rfl rfl rfl (h_nc rfl rfl rfl (h_fa rfl rfl rfl (h_ldC (hc:=fun w' ⟨O',hq⟩=>Blk.cell (i:=4) ((h516.st hq (by decide)).1) rfl) rfl rfl rfl ?_)))
          refine h_mv rfl rfl rfl (h_fa rfl rfl rfl ?_)
          replace h149:=(h149.st S513).st S515
          refine h_ldC (hc:=fun w' ⟨O',hq⟩=>Blk.cell (i:=2) ((h149.st hq (by decide)).1) rfl) rfl rfl rfl ?_
          refine h_fa rfl rfl rfl ?_
          replace h316:=(h316.st S513).st S515
          refine h_ldC (hc:=fun w' ⟨O',hq⟩=>Blk.cell (i:=0) ((h316.st hq (by decide)).1) rfl) rfl rfl rfl ?_
          refine h_mv rfl rfl rfl (AK ?_)
          refine x_one (i:=10) (by kernel_rfl) rfl ?_
          obtain ⟨q541,e542,hf281⟩:=bs hf281
          refine Bh (O:=O514) (Dy h535 r360 r144 r311 r408 e542) rfl rfl fun v547 w543 O544 S545 h546=>?_
          obtain ⟨h548,h549⟩:=h546
          obtain ⟨rfl,r550⟩:=h549.err
          have hZ:=S545.lst [11] (fun _ h=>by cases h;decide)
          refine x_go [] hZ (by kernel_rfl) ?_
          refine x_pre (fuel:=0) [] [(11,true)] (by kernel_rfl) rfl ?_
          refine h_as rfl rfl rfl (AK ?_)
          refine x_nil (by kernel_rfl) ?_
          refine Ah (Ae (o_mv rfl rfl (o_rnS rfl rfl (fun c551=>?_) fun c551=>?_)))
          ·
           replace hf281:=ip hf281 c551
           refine o_z ?_
           refine Ar rfl (Ah (Ae (o_bd rfl rfl rfl ?_)))
           refine o_mv rfl rfl ?_
           replace h29:=((h29.st S513).st S515).st S545
           refine AV h29 rfl rfl rfl (Nat.le_of_ble_eq_true rfl) (by first|exact allOne rfl|simp [Value.cells,Value.oneCell',AQ]) fun w552 S553 h29=>?_
           replace h29:Lc 3 w552 O544 g25 30 [(.int .i64 0),(.slice none 0 0),(.int .i64 0),(.int .i64 0)]:=h29
           refine o_as rfl rfl (o_z ?_)
           refine Au ?_
           obtain rfl:=sm hf281
           obtain rfl:=hret282 _ rfl
           obtain rfl:=sm (By hf86)
           obtain rfl:=hret87 _ rfl
           obtain rfl:=sm (By hm)
           replace hB:=(((hB.st S513).st S515).st S545).st S553
           exact ret2 rfl (BR (cs:=[(.int .i64 0),(.slice none 0 0),(.int .i64 0),(.int .i64 0)]) rfl rfl h29.1.cellsAt) (AG rfl) ⟨hB.ext,_,_,rfl,(Vb.mono (F:=Fr 0 w552 O544) (Vb.ofAgg (cs:=[(.int .i64 0),(.slice none 0 0),(.int .i64 0),(.int .i64 0)]) (x:=(⟨0,([]:List Int),0,0⟩:Rsl)) rfl ⟨_,rfl,(Vb.nil _ _),(show inI64 0 from by decide),(show inI64 0 from by decide),(show inI64 0 from by decide)⟩) hB.out),(vErr r550)⟩
          ·
           replace hf281:=im hf281 c551
           refine o_z ?_
           refine Aj rfl (Am (Ah (Ae (o_mv rfl rfl (o_miA rfl rfl ?_)))))
           refine o_mv rfl rfl (o_mv rfl rfl (o_mv rfl rfl (o_bd rfl rfl rfl ?_)))
           refine o_miA rfl rfl ?_
           obtain ⟨q554,e555,hf281⟩:=bs hf281
           replace h299:=((h299.st S513).st S515).st S545
           refine Bh (O:=O544) (Gl h299 (vAny (Vb.ofAgg (cs:=[(.int .i64 n406),(.int .i64 s273.2.2.1),(.int .i64 q346.1)]) (x:=(⟨n406,s273.2.2.1,q346.1⟩:Itm)) rfl ⟨rfl,r408,r297,r360⟩)) e555) rfl rfl fun v560 w556 O557 S558 h561=>?_
           refine o_z ?_
           refine Ae (o_mv rfl rfl ?_)
           obtain ⟨n562,e563,hf281⟩:=bs hf281
           have r564:=(Ba e563)
           refine o_adE (he:=e563) rfl rfl rfl ?_
           refine o_as rfl rfl (o_z ?_)
           replace h516:=(h516.st S545).st S558
           replace h519:=(h519.st S545).st S558
           replace h523:=(h523.st S545).st S558
           replace h527:=(h527.st S545).st S558
           replace h531:=(h531.st S545).st S558
           replace h538:=(h538.st S545).st S558
           replace h548:=h548.st S558
           obtain ⟨O565,S566,hz568,ha569,h567⟩:=Spc.shut (x:=(⟨(⟨(⟨(⟨s273.2.2.2.1.t.vars,s273.2.2.2.1.t.init,s273.2.2.2.1.t.goal,s273.2.2.2.1.t.ops⟩:Tsk),q346.2.2.2,s273.2.2.2.1.gen⟩:Spc).t.vars,(⟨(⟨s273.2.2.2.1.t.vars,s273.2.2.2.1.t.init,s273.2.2.2.1.t.goal,s273.2.2.2.1.t.ops⟩:Tsk),q346.2.2.2,s273.2.2.2.1.gen⟩:Spc).t.init,(⟨(⟨s273.2.2.2.1.t.vars,s273.2.2.2.1.t.init,s273.2.2.2.1.t.goal,s273.2.2.2.1.t.ops⟩:Tsk),q346.2.2.2,s273.2.2.2.1.gen⟩:Spc).t.goal,(⟨(⟨s273.2.2.2.1.t.vars,s273.2.2.2.1.t.init,s273.2.2.2.1.t.goal,s273.2.2.2.1.t.ops⟩:Tsk),q346.2.2.2,s273.2.2.2.1.gen⟩:Spc).t.ops⟩:Tsk),q541.2,(⟨(⟨s273.2.2.2.1.t.vars,s273.2.2.2.1.t.init,s273.2.2.2.1.t.goal,s273.2.2.2.1.t.ops⟩:Tsk),q346.2.2.2,s273.2.2.2.1.gen⟩:Spc).gen⟩:Spc)) (l0:=4) (l1:=11) (by decide) h516 h519 h523 h527 h531 h548 h538
           obtain rfl:=sm hf281
           refine (?_:Exists _)
           replace hB:=((((hB.st S513).st S515).st S545).st S558).st S566
           replace h8:=((((h8.st S513).st S515).st S545).st S558).st S566
           replace h11:=((((h11.st S513).st S515).st S545).st S558).st S566
           replace h14:=((((h14.st S513).st S515).st S545).st S558).st S566
           replace h17:=((((h17.st S513).st S515).st S545).st S558).st S566
           replace h24:=((((h24.st S513).st S515).st S545).st S558).st S566
           replace h29:=((((h29.st S513).st S515).st S545).st S558).st S566
           replace h149:=((h149.st S545).st S558).st S566
           replace h260:=((((h260.st S513).st S515).st S545).st S558).st S566
           replace h413:=(((h413.st S515).st S545).st S558).st S566
           replace h415:=((((h415.st S513).st S515).st S545).st S558).st S566
           replace h561:=h561.st S566
           exact ⟨_,((x412.1.1,x412.1.2),(x412.2.1,x412.2.2)),rfl,⟨rfl,rfl,rfl,rfl,rfl,rfl,(congrArg (fun n=>some (Value.slice _ n _)) ((by simp:(s411.1.set (q346.1:Int).toNat n406).length=s411.1.length).trans rfl).symm),rfl,rfl,rfl,rfl,rfl,rfl,trivial⟩,_,hB,h24,h8,h11,h14,h17,h29,h567,h413.relen,h415,h561,h149,h260,r564⟩
        replace hB:=(((((((((((hB.st S108).st S120).st S126).st S134).st S148).st S151).st S165).st S195).st S213).st S251).st S259).st S267
        replace h8:=(((((((((((h8.st S108).st S120).st S126).st S134).st S148).st S151).st S165).st S195).st S213).st S251).st S259).st S267
        replace h11:=(((((((((((h11.st S108).st S120).st S126).st S134).st S148).st S151).st S165).st S195).st S213).st S251).st S259).st S267
        replace h14:=(((h14.st S213).st S251).st S259).st S267
        replace h17:=(((((((((((h17.st S108).st S120).st S126).st S134).st S148).st S151).st S165).st S195).st S213).st S251).st S259).st S267
        replace h24:=(((h24.st S213).st S251).st S259).st S267
        replace h29:=(((((((((((h29.st S108).st S120).st S126).st S134).st S148).st S151).st S165).st S195).st S213).st S251).st S259).st S267
        rintro l570 w571 ⟨s574,x575,rfl,hs573,O572,hB,h24,h8,h11,h14,h17,h29,h298,h293,h295,h299,r297⟩
        replace hf86:=AW hf86
        obtain rfl:=sm hf86
        refine (?_:Exists _)
        exact ⟨_,((x575.1.1,x575.1.2),(x575.2.1,x575.2.2)),rfl,⟨(Bo hs573 _ _ rfl),(Bo hs573 _ _ rfl),(Bo hs573 _ _ rfl),(Bo hs573 _ _ rfl),(Bo hs573 _ _ rfl),(Bo hs573 _ _ rfl),(Bo hs573 _ _ rfl),(Bo hs573 _ _ rfl),(Bo hs573 _ _ rfl),trivial⟩,_,hB,h24,h8,h11,h14,h17,h29,h298,h293,h295,h299,r297,r254⟩
      replace hf86:=iT hf86
      refine o_z ?_
      refine Ar rfl (Ah (Ae (o_mv rfl rfl (o_fa rfl rfl ?_))))
      replace h149:=(h149.st S195).st S213
      refine o_ld (hc:=Blk.cell (i:=2) (h149.1) rfl) rfl rfl ?_
      refine o_mv rfl rfl ?_
      replace h166:=(h166.st S195).st S213
      replace h169:=(h169.st S195).st S213
      replace h173:=(h173.st S195).st S213
      replace h177:=(h177.st S195).st S213
      replace h181:=(h181.st S195).st S213
      replace h188:=(h188.st S195).st S213
      replace h198:=h198.st S213
      obtain ⟨O576,S577,hz579,ha580,h578⟩:=Spc.shut (x:=s78.2.2.2.2.1) (l0:=4) (l1:=11) (by decide) h166 h169 h173 h177 h181 h198 h188
      obtain ⟨q581,e582,hf86⟩:=bs hf86
      refine Bh (O:=O576) (Es h578 r144 r104 e582) rfl rfl fun v587 w583 O584 S585 h586=>?_
      obtain ⟨v589,v590,h588,rfl,h591,h592⟩:=h586
      obtain ⟨cs593,rfl,v594,rfl,h595,r598,r599,r600⟩:=h591
      obtain ⟨A596,c597,rfl⟩:=h595.form
      obtain ⟨rfl,r601⟩:=h592.err
      refine o_ex rfl rfl rfl (o_ex rfl rfl rfl ?_)
      replace h29:=((((((((((h29.st S108).st S120).st S126).st S134).st S148).st S151).st S165).st S195).st S213).st S577).st S585
      refine AV h29 rfl rfl rfl (Nat.le_of_ble_eq_true rfl) (by first|exact allOne rfl|simp [Value.cells,Value.oneCell',AQ]) fun w602 S603 h29=>?_
      replace h29:Lc 3 w602 O584 g25 30 [(.int .i64 q581.1.verdict),(.slice A596 q581.1.plan.length c597),(.int .i64 q581.1.cost),(.int .i64 q581.1.expanded)]:=h29
      refine o_as rfl rfl (o_z ?_)
      refine Au ?_
      obtain rfl:=sm hf86
      obtain rfl:=hret87 _ rfl
      obtain rfl:=sm (By hm)
      replace hB:=(((((((((((hB.st S108).st S120).st S126).st S134).st S148).st S151).st S165).st S195).st S213).st S577).st S585).st S603
      replace h595:=h595.st S603
      exact ret2 rfl (BR (cs:=[(.int .i64 q581.1.verdict),(.slice A596 q581.1.plan.length c597),(.int .i64 q581.1.cost),(.int .i64 q581.1.expanded)]) rfl rfl h29.1.cellsAt) (AG rfl) ⟨hB.ext,_,_,rfl,(Vb.mono (F:=Fr 0 w602 O584) (Vb.ofAgg (cs:=[(.int .i64 q581.1.verdict),(.slice A596 q581.1.plan.length c597),(.int .i64 q581.1.cost),(.int .i64 q581.1.expanded)]) (x:=q581.1) rfl ⟨_,rfl,h595,r598,r599,r600⟩) hB.out),(vErr r601)⟩
   ·
    replace hf86:=im hf86 c124
    refine o_z ?_
    refine Aj rfl (At ?_)
    replace h109:=h109.st S120
    replace h112:=h112.st S120
    obtain ⟨O604,S605,hz607,ha608,h606⟩:=BxR.shut (x:=s78.2.2.2.2.2) (l0:=8) (l1:=9) (by decide) h109 h112
    obtain rfl:=sm hf86
    refine (?_:Exists _)
    replace hB:=((hB.st S108).st S120).st S605
    replace h29:=((h29.st S108).st S120).st S605
    exact ⟨_,((x79.1.1,x79.1.2),(x79.2.1,x79.2.2)),hbrk88 _ rfl,⟨rfl,rfl,trivial⟩,_,hB,h29,r103,r104⟩
  replace hB:=(((((((hB.st S23).st S28).st S34).st S48).st S54).st S60).st S66).st S72
  replace h29:=(((((h29.st S34).st S48).st S54).st S60).st S66).st S72
  rintro l609 w610 ⟨s613,x614,rfl,hs612,O611,hB,h29,r103,r104⟩
  replace hm:=AW hm
  refine AO _ hs612 ?_
  refine Ah (Ae (o_mv rfl rfl ?_))
  obtain ⟨q615,e616,hm⟩:=bs hm
  refine Cf (O:=O611) (R:=fun w' F v=>T2 w' F v q615) (CK Fr.lt (show inI64 (2) from by decide) r104 e616) rfl rfl fun v621 w617 O618 S619 h620=>?_
  obtain ⟨v622,v623,rfl,h624,h625⟩:=h620
  obtain ⟨cs626,rfl,v627,rfl,h628,r631,r632,r633⟩:=h624
  obtain ⟨A629,c630,rfl⟩:=h628.form
  obtain ⟨rfl,r634⟩:=h625.err
  refine o_ex rfl rfl rfl (o_ex rfl rfl rfl ?_)
  replace h29:=h29.st S619
  refine AV h29 rfl rfl rfl (Nat.le_of_ble_eq_true rfl) (by first|exact allOne rfl|simp [Value.cells,Value.oneCell',AQ]) fun w635 S636 h29=>?_
  replace h29:Lc 3 w635 O618 g25 30 [(.int .i64 q615.1.verdict),(.slice A629 q615.1.plan.length c630),(.int .i64 q615.1.cost),(.int .i64 q615.1.expanded)]:=h29
  refine o_as rfl rfl (o_z ?_)
  refine Au ?_
  obtain rfl:=sm hm
  replace hB:=(hB.st S619).st S636
  replace h628:=h628.st S636
  exact ret2 rfl (BR (cs:=[(.int .i64 q615.1.verdict),(.slice A629 q615.1.plan.length c630),(.int .i64 q615.1.cost),(.int .i64 q615.1.expanded)]) rfl rfl h29.1.cellsAt) (AG rfl) ⟨hB.ext,_,_,rfl,(Vb.mono (F:=Fr 0 w635 O618) (Vb.ofAgg (cs:=[(.int .i64 q615.1.verdict),(.slice A629 q615.1.plan.length c630),(.int .i64 q615.1.cost),(.int .i64 q615.1.expanded)]) (x:=q615.1) rfl ⟨_,rfl,h628,r631,r632,r633⟩) hB.out),(vErr r634)⟩
noncomputable def CH (x0:Tsk) (x1:Int):Option (Int×Err) :=
  bnd (Ca x0) fun q25=>if q25.2.n≠0 then (some (0,(⟨q25.2.n⟩:Err))) else (bnd q25.1 fun o38=>bnd (lop (ρ:=Int×Err) (fun (s43:Int×Spc)=>bnd (Bi s43.2.reg) fun q87=>if s43.1 < q87 then (bnd (Bi s43.2.reg) fun q98=>if x1 < q98 then (some (.ret (0,(⟨10⟩:Err)))) else (bnd (Bc s43.2.reg s43.1) fun q109=>if q109.2.n≠0 then (some (.ret (0,(⟨q109.2.n⟩:Err)))) else (bnd (AS s43.2.gen q109.1) fun q125=>bnd (rng (ρ:=Ctl (Int×Spc) (Int×Err)) (fun (k145:Nat) (a146:Suc) (s143:Spc)=>bnd (AX s143.reg a146.state) fun q204=>if q204.2.2.1.n≠0 then (some (.ret (.ret (0,(⟨10⟩:Err))))) else (some (.next (⟨(⟨s143.t.vars,s143.t.init,s143.t.goal,s143.t.ops⟩:Tsk),q204.2.2.2,s143.gen⟩:Spc)))) q125 0 s43.2) fun res141=>fin res141 fun (s230:Spc)=>bnd (chkI (s43.1 + 1)) fun n232=>some (.next (n232,s230))))) else (some (.brk (s43.1,s43.2)))) (0,o38)) fun res41=>fin res41 fun (s244:Int×Spc)=>bnd (Bi s244.2.reg) fun q273=>if x1 < q273 then (some (0,(⟨10⟩:Err))) else (bnd (Bi s244.2.reg) fun q284=>some (q284,(⟨0⟩:Err))))
theorem He {w:World} {A:Nat→Prop} (hA:∀ k,A k→k < w.heap.size) {vx0:Value} {x0:Tsk} (hx0:Vb w A vx0 x0) {x1:Int} (rx1:inI64 x1) {r:Int×Err} (hm:CH x0 x1=some r) :
    Fn Try.prog 25 [vx0,(.int .i64 x1)] w fun v w'=>Ext w w'∧T2 w' (upA A w w') v r:=by
 obtain ⟨O,hB,hA0⟩:=enter hA
 replace hx0:=hx0.mono hA0
 obtain ⟨cs3,rfl,v4,v5,v6,v7,rfl,h8,h11,h14,h17⟩:=hx0
 obtain ⟨A9,c10,rfl⟩:=h8.form
 obtain ⟨A12,c13,rfl⟩:=h11.form
 obtain ⟨A15,c16,rfl⟩:=h14.form
 obtain ⟨A18,c19,rfl⟩:=h17.form
 refine AL Try.func25 rfl Try.ntmps25 rfl ?_
 unfold CH at hm
 refine Ah (Ae (l_box 2 O rfl rfl fun g20 w21 O22 S23 h24=>?_))
 replace h24:Lc 2 w21 O22 g20 26 [(.slice A9 x0.vars.length c10),(.slice A12 x0.init.length c13),(.slice A15 x0.goal.length c16),(.slice A18 x0.ops.length c19)]:=h24
 refine o_as rfl rfl (o_as rfl rfl (o_z ?_))
 refine Ah (Ae (o_la (hl:=rfl) (hc:=(h24.1).cellsAt) rfl rfl ?_))
 obtain ⟨q25,e26,hm⟩:=bs hm
 replace h8:=h8.st S23
 replace h11:=h11.st S23
 replace h14:=h14.st S23
 replace h17:=h17.st S23
 refine Bh (O:=O22) (EJ (Vb.ofAgg (cs:=[(.slice A9 x0.vars.length c10),(.slice A12 x0.init.length c13),(.slice A15 x0.goal.length c16),(.slice A18 x0.ops.length c19)]) (x:=x0) rfl ⟨_,_,_,_,rfl,h8,h11,h14,h17⟩) 3 (by decide) e26) rfl rfl fun v31 w27 O28 S29 h30=>?_
 obtain ⟨v32,v33,rfl,h34,h35⟩:=h30
 obtain ⟨rfl,r36⟩:=h35.err
 refine o_mv rfl rfl (o_ex rfl rfl rfl (o_ex rfl rfl rfl (o_as rfl rfl (o_as rfl rfl (o_z ?_)))))
 refine Ah (Ah (Ae (o_mv rfl rfl (o_rnS rfl rfl (fun c37=>?_) fun c37=>?_))))
 ·
  replace hm:=ip hm c37
  refine o_z ?_
  refine Ar rfl (Ah (Ae (o_mv rfl rfl (o_as rfl rfl (o_as rfl rfl (o_z ?_))))))
  refine Au ?_
  obtain rfl:=sm hm
  replace hB:=(hB.st S23).st S29
  exact ret2 rfl (AG rfl) (AG rfl) ⟨hB.ext,_,_,rfl,(vInt (show inI64 (0) from by decide)),(vErr r36)⟩
 ·
  replace hm:=im hm c37
  refine o_z ?_
  refine Aj rfl (Am (Ah (Ah (Ae (o_as rfl rfl (o_z ?_))))))
  obtain ⟨o38,e39,hm⟩:=bs hm
  rw [e39] at h34
  obtain ⟨p40,rfl⟩:=Ob.ptr h34
  obtain ⟨res41,hL42,hm⟩:=bs hm
  refine AM (aft res41 (fun (s43:Int×Spc) (x44:Unit)=>[(1,(.int .i64 x1)),(6,(.pointer (some ⟨p40,0,none⟩)))]) (fun s43 x44 w'=>∃ O':Lab,Bs w A w' O'∧Ob 3 w' O' (.pointer (some ⟨p40,0,none⟩)) s43.2∧inI64 s43.1)) ?_ ?_
  ·
   refine Al ?_
   replace hB:=(hB.st S23).st S29
   refine DL (σ:=Int×Spc) (X:=Unit) hL42 (fun (s43:Int×Spc) (x44:Unit)=>[(1,(.int .i64 x1)),(6,(.pointer (some ⟨p40,0,none⟩))),(8,(.int .i64 s43.1))]) _ (fun s43 x44 w'=>∃ O':Lab,Bs w A w' O'∧Ob 3 w' O' (.pointer (some ⟨p40,0,none⟩)) s43.2∧inI64 s43.1) _ () ⟨O28,hB,h34,(show inI64 (0) from by decide)⟩ ⟨rfl,rfl,rfl,trivial⟩ ?_
   rintro s43 x44 w47 cc49 ⟨O48,hB,h59,r58⟩ hf51 hret52 hbrk53
   refine Ah (Ah (Ae (o_mv rfl rfl (o_mv rfl rfl (o_nc rfl rfl ?_)))))
   obtain ⟨O60,v64,v68,v72,v76,v80,v83,S61,ha63,h62,h65,h69,h73,h77,h81,h84⟩:=Spc.opn h59 3 4 (by decide)
   obtain ⟨A66,c67,rfl⟩:=h65.form
   obtain ⟨A70,c71,rfl⟩:=h69.form
   obtain ⟨A74,c75,rfl⟩:=h73.form
   obtain ⟨A78,c79,rfl⟩:=h77.form
   obtain ⟨p82,rfl⟩:=h81.ptr
   obtain ⟨p85,rfl,hq86⟩:=h84.ptr
   refine o_fa rfl rfl (o_ld (hc:=Blk.cell (i:=4) (h62.1) rfl) rfl rfl ?_)
   obtain ⟨q87,e88,hf51⟩:=bs hf51
   refine Bh (O:=O60) (Cb h81 e88) rfl rfl fun v93 w89 O90 S91 h92=>?_
   obtain ⟨h94,h95⟩:=h92
   obtain ⟨rfl,r96⟩:=h95.int
   refine o_ltS rfl rfl rfl (fun c97=>?_) fun c97=>?_
   ·
    replace hf51:=ip hf51 c97
    refine o_z ?_
    refine Ar rfl (Am (Ah (Al (Ah (Ah (Ae (o_mv rfl rfl (o_nc rfl rfl (o_fa rfl rfl ?_)))))))))
    replace h62:=h62.st S91
    refine o_ld (hc:=Blk.cell (i:=4) (h62.1) rfl) rfl rfl ?_
    obtain ⟨q98,e99,hf51⟩:=bs hf51
    refine Bh (O:=O90) (Cb h94 e99) rfl rfl fun v104 w100 O101 S102 h103=>?_
    obtain ⟨h105,h106⟩:=h103
    obtain ⟨rfl,r107⟩:=h106.int
    refine o_mv rfl rfl (o_gtS rfl rfl rfl (fun c108=>?_) fun c108=>?_)
    ·
     replace hf51:=ip hf51 c108
     refine o_z ?_
     refine Ar rfl (Ah (Ae (o_miE rfl rfl ?_)))
     refine o_as rfl rfl (o_as rfl rfl (o_z ?_))
     refine Au ?_
     obtain rfl:=sm hf51
     obtain rfl:=hret52 _ rfl
     obtain rfl:=sm (By hm)
     replace hB:=((hB.st S61).st S91).st S102
     exact ret2 rfl (AG rfl) (AG rfl) ⟨hB.ext,_,_,rfl,(vInt (show inI64 (0) from by decide)),(vErr (by decide))⟩
    ·
     replace hf51:=im hf51 c108
     refine o_z ?_
     refine Aj rfl (Am (Ah (Ae (o_mv rfl rfl (o_nc rfl rfl (o_fa rfl rfl ?_))))))
     replace h62:=h62.st S102
     refine o_ld (hc:=Blk.cell (i:=4) (h62.1) rfl) rfl rfl ?_
     refine o_mv rfl rfl ?_
     obtain ⟨q109,e110,hf51⟩:=bs hf51
     refine Bh (O:=O101) (CT h105 r58 e110) rfl rfl fun v115 w111 O112 S113 h114=>?_
     obtain ⟨v117,v118,h116,rfl,h119,h120⟩:=h114
     obtain ⟨A121,c122,rfl⟩:=h119.form
     obtain ⟨rfl,r123⟩:=h120.err
     refine o_mv rfl rfl (o_ex rfl rfl rfl (o_ex rfl rfl rfl (o_as rfl rfl (o_as rfl rfl (o_z ?_)))))
     refine Ah (Ah (Ae (o_mv rfl rfl (o_rnS rfl rfl (fun c124=>?_) fun c124=>?_))))
     ·
      replace hf51:=ip hf51 c124
      refine o_z ?_
      refine Ar rfl (Ah (Ae (o_mv rfl rfl (o_as rfl rfl (o_as rfl rfl (o_z ?_))))))
      refine Au ?_
      obtain rfl:=sm hf51
      obtain rfl:=hret52 _ rfl
      obtain rfl:=sm (By hm)
      replace hB:=(((hB.st S61).st S91).st S102).st S113
      exact ret2 rfl (AG rfl) (AG rfl) ⟨hB.ext,_,_,rfl,(vInt (show inI64 (0) from by decide)),(vErr r123)⟩
     ·
      replace hf51:=im hf51 c124
      refine o_z ?_
      refine Aj rfl (Am (Ah (Ae (o_mv rfl rfl (o_nc rfl rfl (o_fa rfl rfl ?_))))))
      replace h62:=h62.st S113
      refine o_ld (hc:=Blk.cell (i:=5) (h62.1) rfl) rfl rfl ?_
      refine o_mv rfl rfl ?_
      obtain ⟨q125,e126,hf51⟩:=bs hf51
      replace h84:=((h84.st S91).st S102).st S113
      refine Cf (O:=O112) (R:=fun w' F v=>Vb w' F v q125) (Cz Fr.lt h84 h119 e126) rfl rfl fun v131 w127 O128 S129 h130=>?_
      obtain ⟨A132,c133,rfl⟩:=h130.form
      refine o_ln rfl rfl ?_
      have l135:q125.length≤9223372036854775807:=Nat.le_trans h130.len.2.1 h130.len.2.2
      have r134:inI64 (q125.length:Int):=rngNat l135
      refine o_mv rfl rfl (o_z ?_)
      replace h62:=h62.st S129
      replace h65:=(((h65.st S91).st S102).st S113).st S129
      replace h69:=(((h69.st S91).st S102).st S113).st S129
      replace h73:=(((h73.st S91).st S102).st S113).st S129
      replace h77:=(((h77.st S91).st S102).st S113).st S129
      replace h84:=h84.st S129
      replace h116:=h116.st S129
      obtain ⟨O136,S137,hz139,ha140,h138⟩:=Spc.shut (x:=s43.2) (l0:=3) (l1:=4) (by decide) h62 h65 h69 h73 h77 h116 h84
      obtain ⟨res141,hL142,hf51⟩:=bs hf51
      refine AM (aft res141 (fun (s143:Spc) (x144:Unit)=>[(1,(.int .i64 x1)),(6,(.pointer (some ⟨p40,0,none⟩))),(8,(.int .i64 s43.1))]) (fun s143 x144 w'=>∃ O':Lab,Bs w A w' O'∧Ob 3 w' O' (.pointer (some ⟨p40,0,none⟩)) s143)) ?_ ?_
      ·
       refine Al ?_
       replace hB:=(((((hB.st S61).st S91).st S102).st S113).st S129).st S137
       replace h130:=h130.st S137
       refine BF (σ:=Spc) (X:=Unit) (q125.length) hL142 rfl l135 (fun (s143:Spc) (x144:Unit)=>[(1,(.int .i64 x1)),(6,(.pointer (some ⟨p40,0,none⟩))),(8,(.int .i64 s43.1)),(58,(.slice A132 q125.length c133))]) _ (fun s143 x144 w'=>∃ O':Lab,Bs w A w' O'∧Ob 3 w' O' (.pointer (some ⟨p40,0,none⟩)) s143∧Vb w' (Fr 0 w' O') (.slice A132 q125.length c133) q125) _ () ⟨O136,hB,h138,h130⟩ ⟨rfl,rfl,rfl,rfl,rfl,rfl,trivial⟩ (fun _ _=>⟨rfl,rfl⟩) (fun _ _=>⟨rfl,rfl,rfl,trivial⟩) (fun _ _ _ ⟨O',hB,h157,h130⟩=>⟨O',hB,h157⟩) ⟨rfl,rfl,rfl⟩ ⟨rfl,rfl⟩ ?_
       rintro k145 a146 s143 x144 w147 cc149 hx150 ⟨O148,hB,h157,h130⟩ hf151 hret152 hbrk153
       have rk145:inI64 (k145:Int):=rngK hx150 l135
       refine Ah (Ae ?_)
       obtain ⟨b158,o159,ce160,hA161,hl162,hd163,v165,rfl,h166,r169⟩:=h130.elem' hx150
       obtain ⟨A167,c168,rfl⟩:=h166.form
       refine o_iaE (hA:=hA161) (hj:=rfl) (hlt:=hl162) rfl rfl rfl ?_
       refine o_la (hl:=rfl) (hc:=hd163) rfl rfl ?_
       refine BY 5 O148 rfl fun g170 w171 O172 S173 h174=>?_
       refine AV h174 rfl rfl rfl (Nat.le_of_ble_eq_true rfl) (by first|exact allOne rfl|simp [Value.cells,Value.oneCell',AQ]) fun w175 S176 h174=>?_
       replace h174:Lc 5 w175 O172 g170 83 [(.int .i64 a146.op),(.slice A167 a146.state.length c168)]:=h174
       refine o_z ?_
       refine Ah ?_
       replace h157:=(h157.st S173).st S176
       obtain ⟨O177,v181,v185,v189,v193,v197,v200,S178,ha180,h179,h182,h186,h190,h194,h198,h201⟩:=Spc.opn h157 3 4 (by decide)
       obtain ⟨A183,c184,rfl⟩:=h182.form
       obtain ⟨A187,c188,rfl⟩:=h186.form
       obtain ⟨A191,c192,rfl⟩:=h190.form
       obtain ⟨A195,c196,rfl⟩:=h194.form
       obtain ⟨p199,rfl⟩:=h198.ptr
       obtain ⟨p202,rfl,hq203⟩:=h201.ptr
       refine BG [(6,[4])] O177 ?_
       refine x_pre (fuel:=8) [] [(0,true),(1,true),(2,true),(3,true),(4,true),(5,true)] (by kernel_rfl) rfl ?_
       refine h_mv rfl rfl rfl (h_nc rfl rfl rfl (h_fa rfl rfl rfl (h_ldC (hc:=fun w' ⟨O',hq⟩=>Blk.cell (i:=4) ((h179.st hq (by decide)).1) rfl) rfl rfl rfl ?_)))
       refine h_fa rfl rfl rfl ?_
       replace h174:=h174.st S178
       refine h_ldC (hc:=fun w' ⟨O',hq⟩=>Blk.cell (i:=1) ((h174.st hq (by decide)).1) rfl) rfl rfl rfl ?_
       refine AK ?_
       refine x_one (i:=6) (by kernel_rfl) rfl ?_
       obtain ⟨q204,e205,hf151⟩:=bs hf151
       replace h166:=((h166.st S173).st S176).st S178
       refine Bh (O:=O177) (CF h198 h166 e205) rfl rfl fun v210 w206 O207 S208 h209=>?_
       obtain ⟨v212,v213,v214,h211,rfl,h215,h216,h217⟩:=h209
       obtain ⟨rfl,r218⟩:=h215.int
       obtain rfl:=h216.bool
       obtain ⟨rfl,r219⟩:=h217.err
       have hZ:=S208.lst [4] (fun _ h=>by cases h;decide)
       refine x_go [] hZ (by kernel_rfl) ?_
       refine x_pre (fuel:=0) [] [(7,true),(8,true),(9,true),(10,true),(11,true),(12,true),(13,true)] (by kernel_rfl) rfl ?_
       refine h_mv rfl rfl rfl (h_ex rfl rfl rfl rfl (h_ex rfl rfl rfl rfl (h_ex rfl rfl rfl rfl (h_as rfl rfl rfl (h_as rfl rfl rfl (h_as rfl rfl rfl (AK ?_)))))))
       refine x_nil (by kernel_rfl) ?_
       refine Ah (Ae (o_mv rfl rfl (o_rnS rfl rfl (fun c220=>?_) fun c220=>?_)))
       ·
        replace hf151:=ip hf151 c220
        refine o_z ?_
        refine Ar rfl (Ah (Ae (o_miE rfl rfl ?_)))
        refine o_as rfl rfl (o_as rfl rfl (o_z ?_))
        refine Au ?_
        obtain rfl:=sm hf151
        obtain rfl:=hret152 _ rfl
        obtain rfl:=sm (By hf51)
        obtain rfl:=hret52 _ rfl
        obtain rfl:=sm (By hm)
        replace hB:=(((hB.st S173).st S176).st S178).st S208
        exact ret2 rfl (AG rfl) (AG rfl) ⟨hB.ext,_,_,rfl,(vInt (show inI64 (0) from by decide)),(vErr (by decide))⟩
       ·
        replace hf151:=im hf151 c220
        refine o_z ?_
        refine Aj rfl (Am ?_)
        replace h179:=h179.st S208
        replace h182:=h182.st S208
        replace h186:=h186.st S208
        replace h190:=h190.st S208
        replace h194:=h194.st S208
        replace h201:=h201.st S208
        obtain ⟨O221,S222,hz224,ha225,h223⟩:=Spc.shut (x:=(⟨(⟨s143.t.vars,s143.t.init,s143.t.goal,s143.t.ops⟩:Tsk),q204.2.2.2,s143.gen⟩:Spc)) (l0:=3) (l1:=4) (by decide) h179 h182 h186 h190 h194 h211 h201
        obtain rfl:=sm hf151
        refine (?_:Exists _)
        replace hB:=((((hB.st S173).st S176).st S178).st S208).st S222
        replace h130:=((((h130.st S173).st S176).st S178).st S208).st S222
        exact ⟨_,(),rfl,⟨rfl,rfl,rfl,rfl,rfl,rfl,trivial⟩,_,hB,h223,h130⟩
      replace hB:=(((((hB.st S61).st S91).st S102).st S113).st S129).st S137
      rintro l226 w227 ⟨s230,x231,rfl,hs229,O228,hB,h157⟩
      replace hf51:=AW hf51
      refine AO _ hs229 ?_
      refine Ae (o_mv rfl rfl ?_)
      obtain ⟨n232,e233,hf51⟩:=bs hf51
      have r234:=(Ba e233)
      refine o_adE (he:=e233) rfl rfl rfl ?_
      refine o_as rfl rfl (o_z ?_)
      obtain rfl:=sm hf51
      refine (?_:Exists _)
      exact ⟨_,(),rfl,⟨rfl,rfl,rfl,trivial⟩,_,hB,h157,r234⟩
   ·
    replace hf51:=im hf51 c97
    refine o_z ?_
    refine Aj rfl (At ?_)
    replace h62:=h62.st S91
    replace h65:=h65.st S91
    replace h69:=h69.st S91
    replace h73:=h73.st S91
    replace h77:=h77.st S91
    replace h84:=h84.st S91
    obtain ⟨O235,S236,hz238,ha239,h237⟩:=Spc.shut (x:=s43.2) (l0:=3) (l1:=4) (by decide) h62 h65 h69 h73 h77 h94 h84
    obtain rfl:=sm hf51
    refine (?_:Exists _)
    replace hB:=((hB.st S61).st S91).st S236
    exact ⟨_,(),hbrk53 _ rfl,⟨rfl,rfl,trivial⟩,_,hB,h237,r58⟩
  replace hB:=(hB.st S23).st S29
  rintro l240 w241 ⟨s244,x245,rfl,hs243,O242,hB,h59,r58⟩
  replace hm:=AW hm
  refine AO _ hs243 ?_
  refine Ah (Ah (Ae (o_mv rfl rfl (o_nc rfl rfl ?_))))
  obtain ⟨O246,v250,v254,v258,v262,v266,v269,S247,ha249,h248,h251,h255,h259,h263,h267,h270⟩:=Spc.opn h59 3 4 (by decide)
  obtain ⟨A252,c253,rfl⟩:=h251.form
  obtain ⟨A256,c257,rfl⟩:=h255.form
  obtain ⟨A260,c261,rfl⟩:=h259.form
  obtain ⟨A264,c265,rfl⟩:=h263.form
  obtain ⟨p268,rfl⟩:=h267.ptr
  obtain ⟨p271,rfl,hq272⟩:=h270.ptr
  refine o_fa rfl rfl (o_ld (hc:=Blk.cell (i:=4) (h248.1) rfl) rfl rfl ?_)
  obtain ⟨q273,e274,hm⟩:=bs hm
  refine Bh (O:=O246) (Cb h267 e274) rfl rfl fun v279 w275 O276 S277 h278=>?_
  obtain ⟨h280,h281⟩:=h278
  obtain ⟨rfl,r282⟩:=h281.int
  refine o_mv rfl rfl (o_gtS rfl rfl rfl (fun c283=>?_) fun c283=>?_)
  ·
   replace hm:=ip hm c283
   refine o_z ?_
   refine Ar rfl (Ah (Ae (o_miE rfl rfl ?_)))
   refine o_as rfl rfl (o_as rfl rfl (o_z ?_))
   refine Au ?_
   obtain rfl:=sm hm
   replace hB:=(hB.st S247).st S277
   exact ret2 rfl (AG rfl) (AG rfl) ⟨hB.ext,_,_,rfl,(vInt (show inI64 (0) from by decide)),(vErr (by decide))⟩
  ·
   replace hm:=im hm c283
   refine o_z ?_
   refine Aj rfl (Am (Ah (Ae (o_mv rfl rfl (o_nc rfl rfl (o_fa rfl rfl ?_))))))
   replace h248:=h248.st S277
   refine o_ld (hc:=Blk.cell (i:=4) (h248.1) rfl) rfl rfl ?_
   obtain ⟨q284,e285,hm⟩:=bs hm
   refine Bh (O:=O276) (Cb h280 e285) rfl rfl fun v290 w286 O287 S288 h289=>?_
   obtain ⟨h291,h292⟩:=h289
   obtain ⟨rfl,r293⟩:=h292.int
   refine o_as rfl rfl (o_as rfl rfl (o_z ?_))
   refine Au ?_
   obtain rfl:=sm hm
   replace hB:=((hB.st S247).st S277).st S288
   exact ret2 rfl (AG rfl) (AG rfl) ⟨hB.ext,_,_,rfl,(vInt r293),(vErr (show inI64 0 from by decide))⟩
end
section
open Go Go.RowKit
attribute [local irreducible] ewp owp hwp hwq hws Ev Evg Fn retPost loud loudS Res1
attribute [local irreducible] hwx loudX
noncomputable def DK (x0:Tsk):Option (List Int) :=
  bnd (DN x0.vars 512) fun q24=>bnd (mkI 8 (0:Int) q24) fun u32=>bnd (rngN (ρ:=(List Int)) (fun (k51:Nat) (s49:(List Int))=>bnd (s49[k51]?) fun a70=>some (.next (s49.set k51 1125899906842624))) u32.length u32) fun res47=>fin res47 fun (s86:(List Int))=>bnd (Cx x0.vars x0.init) fun q88=>bnd (atI s86 q88) fun a96=>bnd (Db x0) fun q110=>bnd (lop (ρ:=(List Int)) (fun (s121:(List Int)×Bool)=>if s121.2=true then (bnd (rng (ρ:=Ctl ((List Int)×Bool) (List Int)) (fun (k145:Nat) (a146:Edg) (s143:(List Int)×Bool)=>bnd (bnd (atI s143.1 a146.src) fun a181=>if a181 < 1125899906842624 then (bnd (atI s143.1 a146.src) fun a194=>bnd (atI x0.ops a146.op) fun a206=>bnd (chkI (a194 + a206.cost)) fun n227=>bnd (atI s143.1 a146.dst) fun a230=>if n227 < a230 then (some true) else (some false)) else (some false):Option Bool) fun y177=>if y177=true then (bnd (atI s143.1 a146.src) fun a248=>bnd (atI x0.ops a146.op) fun a260=>bnd (chkI (a248 + a260.cost)) fun n281=>bnd (atI s143.1 a146.dst) fun a284=>some (.next ((s143.1.set (a146.dst:Int).toNat n281),true))) else (some (.next (s143.1,s143.2)))) q110 0 (s121.1,false)) fun res141=>fin res141 fun (s302:(List Int)×Bool)=>some (.next (s302.1,s302.2))) else (some (.brk (s121.1,s121.2)))) ((s86.set (q88:Int).toNat 0),true)) fun res119=>fin res119 fun (s308:(List Int)×Bool)=>some s308.1
theorem Jl {w:World} {A:Nat→Prop} (hA:∀ k,A k→k < w.heap.size) {vx0:Value} {x0:Tsk} (hx0:Vb w A vx0 x0) {r:(List Int)} (hm:DK x0=some r) :
    Fn Try.prog 23 [vx0] w fun v w'=>Ext w w'∧Vb w' (upA A w w') v r:=by
 obtain ⟨O,hB,hA0⟩:=enter hA
 replace hx0:=hx0.mono hA0
 obtain ⟨cs2,rfl,v3,v4,v5,v6,rfl,h7,h10,h13,h16⟩:=hx0
 obtain ⟨A8,c9,rfl⟩:=h7.form
 obtain ⟨A11,c12,rfl⟩:=h10.form
 obtain ⟨A14,c15,rfl⟩:=h13.form
 obtain ⟨A17,c18,rfl⟩:=h16.form
 refine AL Try.func23 rfl Try.ntmps23 rfl ?_
 unfold DK at hm
 refine Ah (Ae (l_box 2 O rfl rfl fun g19 w20 O21 S22 h23=>?_))
 replace h23:Lc 2 w20 O21 g19 26 [(.slice A8 x0.vars.length c9),(.slice A11 x0.init.length c12),(.slice A14 x0.goal.length c15),(.slice A17 x0.ops.length c18)]:=h23
 refine o_as rfl rfl (o_z ?_)
 refine Ah (Ae (o_fa rfl rfl (o_ld (hc:=Blk.cell (i:=0) (h23.1) rfl) rfl rfl ?_)))
 obtain ⟨q24,e25,hm⟩:=bs hm
 replace h7:=h7.st S22
 refine BK (O:=O21) (A:=All w20) (R:=fun w' F v=>Vb w' F v q24) (Kc (fun _ h=>h) (Vb.mono (F:=Fr 0 w20 O21) h7 Fr.lt) (show inI64 (512) from by decide) e25) rfl rfl fun v30 w26 O27 S28 h29=>?_
 obtain ⟨rfl,r31⟩:=h29.int
 obtain ⟨u32,e33,hm⟩:=bs hm
 obtain ⟨m34,e35,e36,e37,e38⟩:=Gw e33
 refine Iq 3 (by decide) O27 (z0:=(0:Int)) rfl rfl rfl rfl rfl e35 (vInt (show inI64 0 from by decide)) e36 e37 rfl fun g39 w40 O41 S42 h43=>?_
 rw [← e38] at h43 ⊢
 refine o_as rfl rfl (o_z ?_)
 refine Ah (Ah (Ae (o_mv rfl rfl (o_ln rfl rfl ?_))))
 have l46:u32.length≤9223372036854775807:=Nat.le_trans h43.len.2.1 h43.len.2.2
 have r45:inI64 (u32.length:Int):=rngNat l46
 refine o_mv rfl rfl (o_z ?_)
 obtain ⟨res47,hL48,hm⟩:=bs hm
 refine AM (aft res47 (fun (s49:(List Int)) (x50:Unit)=>[(1,(.pointer (some ⟨g19,0,none⟩))),(3,(.slice (some ⟨g39,0,none⟩) u32.length m34))]) (fun s49 x50 w'=>∃ O':Lab,Bs w A w' O'∧Lc 2 w' O' g19 26 [(.slice A8 x0.vars.length c9),(.slice A11 x0.init.length c12),(.slice A14 x0.goal.length c15),(.slice A17 x0.ops.length c18)]∧Vb w' (Fr 0 w' O') (.slice A8 x0.vars.length c9) x0.vars∧Vb w' (Fr 0 w' O') (.slice A11 x0.init.length c12) x0.init∧Vb w' (Fr 0 w' O') (.slice A14 x0.goal.length c15) x0.goal∧Vb w' (Fr 0 w' O') (.slice A17 x0.ops.length c18) x0.ops∧Rw 3 w' O' 3 (.slice (some ⟨g39,0,none⟩) u32.length m34) s49)) ?_ ?_
 ·
  refine Al ?_
  replace hB:=((hB.st S22).st S28).st S42
  replace h7:=(h7.st S28).st S42
  replace h10:=((h10.st S22).st S28).st S42
  replace h13:=((h13.st S22).st S28).st S42
  replace h16:=((h16.st S22).st S28).st S42
  replace h23:=(h23.st S28).st S42
  refine Jx (σ:=(List Int)) (X:=Unit) (u32.length) hL48 l46 (fun (s49:(List Int)) (x50:Unit)=>[(1,(.pointer (some ⟨g19,0,none⟩))),(3,(.slice (some ⟨g39,0,none⟩) u32.length m34))]) _ (fun s49 x50 w'=>∃ O':Lab,Bs w A w' O'∧Lc 2 w' O' g19 26 [(.slice A8 x0.vars.length c9),(.slice A11 x0.init.length c12),(.slice A14 x0.goal.length c15),(.slice A17 x0.ops.length c18)]∧Vb w' (Fr 0 w' O') (.slice A8 x0.vars.length c9) x0.vars∧Vb w' (Fr 0 w' O') (.slice A11 x0.init.length c12) x0.init∧Vb w' (Fr 0 w' O') (.slice A14 x0.goal.length c15) x0.goal∧Vb w' (Fr 0 w' O') (.slice A17 x0.ops.length c18) x0.ops∧Rw 3 w' O' 3 (.slice (some ⟨g39,0,none⟩) u32.length m34) s49) _ () ⟨O41,hB,h23,h7,h10,h13,h16,h43⟩ ⟨rfl,rfl,rfl,rfl,trivial⟩ (fun _ _=>⟨rfl,rfl⟩) (fun _ _=>⟨rfl,rfl,trivial⟩) (fun _ _ _ ⟨O',hB,h23,h7,h10,h13,h16,h68⟩=>⟨O',hB,h23,h7,h10,h13,h16,h68⟩) ⟨rfl,rfl,rfl⟩ ⟨rfl,rfl⟩ ?_
  rintro k51 s49 x50 w53 cc55 hx56 ⟨O54,hB,h23,h7,h10,h13,h16,h68⟩ hf57 hret58 hbrk59
  have rk51:inI64 (k51:Int):=rngKN hx56 l46
  refine Ah (Ae (o_mv rfl rfl (o_as rfl rfl (o_z ?_))))
  refine Ae (o_mv rfl rfl (o_mv rfl rfl ?_))
  obtain ⟨a70,e71,hf57⟩:=bs hf57
  obtain ⟨b72,o73,ce74,hA75,hl76,hd77,rfl,r79⟩:=h68.elem e71
  refine o_iaE (hA:=hA75) (hj:=rfl) (hlt:=hl76) rfl rfl rfl ?_
  refine CM rfl h68 (a:=1125899906842624) (vInt (show inI64 (1125899906842624) from by decide)) hA75 rfl rfl (AJ e71) fun w80 S81 h68=>?_
  refine o_z ?_
  obtain rfl:=sm hf57
  refine (?_:Exists _)
  replace hB:=hB.st S81
  replace h7:=h7.st S81
  replace h10:=h10.st S81
  replace h13:=h13.st S81
  replace h16:=h16.st S81
  replace h23:=h23.st S81
  exact ⟨_,(),rfl,⟨rfl,rfl,rfl,rfl,trivial⟩,_,hB,h23,h7,h10,h13,h16,h68⟩
 replace hB:=((hB.st S22).st S28).st S42
 replace h7:=(h7.st S28).st S42
 replace h10:=((h10.st S22).st S28).st S42
 replace h13:=((h13.st S22).st S28).st S42
 replace h16:=((h16.st S22).st S28).st S42
 replace h23:=(h23.st S28).st S42
 rintro l82 w83 ⟨s86,x87,rfl,hs85,O84,hB,h23,h7,h10,h13,h16,h68⟩
 replace hm:=AW hm
 refine AO _ hs85 ?_
 refine Ah (Ae (o_mv rfl rfl (o_fa rfl rfl (o_ld (hc:=Blk.cell (i:=0) (h23.1) rfl) rfl rfl ?_))))
 refine o_fa rfl rfl (o_ld (hc:=Blk.cell (i:=1) (h23.1) rfl) rfl rfl ?_)
 obtain ⟨q88,e89,hm⟩:=bs hm
 refine BK (O:=O84) (A:=All w83) (R:=fun w' F v=>Vb w' F v q88) (FX (fun _ h=>h) (Vb.mono (F:=Fr 0 w83 O84) h7 Fr.lt) (Vb.mono (F:=Fr 0 w83 O84) h10 Fr.lt) e89) rfl rfl fun v94 w90 O91 S92 h93=>?_
 obtain ⟨rfl,r95⟩:=h93.int
 obtain ⟨a96,e97,hm⟩:=bs hm
 obtain ⟨p99,x98⟩:=AN e97
 replace h68:=h68.st S92
 obtain ⟨b100,o101,ce102,hA103,hl104,hd105,rfl,r107⟩:=h68.elem x98
 refine o_iaE (hA:=hA103) (hj:=(Int.toNat_of_nonneg p99).symm) (hlt:=hl104) rfl rfl rfl ?_
 refine CM rfl h68 (a:=0) (vInt (show inI64 (0) from by decide)) hA103 rfl rfl (AJ x98) fun w108 S109 h68=>?_
 refine o_z ?_
 refine Ah (Ae ?_)
 replace h23:=(h23.st S92).st S109
 refine o_la (hl:=rfl) (hc:=(h23.1).cellsAt) rfl rfl ?_
 obtain ⟨q110,e111,hm⟩:=bs hm
 replace h7:=(h7.st S92).st S109
 replace h10:=(h10.st S92).st S109
 replace h13:=(h13.st S92).st S109
 replace h16:=(h16.st S92).st S109
 refine Cf (O:=O91) (R:=fun w' F v=>Vb w' F v q110) (Hu Fr.lt (Vb.ofAgg (cs:=[(.slice A8 x0.vars.length c9),(.slice A11 x0.init.length c12),(.slice A14 x0.goal.length c15),(.slice A17 x0.ops.length c18)]) (x:=x0) rfl ⟨_,_,_,_,rfl,h7,h10,h13,h16⟩) e111) rfl rfl fun v116 w112 O113 S114 h115=>?_
 obtain ⟨A117,c118,rfl⟩:=h115.form
 refine o_as rfl rfl (o_z ?_)
 refine Ah (Ah (Ae (o_as rfl rfl (o_z ?_))))
 obtain ⟨res119,hL120,hm⟩:=bs hm
 refine AM (aft res119 (fun (s121:(List Int)×Bool) (x122:Unit)=>[(3,(.slice (some ⟨g39,0,none⟩) u32.length m34))]) (fun s121 x122 w'=>∃ O':Lab,Bs w A w' O'∧Rw 3 w' O' 3 (.slice (some ⟨g39,0,none⟩) u32.length m34) s121.1)) ?_ ?_
 ·
  refine Al ?_
  replace hB:=((hB.st S92).st S109).st S114
  replace h7:=h7.st S114
  replace h10:=h10.st S114
  replace h13:=h13.st S114
  replace h16:=h16.st S114
  replace h23:=h23.st S114
  replace h68:=h68.st S114
  refine DL (σ:=(List Int)×Bool) (X:=Unit) hL120 (fun (s121:(List Int)×Bool) (x122:Unit)=>[(1,(.pointer (some ⟨g19,0,none⟩))),(3,(.slice (some ⟨g39,0,none⟩) u32.length m34)),(5,(.slice A117 q110.length c118)),(6,(.bool s121.2))]) _ (fun s121 x122 w'=>∃ O':Lab,Bs w A w' O'∧Lc 2 w' O' g19 26 [(.slice A8 x0.vars.length c9),(.slice A11 x0.init.length c12),(.slice A14 x0.goal.length c15),(.slice A17 x0.ops.length c18)]∧Vb w' (Fr 0 w' O') (.slice A8 x0.vars.length c9) x0.vars∧Vb w' (Fr 0 w' O') (.slice A11 x0.init.length c12) x0.init∧Vb w' (Fr 0 w' O') (.slice A14 x0.goal.length c15) x0.goal∧Vb w' (Fr 0 w' O') (.slice A17 x0.ops.length c18) x0.ops∧Rw 3 w' O' 3 (.slice (some ⟨g39,0,none⟩) u32.length m34) s121.1∧Vb w' (Fr 0 w' O') (.slice A117 q110.length c118) q110) _ () ⟨O113,hB,h23,h7,h10,h13,h16,h68,h115⟩ ⟨rfl,rfl,rfl,rfl,trivial⟩ ?_
  rintro s121 x122 w125 cc127 ⟨O126,hB,h23,h7,h10,h13,h16,h136,h115⟩ hf129 hret130 hbrk131
  refine Ah (Ah (Ae (o_mv rfl rfl (o_z ?_))))
  refine BP rfl (fun c138=>?_) (fun c138=>?_)
  ·
   replace hf129:=ip hf129 c138
   refine Am (Al (Ah (Ae (o_as rfl rfl (o_z ?_)))))
   refine Ah (Ae (o_mv rfl rfl (o_ln rfl rfl ?_)))
   have l140:q110.length≤9223372036854775807:=Nat.le_trans h115.len.2.1 h115.len.2.2
   have r139:inI64 (q110.length:Int):=rngNat l140
   refine o_mv rfl rfl (o_z ?_)
   obtain ⟨res141,hL142,hf129⟩:=bs hf129
   refine AM (aft res141 (fun (s143:(List Int)×Bool) (x144:Unit)=>[(1,(.pointer (some ⟨g19,0,none⟩))),(3,(.slice (some ⟨g39,0,none⟩) u32.length m34)),(5,(.slice A117 q110.length c118)),(6,(.bool s143.2))]) (fun s143 x144 w'=>∃ O':Lab,Bs w A w' O'∧Lc 2 w' O' g19 26 [(.slice A8 x0.vars.length c9),(.slice A11 x0.init.length c12),(.slice A14 x0.goal.length c15),(.slice A17 x0.ops.length c18)]∧Vb w' (Fr 0 w' O') (.slice A8 x0.vars.length c9) x0.vars∧Vb w' (Fr 0 w' O') (.slice A11 x0.init.length c12) x0.init∧Vb w' (Fr 0 w' O') (.slice A14 x0.goal.length c15) x0.goal∧Vb w' (Fr 0 w' O') (.slice A17 x0.ops.length c18) x0.ops∧Rw 3 w' O' 3 (.slice (some ⟨g39,0,none⟩) u32.length m34) s143.1∧Vb w' (Fr 0 w' O') (.slice A117 q110.length c118) q110)) ?_ ?_
   ·
    refine Al (BF (σ:=(List Int)×Bool) (X:=Unit) (q110.length) hL142 rfl l140 (fun (s143:(List Int)×Bool) (x144:Unit)=>[(1,(.pointer (some ⟨g19,0,none⟩))),(3,(.slice (some ⟨g39,0,none⟩) u32.length m34)),(5,(.slice A117 q110.length c118)),(6,(.bool s143.2)),(32,(.slice A117 q110.length c118))]) _ (fun s143 x144 w'=>∃ O':Lab,Bs w A w' O'∧Lc 2 w' O' g19 26 [(.slice A8 x0.vars.length c9),(.slice A11 x0.init.length c12),(.slice A14 x0.goal.length c15),(.slice A17 x0.ops.length c18)]∧Vb w' (Fr 0 w' O') (.slice A8 x0.vars.length c9) x0.vars∧Vb w' (Fr 0 w' O') (.slice A11 x0.init.length c12) x0.init∧Vb w' (Fr 0 w' O') (.slice A14 x0.goal.length c15) x0.goal∧Vb w' (Fr 0 w' O') (.slice A17 x0.ops.length c18) x0.ops∧Rw 3 w' O' 3 (.slice (some ⟨g39,0,none⟩) u32.length m34) s143.1∧Vb w' (Fr 0 w' O') (.slice A117 q110.length c118) q110) _ () ⟨O126,hB,h23,h7,h10,h13,h16,h136,h115⟩ ⟨rfl,rfl,rfl,rfl,rfl,rfl,rfl,trivial⟩ (fun _ _=>⟨rfl,rfl⟩) (fun _ _=>⟨rfl,rfl,rfl,rfl,trivial⟩) (fun _ _ _ ⟨O',hB,h23,h7,h10,h13,h16,h158,h115⟩=>⟨O',hB,h23,h7,h10,h13,h16,h158,h115⟩) ⟨rfl,rfl,rfl⟩ ⟨rfl,rfl⟩ ?_)
    rintro k145 a146 s143 x144 w147 cc149 hx150 ⟨O148,hB,h23,h7,h10,h13,h16,h158,h115⟩ hf151 hret152 hbrk153
    have rk145:inI64 (k145:Int):=rngK hx150 l140
    refine Ah (Ae ?_)
    obtain ⟨b160,o161,ce162,hA163,hl164,hd165,rfl,r167,r168,r169⟩:=h115.elem' hx150
    refine o_iaE (hA:=hA163) (hj:=rfl) (hlt:=hl164) rfl rfl rfl ?_
    refine o_la (hl:=rfl) (hc:=hd165) rfl rfl ?_
    refine BY 4 O148 rfl fun g170 w171 O172 S173 h174=>?_
    refine AV h174 rfl rfl rfl (Nat.le_of_ble_eq_true rfl) (by first|exact allOne rfl|simp [Value.cells,Value.oneCell',AQ]) fun w175 S176 h174=>?_
    replace h174:Lc 4 w175 O172 g170 93 [(.int .i64 a146.src),(.int .i64 a146.op),(.int .i64 a146.dst)]:=h174
    refine o_z ?_
    refine Ah ?_
    obtain ⟨y177,hy178,hf151⟩:=bs hf151
    refine AM (fun l' w'=>∃ (x180:Unit) (O':Lab),subs l' [(1,(.pointer (some ⟨g19,0,none⟩))),(3,(.slice (some ⟨g39,0,none⟩) u32.length m34)),(5,(.slice A117 q110.length c118)),(6,(.bool s143.2)),(8,(.pointer (some ⟨g170,0,none⟩))),(32,(.slice A117 q110.length c118)),(33,(.int .i64 (q110.length:Int))),(34,(.int .i64 (k145:Int))),(64,(.bool y177))]∧Bs w A w' O'∧Lc 2 w' O' g19 26 [(.slice A8 x0.vars.length c9),(.slice A11 x0.init.length c12),(.slice A14 x0.goal.length c15),(.slice A17 x0.ops.length c18)]∧Vb w' (Fr 0 w' O') (.slice A8 x0.vars.length c9) x0.vars∧Vb w' (Fr 0 w' O') (.slice A11 x0.init.length c12) x0.init∧Vb w' (Fr 0 w' O') (.slice A14 x0.goal.length c15) x0.goal∧Vb w' (Fr 0 w' O') (.slice A17 x0.ops.length c18) x0.ops∧Rw 3 w' O' 3 (.slice (some ⟨g39,0,none⟩) u32.length m34) s143.1∧Vb w' (Fr 0 w' O') (.slice A117 q110.length c118) q110∧Lc 4 w' O' g170 93 [(.int .i64 a146.src),(.int .i64 a146.op),(.int .i64 a146.dst)]) ?_ ?_
    ·
     refine BJ (·=w175) [(0,true),(1,true),(2,true),(3,true),(4,true),(5,true),(6,true),(7,true),(8,true),(9,true),(10,true),(11,true),(12,true),(13,true),(14,true),(15,true),(16,true),(17,true),(18,true),(19,true),(20,true),(21,true),(22,true),(23,true),(24,true),(25,true),(26,true)] (by kernel_rfl) rfl (by kernel_rfl) rfl ?_
     refine h_mv rfl rfl rfl (h_fa rfl rfl rfl (h_ldA (hc:=Blk.cell (i:=0) (h174.1) rfl) rfl rfl rfl ?_))
     obtain ⟨a181,e182,hy178⟩:=bs hy178
     obtain ⟨p184,x183⟩:=AN e182
     replace h158:=(h158.st S173).st S176
     obtain ⟨b185,o186,ce187,hA188,hl189,hd190,rfl,r192⟩:=h158.elem x183
     refine h_iaE (hA:=hA188) (hj:=(Int.toNat_of_nonneg p184).symm) (hlt:=hl189) rfl rfl rfl rfl ?_
     refine h_ldA (hc:=cat0 hd190) rfl rfl rfl ?_
     refine h_ltS rfl rfl rfl rfl (fun c193=>?_) fun c193=>?_
     ·
      replace hy178:=ip hy178 c193
      refine h_mv rfl rfl rfl (hwp_o rfl (AC rfl rfl (g_mv rfl rfl (hwp_o rfl (AC rfl rfl (g_fa rfl rfl (hwp_o rfl (AC rfl rfl (g_ldA (hc:=Blk.cell (i:=0) (h174.1) rfl) rfl rfl ?_)))))))))
      refine hwp_o rfl (AC rfl rfl ?_)
      obtain ⟨a194,e195,hy178⟩:=bs hy178
      obtain ⟨p197,x196⟩:=AN e195
      obtain ⟨b198,o199,ce200,hA201,hl202,hd203,rfl,r205⟩:=h158.elem x196
      refine g_iaE (hA:=hA201) (hj:=(Int.toNat_of_nonneg p197).symm) (hlt:=hl202) rfl rfl rfl ?_
      refine hwp_o rfl (AC rfl rfl (g_ldA (hc:=cat0 hd203) rfl rfl ?_))
      refine hwp_o rfl (AC rfl rfl (g_fa rfl rfl (hwp_o rfl (AC rfl rfl ?_))))
      replace h23:=(h23.st S173).st S176
      refine g_ldA (hc:=Blk.cell (i:=3) (h23.1) rfl) rfl rfl ?_
      refine hwp_o rfl (AC rfl rfl (g_fa rfl rfl (hwp_o rfl (AC rfl rfl (g_ldA (hc:=Blk.cell (i:=1) (h174.1) rfl) rfl rfl ?_)))))
      refine hwp_o rfl (AC rfl rfl ?_)
      obtain ⟨a206,e207,hy178⟩:=bs hy178
      obtain ⟨p209,x208⟩:=AN e207
      replace h16:=(h16.st S173).st S176
      obtain ⟨b210,o211,ce212,hA213,hl214,hd215,v217,v218,rfl,h219,h222,r225,z226⟩:=h16.elem' x208
      obtain ⟨A220,c221,rfl⟩:=h219.form
      obtain ⟨A223,c224,rfl⟩:=h222.form
      refine g_iaE (hA:=hA213) (hj:=(Int.toNat_of_nonneg p209).symm) (hlt:=hl214) rfl rfl rfl ?_
      refine hwp_o rfl (AC rfl rfl (g_fa rfl rfl (hwp_o rfl (AC rfl rfl (g_ldA (hc:=cat1 hd215) rfl rfl ?_)))))
      refine hwp_o rfl (AC rfl rfl ?_)
      obtain ⟨n227,e228,hy178⟩:=bs hy178
      have r229:=(Ba e228)
      refine g_adE (he:=e228) rfl rfl rfl ?_
      refine hwp_o rfl (AC rfl rfl (g_mv rfl rfl (hwp_o rfl (AC rfl rfl (g_fa rfl rfl (hwp_o rfl (AC rfl rfl (g_ldA (hc:=Blk.cell (i:=2) (h174.1) rfl) rfl rfl ?_))))))))
      refine hwp_o rfl (AC rfl rfl ?_)
      obtain ⟨a230,e231,hy178⟩:=bs hy178
      obtain ⟨p233,x232⟩:=AN e231
      obtain ⟨b234,o235,ce236,hA237,hl238,hd239,rfl,r241⟩:=h158.elem x232
      refine g_iaE (hA:=hA237) (hj:=(Int.toNat_of_nonneg p233).symm) (hlt:=hl238) rfl rfl rfl ?_
      refine hwp_o rfl (AC rfl rfl (g_ldA (hc:=cat0 hd239) rfl rfl ?_))
      refine hwp_o rfl (AC rfl rfl (AP (fun _ _=>BV rfl rfl) rfl (fun c242=>?_) (fun c242=>?_)))
      ·
       replace hy178:=ip hy178 c242
       refine h_pt rfl rfl rfl rfl (h_z ?_)
       obtain rfl:=sm hy178
       replace hB:=(hB.st S173).st S176
       replace h7:=(h7.st S173).st S176
       replace h10:=(h10.st S173).st S176
       replace h13:=(h13.st S173).st S176
       replace h115:=(h115.st S173).st S176
       exact ⟨(),_,⟨rfl,rfl,rfl,rfl,rfl,rfl,rfl,rfl,rfl,trivial⟩,hB,h23,h7,h10,h13,h16,h158,h115,h174⟩
      ·
       replace hy178:=im hy178 c242
       refine h_pt rfl rfl rfl rfl (h_z ?_)
       obtain rfl:=sm hy178
       replace hB:=(hB.st S173).st S176
       replace h7:=(h7.st S173).st S176
       replace h10:=(h10.st S173).st S176
       replace h13:=(h13.st S173).st S176
       replace h115:=(h115.st S173).st S176
       exact ⟨(),_,⟨rfl,rfl,rfl,rfl,rfl,rfl,rfl,rfl,rfl,trivial⟩,hB,h23,h7,h10,h13,h16,h158,h115,h174⟩
     ·
      replace hy178:=im hy178 c193
      refine h_mv rfl rfl rfl (h_no rfl rfl rfl rfl rfl (h_no rfl rfl rfl rfl rfl (h_no rfl rfl rfl rfl rfl (h_no rfl rfl rfl rfl rfl (h_no rfl rfl rfl rfl rfl (h_no rfl rfl rfl rfl rfl (h_no rfl rfl rfl rfl rfl (h_no rfl rfl rfl rfl rfl (h_no rfl rfl rfl rfl rfl (h_no rfl rfl rfl rfl rfl (h_no rfl rfl rfl rfl rfl (h_no rfl rfl rfl rfl rfl (h_no rfl rfl rfl rfl rfl (h_no rfl rfl rfl rfl rfl ?_))))))))))))))
      refine h_no rfl rfl rfl rfl rfl (h_no rfl rfl rfl rfl rfl (h_no rfl rfl rfl rfl rfl (h_no rfl rfl rfl rfl rfl (h_no rfl rfl rfl rfl rfl (h_pf rfl rfl rfl rfl (h_z ?_))))))
      obtain rfl:=sm hy178
      replace hB:=(hB.st S173).st S176
      replace h7:=(h7.st S173).st S176
      replace h10:=(h10.st S173).st S176
      replace h13:=(h13.st S173).st S176
      replace h16:=(h16.st S173).st S176
      replace h23:=(h23.st S173).st S176
      replace h115:=(h115.st S173).st S176
      exact ⟨(),_,⟨rfl,rfl,rfl,rfl,rfl,rfl,rfl,rfl,rfl,trivial⟩,hB,h23,h7,h10,h13,h16,h158,h115,h174⟩
    replace hB:=(hB.st S173).st S176
    replace h7:=(h7.st S173).st S176
    replace h10:=(h10.st S173).st S176
    replace h13:=(h13.st S173).st S176
    replace h16:=(h16.st S173).st S176
    replace h23:=(h23.st S173).st S176
    replace h115:=(h115.st S173).st S176
    replace h158:=(h158.st S173).st S176
    rintro l243 w244 ⟨x180,O245,hs246,hB,h23,h7,h10,h13,h16,h158,h115,h174⟩
    refine AO _ hs246 ?_
    refine BP rfl (fun c247=>?_) (fun c247=>?_)
    ·
     replace hf151:=ip hf151 c247
     refine Ah (BG [] O245 ?_)
     refine x_pre (fuel:=1) [] [(0,true),(1,true),(2,true),(3,true),(4,true),(5,true),(6,true),(7,true),(8,true),(9,true),(10,true),(11,true),(12,true),(13,true),(14,true),(15,true),(16,true)] (by kernel_rfl) rfl ?_
     refine h_mv rfl rfl rfl (h_fa rfl rfl rfl (h_ldC (hc:=fun w' ⟨O',hq⟩=>Blk.cell (i:=2) ((h174.st hq (by decide)).1) rfl) rfl rfl rfl ?_))
     refine h_mv rfl rfl rfl (h_fa rfl rfl rfl (h_ldC (hc:=fun w' ⟨O',hq⟩=>Blk.cell (i:=0) ((h174.st hq (by decide)).1) rfl) rfl rfl rfl ?_))
     obtain ⟨a248,e249,hf151⟩:=bs hf151
     obtain ⟨p251,x250⟩:=AN e249
     obtain ⟨b252,o253,ce254,hA255,hF258,hl256,hd257,rfl,r259⟩:=h158.elemF x250
     refine h_iaE (hA:=hA255) (hj:=(Int.toNat_of_nonneg p251).symm) (hlt:=hl256) rfl rfl rfl rfl ?_
     refine h_ldC (hc:=fun w' ⟨O',hq⟩=>cat0 (Bj (hq.agree (i:=3) (by decide)) hF258 hd257)) rfl rfl rfl ?_
     refine h_fa rfl rfl rfl (h_ldC (hc:=fun w' ⟨O',hq⟩=>Blk.cell (i:=3) ((h23.st hq (by decide)).1) rfl) rfl rfl rfl ?_)
     refine h_fa rfl rfl rfl (h_ldC (hc:=fun w' ⟨O',hq⟩=>Blk.cell (i:=1) ((h174.st hq (by decide)).1) rfl) rfl rfl rfl ?_)
     obtain ⟨a260,e261,hf151⟩:=bs hf151
     obtain ⟨p263,x262⟩:=AN e261
     obtain ⟨b264,o265,ce266,hA267,hF270,hl268,hd269,v271,v272,rfl,h273,h276,r279,z280⟩:=h16.elem x262
     obtain ⟨A274,c275,rfl⟩:=h273.form
     obtain ⟨A277,c278,rfl⟩:=h276.form
     refine h_iaE (hA:=hA267) (hj:=(Int.toNat_of_nonneg p263).symm) (hlt:=hl268) rfl rfl rfl rfl ?_
     refine h_fa rfl rfl rfl (h_ldC (hc:=fun w' ⟨O',hq⟩=>cat1 (Bj (hq.agree (i:=0) (by decide)) hF270 hd269)) rfl rfl rfl ?_)
     obtain ⟨n281,e282,hf151⟩:=bs hf151
     have r283:=(Ba e282)
     refine h_adE (he:=e282) rfl rfl rfl rfl ?_
     obtain ⟨a284,e285,hf151⟩:=bs hf151
     obtain ⟨p287,x286⟩:=AN e285
     obtain ⟨b288,o289,ce290,hA291,hF294,hl292,hd293,rfl,r295⟩:=h158.elemF x286
     refine h_iaE (hA:=hA291) (hj:=(Int.toNat_of_nonneg p287).symm) (hlt:=hl292) rfl rfl rfl rfl ?_
     refine AK ?_
     refine x_one (i:=17) (by kernel_rfl) rfl ?_
     refine CM rfl h158 (a:=n281) (vInt r283) hA291 rfl rfl (AJ x286) fun w296 S297 h158=>?_
     refine x_end (by kernel_rfl) ?_
     refine x_nil (by kernel_rfl) ?_
     refine Ae (o_as rfl rfl (o_z ?_))
     obtain rfl:=sm hf151
     refine (?_:Exists _)
     replace hB:=hB.st S297
     replace h7:=h7.st S297
     replace h10:=h10.st S297
     replace h13:=h13.st S297
     replace h16:=h16.st S297
     replace h23:=h23.st S297
     replace h115:=h115.st S297
     exact ⟨_,(),rfl,⟨rfl,rfl,rfl,rfl,rfl,rfl,rfl,trivial⟩,_,hB,h23,h7,h10,h13,h16,h158,h115⟩
    ·
     replace hf151:=im' hf151 c247
     refine Am ?_
     obtain rfl:=sm hf151
     refine (?_:Exists _)
     exact ⟨_,(),rfl,⟨rfl,rfl,rfl,rfl,rfl,rfl,rfl,trivial⟩,_,hB,h23,h7,h10,h13,h16,h158,h115⟩
   rintro l298 w299 ⟨s302,x303,rfl,hs301,O300,hB,h23,h7,h10,h13,h16,h158,h115⟩
   replace hf129:=AW hf129
   obtain rfl:=sm hf129
   refine (?_:Exists _)
   exact ⟨_,(),rfl,⟨(Bo hs301 _ _ rfl),(Bo hs301 _ _ rfl),(Bo hs301 _ _ rfl),(Bo hs301 _ _ rfl),trivial⟩,_,hB,h23,h7,h10,h13,h16,h158,h115⟩
  ·
   replace hf129:=im' hf129 c138
   refine At ?_
   obtain rfl:=sm hf129
   refine (?_:Exists _)
   exact ⟨_,(),hbrk131 _ rfl,⟨rfl,trivial⟩,_,hB,h136⟩
 replace hB:=((hB.st S92).st S109).st S114
 rintro l304 w305 ⟨s308,x309,rfl,hs307,O306,hB,h136⟩
 replace hm:=AW hm
 refine AO _ hs307 ?_
 refine Ah (Ae (o_mv rfl rfl (o_as rfl rfl (o_z ?_))))
 refine Au ?_
 obtain ⟨O310,S311,h136⟩:=h136.freeze
 obtain rfl:=sm hm
 replace hB:=hB.st S311
 exact ret1v rfl (AG rfl) ⟨hB.ext,(Vb.mono (F:=Fr 0 w305 O310) h136 hB.out)⟩
noncomputable def Cr  : Option Tsk :=
  bnd (rngN (ρ:=Tsk) (fun (k35:Nat) (s33:(List Opr))=>bnd (chkI ((k35:Int) + 1)) fun n56=>bnd (appI 72 s33 [(⟨(⟨#[]⟩:ByteArray),1,[(⟨0,(k35:Int)⟩:Fct)],[(⟨([]:List Fct),0,n56⟩:Eff)]⟩:Opr)]) fun u69=>some (.next u69)) 3 ([]:List Opr)) fun res31=>fin res31 fun (s87:(List Opr))=>bnd (appI 72 s87 [(⟨(⟨#[]⟩:ByteArray),5,[(⟨0,0⟩:Fct)],[(⟨([]:List Fct),0,3⟩:Eff)]⟩:Opr)]) fun u105=>some (⟨([4]:List Int),([0]:List Int),[(⟨0,3⟩:Fct)],u105⟩:Tsk)
theorem DT {w:World} {A:Nat→Prop} (hA:∀ k,A k→k < w.heap.size)  {r:Tsk} (hm:Cr  = some r) :
    Fn Try.prog 32 [] w fun v w'=>Ext w w'∧Vb w' (upA A w w') v r:=by
 obtain ⟨O,hB,hA0⟩:=enter hA
 refine AL Try.func32 rfl Try.ntmps32 rfl ?_
 unfold Cr at hm
 refine Ah (Ae (BY 2 O rfl fun g1 w2 O3 S4 h5=>?_))
 refine o_z ?_
 refine Ah (Ae (BT 3 (by decide) O3 (xs:=(([4]:List Int):List Int)) rfl rfl rfl rfl ⟨(vInt (show inI64 (4) from by decide)),trivial⟩ (by decide) (by decide) rfl fun g6 w7 O8 S9 h10=>?_))
 refine BT 4 (by decide) O8 (xs:=(([0]:List Int):List Int)) rfl rfl rfl rfl ⟨(vInt (show inI64 (0) from by decide)),trivial⟩ (by decide) (by decide) rfl fun g12 w13 O14 S15 h16=>?_
 refine o_bd rfl rfl rfl ?_
 refine BT 5 (by decide) O14 (xs:=([(⟨0,3⟩:Fct)]:List Fct)) rfl rfl rfl rfl ⟨(Vb.ofAgg (cs:=[(.int .i64 0),(.int .i64 3)]) (x:=(⟨0,3⟩:Fct)) rfl ⟨rfl,(show inI64 (0) from by decide),(show inI64 (3) from by decide)⟩),trivial⟩ (by decide) (by decide) rfl fun g18 w19 O20 S21 h22=>?_
 refine o_bd rfl rfl rfl ?_
 refine BY 6 O20 rfl fun g24 w25 O26 S27 h28=>?_
 refine AV h28 rfl rfl rfl (Nat.le_of_ble_eq_true rfl) (by first|exact allOne rfl|simp [Value.cells,Value.oneCell',AQ]) fun w29 S30 h28=>?_
 replace h28:Lc 6 w29 O26 g24 26 [(.slice (some ⟨g6,0,none⟩) ([4]:List Int).length 1),(.slice (some ⟨g12,0,none⟩) ([0]:List Int).length 1),(.slice (some ⟨g18,0,none⟩) [(⟨0,3⟩:Fct)].length 1),(.slice none 0 0)]:=h28
 refine o_z ?_
 refine Ah (Ah (Ae (o_mv rfl rfl (o_z ?_))))
 obtain ⟨res31,hL32,hm⟩:=bs hm
 refine AM (aft res31 (fun (s33:(List Opr)) (x34:(Option Addr×Nat))=>[(0,(.pointer (some ⟨g1,0,none⟩))),(1,(.pointer (some ⟨g24,0,none⟩)))]) (fun s33 x34 w'=>∃ O':Lab,Bs w A w' O'∧Lc 2 w' O' g1 26 [(.slice none 0 0),(.slice none 0 0),(.slice none 0 0),(.slice none 0 0)]∧Lc 6 w' O' g24 26 [(.slice (some ⟨g6,0,none⟩) ([4]:List Int).length 1),(.slice (some ⟨g12,0,none⟩) ([0]:List Int).length 1),(.slice (some ⟨g18,0,none⟩) [(⟨0,3⟩:Fct)].length 1),(.slice x34.1 s33.length x34.2)]∧Rw 3 w' O' 3 (.slice (some ⟨g6,0,none⟩) ([4]:List Int).length 1) ([4]:List Int)∧Rw 4 w' O' 3 (.slice (some ⟨g12,0,none⟩) ([0]:List Int).length 1) ([0]:List Int)∧Rw 5 w' O' 57 (.slice (some ⟨g18,0,none⟩) [(⟨0,3⟩:Fct)].length 1) [(⟨0,3⟩:Fct)]∧Rw 9 w' O' 55 (.slice x34.1 s33.length x34.2) s33)) ?_ ?_
 ·
  refine Al ?_
  replace hB:=(((((hB.st S4).st S9).st S15).st S21).st S27).st S30
  replace h5:=((((h5.st S9).st S15).st S21).st S27).st S30
  replace h10:=(((h10.st S15).st S21).st S27).st S30
  replace h16:=((h16.st S21).st S27).st S30
  replace h22:=(h22.st S27).st S30
  refine LF (σ:=(List Opr)) (X:=(Option Addr×Nat)) (N:=3) rfl hL32 (by decide) (fun (s33:(List Opr)) (x34:(Option Addr×Nat))=>[(0,(.pointer (some ⟨g1,0,none⟩))),(1,(.pointer (some ⟨g24,0,none⟩)))]) _ (fun s33 x34 w'=>∃ O':Lab,Bs w A w' O'∧Lc 2 w' O' g1 26 [(.slice none 0 0),(.slice none 0 0),(.slice none 0 0),(.slice none 0 0)]∧Lc 6 w' O' g24 26 [(.slice (some ⟨g6,0,none⟩) ([4]:List Int).length 1),(.slice (some ⟨g12,0,none⟩) ([0]:List Int).length 1),(.slice (some ⟨g18,0,none⟩) [(⟨0,3⟩:Fct)].length 1),(.slice x34.1 s33.length x34.2)]∧Rw 3 w' O' 3 (.slice (some ⟨g6,0,none⟩) ([4]:List Int).length 1) ([4]:List Int)∧Rw 4 w' O' 3 (.slice (some ⟨g12,0,none⟩) ([0]:List Int).length 1) ([0]:List Int)∧Rw 5 w' O' 57 (.slice (some ⟨g18,0,none⟩) [(⟨0,3⟩:Fct)].length 1) [(⟨0,3⟩:Fct)]∧Rw 9 w' O' 55 (.slice x34.1 s33.length x34.2) s33) _ (none,0) ⟨O26,hB,h5,h28,h10,h16,h22,(Rw.nil 9 (by decide))⟩ ⟨rfl,rfl,rfl,trivial⟩ (fun _ _=>⟨rfl,rfl⟩) (fun _ _=>⟨rfl,rfl,trivial⟩) (fun _ _ _ ⟨O',hB,h5,h28,h10,h16,h22,h48⟩=>⟨O',hB,h5,h28,h10,h16,h22,h48⟩) ⟨rfl,rfl,rfl⟩ ?_
  rintro k35 s33 x34 w37 cc39 hx40 ⟨O38,hB,h5,h28,h10,h16,h22,h48⟩ hf41 hret42 hbrk43
  have rk35:inI64 (k35:Int):=rngKN hx40 (by decide)
  refine Ah (Ae (o_mv rfl rfl (o_as rfl rfl (o_z ?_))))
  refine Ae (o_fa rfl rfl (o_ld (hc:=Blk.cell (i:=3) (h28.1) rfl) rfl rfl ?_))
  refine o_mv rfl rfl (o_bd rfl rfl rfl ?_)
  refine BT 7 (by decide) O38 (xs:=([(⟨0,(k35:Int)⟩:Fct)]:List Fct)) rfl rfl rfl rfl ⟨(Vb.ofAgg (cs:=[(.int .i64 0),(.int .i64 (k35:Int))]) (x:=(⟨0,(k35:Int)⟩:Fct)) rfl ⟨rfl,(show inI64 (0) from by decide),rk35⟩),trivial⟩ (by decide) (by decide) rfl fun g50 w51 O52 S53 h54=>?_
  refine o_mv rfl rfl ?_
  obtain ⟨n56,e57,hf41⟩:=bs hf41
  have r58:=(Ba e57)
  refine o_adE (he:=e57) rfl rfl rfl ?_
  refine o_bd rfl rfl rfl ?_
  refine BT 8 (by decide) O52 (xs:=([(⟨([]:List Fct),0,n56⟩:Eff)]:List Eff)) rfl rfl rfl rfl ⟨(Vb.ofAgg (cs:=[(.slice none 0 0),(.int .i64 0),(.int .i64 n56)]) (x:=(⟨([]:List Fct),0,n56⟩:Eff)) rfl ⟨_,rfl,(Vb.nil _ _),(show inI64 (0) from by decide),r58⟩),trivial⟩ (by decide) (by decide) rfl fun g59 w60 O61 S62 h63=>?_
  refine o_bd rfl rfl rfl ?_
  replace h54:=h54.st S62
  obtain ⟨O65,S66,h54⟩:=h54.freeze
  replace h63:=h63.st S66
  obtain ⟨O67,S68,h63⟩:=h63.freeze
  obtain ⟨u69,e70,hf41⟩:=bs hf41
  obtain ⟨e70,e71,e72⟩:=Cj e70
  replace h48:=(((h48.st S53).st S62).st S66).st S68
  replace h54:=h54.st S68
  refine CW rfl (a:=(⟨(⟨#[]⟩:ByteArray),1,[(⟨0,(k35:Int)⟩:Fct)],[(⟨([]:List Fct),0,n56⟩:Eff)]⟩:Opr)) h48 (Vb.ofAgg (cs:=[(.string (⟨#[]⟩:ByteArray)),(.int .i64 1),(.slice (some ⟨g50,0,none⟩) [(⟨0,(k35:Int)⟩:Fct)].length 1),(.slice (some ⟨g59,0,none⟩) [(⟨([]:List Fct),0,n56⟩:Eff)].length 1)]) (x:=(⟨(⟨#[]⟩:ByteArray),1,[(⟨0,(k35:Int)⟩:Fct)],[(⟨([]:List Fct),0,n56⟩:Eff)]⟩:Opr)) rfl ⟨_,_,rfl,h54,h63,(show inI64 (1) from by decide),(show (⟨#[]⟩:ByteArray).size≤9223372036854775807 from by decide)⟩) (fun _=>rfl) rfl (by decide) (by decide) e71 e72 ⟨rfl,rfl⟩ fun g73 A74 c75 w76 O77 S78 h79=>?_
  rw [← e70] at h79 ⊢
  refine o_fa rfl rfl ?_
  replace h28:=((((h28.st S53).st S62).st S66).st S68).st S78
  refine AV h28 rfl rfl rfl (Nat.le_of_ble_eq_true rfl) (by first|exact allOne rfl|simp [Value.cells,Value.oneCell',AQ]) fun w81 S82 h28=>?_
  replace h28:Lc 6 w81 O77 g24 26 [(.slice (some ⟨g6,0,none⟩) ([4]:List Int).length 1),(.slice (some ⟨g12,0,none⟩) ([0]:List Int).length 1),(.slice (some ⟨g18,0,none⟩) [(⟨0,3⟩:Fct)].length 1),(.slice A74 u69.length c75)]:=h28
  refine o_z ?_
  obtain rfl:=sm hf41
  refine (?_:Exists _)
  replace hB:=(((((hB.st S53).st S62).st S66).st S68).st S78).st S82
  replace h5:=(((((h5.st S53).st S62).st S66).st S68).st S78).st S82
  replace h10:=(((((h10.st S53).st S62).st S66).st S68).st S78).st S82
  replace h16:=(((((h16.st S53).st S62).st S66).st S68).st S78).st S82
  replace h22:=(((((h22.st S53).st S62).st S66).st S68).st S78).st S82
  replace h79:=h79.st S82
  exact ⟨_,(A74,c75),rfl,⟨rfl,rfl,rfl,trivial⟩,_,hB,h5,h28,h10,h16,h22,h79⟩
 replace hB:=(((((hB.st S4).st S9).st S15).st S21).st S27).st S30
 replace h5:=((((h5.st S9).st S15).st S21).st S27).st S30
 replace h10:=(((h10.st S15).st S21).st S27).st S30
 replace h16:=((h16.st S21).st S27).st S30
 replace h22:=(h22.st S27).st S30
 rintro l83 w84 ⟨s87,x88,rfl,hs86,O85,hB,h5,h28,h10,h16,h22,h48⟩
 replace hm:=AW hm
 refine AO _ hs86 ?_
 refine Ah (Ae (o_fa rfl rfl (o_ld (hc:=Blk.cell (i:=3) (h28.1) rfl) rfl rfl ?_)))
 refine o_bd rfl rfl rfl ?_
 refine BT 10 (by decide) O85 (xs:=([(⟨0,0⟩:Fct)]:List Fct)) rfl rfl rfl rfl ⟨(Vb.ofAgg (cs:=[(.int .i64 0),(.int .i64 0)]) (x:=(⟨0,0⟩:Fct)) rfl ⟨rfl,(show inI64 (0) from by decide),(show inI64 (0) from by decide)⟩),trivial⟩ (by decide) (by decide) rfl fun g89 w90 O91 S92 h93=>?_
 refine o_bd rfl rfl rfl ?_
 refine BT 11 (by decide) O91 (xs:=([(⟨([]:List Fct),0,3⟩:Eff)]:List Eff)) rfl rfl rfl rfl ⟨(Vb.ofAgg (cs:=[(.slice none 0 0),(.int .i64 0),(.int .i64 3)]) (x:=(⟨([]:List Fct),0,3⟩:Eff)) rfl ⟨_,rfl,(Vb.nil _ _),(show inI64 (0) from by decide),(show inI64 (3) from by decide)⟩),trivial⟩ (by decide) (by decide) rfl fun g95 w96 O97 S98 h99=>?_
 refine o_bd rfl rfl rfl ?_
 replace h93:=h93.st S98
 obtain ⟨O101,S102,h93⟩:=h93.freeze
 replace h99:=h99.st S102
 obtain ⟨O103,S104,h99⟩:=h99.freeze
 obtain ⟨u105,e106,hm⟩:=bs hm
 obtain ⟨e106,e107,e108⟩:=Cj e106
 replace h48:=(((h48.st S92).st S98).st S102).st S104
 replace h93:=h93.st S104
 refine CW rfl (a:=(⟨(⟨#[]⟩:ByteArray),5,[(⟨0,0⟩:Fct)],[(⟨([]:List Fct),0,3⟩:Eff)]⟩:Opr)) h48 (Vb.ofAgg (cs:=[(.string (⟨#[]⟩:ByteArray)),(.int .i64 5),(.slice (some ⟨g89,0,none⟩) [(⟨0,0⟩:Fct)].length 1),(.slice (some ⟨g95,0,none⟩) [(⟨([]:List Fct),0,3⟩:Eff)].length 1)]) (x:=(⟨(⟨#[]⟩:ByteArray),5,[(⟨0,0⟩:Fct)],[(⟨([]:List Fct),0,3⟩:Eff)]⟩:Opr)) rfl ⟨_,_,rfl,h93,h99,(show inI64 (5) from by decide),(show (⟨#[]⟩:ByteArray).size≤9223372036854775807 from by decide)⟩) (fun _=>rfl) rfl (by decide) (by decide) e107 e108 ⟨rfl,rfl⟩ fun g109 A110 c111 w112 O113 S114 h115=>?_
 rw [← e106] at h115 ⊢
 refine o_fa rfl rfl ?_
 replace h28:=((((h28.st S92).st S98).st S102).st S104).st S114
 refine AV h28 rfl rfl rfl (Nat.le_of_ble_eq_true rfl) (by first|exact allOne rfl|simp [Value.cells,Value.oneCell',AQ]) fun w117 S118 h28=>?_
 replace h28:Lc 6 w117 O113 g24 26 [(.slice (some ⟨g6,0,none⟩) ([4]:List Int).length 1),(.slice (some ⟨g12,0,none⟩) ([0]:List Int).length 1),(.slice (some ⟨g18,0,none⟩) [(⟨0,3⟩:Fct)].length 1),(.slice A110 u105.length c111)]:=h28
 refine o_z ?_
 refine Ah (Ae (o_la (hl:=rfl) (hc:=(h28.1).cellsAt) rfl rfl ?_))
 replace h5:=(((((h5.st S92).st S98).st S102).st S104).st S114).st S118
 refine AV h5 rfl rfl rfl (Nat.le_of_ble_eq_true rfl) (by first|exact allOne rfl|simp [Value.cells,Value.oneCell',AQ]) fun w119 S120 h5=>?_
 replace h5:Lc 2 w119 O113 g1 26 [(.slice (some ⟨g6,0,none⟩) ([4]:List Int).length 1),(.slice (some ⟨g12,0,none⟩) ([0]:List Int).length 1),(.slice (some ⟨g18,0,none⟩) [(⟨0,3⟩:Fct)].length 1),(.slice A110 u105.length c111)]:=h5
 refine o_z ?_
 refine Au ?_
 replace h10:=((((((h10.st S92).st S98).st S102).st S104).st S114).st S118).st S120
 obtain ⟨O121,S122,h10⟩:=h10.freeze
 replace h16:=(((((((h16.st S92).st S98).st S102).st S104).st S114).st S118).st S120).st S122
 obtain ⟨O123,S124,h16⟩:=h16.freeze
 replace h22:=((((((((h22.st S92).st S98).st S102).st S104).st S114).st S118).st S120).st S122).st S124
 obtain ⟨O125,S126,h22⟩:=h22.freeze
 replace h115:=((((h115.st S118).st S120).st S122).st S124).st S126
 obtain ⟨O127,S128,h115⟩:=h115.freeze
 obtain rfl:=sm hm
 replace hB:=((((((((((hB.st S92).st S98).st S102).st S104).st S114).st S118).st S120).st S122).st S124).st S126).st S128
 replace h5:=(((h5.st S122).st S124).st S126).st S128
 replace h10:=((h10.st S124).st S126).st S128
 replace h16:=(h16.st S126).st S128
 replace h22:=h22.st S128
 exact ret1v rfl (BR (cs:=[(.slice (some ⟨g6,0,none⟩) ([4]:List Int).length 1),(.slice (some ⟨g12,0,none⟩) ([0]:List Int).length 1),(.slice (some ⟨g18,0,none⟩) [(⟨0,3⟩:Fct)].length 1),(.slice A110 u105.length c111)]) rfl rfl h5.1.cellsAt) ⟨hB.ext,(Vb.mono (F:=Fr 0 w119 O127) (Vb.ofAgg (cs:=[(.slice (some ⟨g6,0,none⟩) ([4]:List Int).length 1),(.slice (some ⟨g12,0,none⟩) ([0]:List Int).length 1),(.slice (some ⟨g18,0,none⟩) [(⟨0,3⟩:Fct)].length 1),(.slice A110 u105.length c111)]) (x:=(⟨([4]:List Int),([0]:List Int),[(⟨0,3⟩:Fct)],u105⟩:Tsk)) rfl ⟨_,_,_,_,rfl,h10,h16,h22,h115⟩) hB.out)⟩
noncomputable def CR  : Option Bool :=
  bnd (Cr) fun q1=>bnd (De q1 100) fun q25=>bnd (Cr) fun q52=>bnd (BI q52 100) fun q76=>bnd (Cr) fun q103=>bnd (CH q103 100) fun q127=>bnd (if q25.2.n=0 then (if q76.2.n=0 then (if q127.2.n=0 then (bnd (EX q25.1.plan ([3]:List Int)) fun q153=>if q153=true then if q25.1.cost=5 then (if q25.1.expanded=2 then (bnd (Cr) fun q162=>bnd (Cn q162 q76.1 3) fun q186=>if q186=true then if q127.1=4 then (some true) else (some false) else some false) else (some false)) else (some false) else some false) else (some false)) else (some false)) else (some false):Option Bool) fun y140=>some y140
theorem GX {w:World} {A:Nat→Prop} (hA:∀ k,A k→k < w.heap.size)  {r:Bool} (hm:CR  = some r) :
    Fn Try.prog 12 [] w fun v w'=>Ext w w'∧Vb w' (upA A w w') v r:=by
 obtain ⟨O,hB,hA0⟩:=enter hA
 refine AL Try.func12 rfl Try.ntmps12 rfl ?_
 unfold CR at hm
 refine Ah (Ae (o_as rfl rfl (o_z ?_)))
 refine Ah (Ae ?_)
 obtain ⟨q1,e2,hm⟩:=bs hm
 refine Cf (O:=O) (R:=fun w' F v=>Vb w' F v q1) (DT Fr.lt  e2) rfl rfl fun v7 w3 O4 S5 h6=>?_
 obtain ⟨cs8,rfl,v9,v10,v11,v12,rfl,h13,h16,h19,h22⟩:=h6
 obtain ⟨A14,c15,rfl⟩:=h13.form
 obtain ⟨A17,c18,rfl⟩:=h16.form
 obtain ⟨A20,c21,rfl⟩:=h19.form
 obtain ⟨A23,c24,rfl⟩:=h22.form
 obtain ⟨q25,e26,hm⟩:=bs hm
 refine Cf (O:=O4) (R:=fun w' F v=>T2 w' F v q25) (Ig Fr.lt (Vb.ofAgg (cs:=[(.slice A14 q1.vars.length c15),(.slice A17 q1.init.length c18),(.slice A20 q1.goal.length c21),(.slice A23 q1.ops.length c24)]) (x:=q1) rfl ⟨_,_,_,_,rfl,h13,h16,h19,h22⟩) (show inI64 (100) from by decide) e26) rfl rfl fun v31 w27 O28 S29 h30=>?_
 obtain ⟨v32,v33,rfl,h34,h35⟩:=h30
 obtain ⟨cs36,rfl,v37,rfl,h38,r41,r42,r43⟩:=h34
 obtain ⟨A39,c40,rfl⟩:=h38.form
 obtain ⟨rfl,r44⟩:=h35.err
 refine o_mv rfl rfl (o_ex rfl rfl rfl (o_ex rfl rfl rfl (BY 2 O28 rfl fun g45 w46 O47 S48 h49=>?_)))
 refine AV h49 rfl rfl rfl (Nat.le_of_ble_eq_true rfl) (by first|exact allOne rfl|simp [Value.cells,Value.oneCell',AQ]) fun w50 S51 h49=>?_
 replace h49:Lc 2 w50 O47 g45 30 [(.int .i64 q25.1.verdict),(.slice A39 q25.1.plan.length c40),(.int .i64 q25.1.cost),(.int .i64 q25.1.expanded)]:=h49
 refine o_as rfl rfl (o_z ?_)
 refine Ah (Ae ?_)
 obtain ⟨q52,e53,hm⟩:=bs hm
 refine Cf (O:=O47) (R:=fun w' F v=>Vb w' F v q52) (DT Fr.lt  e53) rfl rfl fun v58 w54 O55 S56 h57=>?_
 obtain ⟨cs59,rfl,v60,v61,v62,v63,rfl,h64,h67,h70,h73⟩:=h57
 obtain ⟨A65,c66,rfl⟩:=h64.form
 obtain ⟨A68,c69,rfl⟩:=h67.form
 obtain ⟨A71,c72,rfl⟩:=h70.form
 obtain ⟨A74,c75,rfl⟩:=h73.form
 obtain ⟨q76,e77,hm⟩:=bs hm
 refine Cf (O:=O55) (R:=fun w' F v=>T2 w' F v q76) (Fm Fr.lt (Vb.ofAgg (cs:=[(.slice A65 q52.vars.length c66),(.slice A68 q52.init.length c69),(.slice A71 q52.goal.length c72),(.slice A74 q52.ops.length c75)]) (x:=q52) rfl ⟨_,_,_,_,rfl,h64,h67,h70,h73⟩) (show inI64 (100) from by decide) e77) rfl rfl fun v82 w78 O79 S80 h81=>?_
 obtain ⟨v83,v84,rfl,h85,h86⟩:=h81
 obtain ⟨cs87,rfl,v88,rfl,h89,r92,r93,r94⟩:=h85
 obtain ⟨A90,c91,rfl⟩:=h89.form
 obtain ⟨rfl,r95⟩:=h86.err
 refine o_mv rfl rfl (o_ex rfl rfl rfl (o_ex rfl rfl rfl (BY 3 O79 rfl fun g96 w97 O98 S99 h100=>?_)))
 refine AV h100 rfl rfl rfl (Nat.le_of_ble_eq_true rfl) (by first|exact allOne rfl|simp [Value.cells,Value.oneCell',AQ]) fun w101 S102 h100=>?_
 replace h100:Lc 3 w101 O98 g96 30 [(.int .i64 q76.1.verdict),(.slice A90 q76.1.plan.length c91),(.int .i64 q76.1.cost),(.int .i64 q76.1.expanded)]:=h100
 refine o_as rfl rfl (o_z ?_)
 refine Ah (Ae ?_)
 obtain ⟨q103,e104,hm⟩:=bs hm
 refine Cf (O:=O98) (R:=fun w' F v=>Vb w' F v q103) (DT Fr.lt  e104) rfl rfl fun v109 w105 O106 S107 h108=>?_
 obtain ⟨cs110,rfl,v111,v112,v113,v114,rfl,h115,h118,h121,h124⟩:=h108
 obtain ⟨A116,c117,rfl⟩:=h115.form
 obtain ⟨A119,c120,rfl⟩:=h118.form
 obtain ⟨A122,c123,rfl⟩:=h121.form
 obtain ⟨A125,c126,rfl⟩:=h124.form
 obtain ⟨q127,e128,hm⟩:=bs hm
 refine BK (O:=O106) (A:=All w105) (R:=fun w' F v=>T2 w' F v q127) (He (fun _ h=>h) (Vb.mono (F:=Fr 0 w105 O106) (Vb.ofAgg (cs:=[(.slice A116 q103.vars.length c117),(.slice A119 q103.init.length c120),(.slice A122 q103.goal.length c123),(.slice A125 q103.ops.length c126)]) (x:=q103) rfl ⟨_,_,_,_,rfl,h115,h118,h121,h124⟩) Fr.lt) (show inI64 (100) from by decide) e128) rfl rfl fun v133 w129 O130 S131 h132=>?_
 obtain ⟨v134,v135,rfl,h136,h137⟩:=h132
 obtain ⟨rfl,r138⟩:=h136.int
 obtain ⟨rfl,r139⟩:=h137.err
 refine o_mv rfl rfl (o_ex rfl rfl rfl (o_ex rfl rfl rfl (o_as rfl rfl (o_as rfl rfl (o_z ?_)))))
 refine Ah ?_
 obtain ⟨y140,hy141,hm⟩:=bs hm
 refine AM (fun l' w'=>∃ (x143:Unit) (O':Lab),subs l' [(0,(.bool y140))]∧Bs w A w' O') ?_ ?_
 ·
  refine BG [(13,[]),(14,[]),(27,[]),(29,[])] O130 ?_
  refine x_pre (fuel:=23) [] [(0,true),(1,true),(2,true),(3,true),(4,true),(5,true),(6,true),(7,true),(8,true),(9,true),(10,true),(11,true),(12,true)] (by kernel_rfl) rfl ?_
  refine h_mv rfl rfl rfl (hwp_o rfl (AP (fun _ _=>IK rfl) rfl (fun c144=>?_) (fun c144=>?_)))
  ·
   replace hy141:=ip hy141 c144
   refine h_mv rfl rfl rfl (hwp_o rfl (AC rfl rfl (g_mv rfl rfl (hwp_o rfl (AC rfl rfl (AP (fun _ _=>IK rfl) rfl (fun c145=>?_) (fun c145=>?_)))))))
   ·
    replace hy141:=ip hy141 c145
    refine h_pt rfl rfl rfl rfl (h_mv rfl rfl rfl (hwp_o rfl (AC rfl rfl (g_mv rfl rfl (hwp_o rfl (AC rfl rfl (AP (fun _ _=>IK rfl) rfl (fun c146=>?_) (fun c146=>?_))))))))
    ·
     replace hy141:=ip hy141 c146
     refine h_pt rfl rfl rfl rfl (h_mv rfl rfl rfl (hwp_o rfl (AC rfl rfl (g_fa rfl rfl (hwp_o rfl (AC rfl rfl ?_))))))
     replace h49:=(((((h49.st S56).st S80).st S99).st S102).st S107).st S131
     refine g_ldC (hc:=fun w' ⟨O',hq⟩=>Blk.cell (i:=1) ((h49.st hq (by decide)).1) rfl) rfl rfl ?_
     refine AK ?_
     refine x_one (i:=13) (by kernel_rfl) rfl ?_
     refine AE rfl rfl (BT 4 (by decide) O130 (xs:=(([3]:List Int):List Int)) rfl rfl rfl rfl ⟨(vInt (show inI64 (3) from by decide)),trivial⟩ (by decide) (by decide) rfl fun g147 w148 O149 S150 h151=>?_)
     have hZ:=S150.lst [] (fun _ h=>h.elim)
     refine x_go [(14,[]),(27,[]),(29,[])] hZ (by kernel_rfl) ?_
     refine x_one (i:=14) (by kernel_rfl) rfl ?_
     refine AE rfl rfl ?_
     obtain ⟨q153,e154,hy141⟩:=bs hy141
     replace h38:=((((((((h38.st S48).st S51).st S56).st S80).st S99).st S102).st S107).st S131).st S150
     refine BK (O:=O149) (A:=All w148) (R:=fun w' F v=>Vb w' F v q153) (JV (fun _ h=>h) (Vb.mono (F:=Fr 0 w148 O149) h38 Fr.lt) (h151).all e154) rfl rfl fun v159 w155 O156 S157 h158=>?_
     obtain rfl:=h158.bool
     have hZ:=S157.lst [] (fun _ h=>h.elim)
     cases q153
     case false =>
      replace hy141:=iF hy141
      refine x_go [(27,[]),(29,[])] hZ (by kernel_rfl) ?_
      refine x_pre (fuel:=8) [] [(15,true),(16,true),(17,true),(18,true),(19,true),(20,true),(21,true),(22,true),(23,true),(24,true),(25,true),(26,true),(28,true)] (by kernel_rfl) rfl ?_
      refine h_pt rfl rfl rfl rfl (h_mv rfl rfl rfl (h_no rfl rfl rfl rfl rfl (h_no rfl rfl rfl rfl rfl (h_no rfl rfl rfl rfl rfl (h_pf rfl rfl rfl rfl (h_mv rfl rfl rfl (h_no rfl rfl rfl rfl rfl (h_no rfl rfl rfl rfl rfl (h_no rfl rfl rfl rfl rfl (h_pf rfl rfl rfl rfl (h_mv rfl rfl rfl (h_no rfl rfl rfl rfl rfl (AK ?_)))))))))))))
      refine x_one (i:=27) (by kernel_rfl) rfl ?_
      refine AD rfl rfl rfl rfl (x_go [(29,[])] ((St.refl nT _ _).lst [] (fun _ h=>h.elim)) (by kernel_rfl) ?_)
      refine x_one (i:=29) (by kernel_rfl) rfl ?_
      refine AD rfl rfl rfl rfl (x_go [] ((St.refl nT _ _).lst [] (fun _ h=>h.elim)) (by kernel_rfl) ?_)
      refine x_pre (fuel:=0) [] [(30,true),(31,true),(32,true),(33,true),(34,true),(35,true)] (by kernel_rfl) rfl ?_
      refine h_pf rfl rfl rfl rfl (h_mv rfl rfl rfl (h_no rfl rfl rfl rfl rfl (h_no rfl rfl rfl rfl rfl (h_pf rfl rfl rfl rfl (h_as rfl rfl rfl (AK ?_))))))
      refine x_nil (by kernel_rfl) ?_
      obtain rfl:=sm hy141
      replace hB:=(((((((((((hB.st S5).st S29).st S48).st S51).st S56).st S80).st S99).st S102).st S107).st S131).st S150).st S157
      exact ⟨(),_,⟨rfl,trivial⟩,hB⟩
     replace hy141:=iT hy141
     refine x_go [(27,[]),(29,[])] hZ (by kernel_rfl) ?_
     refine x_pre (fuel:=8) [] [(15,true),(16,true),(17,true),(18,true),(19,true),(20,true),(21,true),(22,true),(23,true),(24,true),(25,true),(26,true),(28,true)] (by kernel_rfl) rfl ?_
     refine h_pt rfl rfl rfl rfl (h_mv rfl rfl rfl (hwp_o rfl (AC rfl rfl (g_fa rfl rfl (hwp_o rfl (AC rfl rfl ?_))))))
     replace h49:=(h49.st S150).st S157
     refine g_ldC (hc:=fun w' ⟨O',hq⟩=>Blk.cell (i:=2) ((h49.st hq (by decide)).1) rfl) rfl rfl ?_
     refine hwp_o rfl (AC rfl rfl (AP (fun _ _=>Ei rfl rfl) rfl (fun c160=>?_) (fun c160=>?_)))
     ·
      replace hy141:=ip hy141 c160
      refine h_pt rfl rfl rfl rfl (h_mv rfl rfl rfl (hwp_o rfl (AC rfl rfl (g_fa rfl rfl (hwp_o rfl (AC rfl rfl (g_ldC (hc:=fun w' ⟨O',hq⟩=>Blk.cell (i:=3) ((h49.st hq (by decide)).1) rfl) rfl rfl ?_)))))))
      refine hwp_o rfl (AC rfl rfl (AP (fun _ _=>Ei rfl rfl) rfl (fun c161=>?_) (fun c161=>?_)))
      ·
       replace hy141:=ip hy141 c161
       refine h_pt rfl rfl rfl rfl (h_mv rfl rfl rfl (hwp_o rfl (AC rfl rfl ?_)))
       replace h100:=(((h100.st S107).st S131).st S150).st S157
       refine g_laB (hl:=rfl) (hb:=fun w' ⟨O',hq⟩=>((h100.st hq (by decide)).1).cellsAt) rfl rfl ?_
       refine AK ?_
       refine x_one (i:=27) (by kernel_rfl) rfl ?_
       refine AE rfl rfl ?_
       obtain ⟨q162,e163,hy141⟩:=bs hy141
       refine Cf (O:=O156) (R:=fun w' F v=>Vb w' F v q162) (DT Fr.lt  e163) rfl rfl fun v168 w164 O165 S166 h167=>?_
       obtain ⟨cs169,rfl,v170,v171,v172,v173,rfl,h174,h177,h180,h183⟩:=h167
       obtain ⟨A175,c176,rfl⟩:=h174.form
       obtain ⟨A178,c179,rfl⟩:=h177.form
       obtain ⟨A181,c182,rfl⟩:=h180.form
       obtain ⟨A184,c185,rfl⟩:=h183.form
       have hZ:=S166.lst [] (fun _ h=>h.elim)
       refine x_go [(29,[])] hZ (by kernel_rfl) ?_
       refine x_one (i:=29) (by kernel_rfl) rfl ?_
       refine AE rfl rfl ?_
       obtain ⟨q186,e187,hy141⟩:=bs hy141
       replace h89:=((((((h89.st S99).st S102).st S107).st S131).st S150).st S157).st S166
       refine BK (O:=O165) (A:=All w164) (R:=fun w' F v=>Vb w' F v q186) (GU (fun _ h=>h) (Vb.mono (F:=Fr 0 w164 O165) (Vb.ofAgg (cs:=[(.slice A175 q162.vars.length c176),(.slice A178 q162.init.length c179),(.slice A181 q162.goal.length c182),(.slice A184 q162.ops.length c185)]) (x:=q162) rfl ⟨_,_,_,_,rfl,h174,h177,h180,h183⟩) Fr.lt) (Vb.mono (F:=Fr 0 w164 O165) (Vb.ofAgg (cs:=[(.int .i64 q76.1.verdict),(.slice A90 q76.1.plan.length c91),(.int .i64 q76.1.cost),(.int .i64 q76.1.expanded)]) (x:=q76.1) rfl ⟨_,rfl,h89,r92,r93,r94⟩) Fr.lt) (show inI64 (3) from by decide) e187) rfl rfl fun v192 w188 O189 S190 h191=>?_
       obtain rfl:=h191.bool
       have hZ:=S190.lst [] (fun _ h=>h.elim)
       cases q186
       case false =>
        replace hy141:=iF hy141
        refine x_go [] hZ (by kernel_rfl) ?_
        refine x_pre (fuel:=0) [] [(30,true),(31,true),(32,true),(33,true),(34,true),(35,true)] (by kernel_rfl) rfl ?_
        refine h_pt rfl rfl rfl rfl (h_mv rfl rfl rfl (h_no rfl rfl rfl rfl rfl (h_no rfl rfl rfl rfl rfl (h_pf rfl rfl rfl rfl (h_as rfl rfl rfl (AK ?_))))))
        refine x_nil (by kernel_rfl) ?_
        obtain rfl:=sm hy141
        replace hB:=(((((((((((((hB.st S5).st S29).st S48).st S51).st S56).st S80).st S99).st S102).st S107).st S131).st S150).st S157).st S166).st S190
        exact ⟨(),_,⟨rfl,trivial⟩,hB⟩
       replace hy141:=iT hy141
       refine x_go [] hZ (by kernel_rfl) ?_
       refine x_pre (fuel:=0) [] [(30,true),(31,true),(32,true),(33,true),(34,true),(35,true)] (by kernel_rfl) rfl ?_
       refine h_pt rfl rfl rfl rfl (h_mv rfl rfl rfl (hwp_o rfl (AC rfl rfl (g_mv rfl rfl (hwp_o rfl (AC rfl rfl (AP (fun _ _=>Ei rfl rfl) rfl (fun c193=>?_) (fun c193=>?_))))))))
       ·
        replace hy141:=ip hy141 c193
        refine h_pt rfl rfl rfl rfl (h_as rfl rfl rfl (AK ?_))
        refine x_nil (by kernel_rfl) ?_
        obtain rfl:=sm hy141
        replace hB:=(((((((((((((hB.st S5).st S29).st S48).st S51).st S56).st S80).st S99).st S102).st S107).st S131).st S150).st S157).st S166).st S190
        exact ⟨(),_,⟨rfl,trivial⟩,hB⟩
       ·
        replace hy141:=im hy141 c193
        refine h_pt rfl rfl rfl rfl (h_as rfl rfl rfl (AK ?_))
        refine x_nil (by kernel_rfl) ?_
        obtain rfl:=sm hy141
        replace hB:=(((((((((((((hB.st S5).st S29).st S48).st S51).st S56).st S80).st S99).st S102).st S107).st S131).st S150).st S157).st S166).st S190
        exact ⟨(),_,⟨rfl,trivial⟩,hB⟩
      ·
       replace hy141:=im hy141 c161
       refine h_pt rfl rfl rfl rfl (h_mv rfl rfl rfl (h_no rfl rfl rfl rfl rfl (AK ?_)))
       refine x_one (i:=27) (by kernel_rfl) rfl ?_
       refine AD rfl rfl rfl rfl (x_go [(29,[])] ((St.refl nT _ _).lst [] (fun _ h=>h.elim)) (by kernel_rfl) ?_)
       refine x_one (i:=29) (by kernel_rfl) rfl ?_
       refine AD rfl rfl rfl rfl (x_go [] ((St.refl nT _ _).lst [] (fun _ h=>h.elim)) (by kernel_rfl) ?_)
       refine x_pre (fuel:=0) [] [(30,true),(31,true),(32,true),(33,true),(34,true),(35,true)] (by kernel_rfl) rfl ?_
       refine h_pf rfl rfl rfl rfl (h_mv rfl rfl rfl (h_no rfl rfl rfl rfl rfl (h_no rfl rfl rfl rfl rfl (h_pf rfl rfl rfl rfl (h_as rfl rfl rfl (AK ?_))))))
       refine x_nil (by kernel_rfl) ?_
       obtain rfl:=sm hy141
       replace hB:=(((((((((((hB.st S5).st S29).st S48).st S51).st S56).st S80).st S99).st S102).st S107).st S131).st S150).st S157
       exact ⟨(),_,⟨rfl,trivial⟩,hB⟩
     ·
      replace hy141:=im hy141 c160
      refine h_pt rfl rfl rfl rfl (h_mv rfl rfl rfl (h_no rfl rfl rfl rfl rfl (h_no rfl rfl rfl rfl rfl (h_no rfl rfl rfl rfl rfl (h_pf rfl rfl rfl rfl (h_mv rfl rfl rfl (h_no rfl rfl rfl rfl rfl (AK ?_))))))))
      refine x_one (i:=27) (by kernel_rfl) rfl ?_
      refine AD rfl rfl rfl rfl (x_go [(29,[])] ((St.refl nT _ _).lst [] (fun _ h=>h.elim)) (by kernel_rfl) ?_)
      refine x_one (i:=29) (by kernel_rfl) rfl ?_
      refine AD rfl rfl rfl rfl (x_go [] ((St.refl nT _ _).lst [] (fun _ h=>h.elim)) (by kernel_rfl) ?_)
      refine x_pre (fuel:=0) [] [(30,true),(31,true),(32,true),(33,true),(34,true),(35,true)] (by kernel_rfl) rfl ?_
      refine h_pf rfl rfl rfl rfl (h_mv rfl rfl rfl (h_no rfl rfl rfl rfl rfl (h_no rfl rfl rfl rfl rfl (h_pf rfl rfl rfl rfl (h_as rfl rfl rfl (AK ?_))))))
      refine x_nil (by kernel_rfl) ?_
      obtain rfl:=sm hy141
      replace hB:=(((((((((((hB.st S5).st S29).st S48).st S51).st S56).st S80).st S99).st S102).st S107).st S131).st S150).st S157
      exact ⟨(),_,⟨rfl,trivial⟩,hB⟩
    ·
     replace hy141:=im hy141 c146
     refine h_pt rfl rfl rfl rfl (h_mv rfl rfl rfl (h_no rfl rfl rfl rfl rfl (h_no rfl rfl rfl rfl rfl (AK ?_))))
     refine x_one (i:=13) (by kernel_rfl) rfl ?_
     refine AD rfl rfl rfl rfl (x_go [(14,[]),(27,[]),(29,[])] ((St.refl nT _ _).lst [] (fun _ h=>h.elim)) (by kernel_rfl) ?_)
     refine x_one (i:=14) (by kernel_rfl) rfl ?_
     refine AD rfl rfl rfl rfl (x_go [(27,[]),(29,[])] ((St.refl nT _ _).lst [] (fun _ h=>h.elim)) (by kernel_rfl) ?_)
     refine x_pre (fuel:=8) [] [(15,true),(16,true),(17,true),(18,true),(19,true),(20,true),(21,true),(22,true),(23,true),(24,true),(25,true),(26,true),(28,true)] (by kernel_rfl) rfl ?_
     refine h_pf rfl rfl rfl rfl (h_mv rfl rfl rfl (h_no rfl rfl rfl rfl rfl (h_no rfl rfl rfl rfl rfl (h_no rfl rfl rfl rfl rfl (h_pf rfl rfl rfl rfl (h_mv rfl rfl rfl (h_no rfl rfl rfl rfl rfl (h_no rfl rfl rfl rfl rfl (h_no rfl rfl rfl rfl rfl (h_pf rfl rfl rfl rfl (h_mv rfl rfl rfl (h_no rfl rfl rfl rfl rfl (AK ?_)))))))))))))
     refine x_one (i:=27) (by kernel_rfl) rfl ?_
     refine AD rfl rfl rfl rfl (x_go [(29,[])] ((St.refl nT _ _).lst [] (fun _ h=>h.elim)) (by kernel_rfl) ?_)
     refine x_one (i:=29) (by kernel_rfl) rfl ?_
     refine AD rfl rfl rfl rfl (x_go [] ((St.refl nT _ _).lst [] (fun _ h=>h.elim)) (by kernel_rfl) ?_)
     refine x_pre (fuel:=0) [] [(30,true),(31,true),(32,true),(33,true),(34,true),(35,true)] (by kernel_rfl) rfl ?_
     refine h_pf rfl rfl rfl rfl (h_mv rfl rfl rfl (h_no rfl rfl rfl rfl rfl (h_no rfl rfl rfl rfl rfl (h_pf rfl rfl rfl rfl (h_as rfl rfl rfl (AK ?_))))))
     refine x_nil (by kernel_rfl) ?_
     obtain rfl:=sm hy141
     replace hB:=(((((((((hB.st S5).st S29).st S48).st S51).st S56).st S80).st S99).st S102).st S107).st S131
     exact ⟨(),_,⟨rfl,trivial⟩,hB⟩
   ·
    replace hy141:=im hy141 c145
    refine h_pt rfl rfl rfl rfl (h_mv rfl rfl rfl (h_no rfl rfl rfl rfl rfl (h_no rfl rfl rfl rfl rfl (h_pf rfl rfl rfl rfl (h_mv rfl rfl rfl (h_no rfl rfl rfl rfl rfl (h_no rfl rfl rfl rfl rfl (AK ?_))))))))
    refine x_one (i:=13) (by kernel_rfl) rfl ?_
    refine AD rfl rfl rfl rfl (x_go [(14,[]),(27,[]),(29,[])] ((St.refl nT _ _).lst [] (fun _ h=>h.elim)) (by kernel_rfl) ?_)
    refine x_one (i:=14) (by kernel_rfl) rfl ?_
    refine AD rfl rfl rfl rfl (x_go [(27,[]),(29,[])] ((St.refl nT _ _).lst [] (fun _ h=>h.elim)) (by kernel_rfl) ?_)
    refine x_pre (fuel:=8) [] [(15,true),(16,true),(17,true),(18,true),(19,true),(20,true),(21,true),(22,true),(23,true),(24,true),(25,true),(26,true),(28,true)] (by kernel_rfl) rfl ?_
    refine h_pf rfl rfl rfl rfl (h_mv rfl rfl rfl (h_no rfl rfl rfl rfl rfl (h_no rfl rfl rfl rfl rfl (h_no rfl rfl rfl rfl rfl (h_pf rfl rfl rfl rfl (h_mv rfl rfl rfl (h_no rfl rfl rfl rfl rfl (h_no rfl rfl rfl rfl rfl (h_no rfl rfl rfl rfl rfl (h_pf rfl rfl rfl rfl (h_mv rfl rfl rfl (h_no rfl rfl rfl rfl rfl (AK ?_)))))))))))))
    refine x_one (i:=27) (by kernel_rfl) rfl ?_
    refine AD rfl rfl rfl rfl (x_go [(29,[])] ((St.refl nT _ _).lst [] (fun _ h=>h.elim)) (by kernel_rfl) ?_)
    refine x_one (i:=29) (by kernel_rfl) rfl ?_
    refine AD rfl rfl rfl rfl (x_go [] ((St.refl nT _ _).lst [] (fun _ h=>h.elim)) (by kernel_rfl) ?_)
    refine x_pre (fuel:=0) [] [(30,true),(31,true),(32,true),(33,true),(34,true),(35,true)] (by kernel_rfl) rfl ?_
    refine h_pf rfl rfl rfl rfl (h_mv rfl rfl rfl (h_no rfl rfl rfl rfl rfl (h_no rfl rfl rfl rfl rfl (h_pf rfl rfl rfl rfl (h_as rfl rfl rfl (AK ?_))))))
    refine x_nil (by kernel_rfl) ?_
    obtain rfl:=sm hy141
    replace hB:=(((((((((hB.st S5).st S29).st S48).st S51).st S56).st S80).st S99).st S102).st S107).st S131
    exact ⟨(),_,⟨rfl,trivial⟩,hB⟩
  ·
   replace hy141:=im hy141 c144
   refine h_mv rfl rfl rfl (h_no rfl rfl rfl rfl rfl (h_no rfl rfl rfl rfl rfl (h_pf rfl rfl rfl rfl (h_mv rfl rfl rfl (h_no rfl rfl rfl rfl rfl (h_no rfl rfl rfl rfl rfl (h_pf rfl rfl rfl rfl (h_mv rfl rfl rfl (h_no rfl rfl rfl rfl rfl (h_no rfl rfl rfl rfl rfl (AK ?_)))))))))))
   refine x_one (i:=13) (by kernel_rfl) rfl ?_
   refine AD rfl rfl rfl rfl (x_go [(14,[]),(27,[]),(29,[])] ((St.refl nT _ _).lst [] (fun _ h=>h.elim)) (by kernel_rfl) ?_)
   refine x_one (i:=14) (by kernel_rfl) rfl ?_
   refine AD rfl rfl rfl rfl (x_go [(27,[]),(29,[])] ((St.refl nT _ _).lst [] (fun _ h=>h.elim)) (by kernel_rfl) ?_)
   refine x_pre (fuel:=8) [] [(15,true),(16,true),(17,true),(18,true),(19,true),(20,true),(21,true),(22,true),(23,true),(24,true),(25,true),(26,true),(28,true)] (by kernel_rfl) rfl ?_
   refine h_pf rfl rfl rfl rfl (h_mv rfl rfl rfl (h_no rfl rfl rfl rfl rfl (h_no rfl rfl rfl rfl rfl (h_no rfl rfl rfl rfl rfl (h_pf rfl rfl rfl rfl (h_mv rfl rfl rfl (h_no rfl rfl rfl rfl rfl (h_no rfl rfl rfl rfl rfl (h_no rfl rfl rfl rfl rfl (h_pf rfl rfl rfl rfl (h_mv rfl rfl rfl (h_no rfl rfl rfl rfl rfl (AK ?_)))))))))))))
   refine x_one (i:=27) (by kernel_rfl) rfl ?_
   refine AD rfl rfl rfl rfl (x_go [(29,[])] ((St.refl nT _ _).lst [] (fun _ h=>h.elim)) (by kernel_rfl) ?_)
   refine x_one (i:=29) (by kernel_rfl) rfl ?_
   refine AD rfl rfl rfl rfl (x_go [] ((St.refl nT _ _).lst [] (fun _ h=>h.elim)) (by kernel_rfl) ?_)
   refine x_pre (fuel:=0) [] [(30,true),(31,true),(32,true),(33,true),(34,true),(35,true)] (by kernel_rfl) rfl ?_
   refine h_pf rfl rfl rfl rfl (h_mv rfl rfl rfl (h_no rfl rfl rfl rfl rfl (h_no rfl rfl rfl rfl rfl (h_pf rfl rfl rfl rfl (h_as rfl rfl rfl (AK ?_))))))
   refine x_nil (by kernel_rfl) ?_
   obtain rfl:=sm hy141
   replace hB:=(((((((((hB.st S5).st S29).st S48).st S51).st S56).st S80).st S99).st S102).st S107).st S131
   exact ⟨(),_,⟨rfl,trivial⟩,hB⟩
 replace hB:=(((((((((hB.st S5).st S29).st S48).st S51).st S56).st S80).st S99).st S102).st S107).st S131
 rintro l194 w195 ⟨x143,O196,hs197,hB⟩
 refine AO _ hs197 ?_
 refine Au ?_
 obtain rfl:=sm hm
 exact ret1v rfl (AG rfl) ⟨hB.ext,vBool⟩
end
section
open Go Go.RowKit
theorem LY {t:Tsk} (hok:TaskOk t):∃ reg,Ca t=some (some ⟨t,reg,some ⟨t⟩⟩,⟨0⟩)∧RegI t.vars reg [t.init]∧links reg=[⟨-1,-1,0⟩]:=by
  obtain ⟨rr,n1,reg,rfl,n2,n3⟩:=Lt hok.1 hok.2.2.1
  rcases Jg hok.1 n2 hok.2.2.2.1 (by simp) with ⟨i,hi,_⟩|⟨_,r',hadd,hr',hlk⟩
  · simp at hi
  refine ⟨r',?_,hr',by rw [hlk,n3];rfl⟩
  unfold Ca
  rw [LA hok,AB,if_neg (by simp),n1,AB,if_neg (by simp),AB,hadd,AB,if_neg (by simp)]
theorem LB {vars:List Int} {r:Reg} {L:List (List Int)} (h:RegI vars r L):(links r).length=L.length:=by unfold links;rw [List.length_map,h.len]
theorem Nm {t:Tsk} (h:TaskOk t) {s p s':List Int} {C:Int} (hr:PlanR t s p s' C):∀ (j:Nat) (c:Int),0≤c→c + p.length * 1048576≤1000000000000000 →
    rng (ρ:=Rsl×Err) (fun (_:Nat) (a78:Int) (s75:Int)=>bnd (atI t.ops a78) fun a125=>bnd (chkI (s75 + a125.cost)) fun n146=>some (.next n146)) p j c=some (.done (c + C)):=by
  induction hr with
  | nil=>intro j c _ _;simp [rng]
  | @cons s rest s' k o C ho hp hr ih =>
    intro j c hc hb
    simp only [List.length_cons] at hb
    have hoo:=h.2.2.2.2.2 k o ho
    have h1:=hoo.1
    have h2:=hoo.2.1
    have e2:(bnd (atI t.ops (k:Int)) fun a125=>bnd (chkI (c + a125.cost)) fun n146=>some (Ctl.next (ρ:=Rsl×Err) n146))=some (.next (c + o.cost)):=by
      rw [Bk,ho,AB,Bp (by unfold inI64;omega),AB]
    simp only [rng,e2]
    rw [ih (j + 1) (c + o.cost) (by omega) (by omega),Int.add_assoc]
theorem LC {t:Tsk} {s:List Int} (h:TaskOk t) (hs:StateOk t.vars s):s.length≤1000000:=by have:=hs.1;have:=h.1;omega
end
section
open Go Go.RowKit
structure SQ (t:Tsk) (L:List (List Int)) (x:Spc):Prop where
  tt:x.t=t
  gen:x.gen=some ⟨t⟩
  reg:RegI t.vars x.reg L
theorem IE:∀ (l:List (List Int)) (bs:List Bool),(marked l bs).Sublist l
  | [],bs=>by simp [marked]
  | s :: l,[]=>by simp [marked]
  | s :: l,b :: bs=>by
    have ih:=IE l bs
    simp only [marked]
    split
    · exact ih.cons_cons s
    · exact ih.cons s
theorem Fs:∀ {l:List (List Int)} {bs:List Bool} {s:List Int},s∈marked l bs→∃ i:Nat,l[i]?=some s∧bs[i]?=some true
  | [],bs,s,h=>by simp [marked] at h
  | s :: l,[],s',h=>by simp [marked] at h
  | s :: l,b :: bs,s',h=>by
    simp only [marked] at h
    by_cases hb:b=true
    · rw [if_pos hb] at h
      rcases List.mem_cons.1 h with rfl|h
      · exact ⟨0,rfl,by simp [hb]⟩
      · obtain ⟨i,h1,h2⟩:=Fs h;exact ⟨i + 1,by simpa using h1,by simpa using h2⟩
    · rw [if_neg hb] at h
      obtain ⟨i,h1,h2⟩:=Fs h;exact ⟨i + 1,by simpa using h1,by simpa using h2⟩
theorem GY {t:Tsk} (h:TaskOk t):(statesL t.vars).Nodup:=If fun _ _ _ h1 h2=>EY h h1 h2
end
section
open Go Go.RowKit
abbrev US:=(List Int)×(List Bool)×Int×Int×Spc×BQ
abbrev UT:=(List Int)×(List Bool)×Int×Spc×BQ
noncomputable def uIn (t:Tsk) (n2 cst idd:Int) (s:UT) (a:Suc):Option (Ctl UT (Ctl US (Rsl×Err))):=bnd (AX s.2.2.2.1.reg a.state) fun q=>if q.2.2.1.n≠0 then (bnd (Bn 3 n2) fun z=>some (.ret (.ret (z.1,(⟨z.2.n⟩:Err))))) else (bnd (atI t.ops a.op) fun o=>bnd (chkI (cst + o.cost)) fun n=>bnd (if q.2.1=true then (bnd (appI 8 s.1 [n]) fun u=>bnd (appI 1 s.2.1 [false]) fun v=>some (.done (u,v))) else (bnd (bnd (atI s.2.1 q.1) fun b=>if b=true then (some true) else (bnd (atI s.1 q.1) fun c=>if c≤n then (some true) else (some false)):Option Bool) fun y=>if y=true then (some (.ret (.next (s.1,s.2.1,s.2.2.1,(⟨s.2.2.2.1.t,q.2.2.2,s.2.2.2.1.gen⟩:Spc),s.2.2.2.2)))) else (some (.done (s.1,s.2.1)))):Option (Fin ((List Int)×(List Bool)) (Ctl UT (Ctl US (Rsl×Err))))) fun y=>fin y fun (z:(List Int)×(List Bool))=>bnd (atI z.1 q.1) fun _=>bnd (Bd q.2.2.2 q.1 idd a.op n) fun k=>if k.1.n≠0 then (some (.ret (.ret ((⟨0,([]:List Int),0,0⟩:Rsl),(⟨k.1.n⟩:Err))))) else (bnd (BH s.2.2.2.2 (⟨(⟨n,s.2.2.1,q.1⟩:Itm)⟩:AI)) fun h=>bnd (chkI (s.2.2.1 + 1)) fun m=>some (.next ((z.1.set (q.1:Int).toNat n),z.2,m,(⟨s.2.2.2.1.t,k.2,s.2.2.2.1.gen⟩:Spc),h))))
noncomputable def uniF (t:Tsk) (lim:Int):US→Option (Ctl US (Rsl×Err)):=fun s=>bnd (Be s.2.2.2.2.2.l) fun q=>if 0 < q then (bnd (BL s.2.2.2.2.2) fun e=>bnd (atI s.2.1 e.1.x.id) fun b=>if b=true then (some (.next (s.1,s.2.1,s.2.2.1,s.2.2.2.1,s.2.2.2.2.1,e.2))) else (bnd (Bc s.2.2.2.2.1.reg e.1.x.id) fun w=>if w.2.n≠0 then (some (.ret ((⟨0,([]:List Int),0,0⟩:Rsl),(⟨w.2.n⟩:Err)))) else (bnd (Cy t.goal w.1) fun g=>if g=true then bnd (Bu s.2.2.2.2.1 e.1.x.id s.2.2.2.1) fun z=>some (.ret (z.1,(⟨z.2.n⟩:Err))) else if lim≤s.2.2.2.1 then (bnd (Bn 3 s.2.2.2.1) fun z=>some (.ret (z.1,(⟨z.2.n⟩:Err)))) else (bnd (atI s.2.1 e.1.x.id) fun _=>bnd (chkI (s.2.2.2.1 + 1)) fun n2=>bnd (AS s.2.2.2.2.1.gen w.1) fun l=>bnd (rng (ρ:=Ctl US (Rsl×Err)) (fun (_:Nat) (a:Suc) (y:UT)=>uIn t n2 e.1.x.cost e.1.x.id y a) l 0 (s.1,(s.2.1.set (e.1.x.id:Int).toNat true),s.2.2.1,s.2.2.2.2.1,e.2)) fun r=>fin r fun (z:UT)=>some (.next (z.1,z.2.1,z.2.2.1,n2,z.2.2.2.1,z.2.2.2.2)))))) else (some (.brk s))
noncomputable def uniE:Fin US (Rsl×Err)→Option (Rsl×Err):=fun r=>fin r fun (s:US)=>bnd (Bn 2 s.2.2.2.1) fun q=>some (q.1,(⟨q.2.n⟩:Err))
theorem MB (t:Tsk) (lim:Int):BI t lim=bnd (Ca t) fun q=>if q.2.n≠0 then (some ((⟨0,([]:List Int),0,0⟩:Rsl),(⟨q.2.n⟩:Err))) else (bnd q.1 fun o=>bnd (lop (uniF t lim) (([0]:List Int),[false],1,0,o,(⟨[(⟨0,0,0⟩:Itm)]⟩:BQ))) uniE):=rfl
theorem JQ {t:Tsk} {s:List Int} {k:Nat} {o:Opr} (ho:t.ops[k]?=some o) (hp:holdsB o.pre s=true):(k:Int)∈appl t s:=by
  rw [Nl,List.mem_map]
  exact ⟨k,List.mem_filter.2 ⟨List.mem_range.2 (AJ ho),by rw [(KA ho).1];exact hp⟩,rfl⟩
theorem HA {t:Tsk} {s:List Int} {C:Int} (hw:Walk t s C):WalkS t (appl t) s C:=by
  induction hw with
  | goal h=>exact .goal h
  | step ho hp _ ih=>exact .step ho (JQ ho hp) ih
theorem GJ {t:Tsk} (hs:SmallOk t) {r:Reg} {L:List (List Int)} (h:RegI t.vars r L):L.length≤512:=by
  refine Nat.le_trans (EC (If h.nodup) fun s hm=>?_) hs.many
  obtain ⟨i,hi⟩:=List.getElem?_of_mem hm
  exact En.2 (h.st i s hi)
def KP (L:List (List Int)) (g:List Int) (fn:List Bool) (L':List (List Int)) (g':List Int) (fn':List Bool):Prop:=∀ j:Nat,fn'[j]?=some true→fn[j]?=some true∧g'[j]?=g[j]?∧L'[j]?=L[j]?
def HM (g:List Int) (fn:List Bool) (c:Int):Prop:=∀ (j:Nat) c',fn[j]?=some true→g[j]?=some c'→c'≤c
def CO (t:Tsk) (g:List Int) (fn:List Bool):Prop:=∀ (j:Nat) c',fn[j]?=some true→g[j]?=some c'→∀ C,Walk t t.init C→c'≤C
theorem KP.rfl {L:List (List Int)} {g:List Int} {fn:List Bool}:KP L g fn L g fn:=fun _ h=>⟨h,Eq.refl _,Eq.refl _⟩
theorem KP.upd {L L':List (List Int)} {g g':List Int} {fn fn':List Bool} {i:Nat} {s:List Int} {x:Int} (h1:UpL i s L L') (h2:UpL i x g g') (h3:UpL i false fn fn'):KP L g fn L' g' fn':=fun j hj=>by
  have hne:j≠i:=fun e=>by subst e;rw [h3.1] at hj;cases hj
  exact ⟨by rw [← h3.2 j hne];exact hj,h2.2 j hne,h1.2 j hne⟩
theorem HM.kp {L L':List (List Int)} {g g':List Int} {fn fn':List Bool} {c:Int} (h:HM g fn c) (k:KP L g fn L' g' fn'):HM g' fn' c:=fun j c' hj hc=>by
  obtain ⟨k1,k2,_⟩:=k j hj
  exact h j c' k1 (by rw [← k2];exact hc)
theorem CO.kp {t:Tsk} {L L':List (List Int)} {g g':List Int} {fn fn':List Bool} (h:CO t g fn) (k:KP L g fn L' g' fn'):CO t g' fn':=fun j c' hj hc=>by
  obtain ⟨k1,k2,_⟩:=k j hj
  exact h j c' k1 (by rw [← k2];exact hc)
theorem u_one {t:Tsk} (hs:SmallOk t) {D:Nat→Int→Prop} {ord:Nat→Nat} {L:List (List Int)} {E:Nat} {g:List Int} {fn:List Bool} {order:Int} {x:Spc} {q:BQ} (hx:SQ t L x) (hinv:SrI t (appl t) D L (links x.reg) g fn (qs q.l) ord E) (hh:HeapOk (qs q.l)) (ho0:0≤order) (ho1:order≤100000) (hql:q.l.length≤100000) (hE:E≤513)
    {p k:Nat} {o:Opr} {sp:List Int} {cp n2:Int} (ho:t.ops[k]?=some o) (hsp:L[p]?=some sp) (hfp:fn[p]?=some true) (hpre:holdsB o.pre sp=true) (hgp:g[p]?=some cp) (hmax:HM g fn cp) (hcb:cp + 1048576≤(E:Int) * 1048576) :
    ∃ y:UT,uIn t n2 cp (p:Int) (g,fn,order,x,q) ⟨(k:Int),succ o sp⟩=some (.next y)∧∃ L',SQ t L' y.2.2.2.1∧SrI t (appl t) D L' (links y.2.2.2.1.reg) y.1 y.2.1 (qs y.2.2.2.2.l) ord E∧HeapOk (qs y.2.2.2.2.l)∧0≤y.2.2.1∧y.2.2.1≤order + 1∧y.2.2.2.2.l.length≤q.l.length + 1∧KP L g fn L' y.1 y.2.1∧L'[p]?=some sp∧y.2.1[p]?=some true∧y.1[p]?=some cp∧∃ (i:Nat) (c':Int),L'[i]?=some (succ o sp)∧y.1[i]?=some c'∧c'≤cp + o.cost:=by
  have hok:=hs.ok
  have hoo:=hok.2.2.2.2.2 k o ho
  have ho1':=hoo.1
  have ho2:=hoo.2.1
  have hL:=GJ hs hx.reg
  have hcp:=(hinv.bound p cp hgp).1
  have hsok:StateOk t.vars (succ o sp):=Fw hok (hx.reg.st p sp hsp) ho
  have hgl:=hinv.leng
  have hfl:=hinv.lenf
  have hlkl:=LB hx.reg
  have hpl:=AJ hsp
  unfold uIn
  dsimp only
  rcases Jg hok.1 hx.reg hsok (by omega) with ⟨i,hi,hadd⟩|⟨hno,r',hadd,hr',hlk⟩
  · have hil:=AJ hi
    obtain ⟨ci,hci⟩:=AH (l:=g) (k:=i) (by omega)
    obtain ⟨b,hb⟩:=AH (l:=fn) (k:=i) (by omega)
    rw [hadd,AB,if_neg (by simp),Bk,ho,AB,Bp (by unfold inI64;omega),AB]
    dsimp only
    rw [if_f,Bk,hb,AB,Bk,hci,AB]
    have keep:ci≤cp + o.cost→∃ y:UT,(some (.next (g,fn,order,(⟨x.t,x.reg,x.gen⟩:Spc),q)):Option (Ctl UT (Ctl US (Rsl×Err))))=some (.next y)∧∃ L',SQ t L' y.2.2.2.1∧SrI t (appl t) D L' (links y.2.2.2.1.reg) y.1 y.2.1 (qs y.2.2.2.2.l) ord E∧HeapOk (qs y.2.2.2.2.l)∧0≤y.2.2.1∧y.2.2.1≤order + 1∧y.2.2.2.2.l.length≤q.l.length + 1∧KP L g fn L' y.1 y.2.1∧L'[p]?=some sp∧y.2.1[p]?=some true∧y.1[p]?=some cp∧∃ (i:Nat) (c':Int),L'[i]?=some (succ o sp)∧y.1[i]?=some c'∧c'≤cp + o.cost:=fun hle =>
      ⟨_,rfl,L,hx,hinv,hh,ho0,by dsimp only;omega,by dsimp only;omega,KP.rfl,hsp,hfp,hgp,i,ci,hi,hci,hle⟩
    cases b with
    | true =>
      rw [if_t,AB,if_t,AB]
      exact keep (by have:=hmax i ci hb hci;omega)
    | false =>
      rw [if_f]
      by_cases hle:ci≤cp + o.cost
      · rw [if_pos hle,AB,if_t,AB]
        exact keep hle
      · have hip:p≠i:=fun e=>by subst e;rw [hfp] at hb;cases hb
        obtain ⟨reg',s1,s2,s3⟩:=Iz hx.reg hil (p:=(p:Int)) (o:=(k:Int)) (c:=cp + o.cost) (.inr ⟨p,rfl,hpl⟩)
        obtain ⟨q',u1,u2,u3⟩:=JI hh (by omega) ⟨cp + o.cost,order,(i:Int)⟩
        have hplen:=u3.length_eq
        simp only [List.length_cons,Ep] at hplen
        rw [if_neg hle,AB,if_f,AB,fin_d]
        dsimp only
        rw [Bk,hci,AB,s1,AB,if_neg (by simp),u1,AB,Bp (by unfold inI64;omega),AB,Int.toNat_natCast]
        have v1:UpL i (succ o sp) L L:=JK hi
        have v3:UpL i (cp + o.cost) g (g.set i (cp + o.cost)):=Kv (by omega)
        have v4:UpL i false fn fn:=JK hb
        refine ⟨_,rfl,L,⟨hx.tt,hx.gen,s2⟩,?_,u2,by dsimp only;omega,by dsimp only;omega,by dsimp only;omega,KP.upd v1 v3 v4,hsp,hfp,?_,i,cp + o.cost,hi,v3.1,Int.le_refl _⟩
        · dsimp only
          rw [s3]
          exact hinv.upd hok v1 (Kv (by omega)) v3 v4 u3 rfl rfl (by simp;omega) (by simp;omega) (by omega) (by omega) rfl (.inr ⟨hi,hb,fun c hc=>by rw [hci] at hc;have:=Option.some.inj hc;omega⟩) ho hsp hfp hpre rfl hgp rfl hmax (by omega)
        · dsimp only;rw [v3.2 p hip];exact hgp
  · rw [hadd,AB,if_neg (by simp),Bk,ho,AB,Bp (by unfold inI64;omega),AB]
    dsimp only
    have hg2:(g ++ [cp + o.cost])[L.length]?=some (cp + o.cost):=by rw [← hgl];simp
    obtain ⟨reg',s1,s2,s3⟩:=Iz hr' (i:=L.length) (by simp) (p:=(p:Int)) (o:=(k:Int)) (c:=cp + o.cost) (.inr ⟨p,rfl,by simp;omega⟩)
    obtain ⟨q',u1,u2,u3⟩:=JI hh (by omega) ⟨cp + o.cost,order,((L.length:Nat):Int)⟩
    have hplen:=u3.length_eq
    simp only [List.length_cons,Ep] at hplen
    rw [if_t,CX (by simp;omega) (by simp;omega),AB,CX (by simp;omega) (by simp;omega),AB,AB,fin_d]
    dsimp only
    rw [Bk,hg2,AB,s1,AB,if_neg (by simp),u1,AB,Bp (by unfold inI64;omega),AB,Int.toNat_natCast]
    have sc:(g ++ [cp + o.cost]).set L.length (cp + o.cost)=g ++ [cp + o.cost]:=by rw [← hgl];simp
    rw [sc]
    have hlk2:links reg'=links x.reg ++ [⟨(p:Int),(k:Int),cp + o.cost⟩]:=by rw [s3,hlk,← hlkl];simp
    have v1:UpL L.length (succ o sp) L (L ++ [succ o sp]):=HJ
    have v2:UpL L.length (⟨(p:Int),(k:Int),cp + o.cost⟩:RLk) (links x.reg) (links x.reg ++ [⟨(p:Int),(k:Int),cp + o.cost⟩]):=by rw [← hlkl];exact HJ
    have v3:UpL L.length (cp + o.cost) g (g ++ [cp + o.cost]):=by rw [← hgl];exact HJ
    have v4:UpL L.length false fn (fn ++ [false]):=by rw [← hfl];exact HJ
    have hne:p≠L.length:=by omega
    refine ⟨_,rfl,L ++ [succ o sp],⟨hx.tt,hx.gen,s2⟩,?_,u2,by dsimp only;omega,by dsimp only;omega,by dsimp only;omega,KP.upd v1 v3 v4,by rw [v1.2 p hne];exact hsp,by dsimp only;rw [v4.2 p hne];exact hfp,by dsimp only;rw [v3.2 p hne];exact hgp,L.length,cp + o.cost,v1.1,v3.1,Int.le_refl _⟩
    dsimp only
    rw [hlk2]
    exact hinv.upd hok v1 v2 v3 v4 u3 rfl rfl (by simp;omega) (by simp;omega) (by simp;omega) (by simp) (Mt _) (.inl (List.getElem?_eq_none (Nat.le_refl _))) ho hsp hfp hpre rfl hgp rfl hmax (by omega)
structure UJ (t:Tsk) (D:Nat→Int→Prop) (ord:Nat→Nat) (E N:Nat) (i:Nat) (s:List Int) (c:Int) (L:List (List Int)) (y:UT):Prop where
  sq:SQ t L y.2.2.2.1
  inv:SrI t (appl t) D L (links y.2.2.2.1.reg) y.1 y.2.1 (qs y.2.2.2.2.l) ord E
  heap:HeapOk (qs y.2.2.2.2.l)
  ord0:0≤y.2.2.1
  ord1:y.2.2.1≤(N:Int) + 1
  qlen:y.2.2.2.2.l.length≤N
  hi:L[i]?=some s
  hf:y.2.1[i]?=some true
  hc:y.1[i]?=some c
  hm:HM y.1 y.2.1 c
  co:CO t y.1 y.2.1
theorem u_exp {t:Tsk} (hs:SmallOk t) {ord:Nat→Nat} {E N i:Nat} {s:List Int} {c n2:Int} {L:List (List Int)} {y:UT} (h:UJ t (fun j _=>j≠i) ord E N i s c L y) (hN:N≤90000) (hE:E≤513) (hcb:c + 1048576≤(E:Int) * 1048576) :
    ∃ y':UT,rng (ρ:=Ctl US (Rsl×Err)) (fun (_:Nat) (a:Suc) (y:UT)=>uIn t n2 c (i:Int) y a) ((appS t s).map (sucOf t s)) 0 y=some (.done y')∧∃ L',UJ t (fun _ _=>True) ord E (N + 20) i s c L' y':=by
  have hok:=hs.ok
  have hops:t.ops.length≤20:=hs.2.1
  have hsok:=h.sq.reg.st i s h.hi
  have hlen:(appl t s).length≤20:=Nat.le_trans (JP t s) hops
  rw [Gn hsok]
  obtain ⟨y',h1,h2⟩:=Ed (ρ:=Ctl US (Rsl×Err)) (f:=fun (_:Nat) (a:Suc) (y:UT)=>uIn t n2 c (i:Int) y a) (xs:=(appl t s).map (sucOf t s)) (s₀:=y) (fun m z=>∃ L',UJ t (fun j q=>j≠i∨q∈(appl t s).take m) ord E (N + m) i s c L' z)
    ⟨L, { h with inv:={ h.inv with rel:=fun j s' q hj hs' hq hd=>h.inv.rel j s' q hj hs' hq (by rcases hd with hd|hd;exact hd;simp at hd) } }⟩ (fun m a z hm hz=>by
      rw [List.getElem?_map] at hm
      obtain ⟨op,hop,rfl⟩:=Option.map_eq_some_iff.1 hm
      obtain ⟨L',hz⟩:=hz
      obtain ⟨k,o,rfl,ho,hp⟩:=JO (List.mem_of_getElem? hop)
      have hml:=AJ hop
      have hq:=hz.qlen
      have hoo:=hz.ord1
      have e1:sucOf t s (k:Int)=⟨(k:Int),succ o s⟩:=by rw [MA,(KA ho).2]
      obtain ⟨g,fn,order,x,q⟩:=z
      obtain ⟨z',z1,L'',z2,z3,z4,z5,z6,z7,z8,z9,z10,z11,i',c',z12,z13,z14⟩:=u_one hs (n2:=n2) hz.sq hz.inv hz.heap hz.ord0 (by have:=hz.ord1;dsimp only at this;omega) (by have:=hz.qlen;dsimp only at this;omega) hE ho hz.hi hz.hf hp hz.hc hz.hm hcb
      try dsimp only at hq
      try dsimp only at hoo
      try dsimp only at z6
      try dsimp only at z7
      refine ⟨z',by rw [e1];exact z1,L'',⟨z2,?_,z4,z5,by omega,by omega,z9,z10,z11,hz.hm.kp z8,hz.co.kp z8⟩⟩
      refine z3.more (j₀:=i) (q₀:=(k:Int)) (fun j q hd=>?_) z9 rfl ho z12 z11 z13 z14
      rcases hd with hd|hd
      · exact .inl (.inl hd)
      · rcases (Ic hop).1 hd with hd|rfl
        · exact .inl (.inr hd)
        · by_cases e:j=i
          · exact .inr ⟨e,rfl⟩
          · exact .inl (.inl e))
  obtain ⟨L',h2⟩:=h2
  rw [List.length_map] at h2
  refine ⟨y',h1,L',?_⟩
  have hinv:=h2.inv
  have hq:=h2.qlen
  have hoo:=h2.ord1
  exact { h2 with
    inv:={ hinv with rel:=fun j s' q hj hs' hq hd=>hinv.rel j s' q hj hs' hq (by
      by_cases e:j=i
      · right;rw [List.take_length];subst e;rw [h2.hi] at hs';obtain rfl:=Option.some.inj hs';exact hq
      · exact .inl e) }
    ord1:=by omega
    qlen:=by omega }
structure UI (t:Tsk) (ord:Nat→Nat) (N:Nat) (L:List (List Int)) (s:US):Prop where
  sq:SQ t L s.2.2.2.2.1
  inv:SrI t (appl t) (fun _ _=>True) L (links s.2.2.2.2.1.reg) s.1 s.2.1 (qs s.2.2.2.2.2.l) ord s.2.2.2.1.toNat
  heap:HeapOk (qs s.2.2.2.2.2.l)
  ord0:0≤s.2.2.1
  ord1:s.2.2.1≤(N:Int) + 1
  qlen:s.2.2.2.2.2.l.length≤N
  exp0:0≤s.2.2.2.1
  co:CO t s.1 s.2.1
  nn:(N:Int)≤1 + 20 * s.2.2.2.1
theorem UI.exp {t:Tsk} (hs:SmallOk t) {ord:Nat→Nat} {N:Nat} {L:List (List Int)} {s:US} (h:UI t ord N L s):s.2.2.2.1≤512:=by
  have h1:=h.inv.num
  have h2:=Lv s.2.1
  have h3:=h.inv.lenf
  have h4:=GJ hs h.sq.reg
  have:=h.exp0
  omega
theorem SrI.ways {t:Tsk} {L:List (List Int)} {lk:List RLk} {g:List Int} {fn:List Bool} {hp:List QEn} {ord:Nat→Nat} {E:Nat} (h:SrI t (appl t) (fun _ _=>True) L lk g fn hp ord E) (hok:TaskOk t) {s0 p s:List Int} {C:Int} (hw:PlanR t s0 p s C):∀ (i:Nat) c,L[i]?=some s0→g[i]?=some c→(∃ e∈hp,e.key≤c + C)∨∃ i:Nat,L[i]?=some s∧fn[i]?=some true:=by
  induction hw with
  | nil =>
    intro i c hi hc
    obtain ⟨b,hb⟩:=AH (l:=fn) (k:=i) (by rw [h.lenf];exact AJ hi)
    cases b with
    | false=>obtain ⟨e,m,k1,_⟩:=h.opn i c hb hc;exact .inl ⟨e,m,by omega⟩
    | true=>exact .inr ⟨i,hi,hb⟩
  | @cons s0 rest s' k o C ho hpre hr ih =>
    intro i c hi hc
    have h1:=(hr.bound hok).1
    have h2:=(hok.2.2.2.2.2 k o ho).1
    obtain ⟨b,hb⟩:=AH (l:=fn) (k:=i) (by rw [h.lenf];exact AJ hi)
    cases b with
    | false=>obtain ⟨e,m,k1,_⟩:=h.opn i c hb hc;exact .inl ⟨e,m,by omega⟩
    | true =>
      obtain ⟨k',o',i',c0,c',a1,a2,a3,a4,a5,a6⟩:=h.rel i s0 _ hb hi (JQ ho hpre) trivial
      have e1:k=k':=by omega
      subst e1
      rw [ho] at a2
      obtain rfl:=Option.some.inj a2
      rw [hc] at a4
      obtain rfl:=Option.some.inj a4
      rcases ih i' c' a3 a5 with ⟨e,m,k1⟩|h3
      · exact .inl ⟨e,m,by omega⟩
      · exact .inr h3
theorem Nn {t:Tsk} (hs:SmallOk t) {ord:Nat→Nat} {N:Nat} {L:List (List Int)} {st:US} (h:UI t ord N L st) :
    (∃ st':US,(∀ lim,uniF t lim st=some (.next st'))∧UI t ord N L st'∧st'.2.2.2.1=st.2.2.2.1∧st'.2.2.2.2.2.l.length < st.2.2.2.2.2.l.length) ∨
    ((∀ lim,uniF t lim st=some (.brk st))∧st.2.2.2.2.2.l.length=0) ∨
    (∃ p c,(∀ lim,uniF t lim st=some (.ret (⟨1,p,c,st.2.2.2.1⟩,⟨0⟩)))∧p.length≤512∧(∃ s',PlanR t t.init p s' c∧holdsB t.goal s'=true)∧(∀ e∈qs st.2.2.2.2.2.l,c≤e.key)) ∨
    (∃ (st':US) (ord':Nat→Nat) (N':Nat) (L':List (List Int)),(∀ lim,uniF t lim st=if lim≤st.2.2.2.1 then some (.ret (⟨3,[],0,st.2.2.2.1⟩,⟨0⟩)) else some (.next st'))∧UI t ord' N' L' st'∧st'.2.2.2.1=st.2.2.2.1 + 1∧∃ (i:Nat) (s:List Int) (c:Int),L[i]?=some s∧st.2.1[i]?=some false∧st.1[i]?=some c∧holdsB t.goal s=false∧∀ C,Walk t t.init C→c≤C):=by
  have hok:=hs.ok
  have hE:=h.exp hs
  have hE0:=h.exp0
  have hnn:=h.nn
  have hql:=h.qlen
  obtain ⟨g,fn,order,exp,x,q⟩:=st
  dsimp only at hE hE0 hnn hql ⊢
  by_cases h0:q.l.length=0
  · refine .inr (.inl ⟨fun lim=>?_,h0⟩)
    unfold uniF Be
    dsimp only
    rw [AB,if_neg (by omega)]
  obtain ⟨pr,p1,e,q',rfl,p3,p4,p5⟩:=Mo (q:=q) h.heap (by omega) (by omega)
  have hem:toQ e∈qs q.l:=p4.mem_iff.2 List.mem_cons_self
  obtain ⟨i,hei,hil,hek⟩:=h.inv.ent _ hem
  change e.id=(i:Int) at hei
  obtain ⟨s,hsi⟩:=AH (l:=L) (k:=i) hil
  obtain ⟨b,hb⟩:=AH (l:=fn) (k:=i) (by have:=h.inv.lenf;dsimp only at this;omega)
  obtain ⟨c,hc⟩:=AH (l:=g) (k:=i) (by have:=h.inv.leng;dsimp only at this;omega)
  have hpl:=p4.length_eq
  simp only [List.length_cons,Ep] at hpl
  cases b with
  | true =>
    refine .inl ⟨(g,fn,order,exp,x,q'),fun lim=>?_,⟨h.sq,h.inv.drop p4 hei (.inl hb),p3,h.ord0,h.ord1,by dsimp only;omega,h.exp0,h.co,h.nn⟩,rfl,by dsimp only;omega⟩
    unfold uniF Be
    dsimp only
    rw [AB,if_pos (by omega),p1,AB]
    dsimp only
    rw [hei,Bk,hb,AB,if_t]
  | false =>
    have hke:e.cost=c:=by
      obtain ⟨e',m,k1,_⟩:=h.inv.opn i c hb hc
      have h1:=JG (p5 e' m)
      have h2:=hek c hc
      change c≤e.cost at h2
      change e.cost≤e'.key at h1
      omega
    have start:∀ lim,uniF t lim (g,fn,order,exp,x,q)=if holdsB t.goal s=true then bnd (Bu x (i:Int) exp) fun z=>some (.ret (z.1,(⟨z.2.n⟩:Err))) else if lim≤exp then (some (.ret (⟨3,[],0,exp⟩,⟨0⟩))) else (bnd (atI fn (i:Int)) fun _=>bnd (chkI (exp + 1)) fun n2=>bnd (AS x.gen s) fun l=>bnd (rng (ρ:=Ctl US (Rsl×Err)) (fun (_:Nat) (a:Suc) (y:UT)=>uIn t n2 c (i:Int) y a) l 0 (g,(fn.set i true),order,x,q')) fun r=>fin r fun (z:UT)=>some (.next (z.1,z.2.1,z.2.2.1,n2,z.2.2.2.1,z.2.2.2.2))):=by
      intro lim
      unfold uniF Be Bn
      dsimp only
      rw [AB,if_pos (by omega),p1,AB]
      dsimp only
      rw [hei,hke,Bk,hb,AB,if_f,Kb hok.1 h.sq.reg hsi,AB,if_neg (by simp),Lq,AB,Int.toNat_natCast,AB]
    have hkey:g[i]?=some (toQ e).key:=by rw [hc,← hke];rfl
    have hleast:∀ e'∈qs q.l,c≤e'.key:=fun e' m=>by have:=JG (p5 e' m);change e.cost≤e'.key at this;omega
    have hchp:∀ C,Walk t t.init C→c≤C:=fun C hw=>by
      obtain ⟨e',m,k1⟩:=h.inv.front hok (HA hw) 0 0 h.inv.root h.inv.root0
      have:=hleast e' m
      omega
    by_cases hg:holdsB t.goal s=true
    · obtain ⟨p,g1,g2,g3⟩:=h.inv.path hsi hc
      have hL:=GJ hs h.sq.reg
      have hnum:=h.inv.num
      have hcl:=Lv fn
      have hfl:=h.inv.lenf
      dsimp only at g1 g2 g3 hnum hcl hfl
      refine .inr (.inr (.inl ⟨p,c,fun lim=>?_,by omega,⟨s,g2,hg⟩,hleast⟩))
      rw [start,if_pos hg]
      unfold Bu
      rw [Ms h.sq.reg (by omega) g1 (by omega),AB,if_neg (by simp),h.sq.tt,Nm hok g2 0 0 (by omega) (by omega),AB,fin_d,Int.zero_add,AB]
    · have hgf:holdsB t.goal s=false:=by simpa using hg
      have hm:=h.inv.mark p4 p5 hei hb hkey hsi hgf
      have hbd:=h.inv.bound i c hc
      dsimp only at hm hbd
      rw [Int.toNat_of_nonneg hE0] at hbd
      have hfl:i < fn.length:=AJ hb
      have hset:∀ (j:Nat) c',(fn.set i true)[j]?=some true→g[j]?=some c'→c'≤c∧∀ C,Walk t t.init C→c'≤C:=fun j c' hj hc'=>by
        by_cases e1:i=j
        · subst e1
          rw [hc] at hc'
          obtain rfl:=Option.some.inj hc'
          exact ⟨Int.le_refl _,hchp⟩
        · rw [List.getElem?_set_ne e1] at hj
          exact ⟨by have:=h.inv.lower j c' hj hc' _ hem;change c'≤e.cost at this;omega,h.co j c' hj hc'⟩
      obtain ⟨y',y1,L',y2⟩:=u_exp hs (n2:=exp + 1) (E:=exp.toNat + 1) (N:=N) (i:=i) (s:=s) (c:=c) (L:=L) (y:=(g,fn.set i true,order,x,q')) ⟨h.sq,hm,p3,h.ord0,h.ord1,by dsimp only;omega,hsi,List.getElem?_set_self hfl,hc,fun j c' hj hc'=>(hset j c' hj hc').1,fun j c' hj hc'=>(hset j c' hj hc').2⟩ (by omega) (by omega) (by
        have:((exp.toNat + 1:Nat):Int)=exp + 1:=by omega
        rw [this];omega)
      have hsok:=h.sq.reg.st i s hsi
      refine .inr (.inr (.inr ⟨(y'.1,y'.2.1,y'.2.2.1,exp + 1,y'.2.2.2.1,y'.2.2.2.2),(fun j=>if j=i then exp.toNat else ord j),N + 20,L',fun lim=>?_,⟨y2.sq,?_,y2.heap,y2.ord0,y2.ord1,y2.qlen,by dsimp only;omega,y2.co,by dsimp only;omega⟩,rfl,i,s,c,hsi,hb,hc,hgf,hchp⟩))
      · rw [start,if_neg hg]
        by_cases hlim:lim≤exp
        · rw [if_pos hlim,if_pos hlim]
        · rw [if_neg hlim,if_neg hlim,Bk,hb,AB,Bp (by unfold inI64;omega),AB,h.sq.gen,Mz hok (LC hok hsok),AB,y1,AB,fin_d]
      · dsimp only
        rw [show (exp + 1).toNat=exp.toNat + 1 from by omega]
        exact y2.inv
end
section
open Go Go.RowKit
def Cheap (t:Tsk) (s:List Int):Prop:=∃ p c,PlanR t t.init p s c∧c≤1000000000∧∀ C,Walk t t.init C→c≤C
def ResU (t:Tsk) (m:Int) (r:Rsl):Prop:=0≤r.expanded∧r.expanded≤m∧∃ M:List (List Int),M.Nodup∧(M.length:Int)=r.expanded∧(∀ s∈M,Cheap t s) ∧
  ((r.verdict=1∧r.plan.length≤512∧(∃ s',PlanR t t.init r.plan s' r.cost∧holdsB t.goal s'=true)∧(∀ C,Walk t t.init C→r.cost≤C)∧∀ s p c,PlanR t t.init p s c→c < r.cost→s∈M) ∨
   (r.verdict=2∧r.plan=[]∧r.cost=0∧(∀ C,¬ Walk t t.init C)∧∀ s p c,PlanR t t.init p s c→s∈M) ∨
   (r.verdict=3∧r.plan=[]∧r.cost=0∧m≤r.expanded∧∃ s,¬ s∈M∧Cheap t s))
def outU:Fin US (Rsl×Err)→Rsl
  | .done s=>⟨2,[],0,s.2.2.2.1⟩
  | .ret r=>r.1
section
variable {t : Tsk} {ord : Nat → Nat} {N : Nat} {L : List (List Int)} {st : US}
theorem UI.set (hs:SmallOk t) (h:UI t ord N L st):(marked L st.2.1).Nodup∧((marked L st.2.1).length:Int)=st.2.2.2.1∧∀ s∈marked L st.2.1,Cheap t s:=by
  have hE:=h.exp hs
  have hE0:=h.exp0
  refine ⟨(If h.sq.reg.nodup).sublist (IE _ _),?_,fun s hm=>?_⟩
  · rw [IA L st.2.1 h.inv.lenf,h.inv.num,Int.toNat_of_nonneg h.exp0]
  · obtain ⟨i,hi,hb⟩:=Fs hm
    obtain ⟨c,hc⟩:=AH (l:=st.1) (k:=i) (by rw [h.inv.leng];exact AJ hi)
    obtain ⟨p,_,g2,_⟩:=h.inv.path hi hc
    have:=h.inv.bound i c hc
    rw [Int.toNat_of_nonneg hE0] at this
    exact ⟨p,c,g2,by omega,h.co i c hb hc⟩
theorem UI.len (hs:SmallOk t) (h:UI t ord N L st):st.2.2.2.2.2.l.length≤90000:=by
  have h1:=h.exp hs
  have h2:=h.qlen
  have h3:=h.nn
  have:=h.exp0
  omega
end
theorem MC {M K a q q' n:Nat} (ha:a < M) (h:(M - a) * K + q < n + 1) (hq:q' < K):(M - (a + 1)) * K + q' < n:=by
  obtain ⟨b,hb⟩:∃ b,M - a=b + 1:=⟨M - a - 1,by omega⟩
  have hb':M - (a + 1)=b:=by omega
  rw [hb,Nat.add_mul,Nat.one_mul] at h
  rw [hb']
  omega
theorem u_all {t:Tsk} (hs:SmallOk t) (lim:Int):∀ (n:Nat) (st:US) (ord:Nat→Nat) (N:Nat) (L:List (List Int)),UI t ord N L st→st.2.2.2.1≤max lim 0→(513 - st.2.2.2.1.toNat) * 100000 + st.2.2.2.2.2.l.length < n→∃ f,lop (uniF t lim) st=some f∧uniE f=some (outU f,⟨0⟩)∧ResU t (max lim 0) (outU f)∧st.2.2.2.1≤(outU f).expanded∧∀ lim',(outU f).verdict≠3→(outU f).expanded≤lim'→lop (uniF t lim') st=some f:=by
  intro n
  induction n with
  | zero=>intro st ord N L _ _ hn;omega
  | succ n ih =>
    intro st ord N L h hsl hn
    have hE:=h.exp hs
    have hE0:=h.exp0
    have hok:=hs.ok
    obtain ⟨m1,m2,m3⟩:=h.set hs
    rcases Nn hs h with ⟨st',h1,h2,h3,h4⟩|⟨h1,h2⟩|⟨p,c,h1,h2,h3,h4⟩|⟨st',ord',N',L',h1,h2,h3,i,s,c,h4,h5,h6,h7,h8⟩
    · obtain ⟨f,f1,f0,f2,f3,f4⟩:=ih st' ord N L h2 (by omega) (by rw [h3];omega)
      refine ⟨f,by rw [DI,h1];exact f1,f0,f2,by omega,fun lim' hv hl=>?_⟩
      rw [DI,h1];exact f4 lim' hv hl
    · have hnil:∀ e,¬ e∈qs st.2.2.2.2.2.l:=fun e he=>by
        have:=List.length_pos_of_mem he
        rw [Ep] at this
        omega
      refine ⟨.done st,by rw [DI,h1],rfl,⟨hE0,hsl,marked L st.2.1,m1,m2,m3,.inr (.inl ⟨rfl,rfl,rfl,fun C hw=>?_,fun s p c hp=>?_⟩)⟩,Int.le_refl _,fun lim' _ _=>by rw [DI,h1]⟩
      · obtain ⟨e',m,_⟩:=h.inv.front hok (HA hw) 0 0 h.inv.root h.inv.root0
        exact hnil e' m
      · rcases h.inv.ways hok hp 0 0 h.inv.root h.inv.root0 with ⟨e,m,_⟩|⟨i,i1,i2⟩
        · exact absurd m (hnil e)
        · exact GH i1 i2
    · refine ⟨.ret (⟨1,p,c,st.2.2.2.1⟩,⟨0⟩),by rw [DI,h1],rfl,⟨hE0,hsl,marked L st.2.1,m1,m2,m3,.inl ⟨rfl,h2,h3,fun C hw=>?_,fun s p' c' hp hlt=>?_⟩⟩,Int.le_refl _,fun lim' _ _=>by rw [DI,h1]⟩
      · obtain ⟨e',m,k⟩:=h.inv.front hok (HA hw) 0 0 h.inv.root h.inv.root0
        have:=h4 e' m
        show c≤C
        omega
      · rcases h.inv.ways hok hp 0 0 h.inv.root h.inv.root0 with ⟨e,m,k⟩|⟨i,i1,i2⟩
        · have:=h4 e m
          change c' < c at hlt
          omega
        · exact GH i1 i2
    · by_cases hlim:lim≤st.2.2.2.1
      · refine ⟨.ret (⟨3,[],0,st.2.2.2.1⟩,⟨0⟩),by rw [DI,h1,if_pos hlim],rfl,⟨hE0,hsl,marked L st.2.1,m1,m2,m3,.inr (.inr ⟨rfl,rfl,rfl,by show max lim 0≤st.2.2.2.1;omega,s,fun hm=>?_,?_⟩)⟩,Int.le_refl _,fun lim' hv _=>absurd rfl hv⟩
        · obtain ⟨j,j1,j2⟩:=Fs hm
          have:=h.sq.reg.nodup i j s h4 j1
          subst this
          rw [h5] at j2
          cases j2
        · obtain ⟨p,_,g2,_⟩:=h.inv.path h4 h6
          have:=h.inv.bound i c h6
          rw [Int.toNat_of_nonneg hE0] at this
          exact ⟨p,c,g2,by omega,h8⟩
      · have hmany:=h2.len hs
        obtain ⟨f,f1,f0,f2,f3,f4⟩:=ih st' ord' N' L' h2 (by omega) (by
          have:st'.2.2.2.1.toNat=st.2.2.2.1.toNat + 1:=by omega
          rw [this];exact MC (by omega) hn (by omega))
        refine ⟨f,by rw [DI,h1,if_neg hlim];exact f1,f0,f2,by omega,fun lim' hv hl=>?_⟩
        rw [DI,h1,if_neg (by omega)];exact f4 lim' hv hl
theorem No {t:Tsk} {reg:Reg} (hr:RegI t.vars reg [t.init]) (hlk:links reg=[⟨-1,-1,0⟩]):UI t (fun _=>0) 1 [t.init] (([0]:List Int),[false],1,0,⟨t,reg,some ⟨t⟩⟩,(⟨[(⟨0,0,0⟩:Itm)]⟩:BQ)):=by
  have one:∀ {α:Type} {a b:α} {i:Nat},[a][i]?=some b→i=0∧b=a:=fun {α a b i} h=>by
    cases i with
    | zero=>simp at h;exact ⟨rfl,h.symm⟩
    | succ i=>simp at h
  refine ⟨⟨rfl,rfl,hr⟩,?_,fun j x y hj hx=>by have:=(one hx).1;omega,by simp,by simp,by simp,by simp,(fun j c hj=>by have:=(one hj).2;cases this),by simp⟩
  dsimp only
  rw [hlk]
  refine ⟨rfl,rfl,rfl,rfl,rfl,fun i s k c hi hk hc=>?_,fun i hi=>?_,fun j c hj=>?_,fun e he=>?_,fun i c hi hc=>?_,fun i c hc=>?_,fun j s hj=>?_,fun j s q hj=>?_,rfl,fun i s hi=>?_,fun hE=>by simp at hE⟩
  · obtain ⟨rfl,rfl⟩:=one hi
    obtain ⟨_,rfl⟩:=one hk
    obtain ⟨_,rfl⟩:=one hc
    exact .inl ⟨rfl,rfl,rfl⟩
  · have:=(one hi).2;cases this
  · have:=(one hj).2;cases this
  · have he':e=toQ ⟨0,0,0⟩:=by simpa [qs] using he
    subst he'
    refine ⟨0,rfl,by simp,fun c hc=>?_⟩
    have:=(one hc).2
    rw [this]
    decide
  · obtain ⟨rfl,_⟩:=one hi
    have:=(one hc).2
    refine ⟨toQ ⟨0,0,0⟩,by simp [qs],?_,rfl⟩
    rw [this];rfl
  · have:=(one hc).2
    rw [this]
    decide
  · have:=(one hj).2;cases this
  · have:=(one hj).2;cases this
  · obtain ⟨_,rfl⟩:=one hi;exact .init
theorem KO {t:Tsk} (hs:SmallOk t) (lim:Int):∃ r,BI t lim=some (r,⟨0⟩)∧ResU t (max lim 0) r∧(r.verdict≠3→∀ lim',r.expanded≤lim'→BI t lim'=some (r,⟨0⟩)):=by
  obtain ⟨reg,b1,b2,b3⟩:=LY hs.ok
  have unf:∀ l,BI t l=bnd (lop (uniF t l) (([0]:List Int),[false],1,0,(⟨t,reg,some ⟨t⟩⟩:Spc),(⟨[(⟨0,0,0⟩:Itm)]⟩:BQ))) uniE:=fun l=>by
    rw [MB,b1,AB,if_neg (by simp),AB]
  obtain ⟨f,f1,f0,f2,f3,f4⟩:=u_all hs lim _ _ _ _ _ (No b2 b3) (by dsimp only;omega) (Nat.lt_succ_self _)
  refine ⟨outU f,by rw [unf,f1,AB,f0],f2,fun hv lim' hl=>?_⟩
  rw [unf,f4 lim' hv hl,AB,f0]
end
section
open Go Go.RowKit
def CostI (t:Tsk) (d:List Int):Prop:=d.length=(statesL t.vars).length∧∀ (i:Nat) s,(statesL t.vars)[i]?=some s→∃ c,d[i]?=some c∧0≤c∧c≤Inf∧(c < Inf→∃ p,PlanR t t.init p s c)∧(s=t.init→c=0)
def CostP (t:Tsk) (d:List Int):Prop:=CostI t d∧∀ (i:Nat) s c p C,(statesL t.vars)[i]?=some s→d[i]?=some c→PlanR t t.init p s C→c≤C
theorem Np {n:Nat} (hn:n≤1000000):(bnd (mkI 8 (0:Int) (n:Int)) fun u=>bnd (rngN (ρ:=List Int) (fun (k:Nat) (s:(List Int))=>bnd (s[k]?) fun _=>some (.next (s.set k 1125899906842624))) u.length u) fun r=>some r)=some (.done (List.replicate n Inf)):=by
  rw [Ir (by omega) (by omega),AB,List.length_replicate]
  rw [Ja (fun k=>List.replicate k Inf ++ List.replicate (n - k) 0) (by simp) (fun k hk=>?_),AB]
  · simp
  · have e:(List.replicate k Inf ++ List.replicate (n - k) 0)[k]?=some 0:=by
      rw [List.getElem?_append_right (by simp),List.getElem?_replicate,if_pos (by simp;omega)]
    rw [e,AB]
    congr 2
    apply List.ext_getElem?
    intro j
    rcases Nat.lt_trichotomy j k with h|h|h
    · rw [List.getElem?_set_ne (by omega),List.getElem?_append_left (by simp;omega),List.getElem?_append_left (by simp;omega)]
      rw [List.getElem?_replicate,List.getElem?_replicate,if_pos (by omega),if_pos (by omega)]
    · subst h
      rw [List.getElem?_set_self (by simp;omega),List.getElem?_append_left (by simp)]
      simp [Inf]
    · rw [List.getElem?_set_ne (by omega),List.getElem?_append_right (by simp;omega),List.getElem?_append_right (by simp;omega)]
      simp only [List.length_replicate,List.getElem?_replicate]
      by_cases hj:j < n
      · rw [if_pos (by omega),if_pos (by omega)]
      · rw [if_neg (by omega),if_neg (by omega)]
noncomputable def cstG (t:Tsk):Edg→(List Int)×Bool→Option (Ctl ((List Int)×Bool) (Ctl ((List Int)×Bool) (List Int))):=fun a146 s143=>bnd (bnd (atI s143.1 a146.src) fun a181=>if a181 < 1125899906842624 then (bnd (atI s143.1 a146.src) fun a194=>bnd (atI t.ops a146.op) fun a206=>bnd (chkI (a194 + a206.cost)) fun n227=>bnd (atI s143.1 a146.dst) fun a230=>if n227 < a230 then (some true) else (some false)) else (some false):Option Bool) fun y177=>if y177=true then (bnd (atI s143.1 a146.src) fun a248=>bnd (atI t.ops a146.op) fun a260=>bnd (chkI (a248 + a260.cost)) fun n281=>bnd (atI s143.1 a146.dst) fun _=>some (.next ((s143.1.set (a146.dst:Int).toNat n281),true))) else (some (.next (s143.1,s143.2)))
noncomputable def cstF (t:Tsk) (es:List Edg):(List Int)×Bool→Option (Ctl ((List Int)×Bool) (List Int)):=fun s121=>if s121.2=true then (bnd (rng (ρ:=Ctl ((List Int)×Bool) (List Int)) (fun (_:Nat) (a:Edg) (s:(List Int)×Bool)=>cstG t a s) es 0 (s121.1,false)) fun res141=>fin res141 fun (s302:(List Int)×Bool)=>some (.next (s302.1,s302.2))) else (some (.brk (s121.1,s121.2)))
theorem MD (t:Tsk):DK t=bnd (DN t.vars 512) fun q24=>bnd (mkI 8 (0:Int) q24) fun u32=>bnd (rngN (ρ:=(List Int)) (fun (k51:Nat) (s49:(List Int))=>bnd (s49[k51]?) fun _=>some (.next (s49.set k51 1125899906842624))) u32.length u32) fun res47=>fin res47 fun (s86:(List Int))=>bnd (Cx t.vars t.init) fun q88=>bnd (atI s86 q88) fun _=>bnd (Db t) fun q110=>bnd (lop (cstF t q110) ((s86.set (q88:Int).toNat 0),true)) fun res119=>fin res119 fun (s308:(List Int)×Bool)=>some s308.1:=rfl
theorem LZ {t:Tsk} (h:SmallOk t):∃ d,DK t=some d∧CostP t d:=by
  have hok:=h.ok
  have hlen:(statesL t.vars).length≤512:=h.many
  obtain ⟨i0,i1,i2⟩:=HH h hok.2.2.2.1
  have hil:=AJ i2
  obtain ⟨u,u1,hu⟩:=bs (Np (n:=(statesL t.vars).length) (by omega))
  obtain ⟨w,w1,w2⟩:=bs hu
  obtain rfl:=sm w2
  obtain ⟨es,he,hes⟩:=JF h
  have hat:atI (List.replicate (statesL t.vars).length Inf) (i0:Int)=some Inf:=by rw [Bk];simp [hil]
  rw [MD,Mu h (by omega),AB,u1,AB,w1,AB,fin_d,i1,AB,hat,AB,he,AB,Int.toNat_natCast]
  have hd0:CostI t ((List.replicate (statesL t.vars).length Inf).set i0 0):=by
    refine ⟨by simp,fun i s hi=>?_⟩
    have hi':=AJ hi
    by_cases e:i0=i
    · subst e
      rw [i2] at hi
      obtain rfl:=Option.some.inj hi
      exact ⟨0,by rw [List.getElem?_set_self (by simp;exact hi')],by omega,by unfold Inf;omega,fun _=>⟨[],.nil⟩,fun _=>rfl⟩
    · refine ⟨Inf,by rw [List.getElem?_set_ne e];simp [hi'],by unfold Inf;omega,Int.le_refl _,fun hh=>by omega,fun hh=>?_⟩
      subst hh
      exact absurd (EY hok i2 hi) e
  have pass : ∀ d,CostI t d→∃ (d':List Int) (b:Bool),rng (ρ:=Ctl ((List Int)×Bool) (List Int)) (fun (_:Nat) (a:Edg) (s:(List Int)×Bool)=>cstG t a s) es 0 (d,false)=some (.done (d',b))∧CostI t d'∧(b=true→sumN d' < sumN d)∧(b=false→d'=d∧∀ e∈es,∀ (i k j:Nat) o x y,e=⟨i,k,j⟩→t.ops[k]?=some o→d[i]?=some x→d[j]?=some y→x < Inf→y≤x + o.cost):=by
    intro d hd
    obtain ⟨⟨d',b⟩,g1,g2,g3,g4⟩:=Ed (ρ:=Ctl ((List Int)×Bool) (List Int)) (f:=fun (_:Nat) (a:Edg) (s:(List Int)×Bool)=>cstG t a s) (xs:=es) (s₀:=(d,false))
      (fun m r=>CostI t r.1∧(r.2=true→sumN r.1 < sumN d)∧(r.2=false→r.1=d∧∀ e∈es.take m,∀ (i k j:Nat) o x y,e=⟨i,k,j⟩→t.ops[k]?=some o→d[i]?=some x→d[j]?=some y→x < Inf→y≤x + o.cost)) ⟨hd,fun hh=>by simp at hh,fun _=>⟨rfl,fun e he=>by simp at he⟩⟩ (fun m e r hm hI=>by
        obtain ⟨i1,i2,i3⟩:=hI
        obtain ⟨r1,r2⟩:=r
        simp only at i1 i2 i3
        obtain ⟨i,k,j,s,o,rfl,a1,a2,a3,a4⟩:=(hes e).1 (List.mem_of_getElem? hm)
        obtain ⟨x,x1,x2,x3,x4,x5⟩:=i1.2 i s a1
        obtain ⟨y,y1,y2,y3,y4,y5⟩:=i1.2 j _ a4
        have hco:=hok.2.2.2.2.2 k o a2
        have hc1:=hco.1
        have hc2:=hco.2.1
        unfold cstG
        simp only
        rw [Bk,x1,AB]
        have keep:∀ (hx:x < Inf→y≤x + o.cost),CostI t r1∧(r2=true→sumN r1 < sumN d)∧(r2=false→r1=d∧∀ e∈es.take (m + 1),∀ (i k j:Nat) o x y,e=⟨i,k,j⟩→t.ops[k]?=some o→d[i]?=some x→d[j]?=some y→x < Inf→y≤x + o.cost):=fun hx=>by
          refine ⟨i1,i2,fun hf=>⟨(i3 hf).1,fun e' he'=>?_⟩⟩
          obtain ⟨e1,e2⟩:=i3 hf
          rcases (Ic hm).1 he' with hh|rfl
          · exact e2 e' hh
          · intro i' k' j' o' x' y' hE ho' hx' hy' hlt
            injection hE with h1 h2 h3
            obtain rfl:i=i':=by omega
            obtain rfl:k=k':=by omega
            obtain rfl:j=j':=by omega
            obtain rfl:o=o':=by rw [a2] at ho';exact Option.some.inj ho'
            rw [← e1,x1] at hx'
            rw [← e1,y1] at hy'
            obtain rfl:=Option.some.inj hx'
            obtain rfl:=Option.some.inj hy'
            exact hx hlt
        by_cases hy:x < 1125899906842624
        · rw [if_pos hy,AB,Bk,a2,AB,Bp (by unfold inI64;unfold Inf at *;omega),AB,Bk,y1,AB]
          by_cases hx:x + o.cost < y
          · rw [if_pos hx,AB,if_t,AB,AB,Bp (by unfold inI64;unfold Inf at *;omega),AB,AB]
            refine ⟨_,rfl,⟨by simpa using i1.1,fun i' s' hs'=>?_⟩,fun _=>?_,fun hh=>by simp at hh⟩
            · show ∃ c,(r1.set ((j:Int)).toNat (x + o.cost))[i']?=some c∧_
              rw [show ((j:Int)).toNat=j from by omega]
              by_cases e:j=i'
              · subst e
                obtain rfl:succ o s=s':=by rw [a4] at hs';exact Option.some.inj hs'
                refine ⟨_,by rw [List.getElem?_set_self (AJ y1)],by omega,by omega,fun _=>?_,fun hg=>?_⟩
                · obtain ⟨p,hp⟩:=x4 hy;exact ⟨_,hp.snoc a2 a3⟩
                · have:=y5 hg;omega
              · rw [List.getElem?_set_ne e];exact i1.2 i' s' hs'
            · show sumN (r1.set ((j:Int)).toNat (x + o.cost)) < _
              rw [show ((j:Int)).toNat=j from by omega]
              have hlt:=Ib r1 j y (x + o.cost) y1 (by omega) hx
              cases hr:r2 with
              | true=>have:=i2 hr;omega
              | false=>rw [(i3 hr).1] at hlt;rwa [(i3 hr).1]
          · rw [if_neg hx,AB,if_f]
            exact ⟨_,rfl,keep fun _=>by omega⟩
        · rw [if_neg hy,AB,if_f]
          exact ⟨_,rfl,keep fun hh=>absurd hh hy⟩)
    refine ⟨d',b,g1,g2,g3,fun hb=>?_⟩
    obtain ⟨e1,e2⟩:=g4 hb
    rw [List.take_length] at e2
    exact ⟨e1,e2⟩
  obtain ⟨⟨d,b⟩,l1,l2,l3⟩:=Lo (ρ:=List Int) (f:=cstF t es)
    (fun s=>CostI t s.1∧(s.2=false→∀ e∈es,∀ (i k j:Nat) o x y,e=⟨i,k,j⟩→t.ops[k]?=some o→s.1[i]?=some x→s.1[j]?=some y→x < Inf→y≤x + o.cost))
    (fun s=>CostI t s.1∧∀ e∈es,∀ (i k j:Nat) o x y,e=⟨i,k,j⟩→t.ops[k]?=some o→s.1[i]?=some x→s.1[j]?=some y→x < Inf→y≤x + o.cost)
    (fun s=>2 * sumN s.1 + if s.2=true then 1 else 0) (fun s hI=>by
      obtain ⟨d,b⟩:=s
      obtain ⟨i1,i2⟩:=hI
      unfold cstF
      cases b with
      | false=>exact .inr ⟨_,rfl,i1,i2 rfl⟩
      | true =>
        left
        obtain ⟨d',b',g1,g2,g3,g4⟩:=pass d i1
        refine ⟨(d',b'),by dsimp only;rw [if_t,g1,AB,fin_d],⟨g2,fun hb=>?_⟩,?_⟩
        · obtain ⟨rfl,e2⟩:=g4 hb;exact e2
        · dsimp only
          cases b' with
          | true=>have:=g3 rfl;simp;omega
          | false=>obtain ⟨rfl,_⟩:=g4 rfl;simp) ((List.replicate (statesL t.vars).length Inf).set i0 0,true) ⟨hd0,fun hh=>by cases hh⟩
  rw [l1,AB,fin_d]
  refine ⟨d,rfl,l2,?_⟩
  have least:∀ {s0 p s:List Int} {C:Int},PlanR t s0 p s C→StateOk t.vars s0→∀ (a b:Nat) x y,(statesL t.vars)[a]?=some s0→(statesL t.vars)[b]?=some s→d[a]?=some x→d[b]?=some y→y≤x + C:=by
    intro s0 p s C hp
    induction hp with
    | nil =>
      intro _ a b x y ha hb hx hy
      have:=EY hok ha hb
      subst this
      rw [hx] at hy
      have:=Option.some.inj hy
      omega
    | @cons s0 rest s' k o C ho hpre hr ih =>
      intro hs0 a b x y ha hb hx hy
      have hs1:=Fw hok hs0 ho
      obtain ⟨m,hm⟩:=List.getElem?_of_mem (En.2 hs1)
      obtain ⟨z,z1,z2,z3,_⟩:=l2.2 m _ hm
      have hC:=(hr.bound hok).1
      have hoc:=(hok.2.2.2.2.2 k o ho).1
      have hyI:y≤Inf:=by
        obtain ⟨y',q1,_,q3,_⟩:=l2.2 b _ hb
        rw [hy] at q1
        have:=Option.some.inj q1
        omega
      have:=ih hs1 m b z y hm hb z1 hy
      by_cases hxI:x < Inf
      · have:=l3 ⟨a,k,m⟩ ((hes _).2 ⟨a,k,m,s0,o,rfl,ha,ho,hpre,hm⟩) a k m o x z rfl ho hx z1 hxI
        omega
      · omega
  intro i s c p C hi hc hp
  obtain ⟨c0,q1,_,_,_,q5⟩:=l2.2 i0 t.init i2
  have:=least hp hok.2.2.2.1 i0 i c0 c i2 hi q1 hc
  have:=q5 rfl
  omega
end
section
open Go Go.RowKit
attribute [local irreducible] ewp owp hwp hwq hws Ev Evg Fn retPost loud loudS Res1
attribute [local irreducible] hwx loudX
noncomputable def CP (x0:Tsk) (x1:Int):Option Bool :=
  bnd (bnd (FC x0) fun q29=>if q29=true then bnd (CR) fun q36=>if q36=true then some false else some true else some true:Option Bool) fun y25=>if y25=true then (bnd (bnd (CR) fun q52=>if q52=true then some true else some false:Option Bool) fun y48=>some y48) else (bnd (BI x0 x1) fun q63=>if q63.2.n≠0 then (some false) else (bnd (Er x0) fun q91=>bnd (DK x0) fun q99=>bnd (rng (ρ:=Bool) (fun (k114:Nat) (a115:Int) (s112:Int×Int)=>bnd (bnd (if a115 < 1125899906842624 then (if a115 < q91 then (some true) else (some false)) else (some false):Option Bool) fun y142=>if y142=true then (bnd (chkI (s112.1 + 1)) fun n153=>some n153) else (some s112.1):Option Int) fun y137=>bnd (if a115 < 1125899906842624 then (if a115≤q91 then (some true) else (some false)) else (some false):Option Bool) fun y160=>if y160=true then (bnd (chkI (s112.2 + 1)) fun n171=>some (.next (y137,n171))) else (some (.next (y137,s112.2)))) q99 0 (0,0)) fun res110=>fin res110 fun (s178:Int×Int)=>bnd (if q63.1.expanded < 0 then (some true) else (if (max x1 0) < q63.1.expanded then (some true) else (if s178.2 < q63.1.expanded then (some true) else (some false))):Option Bool) fun y180=>if y180=true then (some false) else (if q63.1.verdict=3 then (bnd (if (max x1 0) < s178.2 then (if (q63.1.plan.length:Int)=0 then (if q63.1.cost=0 then (some true) else (some false)) else (some false)) else (some false):Option Bool) fun y193=>some y193) else (bnd (if s178.1≤(max x1 0) then (bnd (Cn x0 q63.1 q91) fun q211=>if q211=true then some true else some false) else (some false):Option Bool) fun y206=>some y206))))
theorem Gp {w:World} {A:Nat→Prop} (hA:∀ k,A k→k < w.heap.size) {vx0:Value} {x0:Tsk} (hx0:Vb w A vx0 x0) {x1:Int} (rx1:inI64 x1) {r:Bool} (hm:CP x0 x1=some r) :
    Fn Try.prog 6 [vx0,(.int .i64 x1)] w fun v w'=>Ext w w'∧Vb w' (upA A w w') v r:=by
 obtain ⟨O,hB,hA0⟩:=enter hA
 replace hx0:=hx0.mono hA0
 obtain ⟨cs3,rfl,v4,v5,v6,v7,rfl,h8,h11,h14,h17⟩:=hx0
 obtain ⟨A9,c10,rfl⟩:=h8.form
 obtain ⟨A12,c13,rfl⟩:=h11.form
 obtain ⟨A15,c16,rfl⟩:=h14.form
 obtain ⟨A18,c19,rfl⟩:=h17.form
 refine AL Try.func6 rfl Try.ntmps6 rfl ?_
 unfold CP at hm
 refine Ah (Ae (l_box 2 O rfl rfl fun g20 w21 O22 S23 h24=>?_))
 replace h24:Lc 2 w21 O22 g20 26 [(.slice A9 x0.vars.length c10),(.slice A12 x0.init.length c13),(.slice A15 x0.goal.length c16),(.slice A18 x0.ops.length c19)]:=h24
 refine o_as rfl rfl (o_z ?_)
 refine Ah (Ah ?_)
 obtain ⟨y25,hy26,hm⟩:=bs hm
 refine AM (fun l' w'=>∃ (x28:Unit) (O':Lab),subs l' [(1,(.int .i64 x1)),(2,(.pointer (some ⟨g20,0,none⟩))),(19,(.bool y25))]∧Bs w A w' O'∧Lc 2 w' O' g20 26 [(.slice A9 x0.vars.length c10),(.slice A12 x0.init.length c13),(.slice A15 x0.goal.length c16),(.slice A18 x0.ops.length c19)]∧Vb w' (Fr 0 w' O') (.slice A9 x0.vars.length c10) x0.vars∧Vb w' (Fr 0 w' O') (.slice A12 x0.init.length c13) x0.init∧Vb w' (Fr 0 w' O') (.slice A15 x0.goal.length c16) x0.goal∧Vb w' (Fr 0 w' O') (.slice A18 x0.ops.length c19) x0.ops) ?_ ?_
 ·
  refine Ae (o_la (hl:=rfl) (hc:=(h24.1).cellsAt) rfl rfl ?_)
  obtain ⟨q29,e30,hy26⟩:=bs hy26
  replace h8:=h8.st S23
  replace h11:=h11.st S23
  replace h14:=h14.st S23
  replace h17:=h17.st S23
  refine BK (O:=O22) (A:=All w21) (R:=fun w' F v=>Vb w' F v q29) (JB (fun _ h=>h) (Vb.mono (F:=Fr 0 w21 O22) (Vb.ofAgg (cs:=[(.slice A9 x0.vars.length c10),(.slice A12 x0.init.length c13),(.slice A15 x0.goal.length c16),(.slice A18 x0.ops.length c19)]) (x:=x0) rfl ⟨_,_,_,_,rfl,h8,h11,h14,h17⟩) Fr.lt) e30) rfl rfl fun v35 w31 O32 S33 h34=>?_
  obtain rfl:=h34.bool
  cases q29
  case false =>
   replace hy26:=iF hy26
   refine o_nf rfl rfl (o_mv rfl rfl (AD rfl rfl rfl rfl (AD rfl rfl rfl rfl (o_pt rfl rfl rfl (o_z ?_)))))
   obtain rfl:=sm hy26
   replace hB:=(hB.st S23).st S33
   replace h8:=h8.st S33
   replace h11:=h11.st S33
   replace h14:=h14.st S33
   replace h17:=h17.st S33
   replace h24:=h24.st S33
   exact ⟨(),_,⟨rfl,rfl,rfl,trivial⟩,hB,h24,h8,h11,h14,h17⟩
  replace hy26:=iT hy26
  refine o_nt rfl rfl (o_mv rfl rfl (AE rfl rfl ?_))
  obtain ⟨q36,e37,hy26⟩:=bs hy26
  refine BK (O:=O32) (A:=All w31) (R:=fun w' F v=>Vb w' F v q36) (GX (fun _ h=>h)  e37) rfl rfl fun v42 w38 O39 S40 h41=>?_
  obtain rfl:=h41.bool
  cases q36
  case false =>
   replace hy26:=iF hy26
   refine AE rfl rfl (o_nf rfl rfl (o_pf rfl rfl rfl (o_z ?_)))
   obtain rfl:=sm hy26
   replace hB:=((hB.st S23).st S33).st S40
   replace h8:=(h8.st S33).st S40
   replace h11:=(h11.st S33).st S40
   replace h14:=(h14.st S33).st S40
   replace h17:=(h17.st S33).st S40
   replace h24:=(h24.st S33).st S40
   exact ⟨(),_,⟨rfl,rfl,rfl,trivial⟩,hB,h24,h8,h11,h14,h17⟩
  replace hy26:=iT hy26
  refine AE rfl rfl (o_nt rfl rfl (o_pf rfl rfl rfl (o_z ?_)))
  obtain rfl:=sm hy26
  replace hB:=((hB.st S23).st S33).st S40
  replace h8:=(h8.st S33).st S40
  replace h11:=(h11.st S33).st S40
  replace h14:=(h14.st S33).st S40
  replace h17:=(h17.st S33).st S40
  replace h24:=(h24.st S33).st S40
  exact ⟨(),_,⟨rfl,rfl,rfl,trivial⟩,hB,h24,h8,h11,h14,h17⟩
 replace hB:=hB.st S23
 replace h8:=h8.st S23
 replace h11:=h11.st S23
 replace h14:=h14.st S23
 replace h17:=h17.st S23
 rintro l43 w44 ⟨x28,O45,hs46,hB,h24,h8,h11,h14,h17⟩
 refine AO _ hs46 ?_
 refine BP rfl (fun c47=>?_) (fun c47=>?_)
 ·
  replace hm:=ip hm c47
  refine Ah ?_
  obtain ⟨y48,hy49,hm⟩:=bs hm
  refine AM (fun l' w'=>∃ (x51:Unit) (O':Lab),subs l' [(4,(.bool y48))]∧Bs w A w' O') ?_ ?_
  ·
   refine Ae ?_
   obtain ⟨q52,e53,hy49⟩:=bs hy49
   refine BK (O:=O45) (A:=All w44) (R:=fun w' F v=>Vb w' F v q52) (GX (fun _ h=>h)  e53) rfl rfl fun v58 w54 O55 S56 h57=>?_
   obtain rfl:=h57.bool
   cases q52
   case false =>
    replace hy49:=iF hy49
    refine o_as rfl rfl (o_z ?_)
    obtain rfl:=sm hy49
    replace hB:=hB.st S56
    exact ⟨(),_,⟨rfl,trivial⟩,hB⟩
   replace hy49:=iT hy49
   refine o_as rfl rfl (o_z ?_)
   obtain rfl:=sm hy49
   replace hB:=hB.st S56
   exact ⟨(),_,⟨rfl,trivial⟩,hB⟩
  rintro l59 w60 ⟨x51,O61,hs62,hB⟩
  refine AO _ hs62 ?_
  refine Au ?_
  obtain rfl:=sm hm
  exact ret1v rfl (AG rfl) ⟨hB.ext,vBool⟩
 ·
  replace hm:=im' hm c47
  refine Am (Ah (Ae (o_la (hl:=rfl) (hc:=(h24.1).cellsAt) rfl rfl ?_)))
  refine o_mv rfl rfl ?_
  obtain ⟨q63,e64,hm⟩:=bs hm
  refine Cf (O:=O45) (R:=fun w' F v=>T2 w' F v q63) (Fm Fr.lt (Vb.ofAgg (cs:=[(.slice A9 x0.vars.length c10),(.slice A12 x0.init.length c13),(.slice A15 x0.goal.length c16),(.slice A18 x0.ops.length c19)]) (x:=x0) rfl ⟨_,_,_,_,rfl,h8,h11,h14,h17⟩) rx1 e64) rfl rfl fun v69 w65 O66 S67 h68=>?_
  obtain ⟨v70,v71,rfl,h72,h73⟩:=h68
  obtain ⟨cs74,rfl,v75,rfl,h76,r79,r80,r81⟩:=h72
  obtain ⟨A77,c78,rfl⟩:=h76.form
  obtain ⟨rfl,r82⟩:=h73.err
  refine o_mv rfl rfl (o_ex rfl rfl rfl (o_ex rfl rfl rfl (BY 3 O66 rfl fun g83 w84 O85 S86 h87=>?_)))
  refine AV h87 rfl rfl rfl (Nat.le_of_ble_eq_true rfl) (by first|exact allOne rfl|simp [Value.cells,Value.oneCell',AQ]) fun w88 S89 h87=>?_
  replace h87:Lc 3 w88 O85 g83 30 [(.int .i64 q63.1.verdict),(.slice A77 q63.1.plan.length c78),(.int .i64 q63.1.cost),(.int .i64 q63.1.expanded)]:=h87
  refine o_as rfl rfl (o_z ?_)
  refine Ah (Ah (Ae (o_mv rfl rfl (o_rnS rfl rfl (fun c90=>?_) fun c90=>?_))))
  ·
   replace hm:=ip hm c90
   refine o_z ?_
   refine Ar rfl (Ah (Ae (o_as rfl rfl (o_z ?_))))
   refine Au ?_
   obtain rfl:=sm hm
   replace hB:=((hB.st S67).st S86).st S89
   exact ret1v rfl (AG rfl) ⟨hB.ext,vBool⟩
  ·
   replace hm:=im hm c90
   refine o_z ?_
   refine Aj rfl (Am (Ah (Ae ?_)))
   replace h24:=((h24.st S67).st S86).st S89
   refine o_la (hl:=rfl) (hc:=(h24.1).cellsAt) rfl rfl ?_
   obtain ⟨q91,e92,hm⟩:=bs hm
   replace h8:=((h8.st S67).st S86).st S89
   replace h11:=((h11.st S67).st S86).st S89
   replace h14:=((h14.st S67).st S86).st S89
   replace h17:=((h17.st S67).st S86).st S89
   refine BK (O:=O85) (A:=All w88) (R:=fun w' F v=>Vb w' F v q91) (Kd (fun _ h=>h) (Vb.mono (F:=Fr 0 w88 O85) (Vb.ofAgg (cs:=[(.slice A9 x0.vars.length c10),(.slice A12 x0.init.length c13),(.slice A15 x0.goal.length c16),(.slice A18 x0.ops.length c19)]) (x:=x0) rfl ⟨_,_,_,_,rfl,h8,h11,h14,h17⟩) Fr.lt) e92) rfl rfl fun v97 w93 O94 S95 h96=>?_
   obtain ⟨rfl,r98⟩:=h96.int
   refine o_as rfl rfl (o_z ?_)
   refine Ah (Ae (o_as rfl rfl (o_as rfl rfl (o_z ?_))))
   refine Ah (Ah (Ae ?_))
   replace h24:=h24.st S95
   refine o_la (hl:=rfl) (hc:=(h24.1).cellsAt) rfl rfl ?_
   obtain ⟨q99,e100,hm⟩:=bs hm
   replace h8:=h8.st S95
   replace h11:=h11.st S95
   replace h14:=h14.st S95
   replace h17:=h17.st S95
   refine Cf (O:=O94) (R:=fun w' F v=>Vb w' F v q99) (Jl Fr.lt (Vb.ofAgg (cs:=[(.slice A9 x0.vars.length c10),(.slice A12 x0.init.length c13),(.slice A15 x0.goal.length c16),(.slice A18 x0.ops.length c19)]) (x:=x0) rfl ⟨_,_,_,_,rfl,h8,h11,h14,h17⟩) e100) rfl rfl fun v105 w101 O102 S103 h104=>?_
   obtain ⟨A106,c107,rfl⟩:=h104.form
   refine o_ln rfl rfl ?_
   have l109:q99.length≤9223372036854775807:=Nat.le_trans h104.len.2.1 h104.len.2.2
   have r108:inI64 (q99.length:Int):=rngNat l109
   refine o_mv rfl rfl (o_z ?_)
   obtain ⟨res110,hL111,hm⟩:=bs hm
   refine AM (aft res110 (fun (s112:Int×Int) (x113:Unit)=>[(1,(.int .i64 x1)),(2,(.pointer (some ⟨g20,0,none⟩))),(5,(.pointer (some ⟨g83,0,none⟩))),(7,(.int .i64 q91)),(8,(.int .i64 s112.1)),(9,(.int .i64 s112.2))]) (fun s112 x113 w'=>∃ O':Lab,Bs w A w' O'∧Lc 2 w' O' g20 26 [(.slice A9 x0.vars.length c10),(.slice A12 x0.init.length c13),(.slice A15 x0.goal.length c16),(.slice A18 x0.ops.length c19)]∧Vb w' (Fr 0 w' O') (.slice A9 x0.vars.length c10) x0.vars∧Vb w' (Fr 0 w' O') (.slice A12 x0.init.length c13) x0.init∧Vb w' (Fr 0 w' O') (.slice A15 x0.goal.length c16) x0.goal∧Vb w' (Fr 0 w' O') (.slice A18 x0.ops.length c19) x0.ops∧Lc 3 w' O' g83 30 [(.int .i64 q63.1.verdict),(.slice A77 q63.1.plan.length c78),(.int .i64 q63.1.cost),(.int .i64 q63.1.expanded)]∧Vb w' (Fr 0 w' O') (.slice A77 q63.1.plan.length c78) q63.1.plan∧inI64 s112.1∧inI64 s112.2)) ?_ ?_
   ·
    refine Al ?_
    replace hB:=((((hB.st S67).st S86).st S89).st S95).st S103
    replace h8:=h8.st S103
    replace h11:=h11.st S103
    replace h14:=h14.st S103
    replace h17:=h17.st S103
    replace h24:=h24.st S103
    replace h76:=(((h76.st S86).st S89).st S95).st S103
    replace h87:=(h87.st S95).st S103
    refine BF (σ:=Int×Int) (X:=Unit) (q99.length) hL111 rfl l109 (fun (s112:Int×Int) (x113:Unit)=>[(1,(.int .i64 x1)),(2,(.pointer (some ⟨g20,0,none⟩))),(5,(.pointer (some ⟨g83,0,none⟩))),(7,(.int .i64 q91)),(8,(.int .i64 s112.1)),(9,(.int .i64 s112.2)),(32,(.slice A106 q99.length c107))]) _ (fun s112 x113 w'=>∃ O':Lab,Bs w A w' O'∧Lc 2 w' O' g20 26 [(.slice A9 x0.vars.length c10),(.slice A12 x0.init.length c13),(.slice A15 x0.goal.length c16),(.slice A18 x0.ops.length c19)]∧Vb w' (Fr 0 w' O') (.slice A9 x0.vars.length c10) x0.vars∧Vb w' (Fr 0 w' O') (.slice A12 x0.init.length c13) x0.init∧Vb w' (Fr 0 w' O') (.slice A15 x0.goal.length c16) x0.goal∧Vb w' (Fr 0 w' O') (.slice A18 x0.ops.length c19) x0.ops∧Lc 3 w' O' g83 30 [(.int .i64 q63.1.verdict),(.slice A77 q63.1.plan.length c78),(.int .i64 q63.1.cost),(.int .i64 q63.1.expanded)]∧Vb w' (Fr 0 w' O') (.slice A77 q63.1.plan.length c78) q63.1.plan∧Vb w' (Fr 0 w' O') (.slice A106 q99.length c107) q99∧inI64 s112.1∧inI64 s112.2) _ () ⟨O102,hB,h24,h8,h11,h14,h17,h87,h76,h104,(show inI64 (0) from by decide),(show inI64 (0) from by decide)⟩ ⟨rfl,rfl,rfl,rfl,rfl,rfl,rfl,rfl,rfl,trivial⟩ (fun _ _=>⟨rfl,rfl⟩) (fun _ _=>⟨rfl,rfl,rfl,rfl,rfl,rfl,trivial⟩) (fun _ _ _ ⟨O',hB,h24,h8,h11,h14,h17,h87,h76,h104,r127,r128⟩=>⟨O',hB,h24,h8,h11,h14,h17,h87,h76,r127,r128⟩) ⟨rfl,rfl,rfl⟩ ⟨rfl,rfl⟩ ?_
    rintro k114 a115 s112 x113 w116 cc118 hx119 ⟨O117,hB,h24,h8,h11,h14,h17,h87,h76,h104,r127,r128⟩ hf120 hret121 hbrk122
    have rk114:inI64 (k114:Int):=rngK hx119 l109
    refine Ah (Ae ?_)
    obtain ⟨b129,o130,ce131,hA132,hl133,hd134,rfl,r136⟩:=h104.elem' hx119
    refine o_iaE (hA:=hA132) (hj:=rfl) (hlt:=hl133) rfl rfl rfl ?_
    refine o_ld (hc:=cat0 hd134) rfl rfl ?_
    refine o_as rfl rfl (o_z ?_)
    refine Ah ?_
    obtain ⟨y137,hy138,hf120⟩:=bs hf120
    refine AM (fun l' w'=>∃ (x140:Unit) (O':Lab),subs l' [(1,(.int .i64 x1)),(2,(.pointer (some ⟨g20,0,none⟩))),(5,(.pointer (some ⟨g83,0,none⟩))),(7,(.int .i64 q91)),(8,(.int .i64 y137)),(9,(.int .i64 s112.2)),(11,(.int .i64 a115)),(32,(.slice A106 q99.length c107)),(33,(.int .i64 (q99.length:Int))),(34,(.int .i64 (k114:Int)))]∧Bs w A w' O'∧Lc 2 w' O' g20 26 [(.slice A9 x0.vars.length c10),(.slice A12 x0.init.length c13),(.slice A15 x0.goal.length c16),(.slice A18 x0.ops.length c19)]∧Vb w' (Fr 0 w' O') (.slice A9 x0.vars.length c10) x0.vars∧Vb w' (Fr 0 w' O') (.slice A12 x0.init.length c13) x0.init∧Vb w' (Fr 0 w' O') (.slice A15 x0.goal.length c16) x0.goal∧Vb w' (Fr 0 w' O') (.slice A18 x0.ops.length c19) x0.ops∧Lc 3 w' O' g83 30 [(.int .i64 q63.1.verdict),(.slice A77 q63.1.plan.length c78),(.int .i64 q63.1.cost),(.int .i64 q63.1.expanded)]∧Vb w' (Fr 0 w' O') (.slice A77 q63.1.plan.length c78) q63.1.plan∧Vb w' (Fr 0 w' O') (.slice A106 q99.length c107) q99∧inI64 y137) ?_ ?_
    ·
     refine Ah ?_
     obtain ⟨y142,hy143,hy138⟩:=bs hy138
     refine AM (fun l' w'=>∃ (x145:Unit) (O':Lab),subs l' [(1,(.int .i64 x1)),(2,(.pointer (some ⟨g20,0,none⟩))),(5,(.pointer (some ⟨g83,0,none⟩))),(7,(.int .i64 q91)),(8,(.int .i64 s112.1)),(9,(.int .i64 s112.2)),(11,(.int .i64 a115)),(32,(.slice A106 q99.length c107)),(33,(.int .i64 (q99.length:Int))),(34,(.int .i64 (k114:Int))),(44,(.bool y142))]∧Bs w A w' O'∧Lc 2 w' O' g20 26 [(.slice A9 x0.vars.length c10),(.slice A12 x0.init.length c13),(.slice A15 x0.goal.length c16),(.slice A18 x0.ops.length c19)]∧Vb w' (Fr 0 w' O') (.slice A9 x0.vars.length c10) x0.vars∧Vb w' (Fr 0 w' O') (.slice A12 x0.init.length c13) x0.init∧Vb w' (Fr 0 w' O') (.slice A15 x0.goal.length c16) x0.goal∧Vb w' (Fr 0 w' O') (.slice A18 x0.ops.length c19) x0.ops∧Lc 3 w' O' g83 30 [(.int .i64 q63.1.verdict),(.slice A77 q63.1.plan.length c78),(.int .i64 q63.1.cost),(.int .i64 q63.1.expanded)]∧Vb w' (Fr 0 w' O') (.slice A77 q63.1.plan.length c78) q63.1.plan∧Vb w' (Fr 0 w' O') (.slice A106 q99.length c107) q99) ?_ ?_
     ·
      refine Ae (o_mv rfl rfl (o_ltS rfl rfl rfl (fun c146=>?_) fun c146=>?_))
      ·
       replace hy143:=ip hy143 c146
       refine o_mv rfl rfl (AE rfl rfl (o_mv rfl rfl (AE rfl rfl (o_mv rfl rfl (AE rfl rfl (o_ltS rfl rfl rfl (fun c147=>?_) fun c147=>?_))))))
       ·
        replace hy143:=ip hy143 c147
        refine o_pt rfl rfl rfl (o_z ?_)
        obtain rfl:=sm hy143
        exact ⟨(),_,⟨rfl,rfl,rfl,rfl,rfl,rfl,rfl,rfl,rfl,rfl,rfl,trivial⟩,hB,h24,h8,h11,h14,h17,h87,h76,h104⟩
       ·
        replace hy143:=im hy143 c147
        refine o_pt rfl rfl rfl (o_z ?_)
        obtain rfl:=sm hy143
        exact ⟨(),_,⟨rfl,rfl,rfl,rfl,rfl,rfl,rfl,rfl,rfl,rfl,rfl,trivial⟩,hB,h24,h8,h11,h14,h17,h87,h76,h104⟩
      ·
       replace hy143:=im hy143 c146
       refine o_mv rfl rfl (AD rfl rfl rfl rfl (AD rfl rfl rfl rfl (AD rfl rfl rfl rfl (o_pf rfl rfl rfl (o_z ?_)))))
       obtain rfl:=sm hy143
       exact ⟨(),_,⟨rfl,rfl,rfl,rfl,rfl,rfl,rfl,rfl,rfl,rfl,rfl,trivial⟩,hB,h24,h8,h11,h14,h17,h87,h76,h104⟩
     rintro l148 w149 ⟨x145,O150,hs151,hB,h24,h8,h11,h14,h17,h87,h76,h104⟩
     refine AO _ hs151 ?_
     refine BP rfl (fun c152=>?_) (fun c152=>?_)
     ·
      replace hy138:=ip hy138 c152
      refine Ae (o_mv rfl rfl ?_)
      obtain ⟨n153,e154,hy138⟩:=bs hy138
      have r155:=(Ba e154)
      refine o_adE (he:=e154) rfl rfl rfl ?_
      refine o_as rfl rfl (o_z ?_)
      obtain rfl:=sm hy138
      exact ⟨(),_,⟨rfl,rfl,rfl,rfl,rfl,rfl,rfl,rfl,rfl,rfl,trivial⟩,hB,h24,h8,h11,h14,h17,h87,h76,h104,r155⟩
     ·
      replace hy138:=im' hy138 c152
      refine Am ?_
      obtain rfl:=sm hy138
      exact ⟨(),_,⟨rfl,rfl,rfl,rfl,rfl,rfl,rfl,rfl,rfl,rfl,trivial⟩,hB,h24,h8,h11,h14,h17,h87,h76,h104,r127⟩
    rintro l156 w157 ⟨x140,O158,hs159,hB,h24,h8,h11,h14,h17,h87,h76,h104,r141⟩
    refine AO _ hs159 ?_
    refine Ah ?_
    obtain ⟨y160,hy161,hf120⟩:=bs hf120
    refine AM (fun l' w'=>∃ (x163:Unit) (O':Lab),subs l' [(1,(.int .i64 x1)),(2,(.pointer (some ⟨g20,0,none⟩))),(5,(.pointer (some ⟨g83,0,none⟩))),(7,(.int .i64 q91)),(8,(.int .i64 y137)),(9,(.int .i64 s112.2)),(32,(.slice A106 q99.length c107)),(33,(.int .i64 (q99.length:Int))),(34,(.int .i64 (k114:Int))),(53,(.bool y160))]∧Bs w A w' O'∧Lc 2 w' O' g20 26 [(.slice A9 x0.vars.length c10),(.slice A12 x0.init.length c13),(.slice A15 x0.goal.length c16),(.slice A18 x0.ops.length c19)]∧Vb w' (Fr 0 w' O') (.slice A9 x0.vars.length c10) x0.vars∧Vb w' (Fr 0 w' O') (.slice A12 x0.init.length c13) x0.init∧Vb w' (Fr 0 w' O') (.slice A15 x0.goal.length c16) x0.goal∧Vb w' (Fr 0 w' O') (.slice A18 x0.ops.length c19) x0.ops∧Lc 3 w' O' g83 30 [(.int .i64 q63.1.verdict),(.slice A77 q63.1.plan.length c78),(.int .i64 q63.1.cost),(.int .i64 q63.1.expanded)]∧Vb w' (Fr 0 w' O') (.slice A77 q63.1.plan.length c78) q63.1.plan∧Vb w' (Fr 0 w' O') (.slice A106 q99.length c107) q99) ?_ ?_
    ·
     refine Ae (o_mv rfl rfl (o_ltS rfl rfl rfl (fun c164=>?_) fun c164=>?_))
     ·
      replace hy161:=ip hy161 c164
      refine o_mv rfl rfl (AE rfl rfl (o_mv rfl rfl (AE rfl rfl (o_mv rfl rfl (AE rfl rfl (o_leS rfl rfl rfl (fun c165=>?_) fun c165=>?_))))))
      ·
       replace hy161:=ip hy161 c165
       refine o_pt rfl rfl rfl (o_z ?_)
       obtain rfl:=sm hy161
       exact ⟨(),_,⟨rfl,rfl,rfl,rfl,rfl,rfl,rfl,rfl,rfl,rfl,trivial⟩,hB,h24,h8,h11,h14,h17,h87,h76,h104⟩
      ·
       replace hy161:=im hy161 c165
       refine o_pt rfl rfl rfl (o_z ?_)
       obtain rfl:=sm hy161
       exact ⟨(),_,⟨rfl,rfl,rfl,rfl,rfl,rfl,rfl,rfl,rfl,rfl,trivial⟩,hB,h24,h8,h11,h14,h17,h87,h76,h104⟩
     ·
      replace hy161:=im hy161 c164
      refine o_mv rfl rfl (AD rfl rfl rfl rfl (AD rfl rfl rfl rfl (AD rfl rfl rfl rfl (o_pf rfl rfl rfl (o_z ?_)))))
      obtain rfl:=sm hy161
      exact ⟨(),_,⟨rfl,rfl,rfl,rfl,rfl,rfl,rfl,rfl,rfl,rfl,trivial⟩,hB,h24,h8,h11,h14,h17,h87,h76,h104⟩
    rintro l166 w167 ⟨x163,O168,hs169,hB,h24,h8,h11,h14,h17,h87,h76,h104⟩
    refine AO _ hs169 ?_
    refine BP rfl (fun c170=>?_) (fun c170=>?_)
    ·
     replace hf120:=ip hf120 c170
     refine Ae (o_mv rfl rfl ?_)
     obtain ⟨n171,e172,hf120⟩:=bs hf120
     have r173:=(Ba e172)
     refine o_adE (he:=e172) rfl rfl rfl ?_
     refine o_as rfl rfl (o_z ?_)
     obtain rfl:=sm hf120
     refine (?_:Exists _)
     exact ⟨_,(),rfl,⟨rfl,rfl,rfl,rfl,rfl,rfl,rfl,rfl,rfl,trivial⟩,_,hB,h24,h8,h11,h14,h17,h87,h76,h104,r141,r173⟩
    ·
     replace hf120:=im' hf120 c170
     refine Am ?_
     obtain rfl:=sm hf120
     refine (?_:Exists _)
     exact ⟨_,(),rfl,⟨rfl,rfl,rfl,rfl,rfl,rfl,rfl,rfl,rfl,trivial⟩,_,hB,h24,h8,h11,h14,h17,h87,h76,h104,r141,r128⟩
   replace hB:=((((hB.st S67).st S86).st S89).st S95).st S103
   replace h8:=h8.st S103
   replace h11:=h11.st S103
   replace h14:=h14.st S103
   replace h17:=h17.st S103
   replace h24:=h24.st S103
   replace h76:=(((h76.st S86).st S89).st S95).st S103
   replace h87:=(h87.st S95).st S103
   rintro l174 w175 ⟨s178,x179,rfl,hs177,O176,hB,h24,h8,h11,h14,h17,h87,h76,r127,r128⟩
   replace hm:=AW hm
   refine AO _ hs177 ?_
   refine Ah (Ae (o_mv rfl rfl (o_max rfl rfl rfl ?_)))
   refine o_as rfl rfl (o_z ?_)
   refine Ah (Ah ?_)
   obtain ⟨y180,hy181,hm⟩:=bs hm
   refine AM (fun l' w'=>∃ (x183:Unit) (O':Lab),subs l' [(2,(.pointer (some ⟨g20,0,none⟩))),(5,(.pointer (some ⟨g83,0,none⟩))),(7,(.int .i64 q91)),(8,(.int .i64 s178.1)),(9,(.int .i64 s178.2)),(12,(.int .i64 (max x1 0))),(73,(.bool y180))]∧Bs w A w' O'∧Lc 2 w' O' g20 26 [(.slice A9 x0.vars.length c10),(.slice A12 x0.init.length c13),(.slice A15 x0.goal.length c16),(.slice A18 x0.ops.length c19)]∧Vb w' (Fr 0 w' O') (.slice A9 x0.vars.length c10) x0.vars∧Vb w' (Fr 0 w' O') (.slice A12 x0.init.length c13) x0.init∧Vb w' (Fr 0 w' O') (.slice A15 x0.goal.length c16) x0.goal∧Vb w' (Fr 0 w' O') (.slice A18 x0.ops.length c19) x0.ops∧Lc 3 w' O' g83 30 [(.int .i64 q63.1.verdict),(.slice A77 q63.1.plan.length c78),(.int .i64 q63.1.cost),(.int .i64 q63.1.expanded)]∧Vb w' (Fr 0 w' O') (.slice A77 q63.1.plan.length c78) q63.1.plan) ?_ ?_
   ·
    refine Ae (o_fa rfl rfl (o_ld (hc:=Blk.cell (i:=3) (h87.1) rfl) rfl rfl ?_))
    refine o_ltS rfl rfl rfl (fun c184=>?_) fun c184=>?_
    ·
     replace hy181:=ip hy181 c184
     refine o_mv rfl rfl (AD rfl rfl rfl rfl (AD rfl rfl rfl rfl (AD rfl rfl rfl rfl (AD rfl rfl rfl rfl (o_pt rfl rfl rfl (o_mv rfl rfl (AD rfl rfl rfl rfl (AD rfl rfl rfl rfl (AD rfl rfl rfl rfl (AD rfl rfl rfl rfl (o_pt rfl rfl rfl (o_z ?_))))))))))))
     obtain rfl:=sm hy181
     exact ⟨(),_,⟨rfl,rfl,rfl,rfl,rfl,rfl,rfl,trivial⟩,hB,h24,h8,h11,h14,h17,h87,h76⟩
    ·
     replace hy181:=im hy181 c184
     refine o_mv rfl rfl (AE rfl rfl (o_fa rfl rfl (AE rfl rfl (o_ld (hc:=Blk.cell (i:=3) (h87.1) rfl) rfl rfl ?_))))
     refine AE rfl rfl (o_mv rfl rfl (AE rfl rfl (o_gtS rfl rfl rfl (fun c185=>?_) fun c185=>?_)))
     ·
      replace hy181:=ip hy181 c185
      refine o_pf rfl rfl rfl (o_mv rfl rfl (AD rfl rfl rfl rfl (AD rfl rfl rfl rfl (AD rfl rfl rfl rfl (AD rfl rfl rfl rfl (o_pt rfl rfl rfl (o_z ?_)))))))
      obtain rfl:=sm hy181
      exact ⟨(),_,⟨rfl,rfl,rfl,rfl,rfl,rfl,rfl,trivial⟩,hB,h24,h8,h11,h14,h17,h87,h76⟩
     ·
      replace hy181:=im hy181 c185
      refine o_pf rfl rfl rfl (o_mv rfl rfl (AE rfl rfl (o_fa rfl rfl (AE rfl rfl (o_ld (hc:=Blk.cell (i:=3) (h87.1) rfl) rfl rfl ?_)))))
      refine AE rfl rfl (o_mv rfl rfl (AE rfl rfl (o_gtS rfl rfl rfl (fun c186=>?_) fun c186=>?_)))
      ·
       replace hy181:=ip hy181 c186
       refine o_pf rfl rfl rfl (o_z ?_)
       obtain rfl:=sm hy181
       exact ⟨(),_,⟨rfl,rfl,rfl,rfl,rfl,rfl,rfl,trivial⟩,hB,h24,h8,h11,h14,h17,h87,h76⟩
      ·
       replace hy181:=im hy181 c186
       refine o_pf rfl rfl rfl (o_z ?_)
       obtain rfl:=sm hy181
       exact ⟨(),_,⟨rfl,rfl,rfl,rfl,rfl,rfl,rfl,trivial⟩,hB,h24,h8,h11,h14,h17,h87,h76⟩
   rintro l187 w188 ⟨x183,O189,hs190,hB,h24,h8,h11,h14,h17,h87,h76⟩
   refine AO _ hs190 ?_
   refine BP rfl (fun c191=>?_) (fun c191=>?_)
   ·
    replace hm:=ip hm c191
    refine Ah (Ae (o_as rfl rfl (o_z ?_)))
    refine Au ?_
    obtain rfl:=sm hm
    exact ret1v rfl (AG rfl) ⟨hB.ext,vBool⟩
   ·
    replace hm:=im' hm c191
    refine Am (Ah (Ah (Ae (o_fa rfl rfl (o_ld (hc:=Blk.cell (i:=0) (h87.1) rfl) rfl rfl ?_)))))
    refine o_eeS rfl rfl rfl (fun c192=>?_) fun c192=>?_
    ·
     replace hm:=ip hm c192
     refine o_z ?_
     refine Ar rfl (Ah ?_)
     obtain ⟨y193,hy194,hm⟩:=bs hm
     refine AM (fun l' w'=>∃ (x196:Unit) (O':Lab),subs l' [(4,(.bool y193))]∧Bs w A w' O') ?_ ?_
     ·
      refine Ae (o_mv rfl rfl (o_mv rfl rfl (o_ltS rfl rfl rfl (fun c197=>?_) fun c197=>?_)))
      ·
       replace hy194:=ip hy194 c197
       refine o_mv rfl rfl (AE rfl rfl (o_fa rfl rfl (AE rfl rfl (o_ld (hc:=Blk.cell (i:=1) (h87.1) rfl) rfl rfl ?_))))
       refine AE rfl rfl (o_ln rfl rfl ?_)
       have l199:q63.1.plan.length≤9223372036854775807:=Nat.le_trans h76.len.2.1 h76.len.2.2
       have r198:inI64 (q63.1.plan.length:Int):=rngNat l199
       refine AE rfl rfl (o_eeS rfl rfl rfl (fun c200=>?_) fun c200=>?_)
       ·
        replace hy194:=ip hy194 c200
        refine o_pt rfl rfl rfl (o_mv rfl rfl (AE rfl rfl (o_fa rfl rfl (AE rfl rfl (o_ld (hc:=Blk.cell (i:=2) (h87.1) rfl) rfl rfl ?_)))))
        refine AE rfl rfl (o_eeS rfl rfl rfl (fun c201=>?_) fun c201=>?_)
        ·
         replace hy194:=ip hy194 c201
         refine o_pt rfl rfl rfl (o_as rfl rfl (o_z ?_))
         obtain rfl:=sm hy194
         exact ⟨(),_,⟨rfl,trivial⟩,hB⟩
        ·
         replace hy194:=im hy194 c201
         refine o_pt rfl rfl rfl (o_as rfl rfl (o_z ?_))
         obtain rfl:=sm hy194
         exact ⟨(),_,⟨rfl,trivial⟩,hB⟩
       ·
        replace hy194:=im hy194 c200
        refine o_pt rfl rfl rfl (o_mv rfl rfl (AD rfl rfl rfl rfl (AD rfl rfl rfl rfl (AD rfl rfl rfl rfl (o_pf rfl rfl rfl (o_as rfl rfl (o_z ?_)))))))
        obtain rfl:=sm hy194
        exact ⟨(),_,⟨rfl,trivial⟩,hB⟩
      ·
       replace hy194:=im hy194 c197
       refine o_mv rfl rfl (AD rfl rfl rfl rfl (AD rfl rfl rfl rfl (AD rfl rfl rfl rfl (AD rfl rfl rfl rfl (o_pf rfl rfl rfl (o_mv rfl rfl (AD rfl rfl rfl rfl (AD rfl rfl rfl rfl (AD rfl rfl rfl rfl (o_pf rfl rfl rfl (o_as rfl rfl (o_z ?_))))))))))))
       obtain rfl:=sm hy194
       exact ⟨(),_,⟨rfl,trivial⟩,hB⟩
     rintro l202 w203 ⟨x196,O204,hs205,hB⟩
     refine AO _ hs205 ?_
     refine Au ?_
     obtain rfl:=sm hm
     exact ret1v rfl (AG rfl) ⟨hB.ext,vBool⟩
    ·
     replace hm:=im hm c192
     refine o_z ?_
     refine Aj rfl (Am (Ah ?_))
     obtain ⟨y206,hy207,hm⟩:=bs hm
     refine AM (fun l' w'=>∃ (x209:Unit) (O':Lab),subs l' [(4,(.bool y206))]∧Bs w A w' O') ?_ ?_
     ·
      refine Ae (o_mv rfl rfl (o_mv rfl rfl (o_geS rfl rfl rfl (fun c210=>?_) fun c210=>?_)))
      ·
       replace hy207:=ip hy207 c210
       refine o_mv rfl rfl (AE rfl rfl (o_la (hl:=rfl) (hc:=(h24.1).cellsAt) rfl rfl ?_))
       refine AE rfl rfl (o_la (hl:=rfl) (hc:=(h87.1).cellsAt) rfl rfl ?_)
       refine AE rfl rfl (o_mv rfl rfl (AE rfl rfl ?_))
       obtain ⟨q211,e212,hy207⟩:=bs hy207
       refine BK (O:=O189) (A:=All w188) (R:=fun w' F v=>Vb w' F v q211) (GU (fun _ h=>h) (Vb.mono (F:=Fr 0 w188 O189) (Vb.ofAgg (cs:=[(.slice A9 x0.vars.length c10),(.slice A12 x0.init.length c13),(.slice A15 x0.goal.length c16),(.slice A18 x0.ops.length c19)]) (x:=x0) rfl ⟨_,_,_,_,rfl,h8,h11,h14,h17⟩) Fr.lt) (Vb.mono (F:=Fr 0 w188 O189) (Vb.ofAgg (cs:=[(.int .i64 q63.1.verdict),(.slice A77 q63.1.plan.length c78),(.int .i64 q63.1.cost),(.int .i64 q63.1.expanded)]) (x:=q63.1) rfl ⟨_,rfl,h76,r79,r80,r81⟩) Fr.lt) r98 e212) rfl rfl fun v217 w213 O214 S215 h216=>?_
       obtain rfl:=h216.bool
       cases q211
       case false =>
        replace hy207:=iF hy207
        refine o_pt rfl rfl rfl (o_as rfl rfl (o_z ?_))
        obtain rfl:=sm hy207
        replace hB:=hB.st S215
        exact ⟨(),_,⟨rfl,trivial⟩,hB⟩
       replace hy207:=iT hy207
       refine o_pt rfl rfl rfl (o_as rfl rfl (o_z ?_))
       obtain rfl:=sm hy207
       replace hB:=hB.st S215
       exact ⟨(),_,⟨rfl,trivial⟩,hB⟩
      ·
       replace hy207:=im hy207 c210
       refine o_mv rfl rfl (AD rfl rfl rfl rfl (AD rfl rfl rfl rfl (AD rfl rfl rfl rfl (AD rfl rfl rfl rfl (o_pf rfl rfl rfl (o_as rfl rfl (o_z ?_)))))))
       obtain rfl:=sm hy207
       exact ⟨(),_,⟨rfl,trivial⟩,hB⟩
     rintro l218 w219 ⟨x209,O220,hs221,hB⟩
     refine AO _ hs221 ?_
     refine Au ?_
     obtain rfl:=sm hm
     exact ret1v rfl (AG rfl) ⟨hB.ext,vBool⟩
end
section
open Go Go.RowKit
def Le {α:Type} (x y:Option α):Prop:=∀ r,x=some r→y=some r
theorem Le.rf {α:Type} {x:Option α}:Le x x:=fun _ h=>h
theorem Le.bnd {α β:Type} {x x':Option α} {f f':α→Option β} (h:Le x x') (hf:∀ a,Le (f a) (f' a)):Le (bnd x f) (bnd x' f'):=fun r hr=>by
  obtain ⟨a,ha,hb⟩:=bs hr
  rw [h a ha,AB]
  exact hf a r hb
theorem Le.ite {α:Type} {p:Prop} [Decidable p] {x x' y y':Option α} (h:Le x x') (k:Le y y'):Le (if p then x else y) (if p then x' else y'):=by
  by_cases hp:p
  · rw [if_pos hp,if_pos hp];exact h
  · rw [if_neg hp,if_neg hp];exact k
theorem Le.fin {σ κ:Type} {y:Fin σ κ} {f f':σ→Option κ} (hf:∀ a,Le (f a) (f' a)):Le (fin y f) (fin y f'):=by
  cases y with
  | done s=>exact hf s
  | ret c=>exact Le.rf
theorem Le.rng {α σ ρ:Type} {f f':Nat→α→σ→Option (Ctl σ ρ)} (hf:∀ k a s,Le (f k a s) (f' k a s)):∀ {xs:List α} {k:Nat} {s:σ},Le (rng f xs k s) (rng f' xs k s)
  | [],_,_=>Le.rf
  | x :: xs,k,s=>fun r hr=>by
    simp only [Proofs.Ythomfnkaicjmbaa.rng] at hr ⊢
    cases hc:f k x s with
    | none=>rw [hc] at hr;cases hr
    | some c =>
      rw [hc] at hr
      rw [hf k x s c hc]
      cases c with
      | next s'=>exact Le.rng hf r hr
      | brk s'=>exact hr
      | ret q=>exact hr
theorem Le.rngN {σ ρ:Type} {f f':Nat→σ→Option (Ctl σ ρ)} {n:Nat} {s:σ} (hf:∀ k s,Le (f k s) (f' k s)):Le (rngN f n s) (rngN f' n s):=Le.rng fun _ k s=>hf k s
theorem Le.itr {σ ρ:Type} {f f':σ→Option (Ctl σ ρ)} (hf:∀ s,Le (f s) (f' s)):∀ (n:Nat) (s:σ),Le (itr f n s) (itr f' n s)
  | 0,_=>Le.rf
  | n + 1,s=>fun r hr=>by
    simp only [Proofs.Ythomfnkaicjmbaa.itr] at hr ⊢
    cases hc:f s with
    | none=>rw [hc] at hr;cases hr
    | some c =>
      rw [hc] at hr
      rw [hf s c hc]
      cases c with
      | next s'=>exact Le.itr hf n s' r hr
      | brk s'=>exact hr
      | ret q=>exact hr
def lopE {σ ρ:Type} (f:σ→Option (Ctl σ ρ)) (s:σ):Option (Fin σ ρ):=itr f 600 s
theorem Le.lop {σ ρ:Type} {f f':σ→Option (Ctl σ ρ)} {s:σ} (hf:∀ s,Le (f s) (f' s)):Le (lopE f s) (lop f' s):=fun r hr=>FA.2 ⟨600,Le.itr hf 600 s r hr⟩
end
section
open Go Go.RowKit
def factB (vars:List Int) (x:Fct):Bool:=decide (0≤x.var) && (decide (0≤x.val) && (match vars[x.var.toNat]? with|some y=>decide (x.val < y)|none=>false))
theorem JR {vars:List Int} {x:Fct} (h:factB vars x=true):FactOk vars x:=by
  unfold factB at h
  simp only [Bool.and_eq_true,decide_eq_true_eq] at h
  obtain ⟨h1,h2,h3⟩:=h
  cases hv:vars[x.var.toNat]? with
  | none=>rw [hv] at h3;cases h3
  | some y=>rw [hv] at h3;exact ⟨h1,h2,y,hv,by simpa using h3⟩
def ascB:List Fct→Bool
  | x :: y :: r=>decide (x.var < y.var) && ascB (y :: r)
  | _=>true
theorem KB:∀ {f:List Fct},ascB f=true→∀ (i:Nat) x y,f[i]?=some x→f[i + 1]?=some y→x.var < y.var
  | [],_,i,x,y,h,_=>by simp at h
  | [_],_,i,x,y,_,h=>by simp at h
  | a :: b :: r,h,i,x,y,h1,h2=>by
    simp only [ascB,Bool.and_eq_true,decide_eq_true_eq] at h
    cases i with
    | zero=>simp at h1 h2;subst h1;subst h2;exact h.1
    | succ i=>exact KB h.2 i x y (by simpa using h1) (by simpa using h2)
def factsB (vars:List Int) (f:List Fct):Bool:=f.all (factB vars) && ascB f
theorem HB {vars:List Int} {f:List Fct} (h:factsB vars f=true):FactsOk vars f:=by
  unfold factsB at h
  rw [Bool.and_eq_true,List.all_eq_true] at h
  exact ⟨fun i x hx=>JR (h.1 x (List.mem_of_getElem? hx)),KB h.2⟩
def stateB:List Int→List Int→Bool
  | [],[]=>true
  | y :: vars,x :: s=>decide (0≤x) && (decide (x < y) && stateB vars s)
  | _,_=>false
theorem HC:∀ {vars s:List Int},stateB vars s=true→StateOk vars s
  | [],[],_=>⟨rfl,fun i x y h=>by simp at h⟩
  | y :: vars,x :: s,h=>by
    simp only [stateB,Bool.and_eq_true,decide_eq_true_eq] at h
    obtain ⟨h1,h2⟩:=HC h.2.2
    refine ⟨by simp [h1],fun i a b ha hb=>?_⟩
    cases i with
    | zero=>simp at ha hb;subst ha;subst hb;exact ⟨h.1,h.2.1⟩
    | succ i=>exact h2 i a b (by simpa using ha) (by simpa using hb)
  | [],_ :: _,h=>by simp [stateB] at h
  | _ :: _,[],h=>by simp [stateB] at h
def nameB (s:ByteArray):Bool:=decide (s.size≤256) && s.data.toList.all fun c=>decide (32≤c.toNat) && decide (c.toNat≤126)
theorem Ma {s:ByteArray} (h:nameB s=true):NameOk s:=by
  unfold nameB at h
  simp only [Bool.and_eq_true,decide_eq_true_eq,List.all_eq_true] at h
  refine ⟨h.1,fun i hi=>h.2 _ ?_⟩
  show s.data[i]∈_
  simp
def opB (vars:List Int) (o:Opr):Bool:=decide (0≤o.cost) && (decide (o.cost≤1048576) && (decide (o.effs.length≤64) && (nameB o.name && (factsB vars o.pre && o.effs.all fun e=>factsB vars e.cond && factB vars ⟨e.var,e.val⟩))))
theorem Nq {vars:List Int} {o:Opr} (h:opB vars o=true):OpOk vars o:=by
  unfold opB at h
  simp only [Bool.and_eq_true,decide_eq_true_eq,List.all_eq_true] at h
  obtain ⟨h1,h2,h3,h4,h5,h6⟩:=h
  exact ⟨h1,h2,h3,Ma h4,HB h5,fun i e he=>⟨HB (h6 e (List.mem_of_getElem? he)).1,JR (h6 e (List.mem_of_getElem? he)).2⟩⟩
def taskB (t:Tsk):Bool:=decide (t.vars.length≤64) && (decide (t.ops.length≤4096) && ((t.vars.all fun n=>decide (1≤n) && decide (n≤64)) && (stateB t.vars t.init && (factsB t.vars t.goal && t.ops.all (opB t.vars)))))
theorem Mb {t:Tsk} (h:taskB t=true):TaskOk t:=by
  unfold taskB at h
  simp only [Bool.and_eq_true,decide_eq_true_eq,List.all_eq_true] at h
  obtain ⟨h1,h2,h3,h4,h5,h6⟩:=h
  exact ⟨h1,h2,fun i n hn=>h3 n (List.mem_of_getElem? hn),HC h4,HB h5,fun i o ho=>Nq (h6 o (List.mem_of_getElem? ho))⟩
def Ga (x y:List Int):Option Bool:=some (decide (x=y))
theorem JS (x y:List Int):Le (Ga x y) (EX x y):=fun r h=>by
  unfold Ga at h
  unfold EX
  rw [← h]
  by_cases hx:x=y
  · rw [bof_t hx];simp [hx]
  · rw [bof_f hx];simp [hx]
def EK (f:List Fct) (s:List Int):Option Bool:=Cy f s
theorem Fi (f:List Fct) (s:List Int):Le (EK f s) (Cy f s):=Le.rf
def EL (f:List Fct) (s:List Int):Option Bool:=Cu f s
theorem GZ (f:List Fct) (s:List Int):Le (EL f s) (Cu f s):=Le.rf
def Ee (x:List Int):Option (List Int):=Cp x
theorem FH (x:List Int):Le (Ee x) (Cp x):=Le.rf
end
end Go.Proofs.Ythomfnkaicjmbaa

/- Own text: what the proof of breadthLimits_holds uses, part 3: rules, models and their proofs, plain laws. -/
import Derived.Test.YthomfnkaicjmbaaPLimB
set_option linter.unusedVariables false
set_option linter.unusedSimpArgs false
namespace Go.Proofs.Ythomfnkaicjmbaa
open Go Go.RowKit
section
open Go Go.RowKit
attribute [local irreducible] ewp owp hwp hwq hws Ev Evg Fn retPost loud loudS Res1
attribute [local irreducible] hwx loudX
instance:TMap Try.prog 116 3 22:=⟨Try.underlying116⟩
instance:TKey Try.prog 3 Int:=⟨Try.underlying3⟩
structure RLk where
  parent:Int
  op:Int
  cost:Int
structure REn where
  words:List U64
  link:RLk
instance:Rp REn where
  isAgg:=true
  size:=4
  R w F cs x:=∃ v0,cs=[v0,.int .i64 x.link.parent,.int .i64 x.link.op,.int .i64 x.link.cost]∧Vb w F v0 x.words∧inI64 x.link.parent∧inI64 x.link.op∧inI64 x.link.cost
  len:=by rintro w F cs x ⟨v0,rfl,h0,h1,h2,h3⟩;rfl
  one:=by rintro w F cs x ⟨v0,rfl,h0,h1,h2,h3⟩ u hu;simp at hu;rcases hu with rfl|rfl|rfl|rfl<;>first|rfl|exact Vb.one rfl (by assumption)
  agree:=by rintro w w' F cs x ⟨v0,rfl,h0,h1,h2,h3⟩ ha;exact ⟨v0,rfl,h0.agree ha,h1,h2,h3⟩
  mono:=by rintro w F G cs x ⟨v0,rfl,h0,h1,h2,h3⟩ ha;exact ⟨v0,rfl,h0.mono ha,h1,h2,h3⟩
structure Reg where
  packer:Pkr
  entries:List REn
  table:MapR 3 Int Int
instance:Ow Reg where
  R w F M v x:=∃ (g:Nat) (L:Lab) (c0 c1 c2:Value),v=.pointer (some ⟨g,0,none⟩)∧Blk w g 118 [c0,c1,c2]∧M g∧L g=0∧Ow.R w F (fun k=>M k∧L k=1) c0 x.packer∧RwM w F (fun k=>M k∧L k=2) 125 c1 x.entries∧Ow.R w F (fun k=>M k∧L k=3) c2 x.table
  agree:=by rintro w w' F M v x ⟨g,L,c0,c1,c2,rfl,hb,hM,hL,h0,h1,h2⟩ a1 a2;exact ⟨g,L,c0,c1,c2,rfl,hb.keep (a2 g hM),hM,hL,Ow.agree h0 a1 fun k hk=>a2 k hk.1,h1.agree a1 fun k hk=>a2 k hk.1,Ow.agree h2 a1 fun k hk=>a2 k hk.1⟩
  mono:=by rintro w F M F' M' v x ⟨g,L,c0,c1,c2,rfl,hb,hM,hL,h0,h1,h2⟩ a1 a2 a3;exact ⟨g,L,c0,c1,c2,rfl,hb,a2 g hM,hL,Ow.mono h0 a1 (fun k hk=>⟨a2 k hk.1,hk.2⟩) fun k hf hm=>a3 k hf hm.1,h1.mono a1 (fun k hk=>⟨a2 k hk.1,hk.2⟩) fun k hf hm=>a3 k hf hm.1,Ow.mono h2 a1 (fun k hk=>⟨a2 k hk.1,hk.2⟩) fun k hf hm=>a3 k hf hm.1⟩
instance:OwP Reg:=⟨by rintro w F M v x ⟨g,L,c0,c1,c2,rfl,_⟩;exact ⟨g,rfl⟩⟩
theorem Reg.opn {i:Nat} {w:World} {O:Lab} {p:Nat} {x:Reg} (h:Ob i w O (.pointer (some ⟨p,0,none⟩)) x) (l0 l1 l2 l3:Nat) (hl:l0≠0∧l1≠0∧l2≠0∧l3≠0):∃ (O':Lab) (c0 c1 c2:Value),St (eT i) w O w O'∧(∀ k,Fr i w O k→∃ q,q∈[l0,l1,l2,l3]∧Fr q w O' k)∧Lc l0 w O' p 118 [c0,c1,c2]∧Ob l1 w O' c0 x.packer∧Rw l2 w O' 125 c1 x.entries∧Ob l3 w O' c2 x.table:=by
  obtain ⟨⟨g,L,c0,c1,c2,hv,hb,hM,hL,h0,h1,h2⟩,hi⟩:=h
  obtain rfl:p=g:=by injection hv with hv;injection hv with hv;injection hv
  exact ⟨part O i L [l0,l1,l2,l3],c0,c1,c2,HF hi,Gx (by simp),⟨hb,(DM (j:=0) rfl p ⟨hM,hL⟩).2⟩,⟨Ow.mono h0 (Da hi) (DM (j:=1) rfl) (frNe0 hl.2.1),hl.2.1⟩,h1.rw (Da hi) (DM (j:=2) rfl) hl.2.2.1,⟨Ow.mono h2 (Da hi) (DM (j:=3) rfl) (frNe0 hl.2.2.2),hl.2.2.2⟩⟩
theorem Reg.shut {w:World} {O:Lab} {p:Nat} {x:Reg} {l0 l1 l2 l3:Nat} {c0 c1 c2:Value} (hd:¬ 0∈[l0,l1,l2,l3]∧[l0,l1,l2,l3].idxOf l0=0∧[l0,l1,l2,l3].idxOf l1=1∧[l0,l1,l2,l3].idxOf l2=2∧[l0,l1,l2,l3].idxOf l3=3) (hb:Lc l0 w O p 118 [c0,c1,c2]) (h0:Ob l1 w O c0 x.packer) (h1:Rw l2 w O 125 c1 x.entries) (h2:Ob l3 w O c2 x.table):∃ O',St (·∈[l0,l1,l2,l3]) w O w O'∧(∀ k,Fr 0 w O k→Fr 0 w O' k)∧(∀ q,q∈[l0,l1,l2,l3]→∀ k,Fr q w O k→Fr l0 w O' k)∧Ob l0 w O' (.pointer (some ⟨p,0,none⟩)) x:=by
  have hb1:l0≠0:=fun e=>hd.1 (by simp [e])
  have hg:=Dm (i:=l0) hd.2.1 (by simp) p ⟨hb.1.lt,hb.2⟩
  exact ⟨whole O l0 [l0,l1,l2,l3],Gy,Ck hd.1,FN,⟨p,fun k=>[l0,l1,l2,l3].idxOf (O k),c0,c1,c2,rfl,hb.1,hg.1,hg.2,Ow.mono h0.1 (Ck hd.1) (Dm hd.2.2.1 (by simp)) (fun k a b=>frNe0 hb1 k a b.1),h1.m (Ck hd.1) (Dm hd.2.2.2.1 (by simp)) (fun k a b=>frNe0 hb1 k a b.1),Ow.mono h2.1 (Ck hd.1) (Dm hd.2.2.2.2 (by simp)) (fun k a b=>frNe0 hb1 k a b.1)⟩,hb1⟩
noncomputable def CJ (x0:List Int):Option ((Option Reg)×Err) :=
  bnd (DA x0) fun q4=>if q4.2.n≠0 then (some (none,(⟨q4.2.n⟩:Err))) else (bnd q4.1 fun o22=>some ((some (⟨o22,([]:List REn),(⟨[]⟩:MapR 3 Int Int)⟩:Reg)),(⟨0⟩:Err)))
theorem IM {w:World} {O:Lab} {vx0:Value} {x0:List Int} (hx0:Vb w (Fr 0 w O) vx0 x0) (j0:Nat) (hj0:j0≠0) {r:(Option Reg)×Err} (hm:CJ x0=some r) :
    Fn Try.prog 60 [vx0] w fun v w'=>∃ O',St nT w O w' O'∧∃ v0 v1:Value,v=.tuple #[v0,v1]∧Obo j0 w' O' v0 r.1∧Vb w' (Fr 0 w' O') v1 r.2:=by
 obtain ⟨O0,hE,hz0⟩:=ent0 (w:=w) (O:=O)
 have hB:Bm w O0 w O0:=Bm.refl
 replace hx0:=hx0.mono hz0
 obtain ⟨A2,c3,rfl⟩:=hx0.form
 refine AL Try.func60 rfl Try.ntmps60 rfl ?_
 unfold CJ at hm
 refine Ah (Ae (o_as rfl rfl (o_as rfl rfl (o_z ?_))))
 refine Ah (Ae (o_mv rfl rfl ?_))
 obtain ⟨q4,e5,hm⟩:=bs hm
 refine Bh (O:=O0) (KF hx0 2 (by decide) e5) rfl rfl fun v10 w6 O7 S8 h9=>?_
 obtain ⟨v11,v12,rfl,h13,h14⟩:=h9
 obtain ⟨rfl,r15⟩:=h14.err
 refine o_mv rfl rfl (o_ex rfl rfl rfl (o_ex rfl rfl rfl (o_as rfl rfl (o_as rfl rfl (o_z ?_)))))
 refine Ah (Ah (Ae (o_mv rfl rfl (o_rnS rfl rfl (fun c16=>?_) fun c16=>?_))))
 ·
  replace hm:=ip hm c16
  refine o_z ?_
  refine Ar rfl (Ah (Ae (o_mv rfl rfl (o_as rfl rfl (o_as rfl rfl (o_z ?_))))))
  refine Au ?_
  obtain rfl:=sm hm
  replace hB:=hB.st S8
  obtain ⟨O',hS',hz,hl⟩:=hE.leave (fun _=>0) rfl hB
  exact ret2 rfl (AG rfl) (AG rfl) ⟨O',hS',_,_,rfl,rfl,(vErr r15)⟩
 ·
  replace hm:=im hm c16
  refine o_z ?_
  refine Aj rfl (Am (Ah (Ae (o_mv rfl rfl (LK (K:=Int) (V:=Int) 3 3 (by decide) O7 rfl fun p17 w18 O19 S20 h21=>?_)))))
  obtain ⟨o22,e23,hm⟩:=bs hm
  replace h13:=h13.st S20
  rw [e23] at h13
  obtain ⟨p24,rfl⟩:=Ob.ptr h13
  refine o_bd rfl rfl rfl ?_
  refine l_box 4 O19 rfl rfl fun g25 w26 O27 S28 h29=>?_
  replace h29:Lc 4 w26 O27 g25 118 [(.pointer (some ⟨p24,0,none⟩)),(.slice none 0 0),(.map (some p17))]:=h29
  refine o_as rfl rfl (o_as rfl rfl (o_z ?_))
  refine Au ?_
  have h30:Rw 5 w26 O27 125 (.slice none 0 0) ([]:List REn):=Rw.nil 5 (by decide)
  replace h13:=h13.st S28
  replace h21:=h21.st S28
  obtain ⟨O32,S33,hz35,ha36,h34⟩:=Reg.shut (x:=(⟨o22,([]:List REn),(⟨[]⟩:MapR 3 Int Int)⟩:Reg)) (l0:=4) (l1:=2) (l2:=5) (l3:=3) (by decide) h29 h13 h30 h21
  obtain rfl:=sm hm
  replace hB:=(((hB.st S8).st S20).st S28).st S33
  obtain ⟨O',hS',hz,hl⟩:=hE.leave (fun q=>if q=4 then j0 else 0) rfl hB
  exact ret2 rfl (AG rfl) (AG rfl) ⟨O',hS',_,_,rfl,(Ob.leave h34 hz (hl 4 (by decide) (by decide)) hj0),(vErr (show inI64 0 from by decide))⟩
noncomputable def Bl (x0:Reg) (x1:List Int):Option ((List U64)×Int×Int×Err) :=
  bnd (Bv x0.packer x1) fun q20=>if q20.2.n≠0 then (some (([]:List U64),0,(-1),(⟨2⟩:Err))) else (bnd (BB x0.packer q20.1) fun q41=>bnd (rng (ρ:=(List U64)×Int×Int×Err) (fun (k66:Nat) (a67:Int) (s64:Unit)=>bnd (atI x0.entries a67) fun a100=>bnd (Br a100.words q20.1) fun q118=>if q118=true then some (.ret (q20.1,q41,a67,(⟨0⟩:Err))) else some (.next ())) (mget ([]:List Int) x0.table.l q41) 0 ()) fun res62=>fin res62 fun (s139:Unit)=>some (q20.1,q41,(-1),(⟨0⟩:Err)))
theorem FD {w:World} {O:Lab} {p0 i0:Nat} {x0:Reg} (hx0:Ob i0 w O (.pointer (some ⟨p0,0,none⟩)) x0) {vx1:Value} {x1:List Int} (hx1:Vb w (Fr 0 w O) vx1 x1) {r:(List U64)×Int×Int×Err} (hm:Bl x0 x1=some r) :
    Fn Try.prog 66 [(.pointer (some ⟨p0,0,none⟩)),vx1] w fun v w'=>∃ O',St (eT i0) w O w' O'∧∃ v0 v1 v2 v3:Value,Ob i0 w' O' (.pointer (some ⟨p0,0,none⟩)) x0∧v=.tuple #[v0,v1,v2,v3]∧Vb w' (Fr 0 w' O') v0 r.1∧Vb w' (Fr 0 w' O') v1 r.2.1∧Vb w' (Fr 0 w' O') v2 r.2.2.1∧Vb w' (Fr 0 w' O') v3 r.2.2.2:=by
 obtain ⟨O0,hE,hz0,hl2⟩:=ent1 (w:=w) (O:=O) hx0.2
 have hx0':=Ob.leave hx0 hz0 hl2 (j:=2) (by decide)
 have hB:Bm w O0 w O0:=Bm.refl
 replace hx1:=hx1.mono hz0
 obtain ⟨A3,c4,rfl⟩:=hx1.form
 refine AL Try.func66 rfl Try.ntmps66 rfl ?_
 unfold Bl at hm
 refine Ah (Ae (o_as rfl rfl (o_as rfl rfl (o_as rfl rfl (o_as rfl rfl (o_z ?_))))))
 refine Ah (Ae (o_mv rfl rfl (o_nc rfl rfl ?_)))
 obtain ⟨O5,v9,v12,v17,S6,ha8,h7,h10,h13,h18⟩:=Reg.opn hx0' 2 3 4 5 (by decide)
 obtain ⟨p11,rfl⟩:=h10.ptr
 obtain ⟨A14,c15,rfl⟩:=h13.form
 obtain ⟨p19,rfl⟩:=h18.mptr
 refine o_fa rfl rfl (o_ld (hc:=Blk.cell (i:=0) (h7.1) rfl) rfl rfl ?_)
 refine o_mv rfl rfl ?_
 obtain ⟨q20,e21,hm⟩:=bs hm
 replace hx1:=hx1.st S6
 refine Bh (O:=O5) (Ho h10 hx1 e21) rfl rfl fun v26 w22 O23 S24 h25=>?_
 obtain ⟨v28,v29,h27,rfl,h30,h31⟩:=h25
 obtain ⟨A32,c33,rfl⟩:=h30.form
 obtain ⟨rfl,r34⟩:=h31.err
 refine o_mv rfl rfl (o_ex rfl rfl rfl (o_ex rfl rfl rfl (o_as rfl rfl (o_as rfl rfl (o_z ?_)))))
 refine Ah (Ah (Ae (o_mv rfl rfl (o_rnS rfl rfl (fun c35=>?_) fun c35=>?_))))
 ·
  replace hm:=ip hm c35
  refine o_z ?_
  refine Ar rfl (Ah (Ae (o_miE rfl rfl ?_)))
  refine o_as rfl rfl (o_as rfl rfl (o_as rfl rfl (o_as rfl rfl (o_z ?_))))
  refine Au ?_
  replace h7:=h7.st S24
  replace h13:=h13.st S24
  replace h18:=h18.st S24
  obtain ⟨O36,S37,hz39,ha40,h38⟩:=Reg.shut (x:=x0) (l0:=2) (l1:=3) (l2:=4) (l3:=5) (by decide) h7 h27 h13 h18
  obtain rfl:=sm hm
  replace hB:=((hB.st S6).st S24).st S37
  obtain ⟨O',hS',hz,hl⟩:=hE.leave (fun q=>if q=2 then i0 else 0) rfl hB
  exact ret4 rfl (AG rfl) (AG rfl) (AG rfl) (AG rfl) ⟨O',hS',_,_,_,_,(Ob.leave h38 hz (hl 2 (by decide) (by decide)) hx0.2),rfl,(Vb.mono (Vb.nil _ _) hz),(vInt (show inI64 (0) from by decide)),(vInt (show inI64 (-1) from by decide)),(vErr (by decide))⟩
 ·
  replace hm:=im hm c35
  refine o_z ?_
  refine Aj rfl (Am (Ah (Ae (o_mv rfl rfl (o_nc rfl rfl (o_fa rfl rfl ?_))))))
  replace h7:=h7.st S24
  refine o_ld (hc:=Blk.cell (i:=0) (h7.1) rfl) rfl rfl ?_
  refine o_mv rfl rfl ?_
  obtain ⟨q41,e42,hm⟩:=bs hm
  refine Bh (O:=O23) (Hp h27 h30 e42) rfl rfl fun v47 w43 O44 S45 h46=>?_
  obtain ⟨h48,h49⟩:=h46
  obtain ⟨rfl,r50⟩:=h49.int
  refine o_as rfl rfl (o_z ?_)
  refine Ah (Ah (Ae (o_mv rfl rfl (o_nc rfl rfl (o_fa rfl rfl ?_)))))
  replace h7:=h7.st S45
  refine o_ld (hc:=Blk.cell (i:=2) (h7.1) rfl) rfl rfl ?_
  refine o_mv rfl rfl ?_
  replace h18:=(h18.st S24).st S45
  obtain ⟨A53,c54,hl51,h52⟩:=MapR.get h18 q41
  refine o_lk q41 hl51 rfl rfl rfl ?_
  refine o_ln rfl rfl ?_
  have l56:(mget ([]:List Int) x0.table.l q41).length≤9223372036854775807:=Nat.le_trans h52.len.2.1 h52.len.2.2
  have r55:inI64 ((mget ([]:List Int) x0.table.l q41).length:Int):=rngNat l56
  refine o_mv rfl rfl (o_z ?_)
  replace h13:=(h13.st S24).st S45
  obtain ⟨O57,S58,hz60,ha61,h59⟩:=Reg.shut (x:=x0) (l0:=2) (l1:=3) (l2:=4) (l3:=5) (by decide) h7 h48 h13 h18
  replace h52:=h52.shutS S58 hz60 ha61 [2] (by decide)
  obtain ⟨res62,hL63,hm⟩:=bs hm
  refine AM (aft res62 (fun (s64:Unit) (x65:Unit)=>[(8,(.slice A32 q20.1.length c33)),(10,(.int .i64 q41))]) (fun s64 x65 w'=>∃ O':Lab,Bm w O0 w' O'∧Vb w' (Fr 0 w' O') (.slice A32 q20.1.length c33) q20.1∧Ob 2 w' O' (.pointer (some ⟨p0,0,none⟩)) x0)) ?_ ?_
  ·
   refine Al ?_
   replace hB:=(((hB.st S6).st S24).st S45).st S58
   replace h30:=(h30.st S45).st S58
   refine BF (σ:=Unit) (X:=Unit) ((mget ([]:List Int) x0.table.l q41).length) hL63 rfl l56 (fun (s64:Unit) (x65:Unit)=>[(0,(.pointer (some ⟨p0,0,none⟩))),(8,(.slice A32 q20.1.length c33)),(10,(.int .i64 q41)),(36,(.slice A53 (mget ([]:List Int) x0.table.l q41).length c54))]) _ (fun s64 x65 w'=>∃ O':Lab,Bm w O0 w' O'∧Ob 2 w' O' (.pointer (some ⟨p0,0,none⟩)) x0∧Vb w' (Fr 0 w' O') (.slice A32 q20.1.length c33) q20.1∧Vb w' (FrS [2] w' O') (.slice A53 (mget ([]:List Int) x0.table.l q41).length c54) (mget ([]:List Int) x0.table.l q41)) _ () ⟨O57,hB,h59,h30,h52⟩ ⟨rfl,rfl,rfl,rfl,rfl,rfl,trivial⟩ (fun _ _=>⟨rfl,rfl⟩) (fun _ _=>⟨rfl,rfl,trivial⟩) (fun _ _ _ ⟨O',hB,h59,h30,h52⟩=>⟨O',hB,h30,h59⟩) ⟨rfl,rfl,rfl⟩ ⟨rfl,rfl⟩ ?_
   rintro k66 a67 s64 x65 w68 cc70 hx71 ⟨O69,hB,h59,h30,h52⟩ hf72 hret73 hbrk74
   have rk66:inI64 (k66:Int):=rngK hx71 l56
   refine Ah (Ae ?_)
   obtain ⟨b77,o78,ce79,hA80,hl81,hd82,rfl,r84⟩:=h52.elem' hx71
   refine o_iaE (hA:=hA80) (hj:=rfl) (hlt:=hl81) rfl rfl rfl ?_
   refine o_ld (hc:=cat0 hd82) rfl rfl ?_
   refine o_as rfl rfl (o_z ?_)
   refine Ah (Ae (o_mv rfl rfl (o_nc rfl rfl ?_)))
   obtain ⟨O85,v89,v92,v97,S86,ha88,h87,h90,h93,h98⟩:=Reg.opn h59 2 3 4 5 (by decide)
   obtain ⟨p91,rfl⟩:=h90.ptr
   obtain ⟨A94,c95,rfl⟩:=h93.form
   obtain ⟨p99,rfl⟩:=h98.mptr
   replace h52:=h52.opnS S86 (by decide) ha88 [2,3,4,5] (by decide)
   refine o_fa rfl rfl (o_ld (hc:=Blk.cell (i:=1) (h87.1) rfl) rfl rfl ?_)
   refine o_mv rfl rfl ?_
   obtain ⟨a100,e101,hf72⟩:=bs hf72
   obtain ⟨p103,x102⟩:=AN e101
   obtain ⟨b104,o105,ce106,hA107,hl108,hd109,v111,rfl,h112,r115,r116,r117⟩:=h93.elem x102
   obtain ⟨A113,c114,rfl⟩:=h112.form
   refine o_iaE (hA:=hA107) (hj:=(Int.toNat_of_nonneg p103).symm) (hlt:=hl108) rfl rfl rfl ?_
   refine o_fa rfl rfl (o_ld (hc:=cat0 hd109) rfl rfl ?_)
   refine o_mv rfl rfl ?_
   obtain ⟨q118,e119,hf72⟩:=bs hf72
   replace h30:=h30.st S86
   refine BK (O:=O85) (A:=All w68) (R:=fun w' F v=>Vb w' F v q118) (EP (fun _ h=>h) (Vb.mono (F:=Fr 0 w68 O85) h112 Fr.lt) (Vb.mono (F:=Fr 0 w68 O85) h30 Fr.lt) e119) rfl rfl fun v124 w120 O121 S122 h123=>?_
   obtain rfl:=h123.bool
   replace h52:=h52.stS S122 id (fun _ _=>id)
   cases q118
   case false =>
    replace hf72:=iF hf72
    refine o_z ?_
    refine Aj rfl (Am ?_)
    replace h87:=h87.st S122
    replace h90:=h90.st S122
    replace h93:=h93.st S122
    replace h98:=h98.st S122
    obtain ⟨O125,S126,hz128,ha129,h127⟩:=Reg.shut (x:=x0) (l0:=2) (l1:=3) (l2:=4) (l3:=5) (by decide) h87 h90 h93 h98
    replace h52:=h52.shutS S126 hz128 ha129 [2] (by decide)
    obtain rfl:=sm hf72
    refine (?_:Exists _)
    replace hB:=((hB.st S86).st S122).st S126
    replace h30:=(h30.st S122).st S126
    exact ⟨_,(),rfl,⟨rfl,rfl,rfl,rfl,rfl,rfl,trivial⟩,_,hB,h127,h30,h52⟩
   replace hf72:=iT hf72
   refine o_z ?_
   refine Ar rfl (Ah (Ae (o_mv rfl rfl (o_mv rfl rfl (o_mv rfl rfl (o_as rfl rfl (o_as rfl rfl (o_as rfl rfl (o_as rfl rfl (o_z ?_))))))))))
   refine Au ?_
   replace h87:=h87.st S122
   replace h90:=h90.st S122
   replace h93:=h93.st S122
   replace h98:=h98.st S122
   obtain ⟨O130,S131,hz133,ha134,h132⟩:=Reg.shut (x:=x0) (l0:=2) (l1:=3) (l2:=4) (l3:=5) (by decide) h87 h90 h93 h98
   obtain rfl:=sm hf72
   obtain rfl:=hret73 _ rfl
   obtain rfl:=sm (By hm)
   replace hB:=((hB.st S86).st S122).st S131
   obtain ⟨O',hS',hz,hl⟩:=hE.leave (fun q=>if q=2 then i0 else 0) rfl hB
   replace h30:=(h30.st S122).st S131
   exact ret4 rfl (AG rfl) (AG rfl) (AG rfl) (AG rfl) ⟨O',hS',_,_,_,_,(Ob.leave h132 hz (hl 2 (by decide) (by decide)) hx0.2),rfl,(Vb.mono h30 hz),(vInt r50),(vInt r84),(vErr (show inI64 0 from by decide))⟩
  replace hB:=(((hB.st S6).st S24).st S45).st S58
  replace h30:=(h30.st S45).st S58
  rintro l135 w136 ⟨s139,x140,rfl,hs138,O137,hB,h30,h59⟩
  replace hm:=AW hm
  refine AO _ hs138 ?_
  refine Ah (Ae (o_mv rfl rfl (o_mv rfl rfl (o_as rfl rfl (o_as rfl rfl (o_as rfl rfl (o_as rfl rfl (o_z ?_))))))))
  refine Au ?_
  obtain rfl:=sm hm
  obtain ⟨O',hS',hz,hl⟩:=hE.leave (fun q=>if q=2 then i0 else 0) rfl hB
  exact ret4 rfl (AG rfl) (AG rfl) (AG rfl) (AG rfl) ⟨O',hS',_,_,_,_,(Ob.leave h59 hz (hl 2 (by decide) (by decide)) hx0.2),rfl,(Vb.mono h30 hz),(vInt r50),(vInt (show inI64 (-1) from by decide)),(vErr (show inI64 0 from by decide))⟩
noncomputable def AX (x0:Reg) (x1:List Int):Option (Int×Bool×Err×Reg) :=
  bnd (Bl x0 x1) fun q5=>if q5.2.2.2.n≠0 then (some (0,false,(⟨q5.2.2.2.n⟩:Err),x0)) else (if 0≤q5.2.2.1 then (some (q5.2.2.1,false,(⟨0⟩:Err),x0)) else (if 65536≤(x0.entries.length:Int) then (some (0,false,(⟨10⟩:Err),x0)) else (bnd (appI 48 x0.entries [(⟨q5.1,(⟨(-1),(-1),0⟩:RLk)⟩:REn)]) fun u53=>bnd (appI 8 (mget ([]:List Int) x0.table.l q5.2.1) ([(x0.entries.length:Int)]:List Int)) fun u82=>some ((x0.entries.length:Int),true,(⟨0⟩:Err),(⟨x0.packer,u53,(⟨mput x0.table.l q5.2.1 u82⟩:MapR 3 Int Int)⟩:Reg)))))
theorem CF {w:World} {O:Lab} {p0 i0:Nat} {x0:Reg} (hx0:Ob i0 w O (.pointer (some ⟨p0,0,none⟩)) x0) {vx1:Value} {x1:List Int} (hx1:Vb w (Fr 0 w O) vx1 x1) {r:Int×Bool×Err×Reg} (hm:AX x0 x1=some r) :
    Fn Try.prog 41 [(.pointer (some ⟨p0,0,none⟩)),vx1] w fun v w'=>∃ O',St (eT i0) w O w' O'∧∃ v0 v1 v2:Value,Ob i0 w' O' (.pointer (some ⟨p0,0,none⟩)) r.2.2.2∧v=.tuple #[v0,v1,v2]∧Vb w' (Fr 0 w' O') v0 r.1∧Vb w' (Fr 0 w' O') v1 r.2.1∧Vb w' (Fr 0 w' O') v2 r.2.2.1:=by
 obtain ⟨O0,hE,hz0,hl2⟩:=ent1 (w:=w) (O:=O) hx0.2
 have hx0':=Ob.leave hx0 hz0 hl2 (j:=2) (by decide)
 have hB:Bm w O0 w O0:=Bm.refl
 replace hx1:=hx1.mono hz0
 obtain ⟨A3,c4,rfl⟩:=hx1.form
 refine AL Try.func41 rfl Try.ntmps41 rfl ?_
 unfold AX at hm
 refine Ah (Ae (o_as rfl rfl (o_as rfl rfl (o_as rfl rfl (o_z ?_)))))
 refine Ah (Ah (Ae (o_mv rfl rfl (o_pn rfl rfl ?_))))
 refine o_z ?_
 refine Aj rfl (Am (Ah (Ae (o_mv rfl rfl (o_mv rfl rfl ?_)))))
 obtain ⟨q5,e6,hm⟩:=bs hm
 refine Bh (O:=O0) (FD hx0' hx1 e6) rfl rfl fun v11 w7 O8 S9 h10=>?_
 obtain ⟨v13,v14,v15,v16,h12,rfl,h17,h18,h19,h20⟩:=h10
 obtain ⟨A21,c22,rfl⟩:=h17.form
 obtain ⟨rfl,r23⟩:=h18.int
 obtain ⟨rfl,r24⟩:=h19.int
 obtain ⟨rfl,r25⟩:=h20.err
 refine o_mv rfl rfl (o_ex rfl rfl rfl (o_ex rfl rfl rfl (o_ex rfl rfl rfl (o_ex rfl rfl rfl (o_as rfl rfl (o_as rfl rfl (o_as rfl rfl (o_as rfl rfl (o_z ?_)))))))))
 refine Ah (Al (Ah (Ae (o_mv rfl rfl (o_rnS rfl rfl (fun c26=>?_) fun c26=>?_)))))
 ·
  replace hm:=ip hm c26
  refine o_as rfl rfl (o_z ?_)
  refine Ar rfl (Ah (Ae (o_mv rfl rfl (o_as rfl rfl (o_as rfl rfl (o_as rfl rfl (o_z ?_)))))))
  refine Au ?_
  obtain rfl:=sm hm
  replace hB:=hB.st S9
  obtain ⟨O',hS',hz,hl⟩:=hE.leave (fun q=>if q=2 then i0 else 0) rfl hB
  exact ret3 rfl (AG rfl) (AG rfl) (AG rfl) ⟨O',hS',_,_,_,(Ob.leave h12 hz (hl 2 (by decide) (by decide)) hx0.2),rfl,(vInt (show inI64 (0) from by decide)),vBool,(vErr r25)⟩
 ·
  replace hm:=im hm c26
  refine o_as rfl rfl (o_z ?_)
  refine Aj rfl (Ah (Ae (o_mv rfl rfl (o_geS rfl rfl rfl (fun c27=>?_) fun c27=>?_))))
  ·
   replace hm:=ip hm c27
   refine o_as rfl rfl (o_z ?_)
   refine Ar rfl (Ah (Ae (o_mv rfl rfl (o_as rfl rfl (o_as rfl rfl (o_as rfl rfl (o_z ?_)))))))
   refine Au ?_
   obtain rfl:=sm hm
   replace hB:=hB.st S9
   obtain ⟨O',hS',hz,hl⟩:=hE.leave (fun q=>if q=2 then i0 else 0) rfl hB
   exact ret3 rfl (AG rfl) (AG rfl) (AG rfl) ⟨O',hS',_,_,_,(Ob.leave h12 hz (hl 2 (by decide) (by decide)) hx0.2),rfl,(vInt r24),vBool,(vErr (show inI64 0 from by decide))⟩
  ·
   replace hm:=im hm c27
   refine o_as rfl rfl (o_z ?_)
   refine Aj rfl (Ah (Ae (o_mv rfl rfl (o_nc rfl rfl ?_))))
   obtain ⟨O28,v32,v35,v40,S29,ha31,h30,h33,h36,h41⟩:=Reg.opn h12 2 3 4 5 (by decide)
   obtain ⟨p34,rfl⟩:=h33.ptr
   obtain ⟨A37,c38,rfl⟩:=h36.form
   obtain ⟨p42,rfl⟩:=h41.mptr
   refine o_fa rfl rfl (o_ld (hc:=Blk.cell (i:=1) (h30.1) rfl) rfl rfl ?_)
   refine o_ln rfl rfl ?_
   have l44:x0.entries.length≤9223372036854775807:=Nat.le_trans h36.len.2.1 h36.len.2.2
   have r43:inI64 (x0.entries.length:Int):=rngNat l44
   refine o_geS rfl rfl rfl (fun c45=>?_) fun c45=>?_
   ·
    replace hm:=ip hm c45
    refine o_as rfl rfl (o_z ?_)
    refine Ar rfl (Ah (Ae (o_miE rfl rfl ?_)))
    refine o_as rfl rfl (o_as rfl rfl (o_as rfl rfl (o_z ?_)))
    refine Au ?_
    obtain ⟨O46,S47,hz49,ha50,h48⟩:=Reg.shut (x:=x0) (l0:=2) (l1:=3) (l2:=4) (l3:=5) (by decide) h30 h33 h36 h41
    obtain rfl:=sm hm
    replace hB:=((hB.st S9).st S29).st S47
    obtain ⟨O',hS',hz,hl⟩:=hE.leave (fun q=>if q=2 then i0 else 0) rfl hB
    exact ret3 rfl (AG rfl) (AG rfl) (AG rfl) ⟨O',hS',_,_,_,(Ob.leave h48 hz (hl 2 (by decide) (by decide)) hx0.2),rfl,(vInt (show inI64 (0) from by decide)),vBool,(vErr (by decide))⟩
   ·
    replace hm:=im hm c45
    refine o_as rfl rfl (o_z ?_)
    refine Aj rfl (Am (Ah (Ae (o_mv rfl rfl (o_nc rfl rfl (o_fa rfl rfl (o_ld (hc:=Blk.cell (i:=1) (h30.1) rfl) rfl rfl ?_)))))))
    refine o_ln rfl rfl ?_
    have l52:x0.entries.length≤9223372036854775807:=Nat.le_trans h36.len.2.1 h36.len.2.2
    have r51:inI64 (x0.entries.length:Int):=rngNat l52
    refine o_as rfl rfl (o_z ?_)
    refine Ah (Ae (o_mv rfl rfl (o_mv rfl rfl (o_nc rfl rfl (o_fa rfl rfl (o_ld (hc:=Blk.cell (i:=1) (h30.1) rfl) rfl rfl ?_))))))
    refine o_mv rfl rfl (o_bd rfl rfl rfl ?_)
    refine o_bd rfl rfl rfl ?_
    obtain ⟨u53,e54,hm⟩:=bs hm
    obtain ⟨e54,e55,e56⟩:=Cj e54
    replace h17:=h17.st S29
    refine CW rfl (a:=(⟨q5.1,(⟨(-1),(-1),0⟩:RLk)⟩:REn)) h36 (Vb.ofAgg (cs:=[(.slice A21 q5.1.length c22),(.int .i64 (-1)),(.int .i64 (-1)),(.int .i64 0)]) (x:=(⟨q5.1,(⟨(-1),(-1),0⟩:RLk)⟩:REn)) rfl ⟨_,rfl,h17,(show inI64 (-1) from by decide),(show inI64 (-1) from by decide),(show inI64 (0) from by decide)⟩) (fun _=>rfl) rfl (by decide) (by decide) e55 e56 ⟨rfl,rfl⟩ fun g57 A58 c59 w60 O61 S62 h63=>?_
    rw [← e54] at h63 ⊢
    refine o_nc rfl rfl (o_fa rfl rfl ?_)
    replace h30:=h30.st S62
    refine AV h30 rfl rfl rfl (Nat.le_of_ble_eq_true rfl) (by first|exact allOne rfl|simp [Value.cells,Value.oneCell',AQ]) fun w65 S66 h30=>?_
    replace h30:Lc 2 w65 O61 p0 118 [(.pointer (some ⟨p34,0,none⟩)),(.slice A58 u53.length c59),(.map (some p42))]:=h30
    refine o_z ?_
    refine Ah (BG [(12,[]),(13,[5,7])] O61 ?_)
    refine x_pre (fuel:=8) [] [(5,true),(6,true),(7,true),(8,true),(9,true),(10,true),(11,true)] (by kernel_rfl) rfl ?_
    refine h_mv rfl rfl rfl (h_nc rfl rfl rfl (h_fa rfl rfl rfl (h_ldC (hc:=fun w' ⟨O',hq⟩=>Blk.cell (i:=2) ((h30.st hq (by decide)).1) rfl) rfl rfl rfl ?_)))
    refine h_mv rfl rfl rfl ?_
    replace h41:=(h41.st S62).st S66
    obtain ⟨A69,c70,hl67,h68⟩:=MapR.get h41 q5.2.1
    refine h_lk q5.2.1 (fun w' ⟨O',hq⟩=>hl67.keep (hq.agree (i:=5) (by decide) _ (MapR.at h41))) rfl rfl rfl rfl ?_
    refine h_mv rfl rfl rfl (AK ?_)
    refine x_pre (fuel:=3) [5,7] [(0,true),(1,true),(2,true),(3,true),(4,true)] (by kernel_rfl) rfl ?_
    refine h_mv rfl rfl rfl (h_nc rfl rfl rfl (h_fa rfl rfl rfl (h_ldC (hc:=fun w' ⟨O',hq⟩=>Blk.cell (i:=2) ((h30.st hq (by decide)).1) rfl) rfl rfl rfl ?_)))
    refine h_mv rfl rfl rfl (AK ?_)
    refine x_one (i:=12) (by kernel_rfl) rfl ?_
    refine BT 6 (by decide) O61 (xs:=(([(x0.entries.length:Int)]:List Int):List Int)) rfl rfl rfl rfl ⟨(vInt r51),trivial⟩ (by decide) (by decide) rfl fun g71 w72 O73 S74 h75=>?_
    have hZ:=S74.lst [] (fun _ h=>h.elim)
    replace hl67:=hl67.keep (S74.agree (i:=5) id _ (MapR.at h41))
    replace h68:=h68.stS S74 id (fun _ _=>id)
    refine x_go [(13,[5,7])] hZ (by kernel_rfl) ?_
    refine x_one (i:=13) (by kernel_rfl) rfl ?_
    replace h41:=h41.st S74
    obtain ⟨O77,S78,h79,h80⟩:=MapR.take h41 hl67 7 (by decide) (by decide)
    have hZ:=S78.lst [5] (fun _ h=>by cases h;decide)
    obtain ⟨u82,e83,hm⟩:=bs hm
    obtain ⟨e83,e84,e85⟩:=Cj e83
    replace h75:=h75.st S78
    refine DV rfl h80 (h75.rd) rfl rfl (by decide) e84 e85 rfl fun A86 c87 w88 O89 S90 h91=>?_
    rw [← e83] at h91 ⊢
    replace hZ:=hZ.cmp S90 [5,7] (fun _ h=>by cases h;decide) rfl
    refine x_go [] hZ (by kernel_rfl) ?_
    refine x_one (i:=14) (by kernel_rfl) rfl ?_
    replace h79:=h79.st S90
    refine Mj h79 h91 (by decide) rfl rfl rfl fun w93 O94 S95 h96=>?_
    refine x_end (by kernel_rfl) ?_
    refine x_nil (by kernel_rfl) ?_
    refine Ah (Ae (o_mv rfl rfl (o_as rfl rfl (o_as rfl rfl (o_as rfl rfl (o_z ?_))))))
    refine Au ?_
    replace h30:=(((h30.st S74).st S78).st S90).st S95
    replace h33:=(((((h33.st S62).st S66).st S74).st S78).st S90).st S95
    replace h63:=((((h63.st S66).st S74).st S78).st S90).st S95
    obtain ⟨O97,S98,hz100,ha101,h99⟩:=Reg.shut (x:=(⟨x0.packer,u53,(⟨mput x0.table.l q5.2.1 u82⟩:MapR 3 Int Int)⟩:Reg)) (l0:=2) (l1:=3) (l2:=4) (l3:=5) (by decide) h30 h33 h63 h96
    obtain rfl:=sm hm
    replace hB:=((((((((hB.st S9).st S29).st S62).st S66).st S74).st S78).st S90).st S95).st S98
    obtain ⟨O',hS',hz,hl⟩:=hE.leave (fun q=>if q=2 then i0 else 0) rfl hB
    exact ret3 rfl (AG rfl) (AG rfl) (AG rfl) ⟨O',hS',_,_,_,(Ob.leave h99 hz (hl 2 (by decide) (by decide)) hx0.2),rfl,(vInt r51),vBool,(vErr (show inI64 0 from by decide))⟩
noncomputable def Bi (x0:Reg):Option Int :=
  some (x0.entries.length:Int)
theorem Cb {w:World} {O:Lab} {p0 i0:Nat} {x0:Reg} (hx0:Ob i0 w O (.pointer (some ⟨p0,0,none⟩)) x0) {r:Int} (hm:Bi x0=some r) :
    Fn Try.prog 35 [(.pointer (some ⟨p0,0,none⟩))] w fun v w'=>∃ O',St (eT i0) w O w' O'∧Ob i0 w' O' (.pointer (some ⟨p0,0,none⟩)) x0∧Vb w' (Fr 0 w' O') v r:=by
 obtain ⟨O0,hE,hz0,hl2⟩:=ent1 (w:=w) (O:=O) hx0.2
 have hx0':=Ob.leave hx0 hz0 hl2 (j:=2) (by decide)
 have hB:Bm w O0 w O0:=Bm.refl
 refine AL Try.func35 rfl Try.ntmps35 rfl ?_
 unfold Bi at hm
 refine Ah (Ae (o_as rfl rfl (o_z ?_)))
 refine Ah (Ah (Ae (o_mv rfl rfl (o_pn rfl rfl ?_))))
 refine o_z ?_
 refine Aj rfl (Am (Ah (Ae (o_mv rfl rfl (o_nc rfl rfl ?_)))))
 obtain ⟨O2,v6,v9,v14,S3,ha5,h4,h7,h10,h15⟩:=Reg.opn hx0' 2 3 4 5 (by decide)
 obtain ⟨p8,rfl⟩:=h7.ptr
 obtain ⟨A11,c12,rfl⟩:=h10.form
 obtain ⟨p16,rfl⟩:=h15.mptr
 refine o_fa rfl rfl (o_ld (hc:=Blk.cell (i:=1) (h4.1) rfl) rfl rfl ?_)
 refine o_ln rfl rfl ?_
 have l18:x0.entries.length≤9223372036854775807:=Nat.le_trans h10.len.2.1 h10.len.2.2
 have r17:inI64 (x0.entries.length:Int):=rngNat l18
 refine o_as rfl rfl (o_z ?_)
 refine Au ?_
 obtain ⟨O19,S20,hz22,ha23,h21⟩:=Reg.shut (x:=x0) (l0:=2) (l1:=3) (l2:=4) (l3:=5) (by decide) h4 h7 h10 h15
 obtain rfl:=sm hm
 replace hB:=(hB.st S3).st S20
 obtain ⟨O',hS',hz,hl⟩:=hE.leave (fun q=>if q=2 then i0 else 0) rfl hB
 exact ret1v rfl (AG rfl) ⟨O',hS',(Ob.leave h21 hz (hl 2 (by decide) (by decide)) hx0.2),(vInt r17)⟩
noncomputable def AY (x0:Reg) (x1:Int):Option Bool :=
  bnd (if 0≤x1 then (if x1 < (x0.entries.length:Int) then (some true) else (some false)) else (some false):Option Bool) fun y3=>some y3
theorem CG {w:World} {O:Lab} {p0 i0:Nat} {x0:Reg} (hx0:Ob i0 w O (.pointer (some ⟨p0,0,none⟩)) x0) {x1:Int} (rx1:inI64 x1) {r:Bool} (hm:AY x0 x1=some r) :
    Fn Try.prog 61 [(.pointer (some ⟨p0,0,none⟩)),(.int .i64 x1)] w fun v w'=>∃ O',St (eT i0) w O w' O'∧Ob i0 w' O' (.pointer (some ⟨p0,0,none⟩)) x0∧Vb w' (Fr 0 w' O') v r:=by
 obtain ⟨O0,hE,hz0,hl2⟩:=ent1 (w:=w) (O:=O) hx0.2
 have hx0':=Ob.leave hx0 hz0 hl2 (j:=2) (by decide)
 have hB:Bm w O0 w O0:=Bm.refl
 refine AL Try.func61 rfl Try.ntmps61 rfl ?_
 unfold AY at hm
 refine Ah (Ae (o_as rfl rfl (o_z ?_)))
 refine Ah ?_
 obtain ⟨y3,hy4,hm⟩:=bs hm
 refine AM (fun l' w'=>∃ (x6:Unit) (O':Lab),subs l' [(4,(.bool y3))]∧Bm w O0 w' O'∧Ob 2 w' O' (.pointer (some ⟨p0,0,none⟩)) x0) ?_ ?_
 ·
  refine Ae (o_mv rfl rfl (o_geS rfl rfl rfl (fun c7=>?_) fun c7=>?_))
  ·
   replace hy4:=ip hy4 c7
   refine o_mv rfl rfl (AE rfl rfl (o_mv rfl rfl (AE rfl rfl (o_mv rfl rfl (AE rfl rfl (o_nc rfl rfl (AE rfl rfl ?_)))))))
   obtain ⟨O8,v12,v15,v20,S9,ha11,h10,h13,h16,h21⟩:=Reg.opn hx0' 2 3 4 5 (by decide)
   obtain ⟨p14,rfl⟩:=h13.ptr
   obtain ⟨A17,c18,rfl⟩:=h16.form
   obtain ⟨p22,rfl⟩:=h21.mptr
   refine o_fa rfl rfl (AE rfl rfl (o_ld (hc:=Blk.cell (i:=1) (h10.1) rfl) rfl rfl ?_))
   refine AE rfl rfl (o_ln rfl rfl ?_)
   have l24:x0.entries.length≤9223372036854775807:=Nat.le_trans h16.len.2.1 h16.len.2.2
   have r23:inI64 (x0.entries.length:Int):=rngNat l24
   refine AE rfl rfl (o_ltS rfl rfl rfl (fun c25=>?_) fun c25=>?_)
   ·
    replace hy4:=ip hy4 c25
    refine o_pt rfl rfl rfl (o_as rfl rfl (o_z ?_))
    obtain ⟨O26,S27,hz29,ha30,h28⟩:=Reg.shut (x:=x0) (l0:=2) (l1:=3) (l2:=4) (l3:=5) (by decide) h10 h13 h16 h21
    obtain rfl:=sm hy4
    replace hB:=(hB.st S9).st S27
    exact ⟨(),_,⟨rfl,trivial⟩,hB,h28⟩
   ·
    replace hy4:=im hy4 c25
    refine o_pt rfl rfl rfl (o_as rfl rfl (o_z ?_))
    obtain ⟨O31,S32,hz34,ha35,h33⟩:=Reg.shut (x:=x0) (l0:=2) (l1:=3) (l2:=4) (l3:=5) (by decide) h10 h13 h16 h21
    obtain rfl:=sm hy4
    replace hB:=(hB.st S9).st S32
    exact ⟨(),_,⟨rfl,trivial⟩,hB,h33⟩
  ·
   replace hy4:=im hy4 c7
   refine o_mv rfl rfl (AD rfl rfl rfl rfl (AD rfl rfl rfl rfl (AD rfl rfl rfl rfl (AD rfl rfl rfl rfl (AD rfl rfl rfl rfl (AD rfl rfl rfl rfl (AD rfl rfl rfl rfl (o_pf rfl rfl rfl (o_as rfl rfl (o_z ?_))))))))))
   obtain rfl:=sm hy4
   exact ⟨(),_,⟨rfl,trivial⟩,hB,hx0'⟩
 rintro l36 w37 ⟨x6,O38,hs39,hB,h24⟩
 refine AO _ hs39 ?_
 refine Au ?_
 obtain rfl:=sm hm
 obtain ⟨O',hS',hz,hl⟩:=hE.leave (fun q=>if q=2 then i0 else 0) rfl hB
 exact ret1v rfl (AG rfl) ⟨O',hS',(Ob.leave h24 hz (hl 2 (by decide) (by decide)) hx0.2),vBool⟩
noncomputable def Bc (x0:Reg) (x1:Int):Option ((List Int)×Err) :=
  bnd (AY x0 x1) fun q3=>if q3=true then bnd (atI x0.entries x1) fun a27=>bnd (Ce x0.packer a27.words) fun q45=>some (q45.1,(⟨q45.2.n⟩:Err)) else some (([]:List Int),(⟨1⟩:Err))
theorem CT {w:World} {O:Lab} {p0 i0:Nat} {x0:Reg} (hx0:Ob i0 w O (.pointer (some ⟨p0,0,none⟩)) x0) {x1:Int} (rx1:inI64 x1) {r:(List Int)×Err} (hm:Bc x0 x1=some r) :
    Fn Try.prog 36 [(.pointer (some ⟨p0,0,none⟩)),(.int .i64 x1)] w fun v w'=>∃ O',St (eT i0) w O w' O'∧∃ v0 v1:Value,Ob i0 w' O' (.pointer (some ⟨p0,0,none⟩)) x0∧v=.tuple #[v0,v1]∧Vb w' (Fr 0 w' O') v0 r.1∧Vb w' (Fr 0 w' O') v1 r.2:=by
 obtain ⟨O0,hE,hz0,hl2⟩:=ent1 (w:=w) (O:=O) hx0.2
 have hx0':=Ob.leave hx0 hz0 hl2 (j:=2) (by decide)
 have hB:Bm w O0 w O0:=Bm.refl
 refine AL Try.func36 rfl Try.ntmps36 rfl ?_
 unfold Bc at hm
 refine Ah (Ae (o_as rfl rfl (o_as rfl rfl (o_z ?_))))
 refine Ah (Al (Ah (Ae (o_mv rfl rfl (o_pn rfl rfl ?_)))))
 refine o_as rfl rfl (o_z ?_)
 refine Aj rfl (Ah (Ae (o_mv rfl rfl (o_mv rfl rfl ?_))))
 obtain ⟨q3,e4,hm⟩:=bs hm
 refine Bh (O:=O0) (CG hx0' rx1 e4) rfl rfl fun v9 w5 O6 S7 h8=>?_
 obtain ⟨h10,h11⟩:=h8
 obtain rfl:=h11.bool
 cases q3
 case false =>
  replace hm:=iF hm
  refine o_nf rfl rfl (o_as rfl rfl (o_z ?_))
  refine Ar rfl (Ah (Ae (o_miE rfl rfl ?_)))
  refine o_as rfl rfl (o_as rfl rfl (o_z ?_))
  refine Au ?_
  obtain rfl:=sm hm
  replace hB:=hB.st S7
  obtain ⟨O',hS',hz,hl⟩:=hE.leave (fun q=>if q=2 then i0 else 0) rfl hB
  exact ret2 rfl (AG rfl) (AG rfl) ⟨O',hS',_,_,(Ob.leave h10 hz (hl 2 (by decide) (by decide)) hx0.2),rfl,(Vb.mono (Vb.nil _ _) hz),(vErr (by decide))⟩
 replace hm:=iT hm
 refine o_nt rfl rfl (o_as rfl rfl (o_z ?_))
 refine Aj rfl (Am (Ah ?_))
 obtain ⟨O12,v16,v19,v24,S13,ha15,h14,h17,h20,h25⟩:=Reg.opn h10 2 3 4 5 (by decide)
 obtain ⟨p18,rfl⟩:=h17.ptr
 obtain ⟨A21,c22,rfl⟩:=h20.form
 obtain ⟨p26,rfl⟩:=h25.mptr
 refine BG [(12,[3])] O12 ?_
 refine x_pre (fuel:=5) [] [(0,true),(1,true),(2,true),(3,true),(4,true),(5,true),(6,true),(7,true),(8,true),(9,true),(10,true),(11,true)] (by kernel_rfl) rfl ?_
 refine h_mv rfl rfl rfl (h_nc rfl rfl rfl (h_fa rfl rfl rfl (h_ldC (hc:=fun w' ⟨O',hq⟩=>Blk.cell (i:=0) ((h14.st hq (by decide)).1) rfl) rfl rfl rfl ?_)))
 refine h_mv rfl rfl rfl (h_nc rfl rfl rfl (h_fa rfl rfl rfl (h_ldC (hc:=fun w' ⟨O',hq⟩=>Blk.cell (i:=1) ((h14.st hq (by decide)).1) rfl) rfl rfl rfl ?_)))
 refine h_mv rfl rfl rfl ?_
 obtain ⟨a27,e28,hm⟩:=bs hm
 obtain ⟨p30,x29⟩:=AN e28
 obtain ⟨b31,o32,ce33,hA34,hF37,hl35,hd36,v38,rfl,h39,r42,r43,r44⟩:=h20.elemF x29
 obtain ⟨A40,c41,rfl⟩:=h39.form
 refine h_iaE (hA:=hA34) (hj:=(Int.toNat_of_nonneg p30).symm) (hlt:=hl35) rfl rfl rfl rfl ?_
 refine h_fa rfl rfl rfl (h_ldC (hc:=fun w' ⟨O',hq⟩=>cat0 (Bj (hq.agree (i:=4) (by decide)) hF37 hd36)) rfl rfl rfl ?_)
 refine AK ?_
 refine x_one (i:=12) (by kernel_rfl) rfl ?_
 obtain ⟨q45,e46,hm⟩:=bs hm
 refine Bh (O:=O12) (GD h17 h39 e46) rfl rfl fun v51 w47 O48 S49 h50=>?_
 obtain ⟨v53,v54,h52,rfl,h55,h56⟩:=h50
 obtain ⟨A57,c58,rfl⟩:=h55.form
 obtain ⟨rfl,r59⟩:=h56.err
 have hZ:=S49.lst [3] (fun _ h=>by cases h;decide)
 refine x_go [] hZ (by kernel_rfl) ?_
 refine x_pre (fuel:=0) [] [(13,true),(14,true),(15,true),(16,true)] (by kernel_rfl) rfl ?_
 refine h_ex rfl rfl rfl rfl (h_ex rfl rfl rfl rfl (h_as rfl rfl rfl (h_as rfl rfl rfl (AK ?_))))
 refine x_nil (by kernel_rfl) ?_
 refine Au ?_
 replace h14:=h14.st S49
 replace h20:=h20.st S49
 replace h25:=h25.st S49
 obtain ⟨O60,S61,hz63,ha64,h62⟩:=Reg.shut (x:=x0) (l0:=2) (l1:=3) (l2:=4) (l3:=5) (by decide) h14 h52 h20 h25
 obtain rfl:=sm hm
 replace hB:=(((hB.st S7).st S13).st S49).st S61
 obtain ⟨O',hS',hz,hl⟩:=hE.leave (fun q=>if q=2 then i0 else 0) rfl hB
 replace h55:=h55.st S61
 exact ret2 rfl (AG rfl) (AG rfl) ⟨O',hS',_,_,(Ob.leave h62 hz (hl 2 (by decide) (by decide)) hx0.2),rfl,(Vb.mono h55 hz),(vErr r59)⟩
noncomputable def Bd (x0:Reg) (x1:Int) (x2:Int) (x3:Int) (x4:Int):Option (Err×Reg) :=
  bnd (bnd (AY x0 x1) fun q10=>if q10=true then if x2≠(-1) then (bnd (AY x0 x2) fun q20=>if q20=true then some false else some true) else (some false) else some true:Option Bool) fun y6=>if y6=true then (some ((⟨1⟩:Err),x0)) else (bnd (atI x0.entries x1) fun a49=>some ((⟨0⟩:Err),(⟨x0.packer,(x0.entries.set (x1:Int).toNat ({ a49 with link:=(⟨x2,x3,x4⟩:RLk) }:REn)),x0.table⟩:Reg)))
theorem Dy {w:World} {O:Lab} {p0 i0:Nat} {x0:Reg} (hx0:Ob i0 w O (.pointer (some ⟨p0,0,none⟩)) x0) {x1:Int} (rx1:inI64 x1) {x2:Int} (rx2:inI64 x2) {x3:Int} (rx3:inI64 x3) {x4:Int} (rx4:inI64 x4) {r:Err×Reg} (hm:Bd x0 x1 x2 x3 x4=some r) :
    Fn Try.prog 42 [(.pointer (some ⟨p0,0,none⟩)),(.int .i64 x1),(.int .i64 x2),(.int .i64 x3),(.int .i64 x4)] w fun v w'=>∃ O',St (eT i0) w O w' O'∧Ob i0 w' O' (.pointer (some ⟨p0,0,none⟩)) r.2∧Vb w' (Fr 0 w' O') v r.1:=by
 obtain ⟨O0,hE,hz0,hl2⟩:=ent1 (w:=w) (O:=O) hx0.2
 have hx0':=Ob.leave hx0 hz0 hl2 (j:=2) (by decide)
 have hB:Bm w O0 w O0:=Bm.refl
 refine AL Try.func42 rfl Try.ntmps42 rfl ?_
 unfold Bd at hm
 refine Ah (Ae (o_as rfl rfl (o_z ?_)))
 refine Ah (Al (Ah (Ae (o_mv rfl rfl (o_pn rfl rfl ?_)))))
 refine o_as rfl rfl (o_z ?_)
 refine Aj rfl (Ah ?_)
 obtain ⟨y6,hy7,hm⟩:=bs hm
 refine AM (fun l' w'=>∃ (x9:Unit) (O':Lab),subs l' [(0,(.pointer (some ⟨p0,0,none⟩))),(1,(.int .i64 x1)),(2,(.int .i64 x2)),(3,(.int .i64 x3)),(4,(.int .i64 x4)),(15,(.bool y6))]∧Bm w O0 w' O'∧Ob 2 w' O' (.pointer (some ⟨p0,0,none⟩)) x0) ?_ ?_
 ·
  refine Ae (o_mv rfl rfl (o_mv rfl rfl ?_))
  obtain ⟨q10,e11,hy7⟩:=bs hy7
  refine Bh (O:=O0) (CG hx0' rx1 e11) rfl rfl fun v16 w12 O13 S14 h15=>?_
  obtain ⟨h17,h18⟩:=h15
  obtain rfl:=h18.bool
  cases q10
  case false =>
   replace hy7:=iF hy7
   refine o_nf rfl rfl (o_mv rfl rfl (AD rfl rfl rfl rfl (AD rfl rfl rfl rfl (AD rfl rfl rfl rfl (AD rfl rfl rfl rfl (AD rfl rfl rfl rfl (AD rfl rfl rfl rfl (AD rfl rfl rfl rfl (AD rfl rfl rfl rfl (o_pt rfl rfl rfl (o_as rfl rfl (o_z ?_))))))))))))
   obtain rfl:=sm hy7
   replace hB:=hB.st S14
   exact ⟨(),_,⟨rfl,rfl,rfl,rfl,rfl,rfl,trivial⟩,hB,h17⟩
  replace hy7:=iT hy7
  refine o_nt rfl rfl (o_mv rfl rfl (AE rfl rfl (o_mv rfl rfl (AE rfl rfl (o_neS rfl rfl rfl (fun c19=>?_) fun c19=>?_)))))
  ·
   replace hy7:=ip hy7 c19
   refine AE rfl rfl (o_mv rfl rfl (AE rfl rfl (o_mv rfl rfl (AE rfl rfl (o_mv rfl rfl (AE rfl rfl ?_))))))
   obtain ⟨q20,e21,hy7⟩:=bs hy7
   refine Bh (O:=O13) (CG h17 rx2 e21) rfl rfl fun v26 w22 O23 S24 h25=>?_
   obtain ⟨h27,h28⟩:=h25
   obtain rfl:=h28.bool
   cases q20
   case false =>
    replace hy7:=iF hy7
    refine AE rfl rfl (o_nf rfl rfl (AE rfl rfl (o_pt rfl rfl rfl (o_pf rfl rfl rfl (o_as rfl rfl (o_z ?_))))))
    obtain rfl:=sm hy7
    replace hB:=(hB.st S14).st S24
    exact ⟨(),_,⟨rfl,rfl,rfl,rfl,rfl,rfl,trivial⟩,hB,h27⟩
   replace hy7:=iT hy7
   refine AE rfl rfl (o_nt rfl rfl (AE rfl rfl (o_pt rfl rfl rfl (o_pf rfl rfl rfl (o_as rfl rfl (o_z ?_))))))
   obtain rfl:=sm hy7
   replace hB:=(hB.st S14).st S24
   exact ⟨(),_,⟨rfl,rfl,rfl,rfl,rfl,rfl,trivial⟩,hB,h27⟩
  ·
   replace hy7:=im hy7 c19
   refine AE rfl rfl (o_mv rfl rfl (AD rfl rfl rfl rfl (AD rfl rfl rfl rfl (AD rfl rfl rfl rfl (AD rfl rfl rfl rfl (AE rfl rfl (o_pf rfl rfl rfl (o_pf rfl rfl rfl (o_as rfl rfl (o_z ?_))))))))))
   obtain rfl:=sm hy7
   replace hB:=hB.st S14
   exact ⟨(),_,⟨rfl,rfl,rfl,rfl,rfl,rfl,trivial⟩,hB,h17⟩
 rintro l29 w30 ⟨x9,O31,hs32,hB,h13⟩
 refine AO _ hs32 ?_
 refine BP rfl (fun c33=>?_) (fun c33=>?_)
 ·
  replace hm:=ip hm c33
  refine Ah (Ae (o_miE rfl rfl ?_))
  refine o_as rfl rfl (o_z ?_)
  refine Au ?_
  obtain rfl:=sm hm
  obtain ⟨O',hS',hz,hl⟩:=hE.leave (fun q=>if q=2 then i0 else 0) rfl hB
  exact ret1v rfl (AG rfl) ⟨O',hS',(Ob.leave h13 hz (hl 2 (by decide) (by decide)) hx0.2),(vErr (by decide))⟩
 ·
  replace hm:=im' hm c33
  refine Am (Ah (Ae (o_mv rfl rfl (o_nc rfl rfl ?_))))
  obtain ⟨O34,v38,v41,v46,S35,ha37,h36,h39,h42,h47⟩:=Reg.opn h13 2 3 4 5 (by decide)
  obtain ⟨p40,rfl⟩:=h39.ptr
  obtain ⟨A43,c44,rfl⟩:=h42.form
  obtain ⟨p48,rfl⟩:=h47.mptr
  refine o_fa rfl rfl (o_ld (hc:=Blk.cell (i:=1) (h36.1) rfl) rfl rfl ?_)
  refine o_mv rfl rfl (o_mv rfl rfl (o_mv rfl rfl (o_mv rfl rfl (o_bd rfl rfl rfl ?_))))
  obtain ⟨a49,e50,hm⟩:=bs hm
  obtain ⟨p52,x51⟩:=AN e50
  obtain ⟨b53,o54,ce55,hA56,hl57,hd58,v60,rfl,h61,r64,r65,r66⟩:=h42.elem x51
  obtain ⟨A62,c63,rfl⟩:=h61.form
  refine o_iaE (hA:=hA56) (hj:=(Int.toNat_of_nonneg p52).symm) (hlt:=hl57) rfl rfl rfl ?_
  refine o_fa rfl rfl (Ld (a:=a49) (a':=({ a49 with link:=(⟨x2,x3,x4⟩:RLk) }:REn)) (off:=1) h42 hA56 x51 rfl rfl rfl (Nat.le_of_ble_eq_true rfl) (by first|exact allOne rfl|simp [Value.cells,Value.oneCell',AQ]) (by rintro ce ⟨v69,rfl,h70,r73,r74,r75⟩;exact ⟨_,rfl,h70,rx2,rx3,rx4⟩) fun w67 S68 h42=>?_)
  refine o_z ?_
  refine Ah (Ae (o_as rfl rfl (o_z ?_)))
  refine Au ?_
  replace h36:=h36.st S68
  replace h39:=h39.st S68
  replace h47:=h47.st S68
  obtain ⟨O76,S77,hz79,ha80,h78⟩:=Reg.shut (x:=(⟨x0.packer,(x0.entries.set (x1:Int).toNat ({ a49 with link:=(⟨x2,x3,x4⟩:RLk) }:REn)),x0.table⟩:Reg)) (l0:=2) (l1:=3) (l2:=4) (l3:=5) (by decide) (by have q:=h36;rw [← ((by simp:(x0.entries.set (x1:Int).toNat ({ a49 with link:=(⟨x2,x3,x4⟩:RLk) }:REn)).length=x0.entries.length).trans rfl)] at q;exact q) h39 h42.relen h47
  obtain rfl:=sm hm
  replace hB:=((hB.st S35).st S68).st S77
  obtain ⟨O',hS',hz,hl⟩:=hE.leave (fun q=>if q=2 then i0 else 0) rfl hB
  exact ret1v rfl (AG rfl) ⟨O',hS',(Ob.leave h78 hz (hl 2 (by decide) (by decide)) hx0.2),(vErr (show inI64 0 from by decide))⟩
noncomputable def Bt (x0:List Int):Option (List Int) :=
  bnd (chkI ((x0.length:Int) - 1)) fun n4=>bnd (lop (ρ:=(List Int)) (fun (s9:(List Int)×Int×Int)=>if s9.2.1 < s9.2.2 then (bnd (atI s9.1 s9.2.2) fun a31=>bnd (atI s9.1 s9.2.1) fun a43=>bnd (atI s9.1 s9.2.1) fun a55=>bnd (atI (s9.1.set (s9.2.1:Int).toNat a31) s9.2.2) fun a69=>bnd (chkI (s9.2.1 + 1)) fun n83=>bnd (chkI (s9.2.2 - 1)) fun n86=>some (.next (((s9.1.set (s9.2.1:Int).toNat a31).set (s9.2.2:Int).toNat a43),n83,n86))) else (some (.brk (s9.1,s9.2.1,s9.2.2)))) (x0,0,n4)) fun res7=>fin res7 fun (s93:(List Int)×Int×Int)=>some s93.1
theorem Fq {w:World} {O:Lab} {A0:Option Addr} {m0 c0 i0:Nat} {x0:List Int} (hx0:Rw i0 w O 3 (.slice A0 m0 c0) x0) {r:(List Int)} (hm:Bt x0=some r) :
    Fn Try.prog 78 [(.slice A0 m0 c0)] w fun v w'=>∃ O',St (eT i0) w O w' O'∧Rw i0 w' O' 3 (.slice A0 m0 c0) r:=by
 obtain ⟨O0,hE,hz0,hl2⟩:=ent1 (w:=w) (O:=O) hx0.2.2
 obtain rfl:m0=x0.length:=hx0.len.1
 have hx0':=Rw.leave hx0 hz0 hl2 (j:=2) (by decide)
 have hB:Bm w O0 w O0:=Bm.refl
 refine AL Try.func78 rfl Try.ntmps78 rfl ?_
 unfold Bt at hm
 refine Ah (Ae (o_mv rfl rfl (o_ln rfl rfl ?_)))
 have l3:x0.length≤9223372036854775807:=Nat.le_trans hx0'.len.2.1 hx0'.len.2.2
 have r2:inI64 (x0.length:Int):=rngNat l3
 obtain ⟨n4,e5,hm⟩:=bs hm
 have r6:=(Ba e5)
 refine o_sbE (he:=e5) rfl rfl rfl ?_
 refine o_as rfl rfl (o_as rfl rfl (o_z ?_))
 obtain ⟨res7,hL8,hm⟩:=bs hm
 refine AM (aft res7 (fun (s9:(List Int)×Int×Int) (x10:Unit)=>[(0,(.slice A0 x0.length c0))]) (fun s9 x10 w'=>∃ O':Lab,Bm w O0 w' O'∧Rw 2 w' O' 3 (.slice A0 x0.length c0) s9.1∧inI64 s9.2.1∧inI64 s9.2.2)) ?_ ?_
 ·
  refine Al (DL (σ:=(List Int)×Int×Int) (X:=Unit) hL8 (fun (s9:(List Int)×Int×Int) (x10:Unit)=>[(0,(.slice A0 x0.length c0)),(2,(.int .i64 s9.2.1)),(3,(.int .i64 s9.2.2))]) _ (fun s9 x10 w'=>∃ O':Lab,Bm w O0 w' O'∧Rw 2 w' O' 3 (.slice A0 x0.length c0) s9.1∧inI64 s9.2.1∧inI64 s9.2.2) _ () ⟨O0,hB,hx0',(show inI64 (0) from by decide),r6⟩ ⟨rfl,rfl,rfl,trivial⟩ ?_)
  rintro s9 x10 w13 cc15 ⟨O14,hB,h26,r28,r29⟩ hf17 hret18 hbrk19
  refine Ah (Ah (Ae (o_mv rfl rfl (o_mv rfl rfl (o_ltS rfl rfl rfl (fun c30=>?_) fun c30=>?_)))))
  ·
   replace hf17:=ip hf17 c30
   refine o_z ?_
   refine Ar rfl (Am (Ah (Al (BG [(13,[2])] O14 ?_))))
   refine x_pre (fuel:=5) [] [(0,true),(1,true),(4,true),(5,true),(6,true),(7,true),(8,true),(9,true),(10,true),(11,true),(12,true)] (by kernel_rfl) rfl ?_
   refine h_mv rfl rfl rfl (h_mv rfl rfl rfl (h_mv rfl rfl rfl (h_mv rfl rfl rfl ?_)))
   obtain ⟨a31,e32,hf17⟩:=bs hf17
   obtain ⟨p34,x33⟩:=AN e32
   obtain ⟨b35,o36,ce37,hA38,hF41,hl39,hd40,rfl,r42⟩:=h26.elemF x33
   refine h_iaE (hA:=hA38) (hj:=(Int.toNat_of_nonneg p34).symm) (hlt:=hl39) rfl rfl rfl rfl ?_
   refine h_ldC (hc:=fun w' ⟨O',hq⟩=>cat0 (Bj (hq.agree (i:=2) (by decide)) hF41 hd40)) rfl rfl rfl ?_
   refine h_mv rfl rfl rfl (h_mv rfl rfl rfl ?_)
   obtain ⟨a43,e44,hf17⟩:=bs hf17
   obtain ⟨p46,x45⟩:=AN e44
   obtain ⟨b47,o48,ce49,hA50,hF53,hl51,hd52,rfl,r54⟩:=h26.elemF x45
   refine h_iaE (hA:=hA50) (hj:=(Int.toNat_of_nonneg p46).symm) (hlt:=hl51) rfl rfl rfl rfl ?_
   refine h_ldC (hc:=fun w' ⟨O',hq⟩=>cat0 (Bj (hq.agree (i:=2) (by decide)) hF53 hd52)) rfl rfl rfl ?_
   obtain ⟨a55,e56,hf17⟩:=bs hf17
   obtain ⟨p58,x57⟩:=AN e56
   obtain ⟨b59,o60,ce61,hA62,hF65,hl63,hd64,rfl,r66⟩:=h26.elemF x57
   refine h_iaE (hA:=hA62) (hj:=(Int.toNat_of_nonneg p58).symm) (hlt:=hl63) rfl rfl rfl rfl ?_
   refine AK ?_
   refine x_pre (fuel:=3) [2] [(2,true),(3,true)] (by kernel_rfl) rfl ?_
   refine h_mv rfl rfl rfl (h_mv rfl rfl rfl (AK ?_))
   refine x_one (i:=13) (by kernel_rfl) rfl ?_
   refine CM rfl h26 (a:=a31) (vInt r42) hA62 rfl rfl (AJ x57) fun w67 S68 h26=>?_
   have hZ:=S68.lst [2] (fun _ h=>by cases h;decide)
   refine x_go [] hZ (by kernel_rfl) ?_
   refine x_pre (fuel:=1) [] [(14,true)] (by kernel_rfl) rfl ?_
   obtain ⟨a69,e70,hf17⟩:=bs hf17
   obtain ⟨p72,x71⟩:=AN e70
   obtain ⟨b73,o74,ce75,hA76,hF79,hl77,hd78,rfl,r80⟩:=h26.elemF x71
   refine h_iaE (hA:=hA76) (hj:=(Int.toNat_of_nonneg p72).symm) (hlt:=hl77) rfl rfl rfl rfl ?_
   refine AK ?_
   refine x_one (i:=15) (by kernel_rfl) rfl ?_
   refine CM rfl h26 (a:=a43) (vInt r54) hA76 rfl rfl (AJ x71) fun w81 S82 h26=>?_
   refine x_end (by kernel_rfl) ?_
   refine x_nil (by kernel_rfl) ?_
   refine Ae (o_mv rfl rfl ?_)
   obtain ⟨n83,e84,hf17⟩:=bs hf17
   have r85:=(Ba e84)
   refine o_adE (he:=e84) rfl rfl rfl ?_
   refine o_mv rfl rfl ?_
   obtain ⟨n86,e87,hf17⟩:=bs hf17
   have r88:=(Ba e87)
   refine o_sbE (he:=e87) rfl rfl rfl ?_
   refine o_as rfl rfl (o_as rfl rfl (o_z ?_))
   obtain rfl:=sm hf17
   refine (?_:Exists _)
   replace hB:=(hB.st S68).st S82
   exact ⟨_,(),rfl,⟨rfl,rfl,rfl,trivial⟩,_,hB,h26,r85,r88⟩
  ·
   replace hf17:=im hf17 c30
   refine o_z ?_
   refine Aj rfl (At ?_)
   obtain rfl:=sm hf17
   refine (?_:Exists _)
   exact ⟨_,(),hbrk19 _ rfl,⟨rfl,trivial⟩,_,hB,h26,r28,r29⟩
 rintro l89 w90 ⟨s93,x94,rfl,hs92,O91,hB,h26,r28,r29⟩
 replace hm:=AW hm
 obtain rfl:=sm hm
 obtain ⟨O',hS',hz,hl⟩:=hE.leave (fun q=>if q=2 then i0 else 0) rfl hB
 exact ret0n rfl  ⟨O',hS',(Rw.leave h26 hz (hl 2 (by decide) (by decide)) hx0.2.2)⟩
noncomputable def BC (x0:Reg) (x1:Int):Option ((List Int)×Err) :=
  bnd (AY x0 x1) fun q3=>if q3=true then bnd (lop (ρ:=(List Int)×Err) (fun (s14:Int×(List Int))=>bnd (atI x0.entries s14.1) fun a48=>if a48.link.parent < 0 then (bnd (Bt s14.2) fun q74=>some (.ret (q74,(⟨0⟩:Err)))) else (bnd (appI 8 s14.2 [a48.link.op]) fun u89=>if (x0.entries.length:Int) < (u89.length:Int) then (some (.ret (([]:List Int),(⟨21⟩:Err)))) else (some (.next (a48.link.parent,u89))))) (x1,([]:List Int))) fun res12=>fin res12 fun (_:Int×(List Int))=>none else some (([]:List Int),(⟨1⟩:Err))
theorem FE {w:World} {O:Lab} {p0 i0:Nat} {x0:Reg} (hx0:Ob i0 w O (.pointer (some ⟨p0,0,none⟩)) x0) {x1:Int} (rx1:inI64 x1) {r:(List Int)×Err} (hm:BC x0 x1=some r) :
    Fn Try.prog 63 [(.pointer (some ⟨p0,0,none⟩)),(.int .i64 x1)] w fun v w'=>∃ O',St (eT i0) w O w' O'∧∃ v0 v1:Value,Ob i0 w' O' (.pointer (some ⟨p0,0,none⟩)) x0∧v=.tuple #[v0,v1]∧Vb w' (Fr 0 w' O') v0 r.1∧Vb w' (Fr 0 w' O') v1 r.2:=by
 obtain ⟨O0,hE,hz0,hl2⟩:=ent1 (w:=w) (O:=O) hx0.2
 have hx0':=Ob.leave hx0 hz0 hl2 (j:=2) (by decide)
 have hB:Bm w O0 w O0:=Bm.refl
 refine AL Try.func63 rfl Try.ntmps63 rfl ?_
 unfold BC at hm
 refine Ah (Ae (o_as rfl rfl (o_as rfl rfl (o_z ?_))))
 refine Ah (Al (Ah (Ae (o_mv rfl rfl (o_pn rfl rfl ?_)))))
 refine o_as rfl rfl (o_z ?_)
 refine Aj rfl (Ah (Ae (o_mv rfl rfl (o_mv rfl rfl ?_))))
 obtain ⟨q3,e4,hm⟩:=bs hm
 refine Bh (O:=O0) (CG hx0' rx1 e4) rfl rfl fun v9 w5 O6 S7 h8=>?_
 obtain ⟨h10,h11⟩:=h8
 obtain rfl:=h11.bool
 cases q3
 case false =>
  replace hm:=iF hm
  refine o_nf rfl rfl (o_as rfl rfl (o_z ?_))
  refine Ar rfl (Ah (Ae (o_miE rfl rfl ?_)))
  refine o_as rfl rfl (o_as rfl rfl (o_z ?_))
  refine Au ?_
  obtain rfl:=sm hm
  replace hB:=hB.st S7
  obtain ⟨O',hS',hz,hl⟩:=hE.leave (fun q=>if q=2 then i0 else 0) rfl hB
  exact ret2 rfl (AG rfl) (AG rfl) ⟨O',hS',_,_,(Ob.leave h10 hz (hl 2 (by decide) (by decide)) hx0.2),rfl,(Vb.mono (Vb.nil _ _) hz),(vErr (by decide))⟩
 replace hm:=iT hm
 refine o_nt rfl rfl (o_as rfl rfl (o_z ?_))
 refine Aj rfl (Am (Ah (Ae (o_as rfl rfl (o_z ?_)))))
 obtain ⟨res12,hL13,hm⟩:=bs hm
 refine AM (aft res12 (fun (s14:Int×(List Int)) (x15:(Option Addr×Nat))=>[]) (fun s14 x15 w'=>False)) ?_ ?_
 ·
  refine Al ?_
  replace hB:=hB.st S7
  refine DL (σ:=Int×(List Int)) (X:=(Option Addr×Nat)) hL13 (fun (s14:Int×(List Int)) (x15:(Option Addr×Nat))=>[(0,(.pointer (some ⟨p0,0,none⟩))),(1,(.int .i64 s14.1)),(6,(.slice x15.1 s14.2.length x15.2))]) _ (fun s14 x15 w'=>∃ O':Lab,Bm w O0 w' O'∧Ob 2 w' O' (.pointer (some ⟨p0,0,none⟩)) x0∧Rw 8 w' O' 3 (.slice x15.1 s14.2.length x15.2) s14.2∧inI64 s14.1) _ (none,0) ⟨O6,hB,h10,(Rw.nil 8 (by decide)),rx1⟩ ⟨rfl,rfl,rfl,trivial⟩ ?_
  rintro s14 x15 w18 cc20 ⟨O19,hB,h10,h31,r30⟩ hf22 hret23 hbrk24
  refine Al (Ah (Ae (o_mv rfl rfl (o_nc rfl rfl ?_))))
  obtain ⟨O33,v37,v40,v45,S34,ha36,h35,h38,h41,h46⟩:=Reg.opn h10 2 3 4 5 (by decide)
  obtain ⟨p39,rfl⟩:=h38.ptr
  obtain ⟨A42,c43,rfl⟩:=h41.form
  obtain ⟨p47,rfl⟩:=h46.mptr
  refine o_fa rfl rfl (o_ld (hc:=Blk.cell (i:=1) (h35.1) rfl) rfl rfl ?_)
  refine o_mv rfl rfl ?_
  obtain ⟨a48,e49,hf22⟩:=bs hf22
  obtain ⟨p51,x50⟩:=AN e49
  obtain ⟨b52,o53,ce54,hA55,hl56,hd57,v59,rfl,h60,r63,r64,r65⟩:=h41.elem x50
  obtain ⟨A61,c62,rfl⟩:=h60.form
  refine o_iaE (hA:=hA55) (hj:=(Int.toNat_of_nonneg p51).symm) (hlt:=hl56) rfl rfl rfl ?_
  refine o_fa rfl rfl (o_la (hl:=rfl) (hc:=(Jw 1 3 hd57)) rfl rfl ?_)
  refine BY 6 O33 rfl fun g66 w67 O68 S69 h70=>?_
  refine AV h70 rfl rfl rfl (Nat.le_of_ble_eq_true rfl) (by first|exact allOne rfl|simp [Value.cells,Value.oneCell',AQ]) fun w71 S72 h70=>?_
  replace h70:Lc 6 w71 O68 g66 123 [(.int .i64 a48.link.parent),(.int .i64 a48.link.op),(.int .i64 a48.link.cost)]:=h70
  refine o_z ?_
  refine Ah (Ah (Ae (o_fa rfl rfl (o_ld (hc:=Blk.cell (i:=0) (h70.1) rfl) rfl rfl ?_))))
  refine o_ltS rfl rfl rfl (fun c73=>?_) fun c73=>?_
  ·
   replace hf22:=ip hf22 c73
   refine o_z ?_
   refine Ar rfl (Ah (Ae (o_mv rfl rfl ?_)))
   obtain ⟨q74,e75,hf22⟩:=bs hf22
   replace h31:=((h31.st S34).st S69).st S72
   refine Bh (O:=O68) (Fq h31 e75) rfl rfl fun v80 w76 O77 S78 h81=>?_
   refine o_z ?_
   refine Ah (Ae (o_mv rfl rfl (o_as rfl rfl (o_as rfl rfl (o_z ?_)))))
   refine Au ?_
   obtain ⟨O82,S83,h81⟩:=h81.freeze
   replace h35:=(((h35.st S69).st S72).st S78).st S83
   replace h38:=(((h38.st S69).st S72).st S78).st S83
   replace h41:=(((h41.st S69).st S72).st S78).st S83
   replace h46:=(((h46.st S69).st S72).st S78).st S83
   obtain ⟨O84,S85,hz87,ha88,h86⟩:=Reg.shut (x:=x0) (l0:=2) (l1:=3) (l2:=4) (l3:=5) (by decide) h35 h38 h41 h46
   obtain rfl:=sm hf22
   obtain rfl:=hret23 _ rfl
   obtain rfl:=sm (By hm)
   replace hB:=(((((hB.st S34).st S69).st S72).st S78).st S83).st S85
   obtain ⟨O',hS',hz,hl⟩:=hE.leave (fun q=>if q=2 then i0 else 0) rfl hB
   replace h81:=h81.st S85
   exact ret2 rfl (AG rfl) (AG rfl) ⟨O',hS',_,_,(Ob.leave h86 hz (hl 2 (by decide) (by decide)) hx0.2),rfl,(Vb.mono h81 hz),(vErr (show inI64 0 from by decide))⟩
  ·
   replace hf22:=im hf22 c73
   refine o_z ?_
   refine Aj rfl (Am (Ah (Ae (o_mv rfl rfl (o_fa rfl rfl (o_ld (hc:=Blk.cell (i:=1) (h70.1) rfl) rfl rfl ?_))))))
   obtain ⟨u89,e90,hf22⟩:=bs hf22
   obtain ⟨e90,e91,e92⟩:=Cj e90
   replace h31:=((h31.st S34).st S69).st S72
   refine CW rfl (a:=a48.link.op) h31 (vInt r64) (fun _=>rfl) rfl (by decide) (by decide) e91 e92 ⟨rfl,rfl⟩ fun g93 A94 c95 w96 O97 S98 h99=>?_
   rw [← e90] at h99 ⊢
   refine o_as rfl rfl (o_z ?_)
   refine Ah (Ah (Ae (o_mv rfl rfl (o_ln rfl rfl ?_))))
   have l102:u89.length≤9223372036854775807:=Nat.le_trans h99.len.2.1 h99.len.2.2
   have r101:inI64 (u89.length:Int):=rngNat l102
   refine o_mv rfl rfl (o_nc rfl rfl (o_fa rfl rfl ?_))
   replace h35:=((h35.st S69).st S72).st S98
   refine o_ld (hc:=Blk.cell (i:=1) (h35.1) rfl) rfl rfl ?_
   refine o_ln rfl rfl ?_
   replace h41:=((h41.st S69).st S72).st S98
   have l104:x0.entries.length≤9223372036854775807:=Nat.le_trans h41.len.2.1 h41.len.2.2
   have r103:inI64 (x0.entries.length:Int):=rngNat l104
   refine o_gtS rfl rfl rfl (fun c105=>?_) fun c105=>?_
   ·
    replace hf22:=ip hf22 c105
    refine o_z ?_
    refine Ar rfl (Ah (Ae (o_miE rfl rfl ?_)))
    refine o_as rfl rfl (o_as rfl rfl (o_z ?_))
    refine Au ?_
    replace h38:=((h38.st S69).st S72).st S98
    replace h46:=((h46.st S69).st S72).st S98
    obtain ⟨O106,S107,hz109,ha110,h108⟩:=Reg.shut (x:=x0) (l0:=2) (l1:=3) (l2:=4) (l3:=5) (by decide) h35 h38 h41 h46
    obtain rfl:=sm hf22
    obtain rfl:=hret23 _ rfl
    obtain rfl:=sm (By hm)
    replace hB:=((((hB.st S34).st S69).st S72).st S98).st S107
    obtain ⟨O',hS',hz,hl⟩:=hE.leave (fun q=>if q=2 then i0 else 0) rfl hB
    exact ret2 rfl (AG rfl) (AG rfl) ⟨O',hS',_,_,(Ob.leave h108 hz (hl 2 (by decide) (by decide)) hx0.2),rfl,(Vb.mono (Vb.nil _ _) hz),(vErr (by decide))⟩
   ·
    replace hf22:=im hf22 c105
    refine o_z ?_
    refine Aj rfl (Am (Ae (o_fa rfl rfl ?_)))
    replace h70:=h70.st S98
    refine o_ld (hc:=Blk.cell (i:=0) (h70.1) rfl) rfl rfl ?_
    refine o_as rfl rfl (o_z ?_)
    replace h38:=((h38.st S69).st S72).st S98
    replace h46:=((h46.st S69).st S72).st S98
    obtain ⟨O111,S112,hz114,ha115,h113⟩:=Reg.shut (x:=x0) (l0:=2) (l1:=3) (l2:=4) (l3:=5) (by decide) h35 h38 h41 h46
    obtain rfl:=sm hf22
    refine (?_:Exists _)
    replace hB:=((((hB.st S34).st S69).st S72).st S98).st S112
    replace h99:=h99.st S112
    exact ⟨_,(A94,c95),rfl,⟨rfl,rfl,rfl,trivial⟩,_,hB,h113,h99,r63⟩
 rintro l116 w117 ⟨s120,x121,_,_,hE⟩
 exact hE.elim
end
section
open Go Go.RowKit
attribute [local irreducible] ewp owp hwp hwq hws Ev Evg Fn retPost loud loudS Res1
attribute [local irreducible] hwx loudX
structure Itm where
  cost:Int
  order:Int
  id:Int
instance:Rp Itm where
  isAgg:=true
  size:=3
  R w F cs x:=cs=[.int .i64 x.cost,.int .i64 x.order,.int .i64 x.id]∧inI64 x.cost∧inI64 x.order∧inI64 x.id
  len:=by rintro w F cs x ⟨rfl,h0,h1,h2⟩;rfl
  one:=by rintro w F cs x ⟨rfl,h0,h1,h2⟩ u hu;simp at hu;rcases hu with rfl|rfl|rfl<;>first|rfl|exact Vb.one rfl (by assumption)
  agree:=by rintro w w' F cs x ⟨rfl,h0,h1,h2⟩ ha;exact ⟨rfl,h0,h1,h2⟩
  mono:=by rintro w F G cs x ⟨rfl,h0,h1,h2⟩ ha;exact ⟨rfl,h0,h1,h2⟩
instance : TMth Try.prog 94 "Len" 47 false := ⟨by kernel_rfl⟩
instance : TMth Try.prog 94 "Less" 129 false := ⟨by kernel_rfl⟩
instance : TMth Try.prog 94 "Pop" 130 true := ⟨by kernel_rfl⟩
instance : TMth Try.prog 94 "Push" 131 true := ⟨by kernel_rfl⟩
instance : TMth Try.prog 94 "Swap" 132 false := ⟨by kernel_rfl⟩
noncomputable def Be (x0:List Itm):Option Int :=
  some (x0.length:Int)
theorem DP {w:World} {A:Nat→Prop} (hA:∀ k,A k→k < w.heap.size) {vx0:Value} {x0:List Itm} (hx0:Vb w A vx0 x0) {r:Int} (hm:Be x0=some r) :
    Fn Try.prog 47 [vx0] w fun v w'=>Ext w w'∧Vb w' (upA A w w') v r:=by
 obtain ⟨O,hB,hA0⟩:=enter hA
 replace hx0:=hx0.mono hA0
 obtain ⟨A2,c3,rfl⟩:=hx0.form
 refine AL Try.func47 rfl Try.ntmps47 rfl ?_
 unfold Be at hm
 refine Ah (Ae (o_as rfl rfl (o_z ?_)))
 refine Ah (Ae (o_mv rfl rfl (o_ln rfl rfl ?_)))
 have l5:x0.length≤9223372036854775807:=Nat.le_trans hx0.len.2.1 hx0.len.2.2
 have r4:inI64 (x0.length:Int):=rngNat l5
 refine o_as rfl rfl (o_z ?_)
 refine Au ?_
 obtain rfl:=sm hm
 exact ret1v rfl (AG rfl) ⟨hB.ext,(vInt r4)⟩
noncomputable def Bg (x0:List Itm) (x1:Int) (x2:Int):Option Bool :=
  bnd (bnd (atI x0 x1) fun a10=>bnd (atI x0 x2) fun a24=>if a10.cost < a24.cost then (some true) else (bnd (atI x0 x1) fun a39=>bnd (atI x0 x2) fun a53=>if a39.cost=a53.cost then (bnd (atI x0 x1) fun a68=>bnd (atI x0 x2) fun a82=>if a68.order < a82.order then (some true) else (some false)) else (some false)):Option Bool) fun y6=>some y6
theorem DB {w:World} {A:Nat→Prop} (hA:∀ k,A k→k < w.heap.size) {vx0:Value} {x0:List Itm} (hx0:Vb w A vx0 x0) {x1:Int} (rx1:inI64 x1) {x2:Int} (rx2:inI64 x2) {r:Bool} (hm:Bg x0 x1 x2=some r) :
    Fn Try.prog 129 [vx0,(.int .i64 x1),(.int .i64 x2)] w fun v w'=>Ext w w'∧Vb w' (upA A w w') v r:=by
 obtain ⟨O,hB,hA0⟩:=enter hA
 replace hx0:=hx0.mono hA0
 obtain ⟨A4,c5,rfl⟩:=hx0.form
 refine AL Try.func129 rfl Try.ntmps129 rfl ?_
 unfold Bg at hm
 refine Ah (Ae (o_as rfl rfl (o_z ?_)))
 refine Ah ?_
 obtain ⟨y6,hy7,hm⟩:=bs hm
 refine AM (fun l' w'=>∃ (x9:Unit) (O':Lab),subs l' [(6,(.bool y6))]∧Bs w A w' O') ?_ ?_
 ·
  refine BJ (·=w) [(0,true),(1,true),(2,true),(3,true),(4,true),(5,true),(6,true),(7,true),(8,true),(9,true),(10,true),(11,true),(12,true),(13,true),(14,true),(15,true),(16,true),(17,true),(18,true),(19,true),(20,true),(21,true),(22,true),(23,true),(24,true),(25,true),(26,true),(27,true),(28,true),(29,true),(30,true),(31,true),(32,true),(33,true),(34,true),(35,true),(36,true),(37,true)] (by kernel_rfl) rfl (by kernel_rfl) rfl ?_
  refine h_mv rfl rfl rfl (h_mv rfl rfl rfl ?_)
  obtain ⟨a10,e11,hy7⟩:=bs hy7
  obtain ⟨p13,x12⟩:=AN e11
  obtain ⟨b14,o15,ce16,hA17,hl18,hd19,rfl,r21,r22,r23⟩:=hx0.elem' x12
  refine h_iaE (hA:=hA17) (hj:=(Int.toNat_of_nonneg p13).symm) (hlt:=hl18) rfl rfl rfl rfl ?_
  refine h_fa rfl rfl rfl (h_ldA (hc:=cat0 hd19) rfl rfl rfl ?_)
  refine h_mv rfl rfl rfl (h_mv rfl rfl rfl ?_)
  obtain ⟨a24,e25,hy7⟩:=bs hy7
  obtain ⟨p27,x26⟩:=AN e25
  obtain ⟨b28,o29,ce30,hA31,hl32,hd33,rfl,r35,r36,r37⟩:=hx0.elem' x26
  refine h_iaE (hA:=hA31) (hj:=(Int.toNat_of_nonneg p27).symm) (hlt:=hl32) rfl rfl rfl rfl ?_
  refine h_fa rfl rfl rfl (h_ldA (hc:=cat0 hd33) rfl rfl rfl ?_)
  refine h_ltS rfl rfl rfl rfl (fun c38=>?_) fun c38=>?_
  ·
   replace hy7:=ip hy7 c38
   refine h_mv rfl rfl rfl (h_no rfl rfl rfl rfl rfl (h_no rfl rfl rfl rfl rfl (h_no rfl rfl rfl rfl rfl (h_no rfl rfl rfl rfl rfl (h_no rfl rfl rfl rfl rfl (h_no rfl rfl rfl rfl rfl (h_no rfl rfl rfl rfl rfl (h_no rfl rfl rfl rfl rfl (h_no rfl rfl rfl rfl rfl (h_no rfl rfl rfl rfl rfl (h_no rfl rfl rfl rfl rfl (h_no rfl rfl rfl rfl rfl (h_no rfl rfl rfl rfl rfl (h_no rfl rfl rfl rfl rfl ?_))))))))))))))
   refine h_no rfl rfl rfl rfl rfl (h_no rfl rfl rfl rfl rfl (h_no rfl rfl rfl rfl rfl (h_no rfl rfl rfl rfl rfl (h_no rfl rfl rfl rfl rfl (h_no rfl rfl rfl rfl rfl (h_no rfl rfl rfl rfl rfl (h_no rfl rfl rfl rfl rfl (h_no rfl rfl rfl rfl rfl (h_no rfl rfl rfl rfl rfl (h_pt rfl rfl rfl rfl (h_as rfl rfl rfl (h_z ?_))))))))))))
   obtain rfl:=sm hy7
   exact ⟨(),_,⟨rfl,trivial⟩,hB⟩
  ·
   replace hy7:=im hy7 c38
   refine h_mv rfl rfl rfl (hwp_o rfl (AC rfl rfl (g_mv rfl rfl (hwp_o rfl (AC rfl rfl (g_mv rfl rfl (hwp_o rfl (AC rfl rfl ?_))))))))
   obtain ⟨a39,e40,hy7⟩:=bs hy7
   obtain ⟨p42,x41⟩:=AN e40
   obtain ⟨b43,o44,ce45,hA46,hl47,hd48,rfl,r50,r51,r52⟩:=hx0.elem' x41
   refine g_iaE (hA:=hA46) (hj:=(Int.toNat_of_nonneg p42).symm) (hlt:=hl47) rfl rfl rfl ?_
   refine hwp_o rfl (AC rfl rfl (g_fa rfl rfl (hwp_o rfl (AC rfl rfl (g_ldA (hc:=cat0 hd48) rfl rfl ?_)))))
   refine hwp_o rfl (AC rfl rfl (g_mv rfl rfl (hwp_o rfl (AC rfl rfl (g_mv rfl rfl (hwp_o rfl (AC rfl rfl ?_)))))))
   obtain ⟨a53,e54,hy7⟩:=bs hy7
   obtain ⟨p56,x55⟩:=AN e54
   obtain ⟨b57,o58,ce59,hA60,hl61,hd62,rfl,r64,r65,r66⟩:=hx0.elem' x55
   refine g_iaE (hA:=hA60) (hj:=(Int.toNat_of_nonneg p56).symm) (hlt:=hl61) rfl rfl rfl ?_
   refine hwp_o rfl (AC rfl rfl (g_fa rfl rfl (hwp_o rfl (AC rfl rfl (g_ldA (hc:=cat0 hd62) rfl rfl ?_)))))
   refine hwp_o rfl (AC rfl rfl (AP (fun _ _=>Ei rfl rfl) rfl (fun c67=>?_) (fun c67=>?_)))
   ·
    replace hy7:=ip hy7 c67
    refine hwp_o rfl (AC rfl rfl (g_mv rfl rfl (hwp_o rfl (AC rfl rfl (g_mv rfl rfl (hwp_o rfl (AC rfl rfl (g_mv rfl rfl (hwp_o rfl (AC rfl rfl ?_))))))))))
    obtain ⟨a68,e69,hy7⟩:=bs hy7
    obtain ⟨p71,x70⟩:=AN e69
    obtain ⟨b72,o73,ce74,hA75,hl76,hd77,rfl,r79,r80,r81⟩:=hx0.elem' x70
    refine g_iaE (hA:=hA75) (hj:=(Int.toNat_of_nonneg p71).symm) (hlt:=hl76) rfl rfl rfl ?_
    refine hwp_o rfl (AC rfl rfl (g_fa rfl rfl (hwp_o rfl (AC rfl rfl (g_ldA (hc:=cat1 hd77) rfl rfl ?_)))))
    refine hwp_o rfl (AC rfl rfl (g_mv rfl rfl (hwp_o rfl (AC rfl rfl (g_mv rfl rfl (hwp_o rfl (AC rfl rfl ?_)))))))
    obtain ⟨a82,e83,hy7⟩:=bs hy7
    obtain ⟨p85,x84⟩:=AN e83
    obtain ⟨b86,o87,ce88,hA89,hl90,hd91,rfl,r93,r94,r95⟩:=hx0.elem' x84
    refine g_iaE (hA:=hA89) (hj:=(Int.toNat_of_nonneg p85).symm) (hlt:=hl90) rfl rfl rfl ?_
    refine hwp_o rfl (AC rfl rfl (g_fa rfl rfl (hwp_o rfl (AC rfl rfl (g_ldA (hc:=cat1 hd91) rfl rfl ?_)))))
    refine hwp_o rfl (AC rfl rfl (AP (fun _ _=>BV rfl rfl) rfl (fun c96=>?_) (fun c96=>?_)))
    ·
     replace hy7:=ip hy7 c96
     refine hwp_o rfl (AC rfl rfl (g_pt rfl rfl rfl (h_pf rfl rfl rfl rfl (h_as rfl rfl rfl (h_z ?_)))))
     obtain rfl:=sm hy7
     exact ⟨(),_,⟨rfl,trivial⟩,hB⟩
    ·
     replace hy7:=im hy7 c96
     refine hwp_o rfl (AC rfl rfl (g_pt rfl rfl rfl (h_pf rfl rfl rfl rfl (h_as rfl rfl rfl (h_z ?_)))))
     obtain rfl:=sm hy7
     exact ⟨(),_,⟨rfl,trivial⟩,hB⟩
   ·
    replace hy7:=im hy7 c67
    refine hwp_o rfl (AC rfl rfl (g_mv rfl rfl (h_no rfl rfl rfl rfl rfl (h_no rfl rfl rfl rfl rfl (h_no rfl rfl rfl rfl rfl (h_no rfl rfl rfl rfl rfl (h_no rfl rfl rfl rfl rfl (h_no rfl rfl rfl rfl rfl (h_no rfl rfl rfl rfl rfl (h_no rfl rfl rfl rfl rfl (h_no rfl rfl rfl rfl rfl (h_no rfl rfl rfl rfl rfl (h_no rfl rfl rfl rfl rfl (hwp_o rfl ?_))))))))))))))
    refine AC rfl rfl (g_pf rfl rfl rfl (h_pf rfl rfl rfl rfl (h_as rfl rfl rfl (h_z ?_))))
    obtain rfl:=sm hy7
    exact ⟨(),_,⟨rfl,trivial⟩,hB⟩
 rintro l97 w98 ⟨x9,O99,hs100,hB⟩
 refine AO _ hs100 ?_
 refine Au ?_
 obtain rfl:=sm hm
 exact ret1v rfl (AG rfl) ⟨hB.ext,vBool⟩
noncomputable def Bb (x0:List Itm) (x1:Int) (x2:Int):Option (List Itm) :=
  bnd (atI x0 x2) fun a4=>bnd (atI x0 x1) fun a18=>bnd (atI x0 x1) fun a32=>bnd (atI (x0.set (x1:Int).toNat a4) x2) fun a48=>some ((x0.set (x1:Int).toNat a4).set (x2:Int).toNat a18)
theorem DC {w:World} {O:Lab} {A0:Option Addr} {m0 c0 i0:Nat} {x0:List Itm} (hx0:Rw i0 w O 96 (.slice A0 m0 c0) x0) {x1:Int} (rx1:inI64 x1) {x2:Int} (rx2:inI64 x2) {r:(List Itm)} (hm:Bb x0 x1 x2=some r) :
    Fn Try.prog 132 [(.slice A0 m0 c0),(.int .i64 x1),(.int .i64 x2)] w fun v w'=>∃ O',St (eT i0) w O w' O'∧Rw i0 w' O' 96 (.slice A0 m0 c0) r:=by
 obtain ⟨O0,hE,hz0,hl2⟩:=ent1 (w:=w) (O:=O) hx0.2.2
 obtain rfl:m0=x0.length:=hx0.len.1
 have hx0':=Rw.leave hx0 hz0 hl2 (j:=2) (by decide)
 have hB:Bm w O0 w O0:=Bm.refl
 refine AL Try.func132 rfl Try.ntmps132 rfl ?_
 unfold Bb at hm
 refine BG [(13,[2])] O0 ?_
 refine x_pre (fuel:=5) [] [(0,true),(1,true),(4,true),(5,true),(6,true),(7,true),(8,true),(9,true),(10,true),(11,true),(12,true)] (by kernel_rfl) rfl ?_
 refine h_mv rfl rfl rfl (h_mv rfl rfl rfl (h_mv rfl rfl rfl (h_mv rfl rfl rfl ?_)))
 obtain ⟨a4,e5,hm⟩:=bs hm
 obtain ⟨p7,x6⟩:=AN e5
 obtain ⟨b8,o9,ce10,hA11,hF14,hl12,hd13,rfl,r15,r16,r17⟩:=hx0'.elemF x6
 refine h_iaE (hA:=hA11) (hj:=(Int.toNat_of_nonneg p7).symm) (hlt:=hl12) rfl rfl rfl rfl ?_
 refine h_laB (hl:=rfl) (hb:=fun w' ⟨O',hq⟩=>(Bj (hq.agree (i:=2) (by decide)) hF14 hd13)) rfl rfl rfl ?_
 refine h_mv rfl rfl rfl (h_mv rfl rfl rfl ?_)
 obtain ⟨a18,e19,hm⟩:=bs hm
 obtain ⟨p21,x20⟩:=AN e19
 obtain ⟨b22,o23,ce24,hA25,hF28,hl26,hd27,rfl,r29,r30,r31⟩:=hx0'.elemF x20
 refine h_iaE (hA:=hA25) (hj:=(Int.toNat_of_nonneg p21).symm) (hlt:=hl26) rfl rfl rfl rfl ?_
 refine h_laB (hl:=rfl) (hb:=fun w' ⟨O',hq⟩=>(Bj (hq.agree (i:=2) (by decide)) hF28 hd27)) rfl rfl rfl ?_
 obtain ⟨a32,e33,hm⟩:=bs hm
 obtain ⟨p35,x34⟩:=AN e33
 obtain ⟨b36,o37,ce38,hA39,hF42,hl40,hd41,rfl,r43,r44,r45⟩:=hx0'.elemF x34
 refine h_iaE (hA:=hA39) (hj:=(Int.toNat_of_nonneg p35).symm) (hlt:=hl40) rfl rfl rfl rfl ?_
 refine AK ?_
 refine x_pre (fuel:=3) [2] [(2,true),(3,true)] (by kernel_rfl) rfl ?_
 refine h_mv rfl rfl rfl (h_mv rfl rfl rfl (AK ?_))
 refine x_one (i:=13) (by kernel_rfl) rfl ?_
 refine CM rfl hx0' (a:=a4) (Vb.ofAgg (cs:=[(.int .i64 a4.cost),(.int .i64 a4.order),(.int .i64 a4.id)]) (x:=a4) rfl ⟨rfl,r15,r16,r17⟩) hA39 rfl rfl (AJ x34) fun w46 S47 hx0'=>?_
 have hZ:=S47.lst [2] (fun _ h=>by cases h;decide)
 refine x_go [] hZ (by kernel_rfl) ?_
 refine x_pre (fuel:=1) [] [(14,true)] (by kernel_rfl) rfl ?_
 obtain ⟨a48,e49,hm⟩:=bs hm
 obtain ⟨p51,x50⟩:=AN e49
 obtain ⟨b52,o53,ce54,hA55,hF58,hl56,hd57,rfl,r59,r60,r61⟩:=hx0'.elemF x50
 refine h_iaE (hA:=hA55) (hj:=(Int.toNat_of_nonneg p51).symm) (hlt:=hl56) rfl rfl rfl rfl ?_
 refine AK ?_
 refine x_one (i:=15) (by kernel_rfl) rfl ?_
 refine CM rfl hx0' (a:=a18) (Vb.ofAgg (cs:=[(.int .i64 a18.cost),(.int .i64 a18.order),(.int .i64 a18.id)]) (x:=a18) rfl ⟨rfl,r29,r30,r31⟩) hA55 rfl rfl (AJ x50) fun w62 S63 hx0'=>?_
 refine x_end (by kernel_rfl) ?_
 refine x_nil (by kernel_rfl) ?_
 obtain rfl:=sm hm
 replace hB:=(hB.st S47).st S63
 obtain ⟨O',hS',hz,hl⟩:=hE.leave (fun q=>if q=2 then i0 else 0) rfl hB
 exact ret0n rfl  ⟨O',hS',(Rw.leave hx0' hz (hl 2 (by decide) (by decide)) hx0.2.2)⟩
noncomputable def Co (x0:BxR 98 96 Itm) (x1:An 96 Itm):Option (BxR 98 96 Itm) :=
  bnd (appI 24 x0.l [x1.x]) fun u31=>some (⟨u31⟩:BxR 98 96 Itm)
theorem GE {w:World} {O:Lab} {p0 i0:Nat} {x0:BxR 98 96 Itm} (hx0:Ob i0 w O (.pointer (some ⟨p0,0,none⟩)) x0) {vx1:Value} {x1:An 96 Itm} (hx1:Vb w (Fr 0 w O) vx1 x1) {r:(BxR 98 96 Itm)} (hm:Co x0 x1=some r) :
    Fn Try.prog 131 [(.pointer (some ⟨p0,0,none⟩)),vx1] w fun v w'=>∃ O',St (eT i0) w O w' O'∧Ob i0 w' O' (.pointer (some ⟨p0,0,none⟩)) r:=by
 obtain ⟨O0,hE,hz0,hl2⟩:=ent1 (w:=w) (O:=O) hx0.2
 have hx0':=Ob.leave hx0 hz0 hl2 (j:=2) (by decide)
 have hB:Bm w O0 w O0:=Bm.refl
 replace hx1:=hx1.mono hz0
 obtain ⟨v3,rfl,h4⟩:=hx1.any
 obtain ⟨cs5,rfl,rfl,r6,r7,r8⟩:=h4
 refine AL Try.func131 rfl Try.ntmps131 rfl ?_
 unfold Co at hm
 refine Ah (Ae (o_mv rfl rfl (o_taA rfl rfl ?_)))
 refine o_mv rfl rfl (o_ex rfl rfl rfl (o_ex rfl rfl rfl (BY 3 O0 rfl fun g9 w10 O11 S12 h13=>?_)))
 refine AV h13 rfl rfl rfl (Nat.le_of_ble_eq_true rfl) (by first|exact allOne rfl|simp [Value.cells,Value.oneCell',AQ]) fun w14 S15 h13=>?_
 replace h13:Lc 3 w14 O11 g9 96 [(.int .i64 x1.x.cost),(.int .i64 x1.x.order),(.int .i64 x1.x.id)]:=h13
 refine o_as rfl rfl (o_z ?_)
 refine Ah (Ae (o_mv rfl rfl (o_z ?_)))
 refine Ar rfl ?_
 replace hx0':=(hx0'.st S12).st S15
 obtain ⟨O16,v20,S17,ha19,h18,h21⟩:=BxR.opn hx0' 2 4 (by decide)
 obtain ⟨A22,c23,rfl⟩:=h21.form
 refine BG [(5,[]),(6,[4])] O16 ?_
 refine x_pre (fuel:=5) [] [(1,true),(2,true),(3,true),(4,true)] (by kernel_rfl) rfl ?_
 refine h_mv rfl rfl rfl (h_nc rfl rfl rfl (h_ldC (hc:=fun w' ⟨O',hq⟩=>Blk.cell (i:=0) ((h18.st hq (by decide)).1) rfl) rfl rfl rfl ?_))
 replace h13:=h13.st S17
 refine h_laB (hl:=rfl) (hb:=fun w' ⟨O',hq⟩=>((h13.st hq (by decide)).1).cellsAt) rfl rfl rfl ?_
 refine AK ?_
 refine x_pre (fuel:=4) [4] [(0,true)] (by kernel_rfl) rfl ?_
 refine h_mv rfl rfl rfl (AK ?_)
 refine x_one (i:=5) (by kernel_rfl) rfl ?_
 refine BT 5 (by decide) O16 (xs:=([x1.x]:List Itm)) rfl rfl rfl rfl ⟨(Vb.ofAgg (cs:=[(.int .i64 x1.x.cost),(.int .i64 x1.x.order),(.int .i64 x1.x.id)]) (x:=x1.x) rfl ⟨rfl,r6,r7,r8⟩),trivial⟩ (by decide) (by decide) rfl fun g25 w26 O27 S28 h29=>?_
 have hZ:=S28.lst [] (fun _ h=>h.elim)
 refine x_go [(6,[4])] hZ (by kernel_rfl) ?_
 refine x_one (i:=6) (by kernel_rfl) rfl ?_
 obtain ⟨u31,e32,hm⟩:=bs hm
 obtain ⟨e32,e33,e34⟩:=Cj e32
 replace h21:=h21.st S28
 refine DV rfl h21 (h29.rd) rfl rfl (by decide) e33 e34 rfl fun A35 c36 w37 O38 S39 h40=>?_
 rw [← e32] at h40 ⊢
 have hZ:=S39.lst [4] (fun _ h=>by cases h;decide)
 refine x_go [] hZ (by kernel_rfl) ?_
 refine x_pre (fuel:=1) [] [(7,true)] (by kernel_rfl) rfl ?_
 refine h_nc rfl rfl rfl (AK ?_)
 refine x_one (i:=8) (by kernel_rfl) rfl ?_
 replace h18:=(h18.st S28).st S39
 refine AV h18 rfl rfl rfl (Nat.le_of_ble_eq_true rfl) (by first|exact allOne rfl|simp [Value.cells,Value.oneCell',AQ]) fun w42 S43 h18=>?_
 replace h18:Lc 2 w42 O38 p0 98 [(.slice A35 u31.length c36)]:=h18
 refine x_end (by kernel_rfl) ?_
 refine x_nil (by kernel_rfl) ?_
 replace h40:=h40.st S43
 obtain ⟨O44,S45,hz47,ha48,h46⟩:=BxR.shut (x:=(⟨u31⟩:BxR 98 96 Itm)) (l0:=2) (l1:=4) (by decide) h18 h40
 obtain rfl:=sm hm
 replace hB:=((((((hB.st S12).st S15).st S17).st S28).st S39).st S43).st S45
 obtain ⟨O',hS',hz,hl⟩:=hE.leave (fun q=>if q=2 then i0 else 0) rfl hB
 exact ret0n rfl  ⟨O',hS',(Ob.leave h46 hz (hl 2 (by decide) (by decide)) hx0.2)⟩
noncomputable def Ct (x0:BxR 98 96 Itm):Option ((An 96 Itm)×(BxR 98 96 Itm)) :=
  bnd (chkI ((x0.l.length:Int) - 1)) fun n13=>bnd (atI x0.l n13) fun a16=>bnd (cutI x0.l 0 n13) fun u37=>some ((⟨a16⟩:An 96 Itm),(⟨u37⟩:BxR 98 96 Itm))
theorem Hc {w:World} {O:Lab} {p0 i0:Nat} {x0:BxR 98 96 Itm} (hx0:Ob i0 w O (.pointer (some ⟨p0,0,none⟩)) x0) {r:(An 96 Itm)×(BxR 98 96 Itm)} (hm:Ct x0=some r) :
    Fn Try.prog 130 [(.pointer (some ⟨p0,0,none⟩))] w fun v w'=>∃ O',St (eT i0) w O w' O'∧Ob i0 w' O' (.pointer (some ⟨p0,0,none⟩)) r.2∧Vb w' (Fr 0 w' O') v r.1:=by
 obtain ⟨O0,hE,hz0,hl2⟩:=ent1 (w:=w) (O:=O) hx0.2
 have hx0':=Ob.leave hx0 hz0 hl2 (j:=2) (by decide)
 have hB:Bm w O0 w O0:=Bm.refl
 refine AL Try.func130 rfl Try.ntmps130 rfl ?_
 unfold Ct at hm
 refine Ah (Ae (o_as rfl rfl (o_z ?_)))
 refine Ah (Ae (o_mv rfl rfl (o_nc rfl rfl ?_)))
 obtain ⟨O2,v6,S3,ha5,h4,h7⟩:=BxR.opn hx0' 2 3 (by decide)
 obtain ⟨A8,c9,rfl⟩:=h7.form
 refine o_ld (hc:=Blk.cell (i:=0) (h4.1) rfl) rfl rfl ?_
 refine o_ln rfl rfl ?_
 have l12:x0.l.length≤9223372036854775807:=Nat.le_trans h7.len.2.1 h7.len.2.2
 have r11:inI64 (x0.l.length:Int):=rngNat l12
 obtain ⟨n13,e14,hm⟩:=bs hm
 have r15:=(Ba e14)
 refine o_sbE (he:=e14) rfl rfl rfl ?_
 refine o_as rfl rfl (o_z ?_)
 refine Ah (Ae (o_mv rfl rfl (o_nc rfl rfl (o_ld (hc:=Blk.cell (i:=0) (h4.1) rfl) rfl rfl ?_))))
 refine o_mv rfl rfl ?_
 obtain ⟨a16,e17,hm⟩:=bs hm
 obtain ⟨p19,x18⟩:=AN e17
 obtain ⟨b20,o21,ce22,hA23,hl24,hd25,rfl,r27,r28,r29⟩:=h7.elem x18
 refine o_iaE (hA:=hA23) (hj:=(Int.toNat_of_nonneg p19).symm) (hlt:=hl24) rfl rfl rfl ?_
 refine o_la (hl:=rfl) (hc:=hd25) rfl rfl ?_
 refine BY 4 O2 rfl fun g30 w31 O32 S33 h34=>?_
 refine AV h34 rfl rfl rfl (Nat.le_of_ble_eq_true rfl) (by first|exact allOne rfl|simp [Value.cells,Value.oneCell',AQ]) fun w35 S36 h34=>?_
 replace h34:Lc 4 w35 O32 g30 96 [(.int .i64 a16.cost),(.int .i64 a16.order),(.int .i64 a16.id)]:=h34
 refine o_z ?_
 refine Ah (Ae (o_mv rfl rfl (o_mv rfl rfl (o_nc rfl rfl ?_))))
 replace h4:=(h4.st S33).st S36
 refine o_ld (hc:=Blk.cell (i:=0) (h4.1) rfl) rfl rfl ?_
 refine o_mv rfl rfl ?_
 obtain ⟨u37,e38,hm⟩:=bs hm
 replace h7:=(h7.st S33).st S36
 obtain ⟨h39,e40⟩:=cutRw h7 e38
 refine MS (hc:=e40) rfl rfl rfl ?_
 refine o_nc rfl rfl (AV h4 rfl rfl rfl (Nat.le_of_ble_eq_true rfl) (by first|exact allOne rfl|simp [Value.cells,Value.oneCell',AQ]) fun w42 S43 h4=>?_)
 replace h4:Lc 2 w42 O32 p0 98 [(.slice A8 u37.length c9)]:=h4
 refine o_z ?_
 refine Ah (Ae ?_)
 replace h34:=h34.st S43
 refine o_la (hl:=rfl) (hc:=(h34.1).cellsAt) rfl rfl ?_
 refine o_miA rfl rfl ?_
 refine o_as rfl rfl (o_z ?_)
 refine Au ?_
 replace h39:=h39.st S43
 obtain ⟨O44,S45,hz47,ha48,h46⟩:=BxR.shut (x:=(⟨u37⟩:BxR 98 96 Itm)) (l0:=2) (l1:=3) (by decide) h4 h39
 obtain rfl:=sm hm
 replace hB:=((((hB.st S3).st S33).st S36).st S43).st S45
 obtain ⟨O',hS',hz,hl⟩:=hE.leave (fun q=>if q=2 then i0 else 0) rfl hB
 exact ret1v rfl (AG rfl) ⟨O',hS',(Ob.leave h46 hz (hl 2 (by decide) (by decide)) hx0.2),(vAny (Vb.ofAgg (cs:=[(.int .i64 a16.cost),(.int .i64 a16.order),(.int .i64 a16.id)]) (x:=a16) rfl ⟨rfl,r27,r28,r29⟩))⟩
noncomputable def Ch (x0:BxR 98 96 Itm) (x1:Int):Option (BxR 98 96 Itm) :=
  bnd (lop (ρ:=(BxR 98 96 Itm)) (fun (s5:Int×(BxR 98 96 Itm))=>bnd (chkI (s5.1 - 1)) fun n22=>bnd (quoT n22 2) fun n25=>bnd (if n25=s5.1 then (some true) else (bnd (Bg s5.2.l s5.1 n25) fun q42=>if q42=true then some false else some true):Option Bool) fun y28=>if y28=true then (some (.brk (s5.1,s5.2))) else (bnd (Bb s5.2.l n25 s5.1) fun q73=>some (.next (n25,(⟨q73⟩:BxR 98 96 Itm))))) (x1,x0)) fun res3=>fin res3 fun (s90:Int×(BxR 98 96 Itm))=>some s90.2
theorem Hd {w:World} {O:Lab} {p0 i0:Nat} {x0:BxR 98 96 Itm} (hx0:Ob i0 w O (.pointer (some ⟨p0,0,none⟩)) x0) {x1:Int} (rx1:inI64 x1) {r:(BxR 98 96 Itm)} (hm:Ch x0 x1=some r) :
    Fn Try.prog 68 [(.iface 94 (.pointer (some ⟨p0,0,none⟩))),(.int .i64 x1)] w fun v w'=>∃ O',St (eT i0) w O w' O'∧Ob i0 w' O' (.pointer (some ⟨p0,0,none⟩)) r:=by
 obtain ⟨O0,hE,hz0,hl2⟩:=ent1 (w:=w) (O:=O) hx0.2
 have hx0':=Ob.leave hx0 hz0 hl2 (j:=2) (by decide)
 have hB:Bm w O0 w O0:=Bm.refl
 refine AL Try.func68 rfl Try.ntmps68 rfl ?_
 unfold Ch at hm
 obtain ⟨res3,hL4,hm⟩:=bs hm
 refine AM (aft res3 (fun (s5:Int×(BxR 98 96 Itm)) (x6:Unit)=>[]) (fun s5 x6 w'=>∃ O':Lab,Bm w O0 w' O'∧Ob 2 w' O' (.pointer (some ⟨p0,0,none⟩)) s5.2∧inI64 s5.1)) ?_ ?_
 ·
  refine Al (DL (σ:=Int×(BxR 98 96 Itm)) (X:=Unit) hL4 (fun (s5:Int×(BxR 98 96 Itm)) (x6:Unit)=>[(0,(.iface 94 (.pointer (some ⟨p0,0,none⟩)))),(1,(.int .i64 s5.1))]) _ (fun s5 x6 w'=>∃ O':Lab,Bm w O0 w' O'∧Ob 2 w' O' (.pointer (some ⟨p0,0,none⟩)) s5.2∧inI64 s5.1) _ () ⟨O0,hB,hx0',rx1⟩ ⟨rfl,rfl,trivial⟩ ?_)
  rintro s5 x6 w9 cc11 ⟨O10,hB,h21,r20⟩ hf13 hret14 hbrk15
  refine Al (Ah (Ae (o_mv rfl rfl ?_)))
  obtain ⟨n22,e23,hf13⟩:=bs hf13
  have r24:=(Ba e23)
  refine o_sbE (he:=e23) rfl rfl rfl ?_
  obtain ⟨n25,e26,hf13⟩:=bs hf13
  have r27:=Kq e26 r24
  refine o_qtE (he:=e26) (hr:=r24) rfl rfl rfl ?_
  refine o_as rfl rfl (o_z ?_)
  refine Ah (Ah ?_)
  obtain ⟨y28,hy29,hf13⟩:=bs hf13
  refine AM (fun l' w'=>∃ (x31:Unit) (O':Lab),subs l' [(0,(.iface 94 (.pointer (some ⟨p0,0,none⟩)))),(1,(.int .i64 s5.1)),(4,(.int .i64 n25)),(17,(.bool y28))]∧Bm w O0 w' O'∧Ob 2 w' O' (.pointer (some ⟨p0,0,none⟩)) s5.2) ?_ ?_
  ·
   refine Ae (o_mv rfl rfl (o_mv rfl rfl (o_eeS rfl rfl rfl (fun c32=>?_) fun c32=>?_)))
   ·
    replace hy29:=ip hy29 c32
    refine o_mv rfl rfl (AD rfl rfl rfl rfl (AD rfl rfl rfl rfl (AD rfl rfl rfl rfl (AD rfl rfl rfl rfl (AD rfl rfl rfl rfl (o_pt rfl rfl rfl (o_z ?_)))))))
    obtain rfl:=sm hy29
    exact ⟨(),_,⟨rfl,rfl,rfl,rfl,trivial⟩,hB,h21⟩
   ·
    replace hy29:=im hy29 c32
    refine o_mv rfl rfl (AE rfl rfl (o_mv rfl rfl (AE rfl rfl (o_mv rfl rfl (AE rfl rfl (o_mv rfl rfl (AE rfl rfl ?_)))))))
    obtain ⟨O33,v37,S34,ha36,h35,h38⟩:=BxR.opn h21 2 3 (by decide)
    obtain ⟨A39,c40,rfl⟩:=h38.form
    obtain ⟨q42,e43,hy29⟩:=bs hy29
    refine Hn (O:=O33) (A:=All w9) (R:=fun w' F v=>Vb w' F v q42) (DB (fun _ h=>h) (h38).all r20 r27 e43) (EA (Blk.cell (i:=0) h35.1 rfl)) rfl rfl rfl fun v48 w44 O45 S46 h47=>?_
    obtain rfl:=h47.bool
    cases q42
    case false =>
     replace hy29:=iF hy29
     refine AE rfl rfl (o_nf rfl rfl (o_pf rfl rfl rfl (o_z ?_)))
     replace h35:=h35.st S46
     replace h38:=h38.st S46
     obtain ⟨O49,S50,hz52,ha53,h51⟩:=BxR.shut (x:=s5.2) (l0:=2) (l1:=3) (by decide) h35 h38
     obtain rfl:=sm hy29
     replace hB:=((hB.st S34).st S46).st S50
     exact ⟨(),_,⟨rfl,rfl,rfl,rfl,trivial⟩,hB,h51⟩
    replace hy29:=iT hy29
    refine AE rfl rfl (o_nt rfl rfl (o_pf rfl rfl rfl (o_z ?_)))
    replace h35:=h35.st S46
    replace h38:=h38.st S46
    obtain ⟨O54,S55,hz57,ha58,h56⟩:=BxR.shut (x:=s5.2) (l0:=2) (l1:=3) (by decide) h35 h38
    obtain rfl:=sm hy29
    replace hB:=((hB.st S34).st S46).st S55
    exact ⟨(),_,⟨rfl,rfl,rfl,rfl,trivial⟩,hB,h56⟩
  rintro l59 w60 ⟨x31,O61,hs62,hB,h21⟩
  refine AO _ hs62 ?_
  refine BP rfl (fun c63=>?_) (fun c63=>?_)
  ·
   replace hf13:=ip hf13 c63
   refine At ?_
   obtain rfl:=sm hf13
   refine (?_:Exists _)
   exact ⟨_,(),hbrk15 _ rfl,trivial,_,hB,h21,r20⟩
  ·
   replace hf13:=im' hf13 c63
   refine Am (Ah (Ae (o_mv rfl rfl (o_mv rfl rfl (o_mv rfl rfl ?_)))))
   obtain ⟨O64,v68,S65,ha67,h66,h69⟩:=BxR.opn h21 2 3 (by decide)
   obtain ⟨A70,c71,rfl⟩:=h69.form
   obtain ⟨q73,e74,hf13⟩:=bs hf13
   refine Hm (O:=O64) (DC h69 r27 r20 e74) (EA (Blk.cell (i:=0) h66.1 rfl)) rfl rfl rfl fun v79 w75 O76 S77 h80=>?_
   refine o_z ?_
   refine Ae (o_mv rfl rfl (o_as rfl rfl (o_z ?_)))
   replace h66:=h66.st S77
   obtain ⟨O81,S82,hz84,ha85,h83⟩:=BxR.shut (x:=(⟨q73⟩:BxR 98 96 Itm)) (l0:=2) (l1:=3) (by decide) (by have q:=h66;rw [← h80.len.1.symm] at q;exact q) h80.relen
   obtain rfl:=sm hf13
   refine (?_:Exists _)
   replace hB:=((hB.st S65).st S77).st S82
   exact ⟨_,(),rfl,⟨rfl,rfl,trivial⟩,_,hB,h83,r27⟩
 rintro l86 w87 ⟨s90,x91,rfl,hs89,O88,hB,h21,r20⟩
 replace hm:=AW hm
 obtain rfl:=sm hm
 obtain ⟨O',hS',hz,hl⟩:=hE.leave (fun q=>if q=2 then i0 else 0) rfl hB
 exact ret0n rfl  ⟨O',hS',(Ob.leave h21 hz (hl 2 (by decide) (by decide)) hx0.2)⟩
noncomputable def BZ (x0:BxR 98 96 Itm) (x1:Int) (x2:Int):Option (Bool×(BxR 98 96 Itm)) :=
  bnd (lop (ρ:=Bool×(BxR 98 96 Itm)) (fun (s6:Int×(BxR 98 96 Itm))=>bnd (chkI (2 * s6.1)) fun n23=>bnd (chkI (n23 + 1)) fun n26=>bnd (if x2≤n26 then (some true) else (if n26 < 0 then (some true) else (some false)):Option Bool) fun y29=>if y29=true then (some (.brk (s6.1,s6.2))) else (bnd (bnd (chkI (n26 + 1)) fun n45=>bnd (if n45 < x2 then (bnd (Bg s6.2.l n45 n26) fun q62=>if q62=true then some true else some false) else (some false):Option Bool) fun y48=>if y48=true then (some n45) else (some n26):Option Int) fun y40=>bnd (Bg s6.2.l y40 s6.1) fun q97=>if q97=true then bnd (Bb s6.2.l s6.1 y40) fun q109=>some (.next (y40,(⟨q109⟩:BxR 98 96 Itm))) else some (.brk (s6.1,s6.2)))) (x1,x0)) fun res4=>fin res4 fun (s126:Int×(BxR 98 96 Itm))=>bnd (if x1 < s126.1 then (some true) else (some false):Option Bool) fun y128=>some (y128,s126.2)
theorem Gk {w:World} {O:Lab} {p0 i0:Nat} {x0:BxR 98 96 Itm} (hx0:Ob i0 w O (.pointer (some ⟨p0,0,none⟩)) x0) {x1:Int} (rx1:inI64 x1) {x2:Int} (rx2:inI64 x2) {r:Bool×(BxR 98 96 Itm)} (hm:BZ x0 x1 x2=some r) :
    Fn Try.prog 67 [(.iface 94 (.pointer (some ⟨p0,0,none⟩))),(.int .i64 x1),(.int .i64 x2)] w fun v w'=>∃ O',St (eT i0) w O w' O'∧Ob i0 w' O' (.pointer (some ⟨p0,0,none⟩)) r.2∧Vb w' (Fr 0 w' O') v r.1:=by
 obtain ⟨O0,hE,hz0,hl2⟩:=ent1 (w:=w) (O:=O) hx0.2
 have hx0':=Ob.leave hx0 hz0 hl2 (j:=2) (by decide)
 have hB:Bm w O0 w O0:=Bm.refl
 refine AL Try.func67 rfl Try.ntmps67 rfl ?_
 unfold BZ at hm
 refine Ah (Ae (o_as rfl rfl (o_z ?_)))
 refine Ah (Ae (o_mv rfl rfl (o_as rfl rfl (o_z ?_))))
 refine Ah ?_
 obtain ⟨res4,hL5,hm⟩:=bs hm
 refine AM (aft res4 (fun (s6:Int×(BxR 98 96 Itm)) (x7:Unit)=>[(1,(.int .i64 x1)),(7,(.int .i64 s6.1))]) (fun s6 x7 w'=>∃ O':Lab,Bm w O0 w' O'∧Ob 2 w' O' (.pointer (some ⟨p0,0,none⟩)) s6.2∧inI64 s6.1)) ?_ ?_
 ·
  refine Al (DL (σ:=Int×(BxR 98 96 Itm)) (X:=Unit) hL5 (fun (s6:Int×(BxR 98 96 Itm)) (x7:Unit)=>[(0,(.iface 94 (.pointer (some ⟨p0,0,none⟩)))),(1,(.int .i64 x1)),(2,(.int .i64 x2)),(7,(.int .i64 s6.1))]) _ (fun s6 x7 w'=>∃ O':Lab,Bm w O0 w' O'∧Ob 2 w' O' (.pointer (some ⟨p0,0,none⟩)) s6.2∧inI64 s6.1) _ () ⟨O0,hB,hx0',rx1⟩ ⟨rfl,rfl,rfl,rfl,trivial⟩ ?_)
  rintro s6 x7 w10 cc12 ⟨O11,hB,h22,r21⟩ hf14 hret15 hbrk16
  refine Al (Ah (Ae (o_mv rfl rfl ?_)))
  obtain ⟨n23,e24,hf14⟩:=bs hf14
  have r25:=(Ba e24)
  refine o_mlE (he:=e24) rfl rfl rfl ?_
  obtain ⟨n26,e27,hf14⟩:=bs hf14
  have r28:=(Ba e27)
  refine o_adE (he:=e27) rfl rfl rfl ?_
  refine o_as rfl rfl (o_z ?_)
  refine Ah (Ah ?_)
  obtain ⟨y29,hy30,hf14⟩:=bs hf14
  refine AM (fun l' w'=>∃ (x32:Unit) (O':Lab),subs l' [(0,(.iface 94 (.pointer (some ⟨p0,0,none⟩)))),(1,(.int .i64 x1)),(2,(.int .i64 x2)),(7,(.int .i64 s6.1)),(8,(.int .i64 n26)),(21,(.bool y29))]∧Bm w O0 w' O'∧Ob 2 w' O' (.pointer (some ⟨p0,0,none⟩)) s6.2) ?_ ?_
  ·
   refine Ae (o_mv rfl rfl (o_mv rfl rfl (o_geS rfl rfl rfl (fun c33=>?_) fun c33=>?_)))
   ·
    replace hy30:=ip hy30 c33
    refine o_mv rfl rfl (AD rfl rfl rfl rfl (AD rfl rfl rfl rfl (o_pt rfl rfl rfl (o_z ?_))))
    obtain rfl:=sm hy30
    exact ⟨(),_,⟨rfl,rfl,rfl,rfl,rfl,rfl,trivial⟩,hB,h22⟩
   ·
    replace hy30:=im hy30 c33
    refine o_mv rfl rfl (AE rfl rfl (o_mv rfl rfl (AE rfl rfl (o_ltS rfl rfl rfl (fun c34=>?_) fun c34=>?_))))
    ·
     replace hy30:=ip hy30 c34
     refine o_pf rfl rfl rfl (o_z ?_)
     obtain rfl:=sm hy30
     exact ⟨(),_,⟨rfl,rfl,rfl,rfl,rfl,rfl,trivial⟩,hB,h22⟩
    ·
     replace hy30:=im hy30 c34
     refine o_pf rfl rfl rfl (o_z ?_)
     obtain rfl:=sm hy30
     exact ⟨(),_,⟨rfl,rfl,rfl,rfl,rfl,rfl,trivial⟩,hB,h22⟩
  rintro l35 w36 ⟨x32,O37,hs38,hB,h22⟩
  refine AO _ hs38 ?_
  refine BP rfl (fun c39=>?_) (fun c39=>?_)
  ·
   replace hf14:=ip hf14 c39
   refine At ?_
   obtain rfl:=sm hf14
   refine (?_:Exists _)
   exact ⟨_,(),hbrk16 _ rfl,⟨rfl,rfl,trivial⟩,_,hB,h22,r21⟩
  ·
   replace hf14:=im' hf14 c39
   refine Am (Ah (Ae (o_mv rfl rfl (o_as rfl rfl (o_z ?_)))))
   refine Ah ?_
   obtain ⟨y40,hy41,hf14⟩:=bs hf14
   refine AM (fun l' w'=>∃ (x43:Unit) (O':Lab),subs l' [(0,(.iface 94 (.pointer (some ⟨p0,0,none⟩)))),(1,(.int .i64 x1)),(2,(.int .i64 x2)),(7,(.int .i64 s6.1)),(9,(.int .i64 y40))]∧Bm w O0 w' O'∧Ob 2 w' O' (.pointer (some ⟨p0,0,none⟩)) s6.2∧inI64 y40) ?_ ?_
   ·
    refine Ah (Ae (o_mv rfl rfl ?_))
    obtain ⟨n45,e46,hy41⟩:=bs hy41
    have r47:=(Ba e46)
    refine o_adE (he:=e46) rfl rfl rfl ?_
    refine o_as rfl rfl (o_z ?_)
    refine Ah ?_
    obtain ⟨y48,hy49,hy41⟩:=bs hy41
    refine AM (fun l' w'=>∃ (x51:Unit) (O':Lab),subs l' [(0,(.iface 94 (.pointer (some ⟨p0,0,none⟩)))),(1,(.int .i64 x1)),(2,(.int .i64 x2)),(7,(.int .i64 s6.1)),(9,(.int .i64 n26)),(10,(.int .i64 n45)),(33,(.bool y48))]∧Bm w O0 w' O'∧Ob 2 w' O' (.pointer (some ⟨p0,0,none⟩)) s6.2) ?_ ?_
    ·
     refine Ae (o_mv rfl rfl (o_mv rfl rfl (o_ltS rfl rfl rfl (fun c52=>?_) fun c52=>?_)))
     ·
      replace hy49:=ip hy49 c52
      refine o_mv rfl rfl (AE rfl rfl (o_mv rfl rfl (AE rfl rfl (o_mv rfl rfl (AE rfl rfl (o_mv rfl rfl (AE rfl rfl ?_)))))))
      obtain ⟨O53,v57,S54,ha56,h55,h58⟩:=BxR.opn h22 2 3 (by decide)
      obtain ⟨A59,c60,rfl⟩:=h58.form
      obtain ⟨q62,e63,hy49⟩:=bs hy49
      refine Hn (O:=O53) (A:=All w36) (R:=fun w' F v=>Vb w' F v q62) (DB (fun _ h=>h) (h58).all r47 r28 e63) (EA (Blk.cell (i:=0) h55.1 rfl)) rfl rfl rfl fun v68 w64 O65 S66 h67=>?_
      obtain rfl:=h67.bool
      cases q62
      case false =>
       replace hy49:=iF hy49
       refine o_pt rfl rfl rfl (o_z ?_)
       replace h55:=h55.st S66
       replace h58:=h58.st S66
       obtain ⟨O69,S70,hz72,ha73,h71⟩:=BxR.shut (x:=s6.2) (l0:=2) (l1:=3) (by decide) h55 h58
       obtain rfl:=sm hy49
       replace hB:=((hB.st S54).st S66).st S70
       exact ⟨(),_,⟨rfl,rfl,rfl,rfl,rfl,rfl,rfl,trivial⟩,hB,h71⟩
      replace hy49:=iT hy49
      refine o_pt rfl rfl rfl (o_z ?_)
      replace h55:=h55.st S66
      replace h58:=h58.st S66
      obtain ⟨O74,S75,hz77,ha78,h76⟩:=BxR.shut (x:=s6.2) (l0:=2) (l1:=3) (by decide) h55 h58
      obtain rfl:=sm hy49
      replace hB:=((hB.st S54).st S66).st S75
      exact ⟨(),_,⟨rfl,rfl,rfl,rfl,rfl,rfl,rfl,trivial⟩,hB,h76⟩
     ·
      replace hy49:=im hy49 c52
      refine o_mv rfl rfl (AD rfl rfl rfl rfl (AD rfl rfl rfl rfl (AD rfl rfl rfl rfl (AD rfl rfl rfl rfl (o_pf rfl rfl rfl (o_z ?_))))))
      obtain rfl:=sm hy49
      exact ⟨(),_,⟨rfl,rfl,rfl,rfl,rfl,rfl,rfl,trivial⟩,hB,h22⟩
    rintro l79 w80 ⟨x51,O81,hs82,hB,h67⟩
    refine AO _ hs82 ?_
    refine BP rfl (fun c83=>?_) (fun c83=>?_)
    ·
     replace hy41:=ip hy41 c83
     refine Ae (o_mv rfl rfl (o_as rfl rfl (o_z ?_)))
     obtain rfl:=sm hy41
     exact ⟨(),_,⟨rfl,rfl,rfl,rfl,rfl,trivial⟩,hB,h67,r47⟩
    ·
     replace hy41:=im' hy41 c83
     refine Am ?_
     obtain rfl:=sm hy41
     exact ⟨(),_,⟨rfl,rfl,rfl,rfl,rfl,trivial⟩,hB,h67,r28⟩
   rintro l84 w85 ⟨x43,O86,hs87,hB,h62,r44⟩
   refine AO _ hs87 ?_
   refine Ah (Ah (Ae (o_mv rfl rfl (o_mv rfl rfl (o_mv rfl rfl ?_)))))
   obtain ⟨O88,v92,S89,ha91,h90,h93⟩:=BxR.opn h62 2 3 (by decide)
   obtain ⟨A94,c95,rfl⟩:=h93.form
   obtain ⟨q97,e98,hf14⟩:=bs hf14
   refine Hn (O:=O88) (A:=All w85) (R:=fun w' F v=>Vb w' F v q97) (DB (fun _ h=>h) (h93).all r44 r21 e98) (EA (Blk.cell (i:=0) h90.1 rfl)) rfl rfl rfl fun v103 w99 O100 S101 h102=>?_
   obtain rfl:=h102.bool
   cases q97
   case false =>
    replace hf14:=iF hf14
    refine o_nf rfl rfl (o_z ?_)
    refine Ar rfl (At ?_)
    replace h90:=h90.st S101
    replace h93:=h93.st S101
    obtain ⟨O104,S105,hz107,ha108,h106⟩:=BxR.shut (x:=s6.2) (l0:=2) (l1:=3) (by decide) h90 h93
    obtain rfl:=sm hf14
    refine (?_:Exists _)
    replace hB:=((hB.st S89).st S101).st S105
    exact ⟨_,(),hbrk16 _ rfl,⟨rfl,rfl,trivial⟩,_,hB,h106,r21⟩
   replace hf14:=iT hf14
   refine o_nt rfl rfl (o_z ?_)
   refine Aj rfl (Am (Ah (Ae (o_mv rfl rfl (o_mv rfl rfl (o_mv rfl rfl ?_))))))
   obtain ⟨q109,e110,hf14⟩:=bs hf14
   replace h90:=h90.st S101
   replace h93:=h93.st S101
   refine Hm (O:=O100) (DC h93 r21 r44 e110) (EA (Blk.cell (i:=0) h90.1 rfl)) rfl rfl rfl fun v115 w111 O112 S113 h116=>?_
   refine o_z ?_
   refine Ae (o_mv rfl rfl (o_as rfl rfl (o_z ?_)))
   replace h90:=h90.st S113
   obtain ⟨O117,S118,hz120,ha121,h119⟩:=BxR.shut (x:=(⟨q109⟩:BxR 98 96 Itm)) (l0:=2) (l1:=3) (by decide) (by have q:=h90;rw [← h116.len.1.symm] at q;exact q) h116.relen
   obtain rfl:=sm hf14
   refine (?_:Exists _)
   replace hB:=(((hB.st S89).st S101).st S113).st S118
   exact ⟨_,(),rfl,⟨rfl,rfl,rfl,rfl,trivial⟩,_,hB,h119,r44⟩
 rintro l122 w123 ⟨s126,x127,rfl,hs125,O124,hB,h22,r21⟩
 replace hm:=AW hm
 refine AO _ hs125 ?_
 refine Ah ?_
 obtain ⟨y128,hy129,hm⟩:=bs hm
 refine AM (fun l' w'=>∃ (x131:Unit) (O':Lab),subs l' [(6,(.bool y128))]∧Bm w O0 w' O'∧Ob 2 w' O' (.pointer (some ⟨p0,0,none⟩)) s126.2) ?_ ?_
 ·
  refine Ae (o_mv rfl rfl (o_mv rfl rfl (o_gtS rfl rfl rfl (fun c132=>?_) fun c132=>?_)))
  ·
   replace hy129:=ip hy129 c132
   refine o_as rfl rfl (o_z ?_)
   obtain rfl:=sm hy129
   exact ⟨(),_,⟨rfl,trivial⟩,hB,h22⟩
  ·
   replace hy129:=im hy129 c132
   refine o_as rfl rfl (o_z ?_)
   obtain rfl:=sm hy129
   exact ⟨(),_,⟨rfl,trivial⟩,hB,h22⟩
 rintro l133 w134 ⟨x131,O135,hs136,hB,h22⟩
 refine AO _ hs136 ?_
 refine Au ?_
 obtain rfl:=sm hm
 obtain ⟨O',hS',hz,hl⟩:=hE.leave (fun q=>if q=2 then i0 else 0) rfl hB
 exact ret1v rfl (AG rfl) ⟨O',hS',(Ob.leave h22 hz (hl 2 (by decide) (by decide)) hx0.2),vBool⟩
noncomputable def BH (x0:BxR 98 96 Itm) (x1:An 96 Itm):Option (BxR 98 96 Itm) :=
  bnd (Co x0 (⟨x1.x⟩:An 96 Itm)) fun q9=>bnd (Be q9.l) fun q26=>bnd (chkI (q26 - 1)) fun n34=>bnd (Ch q9 n34) fun q42=>some q42
theorem Gl {w:World} {O:Lab} {p0 i0:Nat} {x0:BxR 98 96 Itm} (hx0:Ob i0 w O (.pointer (some ⟨p0,0,none⟩)) x0) {vx1:Value} {x1:An 96 Itm} (hx1:Vb w (Fr 0 w O) vx1 x1) {r:(BxR 98 96 Itm)} (hm:BH x0 x1=some r) :
    Fn Try.prog 49 [(.iface 94 (.pointer (some ⟨p0,0,none⟩))),vx1] w fun v w'=>∃ O',St (eT i0) w O w' O'∧Ob i0 w' O' (.pointer (some ⟨p0,0,none⟩)) r:=by
 obtain ⟨O0,hE,hz0,hl2⟩:=ent1 (w:=w) (O:=O) hx0.2
 have hx0':=Ob.leave hx0 hz0 hl2 (j:=2) (by decide)
 have hB:Bm w O0 w O0:=Bm.refl
 replace hx1:=hx1.mono hz0
 obtain ⟨v3,rfl,h4⟩:=hx1.any
 obtain ⟨cs5,rfl,rfl,r6,r7,r8⟩:=h4
 refine AL Try.func49 rfl Try.ntmps49 rfl ?_
 unfold BH at hm
 refine Ah (Ae (o_mv rfl rfl (o_mv rfl rfl ?_)))
 obtain ⟨q9,e10,hm⟩:=bs hm
 refine Hm (O:=O0) (GE hx0' (vAny (Vb.ofAgg (cs:=[(.int .i64 x1.x.cost),(.int .i64 x1.x.order),(.int .i64 x1.x.id)]) (x:=x1.x) rfl ⟨rfl,r6,r7,r8⟩)) e10) Ko rfl rfl rfl fun v15 w11 O12 S13 h16=>?_
 refine o_z ?_
 refine Ae (o_mv rfl rfl (o_mv rfl rfl ?_))
 obtain ⟨O17,v21,S18,ha20,h19,h22⟩:=BxR.opn h16 2 3 (by decide)
 obtain ⟨A23,c24,rfl⟩:=h22.form
 obtain ⟨q26,e27,hm⟩:=bs hm
 refine Hn (O:=O17) (A:=All w11) (R:=fun w' F v=>Vb w' F v q26) (DP (fun _ h=>h) (h22).all e27) (EA (Blk.cell (i:=0) h19.1 rfl)) rfl rfl rfl fun v32 w28 O29 S30 h31=>?_
 obtain ⟨rfl,r33⟩:=h31.int
 obtain ⟨n34,e35,hm⟩:=bs hm
 have r36:=(Ba e35)
 refine o_sbE (he:=e35) rfl rfl rfl ?_
 replace h19:=h19.st S30
 replace h22:=h22.st S30
 obtain ⟨O37,S38,hz40,ha41,h39⟩:=BxR.shut (x:=q9) (l0:=2) (l1:=3) (by decide) h19 h22
 obtain ⟨q42,e43,hm⟩:=bs hm
 refine Bh (O:=O37) (Hd h39 r36 e43) rfl rfl fun v48 w44 O45 S46 h49=>?_
 refine o_z ?_
 obtain rfl:=sm hm
 replace hB:=((((hB.st S13).st S18).st S30).st S38).st S46
 obtain ⟨O',hS',hz,hl⟩:=hE.leave (fun q=>if q=2 then i0 else 0) rfl hB
 exact ret0n rfl  ⟨O',hS',(Ob.leave h49 hz (hl 2 (by decide) (by decide)) hx0.2)⟩
noncomputable def BL (x0:BxR 98 96 Itm):Option ((An 96 Itm)×(BxR 98 96 Itm)) :=
  bnd (Be x0.l) fun q11=>bnd (chkI (q11 - 1)) fun n19=>bnd (Bb x0.l 0 n19) fun q22=>bnd (BZ (⟨q22⟩:BxR 98 96 Itm) 0 n19) fun q35=>bnd (Ct q35.2) fun q44=>some ((⟨q44.1.x⟩:An 96 Itm),q44.2)
theorem GF {w:World} {O:Lab} {p0 i0:Nat} {x0:BxR 98 96 Itm} (hx0:Ob i0 w O (.pointer (some ⟨p0,0,none⟩)) x0) {r:(An 96 Itm)×(BxR 98 96 Itm)} (hm:BL x0=some r) :
    Fn Try.prog 48 [(.iface 94 (.pointer (some ⟨p0,0,none⟩)))] w fun v w'=>∃ O',St (eT i0) w O w' O'∧Ob i0 w' O' (.pointer (some ⟨p0,0,none⟩)) r.2∧Vb w' (Fr 0 w' O') v r.1:=by
 obtain ⟨O0,hE,hz0,hl2⟩:=ent1 (w:=w) (O:=O) hx0.2
 have hx0':=Ob.leave hx0 hz0 hl2 (j:=2) (by decide)
 have hB:Bm w O0 w O0:=Bm.refl
 refine AL Try.func48 rfl Try.ntmps48 rfl ?_
 unfold BL at hm
 refine Ah (Ae (o_as rfl rfl (o_z ?_)))
 refine Ah (Ae (o_mv rfl rfl ?_))
 obtain ⟨O2,v6,S3,ha5,h4,h7⟩:=BxR.opn hx0' 2 3 (by decide)
 obtain ⟨A8,c9,rfl⟩:=h7.form
 obtain ⟨q11,e12,hm⟩:=bs hm
 refine Hn (O:=O2) (A:=All w) (R:=fun w' F v=>Vb w' F v q11) (DP (fun _ h=>h) (h7).all e12) (EA (Blk.cell (i:=0) h4.1 rfl)) rfl rfl rfl fun v17 w13 O14 S15 h16=>?_
 obtain ⟨rfl,r18⟩:=h16.int
 obtain ⟨n19,e20,hm⟩:=bs hm
 have r21:=(Ba e20)
 refine o_sbE (he:=e20) rfl rfl rfl ?_
 refine o_as rfl rfl (o_z ?_)
 refine Ah (Ae (o_mv rfl rfl (o_mv rfl rfl ?_)))
 obtain ⟨q22,e23,hm⟩:=bs hm
 replace h4:=h4.st S15
 replace h7:=h7.st S15
 refine Hm (O:=O14) (DC h7 (show inI64 (0) from by decide) r21 e23) (EA (Blk.cell (i:=0) h4.1 rfl)) rfl rfl rfl fun v28 w24 O25 S26 h29=>?_
 refine o_z ?_
 refine Ah (Ae (o_mv rfl rfl (o_mv rfl rfl ?_)))
 replace h4:=h4.st S26
 obtain ⟨O30,S31,hz33,ha34,h32⟩:=BxR.shut (x:=(⟨q22⟩:BxR 98 96 Itm)) (l0:=2) (l1:=3) (by decide) (by have q:=h4;rw [← h29.len.1.symm] at q;exact q) h29.relen
 obtain ⟨q35,e36,hm⟩:=bs hm
 refine Bh (O:=O30) (Gk h32 (show inI64 (0) from by decide) r21 e36) rfl rfl fun v41 w37 O38 S39 h40=>?_
 obtain ⟨h42,h43⟩:=h40
 obtain rfl:=h43.bool
 refine o_z ?_
 refine Ah (Ae (o_mv rfl rfl ?_))
 obtain ⟨q44,e45,hm⟩:=bs hm
 refine Hm (O:=O38) (Hc h42 e45) Ko rfl rfl rfl fun v50 w46 O47 S48 h49=>?_
 obtain ⟨h51,h52⟩:=h49
 obtain ⟨v53,rfl,h54⟩:=h52.any
 obtain ⟨cs55,rfl,rfl,r56,r57,r58⟩:=h54
 refine o_as rfl rfl (o_z ?_)
 refine Au ?_
 obtain rfl:=sm hm
 replace hB:=(((((hB.st S3).st S15).st S26).st S31).st S39).st S48
 obtain ⟨O',hS',hz,hl⟩:=hE.leave (fun q=>if q=2 then i0 else 0) rfl hB
 exact ret1v rfl (AG rfl) ⟨O',hS',(Ob.leave h51 hz (hl 2 (by decide) (by decide)) hx0.2),(vAny (Vb.ofAgg (cs:=[(.int .i64 q44.1.x.cost),(.int .i64 q44.1.x.order),(.int .i64 q44.1.x.id)]) (x:=q44.1.x) rfl ⟨rfl,r56,r57,r58⟩))⟩
end
section
section
variable {α σ ρ : Type}
theorem fin_d {s:σ} {f:σ→Option ρ}:fin (.done s) f=f s:=rfl
theorem if_t {x y:α}:(if true=true then x else y)=x:=rfl
theorem if_f {x y:α}:(if false=true then x else y)=y:=rfl
theorem Hq {f:Nat→α→σ→Option (Ctl σ ρ)} {I:Nat→σ→Prop} {R:ρ→Prop}:∀ (ys:List α) (j:Nat) (s:σ),I j s →
    (∀ k x s,ys[k]?=some x→I (j + k) s→(∃ s',f (j + k) x s=some (.next s')∧I (j + k + 1) s')∨(∃ r,f (j + k) x s=some (.ret r)∧R r)) →
    (∃ s',rng f ys j s=some (.done s')∧I (j + ys.length) s')∨∃ r,rng f ys j s=some (.ret r)∧R r
  | [],j,s,h0,_=>.inl ⟨s,rfl,h0⟩
  | y :: ys,j,s,h0,h=>by
    rcases h 0 y s rfl h0 with ⟨s',h1,h2⟩|⟨r,h1,h2⟩
    · have h1':f j y s=some (.next s'):=h1
      simp only [rng,h1']
      rcases Hq (I:=I) (R:=R) ys (j + 1) s' h2 (fun k x s hk hI=>by
        have:=h (k + 1) x s (by simpa using hk) (by rwa [show j + (k + 1)=j + 1 + k from by omega])
        rwa [show j + (k + 1)=j + 1 + k from by omega] at this) with ⟨s2,h3,h4⟩|h3
      · exact .inl ⟨s2,h3,by rw [List.length_cons,show j + (ys.length + 1)=j + 1 + ys.length from by omega];exact h4⟩
      · exact .inr h3
    · have h1':f j y s=some (.ret r):=h1
      simp only [rng,h1']
      exact .inr ⟨r,rfl,h2⟩
theorem Mk {f:Nat→α→σ→Option (Ctl σ ρ)} {xs:List α} {s₀:σ} (I:Nat→σ→Prop) (R:ρ→Prop) (h0:I 0 s₀)
    (h:∀ k x s,xs[k]?=some x→I k s→(∃ s',f k x s=some (.next s')∧I (k + 1) s')∨(∃ r,f k x s=some (.ret r)∧R r)) :
    (∃ s',rng f xs 0 s₀=some (.done s')∧I xs.length s')∨∃ r,rng f xs 0 s₀=some (.ret r)∧R r:=by
  have:=Hq (f:=f) (I:=I) (R:=R) xs 0 s₀ h0 (fun k x s hk hI=>by rw [Nat.zero_add] at hI ⊢;exact h k x s hk hI)
  rwa [Nat.zero_add] at this
theorem Ed {f:Nat→α→σ→Option (Ctl σ ρ)} {xs:List α} {s₀:σ} (I:Nat→σ→Prop) (h0:I 0 s₀) (h:∀ k x s,xs[k]?=some x→I k s→∃ s',f k x s=some (.next s')∧I (k + 1) s') :
    ∃ s',rng f xs 0 s₀=some (.done s')∧I xs.length s':=by
  rcases Mk I (fun _=>False) h0 (fun k x s hk hI=>.inl (h k x s hk hI)) with h|⟨_,_,h⟩
  · exact h
  · exact h.elim
theorem Kr {f:Nat→α→σ→Option (Ctl σ ρ)} {xs:List α} (g:Nat→σ) (h:∀ k x,xs[k]?=some x→f k x (g k)=some (.next (g (k + 1)))):rng f xs 0 (g 0)=some (.done (g xs.length)):=by
  obtain ⟨s',h1,h2⟩:=Ed (f:=f) (xs:=xs) (s₀:=g 0) (fun k s=>s=g k) rfl (fun k x s hk hI=>⟨_,by rw [hI];exact h k x hk,rfl⟩)
  rw [h1,h2]
theorem FF {f:Nat→α→σ→Option (Ctl σ ρ)} {xs:List α} {s₀:σ} (g:Nat→σ) (h0:s₀=g 0) (h:∀ k x,xs[k]?=some x→f k x (g k)=some (.next (g (k + 1)))):rng f xs 0 s₀=some (.done (g xs.length)):=by
  rw [h0];exact Kr g h
theorem LL {f:Nat→σ→Option (Ctl σ ρ)} {N:Nat} (g:Nat→σ) (h:∀ k,k < N→f k (g k)=some (.next (g (k + 1)))):rngN f N (g 0)=some (.done (g N)):=by
  have:=Kr (f:=fun _ k s=>f k s) (xs:=List.range N) g (fun k x hk=>by
    obtain ⟨hlt,rfl⟩:=List.getElem?_eq_some_iff.1 hk
    simpa using h k (by simpa using hlt))
  rwa [List.length_range] at this
theorem Ja {f:Nat→σ→Option (Ctl σ ρ)} {N:Nat} {s₀:σ} (g:Nat→σ) (h0:s₀=g 0) (h:∀ k,k < N→f k (g k)=some (.next (g (k + 1)))):rngN f N s₀=some (.done (g N)):=by
  rw [h0];exact LL g h
end
end
section
section
variable {α σ ρ β : Type}
theorem Ks {f:σ→Option (Ctl σ ρ)} (I:σ→Prop) (B:σ→Prop) (R:ρ→Prop) (μ:σ→Nat) (h:∀ s,I s→(∃ s',f s=some (.next s')∧I s'∧μ s' < μ s)∨(∃ s',f s=some (.brk s')∧B s')∨∃ r,f s=some (.ret r)∧R r) :
    ∀ s,I s→(∃ s',lop f s=some (.done s')∧B s')∨∃ r,lop f s=some (.ret r)∧R r:=by
  have key:∀ (n:Nat) s,I s→μ s < n→(∃ s',lop f s=some (.done s')∧B s')∨∃ r,lop f s=some (.ret r)∧R r:=by
    intro n
    induction n with
    | zero=>intro s _ hn;omega
    | succ n ih =>
      intro s hI hn
      rw [DI]
      rcases h s hI with ⟨s',h1,h2,h3⟩|⟨s',h1,h2⟩|⟨r,h1,h2⟩
      · rw [h1];exact ih s' h2 (by omega)
      · rw [h1];exact .inl ⟨s',rfl,h2⟩
      · rw [h1];exact .inr ⟨r,rfl,h2⟩
  exact fun s hI=>key (μ s + 1) s hI (by omega)
theorem JC {f:σ→Option (Ctl σ ρ)} {s₀:σ} {k:Fin σ ρ→Option β} {P:β→Prop} (I:σ→Prop) (B:σ→Prop) (R:ρ→Prop) (μ:σ→Nat) (h0:I s₀)
    (h:∀ s,I s→(∃ s',f s=some (.next s')∧I s'∧μ s' < μ s)∨(∃ s',f s=some (.brk s')∧B s')∨∃ r,f s=some (.ret r)∧R r)
    (hb:∀ s,B s→∃ r,k (.done s)=some r∧P r) (hr:∀ q,R q→∃ r,k (.ret q)=some r∧P r):∃ r,bnd (lop f s₀) k=some r∧P r:=by
  rcases Ks I B R μ h s₀ h0 with ⟨s,h1,h2⟩|⟨q,h1,h2⟩
  · rw [h1,AB];exact hb s h2
  · rw [h1,AB];exact hr q h2
theorem Ml {f:σ→Option (Ctl σ ρ)} {s₀:σ} {k:Fin σ ρ→Option β} {r:Option β} (I:σ→Prop) (B:σ→Prop) (μ:σ→Nat) (h0:I s₀)
    (h:∀ s,I s→(∃ s',f s=some (.next s')∧I s'∧μ s' < μ s)∨(∃ s',f s=some (.brk s')∧B s')) (hb:∀ s,B s→k (.done s)=r):bnd (lop f s₀) k=r:=by
  rcases Ks I B (fun _=>False) μ (fun s hI=>(h s hI).imp id .inl) s₀ h0 with ⟨s,h1,h2⟩|⟨q,_,h2⟩
  · rw [h1,AB];exact hb s h2
  · exact h2.elim
theorem Hr {f:Nat→α→σ→Option (Ctl σ ρ)} {xs:List α} {s₀:σ} {k:Fin σ ρ→Option β} {P:β→Prop} (I:Nat→σ→Prop) (R:ρ→Prop) (h0:I 0 s₀)
    (h:∀ i x s,xs[i]?=some x→I i s→(∃ s',f i x s=some (.next s')∧I (i + 1) s')∨∃ q,f i x s=some (.ret q)∧R q)
    (hb:∀ s,I xs.length s→∃ r,k (.done s)=some r∧P r) (hr:∀ q,R q→∃ r,k (.ret q)=some r∧P r):∃ r,bnd (rng f xs 0 s₀) k=some r∧P r:=by
  have key:∀ (ys:List α) (j:Nat) (s:σ),(∀ i,ys[i]?=xs[j + i]?)→j + ys.length=xs.length→I j s→∃ r,bnd (rng f ys j s) k=some r∧P r:=by
    intro ys
    induction ys with
    | nil=>intro j s _ hl hI;exact hb s (by simp at hl;rw [← hl];exact hI)
    | cons y ys ih =>
      intro j s hg hl hI
      have hy:xs[j]?=some y:=by have:=hg 0;simpa using this.symm
      simp only [rng]
      rcases h j y s hy hI with ⟨s',h1,h2⟩|⟨q,h1,h2⟩
      · rw [h1]
        exact ih (j + 1) s' (fun i=>by have:=hg (i + 1);rw [show j + 1 + i=j + (i + 1) from by omega,← this];simp) (by simp at hl;omega) h2
      · rw [h1,AB];exact hr q h2
  exact key xs 0 s₀ (fun i=>by rw [Nat.zero_add]) (by omega) h0
theorem IN {f:Nat→α→σ→Option (Ctl σ ρ)} {xs:List α} {s₀:σ} {k:Fin σ ρ→Option β} {r:Option β} (I:Nat→σ→Prop) (h0:I 0 s₀)
    (h:∀ i x s,xs[i]?=some x→I i s→∃ s',f i x s=some (.next s')∧I (i + 1) s') (hb:∀ s,I xs.length s→k (.done s)=r):bnd (rng f xs 0 s₀) k=r:=by
  obtain ⟨s,h1,h2⟩:=Ed I h0 h
  rw [h1,AB]
  exact hb s h2
end
end
section
open Go Go.RowKit
attribute [local irreducible] ewp owp hwp hwq hws Ev Evg Fn retPost loud loudS Res1
def exts (n:Nat) (s:List Int):List (List Int):=(List.range n).map fun x:Nat=>s ++ [(x:Int)]
def grows (out:List (List Int)) (k:Int):List (List Int):=out.flatMap (exts k.toNat)
def statesL (vars:List Int):List (List Int):=vars.foldl grows [[]]
theorem DW {vars:List Int} {k:Nat} {n:Int} (h:vars[k]?=some n):statesL (vars.take (k + 1))=grows (statesL (vars.take k)) n:=by
  unfold statesL
  rw [List.take_add_one,h,List.foldl_append];rfl
theorem Ll (n:Nat) (s:List Int):exts (n + 1) s=exts n s ++ [s ++ [(n:Int)]]:=by unfold exts;rw [List.range_succ];simp
theorem ET (n:Nat) (s:List Int):(exts n s).length=n:=by simp [exts]
theorem FR (n:Nat):∀ l:List (List Int),(l.flatMap (exts n)).length=l.length * n
  | []=>by simp
  | s :: l=>by rw [List.flatMap_cons,List.length_append,ET,FR n l,List.length_cons,Nat.add_mul];omega
theorem Lm {α β:Type} (f:α→List β) {l:List α} {k:Nat} {x:α} (h:l[k]?=some x):(l.take (k + 1)).flatMap f=(l.take k).flatMap f ++ f x:=by
  rw [List.take_add_one,h];simp
theorem JW (vars:List Int):∀ (k:Nat),k≤vars.length→∀ s∈statesL (vars.take k),s.length=k:=by
  intro k
  induction k with
  | zero=>intro _ s hs;simp [statesL] at hs;simp [hs]
  | succ k ih =>
    intro hk s hs
    obtain ⟨n,hn⟩:∃ n,vars[k]?=some n:=⟨vars[k],List.getElem?_eq_getElem (by omega)⟩
    rw [DW hn] at hs
    obtain ⟨s',h1,h2⟩:=List.mem_flatMap.1 hs
    obtain ⟨x,_,rfl⟩:=List.mem_map.1 h2
    simp [ih (by omega) s' h1]
end
section
open Go Go.RowKit
def prodV:List Int→Nat→Nat
  | [],n=>n
  | k :: r,n=>prodV r (n * k.toNat)
theorem FS:∀ (vars:List Int) (out:List (List Int)),(vars.foldl grows out).length=prodV vars out.length
  | [],_=>rfl
  | k :: r,out=>by
    simp only [List.foldl_cons,prodV]
    rw [FS r,grows,FR]
theorem JX (vars:List Int):(statesL vars).length=prodV vars 1:=FS vars [[]]
theorem Jb {most:Nat}:∀ (vars:List Int) (n:Nat),(∀ x∈vars,1≤x)→1≤n→manyF most vars (n:Int)≤most→∀ k,prodV (vars.take k) n≤most
  | [],n,_,_,h,k=>by simp only [List.take_nil,prodV];simp only [manyF] at h;omega
  | x :: r,n,hx,hn,h,k=>by
    have h1:1≤x:=hx x List.mem_cons_self
    simp only [manyF] at h
    have hmax:max x 0=x:=by omega
    rw [hmax] at h
    obtain ⟨m,rfl⟩:∃ m:Nat,x=(m:Int):=⟨x.toNat,by omega⟩
    by_cases hm:(m:Int)≤most
    · rw [show min (m:Int) (most + 1)=(m:Int) from by omega,← Int.natCast_mul] at h
      have hnm:n≤n * m:=Nat.le_mul_of_pos_right n (by omega)
      by_cases hc:(most:Int) < ((n * m:Nat):Int)
      · rw [if_pos hc] at h;omega
      · rw [if_neg hc] at h
        cases k with
        | zero=>simp only [List.take_zero,prodV];omega
        | succ k =>
          simp only [List.take_succ_cons,prodV,Int.toNat_natCast]
          exact Jb r (n * m) (fun y hy=>hx y (List.mem_cons_of_mem _ hy)) (by omega) h k
    · exfalso
      rw [show min (m:Int) (most + 1)=((most + 1:Nat):Int) from by omega,← Int.natCast_mul] at h
      have:most + 1≤n * (most + 1):=Nat.le_mul_of_pos_left _ hn
      rw [if_pos (by omega)] at h
      omega
theorem Hs {y x:Int} {vs s:List Int}:StateOk (y :: vs) (x :: s)↔(0≤x∧x < y)∧StateOk vs s:=by
  constructor
  · intro h
    exact ⟨h.2 0 x y rfl rfl,by have:=h.1;simpa using this,fun i a b ha hb=>h.2 (i + 1) a b (by simpa using ha) (by simpa using hb)⟩
  · rintro ⟨h1,h2,h3⟩
    refine ⟨by simpa using h2,fun i a b ha hb=>?_⟩
    cases i with
    | zero=>simp at ha hb;subst ha;subst hb;exact h1
    | succ i=>exact h3 i a b (by simpa using ha) (by simpa using hb)
theorem JY:StateOk [] []:=⟨rfl,fun i a b ha=>by simp at ha⟩
theorem JD {n:Nat} {s t:List Int}:t∈exts n s↔∃ x:Nat,x < n∧t=s ++ [(x:Int)]:=by
  unfold exts
  rw [List.mem_map]
  constructor
  · rintro ⟨x,hx,rfl⟩;exact ⟨x,List.mem_range.1 hx,rfl⟩
  · rintro ⟨x,hx,rfl⟩;exact ⟨x,List.mem_range.2 hx,rfl⟩
theorem FT:∀ (vars:List Int) (out:List (List Int)) (s:List Int),s∈vars.foldl grows out↔∃ s0∈out,∃ r,s=s0 ++ r∧StateOk vars r
  | [],out,s=>by
    constructor
    · intro h;exact ⟨s,h,[],by simp,JY⟩
    · rintro ⟨s0,h,r,rfl,hr⟩
      have:r=[]:=List.eq_nil_of_length_eq_zero hr.1
      subst this;simpa using h
  | k :: vs,out,s=>by
    simp only [List.foldl_cons]
    rw [FT vs (grows out k) s]
    constructor
    · rintro ⟨s1,h1,r,rfl,hr⟩
      obtain ⟨s0,h0,h2⟩:=List.mem_flatMap.1 h1
      obtain ⟨x,hx,rfl⟩:=JD.1 h2
      exact ⟨s0,h0,(x:Int) :: r,by simp,Hs.2 ⟨⟨by omega,by omega⟩,hr⟩⟩
    · rintro ⟨s0,h0,r,rfl,hr⟩
      cases r with
      | nil=>have:=hr.1;simp at this
      | cons x r =>
        obtain ⟨⟨h1,h2⟩,h3⟩:=Hs.1 hr
        exact ⟨s0 ++ [x],List.mem_flatMap.2 ⟨s0,h0,JD.2 ⟨x.toNat,by omega,by rw [show ((x.toNat:Nat):Int)=x from by omega]⟩⟩,r,by simp,h3⟩
theorem En {vars s:List Int}:s∈statesL vars↔StateOk vars s:=by
  unfold statesL
  rw [FT]
  constructor
  · rintro ⟨s0,h0,r,rfl,hr⟩
    have:s0=[]:=by simpa using h0
    subst this;exact hr
  · intro h;exact ⟨[],by simp,s,rfl,h⟩
theorem SmallOk.ok {t:Tsk} (h:SmallOk t):TaskOk t:=h.2.2.2.1
theorem SmallOk.states {t:Tsk} (h:SmallOk t):∀ k,(statesL (t.vars.take k)).length≤512:=fun k=>by
  rw [JX]
  refine Jb (most:=512) t.vars 1 (fun x hx=>?_) (Nat.le_refl _) h.2.2.2.2 k
  obtain ⟨i,hi,rfl⟩:=List.getElem_of_mem hx
  exact (h.ok.vars i _ (List.getElem?_eq_getElem hi)).1
theorem SmallOk.many {t:Tsk} (h:SmallOk t):(statesL t.vars).length≤512:=by
  have:=h.states t.vars.length
  rwa [List.take_length] at this
end
section
open Go Go.RowKit
attribute [local irreducible] ewp owp hwp hwq hws Ev Evg Fn retPost loud loudS Res1
structure Edg where
  src:Int
  op:Int
  dst:Int
instance:Rp Edg where
  isAgg:=true
  size:=3
  R w F cs x:=cs=[.int .i64 x.src,.int .i64 x.op,.int .i64 x.dst]∧inI64 x.src∧inI64 x.op∧inI64 x.dst
  len:=by rintro w F cs x ⟨rfl,h0,h1,h2⟩;rfl
  one:=by rintro w F cs x ⟨rfl,h0,h1,h2⟩ u hu;simp at hu;rcases hu with rfl|rfl|rfl<;>first|rfl|exact Vb.one rfl (by assumption)
  agree:=by rintro w w' F cs x ⟨rfl,h0,h1,h2⟩ ha;exact ⟨rfl,h0,h1,h2⟩
  mono:=by rintro w F G cs x ⟨rfl,h0,h1,h2⟩ ha;exact ⟨rfl,h0,h1,h2⟩
noncomputable def CQ (x0:List Int):Option (List (List Int)) :=
  bnd (rng (ρ:=(List (List Int))) (fun (k24:Nat) (a25:Int) (s22:(List (List Int)))=>bnd (rng (ρ:=Ctl (List (List Int)) (List (List Int))) (fun (k53:Nat) (a54:List Int) (s51:(List (List Int)))=>bnd (natI a25) fun N92=>bnd (rngN (ρ:=Ctl (List (List Int)) (Ctl (List (List Int)) (List (List Int)))) (fun (k83:Nat) (s81:(List (List Int)))=>bnd (appI 8 ([]:List Int) a54) fun u104=>bnd (appI 8 u104 [(k83:Int)]) fun u115=>bnd (appI 24 s81 [u115]) fun u129=>some (.next u129)) N92 s51) fun res79=>fin res79 fun (s145:(List (List Int)))=>some (.next s145)) s22 0 ([]:List (List Int))) fun res49=>fin res49 fun (s151:(List (List Int)))=>some (.next s151)) x0 0 [([]:List Int)]) fun res20=>fin res20 fun (s159:(List (List Int)))=>some s159
theorem GR {w:World} {A:Nat→Prop} (hA:∀ k,A k→k < w.heap.size) {vx0:Value} {x0:List Int} (hx0:Vb w A vx0 x0) {r:(List (List Int))} (hm:CQ x0=some r) :
    Fn Try.prog 45 [vx0] w fun v w'=>Ext w w'∧Vb w' (upA A w w') v r:=by
 obtain ⟨O,hB,hA0⟩:=enter hA
 replace hx0:=hx0.mono hA0
 obtain ⟨A2,c3,rfl⟩:=hx0.form
 refine AL Try.func45 rfl Try.ntmps45 rfl ?_
 unfold CQ at hm
 refine Ah (Ae (o_as rfl rfl (o_z ?_)))
 refine Ah (Ae (BT 2 (by decide) O (xs:=(([]:List Int):List Int)) rfl rfl rfl rfl trivial (by decide) (by decide) rfl fun g4 w5 O6 S7 h8=>?_))
 obtain ⟨O10,S11,h8⟩:=h8.freeze
 refine BT 3 (by decide) O10 (xs:=([([]:List Int)]:List (List Int))) rfl rfl rfl rfl ⟨h8,trivial⟩ (by decide) (by decide) rfl fun g12 w13 O14 S15 h16=>?_
 refine o_as rfl rfl (o_z ?_)
 refine Ah (Ah (Ae (o_mv rfl rfl (o_ln rfl rfl ?_))))
 replace hx0:=((hx0.st S7).st S11).st S15
 have l19:x0.length≤9223372036854775807:=Nat.le_trans hx0.len.2.1 hx0.len.2.2
 have r18:inI64 (x0.length:Int):=rngNat l19
 refine o_mv rfl rfl (o_z ?_)
 obtain ⟨res20,hL21,hm⟩:=bs hm
 refine AM (aft res20 (fun (s22:(List (List Int))) (x23:(Option Addr×Nat))=>[(3,(.slice x23.1 s22.length x23.2))]) (fun s22 x23 w'=>∃ O':Lab,Bs w A w' O'∧Vb w' (Fr 0 w' O') (.slice x23.1 s22.length x23.2) s22)) ?_ ?_
 ·
  refine Al ?_
  obtain ⟨O37,S38,h16⟩:=h16.freeze
  replace hB:=(((hB.st S7).st S11).st S15).st S38
  replace hx0:=hx0.st S38
  refine BF (σ:=(List (List Int))) (X:=(Option Addr×Nat)) (x0.length) hL21 rfl l19 (fun (s22:(List (List Int))) (x23:(Option Addr×Nat))=>[(3,(.slice x23.1 s22.length x23.2)),(12,(.slice A2 x0.length c3))]) _ (fun s22 x23 w'=>∃ O':Lab,Bs w A w' O'∧Vb w' (Fr 0 w' O') (.slice x23.1 s22.length x23.2) s22∧Vb w' (Fr 0 w' O') (.slice A2 x0.length c3) x0) _ ((some ⟨g12,0,none⟩),1) ⟨O37,hB,h16,hx0⟩ ⟨rfl,rfl,rfl,rfl,trivial⟩ (fun _ _=>⟨rfl,rfl⟩) (fun _ _=>⟨rfl,trivial⟩) (fun _ _ _ ⟨O',hB,h36,hx0⟩=>⟨O',hB,h36⟩) ⟨rfl,rfl,rfl⟩ ⟨rfl,rfl⟩ ?_
  rintro k24 a25 s22 x23 w26 cc28 hx29 ⟨O27,hB,h36,hx0⟩ hf30 hret31 hbrk32
  have rk24:inI64 (k24:Int):=rngK hx29 l19
  refine Ah (Ae ?_)
  obtain ⟨b39,o40,ce41,hA42,hl43,hd44,rfl,r46⟩:=hx0.elem' hx29
  refine o_iaE (hA:=hA42) (hj:=rfl) (hlt:=hl43) rfl rfl rfl ?_
  refine o_ld (hc:=cat0 hd44) rfl rfl ?_
  refine o_as rfl rfl (o_z ?_)
  refine Ah (Ae (o_as rfl rfl (o_z ?_)))
  refine Ah (Ah (Ae (o_mv rfl rfl (o_ln rfl rfl ?_))))
  have l48:s22.length≤9223372036854775807:=Nat.le_trans h36.len.2.1 h36.len.2.2
  have r47:inI64 (s22.length:Int):=rngNat l48
  refine o_mv rfl rfl (o_z ?_)
  obtain ⟨res49,hL50,hf30⟩:=bs hf30
  refine AM (aft res49 (fun (s51:(List (List Int))) (x52:(Option Addr×Nat))=>[(6,(.slice x52.1 s51.length x52.2)),(12,(.slice A2 x0.length c3)),(13,(.int .i64 (x0.length:Int))),(14,(.int .i64 (k24:Int)))]) (fun s51 x52 w'=>∃ O':Lab,Bs w A w' O'∧Rw 5 w' O' 22 (.slice x52.1 s51.length x52.2) s51∧Vb w' (Fr 0 w' O') (.slice A2 x0.length c3) x0)) ?_ ?_
  ·
   refine Al (BF (σ:=(List (List Int))) (X:=(Option Addr×Nat)) (s22.length) hL50 rfl l48 (fun (s51:(List (List Int))) (x52:(Option Addr×Nat))=>[(5,(.int .i64 a25)),(6,(.slice x52.1 s51.length x52.2)),(12,(.slice A2 x0.length c3)),(13,(.int .i64 (x0.length:Int))),(14,(.int .i64 (k24:Int))),(18,(.slice x23.1 s22.length x23.2))]) _ (fun s51 x52 w'=>∃ O':Lab,Bs w A w' O'∧Rw 5 w' O' 22 (.slice x52.1 s51.length x52.2) s51∧Vb w' (Fr 0 w' O') (.slice A2 x0.length c3) x0∧Vb w' (Fr 0 w' O') (.slice x23.1 s22.length x23.2) s22) _ (none,0) ⟨O27,hB,(Rw.nil 5 (by decide)),hx0,h36⟩ ⟨rfl,rfl,rfl,rfl,rfl,rfl,rfl,rfl,trivial⟩ (fun _ _=>⟨rfl,rfl⟩) (fun _ _=>⟨rfl,rfl,rfl,rfl,trivial⟩) (fun _ _ _ ⟨O',hB,h66,hx0,h36⟩=>⟨O',hB,h66,hx0⟩) ⟨rfl,rfl,rfl⟩ ⟨rfl,rfl⟩ ?_)
   rintro k53 a54 s51 x52 w55 cc57 hx58 ⟨O56,hB,h66,hx0,h36⟩ hf59 hret60 hbrk61
   have rk53:inI64 (k53:Int):=rngK hx58 l48
   refine Ah (Ae ?_)
   obtain ⟨b68,o69,ce70,hA71,hl72,hd73,v75,rfl,h76⟩:=h36.elem' hx58
   replace h76:=Vb.of_slice h76
   obtain ⟨A77,c78,rfl⟩:=h76.form
   refine o_iaE (hA:=hA71) (hj:=rfl) (hlt:=hl72) rfl rfl rfl ?_
   refine o_ld (hc:=cat0 hd73) rfl rfl ?_
   refine o_as rfl rfl (o_z ?_)
   refine Ah (Ae (o_mv rfl rfl (o_mv rfl rfl (o_z ?_))))
   obtain ⟨N92,hN93,hf59⟩:=bs hf59
   replace hN93:=Lf hN93
   obtain ⟨res79,hL80,hf59⟩:=bs hf59
   refine AM (aft res79 (fun (s81:(List (List Int))) (x82:(Option Addr×Nat))=>[(5,(.int .i64 a25)),(6,(.slice x82.1 s81.length x82.2)),(12,(.slice A2 x0.length c3)),(13,(.int .i64 (x0.length:Int))),(14,(.int .i64 (k24:Int))),(18,(.slice x23.1 s22.length x23.2)),(19,(.int .i64 (s22.length:Int))),(20,(.int .i64 (k53:Int)))]) (fun s81 x82 w'=>∃ O':Lab,Bs w A w' O'∧Rw 5 w' O' 22 (.slice x82.1 s81.length x82.2) s81∧Vb w' (Fr 0 w' O') (.slice A2 x0.length c3) x0∧Vb w' (Fr 0 w' O') (.slice x23.1 s22.length x23.2) s22)) ?_ ?_
   ·
    refine Al (Jx (σ:=(List (List Int))) (X:=(Option Addr×Nat)) N92 hL80 (Km hN93 r46) (fun (s81:(List (List Int))) (x82:(Option Addr×Nat))=>[(5,(.int .i64 a25)),(6,(.slice x82.1 s81.length x82.2)),(8,(.slice A77 a54.length c78)),(12,(.slice A2 x0.length c3)),(13,(.int .i64 (x0.length:Int))),(14,(.int .i64 (k24:Int))),(18,(.slice x23.1 s22.length x23.2)),(19,(.int .i64 (s22.length:Int))),(20,(.int .i64 (k53:Int)))]) _ (fun s81 x82 w'=>∃ O':Lab,Bs w A w' O'∧Rw 5 w' O' 22 (.slice x82.1 s81.length x82.2) s81∧Vb w' (Fr 0 w' O') (.slice A77 a54.length c78) a54∧Vb w' (Fr 0 w' O') (.slice A2 x0.length c3) x0∧Vb w' (Fr 0 w' O') (.slice x23.1 s22.length x23.2) s22) _ (x52.1,x52.2) ⟨O56,hB,h66,h76,hx0,h36⟩ ⟨rfl,(congrArg (fun z=>some (Value.int .i64 z)) hN93),rfl,rfl,rfl,rfl,rfl,rfl,rfl,rfl,rfl,trivial⟩ (fun _ _=>⟨rfl,rfl⟩) (fun _ _=>⟨rfl,rfl,rfl,rfl,rfl,rfl,rfl,rfl,trivial⟩) (fun _ _ _ ⟨O',hB,h96,h76,hx0,h36⟩=>⟨O',hB,h96,hx0,h36⟩) ⟨rfl,rfl,rfl⟩ ⟨rfl,rfl⟩ ?_)
    rintro k83 s81 x82 w85 cc87 hx88 ⟨O86,hB,h96,h76,hx0,h36⟩ hf89 hret90 hbrk91
    have rk83:inI64 (k83:Int):=rngKN hx88 (Km hN93 r46)
    refine Ah (Ae (o_mv rfl rfl (o_as rfl rfl (o_z ?_))))
    refine Ae (o_mv rfl rfl (BT 4 (by decide) O86 (xs:=(([]:List Int):List Int)) rfl rfl rfl rfl trivial (by decide) (by decide) rfl fun g98 w99 O100 S101 h102=>?_))
    refine o_mv rfl rfl ?_
    obtain ⟨u104,e105,hf89⟩:=bs hf89
    obtain ⟨e105,e106,e107⟩:=Cj e105
    replace h76:=h76.st S101
    refine DV rfl h102 (h76.rd) rfl rfl (by decide) e106 e107 rfl fun A108 c109 w110 O111 S112 h113=>?_
    rw [← e105] at h113 ⊢
    refine o_mv rfl rfl ?_
    obtain ⟨u115,e116,hf89⟩:=bs hf89
    obtain ⟨e116,e117,e118⟩:=Cj e116
    refine CW rfl (a:=(k83:Int)) h113 (vInt rk83) (fun _=>rfl) rfl (by decide) (by decide) e117 e118 ⟨rfl,rfl⟩ fun g119 A120 c121 w122 O123 S124 h125=>?_
    rw [← e116] at h125 ⊢
    obtain ⟨O127,S128,h125⟩:=h125.freeze
    obtain ⟨u129,e130,hf89⟩:=bs hf89
    obtain ⟨e130,e131,e132⟩:=Cj e130
    replace h96:=(((h96.st S101).st S112).st S124).st S128
    refine CW rfl (a:=u115) h96 h125 (fun _=>rfl) rfl (by decide) (by decide) e131 e132 ⟨rfl,rfl⟩ fun g133 A134 c135 w136 O137 S138 h139=>?_
    rw [← e130] at h139 ⊢
    refine o_as rfl rfl (o_z ?_)
    obtain rfl:=sm hf89
    refine (?_:Exists _)
    replace hx0:=((((hx0.st S101).st S112).st S124).st S128).st S138
    replace hB:=((((hB.st S101).st S112).st S124).st S128).st S138
    replace h36:=((((h36.st S101).st S112).st S124).st S128).st S138
    replace h76:=(((h76.st S112).st S124).st S128).st S138
    exact ⟨_,(A134,c135),rfl,⟨rfl,rfl,rfl,rfl,rfl,rfl,rfl,rfl,rfl,rfl,rfl,trivial⟩,_,hB,h139,h76,hx0,h36⟩
   rintro l141 w142 ⟨s145,x146,rfl,hs144,O143,hB,h96,hx0,h36⟩
   replace hf59:=AW hf59
   obtain rfl:=sm hf59
   refine (?_:Exists _)
   exact ⟨_,(x146.1,x146.2),rfl,⟨(Bo hs144 _ _ rfl),(Bo hs144 _ _ rfl),(Bo hs144 _ _ rfl),(Bo hs144 _ _ rfl),(Bo hs144 _ _ rfl),(Bo hs144 _ _ rfl),(Bo hs144 _ _ rfl),(Bo hs144 _ _ rfl),trivial⟩,_,hB,h96,hx0,h36⟩
  rintro l147 w148 ⟨s151,x152,rfl,hs150,O149,hB,h66,hx0⟩
  replace hf30:=AW hf30
  refine AO _ hs150 ?_
  refine Ae (o_mv rfl rfl (o_as rfl rfl (o_z ?_)))
  obtain ⟨O153,S154,h66⟩:=h66.freeze
  obtain rfl:=sm hf30
  refine (?_:Exists _)
  replace hB:=hB.st S154
  replace hx0:=hx0.st S154
  exact ⟨_,(x152.1,x152.2),rfl,⟨rfl,rfl,rfl,rfl,trivial⟩,_,hB,h66,hx0⟩
 replace hB:=((hB.st S7).st S11).st S15
 rintro l155 w156 ⟨s159,x160,rfl,hs158,O157,hB,h36⟩
 replace hm:=AW hm
 refine AO _ hs158 ?_
 refine Ah (Ae (o_mv rfl rfl (o_as rfl rfl (o_z ?_))))
 refine Au ?_
 obtain rfl:=sm hm
 exact ret1v rfl (AG rfl) ⟨hB.ext,(Vb.mono (F:=Fr 0 w156 O157) h36 hB.out)⟩
noncomputable def BM (x0:Tsk) (x1:List Int) (x2:Int):Option ((List Int)×Bool) :=
  bnd (if x2 < 0 then (some true) else (if (x0.ops.length:Int)≤x2 then (some true) else (bnd (atI x0.ops x2) fun a36=>bnd (Cu a36.pre x1) fun q57=>if q57=true then some false else some true)):Option Bool) fun y28=>if y28=true then (some (([]:List Int),false)) else (bnd (appI 8 ([]:List Int) x1) fun u75=>bnd (atI x0.ops x2) fun a86=>bnd (rng (ρ:=(List Int)×Bool) (fun (k113:Nat) (a114:Eff) (s111:(List Int))=>bnd (Cu a114.cond x1) fun q148=>if q148=true then bnd (atI s111 a114.var) fun a155=>some (.next (s111.set (a114.var:Int).toNat a114.val)) else some (.next s111)) a86.effs 0 u75) fun res109=>fin res109 fun (s173:(List Int))=>some (s173,true))
theorem Ht {w:World} {A:Nat→Prop} (hA:∀ k,A k→k < w.heap.size) {vx0:Value} {x0:Tsk} (hx0:Vb w A vx0 x0) {vx1:Value} {x1:List Int} (hx1:Vb w A vx1 x1) {x2:Int} (rx2:inI64 x2) {r:(List Int)×Bool} (hm:BM x0 x1 x2=some r) :
    Fn Try.prog 19 [vx0,vx1,(.int .i64 x2)] w fun v w'=>Ext w w'∧T2 w' (upA A w w') v r:=by
 obtain ⟨O,hB,hA0⟩:=enter hA
 replace hx0:=hx0.mono hA0
 obtain ⟨cs4,rfl,v5,v6,v7,v8,rfl,h9,h12,h15,h18⟩:=hx0
 obtain ⟨A10,c11,rfl⟩:=h9.form
 obtain ⟨A13,c14,rfl⟩:=h12.form
 obtain ⟨A16,c17,rfl⟩:=h15.form
 obtain ⟨A19,c20,rfl⟩:=h18.form
 replace hx1:=hx1.mono hA0
 obtain ⟨A21,c22,rfl⟩:=hx1.form
 refine AL Try.func19 rfl Try.ntmps19 rfl ?_
 unfold BM at hm
 refine Ah (Ae (l_box 2 O rfl rfl fun g23 w24 O25 S26 h27=>?_))
 replace h27:Lc 2 w24 O25 g23 26 [(.slice A10 x0.vars.length c11),(.slice A13 x0.init.length c14),(.slice A16 x0.goal.length c17),(.slice A19 x0.ops.length c20)]:=h27
 refine o_as rfl rfl (o_as rfl rfl (o_z ?_))
 refine Ah (Ah ?_)
 obtain ⟨y28,hy29,hm⟩:=bs hm
 refine AM (fun l' w'=>∃ (x31:Unit) (O':Lab),subs l' [(1,(.slice A21 x1.length c22)),(2,(.int .i64 x2)),(3,(.pointer (some ⟨g23,0,none⟩))),(30,(.bool y28))]∧Bs w A w' O'∧Vb w' (Fr 0 w' O') (.slice A21 x1.length c22) x1∧Lc 2 w' O' g23 26 [(.slice A10 x0.vars.length c11),(.slice A13 x0.init.length c14),(.slice A16 x0.goal.length c17),(.slice A19 x0.ops.length c20)]∧Vb w' (Fr 0 w' O') (.slice A10 x0.vars.length c11) x0.vars∧Vb w' (Fr 0 w' O') (.slice A13 x0.init.length c14) x0.init∧Vb w' (Fr 0 w' O') (.slice A16 x0.goal.length c17) x0.goal∧Vb w' (Fr 0 w' O') (.slice A19 x0.ops.length c20) x0.ops) ?_ ?_
 ·
  refine Ae (o_mv rfl rfl (o_ltS rfl rfl rfl (fun c32=>?_) fun c32=>?_))
  ·
   replace hy29:=ip hy29 c32
   refine o_mv rfl rfl (AD rfl rfl rfl rfl (AD rfl rfl rfl rfl (AD rfl rfl rfl rfl (AD rfl rfl rfl rfl (AD rfl rfl rfl rfl (o_pt rfl rfl rfl (o_mv rfl rfl (AD rfl rfl rfl rfl (AD rfl rfl rfl rfl (AD rfl rfl rfl rfl (AD rfl rfl rfl rfl (AD rfl rfl rfl rfl (AD rfl rfl rfl rfl (AD rfl rfl rfl rfl ?_))))))))))))))
   refine AD rfl rfl rfl rfl (AD rfl rfl rfl rfl (o_pt rfl rfl rfl (o_z ?_)))
   obtain rfl:=sm hy29
   replace hB:=hB.st S26
   replace hx1:=hx1.st S26
   replace h9:=h9.st S26
   replace h12:=h12.st S26
   replace h15:=h15.st S26
   replace h18:=h18.st S26
   exact ⟨(),_,⟨rfl,rfl,rfl,rfl,trivial⟩,hB,hx1,h27,h9,h12,h15,h18⟩
  ·
   replace hy29:=im hy29 c32
   refine o_mv rfl rfl (AE rfl rfl (o_mv rfl rfl (AE rfl rfl (o_fa rfl rfl (AE rfl rfl (o_ld (hc:=Blk.cell (i:=3) (h27.1) rfl) rfl rfl ?_))))))
   refine AE rfl rfl (o_ln rfl rfl ?_)
   replace h18:=h18.st S26
   have l34:x0.ops.length≤9223372036854775807:=Nat.le_trans h18.len.2.1 h18.len.2.2
   have r33:inI64 (x0.ops.length:Int):=rngNat l34
   refine AE rfl rfl (o_geS rfl rfl rfl (fun c35=>?_) fun c35=>?_)
   ·
    replace hy29:=ip hy29 c35
    refine o_pf rfl rfl rfl (o_mv rfl rfl (AD rfl rfl rfl rfl (AD rfl rfl rfl rfl (AD rfl rfl rfl rfl (AD rfl rfl rfl rfl (AD rfl rfl rfl rfl (AD rfl rfl rfl rfl (AD rfl rfl rfl rfl (AD rfl rfl rfl rfl (AD rfl rfl rfl rfl (o_pt rfl rfl rfl (o_z ?_))))))))))))
    obtain rfl:=sm hy29
    replace hB:=hB.st S26
    replace hx1:=hx1.st S26
    replace h9:=h9.st S26
    replace h12:=h12.st S26
    replace h15:=h15.st S26
    exact ⟨(),_,⟨rfl,rfl,rfl,rfl,trivial⟩,hB,hx1,h27,h9,h12,h15,h18⟩
   ·
    replace hy29:=im hy29 c35
    refine o_pf rfl rfl rfl (o_mv rfl rfl (AE rfl rfl (o_fa rfl rfl (AE rfl rfl (o_ld (hc:=Blk.cell (i:=3) (h27.1) rfl) rfl rfl ?_)))))
    refine AE rfl rfl (o_mv rfl rfl (AE rfl rfl ?_))
    obtain ⟨a36,e37,hy29⟩:=bs hy29
    obtain ⟨p39,x38⟩:=AN e37
    obtain ⟨b40,o41,ce42,hA43,hl44,hd45,v47,v48,rfl,h49,h52,r55,z56⟩:=h18.elem' x38
    obtain ⟨A50,c51,rfl⟩:=h49.form
    obtain ⟨A53,c54,rfl⟩:=h52.form
    refine o_iaE (hA:=hA43) (hj:=(Int.toNat_of_nonneg p39).symm) (hlt:=hl44) rfl rfl rfl ?_
    refine AE rfl rfl (o_fa rfl rfl (AE rfl rfl (o_ld (hc:=cat2 hd45) rfl rfl ?_)))
    refine AE rfl rfl (o_mv rfl rfl (AE rfl rfl ?_))
    obtain ⟨q57,e58,hy29⟩:=bs hy29
    replace hx1:=hx1.st S26
    refine BK (O:=O25) (A:=All w24) (R:=fun w' F v=>Vb w' F v q57) (EH (fun _ h=>h) (Vb.mono (F:=Fr 0 w24 O25) h49 Fr.lt) (Vb.mono (F:=Fr 0 w24 O25) hx1 Fr.lt) e58) rfl rfl fun v63 w59 O60 S61 h62=>?_
    obtain rfl:=h62.bool
    cases q57
    case false =>
     replace hy29:=iF hy29
     refine AE rfl rfl (o_nf rfl rfl (o_pf rfl rfl rfl (o_z ?_)))
     obtain rfl:=sm hy29
     replace hB:=(hB.st S26).st S61
     replace hx1:=hx1.st S61
     replace h9:=(h9.st S26).st S61
     replace h12:=(h12.st S26).st S61
     replace h15:=(h15.st S26).st S61
     replace h18:=h18.st S61
     replace h27:=h27.st S61
     exact ⟨(),_,⟨rfl,rfl,rfl,rfl,trivial⟩,hB,hx1,h27,h9,h12,h15,h18⟩
    replace hy29:=iT hy29
    refine AE rfl rfl (o_nt rfl rfl (o_pf rfl rfl rfl (o_z ?_)))
    obtain rfl:=sm hy29
    replace hB:=(hB.st S26).st S61
    replace hx1:=hx1.st S61
    replace h9:=(h9.st S26).st S61
    replace h12:=(h12.st S26).st S61
    replace h15:=(h15.st S26).st S61
    replace h18:=h18.st S61
    replace h27:=h27.st S61
    exact ⟨(),_,⟨rfl,rfl,rfl,rfl,trivial⟩,hB,hx1,h27,h9,h12,h15,h18⟩
 replace hB:=hB.st S26
 replace hx1:=hx1.st S26
 replace h9:=h9.st S26
 replace h12:=h12.st S26
 replace h15:=h15.st S26
 replace h18:=h18.st S26
 rintro l64 w65 ⟨x31,O66,hs67,hB,hx1,h27,h9,h12,h15,h18⟩
 refine AO _ hs67 ?_
 refine BP rfl (fun c68=>?_) (fun c68=>?_)
 ·
  replace hm:=ip hm c68
  refine Ah (Ae (o_as rfl rfl (o_as rfl rfl (o_z ?_))))
  refine Au ?_
  obtain rfl:=sm hm
  exact ret2 rfl (AG rfl) (AG rfl) ⟨hB.ext,_,_,rfl,(Vb.mono (F:=Fr 0 w65 O66) (Vb.nil _ _) hB.out),vBool⟩
 ·
  replace hm:=im' hm c68
  refine Am (Ah (Ae (BT 3 (by decide) O66 (xs:=(([]:List Int):List Int)) rfl rfl rfl rfl trivial (by decide) (by decide) rfl fun g69 w70 O71 S72 h73=>?_)))
  refine o_mv rfl rfl ?_
  obtain ⟨u75,e76,hm⟩:=bs hm
  obtain ⟨e76,e77,e78⟩:=Cj e76
  replace hx1:=hx1.st S72
  refine DV rfl h73 (hx1.rd) rfl rfl (by decide) e77 e78 rfl fun A79 c80 w81 O82 S83 h84=>?_
  rw [← e76] at h84 ⊢
  refine o_as rfl rfl (o_z ?_)
  refine Ah (Ah (Ae (o_fa rfl rfl ?_)))
  replace h27:=(h27.st S72).st S83
  refine o_ld (hc:=Blk.cell (i:=3) (h27.1) rfl) rfl rfl ?_
  refine o_mv rfl rfl ?_
  obtain ⟨a86,e87,hm⟩:=bs hm
  obtain ⟨p89,x88⟩:=AN e87
  replace h18:=(h18.st S72).st S83
  obtain ⟨b90,o91,ce92,hA93,hl94,hd95,v97,v98,rfl,h99,h102,r105,z106⟩:=h18.elem' x88
  obtain ⟨A100,c101,rfl⟩:=h99.form
  obtain ⟨A103,c104,rfl⟩:=h102.form
  refine o_iaE (hA:=hA93) (hj:=(Int.toNat_of_nonneg p89).symm) (hlt:=hl94) rfl rfl rfl ?_
  refine o_fa rfl rfl (o_ld (hc:=cat3 hd95) rfl rfl ?_)
  refine o_ln rfl rfl ?_
  have l108:a86.effs.length≤9223372036854775807:=Nat.le_trans h102.len.2.1 h102.len.2.2
  have r107:inI64 (a86.effs.length:Int):=rngNat l108
  refine o_mv rfl rfl (o_z ?_)
  obtain ⟨res109,hL110,hm⟩:=bs hm
  refine AM (aft res109 (fun (s111:(List Int)) (x112:Unit)=>[(8,(.slice A79 u75.length c80))]) (fun s111 x112 w'=>∃ O':Lab,Bs w A w' O'∧Rw 3 w' O' 3 (.slice A79 u75.length c80) s111)) ?_ ?_
  ·
   refine Al ?_
   replace hB:=(hB.st S72).st S83
   replace hx1:=hx1.st S83
   refine BF (σ:=(List Int)) (X:=Unit) (a86.effs.length) hL110 rfl l108 (fun (s111:(List Int)) (x112:Unit)=>[(1,(.slice A21 x1.length c22)),(8,(.slice A79 u75.length c80)),(39,(.slice A103 a86.effs.length c104))]) _ (fun s111 x112 w'=>∃ O':Lab,Bs w A w' O'∧Vb w' (Fr 0 w' O') (.slice A21 x1.length c22) x1∧Rw 3 w' O' 3 (.slice A79 u75.length c80) s111∧Vb w' (Fr 0 w' O') (.slice A103 a86.effs.length c104) a86.effs) _ () ⟨O82,hB,hx1,h84,h102⟩ ⟨rfl,rfl,rfl,rfl,rfl,trivial⟩ (fun _ _=>⟨rfl,rfl⟩) (fun _ _=>⟨rfl,trivial⟩) (fun _ _ _ ⟨O',hB,hx1,h126,h102⟩=>⟨O',hB,h126⟩) ⟨rfl,rfl,rfl⟩ ⟨rfl,rfl⟩ ?_
   rintro k113 a114 s111 x112 w115 cc117 hx118 ⟨O116,hB,hx1,h126,h102⟩ hf119 hret120 hbrk121
   have rk113:inI64 (k113:Int):=rngK hx118 l108
   refine Ah (Ae ?_)
   obtain ⟨b128,o129,ce130,hA131,hl132,hd133,v135,rfl,h136,r139,r140⟩:=h102.elem' hx118
   obtain ⟨A137,c138,rfl⟩:=h136.form
   refine o_iaE (hA:=hA131) (hj:=rfl) (hlt:=hl132) rfl rfl rfl ?_
   refine o_la (hl:=rfl) (hc:=hd133) rfl rfl ?_
   refine BY 4 O116 rfl fun g141 w142 O143 S144 h145=>?_
   refine AV h145 rfl rfl rfl (Nat.le_of_ble_eq_true rfl) (by first|exact allOne rfl|simp [Value.cells,Value.oneCell',AQ]) fun w146 S147 h145=>?_
   replace h145:Lc 4 w146 O143 g141 59 [(.slice A137 a114.cond.length c138),(.int .i64 a114.var),(.int .i64 a114.val)]:=h145
   refine o_z ?_
   refine Ah (Ae (o_fa rfl rfl (o_ld (hc:=Blk.cell (i:=0) (h145.1) rfl) rfl rfl ?_)))
   refine o_mv rfl rfl ?_
   obtain ⟨q148,e149,hf119⟩:=bs hf119
   replace hx1:=(hx1.st S144).st S147
   replace h136:=(h136.st S144).st S147
   refine BK (O:=O143) (A:=All w146) (R:=fun w' F v=>Vb w' F v q148) (EH (fun _ h=>h) (Vb.mono (F:=Fr 0 w146 O143) h136 Fr.lt) (Vb.mono (F:=Fr 0 w146 O143) hx1 Fr.lt) e149) rfl rfl fun v154 w150 O151 S152 h153=>?_
   obtain rfl:=h153.bool
   cases q148
   case false =>
    replace hf119:=iF hf119
    refine o_z ?_
    refine Aj rfl (Am ?_)
    obtain rfl:=sm hf119
    refine (?_:Exists _)
    replace hB:=((hB.st S144).st S147).st S152
    replace hx1:=hx1.st S152
    replace h102:=((h102.st S144).st S147).st S152
    replace h126:=((h126.st S144).st S147).st S152
    exact ⟨_,(),rfl,⟨rfl,rfl,rfl,rfl,rfl,trivial⟩,_,hB,hx1,h126,h102⟩
   replace hf119:=iT hf119
   refine o_z ?_
   refine Ar rfl (Ae (o_mv rfl rfl (o_fa rfl rfl ?_)))
   replace h145:=h145.st S152
   refine o_ld (hc:=Blk.cell (i:=1) (h145.1) rfl) rfl rfl ?_
   refine o_fa rfl rfl (o_ld (hc:=Blk.cell (i:=2) (h145.1) rfl) rfl rfl ?_)
   obtain ⟨a155,e156,hf119⟩:=bs hf119
   obtain ⟨p158,x157⟩:=AN e156
   replace h126:=((h126.st S144).st S147).st S152
   obtain ⟨b159,o160,ce161,hA162,hl163,hd164,rfl,r166⟩:=h126.elem x157
   refine o_iaE (hA:=hA162) (hj:=(Int.toNat_of_nonneg p158).symm) (hlt:=hl163) rfl rfl rfl ?_
   refine CM rfl h126 (a:=a114.val) (vInt r140) hA162 rfl rfl (AJ x157) fun w167 S168 h126=>?_
   refine o_z ?_
   obtain rfl:=sm hf119
   refine (?_:Exists _)
   replace hB:=(((hB.st S144).st S147).st S152).st S168
   replace hx1:=(hx1.st S152).st S168
   replace h102:=(((h102.st S144).st S147).st S152).st S168
   exact ⟨_,(),rfl,⟨rfl,rfl,rfl,rfl,rfl,trivial⟩,_,hB,hx1,h126,h102⟩
  replace hB:=(hB.st S72).st S83
  rintro l169 w170 ⟨s173,x174,rfl,hs172,O171,hB,h126⟩
  replace hm:=AW hm
  refine AO _ hs172 ?_
  refine Ah (Ae (o_mv rfl rfl (o_as rfl rfl (o_as rfl rfl (o_z ?_)))))
  refine Au ?_
  obtain ⟨O175,S176,h126⟩:=h126.freeze
  obtain rfl:=sm hm
  replace hB:=hB.st S176
  exact ret2 rfl (AG rfl) (AG rfl) ⟨hB.ext,_,_,rfl,(Vb.mono (F:=Fr 0 w170 O175) h126 hB.out),vBool⟩
noncomputable def Cx (x0:List Int) (x1:List Int):Option Int :=
  bnd (rng (ρ:=Int) (fun (k13:Nat) (a14:Int) (s11:Int)=>bnd (x0[k13]?) fun a26=>bnd (chkI (s11 * a26)) fun n36=>bnd (chkI (n36 + a14)) fun n47=>some (.next n47)) x1 0 0) fun res9=>fin res9 fun (s54:Int)=>some s54
theorem FX {w:World} {A:Nat→Prop} (hA:∀ k,A k→k < w.heap.size) {vx0:Value} {x0:List Int} (hx0:Vb w A vx0 x0) {vx1:Value} {x1:List Int} (hx1:Vb w A vx1 x1) {r:Int} (hm:Cx x0 x1=some r) :
    Fn Try.prog 17 [vx0,vx1] w fun v w'=>Ext w w'∧Vb w' (upA A w w') v r:=by
 obtain ⟨O,hB,hA0⟩:=enter hA
 replace hx0:=hx0.mono hA0
 obtain ⟨A3,c4,rfl⟩:=hx0.form
 replace hx1:=hx1.mono hA0
 obtain ⟨A5,c6,rfl⟩:=hx1.form
 refine AL Try.func17 rfl Try.ntmps17 rfl ?_
 unfold Cx at hm
 refine Ah (Ae (o_as rfl rfl (o_z ?_)))
 refine Ah (Ae (o_as rfl rfl (o_z ?_)))
 refine Ah (Ah (Ae (o_mv rfl rfl (o_ln rfl rfl ?_))))
 have l8:x1.length≤9223372036854775807:=Nat.le_trans hx1.len.2.1 hx1.len.2.2
 have r7:inI64 (x1.length:Int):=rngNat l8
 refine o_mv rfl rfl (o_z ?_)
 obtain ⟨res9,hL10,hm⟩:=bs hm
 refine AM (aft res9 (fun (s11:Int) (x12:Unit)=>[(5,(.int .i64 s11))]) (fun s11 x12 w'=>∃ O':Lab,Bs w A w' O'∧inI64 s11)) ?_ ?_
 ·
  refine Al (BF (σ:=Int) (X:=Unit) (x1.length) hL10 rfl l8 (fun (s11:Int) (x12:Unit)=>[(0,(.slice A3 x0.length c4)),(1,(.slice A5 x1.length c6)),(5,(.int .i64 s11))]) _ (fun s11 x12 w'=>∃ O':Lab,Bs w A w' O'∧Vb w' (Fr 0 w' O') (.slice A3 x0.length c4) x0∧Vb w' (Fr 0 w' O') (.slice A5 x1.length c6) x1∧inI64 s11) _ () ⟨O,hB,hx0,hx1,(show inI64 (0) from by decide)⟩ ⟨rfl,rfl,rfl,rfl,rfl,trivial⟩ (fun _ _=>⟨rfl,rfl⟩) (fun _ _=>⟨rfl,trivial⟩) (fun _ _ _ ⟨O',hB,hx0,hx1,r25⟩=>⟨O',hB,r25⟩) ⟨rfl,rfl,rfl⟩ ⟨rfl,rfl⟩ ?_)
  rintro k13 a14 s11 x12 w15 cc17 hx18 ⟨O16,hB,hx0,hx1,r25⟩ hf19 hret20 hbrk21
  have rk13:inI64 (k13:Int):=rngK hx18 l8
  refine Ah (Ae (o_mv rfl rfl (o_as rfl rfl (o_z ?_))))
  refine BJ (·=w15) [(0,true),(1,true),(2,true),(3,true),(4,true),(5,true),(6,true),(7,true),(8,true),(9,true),(10,true),(11,true)] (by kernel_rfl) rfl (by kernel_rfl) rfl ?_
  refine h_mv rfl rfl rfl (h_mv rfl rfl rfl (h_mv rfl rfl rfl ?_))
  obtain ⟨a26,e27,hf19⟩:=bs hf19
  obtain ⟨b28,o29,ce30,hA31,hl32,hd33,rfl,r35⟩:=hx0.elem' e27
  refine h_iaE (hA:=hA31) (hj:=rfl) (hlt:=hl32) rfl rfl rfl rfl ?_
  refine h_ldA (hc:=cat0 hd33) rfl rfl rfl ?_
  obtain ⟨n36,e37,hf19⟩:=bs hf19
  have r38:=(Ba e37)
  refine h_mlE (he:=e37) rfl rfl rfl rfl ?_
  refine h_mv rfl rfl rfl (h_mv rfl rfl rfl ?_)
  obtain ⟨b39,o40,ce41,hA42,hl43,hd44,rfl,r46⟩:=hx1.elem' hx18
  refine h_iaE (hA:=hA42) (hj:=rfl) (hlt:=hl43) rfl rfl rfl rfl ?_
  refine h_ldA (hc:=cat0 hd44) rfl rfl rfl ?_
  obtain ⟨n47,e48,hf19⟩:=bs hf19
  have r49:=(Ba e48)
  refine h_adE (he:=e48) rfl rfl rfl rfl ?_
  refine h_as rfl rfl rfl (h_z ?_)
  obtain rfl:=sm hf19
  refine (?_:Exists _)
  exact ⟨_,(),rfl,⟨rfl,rfl,rfl,rfl,rfl,trivial⟩,_,hB,hx0,hx1,r49⟩
 rintro l50 w51 ⟨s54,x55,rfl,hs53,O52,hB,r25⟩
 replace hm:=AW hm
 refine AO _ hs53 ?_
 refine Ah (Ae (o_mv rfl rfl (o_as rfl rfl (o_z ?_))))
 refine Au ?_
 obtain rfl:=sm hm
 exact ret1v rfl (AG rfl) ⟨hB.ext,(vInt r25)⟩
noncomputable def Db (x0:Tsk):Option (List Edg) :=
  bnd (CQ x0.vars) fun q24=>bnd (rng (ρ:=(List Edg)) (fun (k39:Nat) (a40:List Int) (s37:(List Edg))=>bnd (rng (ρ:=Ctl (List Edg) (List Edg)) (fun (k71:Nat) (a72:Opr) (s69:(List Edg))=>bnd (BM x0 a40 (k71:Int)) fun q86=>if q86.2=true then (bnd (Cx x0.vars q86.1) fun q100=>bnd (appI 24 s69 [(⟨(k39:Int),(k71:Int),q100⟩:Edg)]) fun u108=>some (.next u108)) else (some (.next s69))) x0.ops 0 s37) fun res67=>fin res67 fun (s124:(List Edg))=>some (.next s124)) q24 0 ([]:List Edg)) fun res35=>fin res35 fun (s130:(List Edg))=>some s130
theorem Hu {w:World} {A:Nat→Prop} (hA:∀ k,A k→k < w.heap.size) {vx0:Value} {x0:Tsk} (hx0:Vb w A vx0 x0) {r:(List Edg)} (hm:Db x0=some r) :
    Fn Try.prog 46 [vx0] w fun v w'=>Ext w w'∧Vb w' (upA A w w') v r:=by
 obtain ⟨O,hB,hA0⟩:=enter hA
 replace hx0:=hx0.mono hA0
 obtain ⟨cs2,rfl,v3,v4,v5,v6,rfl,h7,h10,h13,h16⟩:=hx0
 obtain ⟨A8,c9,rfl⟩:=h7.form
 obtain ⟨A11,c12,rfl⟩:=h10.form
 obtain ⟨A14,c15,rfl⟩:=h13.form
 obtain ⟨A17,c18,rfl⟩:=h16.form
 refine AL Try.func46 rfl Try.ntmps46 rfl ?_
 unfold Db at hm
 refine Ah (Ae (l_box 2 O rfl rfl fun g19 w20 O21 S22 h23=>?_))
 replace h23:Lc 2 w20 O21 g19 26 [(.slice A8 x0.vars.length c9),(.slice A11 x0.init.length c12),(.slice A14 x0.goal.length c15),(.slice A17 x0.ops.length c18)]:=h23
 refine o_as rfl rfl (o_z ?_)
 refine Ah (Ae (o_as rfl rfl (o_z ?_)))
 refine Ah (Ah (Ae (o_fa rfl rfl (o_ld (hc:=Blk.cell (i:=0) (h23.1) rfl) rfl rfl ?_))))
 obtain ⟨q24,e25,hm⟩:=bs hm
 replace h7:=h7.st S22
 refine Cf (O:=O21) (R:=fun w' F v=>Vb w' F v q24) (GR Fr.lt h7 e25) rfl rfl fun v30 w26 O27 S28 h29=>?_
 obtain ⟨A31,c32,rfl⟩:=h29.form
 refine o_ln rfl rfl ?_
 have l34:q24.length≤9223372036854775807:=Nat.le_trans h29.len.2.1 h29.len.2.2
 have r33:inI64 (q24.length:Int):=rngNat l34
 refine o_mv rfl rfl (o_z ?_)
 obtain ⟨res35,hL36,hm⟩:=bs hm
 refine AM (aft res35 (fun (s37:(List Edg)) (x38:(Option Addr×Nat))=>[(3,(.slice x38.1 s37.length x38.2))]) (fun s37 x38 w'=>∃ O':Lab,Bs w A w' O'∧Rw 3 w' O' 93 (.slice x38.1 s37.length x38.2) s37)) ?_ ?_
 ·
  refine Al ?_
  replace hB:=(hB.st S22).st S28
  replace h7:=h7.st S28
  replace h10:=(h10.st S22).st S28
  replace h13:=(h13.st S22).st S28
  replace h16:=(h16.st S22).st S28
  replace h23:=h23.st S28
  refine BF (σ:=(List Edg)) (X:=(Option Addr×Nat)) (q24.length) hL36 rfl l34 (fun (s37:(List Edg)) (x38:(Option Addr×Nat))=>[(1,(.pointer (some ⟨g19,0,none⟩))),(3,(.slice x38.1 s37.length x38.2)),(11,(.slice A31 q24.length c32))]) _ (fun s37 x38 w'=>∃ O':Lab,Bs w A w' O'∧Lc 2 w' O' g19 26 [(.slice A8 x0.vars.length c9),(.slice A11 x0.init.length c12),(.slice A14 x0.goal.length c15),(.slice A17 x0.ops.length c18)]∧Vb w' (Fr 0 w' O') (.slice A8 x0.vars.length c9) x0.vars∧Vb w' (Fr 0 w' O') (.slice A11 x0.init.length c12) x0.init∧Vb w' (Fr 0 w' O') (.slice A14 x0.goal.length c15) x0.goal∧Vb w' (Fr 0 w' O') (.slice A17 x0.ops.length c18) x0.ops∧Rw 3 w' O' 93 (.slice x38.1 s37.length x38.2) s37∧Vb w' (Fr 0 w' O') (.slice A31 q24.length c32) q24) _ (none,0) ⟨O27,hB,h23,h7,h10,h13,h16,(Rw.nil 3 (by decide)),h29⟩ ⟨rfl,rfl,rfl,rfl,rfl,trivial⟩ (fun _ _=>⟨rfl,rfl⟩) (fun _ _=>⟨rfl,trivial⟩) (fun _ _ _ ⟨O',hB,h23,h7,h10,h13,h16,h52,h29⟩=>⟨O',hB,h52⟩) ⟨rfl,rfl,rfl⟩ ⟨rfl,rfl⟩ ?_
  rintro k39 a40 s37 x38 w41 cc43 hx44 ⟨O42,hB,h23,h7,h10,h13,h16,h52,h29⟩ hf45 hret46 hbrk47
  have rk39:inI64 (k39:Int):=rngK hx44 l34
  refine Ah (Ae (o_mv rfl rfl ?_))
  obtain ⟨b54,o55,ce56,hA57,hl58,hd59,v61,rfl,h62⟩:=h29.elem' hx44
  replace h62:=Vb.of_slice h62
  obtain ⟨A63,c64,rfl⟩:=h62.form
  refine o_iaE (hA:=hA57) (hj:=rfl) (hlt:=hl58) rfl rfl rfl ?_
  refine o_ld (hc:=cat0 hd59) rfl rfl ?_
  refine o_as rfl rfl (o_as rfl rfl (o_z ?_))
  refine Ah (Ae (o_fa rfl rfl (o_ld (hc:=Blk.cell (i:=3) (h23.1) rfl) rfl rfl ?_)))
  refine o_ln rfl rfl ?_
  have l66:x0.ops.length≤9223372036854775807:=Nat.le_trans h16.len.2.1 h16.len.2.2
  have r65:inI64 (x0.ops.length:Int):=rngNat l66
  refine o_mv rfl rfl (o_z ?_)
  obtain ⟨res67,hL68,hf45⟩:=bs hf45
  refine AM (aft res67 (fun (s69:(List Edg)) (x70:(Option Addr×Nat))=>[(1,(.pointer (some ⟨g19,0,none⟩))),(3,(.slice x70.1 s69.length x70.2)),(11,(.slice A31 q24.length c32)),(12,(.int .i64 (q24.length:Int))),(13,(.int .i64 (k39:Int)))]) (fun s69 x70 w'=>∃ O':Lab,Bs w A w' O'∧Lc 2 w' O' g19 26 [(.slice A8 x0.vars.length c9),(.slice A11 x0.init.length c12),(.slice A14 x0.goal.length c15),(.slice A17 x0.ops.length c18)]∧Vb w' (Fr 0 w' O') (.slice A8 x0.vars.length c9) x0.vars∧Vb w' (Fr 0 w' O') (.slice A11 x0.init.length c12) x0.init∧Vb w' (Fr 0 w' O') (.slice A14 x0.goal.length c15) x0.goal∧Vb w' (Fr 0 w' O') (.slice A17 x0.ops.length c18) x0.ops∧Rw 3 w' O' 93 (.slice x70.1 s69.length x70.2) s69∧Vb w' (Fr 0 w' O') (.slice A31 q24.length c32) q24)) ?_ ?_
  ·
   refine Al (BF (σ:=(List Edg)) (X:=(Option Addr×Nat)) (x0.ops.length) hL68 rfl l66 (fun (s69:(List Edg)) (x70:(Option Addr×Nat))=>[(1,(.pointer (some ⟨g19,0,none⟩))),(3,(.slice x70.1 s69.length x70.2)),(4,(.int .i64 (k39:Int))),(5,(.slice A63 a40.length c64)),(11,(.slice A31 q24.length c32)),(12,(.int .i64 (q24.length:Int))),(13,(.int .i64 (k39:Int)))]) _ (fun s69 x70 w'=>∃ O':Lab,Bs w A w' O'∧Lc 2 w' O' g19 26 [(.slice A8 x0.vars.length c9),(.slice A11 x0.init.length c12),(.slice A14 x0.goal.length c15),(.slice A17 x0.ops.length c18)]∧Vb w' (Fr 0 w' O') (.slice A8 x0.vars.length c9) x0.vars∧Vb w' (Fr 0 w' O') (.slice A11 x0.init.length c12) x0.init∧Vb w' (Fr 0 w' O') (.slice A14 x0.goal.length c15) x0.goal∧Vb w' (Fr 0 w' O') (.slice A17 x0.ops.length c18) x0.ops∧Rw 3 w' O' 93 (.slice x70.1 s69.length x70.2) s69∧Vb w' (Fr 0 w' O') (.slice A63 a40.length c64) a40∧Vb w' (Fr 0 w' O') (.slice A31 q24.length c32) q24) _ (x38.1,x38.2) ⟨O42,hB,h23,h7,h10,h13,h16,h52,h62,h29⟩ ⟨rfl,rfl,rfl,rfl,rfl,rfl,rfl,rfl,rfl,trivial⟩ (fun _ _=>⟨rfl,rfl⟩) (fun _ _=>⟨rfl,rfl,rfl,rfl,rfl,trivial⟩) (fun _ _ _ ⟨O',hB,h23,h7,h10,h13,h16,h84,h62,h29⟩=>⟨O',hB,h23,h7,h10,h13,h16,h84,h29⟩) ⟨rfl,rfl,rfl⟩ ⟨rfl,rfl⟩ ?_)
   rintro k71 a72 s69 x70 w73 cc75 hx76 ⟨O74,hB,h23,h7,h10,h13,h16,h84,h62,h29⟩ hf77 hret78 hbrk79
   have rk71:inI64 (k71:Int):=rngK hx76 l66
   refine Ah (Ae (o_mv rfl rfl (o_as rfl rfl (o_z ?_))))
   refine Ah (Ae (o_la (hl:=rfl) (hc:=(h23.1).cellsAt) rfl rfl ?_))
   refine o_mv rfl rfl (o_mv rfl rfl ?_)
   obtain ⟨q86,e87,hf77⟩:=bs hf77
   refine Cf (O:=O74) (R:=fun w' F v=>T2 w' F v q86) (Ht Fr.lt (Vb.ofAgg (cs:=[(.slice A8 x0.vars.length c9),(.slice A11 x0.init.length c12),(.slice A14 x0.goal.length c15),(.slice A17 x0.ops.length c18)]) (x:=x0) rfl ⟨_,_,_,_,rfl,h7,h10,h13,h16⟩) h62 rk71 e87) rfl rfl fun v92 w88 O89 S90 h91=>?_
   obtain ⟨v93,v94,rfl,h95,h96⟩:=h91
   obtain ⟨A97,c98,rfl⟩:=h95.form
   obtain rfl:=h96.bool
   refine o_mv rfl rfl (o_ex rfl rfl rfl (o_ex rfl rfl rfl (o_as rfl rfl (o_as rfl rfl (o_z ?_)))))
   refine Ah (Ae (o_mv rfl rfl (o_z ?_)))
   refine BP rfl (fun c99=>?_) (fun c99=>?_)
   ·
    replace hf77:=ip hf77 c99
    refine Ae (o_mv rfl rfl (o_mv rfl rfl (o_mv rfl rfl (o_fa rfl rfl ?_))))
    replace h23:=h23.st S90
    refine o_ld (hc:=Blk.cell (i:=0) (h23.1) rfl) rfl rfl ?_
    refine o_mv rfl rfl ?_
    obtain ⟨q100,e101,hf77⟩:=bs hf77
    replace h7:=h7.st S90
    refine BK (O:=O89) (A:=All w88) (R:=fun w' F v=>Vb w' F v q100) (FX (fun _ h=>h) (Vb.mono (F:=Fr 0 w88 O89) h7 Fr.lt) (Vb.mono (F:=Fr 0 w88 O89) h95 Fr.lt) e101) rfl rfl fun v106 w102 O103 S104 h105=>?_
    obtain ⟨rfl,r107⟩:=h105.int
    refine o_bd rfl rfl rfl ?_
    obtain ⟨u108,e109,hf77⟩:=bs hf77
    obtain ⟨e109,e110,e111⟩:=Cj e109
    replace h84:=(h84.st S90).st S104
    refine CW rfl (a:=(⟨(k39:Int),(k71:Int),q100⟩:Edg)) h84 (Vb.ofAgg (cs:=[(.int .i64 (k39:Int)),(.int .i64 (k71:Int)),(.int .i64 q100)]) (x:=(⟨(k39:Int),(k71:Int),q100⟩:Edg)) rfl ⟨rfl,rk39,rk71,r107⟩) (fun _=>rfl) rfl (by decide) (by decide) e110 e111 ⟨rfl,rfl⟩ fun g112 A113 c114 w115 O116 S117 h118=>?_
    rw [← e109] at h118 ⊢
    refine o_as rfl rfl (o_z ?_)
    obtain rfl:=sm hf77
    refine (?_:Exists _)
    replace hB:=((hB.st S90).st S104).st S117
    replace h7:=(h7.st S104).st S117
    replace h10:=((h10.st S90).st S104).st S117
    replace h13:=((h13.st S90).st S104).st S117
    replace h16:=((h16.st S90).st S104).st S117
    replace h23:=(h23.st S104).st S117
    replace h29:=((h29.st S90).st S104).st S117
    replace h62:=((h62.st S90).st S104).st S117
    exact ⟨_,(A113,c114),rfl,⟨rfl,rfl,rfl,rfl,rfl,rfl,rfl,rfl,rfl,trivial⟩,_,hB,h23,h7,h10,h13,h16,h118,h62,h29⟩
   ·
    replace hf77:=im' hf77 c99
    refine Am ?_
    obtain rfl:=sm hf77
    refine (?_:Exists _)
    replace hB:=hB.st S90
    replace h7:=h7.st S90
    replace h10:=h10.st S90
    replace h13:=h13.st S90
    replace h16:=h16.st S90
    replace h23:=h23.st S90
    replace h29:=h29.st S90
    replace h62:=h62.st S90
    replace h84:=h84.st S90
    exact ⟨_,(x70.1,x70.2),rfl,⟨rfl,rfl,rfl,rfl,rfl,rfl,rfl,rfl,rfl,trivial⟩,_,hB,h23,h7,h10,h13,h16,h84,h62,h29⟩
  rintro l120 w121 ⟨s124,x125,rfl,hs123,O122,hB,h23,h7,h10,h13,h16,h84,h29⟩
  replace hf45:=AW hf45
  obtain rfl:=sm hf45
  refine (?_:Exists _)
  exact ⟨_,(x125.1,x125.2),rfl,⟨(Bo hs123 _ _ rfl),(Bo hs123 _ _ rfl),(Bo hs123 _ _ rfl),(Bo hs123 _ _ rfl),(Bo hs123 _ _ rfl),trivial⟩,_,hB,h23,h7,h10,h13,h16,h84,h29⟩
 replace hB:=(hB.st S22).st S28
 rintro l126 w127 ⟨s130,x131,rfl,hs129,O128,hB,h52⟩
 replace hm:=AW hm
 refine AO _ hs129 ?_
 refine Ah (Ae (o_mv rfl rfl (o_as rfl rfl (o_z ?_))))
 refine Au ?_
 obtain ⟨O132,S133,h52⟩:=h52.freeze
 obtain rfl:=sm hm
 replace hB:=hB.st S133
 exact ret1v rfl (AG rfl) ⟨hB.ext,(Vb.mono (F:=Fr 0 w127 O132) h52 hB.out)⟩
noncomputable def Dc (x0:Tsk):Option (List Int) :=
  bnd (CQ x0.vars) fun q25=>bnd (mkI 8 (0:Int) (q25.length:Int)) fun u36=>bnd (rng (ρ:=(List Int)) (fun (k55:Nat) (a56:List Int) (s53:(List Int))=>bnd (s53[k55]?) fun a81=>bnd (Cu x0.goal a56) fun q93=>if q93=true then bnd ((s53.set k55 1125899906842624)[k55]?) fun a100=>some (.next ((s53.set k55 1125899906842624).set k55 0)) else some (.next (s53.set k55 1125899906842624))) q25 0 u36) fun res51=>fin res51 fun (s116:(List Int))=>bnd (Db x0) fun q118=>bnd (lop (ρ:=(List Int)) (fun (s129:(List Int)×Bool)=>if s129.2=true then (bnd (rng (ρ:=Ctl ((List Int)×Bool) (List Int)) (fun (k153:Nat) (a154:Edg) (s151:(List Int)×Bool)=>bnd (atI x0.ops a154.op) fun a185=>bnd (bnd (atI s151.1 a154.dst) fun a210=>if a210 < 1125899906842624 then (bnd (atI s151.1 a154.dst) fun a223=>bnd (chkI (a223 + a185.cost)) fun n235=>bnd (atI s151.1 a154.src) fun a238=>if n235 < a238 then (some true) else (some false)) else (some false):Option Bool) fun y206=>if y206=true then (bnd (atI s151.1 a154.dst) fun a256=>bnd (chkI (a256 + a185.cost)) fun n268=>bnd (atI s151.1 a154.src) fun a271=>some (.next ((s151.1.set (a154.src:Int).toNat n268),true))) else (some (.next (s151.1,s151.2)))) q118 0 (s129.1,false)) fun res149=>fin res149 fun (s289:(List Int)×Bool)=>some (.next (s289.1,s289.2))) else (some (.brk (s129.1,s129.2)))) (s116,true)) fun res127=>fin res127 fun (s295:(List Int)×Bool)=>some s295.1
theorem HZ {w:World} {A:Nat→Prop} (hA:∀ k,A k→k < w.heap.size) {vx0:Value} {x0:Tsk} (hx0:Vb w A vx0 x0) {r:(List Int)} (hm:Dc x0=some r) :
    Fn Try.prog 16 [vx0,(.slice none 0 0)] w fun v w'=>Ext w w'∧Vb w' (upA A w w') v r:=by
 obtain ⟨O,hB,hA0⟩:=enter hA
 replace hx0:=hx0.mono hA0
 obtain ⟨cs3,rfl,v4,v5,v6,v7,rfl,h8,h11,h14,h17⟩:=hx0
 obtain ⟨A9,c10,rfl⟩:=h8.form
 obtain ⟨A12,c13,rfl⟩:=h11.form
 obtain ⟨A15,c16,rfl⟩:=h14.form
 obtain ⟨A18,c19,rfl⟩:=h17.form
 refine AL Try.func16 rfl Try.ntmps16 rfl ?_
 unfold Dc at hm
 refine Ah (Ae (l_box 2 O rfl rfl fun g20 w21 O22 S23 h24=>?_))
 replace h24:Lc 2 w21 O22 g20 26 [(.slice A9 x0.vars.length c10),(.slice A12 x0.init.length c13),(.slice A15 x0.goal.length c16),(.slice A18 x0.ops.length c19)]:=h24
 refine o_as rfl rfl (o_z ?_)
 refine Ah (Ae (o_fa rfl rfl (o_ld (hc:=Blk.cell (i:=0) (h24.1) rfl) rfl rfl ?_)))
 obtain ⟨q25,e26,hm⟩:=bs hm
 replace h8:=h8.st S23
 refine Cf (O:=O22) (R:=fun w' F v=>Vb w' F v q25) (GR Fr.lt h8 e26) rfl rfl fun v31 w27 O28 S29 h30=>?_
 obtain ⟨A32,c33,rfl⟩:=h30.form
 refine o_as rfl rfl (o_z ?_)
 refine Ah (Ae (o_mv rfl rfl (o_ln rfl rfl ?_)))
 have l35:q25.length≤9223372036854775807:=Nat.le_trans h30.len.2.1 h30.len.2.2
 have r34:inI64 (q25.length:Int):=rngNat l35
 obtain ⟨u36,e37,hm⟩:=bs hm
 obtain ⟨m38,e39,e40,e41,e42⟩:=Gw e37
 refine Iq 3 (by decide) O28 (z0:=(0:Int)) rfl rfl rfl rfl rfl e39 (vInt (show inI64 0 from by decide)) e40 e41 rfl fun g43 w44 O45 S46 h47=>?_
 rw [← e42] at h47 ⊢
 refine o_as rfl rfl (o_z ?_)
 refine Ah (Ah (Ae (o_mv rfl rfl (o_ln rfl rfl ?_))))
 replace h30:=h30.st S46
 have l50:q25.length≤9223372036854775807:=Nat.le_trans h30.len.2.1 h30.len.2.2
 have r49:inI64 (q25.length:Int):=rngNat l50
 refine o_mv rfl rfl (o_z ?_)
 obtain ⟨res51,hL52,hm⟩:=bs hm
 refine AM (aft res51 (fun (s53:(List Int)) (x54:Unit)=>[(1,(.slice none 0 0)),(2,(.pointer (some ⟨g20,0,none⟩))),(6,(.slice (some ⟨g43,0,none⟩) u36.length m38))]) (fun s53 x54 w'=>∃ O':Lab,Bs w A w' O'∧Lc 2 w' O' g20 26 [(.slice A9 x0.vars.length c10),(.slice A12 x0.init.length c13),(.slice A15 x0.goal.length c16),(.slice A18 x0.ops.length c19)]∧Vb w' (Fr 0 w' O') (.slice A9 x0.vars.length c10) x0.vars∧Vb w' (Fr 0 w' O') (.slice A12 x0.init.length c13) x0.init∧Vb w' (Fr 0 w' O') (.slice A15 x0.goal.length c16) x0.goal∧Vb w' (Fr 0 w' O') (.slice A18 x0.ops.length c19) x0.ops∧Rw 3 w' O' 3 (.slice (some ⟨g43,0,none⟩) u36.length m38) s53)) ?_ ?_
 ·
  refine Al ?_
  replace hB:=((hB.st S23).st S29).st S46
  replace h8:=(h8.st S29).st S46
  replace h11:=((h11.st S23).st S29).st S46
  replace h14:=((h14.st S23).st S29).st S46
  replace h17:=((h17.st S23).st S29).st S46
  replace h24:=(h24.st S29).st S46
  refine BF (σ:=(List Int)) (X:=Unit) (q25.length) hL52 rfl l50 (fun (s53:(List Int)) (x54:Unit)=>[(1,(.slice none 0 0)),(2,(.pointer (some ⟨g20,0,none⟩))),(6,(.slice (some ⟨g43,0,none⟩) u36.length m38)),(20,(.slice A32 q25.length c33))]) _ (fun s53 x54 w'=>∃ O':Lab,Bs w A w' O'∧Lc 2 w' O' g20 26 [(.slice A9 x0.vars.length c10),(.slice A12 x0.init.length c13),(.slice A15 x0.goal.length c16),(.slice A18 x0.ops.length c19)]∧Vb w' (Fr 0 w' O') (.slice A9 x0.vars.length c10) x0.vars∧Vb w' (Fr 0 w' O') (.slice A12 x0.init.length c13) x0.init∧Vb w' (Fr 0 w' O') (.slice A15 x0.goal.length c16) x0.goal∧Vb w' (Fr 0 w' O') (.slice A18 x0.ops.length c19) x0.ops∧Rw 3 w' O' 3 (.slice (some ⟨g43,0,none⟩) u36.length m38) s53∧Vb w' (Fr 0 w' O') (.slice A32 q25.length c33) q25) _ () ⟨O45,hB,h24,h8,h11,h14,h17,h47,h30⟩ ⟨rfl,rfl,rfl,rfl,rfl,rfl,trivial⟩ (fun _ _=>⟨rfl,rfl⟩) (fun _ _=>⟨rfl,rfl,rfl,trivial⟩) (fun _ _ _ ⟨O',hB,h24,h8,h11,h14,h17,h68,h30⟩=>⟨O',hB,h24,h8,h11,h14,h17,h68⟩) ⟨rfl,rfl,rfl⟩ ⟨rfl,rfl⟩ ?_
  rintro k55 a56 s53 x54 w57 cc59 hx60 ⟨O58,hB,h24,h8,h11,h14,h17,h68,h30⟩ hf61 hret62 hbrk63
  have rk55:inI64 (k55:Int):=rngK hx60 l50
  refine Ah (Ae (o_mv rfl rfl ?_))
  obtain ⟨b70,o71,ce72,hA73,hl74,hd75,v77,rfl,h78⟩:=h30.elem' hx60
  replace h78:=Vb.of_slice h78
  obtain ⟨A79,c80,rfl⟩:=h78.form
  refine o_iaE (hA:=hA73) (hj:=rfl) (hlt:=hl74) rfl rfl rfl ?_
  refine o_ld (hc:=cat0 hd75) rfl rfl ?_
  refine o_as rfl rfl (o_as rfl rfl (o_z ?_))
  refine Ah (Ae (o_mv rfl rfl (o_mv rfl rfl ?_)))
  obtain ⟨a81,e82,hf61⟩:=bs hf61
  obtain ⟨b83,o84,ce85,hA86,hl87,hd88,rfl,r90⟩:=h68.elem e82
  refine o_iaE (hA:=hA86) (hj:=rfl) (hlt:=hl87) rfl rfl rfl ?_
  refine CM rfl h68 (a:=1125899906842624) (vInt (show inI64 (1125899906842624) from by decide)) hA86 rfl rfl (AJ e82) fun w91 S92 h68=>?_
  refine o_z ?_
  refine Ah (Ae (o_fa rfl rfl ?_))
  replace h24:=h24.st S92
  refine o_ld (hc:=Blk.cell (i:=2) (h24.1) rfl) rfl rfl ?_
  refine o_mv rfl rfl ?_
  obtain ⟨q93,e94,hf61⟩:=bs hf61
  replace h14:=h14.st S92
  replace h78:=h78.st S92
  refine BK (O:=O58) (A:=All w91) (R:=fun w' F v=>Vb w' F v q93) (EH (fun _ h=>h) (Vb.mono (F:=Fr 0 w91 O58) h14 Fr.lt) (Vb.mono (F:=Fr 0 w91 O58) h78 Fr.lt) e94) rfl rfl fun v99 w95 O96 S97 h98=>?_
  obtain rfl:=h98.bool
  cases q93
  case false =>
   replace hf61:=iF hf61
   refine o_z ?_
   refine Aj rfl (Am ?_)
   obtain rfl:=sm hf61
   refine (?_:Exists _)
   replace hB:=(hB.st S92).st S97
   replace h8:=(h8.st S92).st S97
   replace h11:=(h11.st S92).st S97
   replace h14:=h14.st S97
   replace h17:=(h17.st S92).st S97
   replace h24:=h24.st S97
   replace h30:=(h30.st S92).st S97
   replace h68:=h68.st S97
   exact ⟨_,(),rfl,⟨rfl,rfl,rfl,rfl,rfl,rfl,trivial⟩,_,hB,h24,h8,h11,h14,h17,h68,h30⟩
  replace hf61:=iT hf61
  refine o_z ?_
  refine Ar rfl (Ae (o_mv rfl rfl (o_mv rfl rfl ?_)))
  obtain ⟨a100,e101,hf61⟩:=bs hf61
  replace h68:=h68.st S97
  obtain ⟨b102,o103,ce104,hA105,hl106,hd107,rfl,r109⟩:=h68.elem e101
  refine o_iaE (hA:=hA105) (hj:=rfl) (hlt:=hl106) rfl rfl rfl ?_
  refine CM rfl h68 (a:=0) (vInt (show inI64 (0) from by decide)) hA105 rfl rfl (AJ e101) fun w110 S111 h68=>?_
  refine o_z ?_
  obtain rfl:=sm hf61
  refine (?_:Exists _)
  replace hB:=((hB.st S92).st S97).st S111
  replace h8:=((h8.st S92).st S97).st S111
  replace h11:=((h11.st S92).st S97).st S111
  replace h14:=(h14.st S97).st S111
  replace h17:=((h17.st S92).st S97).st S111
  replace h24:=(h24.st S97).st S111
  replace h30:=((h30.st S92).st S97).st S111
  exact ⟨_,(),rfl,⟨rfl,rfl,rfl,rfl,rfl,rfl,trivial⟩,_,hB,h24,h8,h11,h14,h17,h68,h30⟩
 replace hB:=((hB.st S23).st S29).st S46
 replace h8:=(h8.st S29).st S46
 replace h11:=((h11.st S23).st S29).st S46
 replace h14:=((h14.st S23).st S29).st S46
 replace h17:=((h17.st S23).st S29).st S46
 replace h24:=(h24.st S29).st S46
 rintro l112 w113 ⟨s116,x117,rfl,hs115,O114,hB,h24,h8,h11,h14,h17,h68⟩
 replace hm:=AW hm
 refine AO _ hs115 ?_
 refine Ah (Ae (o_la (hl:=rfl) (hc:=(h24.1).cellsAt) rfl rfl ?_))
 obtain ⟨q118,e119,hm⟩:=bs hm
 refine Cf (O:=O114) (R:=fun w' F v=>Vb w' F v q118) (Hu Fr.lt (Vb.ofAgg (cs:=[(.slice A9 x0.vars.length c10),(.slice A12 x0.init.length c13),(.slice A15 x0.goal.length c16),(.slice A18 x0.ops.length c19)]) (x:=x0) rfl ⟨_,_,_,_,rfl,h8,h11,h14,h17⟩) e119) rfl rfl fun v124 w120 O121 S122 h123=>?_
 obtain ⟨A125,c126,rfl⟩:=h123.form
 refine o_as rfl rfl (o_z ?_)
 refine Ah (Ah (Ae (o_as rfl rfl (o_z ?_))))
 obtain ⟨res127,hL128,hm⟩:=bs hm
 refine AM (aft res127 (fun (s129:(List Int)×Bool) (x130:Unit)=>[(6,(.slice (some ⟨g43,0,none⟩) u36.length m38))]) (fun s129 x130 w'=>∃ O':Lab,Bs w A w' O'∧Rw 3 w' O' 3 (.slice (some ⟨g43,0,none⟩) u36.length m38) s129.1)) ?_ ?_
 ·
  refine Al ?_
  replace hB:=hB.st S122
  replace h8:=h8.st S122
  replace h11:=h11.st S122
  replace h14:=h14.st S122
  replace h17:=h17.st S122
  replace h24:=h24.st S122
  replace h68:=h68.st S122
  refine DL (σ:=(List Int)×Bool) (X:=Unit) hL128 (fun (s129:(List Int)×Bool) (x130:Unit)=>[(1,(.slice none 0 0)),(2,(.pointer (some ⟨g20,0,none⟩))),(6,(.slice (some ⟨g43,0,none⟩) u36.length m38)),(9,(.slice A125 q118.length c126)),(10,(.bool s129.2))]) _ (fun s129 x130 w'=>∃ O':Lab,Bs w A w' O'∧Lc 2 w' O' g20 26 [(.slice A9 x0.vars.length c10),(.slice A12 x0.init.length c13),(.slice A15 x0.goal.length c16),(.slice A18 x0.ops.length c19)]∧Vb w' (Fr 0 w' O') (.slice A9 x0.vars.length c10) x0.vars∧Vb w' (Fr 0 w' O') (.slice A12 x0.init.length c13) x0.init∧Vb w' (Fr 0 w' O') (.slice A15 x0.goal.length c16) x0.goal∧Vb w' (Fr 0 w' O') (.slice A18 x0.ops.length c19) x0.ops∧Rw 3 w' O' 3 (.slice (some ⟨g43,0,none⟩) u36.length m38) s129.1∧Vb w' (Fr 0 w' O') (.slice A125 q118.length c126) q118) _ () ⟨O121,hB,h24,h8,h11,h14,h17,h68,h123⟩ ⟨rfl,rfl,rfl,rfl,rfl,trivial⟩ ?_
  rintro s129 x130 w133 cc135 ⟨O134,hB,h24,h8,h11,h14,h17,h144,h123⟩ hf137 hret138 hbrk139
  refine Ah (Ah (Ae (o_mv rfl rfl (o_z ?_))))
  refine BP rfl (fun c146=>?_) (fun c146=>?_)
  ·
   replace hf137:=ip hf137 c146
   refine Am (Al (Ah (Ae (o_as rfl rfl (o_z ?_)))))
   refine Ah (Ae (o_mv rfl rfl (o_ln rfl rfl ?_)))
   have l148:q118.length≤9223372036854775807:=Nat.le_trans h123.len.2.1 h123.len.2.2
   have r147:inI64 (q118.length:Int):=rngNat l148
   refine o_mv rfl rfl (o_z ?_)
   obtain ⟨res149,hL150,hf137⟩:=bs hf137
   refine AM (aft res149 (fun (s151:(List Int)×Bool) (x152:Unit)=>[(1,(.slice none 0 0)),(2,(.pointer (some ⟨g20,0,none⟩))),(6,(.slice (some ⟨g43,0,none⟩) u36.length m38)),(9,(.slice A125 q118.length c126)),(10,(.bool s151.2))]) (fun s151 x152 w'=>∃ O':Lab,Bs w A w' O'∧Lc 2 w' O' g20 26 [(.slice A9 x0.vars.length c10),(.slice A12 x0.init.length c13),(.slice A15 x0.goal.length c16),(.slice A18 x0.ops.length c19)]∧Vb w' (Fr 0 w' O') (.slice A9 x0.vars.length c10) x0.vars∧Vb w' (Fr 0 w' O') (.slice A12 x0.init.length c13) x0.init∧Vb w' (Fr 0 w' O') (.slice A15 x0.goal.length c16) x0.goal∧Vb w' (Fr 0 w' O') (.slice A18 x0.ops.length c19) x0.ops∧Rw 3 w' O' 3 (.slice (some ⟨g43,0,none⟩) u36.length m38) s151.1∧Vb w' (Fr 0 w' O') (.slice A125 q118.length c126) q118)) ?_ ?_
   ·
    refine Al (BF (σ:=(List Int)×Bool) (X:=Unit) (q118.length) hL150 rfl l148 (fun (s151:(List Int)×Bool) (x152:Unit)=>[(1,(.slice none 0 0)),(2,(.pointer (some ⟨g20,0,none⟩))),(6,(.slice (some ⟨g43,0,none⟩) u36.length m38)),(9,(.slice A125 q118.length c126)),(10,(.bool s151.2)),(41,(.slice A125 q118.length c126))]) _ (fun s151 x152 w'=>∃ O':Lab,Bs w A w' O'∧Lc 2 w' O' g20 26 [(.slice A9 x0.vars.length c10),(.slice A12 x0.init.length c13),(.slice A15 x0.goal.length c16),(.slice A18 x0.ops.length c19)]∧Vb w' (Fr 0 w' O') (.slice A9 x0.vars.length c10) x0.vars∧Vb w' (Fr 0 w' O') (.slice A12 x0.init.length c13) x0.init∧Vb w' (Fr 0 w' O') (.slice A15 x0.goal.length c16) x0.goal∧Vb w' (Fr 0 w' O') (.slice A18 x0.ops.length c19) x0.ops∧Rw 3 w' O' 3 (.slice (some ⟨g43,0,none⟩) u36.length m38) s151.1∧Vb w' (Fr 0 w' O') (.slice A125 q118.length c126) q118) _ () ⟨O134,hB,h24,h8,h11,h14,h17,h144,h123⟩ ⟨rfl,rfl,rfl,rfl,rfl,rfl,rfl,rfl,trivial⟩ (fun _ _=>⟨rfl,rfl⟩) (fun _ _=>⟨rfl,rfl,rfl,rfl,rfl,trivial⟩) (fun _ _ _ ⟨O',hB,h24,h8,h11,h14,h17,h166,h123⟩=>⟨O',hB,h24,h8,h11,h14,h17,h166,h123⟩) ⟨rfl,rfl,rfl⟩ ⟨rfl,rfl⟩ ?_)
    rintro k153 a154 s151 x152 w155 cc157 hx158 ⟨O156,hB,h24,h8,h11,h14,h17,h166,h123⟩ hf159 hret160 hbrk161
    have rk153:inI64 (k153:Int):=rngK hx158 l148
    refine Ah (Ae ?_)
    obtain ⟨b168,o169,ce170,hA171,hl172,hd173,rfl,r175,r176,r177⟩:=h123.elem' hx158
    refine o_iaE (hA:=hA171) (hj:=rfl) (hlt:=hl172) rfl rfl rfl ?_
    refine o_la (hl:=rfl) (hc:=hd173) rfl rfl ?_
    refine BY 4 O156 rfl fun g178 w179 O180 S181 h182=>?_
    refine AV h182 rfl rfl rfl (Nat.le_of_ble_eq_true rfl) (by first|exact allOne rfl|simp [Value.cells,Value.oneCell',AQ]) fun w183 S184 h182=>?_
    replace h182:Lc 4 w183 O180 g178 93 [(.int .i64 a154.src),(.int .i64 a154.op),(.int .i64 a154.dst)]:=h182
    refine o_z ?_
    refine Ah (Ae (o_fa rfl rfl ?_))
    replace h24:=(h24.st S181).st S184
    refine o_ld (hc:=Blk.cell (i:=3) (h24.1) rfl) rfl rfl ?_
    refine o_fa rfl rfl (o_ld (hc:=Blk.cell (i:=1) (h182.1) rfl) rfl rfl ?_)
    obtain ⟨a185,e186,hf159⟩:=bs hf159
    obtain ⟨p188,x187⟩:=AN e186
    replace h17:=(h17.st S181).st S184
    obtain ⟨b189,o190,ce191,hA192,hl193,hd194,v196,v197,rfl,h198,h201,r204,z205⟩:=h17.elem' x187
    obtain ⟨A199,c200,rfl⟩:=h198.form
    obtain ⟨A202,c203,rfl⟩:=h201.form
    refine o_iaE (hA:=hA192) (hj:=(Int.toNat_of_nonneg p188).symm) (hlt:=hl193) rfl rfl rfl ?_
    refine o_fa rfl rfl (o_ld (hc:=cat1 hd194) rfl rfl ?_)
    refine o_as rfl rfl (o_z ?_)
    refine Ah (Ah (Ae (o_mv rfl rfl (o_sq rfl rfl ?_))))
    refine o_z ?_
    refine Aj rfl (Am (Ah ?_))
    obtain ⟨y206,hy207,hf159⟩:=bs hf159
    refine AM (fun l' w'=>∃ (x209:Unit) (O':Lab),subs l' [(1,(.slice none 0 0)),(2,(.pointer (some ⟨g20,0,none⟩))),(6,(.slice (some ⟨g43,0,none⟩) u36.length m38)),(9,(.slice A125 q118.length c126)),(10,(.bool s151.2)),(12,(.pointer (some ⟨g178,0,none⟩))),(13,(.int .i64 a185.cost)),(41,(.slice A125 q118.length c126)),(42,(.int .i64 (q118.length:Int))),(43,(.int .i64 (k153:Int))),(81,(.bool y206))]∧Bs w A w' O'∧Lc 2 w' O' g20 26 [(.slice A9 x0.vars.length c10),(.slice A12 x0.init.length c13),(.slice A15 x0.goal.length c16),(.slice A18 x0.ops.length c19)]∧Vb w' (Fr 0 w' O') (.slice A9 x0.vars.length c10) x0.vars∧Vb w' (Fr 0 w' O') (.slice A12 x0.init.length c13) x0.init∧Vb w' (Fr 0 w' O') (.slice A15 x0.goal.length c16) x0.goal∧Vb w' (Fr 0 w' O') (.slice A18 x0.ops.length c19) x0.ops∧Rw 3 w' O' 3 (.slice (some ⟨g43,0,none⟩) u36.length m38) s151.1∧Vb w' (Fr 0 w' O') (.slice A125 q118.length c126) q118∧Lc 4 w' O' g178 93 [(.int .i64 a154.src),(.int .i64 a154.op),(.int .i64 a154.dst)]) ?_ ?_
    ·
     refine BJ (·=w183) [(0,true),(1,true),(2,true),(3,true),(4,true),(5,true),(6,true),(7,true),(8,true),(9,true),(10,true),(11,true),(12,true),(13,true),(14,true),(15,true),(16,true),(17,true),(18,true),(19,true),(20,true)] (by kernel_rfl) rfl (by kernel_rfl) rfl ?_
     refine h_mv rfl rfl rfl (h_fa rfl rfl rfl (h_ldA (hc:=Blk.cell (i:=2) (h182.1) rfl) rfl rfl rfl ?_))
     obtain ⟨a210,e211,hy207⟩:=bs hy207
     obtain ⟨p213,x212⟩:=AN e211
     replace h166:=(h166.st S181).st S184
     obtain ⟨b214,o215,ce216,hA217,hl218,hd219,rfl,r221⟩:=h166.elem x212
     refine h_iaE (hA:=hA217) (hj:=(Int.toNat_of_nonneg p213).symm) (hlt:=hl218) rfl rfl rfl rfl ?_
     refine h_ldA (hc:=cat0 hd219) rfl rfl rfl ?_
     refine h_ltS rfl rfl rfl rfl (fun c222=>?_) fun c222=>?_
     ·
      replace hy207:=ip hy207 c222
      refine h_mv rfl rfl rfl (hwp_o rfl (AC rfl rfl (g_mv rfl rfl (hwp_o rfl (AC rfl rfl (g_fa rfl rfl (hwp_o rfl (AC rfl rfl (g_ldA (hc:=Blk.cell (i:=2) (h182.1) rfl) rfl rfl ?_)))))))))
      refine hwp_o rfl (AC rfl rfl ?_)
      obtain ⟨a223,e224,hy207⟩:=bs hy207
      obtain ⟨p226,x225⟩:=AN e224
      obtain ⟨b227,o228,ce229,hA230,hl231,hd232,rfl,r234⟩:=h166.elem x225
      refine g_iaE (hA:=hA230) (hj:=(Int.toNat_of_nonneg p226).symm) (hlt:=hl231) rfl rfl rfl ?_
      refine hwp_o rfl (AC rfl rfl (g_ldA (hc:=cat0 hd232) rfl rfl ?_))
      refine hwp_o rfl (AC rfl rfl (g_mv rfl rfl (hwp_o rfl (AC rfl rfl ?_))))
      obtain ⟨n235,e236,hy207⟩:=bs hy207
      have r237:=(Ba e236)
      refine g_adE (he:=e236) rfl rfl rfl ?_
      refine hwp_o rfl (AC rfl rfl (g_mv rfl rfl (hwp_o rfl (AC rfl rfl (g_fa rfl rfl (hwp_o rfl (AC rfl rfl (g_ldA (hc:=Blk.cell (i:=0) (h182.1) rfl) rfl rfl ?_))))))))
      refine hwp_o rfl (AC rfl rfl ?_)
      obtain ⟨a238,e239,hy207⟩:=bs hy207
      obtain ⟨p241,x240⟩:=AN e239
      obtain ⟨b242,o243,ce244,hA245,hl246,hd247,rfl,r249⟩:=h166.elem x240
      refine g_iaE (hA:=hA245) (hj:=(Int.toNat_of_nonneg p241).symm) (hlt:=hl246) rfl rfl rfl ?_
      refine hwp_o rfl (AC rfl rfl (g_ldA (hc:=cat0 hd247) rfl rfl ?_))
      refine hwp_o rfl (AC rfl rfl (AP (fun _ _=>BV rfl rfl) rfl (fun c250=>?_) (fun c250=>?_)))
      ·
       replace hy207:=ip hy207 c250
       refine h_pt rfl rfl rfl rfl (h_z ?_)
       obtain rfl:=sm hy207
       replace hB:=(hB.st S181).st S184
       replace h8:=(h8.st S181).st S184
       replace h11:=(h11.st S181).st S184
       replace h14:=(h14.st S181).st S184
       replace h123:=(h123.st S181).st S184
       exact ⟨(),_,⟨rfl,rfl,rfl,rfl,rfl,rfl,rfl,rfl,rfl,rfl,rfl,trivial⟩,hB,h24,h8,h11,h14,h17,h166,h123,h182⟩
      ·
       replace hy207:=im hy207 c250
       refine h_pt rfl rfl rfl rfl (h_z ?_)
       obtain rfl:=sm hy207
       replace hB:=(hB.st S181).st S184
       replace h8:=(h8.st S181).st S184
       replace h11:=(h11.st S181).st S184
       replace h14:=(h14.st S181).st S184
       replace h123:=(h123.st S181).st S184
       exact ⟨(),_,⟨rfl,rfl,rfl,rfl,rfl,rfl,rfl,rfl,rfl,rfl,rfl,trivial⟩,hB,h24,h8,h11,h14,h17,h166,h123,h182⟩
     ·
      replace hy207:=im hy207 c222
      refine h_mv rfl rfl rfl (h_no rfl rfl rfl rfl rfl (h_no rfl rfl rfl rfl rfl (h_no rfl rfl rfl rfl rfl (h_no rfl rfl rfl rfl rfl (h_no rfl rfl rfl rfl rfl (h_no rfl rfl rfl rfl rfl (h_no rfl rfl rfl rfl rfl (h_no rfl rfl rfl rfl rfl (h_no rfl rfl rfl rfl rfl (h_no rfl rfl rfl rfl rfl (h_no rfl rfl rfl rfl rfl (h_no rfl rfl rfl rfl rfl (h_no rfl rfl rfl rfl rfl (h_pf rfl rfl rfl rfl ?_))))))))))))))
      refine h_z ?_
      obtain rfl:=sm hy207
      replace hB:=(hB.st S181).st S184
      replace h8:=(h8.st S181).st S184
      replace h11:=(h11.st S181).st S184
      replace h14:=(h14.st S181).st S184
      replace h123:=(h123.st S181).st S184
      exact ⟨(),_,⟨rfl,rfl,rfl,rfl,rfl,rfl,rfl,rfl,rfl,rfl,rfl,trivial⟩,hB,h24,h8,h11,h14,h17,h166,h123,h182⟩
    replace hB:=(hB.st S181).st S184
    replace h8:=(h8.st S181).st S184
    replace h11:=(h11.st S181).st S184
    replace h14:=(h14.st S181).st S184
    replace h123:=(h123.st S181).st S184
    replace h166:=(h166.st S181).st S184
    rintro l251 w252 ⟨x209,O253,hs254,hB,h24,h8,h11,h14,h17,h166,h123,h182⟩
    refine AO _ hs254 ?_
    refine BP rfl (fun c255=>?_) (fun c255=>?_)
    ·
     replace hf159:=ip hf159 c255
     refine Ah (BG [] O253 ?_)
     refine x_pre (fuel:=1) [] [(0,true),(1,true),(2,true),(3,true),(4,true),(5,true),(6,true),(7,true),(8,true),(9,true),(10,true)] (by kernel_rfl) rfl ?_
     refine h_mv rfl rfl rfl (h_fa rfl rfl rfl (h_ldC (hc:=fun w' ⟨O',hq⟩=>Blk.cell (i:=0) ((h182.st hq (by decide)).1) rfl) rfl rfl rfl ?_))
     refine h_mv rfl rfl rfl (h_fa rfl rfl rfl (h_ldC (hc:=fun w' ⟨O',hq⟩=>Blk.cell (i:=2) ((h182.st hq (by decide)).1) rfl) rfl rfl rfl ?_))
     obtain ⟨a256,e257,hf159⟩:=bs hf159
     obtain ⟨p259,x258⟩:=AN e257
     obtain ⟨b260,o261,ce262,hA263,hF266,hl264,hd265,rfl,r267⟩:=h166.elemF x258
     refine h_iaE (hA:=hA263) (hj:=(Int.toNat_of_nonneg p259).symm) (hlt:=hl264) rfl rfl rfl rfl ?_
     refine h_ldC (hc:=fun w' ⟨O',hq⟩=>cat0 (Bj (hq.agree (i:=3) (by decide)) hF266 hd265)) rfl rfl rfl ?_
     refine h_mv rfl rfl rfl ?_
     obtain ⟨n268,e269,hf159⟩:=bs hf159
     have r270:=(Ba e269)
     refine h_adE (he:=e269) rfl rfl rfl rfl ?_
     obtain ⟨a271,e272,hf159⟩:=bs hf159
     obtain ⟨p274,x273⟩:=AN e272
     obtain ⟨b275,o276,ce277,hA278,hF281,hl279,hd280,rfl,r282⟩:=h166.elemF x273
     refine h_iaE (hA:=hA278) (hj:=(Int.toNat_of_nonneg p274).symm) (hlt:=hl279) rfl rfl rfl rfl ?_
     refine AK ?_
     refine x_one (i:=11) (by kernel_rfl) rfl ?_
     refine CM rfl h166 (a:=n268) (vInt r270) hA278 rfl rfl (AJ x273) fun w283 S284 h166=>?_
     refine x_end (by kernel_rfl) ?_
     refine x_nil (by kernel_rfl) ?_
     refine Ae (o_as rfl rfl (o_z ?_))
     obtain rfl:=sm hf159
     refine (?_:Exists _)
     replace hB:=hB.st S284
     replace h8:=h8.st S284
     replace h11:=h11.st S284
     replace h14:=h14.st S284
     replace h17:=h17.st S284
     replace h24:=h24.st S284
     replace h123:=h123.st S284
     exact ⟨_,(),rfl,⟨rfl,rfl,rfl,rfl,rfl,rfl,rfl,rfl,trivial⟩,_,hB,h24,h8,h11,h14,h17,h166,h123⟩
    ·
     replace hf159:=im' hf159 c255
     refine Am ?_
     obtain rfl:=sm hf159
     refine (?_:Exists _)
     exact ⟨_,(),rfl,⟨rfl,rfl,rfl,rfl,rfl,rfl,rfl,rfl,trivial⟩,_,hB,h24,h8,h11,h14,h17,h166,h123⟩
   rintro l285 w286 ⟨s289,x290,rfl,hs288,O287,hB,h24,h8,h11,h14,h17,h166,h123⟩
   replace hf137:=AW hf137
   obtain rfl:=sm hf137
   refine (?_:Exists _)
   exact ⟨_,(),rfl,⟨(Bo hs288 _ _ rfl),(Bo hs288 _ _ rfl),(Bo hs288 _ _ rfl),(Bo hs288 _ _ rfl),(Bo hs288 _ _ rfl),trivial⟩,_,hB,h24,h8,h11,h14,h17,h166,h123⟩
  ·
   replace hf137:=im' hf137 c146
   refine At ?_
   obtain rfl:=sm hf137
   refine (?_:Exists _)
   exact ⟨_,(),hbrk139 _ rfl,⟨rfl,trivial⟩,_,hB,h144⟩
 replace hB:=hB.st S122
 rintro l291 w292 ⟨s295,x296,rfl,hs294,O293,hB,h144⟩
 replace hm:=AW hm
 refine AO _ hs294 ?_
 refine Ah (Ae (o_mv rfl rfl (o_as rfl rfl (o_z ?_))))
 refine Au ?_
 obtain ⟨O297,S298,h144⟩:=h144.freeze
 obtain rfl:=sm hm
 replace hB:=hB.st S298
 exact ret1v rfl (AG rfl) ⟨hB.ext,(Vb.mono (F:=Fr 0 w292 O297) h144 hB.out)⟩
noncomputable def Dn (x0:Tsk) (x1:List Int) (x2:List Int):Option (Int×Bool) :=
  bnd (rng (ρ:=Int×Bool) (fun (k36:Nat) (a37:Int) (s34:(List Int)×Int)=>bnd (BM x0 s34.1 a37) fun q59=>if (!q59.2)=true then (some (.ret (0,false))) else (bnd (atI x0.ops a37) fun a73=>bnd (chkI (s34.2 + a73.cost)) fun n94=>some (.next (q59.1,n94)))) x2 0 (x1,0)) fun res32=>fin res32 fun (s101:(List Int)×Int)=>bnd (bnd (Cu x0.goal s101.1) fun q107=>if q107=true then some true else some false:Option Bool) fun y103=>some (s101.2,y103)
theorem JZ {w:World} {A:Nat→Prop} (hA:∀ k,A k→k < w.heap.size) {vx0:Value} {x0:Tsk} (hx0:Vb w A vx0 x0) {vx1:Value} {x1:List Int} (hx1:Vb w A vx1 x1) {vx2:Value} {x2:List Int} (hx2:Vb w A vx2 x2) {r:Int×Bool} (hm:Dn x0 x1 x2=some r) :
    Fn Try.prog 18 [vx0,vx1,vx2] w fun v w'=>Ext w w'∧T2 w' (upA A w w') v r:=by
 obtain ⟨O,hB,hA0⟩:=enter hA
 replace hx0:=hx0.mono hA0
 obtain ⟨cs4,rfl,v5,v6,v7,v8,rfl,h9,h12,h15,h18⟩:=hx0
 obtain ⟨A10,c11,rfl⟩:=h9.form
 obtain ⟨A13,c14,rfl⟩:=h12.form
 obtain ⟨A16,c17,rfl⟩:=h15.form
 obtain ⟨A19,c20,rfl⟩:=h18.form
 replace hx1:=hx1.mono hA0
 obtain ⟨A21,c22,rfl⟩:=hx1.form
 replace hx2:=hx2.mono hA0
 obtain ⟨A23,c24,rfl⟩:=hx2.form
 refine AL Try.func18 rfl Try.ntmps18 rfl ?_
 unfold Dn at hm
 refine Ah (Ae (l_box 2 O rfl rfl fun g25 w26 O27 S28 h29=>?_))
 replace h29:Lc 2 w26 O27 g25 26 [(.slice A10 x0.vars.length c11),(.slice A13 x0.init.length c14),(.slice A16 x0.goal.length c17),(.slice A19 x0.ops.length c20)]:=h29
 refine o_as rfl rfl (o_as rfl rfl (o_z ?_))
 refine Ah (Ae (o_as rfl rfl (o_z ?_)))
 refine Ah (Ah (Ae (o_mv rfl rfl (o_ln rfl rfl ?_))))
 replace hx2:=hx2.st S28
 have l31:x2.length≤9223372036854775807:=Nat.le_trans hx2.len.2.1 hx2.len.2.2
 have r30:inI64 (x2.length:Int):=rngNat l31
 refine o_mv rfl rfl (o_z ?_)
 obtain ⟨res32,hL33,hm⟩:=bs hm
 refine AM (aft res32 (fun (s34:(List Int)×Int) (x35:(Option Addr×Nat))=>[(1,(.slice x35.1 s34.1.length x35.2)),(3,(.pointer (some ⟨g25,0,none⟩))),(8,(.int .i64 s34.2))]) (fun s34 x35 w'=>∃ O':Lab,Bs w A w' O'∧Vb w' (Fr 0 w' O') (.slice x35.1 s34.1.length x35.2) s34.1∧Lc 2 w' O' g25 26 [(.slice A10 x0.vars.length c11),(.slice A13 x0.init.length c14),(.slice A16 x0.goal.length c17),(.slice A19 x0.ops.length c20)]∧Vb w' (Fr 0 w' O') (.slice A10 x0.vars.length c11) x0.vars∧Vb w' (Fr 0 w' O') (.slice A13 x0.init.length c14) x0.init∧Vb w' (Fr 0 w' O') (.slice A16 x0.goal.length c17) x0.goal∧Vb w' (Fr 0 w' O') (.slice A19 x0.ops.length c20) x0.ops∧inI64 s34.2)) ?_ ?_
 ·
  refine Al ?_
  replace hB:=hB.st S28
  replace hx1:=hx1.st S28
  replace h9:=h9.st S28
  replace h12:=h12.st S28
  replace h15:=h15.st S28
  replace h18:=h18.st S28
  refine BF (σ:=(List Int)×Int) (X:=(Option Addr×Nat)) (x2.length) hL33 rfl l31 (fun (s34:(List Int)×Int) (x35:(Option Addr×Nat))=>[(1,(.slice x35.1 s34.1.length x35.2)),(3,(.pointer (some ⟨g25,0,none⟩))),(8,(.int .i64 s34.2)),(13,(.slice A23 x2.length c24))]) _ (fun s34 x35 w'=>∃ O':Lab,Bs w A w' O'∧Vb w' (Fr 0 w' O') (.slice x35.1 s34.1.length x35.2) s34.1∧Lc 2 w' O' g25 26 [(.slice A10 x0.vars.length c11),(.slice A13 x0.init.length c14),(.slice A16 x0.goal.length c17),(.slice A19 x0.ops.length c20)]∧Vb w' (Fr 0 w' O') (.slice A10 x0.vars.length c11) x0.vars∧Vb w' (Fr 0 w' O') (.slice A13 x0.init.length c14) x0.init∧Vb w' (Fr 0 w' O') (.slice A16 x0.goal.length c17) x0.goal∧Vb w' (Fr 0 w' O') (.slice A19 x0.ops.length c20) x0.ops∧Vb w' (Fr 0 w' O') (.slice A23 x2.length c24) x2∧inI64 s34.2) _ (A21,c22) ⟨O27,hB,hx1,h29,h9,h12,h15,h18,hx2,(show inI64 (0) from by decide)⟩ ⟨rfl,rfl,rfl,rfl,rfl,rfl,trivial⟩ (fun _ _=>⟨rfl,rfl⟩) (fun _ _=>⟨rfl,rfl,rfl,trivial⟩) (fun _ _ _ ⟨O',hB,h49,h29,h9,h12,h15,h18,hx2,r50⟩=>⟨O',hB,h49,h29,h9,h12,h15,h18,r50⟩) ⟨rfl,rfl,rfl⟩ ⟨rfl,rfl⟩ ?_
  rintro k36 a37 s34 x35 w38 cc40 hx41 ⟨O39,hB,h49,h29,h9,h12,h15,h18,hx2,r50⟩ hf42 hret43 hbrk44
  have rk36:inI64 (k36:Int):=rngK hx41 l31
  refine Ah (Ae ?_)
  obtain ⟨b51,o52,ce53,hA54,hl55,hd56,rfl,r58⟩:=hx2.elem' hx41
  refine o_iaE (hA:=hA54) (hj:=rfl) (hlt:=hl55) rfl rfl rfl ?_
  refine o_ld (hc:=cat0 hd56) rfl rfl ?_
  refine o_as rfl rfl (o_z ?_)
  refine Ah (Ae (o_la (hl:=rfl) (hc:=(h29.1).cellsAt) rfl rfl ?_))
  refine o_mv rfl rfl (o_mv rfl rfl ?_)
  obtain ⟨q59,e60,hf42⟩:=bs hf42
  refine Cf (O:=O39) (R:=fun w' F v=>T2 w' F v q59) (Ht Fr.lt (Vb.ofAgg (cs:=[(.slice A10 x0.vars.length c11),(.slice A13 x0.init.length c14),(.slice A16 x0.goal.length c17),(.slice A19 x0.ops.length c20)]) (x:=x0) rfl ⟨_,_,_,_,rfl,h9,h12,h15,h18⟩) h49 r58 e60) rfl rfl fun v65 w61 O62 S63 h64=>?_
  obtain ⟨v66,v67,rfl,h68,h69⟩:=h64
  obtain ⟨A70,c71,rfl⟩:=h68.form
  obtain rfl:=h69.bool
  refine o_mv rfl rfl (o_ex rfl rfl rfl (o_ex rfl rfl rfl (o_as rfl rfl (o_as rfl rfl (o_z ?_)))))
  refine Ah (Ah (Ae (o_mv rfl rfl (o_nn rfl rfl (o_z ?_)))))
  refine BP rfl (fun c72=>?_) (fun c72=>?_)
  ·
   replace hf42:=ip hf42 c72
   refine Ah (Ae (o_as rfl rfl (o_as rfl rfl (o_z ?_))))
   refine Au ?_
   obtain rfl:=sm hf42
   obtain rfl:=hret43 _ rfl
   obtain rfl:=sm (By hm)
   replace hB:=hB.st S63
   exact ret2 rfl (AG rfl) (AG rfl) ⟨hB.ext,_,_,rfl,(vInt (show inI64 (0) from by decide)),vBool⟩
  ·
   replace hf42:=im' hf42 c72
   refine Am (Ah (Ae (o_mv rfl rfl (o_as rfl rfl (o_z ?_)))))
   refine Ae (o_mv rfl rfl (o_fa rfl rfl ?_))
   replace h29:=h29.st S63
   refine o_ld (hc:=Blk.cell (i:=3) (h29.1) rfl) rfl rfl ?_
   refine o_mv rfl rfl ?_
   obtain ⟨a73,e74,hf42⟩:=bs hf42
   obtain ⟨p76,x75⟩:=AN e74
   replace h18:=h18.st S63
   obtain ⟨b77,o78,ce79,hA80,hl81,hd82,v84,v85,rfl,h86,h89,r92,z93⟩:=h18.elem' x75
   obtain ⟨A87,c88,rfl⟩:=h86.form
   obtain ⟨A90,c91,rfl⟩:=h89.form
   refine o_iaE (hA:=hA80) (hj:=(Int.toNat_of_nonneg p76).symm) (hlt:=hl81) rfl rfl rfl ?_
   refine o_fa rfl rfl (o_ld (hc:=cat1 hd82) rfl rfl ?_)
   obtain ⟨n94,e95,hf42⟩:=bs hf42
   have r96:=(Ba e95)
   refine o_adE (he:=e95) rfl rfl rfl ?_
   refine o_as rfl rfl (o_z ?_)
   obtain rfl:=sm hf42
   refine (?_:Exists _)
   replace hB:=hB.st S63
   replace hx2:=hx2.st S63
   replace h9:=h9.st S63
   replace h12:=h12.st S63
   replace h15:=h15.st S63
   exact ⟨_,(A70,c71),rfl,⟨rfl,rfl,rfl,rfl,rfl,rfl,trivial⟩,_,hB,h68,h29,h9,h12,h15,h18,hx2,r96⟩
 replace hB:=hB.st S28
 replace h9:=h9.st S28
 replace h12:=h12.st S28
 replace h15:=h15.st S28
 replace h18:=h18.st S28
 rintro l97 w98 ⟨s101,x102,rfl,hs100,O99,hB,h49,h29,h9,h12,h15,h18,r50⟩
 replace hm:=AW hm
 refine AO _ hs100 ?_
 refine Ah ?_
 obtain ⟨y103,hy104,hm⟩:=bs hm
 refine AM (fun l' w'=>∃ (x106:Unit) (O':Lab),subs l' [(6,(.int .i64 s101.2)),(7,(.bool y103))]∧Bs w A w' O') ?_ ?_
 ·
  refine Ae (o_mv rfl rfl (o_fa rfl rfl (o_ld (hc:=Blk.cell (i:=2) (h29.1) rfl) rfl rfl ?_)))
  refine o_mv rfl rfl ?_
  obtain ⟨q107,e108,hy104⟩:=bs hy104
  refine BK (O:=O99) (A:=All w98) (R:=fun w' F v=>Vb w' F v q107) (EH (fun _ h=>h) (Vb.mono (F:=Fr 0 w98 O99) h15 Fr.lt) (Vb.mono (F:=Fr 0 w98 O99) h49 Fr.lt) e108) rfl rfl fun v113 w109 O110 S111 h112=>?_
  obtain rfl:=h112.bool
  cases q107
  case false =>
   replace hy104:=iF hy104
   refine o_as rfl rfl (o_as rfl rfl (o_z ?_))
   obtain rfl:=sm hy104
   replace hB:=hB.st S111
   exact ⟨(),_,⟨rfl,rfl,trivial⟩,hB⟩
  replace hy104:=iT hy104
  refine o_as rfl rfl (o_as rfl rfl (o_z ?_))
  obtain rfl:=sm hy104
  replace hB:=hB.st S111
  exact ⟨(),_,⟨rfl,rfl,trivial⟩,hB⟩
 rintro l114 w115 ⟨x106,O116,hs117,hB⟩
 refine AO _ hs117 ?_
 refine Au ?_
 obtain rfl:=sm hm
 exact ret2 rfl (AG rfl) (AG rfl) ⟨hB.ext,_,_,rfl,(vInt r50),vBool⟩
end
section
open Go Go.RowKit
theorem Ln {vars:List Int} (h0:∀ (i:Nat) n,vars[i]?=some n→0≤n∧n≤64) (hb:∀ k,(statesL (vars.take k)).length≤1000000) (hvn:vars.length≤1000):CQ vars=some (statesL vars):=by
  unfold CQ
  rw [FF (fun k=>statesL (vars.take k)) ?_ ?_]
  · rw [AB,fin_d,List.take_length]
  · rfl
  intro k n hn
  obtain ⟨N,rfl⟩:=Int.eq_ofNat_of_zero_le (h0 k n hn).1
  have hN:=(h0 k _ hn).2
  have hk:=AJ hn
  have hlen:=hb k
  rw [FF (fun i=>((statesL (vars.take k)).take i).flatMap (exts N)) ?_ ?_]
  · rw [AB,fin_d,List.take_length,DW hn];rfl
  · rfl
  intro i s hs
  have hsl:=JW vars k (by omega) s (List.mem_of_getElem? hs)
  have hfl:=FR N ((statesL (vars.take k)).take i)
  have hfl2:((statesL (vars.take k)).take i).length * N≤1000000 * 64:=Nat.mul_le_mul (by rw [List.length_take];omega) (by omega)
  rw [Me,AB,Ja (fun x=>((statesL (vars.take k)).take i).flatMap (exts N) ++ exts x s) ?_ ?_]
  · rw [AB,fin_d,Lm _ hs]
  · simp [exts]
  intro x hx
  rw [CX (by simp;omega) (by simp;omega),AB,CX (by simp;omega) (by simp;omega),AB,CX (by simp only [List.length_append,ET,List.length_singleton];omega) (by simp only [List.length_append,ET,List.length_singleton];omega),AB,Ll]
  simp
theorem Hv {t:Tsk} (h:SmallOk t):CQ t.vars=some (statesL t.vars) :=
  Ln (fun i n hn=>by have:=h.ok.vars i n hn;omega) (fun k=>by have:=h.states k;omega) (by have:=h.1;omega)
end
section
open Go Go.RowKit
def effsOn (s:List Int):List Eff→List Int→List Int
  | [],out=>out
  | e :: r,out=>effsOn s r (if holdsB e.cond s=true then out.set e.var.toNat e.val else out)
theorem GS (s:List Int):∀ (a b:List Eff) (out:List Int),effsOn s (a ++ b) out=effsOn s b (effsOn s a out)
  | [],_,_=>rfl
  | e :: a,b,out=>by simp [effsOn,GS s a b]
theorem GT (s:List Int):∀ (a:List Eff) (out:List Int),(effsOn s a out).length=out.length
  | [],_=>rfl
  | e :: a,out=>by
    rw [effsOn,GT s a]
    split<;>simp
theorem Ka (s:List Int) {l:List Eff} {k:Nat} {e:Eff} (h:l[k]?=some e) (out:List Int):effsOn s (l.take (k + 1)) out=if holdsB e.cond s=true then (effsOn s (l.take k) out).set e.var.toNat e.val else effsOn s (l.take k) out:=by
  rw [List.take_add_one,h,GS];rfl
def EffsIn (s:List Int) (l:List Eff):Prop:=∀ (i:Nat) e,l[i]?=some e→0≤e.var∧e.var < s.length
def succ (o:Opr) (s:List Int):List Int:=effsOn s o.effs s
end
section
open Go Go.RowKit
theorem TaskOk.effs {t:Tsk} (h:TaskOk t) {s:List Int} (hs:StateOk t.vars s):∀ (i:Nat) o,t.ops[i]?=some o→EffsIn s o.effs:=fun i o ho j e he=>by
  obtain ⟨h1,_,y,hy,_⟩:=((h.2.2.2.2.2 i o ho).2.2.2.2.2 j e he).2
  refine ⟨h1,?_⟩
  have:=(List.getElem?_eq_some_iff.1 hy).1
  rw [hs.1]
  simp only at h1 this
  omega
end
section
open Go Go.RowKit
theorem FG (f:List Fct) (s:List Int):Cu f s=some (holdsB f s):=rfl
theorem JE {ρ:Type} {s:List Int} {effs:List Eff} (he:EffsIn s effs) (m:List Fct→List Int→Option Bool) (hm:∀ f s,m f s=some (holdsB f s)) (u:List Int) (hu:u.length=s.length) :
    rng (ρ:=ρ) (fun (_:Nat) (e:Eff) (out:List Int)=>bnd (m e.cond s) fun q=>if q=true then bnd (atI out e.var) fun _=>some (.next (out.set (e.var).toNat e.val)) else some (.next out)) effs 0 u=some (.done (effsOn s effs u)):=by
  rw [FF (fun k=>effsOn s (effs.take k) u) ?_ ?_,List.take_length]
  · rfl
  intro k e hk
  rw [hm,AB,Ka s hk]
  have hin:=he k e hk
  have hl:=GT s (effs.take k) u
  by_cases hb:holdsB e.cond s=true
  · rw [if_pos hb,if_pos hb]
    obtain ⟨j,hj⟩:=Int.eq_ofNat_of_zero_le hin.1
    rw [hj,Bk,List.getElem?_eq_getElem (by omega),AB]
  · rw [if_neg hb,if_neg hb]
theorem LM {t:Tsk} {s:List Int} {j:Nat} {o:Opr} (ho:t.ops[j]?=some o) (hp:holdsB o.pre s=true) (hl:s.length≤1000000) (he:EffsIn s o.effs):BM t s (j:Int)=some (succ o s,true):=by
  have hj:=AJ ho
  unfold BM
  rw [if_neg (by omega),if_neg (by omega),Bk,ho,AB,FG,AB,hp,if_t,AB,if_f,CX (by simp;omega) (by simp;omega),AB,AB,List.nil_append,JE he Cu FG s rfl,AB,fin_d]
  rfl
theorem Jc {vars s:List Int}:∀ (l:List Eff),(∀ e∈l,EffOk vars e)→∀ (u:List Int),StateOk vars u→StateOk vars (effsOn s l u)
  | [],_,_,hu=>hu
  | e :: l,he,u,hu=>by
    refine Jc l (fun e' h'=>he e' (List.mem_cons_of_mem _ h')) _ ?_
    split
    · obtain ⟨_,h1,h2,y,hy,h3⟩:=he e List.mem_cons_self
      refine ⟨by rw [List.length_set];exact hu.1,fun i x n hx hn=>?_⟩
      rw [List.getElem?_set] at hx
      by_cases hi:e.var.toNat=i
      · subst hi
        rw [if_pos rfl] at hx
        split at hx
        · obtain rfl:=Option.some.inj hx
          simp only at hy h2 h3
          rw [hy] at hn
          obtain rfl:=Option.some.inj hn
          exact ⟨h2,h3⟩
        · cases hx
      · rw [if_neg hi] at hx
        exact hu.2 i x n hx hn
    · exact hu
theorem Fw {t:Tsk} (h:TaskOk t) {s:List Int} (hs:StateOk t.vars s) {k:Nat} {o:Opr} (ho:t.ops[k]?=some o):StateOk t.vars (succ o s) :=
  Jc o.effs (fun e he=>by obtain ⟨j,hj⟩:=List.getElem?_of_mem he;exact (h.2.2.2.2.2 k o ho).2.2.2.2.2 j e hj) s hs
theorem Jd {t:Tsk} (h:TaskOk t) {s:List Int} (hs:StateOk t.vars s) {k:Nat} {o:Opr} (ho:t.ops[k]?=some o):BM t s (k:Int)=some (if holdsB o.pre s=true then (succ o s,true) else ([],false)):=by
  have hk:=AJ ho
  by_cases hp:holdsB o.pre s=true
  · rw [LM ho hp (by have:=hs.1;have:=h.1;omega) (h.effs hs k o ho),if_pos hp]
  · unfold BM
    rw [if_neg (by omega),if_neg (by omega),Bk,ho,AB,FG,AB,if_neg hp,if_neg hp,AB,if_t]
theorem Ia {n:Nat} (hn:0 < n):∀ (l:List (List Int)) (q:Nat),(l.flatMap (exts n))[q]?=(l[q / n]?).map (· ++ [((q % n:Nat):Int)])
  | [],q=>by simp
  | a :: l,q=>by
    rw [List.flatMap_cons]
    by_cases hq:q < n
    · rw [List.getElem?_append_left (by rw [ET];exact hq),Nat.div_eq_of_lt hq,Nat.mod_eq_of_lt hq]
      simp [exts,hq]
    · rw [List.getElem?_append_right (by rw [ET];omega),ET,Ia hn l (q - n)]
      obtain ⟨r,rfl⟩:∃ r,q=r + n:=⟨q - n,by omega⟩
      rw [Nat.add_sub_cancel,Nat.add_div_right _ hn,Nat.add_mod_right]
      simp
theorem Ix {vars:List Int} (hv:∀ (i:Nat) n,vars[i]?=some n→1≤n):∀ (k:Nat),k≤vars.length→∀ (i j:Nat) (s:List Int),(statesL (vars.take k))[i]?=some s→(statesL (vars.take k))[j]?=some s→i=j
  | 0,_,i,j,s,h1,h2=>by
    have e1:=AJ h1
    have e2:=AJ h2
    simp [statesL] at e1 e2
    omega
  | k + 1,hk,i,j,s,h1,h2=>by
    obtain ⟨n,hn⟩:=AH (l:=vars) (k:=k) (by omega)
    have hn1:=hv k n hn
    rw [DW hn] at h1 h2
    unfold grows at h1 h2
    rw [Ia (by omega)] at h1 h2
    obtain ⟨p,hp,rfl⟩:=Option.map_eq_some_iff.1 h1
    obtain ⟨p',hp',e⟩:=Option.map_eq_some_iff.1 h2
    obtain ⟨e1,e2⟩:=List.append_inj' e rfl
    subst e1
    have:=Ix hv k (by omega) _ _ _ hp hp'
    have e3:j % n.toNat=i % n.toNat:=by
      have:=List.singleton_inj.1 e2
      omega
    have d1:=Nat.div_add_mod i n.toNat
    have d2:=Nat.div_add_mod j n.toNat
    rw [this,← e3] at d1
    omega
theorem EY {t:Tsk} (h:TaskOk t) {i j:Nat} {s:List Int} (h1:(statesL t.vars)[i]?=some s) (h2:(statesL t.vars)[j]?=some s):i=j:=by
  have:=Ix (vars:=t.vars) (fun i n hn=>(h.vars i n hn).1) t.vars.length (Nat.le_refl _) i j s
  rw [List.take_length] at this
  exact this h1 h2
theorem HH {t:Tsk} (h:SmallOk t) {s:List Int} (hs:StateOk t.vars s):∃ i:Nat,Cx t.vars s=some (i:Int)∧(statesL t.vars)[i]?=some s:=by
  unfold Cx
  obtain ⟨r,h1,i,rfl,h2⟩:=Ed (ρ:=Int) (f:=fun (k11:Nat) (a12:Int) (s9:Int)=>bnd (t.vars[k11]?) fun a24=>bnd (chkI (s9 * a24)) fun n34=>bnd (chkI (n34 + a12)) fun n45=>some (.next n45)) (xs:=s) (s₀:=0) (fun k r=>∃ i:Nat,r=(i:Int)∧(statesL (t.vars.take k))[i]?=some (s.take k)) ⟨0,rfl,by simp [statesL]⟩ (fun k x r hk hI=>by
    obtain ⟨i,rfl,hi⟩:=hI
    have hlt:=AJ hk
    obtain ⟨n,hn⟩:=AH (l:=t.vars) (k:=k) (by rw [← hs.1];exact hlt)
    have hn1:=h.ok.vars k n hn
    obtain ⟨hx1,hx2⟩:=hs.2 k x n hk hn
    obtain ⟨x,rfl⟩:=Int.eq_ofNat_of_zero_le hx1
    obtain ⟨n,rfl⟩:=Int.eq_ofNat_of_zero_le (by omega:0≤n)
    have hget:(statesL (t.vars.take (k + 1)))[i * n + x]?=some (s.take (k + 1)):=by
      rw [DW hn]
      show ((statesL (t.vars.take k)).flatMap (exts ((n:Int)).toNat))[i * n + x]?=_
      rw [show ((n:Int)).toNat=n from by omega,Ia (by omega)]
      have e1:(i * n + x) / n=i:=by
        rw [Nat.mul_comm,Nat.mul_add_div (by omega),Nat.div_eq_of_lt (by omega)];omega
      have e2:(i * n + x) % n=x:=by
        rw [Nat.mul_comm,Nat.mul_add_mod,Nat.mod_eq_of_lt (by omega)]
      rw [e1,e2,hi,List.take_add_one,hk];rfl
    have hb:=AJ hget
    have hb2:=h.states (k + 1)
    have e3:(i:Int) * (n:Int)=((i * n:Nat):Int):=by simp
    rw [hn,AB,e3,Bp (by unfold inI64;omega),AB,Bp (by unfold inI64;omega),AB]
    exact ⟨_,rfl,i * n + x,by omega,hget⟩)
  rw [List.take_length,hs.1,List.take_length] at h2
  exact ⟨i,by rw [h1,AB,fin_d],h2⟩
def EdgeOk (t:Tsk) (e:Edg):Prop:=∃ (i k j:Nat) (s:List Int) (o:Opr),e=⟨i,k,j⟩∧(statesL t.vars)[i]?=some s∧t.ops[k]?=some o∧holdsB o.pre s=true∧(statesL t.vars)[j]?=some (succ o s)
theorem JF {t:Tsk} (h:SmallOk t):∃ es,Db t=some es∧∀ e,e∈es↔EdgeOk t e:=by
  have hlen:(statesL t.vars).length≤512:=by have:=h.states t.vars.length;rwa [List.take_length] at this
  have hops:=h.2.1
  have uniq:∀ {i i':Nat} {s:List Int},(statesL t.vars)[i]?=some s→(statesL t.vars)[i']?=some s→i=i':=fun h1 h2=>EY h.ok h1 h2
  unfold Db
  rw [Hv h,AB]
  obtain ⟨es, h1,h2,h3⟩:=Ed (ρ:=List Edg) (f:=fun (k38:Nat) (a39:List Int) (s36:(List Edg))=>bnd (rng (ρ:=Ctl (List Edg) (List Edg)) (fun (k70:Nat) (_:Opr) (s68:(List Edg))=>bnd (BM t a39 (k70:Int)) fun q85=>if q85.2=true then (bnd (Cx t.vars q85.1) fun q99=>bnd (appI 24 s68 [(⟨(k38:Int),(k70:Int),q99⟩:Edg)]) fun u107=>some (.next u107)) else (some (.next s68))) t.ops 0 s36) fun res66=>fin res66 fun (s123:(List Edg))=>some (.next s123)) (xs:=statesL t.vars) (s₀:=[])
    (fun n acc=>acc.length≤n * 20∧∀ e,e∈acc↔EdgeOk t e∧e.src < (n:Int)) ⟨by simp,fun e=>⟨fun he=>by simp at he,fun ⟨⟨i,_,_,_,_,hE,_⟩,hlt⟩=>by subst hE;simp only at hlt;omega⟩⟩ (fun n s acc hn hI=>by
      obtain ⟨i1,i2⟩:=hI
      have hnlt:=AJ hn
      have hs:StateOk t.vars s:=En.1 (List.mem_of_getElem? hn)
      obtain ⟨es,g1,g2,g3⟩:=Ed (ρ:=Ctl (List Edg) (List Edg)) (f:=fun (k70:Nat) (_:Opr) (s68:(List Edg))=>bnd (BM t s (k70:Int)) fun q85=>if q85.2=true then (bnd (Cx t.vars q85.1) fun q99=>bnd (appI 24 s68 [(⟨(n:Int),(k70:Int),q99⟩:Edg)]) fun u107=>some (.next u107)) else (some (.next s68))) (xs:=t.ops) (s₀:=acc)
        (fun m acc'=>acc'.length≤n * 20 + m∧∀ e,e∈acc'↔EdgeOk t e∧(e.src < (n:Int)∨e.src=(n:Int)∧e.op < (m:Int))) ⟨by omega,fun e=>by
          rw [i2]
          constructor
          · rintro ⟨a,b⟩;exact ⟨a,.inl b⟩
          · rintro ⟨a,b|⟨b,c⟩⟩
            · exact ⟨a,b⟩
            · obtain ⟨i,k,j,s',o,rfl,_⟩:=a
              simp at c;omega⟩ (fun m o acc' hm hI=>by
          obtain ⟨j1,j2⟩:=hI
          have hmlt:=AJ hm
          rw [Jd h.ok hs hm,AB]
          by_cases hp:holdsB o.pre s=true
          · obtain ⟨r,hr,hr2⟩:=HH h (Fw h.ok hs hm)
            rw [if_pos hp,if_t,hr,AB,CX (by simp;omega) (by simp;omega),AB]
            refine ⟨_,rfl,by simp;omega,fun e=>?_⟩
            rw [List.mem_append,j2]
            constructor
            · rintro (⟨a,b⟩|hmem)
              · refine ⟨a,?_⟩
                rcases b with b|⟨b,c⟩
                · exact .inl b
                · exact .inr ⟨b,by omega⟩
              · obtain rfl:e=⟨(n:Int),(m:Int),(r:Int)⟩:=by simpa using hmem
                exact ⟨⟨n,m,r,s,o,rfl,hn,hm,hp,hr2⟩,.inr ⟨rfl,by simp;omega⟩⟩
            · rintro ⟨a,b⟩
              obtain ⟨i,k,j,s',o',rfl,a1,a2,a3,a4⟩:=a
              simp only at b
              by_cases hc:i=n∧k=m
              · obtain ⟨rfl,rfl⟩:=hc
                obtain rfl:s'=s:=by rw [hn] at a1;exact (Option.some.inj a1).symm
                obtain rfl:o'=o:=by rw [hm] at a2;exact (Option.some.inj a2).symm
                obtain rfl:=uniq a4 hr2
                exact .inr (by simp)
              · exact .inl ⟨⟨i,k,j,s',o',rfl,a1,a2,a3,a4⟩,by simp only;omega⟩
          · rw [if_neg hp]
            refine ⟨_,if_neg (by simp),by omega,fun e=>?_⟩
            rw [j2]
            constructor
            · rintro ⟨a,b⟩
              refine ⟨a,?_⟩
              rcases b with b|⟨b,c⟩
              · exact .inl b
              · exact .inr ⟨b,by omega⟩
            · rintro ⟨a,b⟩
              obtain ⟨i,k,j,s',o',rfl,a1,a2,a3,a4⟩:=a
              simp only at b
              by_cases hc:i=n∧k=m
              · obtain ⟨rfl,rfl⟩:=hc
                obtain rfl:s'=s:=by rw [hn] at a1;exact (Option.some.inj a1).symm
                obtain rfl:o'=o:=by rw [hm] at a2;exact (Option.some.inj a2).symm
                exact absurd a3 hp
              · exact ⟨⟨i,k,j,s',o',rfl,a1,a2,a3,a4⟩,by simp only;omega⟩)
      rw [g1,AB,fin_d]
      refine ⟨_,rfl,by omega,fun e=>?_⟩
      rw [g3]
      constructor
      · rintro ⟨a,b⟩
        exact ⟨a,by rcases b with b|⟨b,_⟩<;>omega⟩
      · rintro ⟨a,b⟩
        refine ⟨a,?_⟩
        obtain ⟨i,k,j,s',o',rfl,a1,a2,a3,a4⟩:=a
        simp only at b ⊢
        have:=AJ a2
        omega)
  refine ⟨es,by rw [h1,AB,fin_d],fun e=>?_⟩
  rw [h3]
  refine ⟨fun a=>a.1,fun a=>⟨a,?_⟩⟩
  obtain ⟨i,k,j,s',o',rfl,a1,a2,a3,a4⟩:=a
  have:=AJ a1
  simp only;omega
end
section
open Go Go.RowKit
inductive Walk (t:Tsk):List Int→Int→Prop
  | goal {s:List Int}:holdsB t.goal s=true→Walk t s 0
  | step {s:List Int} {k:Nat} {o:Opr} {c:Int}:t.ops[k]?=some o→holdsB o.pre s=true→Walk t (succ o s) c→Walk t s (c + o.cost)
def Inf:Int:=1125899906842624
theorem Lo {σ ρ:Type} {f:σ→Option (Ctl σ ρ)} (I:σ→Prop) (B:σ→Prop) (μ:σ→Nat) (h:∀ s,I s→(∃ s',f s=some (.next s')∧I s'∧μ s' < μ s)∨(∃ s',f s=some (.brk s')∧B s')):∀ s,I s→∃ s',lop f s=some (.done s')∧B s':=by
  have key:∀ (n:Nat) s,I s→μ s < n→∃ s',itr f n s=some (.done s')∧B s':=by
    intro n
    induction n with
    | zero=>intro s _ h0;omega
    | succ n ih =>
      intro s hs hn
      rcases h s hs with ⟨s',h1,h2,h3⟩|⟨s',h1,h2⟩
      · obtain ⟨r,hr,hb⟩:=ih s' h2 (by omega)
        exact ⟨r,by simp only [itr,h1];exact hr,hb⟩
      · exact ⟨s',by simp only [itr,h1],h2⟩
  intro s hs
  obtain ⟨r,hr,hb⟩:=key (μ s + 1) s hs (by omega)
  exact ⟨r,FA.2 ⟨_,hr⟩,hb⟩
def sumN:List Int→Nat
  | []=>0
  | x :: l=>x.toNat + sumN l
theorem Ib:∀ (l:List Int) (i:Nat) (x y:Int),l[i]?=some x→0≤y→y < x→sumN (l.set i y) < sumN l
  | [],i,x,y,h,_,_=>by simp at h
  | a :: l,0,x,y,h,h1,h2=>by
    obtain rfl:a=x:=by simpa using h
    show y.toNat + sumN l < a.toNat + sumN l
    omega
  | a :: l,i + 1,x,y,h,h1,h2=>by
    have:=Ib l i x y (by simpa using h) h1 h2
    show a.toNat + sumN (l.set i y) < a.toNat + sumN l
    omega
def DistI (t:Tsk) (d:List Int):Prop:=d.length=(statesL t.vars).length∧∀ (i:Nat) s,(statesL t.vars)[i]?=some s→∃ c,d[i]?=some c∧0≤c∧c≤Inf∧(c < Inf→Walk t s c)∧(holdsB t.goal s=true→c=0)
def DistP (t:Tsk) (d:List Int):Prop:=DistI t d∧∀ (i:Nat) s c C,(statesL t.vars)[i]?=some s→d[i]?=some c→Walk t s C→c≤C
theorem Ic {α:Type} {l:List α} {k:Nat} {x y:α} (h:l[k]?=some x):y∈l.take (k + 1)↔y∈l.take k∨y=x:=by
  rw [List.take_add_one,h,List.mem_append];simp
theorem Mm      {t:Tsk} (h:SmallOk t):∃ d,Dc t=some d∧DistP t d:=by
  have hlen:(statesL t.vars).length≤512:=by have:=h.states t.vars.length;rwa [List.take_length] at this
  unfold Dc
  rw [Hv h,AB,Ir (by omega) (by omega),AB]
  obtain ⟨d0,h1,h2,h3⟩:=Ed (ρ:=List Int) (f:=fun (k53:Nat) (a54:List Int) (s51:(List Int))=>bnd (s51[k53]?) fun _=>bnd (Cu t.goal a54) fun q91=>if q91=true then bnd ((s51.set k53 1125899906842624)[k53]?) fun _=>some (.next ((s51.set k53 1125899906842624).set k53 0)) else some (.next (s51.set k53 1125899906842624))) (xs:=statesL t.vars) (s₀:=List.replicate (statesL t.vars).length 0)
    (fun n d=>d.length=(statesL t.vars).length∧∀ (i:Nat) s,i < n→(statesL t.vars)[i]?=some s→d[i]?=some (if holdsB t.goal s=true then 0 else Inf)) ⟨by simp,fun i s hi=>by omega⟩ (fun n s d hn hI=>by
      obtain ⟨i1,i2⟩:=hI
      have hlt:=AJ hn
      obtain ⟨u,hu⟩:=AH (l:=d) (k:=n) (by omega)
      rw [hu,AB,FG,AB]
      by_cases hg:holdsB t.goal s=true
      · rw [if_pos hg,List.getElem?_set_self (by omega),AB]
        refine ⟨_,rfl,by simpa using i1,fun i s' hi hs'=>?_⟩
        by_cases e:i=n
        · subst e
          obtain rfl:s'=s:=by rw [hn] at hs';exact (Option.some.inj hs').symm
          rw [List.getElem?_set_self (by simp;omega),if_pos hg]
        · rw [List.getElem?_set_ne (by omega),List.getElem?_set_ne (by omega)]
          exact i2 i s' (by omega) hs'
      · rw [if_neg hg]
        refine ⟨_,rfl,by simpa using i1,fun i s' hi hs'=>?_⟩
        by_cases e:i=n
        · subst e
          obtain rfl:s'=s:=by rw [hn] at hs';exact (Option.some.inj hs').symm
          rw [List.getElem?_set_self (by omega),if_neg hg];rfl
        · rw [List.getElem?_set_ne (by omega)]
          exact i2 i s' (by omega) hs')
  obtain ⟨es,he,hes⟩:=JF h
  rw [h1,AB,fin_d,he,AB]
  have hd0:DistI t d0:=⟨h2,fun i s hi=>by
    refine ⟨_,h3 i s (AJ hi) hi,?_⟩
    by_cases hg:holdsB t.goal s=true
    · rw [if_pos hg];exact ⟨by omega,by unfold Inf;omega,fun _=>.goal hg,fun _=>rfl⟩
    · rw [if_neg hg];exact ⟨by unfold Inf;omega,by omega,fun hh=>absurd hh (by omega),fun hh=>absurd hh hg⟩⟩
  -- one pass over the edges
  have pass : ∀ d,DistI t d→∃ (d':List Int) (b:Bool),rng (ρ:=Ctl ((List Int)×Bool) (List Int)) (fun (_:Nat) (a152:Edg) (s149:(List Int)×Bool)=>bnd (atI t.ops a152.op) fun a183=>bnd (bnd (atI s149.1 a152.dst) fun a208=>if a208 < 1125899906842624 then (bnd (atI s149.1 a152.dst) fun a221=>bnd (chkI (a221 + a183.cost)) fun n233=>bnd (atI s149.1 a152.src) fun a236=>if n233 < a236 then (some true) else (some false)) else (some false):Option Bool) fun y204=>if y204=true then (bnd (atI s149.1 a152.dst) fun a254=>bnd (chkI (a254 + a183.cost)) fun n266=>bnd (atI s149.1 a152.src) fun _=>some (.next ((s149.1.set (a152.src).toNat n266),true))) else (some (.next (s149.1,s149.2)))) es 0 (d,false)=some (.done (d',b))∧DistI t d'∧(b=true→sumN d' < sumN d)∧(b=false→d'=d∧∀ e∈es,∀ (i k j:Nat) o x y,e=⟨i,k,j⟩→t.ops[k]?=some o→d[i]?=some x→d[j]?=some y→y < Inf→x≤y + o.cost):=by
    intro d hd
    obtain ⟨⟨d',b⟩,g1,g2,g3,g4⟩:=Ed (ρ:=Ctl ((List Int)×Bool) (List Int)) (f:=fun (_:Nat) (a152:Edg) (s149:(List Int)×Bool)=>bnd (atI t.ops a152.op) fun a183=>bnd (bnd (atI s149.1 a152.dst) fun a208=>if a208 < 1125899906842624 then (bnd (atI s149.1 a152.dst) fun a221=>bnd (chkI (a221 + a183.cost)) fun n233=>bnd (atI s149.1 a152.src) fun a236=>if n233 < a236 then (some true) else (some false)) else (some false):Option Bool) fun y204=>if y204=true then (bnd (atI s149.1 a152.dst) fun a254=>bnd (chkI (a254 + a183.cost)) fun n266=>bnd (atI s149.1 a152.src) fun _=>some (.next ((s149.1.set (a152.src).toNat n266),true))) else (some (.next (s149.1,s149.2)))) (xs:=es) (s₀:=(d,false))
      (fun m r=>DistI t r.1∧(r.2=true→sumN r.1 < sumN d)∧(r.2=false→r.1=d∧∀ e∈es.take m,∀ (i k j:Nat) o x y,e=⟨i,k,j⟩→t.ops[k]?=some o→d[i]?=some x→d[j]?=some y→y < Inf→x≤y + o.cost)) ⟨hd,fun hh=>by simp at hh,fun _=>⟨rfl,fun e he=>by simp at he⟩⟩ (fun m e r hm hI=>by
        obtain ⟨i1,i2,i3⟩:=hI
        obtain ⟨r1,r2⟩:=r
        simp only at i1 i2 i3
        obtain ⟨i,k,j,s,o,rfl,a1,a2,a3,a4⟩:=(hes e).1 (List.mem_of_getElem? hm)
        obtain ⟨x,x1,x2,x3,x4,x5⟩:=i1.2 i s a1
        obtain ⟨y,y1,y2,y3,y4,y5⟩:=i1.2 j _ a4
        have hco:=h.ok.2.2.2.2.2 k o a2
        have hc1:=hco.1
        have hc2:=hco.2.1
        simp only
        rw [Bk,a2,AB,Bk,y1,AB,Bk,x1]
        have keep:∀ (hx:y < Inf→x≤y + o.cost),DistI t r1∧(r2=true→sumN r1 < sumN d)∧(r2=false→r1=d∧∀ e∈es.take (m + 1),∀ (i k j:Nat) o x y,e=⟨i,k,j⟩→t.ops[k]?=some o→d[i]?=some x→d[j]?=some y→y < Inf→x≤y + o.cost):=fun hx=>by
          refine ⟨i1,i2,fun hf=>⟨(i3 hf).1,fun e' he'=>?_⟩⟩
          obtain ⟨e1,e2⟩:=i3 hf
          rcases (Ic hm).1 he' with hh|rfl
          · exact e2 e' hh
          · intro i' k' j' o' x' y' hE ho' hx' hy' hlt
            injection hE with h1 h2 h3
            obtain rfl:i=i':=by omega
            obtain rfl:k=k':=by omega
            obtain rfl:j=j':=by omega
            obtain rfl:o=o':=by rw [a2] at ho';exact Option.some.inj ho'
            rw [← e1,x1] at hx'
            rw [← e1,y1] at hy'
            obtain rfl:=Option.some.inj hx'
            obtain rfl:=Option.some.inj hy'
            exact hx hlt
        by_cases hy:y < 1125899906842624
        · rw [if_pos hy,AB,Bp (by unfold inI64;unfold Inf at *;omega),AB,AB]
          by_cases hx:y + o.cost < x
          · rw [if_pos hx,AB,if_t,AB,Bp (by unfold inI64;unfold Inf at *;omega),AB,AB]
            refine ⟨_,rfl,⟨by simpa using i1.1,fun i' s' hs'=>?_⟩,fun _=>?_,fun hh=>by simp at hh⟩
            · show ∃ c,(r1.set ((i:Int)).toNat (y + o.cost))[i']?=some c∧_
              rw [show ((i:Int)).toNat=i from by omega]
              by_cases e:i=i'
              · subst e
                obtain rfl:s=s':=by rw [a1] at hs';exact Option.some.inj hs'
                refine ⟨_,by rw [List.getElem?_set_self (AJ x1)],by omega,by omega,fun _=>.step a2 a3 (y4 hy),fun hg=>?_⟩
                have:=x5 hg;omega
              · rw [List.getElem?_set_ne e];exact i1.2 i' s' hs'
            · show sumN (r1.set ((i:Int)).toNat (y + o.cost)) < _
              rw [show ((i:Int)).toNat=i from by omega]
              have hlt:=Ib r1 i x (y + o.cost) x1 (by omega) hx
              cases hr:r2 with
              | true=>have:=i2 hr;omega
              | false=>rw [(i3 hr).1] at hlt;rwa [(i3 hr).1]
          · rw [if_neg hx,AB,if_f]
            exact ⟨_,rfl,keep fun _=>by omega⟩
        · rw [if_neg hy,AB,if_f]
          exact ⟨_,rfl,keep fun hh=>absurd hh hy⟩)
    refine ⟨d',b,g1,g2,g3,fun hb=>?_⟩
    obtain ⟨e1,e2⟩:=g4 hb
    rw [List.take_length] at e2
    exact ⟨e1,e2⟩
  obtain ⟨⟨d,b⟩,l1,l2,l3⟩:=Lo (ρ:=List Int) (f:=fun (s127:(List Int)×Bool)=>if s127.2=true then (bnd (rng (ρ:=Ctl ((List Int)×Bool) (List Int)) (fun (_:Nat) (a152:Edg) (s149:(List Int)×Bool)=>bnd (atI t.ops a152.op) fun a183=>bnd (bnd (atI s149.1 a152.dst) fun a208=>if a208 < 1125899906842624 then (bnd (atI s149.1 a152.dst) fun a221=>bnd (chkI (a221 + a183.cost)) fun n233=>bnd (atI s149.1 a152.src) fun a236=>if n233 < a236 then (some true) else (some false)) else (some false):Option Bool) fun y204=>if y204=true then (bnd (atI s149.1 a152.dst) fun a254=>bnd (chkI (a254 + a183.cost)) fun n266=>bnd (atI s149.1 a152.src) fun _=>some (.next ((s149.1.set (a152.src).toNat n266),true))) else (some (.next (s149.1,s149.2)))) es 0 (s127.1,false)) fun res147=>fin res147 fun (s287:(List Int)×Bool)=>some (.next (s287.1,s287.2))) else (some (.brk (s127.1,s127.2))))
    (fun r=>DistI t r.1∧(r.2=false→∀ e∈es,∀ (i k j:Nat) o x y,e=⟨i,k,j⟩→t.ops[k]?=some o→r.1[i]?=some x→r.1[j]?=some y→y < Inf→x≤y + o.cost)) (fun r=>DistI t r.1∧∀ e∈es,∀ (i k j:Nat) o x y,e=⟨i,k,j⟩→t.ops[k]?=some o→r.1[i]?=some x→r.1[j]?=some y→y < Inf→x≤y + o.cost) (fun r=>2 * sumN r.1 + if r.2=true then 1 else 0) (fun r hr=>by
      obtain ⟨r1,r2⟩:=r
      obtain ⟨i1,i2⟩:=hr
      cases r2 with
      | true =>
        obtain ⟨d',b,p1,p2,p3,p4⟩:=pass r1 i1
        refine .inl ⟨(d',b),?_,⟨p2,fun hb=>?_⟩,?_⟩
        · simp only [if_true]
          rw [p1,AB,fin_d]
        · obtain ⟨e1,e2⟩:=p4 hb
          show ∀ e∈es,_
          intro e he i k j o x y hE ho hx hy
          simp only at hx hy
          rw [e1] at hx hy
          exact e2 e he i k j o x y hE ho hx hy
        · cases b with
          | true=>have:=p3 rfl;simp;omega
          | false=>rw [(p4 rfl).1];simp
      | false=>exact .inr ⟨(r1,false),by simp,i1,i2 rfl⟩) (d0,true) ⟨hd0,fun hh=>by simp at hh⟩
  refine ⟨d,by rw [l1,AB,fin_d],l2,fun i s c C hi hc hw=>?_⟩
  induction hw generalizing i c with
  | goal hg =>
    obtain ⟨c',q1,_,_,_,q5⟩:=l2.2 i _ hi
    rw [hc] at q1
    obtain rfl:=Option.some.inj q1
    have:=q5 hg;omega
  | @step s k o C' ho hp hw ih =>
    have hs:StateOk t.vars s:=En.1 (List.mem_of_getElem? hi)
    obtain ⟨j,_,hj⟩:=HH h (Fw h.ok hs ho)
    obtain ⟨y,y1,y2,y3,y4,y5⟩:=l2.2 j _ hj
    have h5:=ih j y hj y1
    obtain ⟨x,x1,x2,x3,x4,x5⟩:=l2.2 i s hi
    rw [x1] at hc
    obtain rfl:=Option.some.inj hc
    have hco:=(h.ok.2.2.2.2.2 k o ho).1
    by_cases hy:y < Inf
    · have:=l3 ⟨i,k,j⟩ ((hes _).2 ⟨i,k,j,s,o,rfl,hi,ho,hp,hj⟩) i k j o x y rfl ho x1 y1 hy
      omega
    · omega
end
section
open Go Go.RowKit
structure QEn where
  key:Int
  tie:Int
  item:Int
  number:Int
theorem Je {α:Type} {l:List α} {m i:Nat} {x:α} (h:(l.take m)[i]?=some x):l[i]?=some x:=by
  by_cases hi:i < m
  · rwa [List.getElem?_take_of_lt hi] at h
  · rw [List.getElem?_take_eq_none (by omega)] at h;cases h
def bfr (x y:QEn):Prop:=x.key < y.key∨(x.key=y.key∧(x.tie < y.tie∨(x.tie=y.tie∧x.number < y.number)))
instance (x y:QEn):Decidable (bfr x y):=by unfold bfr;infer_instance
def nb (x y:QEn):Prop:=¬ bfr x y
theorem GG {x y z:QEn} (h1:nb x y) (h2:nb y z):nb x z:=by unfold nb bfr at *;omega
theorem nb_of {x y:QEn} (h:bfr x y):nb y x:=by unfold nb bfr at *;omega
theorem Iy (x:QEn):nb x x:=by unfold nb bfr;omega
theorem JG {x y:QEn} (h:nb x y):y.key≤x.key:=by unfold nb bfr at h;omega
def HeapOk (l:List QEn):Prop:=∀ (j:Nat) x y,0 < j→l[j]?=some x→l[(j - 1) / 2]?=some y→nb x y
def Over (l:List QEn) (i:Nat):Prop:=∀ (j:Nat) x y,0 < i→0 < j→(j - 1) / 2=i→l[j]?=some x→l[(i - 1) / 2]?=some y→nb x y
def UpI (l:List QEn) (i:Nat):Prop:=(∀ (j:Nat) x y,0 < j→j≠i→l[j]?=some x→l[(j - 1) / 2]?=some y→nb x y)∧Over l i
def DownI (l:List QEn) (i:Nat):Prop:=(∀ (j:Nat) x y,0 < j→(j - 1) / 2≠i→l[j]?=some x→l[(j - 1) / 2]?=some y→nb x y)∧Over l i
theorem Gm {l:List QEn} {i j:Nat} {a b:QEn} (hi:l[i]?=some a) (hj:l[j]?=some b) (hne:i≠j) (k:Nat):((l.set i b).set j a)[k]?=if k=j then some a else if k=i then some b else l[k]?:=by
  by_cases h1:k=j
  · subst h1;rw [if_pos rfl,List.getElem?_set_self (by simpa using AJ hj)]
  · rw [if_neg h1,List.getElem?_set_ne (by omega)]
    by_cases h2:k=i
    · subst h2;rw [if_pos rfl,List.getElem?_set_self (AJ hi)]
    · rw [if_neg h2,List.getElem?_set_ne (by omega)]
theorem JH {l:List QEn} {i j:Nat} {a b:QEn} (hi:l[i]?=some a) (hj:l[j]?=some b):((l.set i b).set j a).Perm l:=by
  have h1:=AJ hi
  have h2:=AJ hj
  have e1:l[i]=a:=by rw [List.getElem?_eq_getElem h1] at hi;exact Option.some.inj hi
  have e2:l[j]=b:=by rw [List.getElem?_eq_getElem h2] at hj;exact Option.some.inj hj
  rw [← e1,← e2]
  exact List.set_set_perm h1 h2
theorem UpI.step {l:List QEn} {i:Nat} {a b:QEn} (h:UpI l i) (h0:0 < i) (hi:l[i]?=some a) (hj:l[(i - 1) / 2]?=some b) (hb:bfr a b):UpI ((l.set i b).set ((i - 1) / 2) a) ((i - 1) / 2):=by
  have hne:i≠(i - 1) / 2:=by omega
  constructor
  · intro j x y hj0 hjp hx hy
    rw [Gm hi hj hne,if_neg hjp] at hx
    rw [Gm hi hj hne] at hy
    by_cases e1:j=i
    · subst e1
      rw [if_pos rfl] at hx hy
      obtain rfl:=Option.some.inj hx
      obtain rfl:=Option.some.inj hy
      exact nb_of hb
    · rw [if_neg e1] at hx
      by_cases e2:(j - 1) / 2=(i - 1) / 2
      · rw [if_pos e2] at hy
        obtain rfl:=Option.some.inj hy
        have:=h.1 j x b hj0 e1 hx (by rw [e2];exact hj)
        exact GG this (nb_of hb)
      · rw [if_neg e2] at hy
        by_cases e3:(j - 1) / 2=i
        · rw [if_pos e3] at hy
          obtain rfl:=Option.some.inj hy
          exact h.2 j x b h0 hj0 e3 hx hj
        · rw [if_neg e3] at hy
          exact h.1 j x y hj0 e1 hx hy
  · intro j x y hp0 hj0 hjp hx hy
    rw [Gm hi hj hne] at hx hy
    have n1:((i - 1) / 2 - 1) / 2≠(i - 1) / 2:=by omega
    have n2:((i - 1) / 2 - 1) / 2≠i:=by omega
    rw [if_neg n1,if_neg n2] at hy
    have hpp:=h.1 ((i - 1) / 2) b y hp0 (by omega) hj hy
    rw [if_neg (by omega)] at hx
    by_cases e1:j=i
    · subst e1
      rw [if_pos rfl] at hx
      obtain rfl:=Option.some.inj hx
      exact hpp
    · rw [if_neg e1] at hx
      exact GG (h.1 j x b hj0 e1 hx (by rw [hjp];exact hj)) hpp
theorem UpI.heap {l:List QEn} {i:Nat} (h:UpI l i) (hi:i=0∨∀ x y,l[i]?=some x→l[(i - 1) / 2]?=some y→nb x y):HeapOk l:=fun j x y hj hx hy=>by
  by_cases e:j=i
  · subst e
    rcases hi with h0|h1
    · omega
    · exact h1 x y hx hy
  · exact h.1 j x y hj e hx hy
theorem DownI.step {l:List QEn} {i c:Nat} {a b:QEn} (h:DownI l i) (hc:c=2 * i + 1∨c=2 * i + 2) (hi:l[i]?=some a) (hj:l[c]?=some b) (hb:bfr b a) (hs:∀ (j:Nat) x,0 < j→(j - 1) / 2=i→l[j]?=some x→nb x b):DownI ((l.set i b).set c a) c:=by
  have hne:i≠c:=by omega
  have hcp:(c - 1) / 2=i:=by omega
  constructor
  · intro j x y hj0 hjp hx hy
    rw [Gm hi hj hne] at hx hy
    rw [if_neg hjp] at hy
    by_cases e1:j=c
    · subst e1
      rw [if_pos rfl] at hx
      rw [if_pos hcp] at hy
      obtain rfl:=Option.some.inj hx
      obtain rfl:=Option.some.inj hy
      exact nb_of hb
    · rw [if_neg e1] at hx
      by_cases e2:j=i
      · subst e2
        rw [if_pos rfl] at hx
        rw [if_neg (by omega)] at hy
        obtain rfl:=Option.some.inj hx
        exact h.2 c _ y hj0 (by omega) hcp hj hy
      · rw [if_neg e2] at hx
        by_cases e3:(j - 1) / 2=i
        · rw [if_pos e3] at hy
          obtain rfl:=Option.some.inj hy
          exact hs j x hj0 e3 hx
        · rw [if_neg e3] at hy
          exact h.1 j x y hj0 e3 hx hy
  · intro j x y hc0 hj0 hjc hx hy
    rw [Gm hi hj hne] at hx hy
    rw [if_neg (by omega),if_neg (by omega)] at hx
    rw [if_neg (by omega),if_pos hcp] at hy
    obtain rfl:=Option.some.inj hy
    exact h.1 j x _ hj0 (by omega) hx (by rw [hjc];exact hj)
theorem DownI.heap {l:List QEn} {i:Nat} (h:DownI l i) (hi:∀ (j:Nat) x y,0 < j→(j - 1) / 2=i→l[j]?=some x→l[i]?=some y→nb x y):HeapOk l:=fun j x y hj hx hy=>by
  by_cases e:(j - 1) / 2=i
  · exact hi j x y hj e hx (by rw [← e];exact hy)
  · exact h.1 j x y hj e hx hy
theorem Lp {l:List QEn} (h:HeapOk l) {e:QEn} (he:l[0]?=some e):∀ x∈l,nb x e:=by
  have key:∀ (n j:Nat) x,j≤n→l[j]?=some x→nb x e:=by
    intro n
    induction n with
    | zero =>
      intro j x hj hx
      have hj0:j=0:=by omega
      rw [hj0,he] at hx
      rw [← Option.some.inj hx]
      exact Iy _
    | succ n ih =>
      intro j x hj hx
      by_cases h0:j=0
      · exact ih j x (by omega) hx
      · obtain ⟨y,hy⟩:=AH (l:=l) (k:=(j - 1) / 2) (by have:=AJ hx;omega)
        exact GG (h j x y (by omega) hx hy) (ih ((j - 1) / 2) y (by omega) hy)
  intro x hx
  obtain ⟨j,hj⟩:=List.getElem?_of_mem hx
  exact key j j x (by omega) hj
end
section
open Go Go.RowKit
abbrev BQ:=BxR 98 96 Itm
abbrev AI:=An 96 Itm
def toQ (x:Itm):QEn:=⟨x.cost,0,x.id,x.order⟩
def qs (l:List Itm):List QEn:=l.map toQ
theorem Ep (l:List Itm):(qs l).length=l.length:=by simp [qs]
theorem Ff {l:List Itm} {i:Nat} {x:Itm} (h:l[i]?=some x):(qs l)[i]?=some (toQ x):=by unfold qs;rw [List.getElem?_map,h];rfl
theorem Hw (l:List Itm) (i:Nat) (x:Itm):qs (l.set i x)=(qs l).set i (toQ x):=by unfold qs;rw [List.map_set]
theorem Mn (l:List Itm) (n:Nat):qs (l.take n)=(qs l).take n:=by unfold qs;rw [List.map_take]
theorem Id {l:List Itm} {i j:Nat} {a b:Itm} (ha:l[i]?=some a) (hb:l[j]?=some b):Bg l (i:Int) (j:Int)=some (decide (bfr (toQ a) (toQ b))):=by
  unfold Bg
  rw [Bk,ha,AB,Bk,hb,AB,AB,AB,AB,AB]
  unfold bfr toQ
  by_cases h1:a.cost < b.cost
  · rw [if_pos h1,AB];simp [h1]
  · rw [if_neg h1]
    by_cases h2:a.cost=b.cost
    · rw [if_pos h2]
      by_cases h3:a.order < b.order
      · rw [if_pos h3,AB];simp [h2,h3]
      · rw [if_neg h3,AB];simp [h2,h3]
    · rw [if_neg h2,AB];simp [h1,h2]
theorem Ie {l:List Itm} {i j:Nat} {a b:Itm} (ha:l[i]?=some a) (hb:l[j]?=some b):Bb l (i:Int) (j:Int)=some ((l.set i b).set j a):=by
  have hil:=AJ ha
  have hjl:=AJ hb
  obtain ⟨c,hc⟩:=AH (l:=l.set i b) (k:=j) (by simp;exact hjl)
  unfold Bb
  rw [Bk,hb,AB,Bk,ha,AB,AB,Int.toNat_natCast,Bk,hc,AB,Int.toNat_natCast]
theorem Ng {q:BQ} {i:Nat} (hi:i < q.l.length) (hl:q.l.length≤1000000) (h:UpI (qs q.l) i):∃ r,Ch q (i:Int)=some r∧HeapOk (qs r.l)∧(qs r.l).Perm (qs q.l):=by
  unfold Ch
  refine JC (fun s=>∃ i:Nat,s.1=(i:Int)∧i < s.2.l.length∧UpI (qs s.2.l) i∧(qs s.2.l).Perm (qs q.l)) (fun s=>HeapOk (qs s.2.l)∧(qs s.2.l).Perm (qs q.l)) (fun _=>False) (fun s=>s.1.toNat) ⟨i,rfl,hi,h,List.Perm.refl _⟩ ?_ (fun s hs=>⟨_,rfl,hs⟩) (fun s hs=>hs.elim)
  rintro ⟨c,s⟩ ⟨i,hc,hi,hu,hp⟩
  dsimp only at hc hi hu hp ⊢
  subst hc
  have hlen:=hp.length_eq
  rw [Ep,Ep] at hlen
  rw [Bp (by unfold inI64;omega),AB]
  by_cases h0:0 < (i:Int)
  · have hq:quoT ((i:Int) - 1) 2=some (((i - 1) / 2:Nat):Int):=by
      unfold quoT;rw [if_pos (by omega),if_pos (by omega)];congr 1;omega
    obtain ⟨a,ha⟩:=AH (l:=s.l) (k:=i) hi
    obtain ⟨b,hb⟩:=AH (l:=s.l) (k:=(i - 1) / 2) (by omega)
    rw [hq,AB,if_neg (by omega),Id ha hb,AB]
    by_cases hab:bfr (toQ a) (toQ b)
    · rw [decide_eq_true hab,if_t,AB,if_f,Ie hb ha,AB]
      have e1:qs ((s.l.set ((i - 1) / 2) a).set i b)=((qs s.l).set i (toQ b)).set ((i - 1) / 2) (toQ a):=by
        rw [Hw,Hw,List.set_comm _ _ (by omega)]
      refine .inl ⟨_,rfl,⟨(i - 1) / 2,rfl,by simp;omega,?_,?_⟩,?_⟩
      · dsimp only;rw [e1];exact hu.step (by omega) (Ff ha) (Ff hb) hab
      · dsimp only;rw [e1];exact (JH (Ff ha) (Ff hb)).trans hp
      · dsimp only;omega
    · rw [decide_eq_false hab,if_f,AB,if_t]
      refine .inr (.inl ⟨_,rfl,hu.heap (.inr fun x y hx hy=>?_),hp⟩)
      rw [Ff ha] at hx
      rw [Ff hb] at hy
      obtain rfl:=Option.some.inj hx
      obtain rfl:=Option.some.inj hy
      exact hab
  · have h00:i=0:=by omega
    subst h00
    have hq:quoT (((0:Nat):Int) - 1) 2=some 0:=rfl
    rw [hq,AB,if_pos (show (0:Int)=((0:Nat):Int) from rfl),AB,if_t]
    exact .inr (.inl ⟨_,rfl,hu.heap (.inl rfl),hp⟩)
theorem JI {q:BQ} (h:HeapOk (qs q.l)) (hl:q.l.length≤900000) (x:Itm):∃ r,BH q ⟨x⟩=some r∧HeapOk (qs r.l)∧(qs r.l).Perm (toQ x :: qs q.l):=by
  unfold BH Co Be
  rw [CX (by simp;omega) (by simp;omega),AB,AB,AB,Bp (by unfold inI64;simp;omega),AB]
  have hlen:(((q.l ++ [x]).length:Int) - 1)=((q.l.length:Nat):Int):=by simp
  rw [hlen]
  have eq1:qs (q.l ++ [x])=qs q.l ++ [toQ x]:=by simp [qs]
  obtain ⟨r,r1,r2,r3⟩:=Ng (q:=⟨q.l ++ [x]⟩) (i:=q.l.length) (by simp) (by simp;omega) ⟨fun j y z hj hji hx hy=>by
    dsimp only at hx hy
    rw [eq1] at hx hy
    have hjl:j < (qs q.l).length:=by have:=AJ hx;simp at this;rw [Ep] at this ⊢;omega
    rw [List.getElem?_append_left hjl] at hx
    rw [List.getElem?_append_left (by omega)] at hy
    exact h j y z hj hx hy,fun j y z h1 h2 h3 hx hy=>by
    dsimp only at hx
    have:=AJ hx
    rw [Ep] at this
    simp at this
    omega⟩
  rw [r1,AB]
  refine ⟨_,rfl,r2,r3.trans ?_⟩
  dsimp only
  rw [eq1]
  exact List.perm_append_comm (l₁:=qs q.l) (l₂:=[_])
theorem LN {q:BQ} {n:Nat} (hn:n≤q.l.length) (hl:q.l.length≤1000000) (h:DownI (qs (q.l.take n)) 0):∃ r,BZ q 0 (n:Int)=some r∧HeapOk (qs (r.2.l.take n))∧(qs (r.2.l.take n)).Perm (qs (q.l.take n))∧r.2.l.drop n=q.l.drop n∧r.2.l.length=q.l.length:=by
  unfold BZ
  refine JC (fun s=>∃ i:Nat,s.1=(i:Int)∧DownI (qs (s.2.l.take n)) i∧i≤n∧(qs (s.2.l.take n)).Perm (qs (q.l.take n))∧s.2.l.drop n=q.l.drop n∧s.2.l.length=q.l.length) (fun s=>HeapOk (qs (s.2.l.take n))∧(qs (s.2.l.take n)).Perm (qs (q.l.take n))∧s.2.l.drop n=q.l.drop n∧s.2.l.length=q.l.length) (fun _=>False) (fun s=>n - s.1.toNat) ⟨0,rfl,h,by omega,List.Perm.refl _,rfl,rfl⟩ ?_ ?_ (fun s hs=>hs.elim)
  · rintro ⟨c,s⟩ ⟨i,hc,hd,hi,hp,hdr,hsl⟩
    dsimp only at hc hd hi hp hdr hsl ⊢
    subst hc
    rw [Bp (by unfold inI64;omega),AB,Bp (by unfold inI64;omega),AB]
    by_cases h1:(n:Int)≤2 * (i:Int) + 1
    · rw [if_pos h1,AB,if_t]
      refine .inr (.inl ⟨_,rfl,hd.heap fun j x y hj hji hx _=>?_,hp,hdr,hsl⟩)
      have:=AJ hx
      rw [Ep,List.length_take] at this
      omega
    rw [if_neg h1,if_neg (by omega),AB,if_f]
    obtain ⟨a,ha⟩:=AH (l:=s.l) (k:=i) (by omega)
    obtain ⟨b,hb⟩:=AH (l:=s.l) (k:=2 * i + 1) (by omega)
    have tk:∀ {k:Nat} {x:Itm},k < n→s.l[k]?=some x→(qs (s.l.take n))[k]?=some (toQ x):=fun {k x} hk hx=>Ff (by rw [List.getElem?_take_of_lt hk];exact hx)
    have cast1:2 * (i:Int) + 1=((2 * i + 1:Nat):Int):=by omega
    have cast2:2 * (i:Int) + 1 + 1=((2 * i + 2:Nat):Int):=by omega
    have rest:∀ (c:Nat) (d:Itm),(c=2 * i + 1∨c=2 * i + 2)→c < n→s.l[c]?=some d→(∀ (j:Nat) x,0 < j→(j - 1) / 2=i→(qs (s.l.take n))[j]?=some x→nb x (toQ d))→(∃ s',(bnd (Bg s.l (c:Int) (i:Int)) fun q97=>if q97=true then bnd (Bb s.l (i:Int) (c:Int)) fun q109=>some (Ctl.next (ρ:=Bool×BQ) ((c:Int),(⟨q109⟩:BQ))) else some (.brk ((i:Int),s)))=some (.next s')∧(∃ i:Nat,s'.1=(i:Int)∧DownI (qs (s'.2.l.take n)) i∧i≤n∧(qs (s'.2.l.take n)).Perm (qs (q.l.take n))∧s'.2.l.drop n=q.l.drop n∧s'.2.l.length=q.l.length)∧n - s'.1.toNat < n - ((i:Int)).toNat)∨(∃ s',(bnd (Bg s.l (c:Int) (i:Int)) fun q97=>if q97=true then bnd (Bb s.l (i:Int) (c:Int)) fun q109=>some (Ctl.next (ρ:=Bool×BQ) ((c:Int),(⟨q109⟩:BQ))) else some (.brk ((i:Int),s)))=some (.brk s')∧HeapOk (qs (s'.2.l.take n))∧(qs (s'.2.l.take n)).Perm (qs (q.l.take n))∧s'.2.l.drop n=q.l.drop n∧s'.2.l.length=q.l.length)∨∃ r,(bnd (Bg s.l (c:Int) (i:Int)) fun q97=>if q97=true then bnd (Bb s.l (i:Int) (c:Int)) fun q109=>some (Ctl.next (ρ:=Bool×BQ) ((c:Int),(⟨q109⟩:BQ))) else some (.brk ((i:Int),s)))=some (.ret r)∧False:=by
      intro c d hc hcn hd' hs
      rw [Id hd' ha,AB]
      have e1:qs (((s.l.set i d).set c a).take n)=((qs (s.l.take n)).set i (toQ d)).set c (toQ a):=by
        rw [List.take_set,List.take_set,Hw,Hw]
      by_cases hda:bfr (toQ d) (toQ a)
      · rw [decide_eq_true hda,if_t,Ie ha hd',AB]
        refine .inl ⟨_,rfl,⟨c,rfl,?_,by omega,?_,?_,by simp;exact hsl⟩,?_⟩
        · dsimp only;rw [e1];exact hd.step hc (tk (by omega) ha) (tk hcn hd') hda hs
        · dsimp only;rw [e1];exact (JH (tk (by omega) ha) (tk hcn hd')).trans hp
        · dsimp only
          rw [← hdr]
          apply List.ext_getElem?
          intro k
          rw [List.getElem?_drop,List.getElem?_drop,List.getElem?_set_ne (by omega),List.getElem?_set_ne (by omega)]
        · dsimp only;omega
      · rw [decide_eq_false hda,if_f]
        refine .inr (.inl ⟨_,rfl,hd.heap fun j x y hj hji hx hy=>?_,hp,hdr,hsl⟩)
        rw [tk (by omega) ha] at hy
        obtain rfl:=Option.some.inj hy
        exact GG (hs j x hj hji hx) hda
    rw [Bp (by unfold inI64;omega),AB]
    by_cases h2:2 * (i:Int) + 1 + 1 < (n:Int)
    · obtain ⟨d,hd'⟩:=AH (l:=s.l) (k:=2 * i + 2) (by omega)
      rw [if_pos h2,cast2,cast1,Id hd' hb,AB]
      by_cases hdb:bfr (toQ d) (toQ b)
      · rw [decide_eq_true hdb,if_t,AB,if_t,AB]
        refine rest (2 * i + 2) d (.inr rfl) (by omega) hd' fun j x hj hji hx=>?_
        have:j=2 * i + 1∨j=2 * i + 2:=by omega
        rcases this with rfl|rfl
        · rw [tk (by omega) hb] at hx;obtain rfl:=Option.some.inj hx;exact nb_of hdb
        · rw [tk (by omega) hd'] at hx;obtain rfl:=Option.some.inj hx;exact Iy _
      · rw [decide_eq_false hdb,if_f,AB,if_f,AB]
        refine rest (2 * i + 1) b (.inl rfl) (by omega) hb fun j x hj hji hx=>?_
        have:j=2 * i + 1∨j=2 * i + 2:=by omega
        rcases this with rfl|rfl
        · rw [tk (by omega) hb] at hx;obtain rfl:=Option.some.inj hx;exact Iy _
        · rw [tk (by omega) hd'] at hx;obtain rfl:=Option.some.inj hx;exact hdb
    · rw [if_neg h2,AB,if_f,AB,cast1]
      refine rest (2 * i + 1) b (.inl rfl) (by omega) hb fun j x hj hji hx=>?_
      have:j=2 * i + 1:=by have:=AJ hx;rw [Ep,List.length_take] at this;omega
      subst this
      rw [tk (by omega) hb] at hx;obtain rfl:=Option.some.inj hx;exact Iy _
  · intro s hs
    by_cases hz:0 < s.1
    · rw [fin_d,if_pos hz,AB];exact ⟨_,rfl,hs⟩
    · rw [fin_d,if_neg hz,AB];exact ⟨_,rfl,hs⟩
theorem Mo {q:BQ} (h:HeapOk (qs q.l)) (h0:0 < q.l.length) (hl:q.l.length≤900000):∃ r,BL q=some r∧∃ (e:Itm) (q':BQ),r=((⟨e⟩:AI),q')∧HeapOk (qs q'.l)∧(qs q.l).Perm (toQ e :: qs q'.l)∧∀ x∈qs q.l,nb x (toQ e):=by
  obtain ⟨e,he⟩:=AH (l:=q.l) (k:=0) h0
  obtain ⟨z,hz⟩:=AH (l:=q.l) (k:=q.l.length - 1) (by omega)
  have cz:((q.l.length:Int) - 1)=((q.l.length - 1:Nat):Int):=by omega
  have sw:Bb q.l 0 ((q.l.length - 1:Nat):Int)=some ((q.l.set 0 z).set (q.l.length - 1) e):=Ie (i:=0) he hz
  unfold BL Be
  rw [AB,Bp (by unfold inI64;omega),AB,cz,sw,AB]
  have tk:((q.l.set 0 z).set (q.l.length - 1) e).take (q.l.length - 1)=(q.l.set 0 z).take (q.l.length - 1):=by
    rw [List.take_set]
    exact List.set_eq_of_length_le (by simp)
  have hperm:(qs q.l).Perm (toQ e :: qs ((q.l.set 0 z).take (q.l.length - 1))):=by
    have:q.l.Perm (e :: (q.l.set 0 z).take (q.l.length - 1)):=by
      cases hq:q.l with
      | nil=>rw [hq] at h0;simp at h0
      | cons a tl =>
        rw [hq] at he hz
        simp at he
        subst he
        cases htl:tl.reverse with
        | nil =>
          have:tl=[]:=by simpa using htl
          subst this
          simp
        | cons w r =>
          have htl':tl=r.reverse ++ [w]:=by have:=congrArg List.reverse htl;simpa using this
          subst htl'
          simp at hz
          subst hz
          simp
    exact this.map toQ
  obtain ⟨r,r1,r2,r3,r4,r5⟩:=LN (q:=⟨(q.l.set 0 z).set (q.l.length - 1) e⟩) (n:=q.l.length - 1) (by simp) (by simp;omega) (by
    dsimp only
    rw [tk]
    refine ⟨fun j x y hj hjp hx hy=>?_,fun j x y h1=>by omega⟩
    rw [Mn,Hw] at hx hy
    have hx':=Je hx
    have hy':=Je hy
    rw [List.getElem?_set_ne (by omega)] at hx' hy'
    exact h j x y hj hx' hy')
  dsimp only at r3 r4 r5
  rw [tk] at r3
  simp only [List.length_set] at r5
  rw [r1,AB]
  unfold Ct
  have hlast:r.2.l[q.l.length - 1]?=some e:=by
    have:(r.2.l.drop (q.l.length - 1))[0]?=some e:=by
      rw [r4,List.getElem?_drop,Nat.add_zero,List.getElem?_set_self (by simp;omega)]
    rwa [List.getElem?_drop,Nat.add_zero] at this
  have hcut:cutI r.2.l 0 ((q.l.length - 1:Nat):Int)=some (r.2.l.take (q.l.length - 1)):=by
    unfold cutI
    rw [if_pos (by simp;omega)]
    simp
  rw [r5,cz,Bp (by unfold inI64;omega),AB,Bk,hlast,AB,hcut,AB,AB]
  exact ⟨_,rfl,e,⟨r.2.l.take (q.l.length - 1)⟩,rfl,r2,hperm.trans (List.Perm.cons _ r3.symm),Lp h (Ff he)⟩
end
section
open Go Go.RowKit
attribute [local irreducible] ewp owp hwp hwq hws Ev Evg Fn retPost loud loudS Res1
structure Rsl where
  verdict:Int
  plan:List Int
  cost:Int
  expanded:Int
instance:Rp Rsl where
  isAgg:=true
  size:=4
  R w F cs x:=∃ v0,cs=[.int .i64 x.verdict,v0,.int .i64 x.cost,.int .i64 x.expanded]∧Vb w F v0 x.plan∧inI64 x.verdict∧inI64 x.cost∧inI64 x.expanded
  len:=by rintro w F cs x ⟨v0,rfl,h0,h1,h2,h3⟩;rfl
  one:=by rintro w F cs x ⟨v0,rfl,h0,h1,h2,h3⟩ u hu;simp at hu;rcases hu with rfl|rfl|rfl|rfl<;>first|rfl|exact Vb.one rfl (by assumption)
  agree:=by rintro w w' F cs x ⟨v0,rfl,h0,h1,h2,h3⟩ ha;exact ⟨v0,rfl,h0.agree ha,h1,h2,h3⟩
  mono:=by rintro w F G cs x ⟨v0,rfl,h0,h1,h2,h3⟩ ha;exact ⟨v0,rfl,h0.mono ha,h1,h2,h3⟩
end
section
open Go Go.RowKit
inductive PlanR (t:Tsk):List Int→List Int→List Int→Int→Prop
  | nil {s:List Int}:PlanR t s [] s 0
  | cons {s rest s':List Int} {k:Nat} {o:Opr} {C:Int}:t.ops[k]?=some o→holdsB o.pre s=true→PlanR t (succ o s) rest s' C→PlanR t s ((k:Int) :: rest) s' (o.cost + C)
theorem Lq (f:List Fct) (s:List Int):Cy f s=some (holdsB f s):=rfl
theorem Lr {t:Tsk} (h:TaskOk t) {s plan s':List Int} {C:Int} (hr:PlanR t s plan s' C):∀ (j:Nat) (c:Int),StateOk t.vars s→0≤c→c + plan.length * 1048576≤1000000000000000 →
    rng (ρ:=Int×Bool) (fun (_:Nat) (a34:Int) (s31:(List Int)×Int)=>bnd (BM t s31.1 a34) fun q56=>if (!q56.2)=true then (some (.ret (0,false))) else (bnd (atI t.ops a34) fun a70=>bnd (chkI (s31.2 + a70.cost)) fun n91=>some (.next (q56.1,n91)))) plan j (s,c)=some (.done (s',c + C)):=by
  induction hr with
  | nil=>intro j c _ _ _;simp [rng]
  | @cons s rest s' k o C ho hp hr ih =>
    intro j c hs hc hb
    simp only [List.length_cons] at hb
    have hoo:=h.2.2.2.2.2 k o ho
    have h1:=hoo.1
    have h2:=hoo.2.1
    have e2:(bnd (BM t s (k:Int)) fun q56=>if (!q56.2)=true then (some (.ret (0,false))) else (bnd (atI t.ops (k:Int)) fun a70=>bnd (chkI (c + a70.cost)) fun n91=>some (.next (q56.1,n91))):Option (Ctl (List Int×Int) (Int×Bool)))=some (.next (succ o s,c + o.cost)):=by
      rw [Jd h hs ho,if_pos hp,AB,if_neg (by simp),Bk,ho,AB,Bp (by unfold inI64;omega),AB]
    simp only [rng,e2]
    rw [ih (j + 1) (c + o.cost) (Fw h hs ho) (by omega) (by omega),Int.add_assoc]
theorem Mp {t:Tsk} (h:TaskOk t) {s plan s':List Int} {C:Int} (hs:StateOk t.vars s) (hr:PlanR t s plan s' C) (hl:plan.length≤1000):Dn t s plan=some (C,holdsB t.goal s'):=by
  unfold Dn
  rw [Lr h hr 0 0 hs (by omega) (by omega),AB,fin_d,FG,AB,Int.zero_add]
  cases holdsB t.goal s'<;>rfl
end
section
open Go Go.RowKit
theorem Kt {σ ρ:Type} {x:Option (Ctl σ ρ)} {I:σ→Prop} (h:∃ r,x=some r∧∃ s',r=Ctl.next s'∧I s'):∃ s',x=some (.next s')∧I s':=by
  obtain ⟨_,h1,s',rfl,h2⟩:=h
  exact ⟨s',h1,h2⟩
def FldOk (W:Nat) (f:PFd) (n:Int):Prop:=∃ k b w:Nat,f=⟨k,b,w,n⟩∧k < W∧b + w≤64∧w≤6∧n≤2 ^ w
def PkOk (vars:List Int) (p:Pkr):Prop:=p.fields.length=vars.length∧(∃ W:Nat,p.words=(W:Int)∧1≤W∧W≤vars.length + 1∧∀ (i:Nat) f n,p.fields[i]?=some f→vars[i]?=some n→FldOk W f n) ∧
  ∀ (i j:Nat) f g,i < j→p.fields[i]?=some f→p.fields[j]?=some g→f.word < g.word∨(f.word=g.word∧f.bit + f.width≤g.bit)
theorem Mq:∀ {w:Nat},w≤6→shlI 1 (w:Int)=some ((2 ^ w:Nat):Int):=by
  intro w h
  have:w=0∨w=1∨w=2∨w=3∨w=4∨w=5∨w=6:=by omega
  rcases this with rfl|rfl|rfl|rfl|rfl|rfl|rfl<;>rfl
theorem Mr {w:Nat} {n:Int} (hw:w≤6) (h:((2 ^ w:Nat):Int) < n) (hn:n≤64):w < 6:=by
  rcases Nat.lt_or_ge w 6 with hh|hh
  · exact hh
  · obtain rfl:w=6:=by omega
    simp at h;omega
def PkI (vars:List Int) (B W:Nat) (fs:List PFd):Prop:=(∀ (i:Nat) f n,fs[i]?=some f→vars[i]?=some n→FldOk W f n) ∧
  (∀ (i j:Nat) f g,i < j→fs[i]?=some f→fs[j]?=some g→f.word < g.word∨(f.word=g.word∧f.bit + f.width≤g.bit))∧∀ (i:Nat) f,fs[i]?=some f→f.word + 1 < (W:Int)∨(f.word + 1=(W:Int)∧f.bit + f.width≤(B:Int))
theorem PkI.over {vars:List Int} {B W:Nat} {fs:List PFd} (h:PkI vars B W fs):PkI vars 0 (W + 1) fs :=
  ⟨fun i f n hf hn=>by obtain ⟨k,b,w,e,e1,e2⟩:=h.1 i f n hf hn;exact ⟨k,b,w,e,by omega,e2⟩,h.2.1,fun i f hf=>by have:=h.2.2 i f hf;omega⟩
theorem CY {α:Type} {l:List α} {x y:α} {i:Nat} (h:(l ++ [x])[i]?=some y):l[i]?=some y∨(i=l.length∧y=x):=by
  rcases Nat.lt_trichotomy i l.length with hi|hi|hi
  · rw [List.getElem?_append_left hi] at h;exact .inl h
  · subst hi;simp at h;exact .inr ⟨rfl,h.symm⟩
  · rw [List.getElem?_append_right (by omega)] at h
    rw [List.getElem?_eq_none (by simp;omega)] at h
    cases h
theorem PkI.add {vars:List Int} {B W w:Nat} {fs:List PFd} {n:Int} (h:PkI vars B W fs) (hW:1≤W) (hn:vars[fs.length]?=some n) (hB:B + w≤64) (hw:w≤6) (hnw:n≤2 ^ w):PkI vars (B + w) W (fs ++ [⟨(W:Int) - 1,(B:Int),(w:Int),n⟩]):=by
  refine ⟨fun i f n' hf hn'=>?_,fun i j f g hij hf hg=>?_,fun i f hf=>?_⟩
  · rcases CY hf with hh|⟨rfl,rfl⟩
    · exact h.1 i f n' hh hn'
    · rw [hn] at hn'
      obtain rfl:=Option.some.inj hn'
      exact ⟨W - 1,B,w,by congr 1;omega,by omega,hB,hw,hnw⟩
  · rcases CY hg with hh|⟨rfl,rfl⟩
    · rcases CY hf with hk|⟨rfl,rfl⟩
      · exact h.2.1 i j f g hij hk hh
      · have:=AJ hh;omega
    · rcases CY hf with hk|⟨rfl,rfl⟩
      · have:=h.2.2 i f hk
        dsimp only
        omega
      · omega
  · rcases CY hf with hh|⟨rfl,rfl⟩
    · have:=h.2.2 i f hh;omega
    · dsimp only;omega
theorem KH {vars:List Int} (hl:vars.length≤64) (hv:∀ (i:Nat) n,vars[i]?=some n→1≤n∧n≤64):∃ r,DA vars=some r∧∃ p,r=(some p,⟨0⟩)∧PkOk vars p:=by
  unfold DA
  rw [if_neg (by omega)]
  refine Hr (fun m s=>∃ B W:Nat,s.1=(B:Int)∧B≤64∧s.2.words=(W:Int)∧1≤W∧W≤m + 1∧s.2.fields.length=m∧PkI vars B W s.2.fields) (fun _=>False)
    ⟨0,1,rfl,by omega,rfl,by omega,by omega,rfl,fun i f n h=>by simp at h,fun i j f g _ h=>by simp at h,fun i f h=>by simp at h⟩ ?_ ?_ (fun q hq=>hq.elim)
  · rintro m n ⟨s1,s2⟩ hm ⟨B,W,hs1,hB,hW,hW1,hWm,hlen,hI⟩
    dsimp only at hs1 hW hlen hI
    subst hs1
    obtain ⟨hn1,hn2⟩:=hv m n hm
    have hml:=AJ hm
    refine .inl (Kt ?_)
    rw [if_neg (by omega),if_neg (by omega),AB,if_f]
    refine JC (fun c=>∃ w:Nat,c=(w:Int)∧w≤6) (fun c=>∃ w:Nat,c=(w:Int)∧w≤6∧n≤2 ^ w) (fun _=>False) (fun c=>7 - c.toNat) ⟨0,rfl,by omega⟩ ?_ ?_ (fun q hq=>hq.elim)
    · rintro c ⟨w,rfl,hw⟩
      rw [Mq hw,AB]
      by_cases hlt:((2 ^ w:Nat):Int) < n
      · have:=Mr hw hlt hn2
        rw [if_pos hlt,Bp (by unfold inI64;omega),AB]
        exact .inl ⟨_,rfl,⟨w + 1,by omega,by omega⟩,by omega⟩
      · rw [if_neg hlt]
        refine .inr (.inl ⟨_,rfl,w,rfl,hw,?_⟩)
        have:((2 ^ w:Nat):Int)=(2:Int) ^ w:=by simp
        omega
    · rintro c ⟨w,rfl,hw,hnw⟩
      rw [fin_d,Bp (by unfold inI64;omega),AB]
      have fin':∀ (B' W':Nat) (q:Pkr),B' + w≤64→1≤W'→W'≤m + 2→q.words=(W':Int)→q.fields=s2.fields→PkI vars B' W' s2.fields→∃ r,(bnd (chkI (q.words - 1)) fun n133=>bnd (appI 32 q.fields [(⟨n133,(B':Int),(w:Int),n⟩:PFd)]) fun u142=>bnd (chkI ((B':Int) + (w:Int))) fun n155=>some (Ctl.next (ρ:=(Option Pkr)×Err) (n155,(⟨u142,q.words⟩:Pkr))))=some r∧∃ s',r=Ctl.next s'∧∃ B W:Nat,s'.1=(B:Int)∧B≤64∧s'.2.words=(W:Int)∧1≤W∧W≤m + 1 + 1∧s'.2.fields.length=m + 1∧PkI vars B W s'.2.fields:=by
        intro B' W' q hB' hW' hWm' hq1 hq2 hI'
        rw [hq1,hq2,Bp (by unfold inI64;omega),AB,CX (by simp;omega) (by simp;omega),AB,Bp (by unfold inI64;omega),AB]
        exact ⟨_,rfl,_,rfl,B' + w,W',by simp,hB',rfl,hW',by omega,by simp [hlen],hI'.add hW' (by rw [hlen];exact hm) hB' hw hnw⟩
      by_cases hover:64 < (B:Int) + (w:Int)
      · rw [if_pos hover]
        dsimp only
        rw [hW,Bp (by unfold inI64;omega),AB,AB]
        exact fin' 0 (W + 1) ⟨s2.fields,(W:Int) + 1⟩ (by omega) (by omega) (by omega) (by simp) rfl hI.over
      · rw [if_neg hover,AB]
        exact fin' B W s2 (by omega) hW1 (by omega) hW rfl hI
  · rintro ⟨s1,s2⟩ ⟨B,W,hs1,hB,hW,hW1,hWm,hlen,hI⟩
    exact ⟨_,rfl,s2,rfl,hlen,⟨W,hW,hW1,hWm,hI.1⟩,hI.2.1⟩
def InF (f:PFd) (x:Int) (k c:Nat):Prop:=f.word=(k:Int)∧f.bit≤(c:Int)∧(c:Int) < f.bit + f.width∧x.toNat.testBit (c - f.bit.toNat)=true
def Bits (fs:List PFd) (s:List Int) (p:Nat→Prop) (ws:List U64):Prop:=∀ (k c:Nat) a,ws[k]?=some a→c < 64→(a.getLsbD c=true↔∃ (i:Nat) (f:PFd) (x:Int),p i∧fs[i]?=some f∧s[i]?=some x∧InF f x k c)
theorem ones {w:Nat} (h:w≤6):((1:U64) <<< w) - (1:U64)=BitVec.ofNat 64 (2 ^ w - 1):=by
  have:w=0∨w=1∨w=2∨w=3∨w=4∨w=5∨w=6:=by omega
  rcases this with rfl|rfl|rfl|rfl|rfl|rfl|rfl<;>rfl
theorem JJ {w b c:Nat} (hw:w≤6) (hc:c < 64):((((1:U64) <<< w) - (1:U64)) <<< b).getLsbD c=(decide (b≤c) && decide (c < b + w)):=by
  rw [ones hw,BitVec.getLsbD_shiftLeft,BitVec.getLsbD_ofNat,Nat.testBit_two_pow_sub_one]
  by_cases h1:b≤c<;>by_cases h2:c < b + w<;>simp [h1,h2,hc]<;>omega
theorem IO {x:Int} {w j:Nat} (h0:0≤x) (h1:x < 2 ^ w) (ht:x.toNat.testBit j=true):j < w:=by
  rcases Nat.lt_or_ge j w with h|h
  · exact h
  · have h2:x.toNat < 2 ^ w:=by
      have:((2 ^ w:Nat):Int)=(2:Int) ^ w:=by simp
      omega
    rw [Nat.testBit_lt_two_pow (Nat.lt_of_lt_of_le h2 (Nat.pow_le_pow_right (by omega) h))] at ht
    cases ht
theorem PkOk.field {vars:List Int} {p:Pkr} (h:PkOk vars p) {s:List Int} (hs:StateOk vars s) {i:Nat} {f:PFd} (hf:p.fields[i]?=some f):∃ (k b w:Nat) (n x:Int),f=⟨k,b,w,n⟩∧(k:Int) < p.words∧b + w≤64∧w≤6∧s[i]?=some x∧0≤x∧x < n∧x < 2 ^ w:=by
  obtain ⟨h1,⟨W,hW,_,_,h2⟩,h3⟩:=h
  have hi:=AJ hf
  obtain ⟨n,hn⟩:=AH (l:=vars) (k:=i) (by omega)
  obtain ⟨x,hx⟩:=AH (l:=s) (k:=i) (by have:=hs.1;omega)
  obtain ⟨k,b,w,e,e1,e2,e3,e4⟩:=h2 i f n hf hn
  have:=hs.2 i x n hx hn
  exact ⟨k,b,w,n,x,e,by omega,e2,e3,hx,this.1,this.2,by omega⟩
theorem PkOk.same {vars:List Int} {p:Pkr} (h:PkOk vars p) {i j:Nat} {f g:PFd} {k c:Nat} (hf:p.fields[i]?=some f) (hg:p.fields[j]?=some g) (h1:f.word=(k:Int)∧f.bit≤(c:Int)∧(c:Int) < f.bit + f.width) (h2:g.word=(k:Int)∧g.bit≤(c:Int)∧(c:Int) < g.bit + g.width):i=j:=by
  rcases Nat.lt_trichotomy i j with hh|hh|hh
  · have:=h.2.2 i j f g hh hf hg;omega
  · exact hh
  · have:=h.2.2 j i g f hh hg hf;omega
theorem HI {vars:List Int} {p:Pkr} (h:PkOk vars p) (hl:vars.length≤64) {s:List Int} (hs:StateOk vars s):∃ r,Bv p s=some r∧r.2=⟨0⟩∧(r.1.length:Int)=p.words∧Bits p.fields s (fun _=>True) r.1:=by
  obtain ⟨W,hW,hW1,hW2,_⟩:=h.2.1
  unfold Bv
  rw [if_neg (by have:=h.1;have:=hs.1;omega),hW,Ir (by omega) (by omega),AB]
  refine Hr (fun m ws=>(ws.length:Int)=(W:Int)∧Bits p.fields s (fun i=>i < m) ws) (fun _=>False) ⟨by simp,?_⟩ ?_ ?_ (fun q hq=>hq.elim)
  · intro k c a ha _
    have:=List.eq_of_mem_replicate (List.mem_of_getElem? ha)
    subst this
    constructor
    · intro hh;simp at hh
    · rintro ⟨i,_,_,hi,_⟩;omega
  · rintro m f ws hm ⟨hwl,hb⟩
    refine .inl (Kt ?_)
    obtain ⟨k,b,w,n,x,rfl,hk,hbw,hw,hx,hx0,hxn,hxw⟩:=h.field hs hm
    dsimp only
    obtain ⟨a,ha⟩:=AH (l:=ws) (k:=k) (by omega)
    rw [hx,AB,if_neg (by omega),AB,if_neg (by omega),AB,if_f,Bk,ha,AB,AB]
    unfold shlU
    rw [if_pos (by omega),AB,AB]
    refine ⟨_,rfl,_,rfl,by simpa using hwl,?_⟩
    simp only [Int.toNat_natCast]
    have hxb:∀ c:Nat,c < 64→((a ||| (BitVec.ofInt 64 x <<< b)).getLsbD c=true↔a.getLsbD c=true∨(b≤c∧x.toNat.testBit (c - b)=true)):=by
      intro c hc
      have hofi:BitVec.ofInt 64 x=BitVec.ofNat 64 x.toNat:=by
        rw [← BitVec.ofInt_natCast,Int.toNat_of_nonneg hx0]
      rw [BitVec.getLsbD_or,BitVec.getLsbD_shiftLeft,hofi,BitVec.getLsbD_ofNat]
      by_cases h1:b≤c
      · have:c - b < 64:=by omega
        simp [hc,h1,this,Nat.not_lt.2 h1]
      · simp [hc,h1,Nat.lt_of_not_le h1]
    intro k' c a' ha' hc
    by_cases e:k=k'
    · subst e
      rw [List.getElem?_set_self (AJ ha)] at ha'
      obtain rfl:=Option.some.inj ha'
      rw [hxb c hc,hb k c a ha hc]
      constructor
      · rintro (⟨i,f,y,hi,hr⟩|⟨h1,h2⟩)
        · exact ⟨i,f,y,by omega,hr⟩
        · have:=IO hx0 hxw h2
          exact ⟨m,_,x,by omega,hm,hx,rfl,by dsimp only;omega,by dsimp only;omega,by simpa using h2⟩
      · rintro ⟨i,f,y,hi,hf,hy,hin⟩
        by_cases he:i=m
        · subst he
          rw [hm] at hf
          obtain rfl:=Option.some.inj hf
          rw [hx] at hy
          obtain rfl:=Option.some.inj hy
          obtain ⟨_,i2,i3,i4⟩:=hin
          dsimp only at i2 i3 i4
          exact .inr ⟨by omega,by simpa using i4⟩
        · exact .inl ⟨i,f,y,by omega,hf,hy,hin⟩
    · rw [List.getElem?_set_ne e] at ha'
      rw [hb k' c a' ha' hc]
      constructor
      · rintro ⟨i,f,y,hi,hr⟩;exact ⟨i,f,y,by omega,hr⟩
      · rintro ⟨i,f,y,hi,hf,hy,hin⟩
        by_cases he:i=m
        · subst he
          rw [hm] at hf
          obtain rfl:=Option.some.inj hf
          have:=hin.1
          dsimp only at this
          omega
        · exact ⟨i,f,y,by omega,hf,hy,hin⟩
  · rintro ws ⟨hwl,hb⟩
    refine ⟨_,rfl,rfl,hwl,fun k c a ha hc=>?_⟩
    rw [hb k c a ha hc]
    constructor
    · rintro ⟨i,f,x,_,hr⟩;exact ⟨i,f,x,trivial,hr⟩
    · rintro ⟨i,f,x,_,hf,hr⟩;exact ⟨i,f,x,AJ hf,hf,hr⟩
theorem Ku {k b w:Nat} {n:Int}:Cg ⟨k,b,w,n⟩=some ((((1:U64) <<< w) - (1:U64)) <<< b):=by
  unfold Cg shlU
  dsimp only
  rw [if_pos (by omega),AB,if_pos (by omega),AB]
  simp
theorem Nh {vars:List Int} {p:Pkr} (h:PkOk vars p) {s:List Int} (hs:StateOk vars s) {ws:List U64} (hwl:(ws.length:Int)=p.words) (hb:Bits p.fields s (fun _=>True) ws) {i:Nat} {f:PFd} {x:Int} (hf:p.fields[i]?=some f) (hx:s[i]?=some x):Cv f ws=some x:=by
  obtain ⟨k,b,w,n,x',rfl,hk,hbw,hw,hx',hx0,hxn,hxw⟩:=h.field hs hf
  rw [hx] at hx'
  obtain rfl:=Option.some.inj hx'
  obtain ⟨a,ha⟩:=AH (l:=ws) (k:=k) (by omega)
  unfold Cv
  dsimp only
  rw [Bk,ha,AB,Ku,AB]
  unfold shrU
  rw [if_pos (by omega),AB]
  have hval : (a &&& ((((1:U64) <<< w) - (1:U64)) <<< b)) >>> b=BitVec.ofNat 64 x.toNat:=by
    apply BitVec.eq_of_getLsbD_eq
    intro j hj
    rw [BitVec.getLsbD_ushiftRight,BitVec.getLsbD_and,BitVec.getLsbD_ofNat]
    by_cases hjb:b + j < 64
    · rw [JJ hw hjb]
      by_cases hjw:j < w
      · have h1:=hb k (b + j) a ha hjb
        have h2:a.getLsbD (b + j)=x.toNat.testBit j:=by
          cases ht:x.toNat.testBit j with
          | true=>exact h1.2 ⟨i,_,x,trivial,hf,hx,rfl,by dsimp only;omega,by dsimp only;omega,by simpa using ht⟩
          | false =>
            cases hg:a.getLsbD (b + j) with
            | false=>rfl
            | true =>
              obtain ⟨i',f',x',_,hf',hx',hin⟩:=h1.1 hg
              have hii:=h.same (k:=k) (c:=b + j) hf hf' ⟨rfl,by dsimp only;omega,by dsimp only;omega⟩ ⟨hin.1,hin.2.1,hin.2.2.1⟩
              subst hii
              rw [hf] at hf'
              obtain rfl:=Option.some.inj hf'
              rw [hx] at hx'
              obtain rfl:=Option.some.inj hx'
              have:=hin.2.2.2
              simp at this
              rw [this] at ht
              cases ht
        rw [h2]
        simp [hj,hjw]
      · have hf0:x.toNat.testBit j=false:=by
          cases ht:x.toNat.testBit j with
          | false=>rfl
          | true=>exact absurd (IO hx0 hxw ht) hjw
        simp [hf0,hjw]
    · have hf0:x.toNat.testBit j=false:=by
        cases ht:x.toNat.testBit j with
        | false=>rfl
        | true=>have:=IO hx0 hxw ht;omega
      rw [BitVec.getLsbD_of_ge _ _ (by omega)]
      simp [hf0]
  have h64:(2:Int) ^ w≤64:=by
    have:w=0∨w=1∨w=2∨w=3∨w=4∨w=5∨w=6:=by omega
    rcases this with rfl|rfl|rfl|rfl|rfl|rfl|rfl<;>decide
  simp only [Int.toNat_natCast]
  rw [hval]
  congr 1
  rw [BitVec.toInt_eq_toNat_of_lt (by rw [BitVec.toNat_ofNat];omega),BitVec.toNat_ofNat]
  omega
theorem Hx {vars:List Int} {p:Pkr} (h:PkOk vars p) (hl:vars.length≤64) {s:List Int} (hs:StateOk vars s) {ws:List U64} (hwl:(ws.length:Int)=p.words) (hb:Bits p.fields s (fun _=>True) ws):Ce p ws=some (s,⟨0⟩):=by
  obtain ⟨W,hW,hW1,hW2,_⟩:=h.2.1
  have hsl:=hs.1
  have hfl:=h.1
  unfold Ce
  rw [if_neg (by omega),Ir (by omega) (by omega),AB]
  unfold BW
  rw [if_pos (by omega),AB]
  refine IN (fun m st=>st.1.length=s.length∧(∀ (i:Nat) x,i < m→s[i]?=some x→st.1[i]?=some x)∧st.2.length=ws.length∧Bits p.fields s (fun i=>m≤i) st.2) ⟨by simp;omega,fun i x hi=>by omega,rfl,?_⟩ ?_ ?_
  · intro k c a ha hc
    rw [hb k c a ha hc]
    constructor
    · rintro ⟨i,f,x,_,hr⟩;exact ⟨i,f,x,by omega,hr⟩
    · rintro ⟨i,f,x,_,hr⟩;exact ⟨i,f,x,trivial,hr⟩
  · rintro m f ⟨out,rest⟩ hm ⟨i1,i2,i3,i4⟩
    dsimp only at i1 i2 i3 i4 ⊢
    obtain ⟨k,b,w,n,x,rfl,hk,hbw,hw,hx,hx0,hxn,hxw⟩:=h.field hs hm
    have hml:=AJ hx
    obtain ⟨u,hu⟩:=AH (l:=out) (k:=m) (by omega)
    obtain ⟨a,ha⟩:=AH (l:=rest) (k:=k) (by omega)
    rw [Nh h hs hwl hb hm hx,AB,hu,AB,List.getElem?_set_self (by omega),AB]
    dsimp only
    rw [if_neg (by omega),Bk,ha,AB,Ku,AB,AB]
    refine ⟨_,rfl,by simpa using i1,fun i y hi hy=>?_,by simpa using i3,?_⟩
    · by_cases e:i=m
      · subst e
        rw [hx] at hy
        obtain rfl:=Option.some.inj hy
        exact List.getElem?_set_self (by omega)
      · show (out.set m x)[i]?=_
        rw [List.getElem?_set_ne (by omega)]
        exact i2 i y (by omega) hy
    · show Bits p.fields s _ (rest.set ((k:Int)).toNat _)
      simp only [Int.toNat_natCast]
      intro k' c a' ha' hc
      by_cases e:k=k'
      · subst e
        rw [List.getElem?_set_self (AJ ha)] at ha'
        obtain rfl:=Option.some.inj ha'
        rw [BitVec.getLsbD_and,BitVec.getLsbD_not,JJ hw hc]
        have h1:=i4 k c a ha hc
        constructor
        · intro hh
          simp only [Bool.and_eq_true,Bool.not_eq_true',decide_eq_true_eq] at hh
          obtain ⟨i,f,y,hi,hf,hy,hin⟩:=h1.1 hh.1
          refine ⟨i,f,y,?_,hf,hy,hin⟩
          rcases Nat.lt_or_ge m i with hlt|hge
          · exact hlt
          · exfalso
            obtain rfl:i=m:=by omega
            rw [hm] at hf
            obtain rfl:=Option.some.inj hf
            obtain ⟨_,j2,j3,_⟩:=hin
            dsimp only at j2 j3
            have h2:=hh.2.2
            rw [show decide (b≤c)=true from by simp;omega,show decide (c < b + w)=true from by simp;omega] at h2
            cases h2
        · rintro ⟨i,f,y,hi,hf,hy,hin⟩
          have hg:=h1.2 ⟨i,f,y,by omega,hf,hy,hin⟩
          have hno:¬ (b≤c∧c < b + w):=fun hh=>by
            have:=h.same (k:=k) (c:=c) hm hf ⟨rfl,by dsimp only;omega,by dsimp only;omega⟩ ⟨hin.1,hin.2.1,hin.2.2.1⟩
            omega
          rw [hg]
          by_cases q1:b≤c
          · have q2:¬ c < b + w:=fun hh=>hno ⟨q1,hh⟩
            simp [hc,q1,q2]
          · simp [hc,q1]
      · rw [List.getElem?_set_ne e] at ha'
        rw [i4 k' c a' ha' hc]
        constructor
        · rintro ⟨i,f,y,hi,hf,hy,hin⟩
          refine ⟨i,f,y,?_,hf,hy,hin⟩
          rcases Nat.lt_or_ge m i with hlt|hge
          · exact hlt
          · exfalso
            obtain rfl:i=m:=by omega
            rw [hm] at hf
            obtain rfl:=Option.some.inj hf
            have:=hin.1
            dsimp only at this
            omega
        · rintro ⟨i,f,y,hi,hr⟩;exact ⟨i,f,y,by omega,hr⟩
  · rintro ⟨out,rest⟩ ⟨i1,i2,i3,i4⟩
    dsimp only at i1 i2 i3 i4
    rw [fin_d]
    dsimp only
    have hout:out=s:=by
      apply List.ext_getElem?
      intro i
      rcases Nat.lt_or_ge i s.length with hi|hi
      · obtain ⟨x,hx⟩:=AH (l:=s) (k:=i) hi
        rw [hx];exact i2 i x (by omega) hx
      · rw [List.getElem?_eq_none hi,List.getElem?_eq_none (by omega)]
    subst hout
    refine IN (fun _ _=>True) trivial (fun k a _ hk _=>⟨(),?_,trivial⟩) (fun _ _=>rfl)
    obtain ⟨a',ha'⟩:=AH (l:=rest) (k:=k) (by have:=AJ hk;omega)
    rw [ha',AB]
    have hz:a'=0:=by
      apply BitVec.eq_of_getLsbD_eq
      intro c hc
      cases hg:a'.getLsbD c with
      | false=>simp
      | true =>
        obtain ⟨i,f,x,hi,hf,_⟩:=(i4 k c a' ha' hc).1 hg
        have:=AJ hf
        omega
    subst hz
    rw [if_neg (by simp)]
theorem LO {vars:List Int} {p:Pkr} (h:PkOk vars p) (hl:vars.length≤64) {s s':List Int} (hs:StateOk vars s) (hs':StateOk vars s') {ws:List U64} (h1:Bv p s=some (ws,⟨0⟩)) (h2:Bv p s'=some (ws,⟨0⟩)):s=s':=by
  obtain ⟨r,r1,r2,r3,r4⟩:=HI h hl hs
  obtain ⟨q,q1,q2,q3,q4⟩:=HI h hl hs'
  rw [h1] at r1
  rw [h2] at q1
  obtain rfl:=Option.some.inj r1
  obtain rfl:=Option.some.inj q1
  have e1:=Hx h hl hs r3 r4
  have e2:=Hx h hl hs' q3 q4
  rw [e1] at e2
  have:=Option.some.inj e2
  exact congrArg Prod.fst this
end
section
open Go Go.RowKit
theorem Jf {K V:Type} [MKey K] (z:V) (k k':K) (v:V):∀ l:List (K×V),mget z (mput l k v) k'=if k=k' then v else mget z l k'
  | []=>by simp only [mput,mget]
  | p :: r=>by
    have ih:=Jf z k k' v r
    simp only [mput]
    by_cases h1:p.1=k
    · rw [if_pos h1]
      simp only [mget]
      by_cases h2:k=k'
      · rw [if_pos h2,if_pos h2]
      · rw [if_neg h2,if_neg h2,if_neg (by rw [h1];exact h2)]
    · rw [if_neg h1]
      simp only [mget,ih]
      by_cases h2:k=k'
      · rw [if_pos h2,if_pos h2,if_neg (by rw [← h2];exact h1)]
      · rw [if_neg h2,if_neg h2]
theorem Ls (p:Pkr) (ws:List U64):∃ h,BB p ws=some h:=by
  have:∃ r,BB p ws=some r∧True:=by
    unfold BB
    refine Hr (fun _ _=>True) (fun _=>False) trivial (fun i x s _ _=>.inl ?_) (fun s _=>?_) (fun q hq=>hq.elim)
    · exact ⟨_,rfl,trivial⟩
    · exact ⟨_,rfl,trivial⟩
  obtain ⟨h,h1,_⟩:=this
  exact ⟨h,h1⟩
theorem Ni (a b:List U64):Br a b=some (decide (a=b)):=by
  unfold Br
  by_cases hl:(a.length:Int)=(b.length:Int)
  · rw [if_neg (by omega)]
    have:∃ r,(bnd (rng (ρ:=Bool) (fun (k18:Nat) (a19:U64) (_:Unit)=>bnd (b[k18]?) fun a36=>if (a19.toNat:Int)≠(a36.toNat:Int) then (some (.ret false)) else (some (.next ()))) a 0 ()) fun res14=>fin res14 fun (_:Unit)=>some true)=some r∧r=decide (a=b):=by
      refine Hr (fun m _=>∀ (i:Nat),i < m→a[i]?=b[i]?) (fun r=>r=false∧a≠b) (fun i hi=>by omega) ?_ ?_ ?_
      · intro i x _ hx hI
        obtain ⟨y,hy⟩:=AH (l:=b) (k:=i) (by have:=AJ hx;omega)
        rw [hy,AB]
        by_cases he:x=y
        · subst he
          rw [if_neg (by simp)]
          refine .inl ⟨(),rfl,fun j hj=>?_⟩
          by_cases e:j=i
          · subst e;rw [hx,hy]
          · exact hI j (by omega)
        · rw [if_pos (fun h=>he (BitVec.eq_of_toNat_eq (by omega)))]
          refine .inr ⟨_,rfl,rfl,fun h=>he ?_⟩
          rw [h,hy] at hx
          exact (Option.some.inj hx).symm
      · intro _ hI
        refine ⟨_,rfl,?_⟩
        symm
        rw [decide_eq_true_eq]
        apply List.ext_getElem?
        intro i
        rcases Nat.lt_or_ge i a.length with h|h
        · exact hI i h
        · rw [List.getElem?_eq_none h,List.getElem?_eq_none (by omega)]
      · rintro q ⟨rfl,hne⟩
        exact ⟨_,rfl,by simp [hne]⟩
    obtain ⟨r,h1,h2⟩:=this
    rw [h1,h2]
  · rw [if_pos hl]
    congr 1
    symm
    rw [decide_eq_false_iff_not]
    exact fun h=>hl (by rw [h])
structure RegI (vars:List Int) (r:Reg) (L:List (List Int)):Prop where
  pk:PkOk vars r.packer
  len:r.entries.length=L.length
  st:∀ (i:Nat) s,L[i]?=some s→StateOk vars s
  words:∀ (i:Nat) s e,L[i]?=some s→r.entries[i]?=some e→Bv r.packer s=some (e.words,⟨0⟩)
  nodup:∀ (i j:Nat) s,L[i]?=some s→L[j]?=some s→i=j
  tab:∀ (i:Nat) e,r.entries[i]?=some e→∃ h,BB r.packer e.words=some h∧(i:Int)∈mget ([]:List Int) r.table.l h
  val:∀ h a,a∈mget ([]:List Int) r.table.l h→∃ i:Nat,a=(i:Int)∧i < L.length
  few:∀ h,(mget ([]:List Int) r.table.l h).length≤L.length
def links (r:Reg):List RLk:=r.entries.map (·.link)
theorem Lt {vars:List Int} (hl:vars.length≤64) (hv:∀ (i:Nat) n,vars[i]?=some n→1≤n∧n≤64):∃ r,CJ vars=some r∧∃ q,r=(some q,⟨0⟩)∧RegI vars q []∧links q=[]:=by
  obtain ⟨r,h1,p,rfl,hp⟩:=KH hl hv
  unfold CJ
  rw [h1,AB,if_neg (by simp),AB]
  exact ⟨_,rfl,_,rfl,⟨hp,rfl,fun i s h=>by simp at h,fun i s e h=>by simp at h,fun i j s h=>by simp at h,fun i e h=>by simp at h,fun h a ha=>by simp [mget] at ha,fun h=>by simp [mget]⟩,rfl⟩
theorem KI {vars:List Int} (hl:vars.length≤64) {r:Reg} {L:List (List Int)} (h:RegI vars r L) {s:List Int} (hs:StateOk vars s):∃ (ws:List U64) (hh:Int),Bv r.packer s=some (ws,⟨0⟩)∧BB r.packer ws=some hh ∧
    ((∃ i:Nat,L[i]?=some s∧Bl r s=some (ws,hh,(i:Int),⟨0⟩))∨((∀ i:Nat,L[i]?≠some s)∧Bl r s=some (ws,hh,-1,⟨0⟩))):=by
  obtain ⟨⟨ws,er⟩,p1,p2,p3,p4⟩:=HI h.pk hl hs
  dsimp only at p2 p3 p4
  subst p2
  obtain ⟨hh,hhe⟩:=Ls r.packer ws
  refine ⟨ws,hh,p1,hhe,?_⟩
  have key:∃ res,Bl r s=some res∧((∃ i:Nat,L[i]?=some s∧res=(ws,hh,(i:Int),⟨0⟩))∨((∀ i:Nat,L[i]?≠some s)∧res=(ws,hh,-1,⟨0⟩))):=by
    unfold Bl
    rw [p1,AB,if_neg (by simp),hhe,AB]
    refine Hr (fun m _=>∀ (j:Nat) (i:Nat),j < m→(mget ([]:List Int) r.table.l hh)[j]?=some (i:Int)→L[i]?≠some s) (fun res=>∃ i:Nat,L[i]?=some s∧res=(ws,hh,(i:Int),⟨0⟩)) (fun j i hj=>by omega) ?_ ?_ ?_
    · intro m a _ hm hI
      obtain ⟨i,rfl,hi⟩:=h.val hh a (List.mem_of_getElem? hm)
      obtain ⟨e,he⟩:=AH (l:=r.entries) (k:=i) (by rw [h.len];exact hi)
      obtain ⟨s',hs'⟩:=AH (l:=L) (k:=i) hi
      have hw:=h.words i s' e hs' he
      rw [Bk,he,AB,Ni,AB]
      by_cases hew:e.words=ws
      · rw [decide_eq_true hew,if_t]
        rw [hew] at hw
        have:=LO h.pk hl (h.st i s' hs') hs hw p1
        subst this
        exact .inr ⟨_,rfl,i,hs',rfl⟩
      · rw [decide_eq_false hew,if_f]
        refine .inl ⟨(),rfl,fun j i' hj hi'=>?_⟩
        by_cases e1:j=m
        · subst e1
          rw [hm] at hi'
          have e2:i=i':=by have:=Option.some.inj hi';omega
          subst e2
          intro hL
          rw [hL] at hs'
          obtain rfl:=Option.some.inj hs'
          rw [p1] at hw
          exact hew (congrArg Prod.fst (Option.some.inj hw)).symm
        · exact hI j i' (by omega) hi'
    · intro _ hI
      refine ⟨_,rfl,.inr ⟨fun i hL=>?_,rfl⟩⟩
      obtain ⟨e,he⟩:=AH (l:=r.entries) (k:=i) (by rw [h.len];exact AJ hL)
      have hw:=h.words i s e hL he
      rw [p1] at hw
      have hwe:ws=e.words:=congrArg Prod.fst (Option.some.inj hw)
      obtain ⟨h',t1,t2⟩:=h.tab i e he
      rw [← hwe,hhe] at t1
      obtain rfl:=Option.some.inj t1
      obtain ⟨j,hj⟩:=List.getElem?_of_mem t2
      exact hI j i (AJ hj) hj hL
    · rintro q ⟨i,hi,rfl⟩
      exact ⟨_,rfl,.inl ⟨i,hi,rfl⟩⟩
  obtain ⟨res,k1,k2⟩:=key
  rcases k2 with ⟨i,hi,rfl⟩|⟨hn,rfl⟩
  · exact .inl ⟨i,hi,k1⟩
  · exact .inr ⟨hn,k1⟩
theorem Jg {vars:List Int} (hl:vars.length≤64) {r:Reg} {L:List (List Int)} (h:RegI vars r L) {s:List Int} (hs:StateOk vars s) (hL:L.length < 65536) :
    (∃ i:Nat,L[i]?=some s∧AX r s=some ((i:Int),false,⟨0⟩,r))∨((∀ i:Nat,L[i]?≠some s)∧∃ r',AX r s=some ((L.length:Int),true,⟨0⟩,r')∧RegI vars r' (L ++ [s])∧links r'=links r ++ [⟨-1,-1,0⟩]):=by
  obtain ⟨ws,hh,p1,p2,hf⟩:=KI hl h hs
  unfold AX
  have hlen:=h.len
  rcases hf with ⟨i,hi,hf⟩|⟨hno,hf⟩
  · refine .inl ⟨i,hi,?_⟩
    rw [hf,AB,if_neg (by simp),if_pos (by dsimp only;omega)]
  · refine .inr ⟨hno,?_⟩
    have hfew:=h.few hh
    rw [hf,AB,if_neg (by simp),if_neg (by dsimp only;omega),if_neg (by omega)]
    dsimp only
    rw [CX (by simp;omega) (by simp;omega),AB,CX (by simp;omega) (by simp;omega),AB,hlen]
    have hget:∀ k,mget ([]:List Int) (mput r.table.l hh (mget ([]:List Int) r.table.l hh ++ [(L.length:Int)])) k=if hh=k then mget ([]:List Int) r.table.l hh ++ [(L.length:Int)] else mget ([]:List Int) r.table.l k:=fun k=>Jf _ _ _ _ _
    refine ⟨_,rfl,⟨h.pk,by simp [hlen],?_,?_,?_,?_,?_,?_⟩,by simp [links]⟩
    · intro i s' hi
      rcases CY hi with hi|⟨_,rfl⟩
      · exact h.st i s' hi
      · exact hs
    · intro i s' e hi he
      rcases CY hi with hi|⟨hi,rfl⟩
      · rcases CY he with he|⟨he,_⟩
        · exact h.words i s' e hi he
        · have:=AJ hi;omega
      · rcases CY he with he|⟨he,rfl⟩
        · have:=AJ he;omega
        · exact p1
    · intro i j s' hi hj
      rcases CY hi with hi2|⟨hi2,hs2⟩
      · rcases CY hj with hj2|⟨hj2,hs2⟩
        · exact h.nodup i j s' hi2 hj2
        · exact absurd (hs2 ▸ hi2) (hno i)
      · rcases CY hj with hj2|⟨hj2,_⟩
        · exact absurd (hs2 ▸ hj2) (hno j)
        · omega
    · intro i e he
      rcases CY he with he|⟨hi,rfl⟩
      · obtain ⟨k,k1,k2⟩:=h.tab i e he
        refine ⟨k,k1,?_⟩
        dsimp only
        rw [hget]
        by_cases e1:hh=k
        · subst e1;rw [if_pos rfl];exact List.mem_append_left _ k2
        · rw [if_neg e1];exact k2
      · refine ⟨hh,p2,?_⟩
        dsimp only
        rw [hget,if_pos rfl,hi,hlen]
        simp
    · intro k a ha
      dsimp only at ha
      rw [hget] at ha
      simp only [List.length_append,List.length_singleton]
      by_cases e1:hh=k
      · rw [if_pos e1] at ha
        rcases List.mem_append.1 ha with ha|ha
        · obtain ⟨i,h1,h2⟩:=h.val hh a ha;exact ⟨i,h1,by omega⟩
        · exact ⟨L.length,by simpa using ha,by omega⟩
      · rw [if_neg e1] at ha
        obtain ⟨i,h1,h2⟩:=h.val k a ha;exact ⟨i,h1,by omega⟩
    · intro k
      dsimp only
      rw [hget]
      have:=h.few k
      simp only [List.length_append,List.length_singleton]
      by_cases e1:hh=k
      · rw [if_pos e1];simp;omega
      · rw [if_neg e1];omega
theorem FU {vars:List Int} {r:Reg} {L:List (List Int)} (h:RegI vars r L) {i:Nat} (hi:i < L.length):AY r (i:Int)=some true:=by
  unfold AY
  rw [if_pos (by omega),if_pos (by rw [h.len];omega)]
  rfl
theorem Kb {vars:List Int} (hl:vars.length≤64) {r:Reg} {L:List (List Int)} (h:RegI vars r L) {i:Nat} {s:List Int} (hi:L[i]?=some s):Bc r (i:Int)=some (s,⟨0⟩):=by
  obtain ⟨e,he⟩:=AH (l:=r.entries) (k:=i) (by rw [h.len];exact AJ hi)
  have hs:=h.st i s hi
  obtain ⟨⟨ws,er⟩,p1,p2,p3,p4⟩:=HI h.pk hl hs
  have hw:=h.words i s e hi he
  rw [p1] at hw
  have hwe:ws=e.words:=congrArg Prod.fst (Option.some.inj hw)
  dsimp only at p3 p4
  rw [hwe] at p3 p4
  unfold Bc
  rw [FU h (AJ hi),AB,if_t,Bk,he,AB,Hx h.pk hl hs p3 p4,AB]
theorem Iz {vars:List Int} {r:Reg} {L:List (List Int)} (h:RegI vars r L) {i:Nat} (hi:i < L.length) {p o c:Int} (hp:p=-1∨∃ j:Nat,p=(j:Int)∧j < L.length):∃ r',Bd r (i:Int) p o c=some (⟨0⟩,r')∧RegI vars r' L∧links r'=(links r).set i ⟨p,o,c⟩:=by
  obtain ⟨e,he⟩:=AH (l:=r.entries) (k:=i) (by rw [h.len];exact hi)
  unfold Bd
  have hcond:(bnd (AY r (i:Int)) fun q10=>if q10=true then if p≠(-1) then (bnd (AY r p) fun q20=>if q20=true then some false else some true) else (some false) else some true:Option Bool)=some false:=by
    rw [FU h hi,AB,if_t]
    rcases hp with rfl|⟨j,rfl,hj⟩
    · rfl
    · rw [if_pos (by omega),FU h hj];rfl
  rw [hcond,AB,if_f,Bk,he,AB]
  have hge:∀ (j:Nat) x,(r.entries.set ((i:Int)).toNat ({ e with link:=(⟨p,o,c⟩:RLk) }:REn))[j]?=some x→∃ y,r.entries[j]?=some y∧x.words=y.words:=by
    intro j x hx
    rw [Int.toNat_natCast] at hx
    by_cases e1:i=j
    · subst e1
      rw [List.getElem?_set_self (AJ he)] at hx
      obtain rfl:=Option.some.inj hx
      exact ⟨e,he,rfl⟩
    · rw [List.getElem?_set_ne e1] at hx
      exact ⟨x,hx,rfl⟩
  refine ⟨_,rfl,⟨h.pk,by simp [h.len],h.st,?_,h.nodup,?_,h.val,h.few⟩,?_⟩
  · intro j s x hj hx
    obtain ⟨y,hy,hxy⟩:=hge j x hx
    rw [hxy];exact h.words j s y hj hy
  · intro j x hx
    obtain ⟨y,hy,hxy⟩:=hge j x hx
    rw [hxy];exact h.tab j y hy
  · simp [links,List.map_set]
theorem Nj {xs:List Int} (hl:xs.length≤1000000):Bt xs=some xs.reverse:=by
  unfold Bt
  rw [Bp (by unfold inI64;omega),AB]
  refine Ml (fun s=>∃ i:Nat,s.2.1=(i:Int)∧s.2.1 + s.2.2=(xs.length:Int) - 1∧i≤xs.length∧s.1.length=xs.length∧∀ k:Nat,k < xs.length→s.1[k]?=if k < i∨xs.length - 1 - k < i then xs[xs.length - 1 - k]? else xs[k]?) (fun s=>s.1=xs.reverse) (fun s=>(s.2.2 - s.2.1 + 1).toNat) ⟨0,rfl,by dsimp only;omega,by omega,rfl,fun k hk=>by rw [if_neg (by omega)]⟩ ?_ (fun s hs=>by rw [fin_d,hs])
  rintro ⟨ys,i',j⟩ ⟨i,hi,hij,hil,hlen,hg⟩
  dsimp only at hi hij hlen hg ⊢
  subst hi
  by_cases hlt:(i:Int) < j
  · obtain ⟨jn,rfl⟩:∃ jn:Nat,j=(jn:Int):=⟨j.toNat,by omega⟩
    obtain ⟨a,ha⟩:=AH (l:=ys) (k:=jn) (by omega)
    obtain ⟨b,hb⟩:=AH (l:=ys) (k:=i) (by omega)
    rw [if_pos hlt,Bk,ha,AB,Bk,hb,AB,AB,Int.toNat_natCast,Int.toNat_natCast,Bk,List.getElem?_set_ne (by omega),ha,AB,Bp (by unfold inI64;omega),AB,Bp (by unfold inI64;omega),AB]
    refine .inl ⟨_,rfl,⟨i + 1,by dsimp only;omega,by dsimp only;omega,by omega,by simp [hlen],fun k hk=>?_⟩,by dsimp only;omega⟩
    dsimp only
    have hga:=hg jn (by omega)
    rw [ha,if_neg (by omega)] at hga
    have hgb:=hg i (by omega)
    rw [hb,if_neg (by omega)] at hgb
    by_cases e1:k=jn
    · subst e1
      rw [List.getElem?_set_self (by simp;omega),if_pos (by omega),hgb]
      congr 1;omega
    · rw [List.getElem?_set_ne (by omega)]
      by_cases e2:k=i
      · subst e2
        rw [List.getElem?_set_self (by omega),if_pos (by omega),hga]
        congr 1;omega
      · rw [List.getElem?_set_ne (by omega),hg k hk]
        by_cases e3:k < i∨xs.length - 1 - k < i
        · rw [if_pos e3,if_pos (by omega)]
        · rw [if_neg e3,if_neg (by omega)]
  · rw [if_neg hlt]
    refine .inr ⟨_,rfl,?_⟩
    dsimp only
    apply List.ext_getElem?
    intro k
    rcases Nat.lt_or_ge k xs.length with hk|hk
    · rw [List.getElem?_reverse hk,hg k hk]
      by_cases e3:k < i∨xs.length - 1 - k < i
      · rw [if_pos e3]
      · rw [if_neg e3];congr 1;omega
    · rw [List.getElem?_eq_none (by omega),List.getElem?_eq_none (by simp;omega)]
inductive PathL (lk:List RLk):Nat→List Int→Prop
  | root {i:Nat} {k:RLk}:lk[i]?=some k→k.parent < 0→PathL lk i []
  | step {i j:Nat} {k:RLk} {p:List Int}:lk[i]?=some k→k.parent=(j:Int)→PathL lk j p→PathL lk i (p ++ [k.op])
theorem Ms {vars:List Int} {r:Reg} {L:List (List Int)} (h:RegI vars r L) (hL:L.length≤65536) {i:Nat} {p:List Int} (hp:PathL (links r) i p) (hl:p.length≤L.length):BC r (i:Int)=some (p,⟨0⟩):=by
  have hget:∀ {i:Nat} {k:RLk},(links r)[i]?=some k→∃ e:REn,r.entries[i]?=some e∧e.link=k:=by
    intro i k hk
    unfold links at hk
    rw [List.getElem?_map] at hk
    cases he:r.entries[i]? with
    | none=>rw [he] at hk;cases hk
    | some e=>rw [he] at hk;exact ⟨e,rfl,by simpa using hk⟩
  have hil:i < L.length:=by
    have:∃ k,(links r)[i]?=some k:=by cases hp with|root h1 _=>exact ⟨_,h1⟩|step h1 _ _=>exact ⟨_,h1⟩
    obtain ⟨k,hk⟩:=this
    obtain ⟨e,he,_⟩:=hget hk
    rw [← h.len];exact AJ he
  unfold BC
  rw [FU h hil,AB,if_t]
  have key:∀ {i p},PathL (links r) i p→∀ acc:List Int,acc.length + p.length≤L.length→lop (ρ:=(List Int)×Err) (fun (s14:Int×(List Int))=>bnd (atI r.entries s14.1) fun a48=>if a48.link.parent < 0 then (bnd (Bt s14.2) fun q74=>some (.ret (q74,(⟨0⟩:Err)))) else (bnd (appI 8 s14.2 [a48.link.op]) fun u89=>if (r.entries.length:Int) < (u89.length:Int) then (some (.ret (([]:List Int),(⟨21⟩:Err)))) else (some (.next (a48.link.parent,u89))))) ((i:Int),acc)=some (.ret (p ++ acc.reverse,⟨0⟩)):=by
    intro i p hp
    induction hp with
    | root h1 h2 =>
      intro acc ha
      obtain ⟨e,he,rfl⟩:=hget h1
      rw [DI]
      dsimp only
      rw [Bk,he,AB,if_pos h2,Nj (by omega),AB]
      rfl
    | @step i j k p h1 h2 _ ih =>
      intro acc ha
      obtain ⟨e,he,rfl⟩:=hget h1
      simp at ha
      rw [DI]
      dsimp only
      rw [Bk,he,AB,if_neg (by omega),CX (by simp;omega) (by simp;omega),AB,if_neg (by rw [h.len];simp;omega),h2]
      dsimp only
      rw [ih (acc ++ [e.link.op]) (by simp;omega)]
      simp
  rw [key hp [] (by simpa using hl),AB]
  simp [fin]
end
section
open Go Go.RowKit
inductive Rch (t:Tsk):List Int→Prop
  | init:Rch t t.init
  | step {s:List Int} {k:Nat} {o:Opr}:Rch t s→t.ops[k]?=some o→holdsB o.pre s=true→Rch t (succ o s)
theorem Rch.ok {t:Tsk} (h:TaskOk t) {s:List Int} (hr:Rch t s):StateOk t.vars s:=by
  induction hr with
  | init=>exact h.2.2.2.1
  | step _ ho _ ih=>exact Fw h ih ho
theorem PlanR.snoc {t:Tsk} {s p s':List Int} {C:Int} (h:PlanR t s p s' C) {k:Nat} {o:Opr} (ho:t.ops[k]?=some o) (hp:holdsB o.pre s'=true):PlanR t s (p ++ [(k:Int)]) (succ o s') (C + o.cost):=by
  induction h with
  | nil=>have:=PlanR.cons ho hp (PlanR.nil (t:=t) (s:=succ o _));simpa [Int.add_comm] using this
  | cons ho' hp' _ ih=>have:=PlanR.cons ho' hp' (ih hp);rw [Int.add_assoc];exact this
theorem PlanR.walk {t:Tsk} {s p s':List Int} {C:Int} (h:PlanR t s p s' C) (hg:holdsB t.goal s'=true):Walk t s C:=by
  induction h with
  | nil=>exact .goal hg
  | cons ho hp _ ih=>have:=Walk.step ho hp (ih hg);rwa [Int.add_comm] at this
inductive WalkS (t:Tsk) (sel:List Int→List Int):List Int→Int→Prop
  | goal {s:List Int}:holdsB t.goal s=true→WalkS t sel s 0
  | step {s:List Int} {k:Nat} {o:Opr} {C:Int}:t.ops[k]?=some o→(k:Int)∈sel s→WalkS t sel (succ o s) C→WalkS t sel s (C + o.cost)
theorem Lu {t:Tsk} (h:TaskOk t) {sel:List Int→List Int} {s:List Int} {C:Int} (hw:WalkS t sel s C):0≤C:=by
  induction hw with
  | goal _=>omega
  | @step s k o C ho _ _ ih=>have:=(h.2.2.2.2.2 k o ho).1;omega
def UpL {α:Type} (i:Nat) (x:α) (l l':List α):Prop:=l'[i]?=some x∧∀ j,j≠i→l'[j]?=l[j]?
theorem Kv {α:Type} {i:Nat} {x:α} {l:List α} (h:i < l.length):UpL i x l (l.set i x):=⟨List.getElem?_set_self h,fun j hj=>List.getElem?_set_ne (by omega)⟩
theorem JK {α:Type} {i:Nat} {x:α} {l:List α} (h:l[i]?=some x):UpL i x l l:=⟨h,fun _ _=>rfl⟩
theorem HJ {α:Type} {x:α} {l:List α}:UpL l.length x l (l ++ [x]):=⟨by simp,fun j hj=>by
  rcases Nat.lt_or_ge j l.length with h|h
  · exact List.getElem?_append_left h
  · rw [List.getElem?_append_right h,List.getElem?_eq_none (l:=l) h,List.getElem?_eq_none (by simp;omega)]⟩
def cnt (l:List Bool):Nat:=(l.filter id).length
theorem Lv (l:List Bool):cnt l≤l.length:=List.length_filter_le _ _
theorem Mt (l:List Bool):cnt (l ++ [false])=cnt l:=by simp [cnt]
theorem Kw:∀ {l:List Bool} {i:Nat},l[i]?=some false→cnt (l.set i true)=cnt l + 1
  | [],i,h=>by simp at h
  | b :: l,0,h=>by simp at h;subst h;simp [cnt]
  | b :: l,i + 1,h=>by
    have:=Kw (l:=l) (i:=i) (by simpa using h)
    simp only [cnt] at this ⊢
    cases b<;>simp [this]
theorem Kx:∀ {l:List Bool} {i:Nat},l[i]?=some true→0 < cnt l
  | [],i,h=>by simp at h
  | b :: l,0,h=>by simp at h;subst h;simp [cnt]
  | b :: l,i + 1,h=>by
    have:=Kx (l:=l) (i:=i) (by simpa using h)
    unfold cnt at this ⊢
    rw [List.filter_cons]
    split
    · simp
    · exact this
structure SrI (t:Tsk) (sel:List Int→List Int) (D:Nat→Int→Prop) (L:List (List Int)) (lk:List RLk) (g:List Int) (fn:List Bool) (hp:List QEn) (ord:Nat→Nat) (E:Nat):Prop where
  root:L[0]?=some t.init
  root0:g[0]?=some 0
  lenk:lk.length=L.length
  leng:g.length=L.length
  lenf:fn.length=L.length
  link:∀ (i:Nat) s k c,L[i]?=some s→lk[i]?=some k→g[i]?=some c→(i=0∧k.parent=-1∧c=0)∨∃ (p q:Nat) (o:Opr) (s':List Int) (c':Int),k.parent=(p:Int)∧k.op=(q:Int)∧t.ops[q]?=some o∧L[p]?=some s'∧fn[p]?=some true∧holdsB o.pre s'=true∧succ o s'=s∧g[p]?=some c'∧c=c' + o.cost∧(fn[i]?=some true→ord p < ord i)
  ordl:∀ i:Nat,fn[i]?=some true→ord i < E
  lower:∀ (j:Nat) c,fn[j]?=some true→g[j]?=some c→∀ e∈hp,c≤e.key
  ent:∀ e∈hp,∃ i:Nat,e.item=(i:Int)∧i < L.length∧∀ c,g[i]?=some c→c≤e.key
  opn:∀ (i:Nat) c,fn[i]?=some false→g[i]?=some c→∃ e∈hp,e.key=c∧e.item=(i:Int)
  bound:∀ (i:Nat) c,g[i]?=some c→0≤c∧c≤(E:Int) * 1048576
  nogoal:∀ (j:Nat) s,fn[j]?=some true→L[j]?=some s→holdsB t.goal s=false
  rel:∀ (j:Nat) s q,fn[j]?=some true→L[j]?=some s→q∈sel s→D j q→∃ (k:Nat) (o:Opr) (i:Nat) (c c':Int),q=(k:Int)∧t.ops[k]?=some o∧L[i]?=some (succ o s)∧g[j]?=some c∧g[i]?=some c'∧c'≤c + o.cost
  num:cnt fn=E
  rch:∀ (i:Nat) s,L[i]?=some s→Rch t s
  first:0 < E→fn[0]?=some true
section
variable {t : Tsk} {sel : List Int → List Int} {D : Nat → Int → Prop} {L L' : List (List Int)} {lk lk' : List RLk} {g g' : List Int} {fn fn' : List Bool} {hp hp' : List QEn} {ord : Nat → Nat} {E : Nat}
theorem SrI.upd (h:SrI t sel D L lk g fn hp ord E) (hok:TaskOk t) {i p q:Nat} {o:Opr} {s sp:List Int} {x cp lc:Int} {e:QEn} (hL:UpL i s L L') (hk:UpL i ⟨(p:Int),(q:Int),lc⟩ lk lk') (hg:UpL i x g g') (hf:UpL i false fn fn') (hh:hp'.Perm (e :: hp)) (ek:e.key=x) (ei:e.item=(i:Int))
    (l1:lk'.length=L'.length) (l2:g'.length=L'.length) (l3:fn'.length=L'.length) (l4:L.length≤L'.length) (hc:cnt fn'=cnt fn) (hi:L[i]?=none∨(L[i]?=some s∧fn[i]?=some false∧∀ c,g[i]?=some c→x < c))
    (ho:t.ops[q]?=some o) (hsp:L[p]?=some sp) (hfp:fn[p]?=some true) (hpre:holdsB o.pre sp=true) (hs:succ o sp=s) (hgp:g[p]?=some cp) (hx:x=cp + o.cost) (hmax:∀ (j:Nat) c,fn[j]?=some true→g[j]?=some c→c≤cp) (hxE:x≤(E:Int) * 1048576) :
    SrI t sel D L' lk' g' fn' hp' ord E:=by
  have hoc:=(hok.2.2.2.2.2 q o ho).1
  have hcp:=(h.bound p cp hgp).1
  have hfin:∀ j:Nat,fn[j]?=some true→j≠i:=fun j hj e=>by
    subst e
    rcases hi with hn|⟨_,hn,_⟩
    · have:=AJ hj
      rw [h.lenf] at this
      rw [List.getElem?_eq_none_iff] at hn
      omega
    · rw [hj] at hn;cases hn
  have hfin':∀ j:Nat,fn'[j]?=some true→j≠i∧fn[j]?=some true:=fun j hj=>by
    have hne:j≠i:=fun e=>by subst e;rw [hf.1] at hj;cases hj
    exact ⟨hne,by rw [← hf.2 j hne];exact hj⟩
  have h0:(0:Nat)≠i:=fun e=>by
    subst e
    rcases hi with hn|⟨_,_,hn⟩
    · rw [h.root] at hn;cases hn
    · have:=hn 0 h.root0;omega
  have hpi:=hfin p hfp
  have hiL:i < L'.length:=AJ hL.1
  refine ⟨by rw [hL.2 0 h0];exact h.root,by rw [hg.2 0 h0];exact h.root0,l1,l2,l3,?_,?_,?_,?_,?_,?_,?_,?_,by rw [hc];exact h.num,?_,?_⟩
  · intro j s' k c hs' hk' hc'
    by_cases e1:j=i
    · subst e1
      rw [hL.1] at hs'
      rw [hk.1] at hk'
      rw [hg.1] at hc'
      obtain rfl:=Option.some.inj hs'
      obtain rfl:=Option.some.inj hk'
      obtain rfl:=Option.some.inj hc'
      exact .inr ⟨p,q,o,sp,cp,rfl,rfl,ho,by rw [hL.2 p hpi];exact hsp,by rw [hf.2 p hpi];exact hfp,hpre,hs,by rw [hg.2 p hpi];exact hgp,hx,fun hh=>by rw [hf.1] at hh;cases hh⟩
    · rw [hL.2 j e1] at hs'
      rw [hk.2 j e1] at hk'
      rw [hg.2 j e1] at hc'
      rcases h.link j s' k c hs' hk' hc' with hh|⟨p',q',o',sp',c',a1,a2,a3,a4,a5,a6,a7,a8,a9,a10⟩
      · exact .inl hh
      · have hne:=hfin p' a5
        exact .inr ⟨p',q',o',sp',c',a1,a2,a3,by rw [hL.2 p' hne];exact a4,by rw [hf.2 p' hne];exact a5,a6,a7,by rw [hg.2 p' hne];exact a8,a9,fun hh=>a10 (hfin' j hh).2⟩
  · exact fun j hj=>h.ordl j (hfin' j hj).2
  · intro j c hj hcj e' he'
    obtain ⟨hne,hj⟩:=hfin' j hj
    rw [hg.2 j hne] at hcj
    rcases List.mem_cons.1 (hh.mem_iff.1 he') with rfl|hm
    · have:=hmax j c hj hcj;omega
    · exact h.lower j c hj hcj e' hm
  · intro e' he'
    rcases List.mem_cons.1 (hh.mem_iff.1 he') with rfl|hm
    · exact ⟨i,ei,hiL,fun c hc=>by rw [hg.1] at hc;have:=Option.some.inj hc;omega⟩
    · obtain ⟨j,j1,j2,j3⟩:=h.ent e' hm
      refine ⟨j,j1,by omega,fun c hc=>?_⟩
      by_cases e1:j=i
      · subst e1
        rw [hg.1] at hc
        obtain rfl:=Option.some.inj hc
        rcases hi with hn|⟨_,_,hn⟩
        · rw [List.getElem?_eq_none_iff] at hn;omega
        · obtain ⟨c0,hc0⟩:=AH (l:=g) (k:=j) (by rw [h.leng];exact j2)
          have:=j3 c0 hc0
          have:=hn c0 hc0
          omega
      · rw [hg.2 j e1] at hc;exact j3 c hc
  · intro j c hj hcj
    by_cases e1:j=i
    · subst e1
      rw [hg.1] at hcj
      obtain rfl:=Option.some.inj hcj
      exact ⟨e,hh.mem_iff.2 List.mem_cons_self,ek,ei⟩
    · rw [hf.2 j e1] at hj
      rw [hg.2 j e1] at hcj
      obtain ⟨e',m,r⟩:=h.opn j c hj hcj
      exact ⟨e',hh.mem_iff.2 (List.mem_cons_of_mem _ m),r⟩
  · intro j c hcj
    by_cases e1:j=i
    · subst e1
      rw [hg.1] at hcj
      obtain rfl:=Option.some.inj hcj
      omega
    · rw [hg.2 j e1] at hcj;exact h.bound j c hcj
  · intro j s' hj hs'
    obtain ⟨hne,hj⟩:=hfin' j hj
    rw [hL.2 j hne] at hs'
    exact h.nogoal j s' hj hs'
  · intro j s' q' hj hs' hq hD
    obtain ⟨hne,hj⟩:=hfin' j hj
    rw [hL.2 j hne] at hs'
    obtain ⟨k,o',i',c,c',a1,a2,a3,a4,a5,a6⟩:=h.rel j s' q' hj hs' hq hD
    by_cases e1:i'=i
    · subst e1
      rcases hi with hn|⟨hn1,_,hn⟩
      · rw [hn] at a3;cases a3
      · rw [hn1] at a3
        have:=hn c' a5
        exact ⟨k,o',i',c,x,a1,a2,by rw [hL.1];exact a3,by rw [hg.2 j hne];exact a4,hg.1,by omega⟩
    · exact ⟨k,o',i',c,c',a1,a2,by rw [hL.2 i' e1];exact a3,by rw [hg.2 j hne];exact a4,by rw [hg.2 i' e1];exact a5,a6⟩
  · intro j s' hs'
    by_cases e1:j=i
    · subst e1
      rw [hL.1] at hs'
      obtain rfl:=Option.some.inj hs'
      rw [← hs]
      exact (h.rch p sp hsp).step ho hpre
    · rw [hL.2 j e1] at hs';exact h.rch j s' hs'
  · intro hE
    rw [hf.2 0 h0];exact h.first hE
theorem SrI.drop (h:SrI t sel D L lk g fn hp ord E) {e:QEn} (hh:hp.Perm (e :: hp')) {i:Nat} (hi:e.item=(i:Int)) (hd:fn[i]?=some true∨g[i]?≠some e.key):SrI t sel D L lk g fn hp' ord E :=
  { h with
    lower:=fun j c hj hc e' he'=>h.lower j c hj hc e' (hh.mem_iff.2 (List.mem_cons_of_mem _ he'))
    ent:=fun e' he'=>h.ent e' (hh.mem_iff.2 (List.mem_cons_of_mem _ he'))
    opn := fun j c hj hc=>by
      obtain ⟨e',m,k1,k2⟩:=h.opn j c hj hc
      rcases List.mem_cons.1 (hh.mem_iff.1 m) with rfl|hm
      · exfalso
        have e1:i=j:=by omega
        subst e1
        rcases hd with hd|hd
        · rw [hj] at hd;cases hd
        · exact hd (by rw [k1];exact hc)
      · exact ⟨e',hm,k1,k2⟩ }
theorem SrI.mark (h:SrI t sel (fun _ _=>True) L lk g fn hp ord E) {e:QEn} (hh:hp.Perm (e :: hp')) (hmin:∀ x∈hp,nb x e) {i:Nat} {s:List Int} (hi:e.item=(i:Int)) (hf:fn[i]?=some false) (hc:g[i]?=some e.key) (hs:L[i]?=some s) (hg:holdsB t.goal s=false) :
    SrI t sel (fun j _=>j≠i) L lk g (fn.set i true) hp' (fun j=>if j=i then E else ord j) (E + 1):=by
  have hil:=AJ hf
  have hset:∀ j:Nat,(fn.set i true)[j]?=some true→j=i∨(j≠i∧fn[j]?=some true):=fun j hj=>by
    by_cases e1:j=i
    · exact .inl e1
    · rw [List.getElem?_set_ne (by omega)] at hj;exact .inr ⟨e1,hj⟩
  have hkeep:∀ j:Nat,fn[j]?=some true→j≠i∧(fn.set i true)[j]?=some true:=fun j hj=>by
    have hne:j≠i:=fun e1=>by subst e1;rw [hf] at hj;cases hj
    exact ⟨hne,by rw [List.getElem?_set_ne (by omega)];exact hj⟩
  refine ⟨h.root,h.root0,h.lenk,h.leng,by simp [h.lenf],?_,?_,?_,?_,?_,?_,?_,?_,by rw [Kw hf,h.num],h.rch,?_⟩
  · intro j s' k c hs' hk' hc'
    rcases h.link j s' k c hs' hk' hc' with hh|⟨p',q',o',sp',c',a1,a2,a3,a4,a5,a6,a7,a8,a9,a10⟩
    · exact .inl hh
    · obtain ⟨hne,hp2⟩:=hkeep p' a5
      refine .inr ⟨p',q',o',sp',c',a1,a2,a3,a4,hp2,a6,a7,a8,a9,fun hj=>?_⟩
      rw [if_neg hne]
      rcases hset j hj with rfl|⟨hne2,hj2⟩
      · rw [if_pos rfl];exact h.ordl p' a5
      · rw [if_neg hne2];exact a10 hj2
  · intro j hj
    rcases hset j hj with rfl|⟨hne2,hj2⟩
    · rw [if_pos rfl];omega
    · rw [if_neg hne2];have:=h.ordl j hj2;omega
  · intro j c hj hcj e' he'
    have hm:e'∈hp:=hh.mem_iff.2 (List.mem_cons_of_mem _ he')
    rcases hset j hj with rfl|⟨_,hj2⟩
    · rw [hc] at hcj
      obtain rfl:=Option.some.inj hcj
      exact JG (hmin e' hm)
    · exact h.lower j c hj2 hcj e' hm
  · exact fun e' he'=>h.ent e' (hh.mem_iff.2 (List.mem_cons_of_mem _ he'))
  · intro j c hj hcj
    have hne:j≠i:=fun e1=>by subst e1;rw [List.getElem?_set_self hil] at hj;cases hj
    rw [List.getElem?_set_ne (by omega)] at hj
    obtain ⟨e',m,k1,k2⟩:=h.opn j c hj hcj
    rcases List.mem_cons.1 (hh.mem_iff.1 m) with rfl|hm
    · omega
    · exact ⟨e',hm,k1,k2⟩
  · intro j c hcj
    have:=h.bound j c hcj
    omega
  · intro j s' hj hs'
    rcases hset j hj with rfl|⟨_,hj2⟩
    · rw [hs] at hs';obtain rfl:=Option.some.inj hs';exact hg
    · exact h.nogoal j s' hj2 hs'
  · intro j s' q hj hs' hq hD
    rcases hset j hj with rfl|⟨_,hj2⟩
    · exact absurd rfl hD
    · exact h.rel j s' q hj2 hs' hq trivial
  · intro _
    by_cases h0:i=0
    · subst h0;exact List.getElem?_set_self hil
    · have hE:0 < E:=by
        obtain ⟨k,hk⟩:=AH (l:=lk) (k:=i) (by rw [h.lenk,← h.lenf];exact hil)
        rcases h.link i s k _ hs hk hc with ⟨hh,_⟩|⟨p',_,_,_,_,_,_,_,_,a5,_⟩
        · exact absurd hh h0
        · rw [← h.num];exact Kx a5
      exact (hkeep 0 (h.first hE)).2
theorem SrI.front (h:SrI t sel (fun _ _=>True) L lk g fn hp ord E) (hok:TaskOk t) {s:List Int} {C:Int} (hw:WalkS t sel s C):∀ (i:Nat) c,L[i]?=some s→g[i]?=some c→∃ e∈hp,e.key≤c + C:=by
  induction hw with
  | @goal s hg =>
    intro i c hi hc
    obtain ⟨b,hb⟩:=AH (l:=fn) (k:=i) (by rw [h.lenf];exact AJ hi)
    cases b with
    | false=>obtain ⟨e,m,k1,_⟩:=h.opn i c hb hc;exact ⟨e,m,by omega⟩
    | true=>have:=h.nogoal i s hb hi;rw [hg] at this;cases this
  | @step s k o C ho hk hw ih =>
    intro i c hi hc
    have h1:=Lu hok hw
    have h2:=(hok.2.2.2.2.2 k o ho).1
    obtain ⟨b,hb⟩:=AH (l:=fn) (k:=i) (by rw [h.lenf];exact AJ hi)
    cases b with
    | false=>obtain ⟨e,m,k1,_⟩:=h.opn i c hb hc;exact ⟨e,m,by omega⟩
    | true =>
      obtain ⟨k',o',i',c0,c',a1,a2,a3,a4,a5,a6⟩:=h.rel i s _ hb hi hk trivial
      have e1:k=k':=by omega
      subst e1
      rw [ho] at a2
      obtain rfl:=Option.some.inj a2
      rw [hc] at a4
      obtain rfl:=Option.some.inj a4
      obtain ⟨e,m,k1⟩:=ih i' c' a3 a5
      exact ⟨e,m,by omega⟩
theorem SrI.pathF (h:SrI t sel D L lk g fn hp ord E):∀ (n i:Nat) s c,ord i < n→fn[i]?=some true→L[i]?=some s→g[i]?=some c→∃ p,PathL lk i p∧PlanR t t.init p s c∧p.length≤ord i:=by
  intro n
  induction n with
  | zero=>intro i s c hn;omega
  | succ n ih =>
    intro i s c hn hf hi hc
    obtain ⟨k,hk⟩:=AH (l:=lk) (k:=i) (by rw [h.lenk];exact AJ hi)
    rcases h.link i s k c hi hk hc with ⟨rfl,h1,rfl⟩|⟨p',q',o',sp',c',a1,a2,a3,a4,a5,a6,a7,a8,a9,a10⟩
    · rw [h.root] at hi
      obtain rfl:=Option.some.inj hi
      exact ⟨[],.root hk (by omega),.nil,by simp⟩
    · have ho:=a10 hf
      obtain ⟨p,b1,b2,b3⟩:=ih p' sp' c' (by omega) a5 a4 a8
      refine ⟨p ++ [k.op],.step hk a1 b1,?_,by simp;omega⟩
      rw [a2,a9,← a7]
      exact b2.snoc a3 a6
theorem SrI.path (h:SrI t sel D L lk g fn hp ord E) {i:Nat} {s:List Int} {c:Int} (hi:L[i]?=some s) (hc:g[i]?=some c):∃ p,PathL lk i p∧PlanR t t.init p s c∧p.length≤E:=by
  obtain ⟨k,hk⟩:=AH (l:=lk) (k:=i) (by rw [h.lenk];exact AJ hi)
  rcases h.link i s k c hi hk hc with ⟨rfl,h1,rfl⟩|⟨p',q',o',sp',c',a1,a2,a3,a4,a5,a6,a7,a8,a9,a10⟩
  · rw [h.root] at hi
    obtain rfl:=Option.some.inj hi
    exact ⟨[],.root hk (by omega),.nil,by simp⟩
  · have ho:=h.ordl p' a5
    obtain ⟨p,b1,b2,b3⟩:=h.pathF (ord p' + 1) p' sp' c' (by omega) a5 a4 a8
    refine ⟨p ++ [k.op],.step hk a1 b1,?_,by simp;omega⟩
    rw [a2,a9,← a7]
    exact b2.snoc a3 a6
theorem SrI.more (h:SrI t sel D L lk g fn hp ord E) {D':Nat→Int→Prop} {j₀:Nat} {q₀:Int} (hD:∀ j q,D' j q→D j q∨(j=j₀∧q=q₀)) {s:List Int} (hs:L[j₀]?=some s) {k:Nat} {o:Opr} {i:Nat} {c c':Int} (h1:q₀=(k:Int)) (h2:t.ops[k]?=some o) (h3:L[i]?=some (succ o s)) (h4:g[j₀]?=some c) (h5:g[i]?=some c') (h6:c'≤c + o.cost):SrI t sel D' L lk g fn hp ord E :=
  { h with
    rel := fun j s' q hj hs' hq hd=>by
      rcases hD j q hd with hd|⟨rfl,rfl⟩
      · exact h.rel j s' q hj hs' hq hd
      · rw [hs] at hs'
        obtain rfl:=Option.some.inj hs'
        exact ⟨k,o,i,c,c',h1,h2,h3,h4,h5,h6⟩ }
end
end
section
open Go Go.RowKit
attribute [local irreducible] ewp owp hwp hwq hws Ev Evg Fn retPost loud loudS Res1
noncomputable def DN (x0:List Int) (x1:Int):Option Int :=
  bnd (rng (ρ:=Int) (fun (k11:Nat) (a12:Int) (s9:Int)=>bnd (chkI (x1 + 1)) fun n32=>bnd (chkI (s9 * (min (max a12 0) n32))) fun n35=>if x1 < n35 then (bnd (chkI (x1 + 1)) fun n39=>some (.ret n39)) else (some (.next n35))) x0 0 1) fun res7=>fin res7 fun (s46:Int)=>some s46
theorem Kc {w:World} {A:Nat→Prop} (hA:∀ k,A k→k < w.heap.size) {vx0:Value} {x0:List Int} (hx0:Vb w A vx0 x0) {x1:Int} (rx1:inI64 x1) {r:Int} (hm:DN x0 x1=some r) :
    Fn Try.prog 31 [vx0,(.int .i64 x1)] w fun v w'=>Ext w w'∧Vb w' (upA A w w') v r:=by
 obtain ⟨O,hB,hA0⟩:=enter hA
 replace hx0:=hx0.mono hA0
 obtain ⟨A3,c4,rfl⟩:=hx0.form
 refine AL Try.func31 rfl Try.ntmps31 rfl ?_
 unfold DN at hm
 refine Ah (Ae (o_as rfl rfl (o_z ?_)))
 refine Ah (Ae (o_as rfl rfl (o_z ?_)))
 refine Ah (Ah (Ae (o_mv rfl rfl (o_ln rfl rfl ?_))))
 have l6:x0.length≤9223372036854775807:=Nat.le_trans hx0.len.2.1 hx0.len.2.2
 have r5:inI64 (x0.length:Int):=rngNat l6
 refine o_mv rfl rfl (o_z ?_)
 obtain ⟨res7,hL8,hm⟩:=bs hm
 refine AM (aft res7 (fun (s9:Int) (x10:Unit)=>[(5,(.int .i64 s9))]) (fun s9 x10 w'=>∃ O':Lab,Bs w A w' O'∧inI64 s9)) ?_ ?_
 ·
  refine Al (BF (σ:=Int) (X:=Unit) (x0.length) hL8 rfl l6 (fun (s9:Int) (x10:Unit)=>[(1,(.int .i64 x1)),(5,(.int .i64 s9)),(8,(.slice A3 x0.length c4))]) _ (fun s9 x10 w'=>∃ O':Lab,Bs w A w' O'∧Vb w' (Fr 0 w' O') (.slice A3 x0.length c4) x0∧inI64 s9) _ () ⟨O,hB,hx0,(show inI64 (1) from by decide)⟩ ⟨rfl,rfl,rfl,rfl,rfl,trivial⟩ (fun _ _=>⟨rfl,rfl⟩) (fun _ _=>⟨rfl,trivial⟩) (fun _ _ _ ⟨O',hB,hx0,r23⟩=>⟨O',hB,r23⟩) ⟨rfl,rfl,rfl⟩ ⟨rfl,rfl⟩ ?_)
  rintro k11 a12 s9 x10 w13 cc15 hx16 ⟨O14,hB,hx0,r23⟩ hf17 hret18 hbrk19
  have rk11:inI64 (k11:Int):=rngK hx16 l6
  refine Ah (Ae ?_)
  obtain ⟨b24,o25,ce26,hA27,hl28,hd29,rfl,r31⟩:=hx0.elem' hx16
  refine o_iaE (hA:=hA27) (hj:=rfl) (hlt:=hl28) rfl rfl rfl ?_
  refine o_ld (hc:=cat0 hd29) rfl rfl ?_
  refine o_as rfl rfl (o_z ?_)
  refine Ah (Ae (o_mv rfl rfl (o_mv rfl rfl (o_max rfl rfl rfl ?_))))
  refine o_mv rfl rfl ?_
  obtain ⟨n32,e33,hf17⟩:=bs hf17
  have r34:=(Ba e33)
  refine o_adE (he:=e33) rfl rfl rfl ?_
  refine o_min rfl rfl rfl ?_
  obtain ⟨n35,e36,hf17⟩:=bs hf17
  have r37:=(Ba e36)
  refine o_mlE (he:=e36) rfl rfl rfl ?_
  refine o_as rfl rfl (o_z ?_)
  refine Ah (Ae (o_mv rfl rfl (o_mv rfl rfl (o_gtS rfl rfl rfl (fun c38=>?_) fun c38=>?_))))
  ·
   replace hf17:=ip hf17 c38
   refine o_z ?_
   refine Ar rfl (Ah (Ae (o_mv rfl rfl ?_)))
   obtain ⟨n39,e40,hf17⟩:=bs hf17
   have r41:=(Ba e40)
   refine o_adE (he:=e40) rfl rfl rfl ?_
   refine o_as rfl rfl (o_z ?_)
   refine Au ?_
   obtain rfl:=sm hf17
   obtain rfl:=hret18 _ rfl
   obtain rfl:=sm (By hm)
   exact ret1v rfl (AG rfl) ⟨hB.ext,(vInt r41)⟩
  ·
   replace hf17:=im hf17 c38
   refine o_z ?_
   refine Aj rfl (Am ?_)
   obtain rfl:=sm hf17
   refine (?_:Exists _)
   exact ⟨_,(),rfl,⟨rfl,rfl,rfl,rfl,rfl,trivial⟩,_,hB,hx0,r37⟩
 rintro l42 w43 ⟨s46,x47,rfl,hs45,O44,hB,r23⟩
 replace hm:=AW hm
 refine AO _ hs45 ?_
 refine Ah (Ae (o_mv rfl rfl (o_as rfl rfl (o_z ?_))))
 refine Au ?_
 obtain rfl:=sm hm
 exact ret1v rfl (AG rfl) ⟨hB.ext,(vInt r23)⟩
noncomputable def Er (x0:Tsk):Option Int :=
  bnd (Dc x0) fun q24=>bnd (Cx x0.vars x0.init) fun q33=>bnd (atI q24 q33) fun a41=>some a41
theorem Kd {w:World} {A:Nat→Prop} (hA:∀ k,A k→k < w.heap.size) {vx0:Value} {x0:Tsk} (hx0:Vb w A vx0 x0) {r:Int} (hm:Er x0=some r) :
    Fn Try.prog 22 [vx0] w fun v w'=>Ext w w'∧Vb w' (upA A w w') v r:=by
 obtain ⟨O,hB,hA0⟩:=enter hA
 replace hx0:=hx0.mono hA0
 obtain ⟨cs2,rfl,v3,v4,v5,v6,rfl,h7,h10,h13,h16⟩:=hx0
 obtain ⟨A8,c9,rfl⟩:=h7.form
 obtain ⟨A11,c12,rfl⟩:=h10.form
 obtain ⟨A14,c15,rfl⟩:=h13.form
 obtain ⟨A17,c18,rfl⟩:=h16.form
 refine AL Try.func22 rfl Try.ntmps22 rfl ?_
 unfold Er at hm
 refine Ah (Ae (l_box 2 O rfl rfl fun g19 w20 O21 S22 h23=>?_))
 replace h23:Lc 2 w20 O21 g19 26 [(.slice A8 x0.vars.length c9),(.slice A11 x0.init.length c12),(.slice A14 x0.goal.length c15),(.slice A17 x0.ops.length c18)]:=h23
 refine o_as rfl rfl (o_z ?_)
 refine Ah (BG [(1,[]),(6,[])] O21 ?_)
 refine x_pre (fuel:=5) [] [(0,true),(2,true),(3,true),(4,true),(5,true)] (by kernel_rfl) rfl ?_
 refine h_laB (hl:=rfl) (hb:=fun w' ⟨O',hq⟩=>((h23.st hq (by decide)).1).cellsAt) rfl rfl rfl ?_
 refine h_fa rfl rfl rfl (h_ldC (hc:=fun w' ⟨O',hq⟩=>Blk.cell (i:=0) ((h23.st hq (by decide)).1) rfl) rfl rfl rfl ?_)
 refine h_fa rfl rfl rfl (h_ldC (hc:=fun w' ⟨O',hq⟩=>Blk.cell (i:=1) ((h23.st hq (by decide)).1) rfl) rfl rfl rfl ?_)
 refine AK ?_
 refine x_one (i:=1) (by kernel_rfl) rfl ?_
 obtain ⟨q24,e25,hm⟩:=bs hm
 replace h7:=h7.st S22
 replace h10:=h10.st S22
 replace h13:=h13.st S22
 replace h16:=h16.st S22
 refine Cf (O:=O21) (R:=fun w' F v=>Vb w' F v q24) (HZ Fr.lt (Vb.ofAgg (cs:=[(.slice A8 x0.vars.length c9),(.slice A11 x0.init.length c12),(.slice A14 x0.goal.length c15),(.slice A17 x0.ops.length c18)]) (x:=x0) rfl ⟨_,_,_,_,rfl,h7,h10,h13,h16⟩) e25) rfl rfl fun v30 w26 O27 S28 h29=>?_
 obtain ⟨A31,c32,rfl⟩:=h29.form
 have hZ:=S28.lst [] (fun _ h=>h.elim)
 refine x_go [(6,[])] hZ (by kernel_rfl) ?_
 refine x_one (i:=6) (by kernel_rfl) rfl ?_
 obtain ⟨q33,e34,hm⟩:=bs hm
 replace h7:=h7.st S28
 replace h10:=h10.st S28
 refine BK (O:=O27) (A:=All w26) (R:=fun w' F v=>Vb w' F v q33) (FX (fun _ h=>h) (Vb.mono (F:=Fr 0 w26 O27) h7 Fr.lt) (Vb.mono (F:=Fr 0 w26 O27) h10 Fr.lt) e34) rfl rfl fun v39 w35 O36 S37 h38=>?_
 obtain ⟨rfl,r40⟩:=h38.int
 have hZ:=S37.lst [] (fun _ h=>h.elim)
 refine x_go [] hZ (by kernel_rfl) ?_
 refine x_pre (fuel:=0) [] [(7,true),(8,true),(9,true)] (by kernel_rfl) rfl ?_
 obtain ⟨a41,e42,hm⟩:=bs hm
 obtain ⟨p44,x43⟩:=AN e42
 replace h29:=h29.st S37
 obtain ⟨b45,o46,ce47,hA48,hF51,hl49,hd50,rfl,r52⟩:=h29.elem x43
 refine h_iaE (hA:=hA48) (hj:=(Int.toNat_of_nonneg p44).symm) (hlt:=hl49) rfl rfl rfl rfl ?_
 refine h_ldC (hc:=fun w' ⟨O',hq⟩=>cat0 (Bj (hq.agree (i:=0) (by decide)) hF51 hd50)) rfl rfl rfl ?_
 refine h_as rfl rfl rfl (AK ?_)
 refine x_nil (by kernel_rfl) ?_
 refine Au ?_
 obtain rfl:=sm hm
 replace hB:=((hB.st S22).st S28).st S37
 exact ret1v rfl (AG rfl) ⟨hB.ext,(vInt r52)⟩
noncomputable def Cn (x0:Tsk) (x1:Rsl) (x2:Int):Option Bool :=
  if 1125899906842624≤x2 then (bnd (if x1.verdict=2 then (if (x1.plan.length:Int)=0 then (if x1.cost=0 then (some true) else (some false)) else (some false)) else (some false):Option Bool) fun y40=>some y40) else (bnd (Dn x0 x0.init x1.plan) fun q53=>bnd (if x1.verdict=1 then (if q53.2=true then (if q53.1=x2 then (if x1.cost=x2 then (some true) else (some false)) else (some false)) else (some false)) else (some false):Option Bool) fun y65=>some y65)
theorem GU {w:World} {A:Nat→Prop} (hA:∀ k,A k→k < w.heap.size) {vx0:Value} {x0:Tsk} (hx0:Vb w A vx0 x0) {vx1:Value} {x1:Rsl} (hx1:Vb w A vx1 x1) {x2:Int} (rx2:inI64 x2) {r:Bool} (hm:Cn x0 x1 x2=some r) :
    Fn Try.prog 21 [vx0,vx1,(.int .i64 x2)] w fun v w'=>Ext w w'∧Vb w' (upA A w w') v r:=by
 obtain ⟨O,hB,hA0⟩:=enter hA
 replace hx0:=hx0.mono hA0
 obtain ⟨cs4,rfl,v5,v6,v7,v8,rfl,h9,h12,h15,h18⟩:=hx0
 obtain ⟨A10,c11,rfl⟩:=h9.form
 obtain ⟨A13,c14,rfl⟩:=h12.form
 obtain ⟨A16,c17,rfl⟩:=h15.form
 obtain ⟨A19,c20,rfl⟩:=h18.form
 replace hx1:=hx1.mono hA0
 obtain ⟨cs21,rfl,v22,rfl,h23,r26,r27,r28⟩:=hx1
 obtain ⟨A24,c25,rfl⟩:=h23.form
 refine AL Try.func21 rfl Try.ntmps21 rfl ?_
 unfold Cn at hm
 refine Ah (Ae (l_box 2 O rfl rfl fun g29 w30 O31 S32 h33=>?_))
 replace h33:Lc 2 w30 O31 g29 26 [(.slice A10 x0.vars.length c11),(.slice A13 x0.init.length c14),(.slice A16 x0.goal.length c17),(.slice A19 x0.ops.length c20)]:=h33
 refine l_box 3 O31 rfl rfl fun g34 w35 O36 S37 h38=>?_
 replace h38:Lc 3 w35 O36 g34 30 [(.int .i64 x1.verdict),(.slice A24 x1.plan.length c25),(.int .i64 x1.cost),(.int .i64 x1.expanded)]:=h38
 refine o_as rfl rfl (o_z ?_)
 refine Ah (Ah (Ae (o_mv rfl rfl (o_geS rfl rfl rfl (fun c39=>?_) fun c39=>?_))))
 ·
  replace hm:=ip hm c39
  refine o_z ?_
  refine Ar rfl (Ah ?_)
  obtain ⟨y40,hy41,hm⟩:=bs hm
  refine AM (fun l' w'=>∃ (x43:Unit) (O':Lab),subs l' [(6,(.bool y40))]∧Bs w A w' O') ?_ ?_
  ·
   refine Ae (o_fa rfl rfl (o_ld (hc:=Blk.cell (i:=0) (h38.1) rfl) rfl rfl ?_))
   refine o_eeS rfl rfl rfl (fun c44=>?_) fun c44=>?_
   ·
    replace hy41:=ip hy41 c44
    refine o_mv rfl rfl (AE rfl rfl (o_fa rfl rfl (AE rfl rfl (o_ld (hc:=Blk.cell (i:=1) (h38.1) rfl) rfl rfl ?_))))
    refine AE rfl rfl (o_ln rfl rfl ?_)
    replace h23:=(h23.st S32).st S37
    have l46:x1.plan.length≤9223372036854775807:=Nat.le_trans h23.len.2.1 h23.len.2.2
    have r45:inI64 (x1.plan.length:Int):=rngNat l46
    refine AE rfl rfl (o_eeS rfl rfl rfl (fun c47=>?_) fun c47=>?_)
    ·
     replace hy41:=ip hy41 c47
     refine o_pt rfl rfl rfl (o_mv rfl rfl (AE rfl rfl (o_fa rfl rfl (AE rfl rfl (o_ld (hc:=Blk.cell (i:=2) (h38.1) rfl) rfl rfl ?_)))))
     refine AE rfl rfl (o_eeS rfl rfl rfl (fun c48=>?_) fun c48=>?_)
     ·
      replace hy41:=ip hy41 c48
      refine o_pt rfl rfl rfl (o_as rfl rfl (o_z ?_))
      obtain rfl:=sm hy41
      replace hB:=(hB.st S32).st S37
      exact ⟨(),_,⟨rfl,trivial⟩,hB⟩
     ·
      replace hy41:=im hy41 c48
      refine o_pt rfl rfl rfl (o_as rfl rfl (o_z ?_))
      obtain rfl:=sm hy41
      replace hB:=(hB.st S32).st S37
      exact ⟨(),_,⟨rfl,trivial⟩,hB⟩
    ·
     replace hy41:=im hy41 c47
     refine o_pt rfl rfl rfl (o_mv rfl rfl (AD rfl rfl rfl rfl (AD rfl rfl rfl rfl (AD rfl rfl rfl rfl (o_pf rfl rfl rfl (o_as rfl rfl (o_z ?_)))))))
     obtain rfl:=sm hy41
     replace hB:=(hB.st S32).st S37
     exact ⟨(),_,⟨rfl,trivial⟩,hB⟩
   ·
    replace hy41:=im hy41 c44
    refine o_mv rfl rfl (AD rfl rfl rfl rfl (AD rfl rfl rfl rfl (AD rfl rfl rfl rfl (AD rfl rfl rfl rfl (o_pf rfl rfl rfl (o_mv rfl rfl (AD rfl rfl rfl rfl (AD rfl rfl rfl rfl (AD rfl rfl rfl rfl (o_pf rfl rfl rfl (o_as rfl rfl (o_z ?_))))))))))))
    obtain rfl:=sm hy41
    replace hB:=(hB.st S32).st S37
    exact ⟨(),_,⟨rfl,trivial⟩,hB⟩
  replace hB:=(hB.st S32).st S37
  rintro l49 w50 ⟨x43,O51,hs52,hB⟩
  refine AO _ hs52 ?_
  refine Au ?_
  obtain rfl:=sm hm
  exact ret1v rfl (AG rfl) ⟨hB.ext,vBool⟩
 ·
  replace hm:=im hm c39
  refine o_z ?_
  refine Aj rfl (Am (Ah (Ae ?_)))
  replace h33:=h33.st S37
  refine o_la (hl:=rfl) (hc:=(h33.1).cellsAt) rfl rfl ?_
  refine o_fa rfl rfl (o_ld (hc:=Blk.cell (i:=1) (h33.1) rfl) rfl rfl ?_)
  refine o_fa rfl rfl (o_ld (hc:=Blk.cell (i:=1) (h38.1) rfl) rfl rfl ?_)
  obtain ⟨q53,e54,hm⟩:=bs hm
  replace h9:=(h9.st S32).st S37
  replace h12:=(h12.st S32).st S37
  replace h15:=(h15.st S32).st S37
  replace h18:=(h18.st S32).st S37
  replace h23:=(h23.st S32).st S37
  refine BK (O:=O36) (A:=All w35) (R:=fun w' F v=>T2 w' F v q53) (JZ (fun _ h=>h) (Vb.mono (F:=Fr 0 w35 O36) (Vb.ofAgg (cs:=[(.slice A10 x0.vars.length c11),(.slice A13 x0.init.length c14),(.slice A16 x0.goal.length c17),(.slice A19 x0.ops.length c20)]) (x:=x0) rfl ⟨_,_,_,_,rfl,h9,h12,h15,h18⟩) Fr.lt) (Vb.mono (F:=Fr 0 w35 O36) h12 Fr.lt) (Vb.mono (F:=Fr 0 w35 O36) h23 Fr.lt) e54) rfl rfl fun v59 w55 O56 S57 h58=>?_
  obtain ⟨v60,v61,rfl,h62,h63⟩:=h58
  obtain ⟨rfl,r64⟩:=h62.int
  obtain rfl:=h63.bool
  refine o_mv rfl rfl (o_ex rfl rfl rfl (o_ex rfl rfl rfl (o_as rfl rfl (o_as rfl rfl (o_z ?_)))))
  refine Ah ?_
  obtain ⟨y65,hy66,hm⟩:=bs hm
  refine AM (fun l' w'=>∃ (x68:Unit) (O':Lab),subs l' [(6,(.bool y65))]∧Bs w A w' O') ?_ ?_
  ·
   refine Ae (o_fa rfl rfl ?_)
   replace h38:=h38.st S57
   refine o_ld (hc:=Blk.cell (i:=0) (h38.1) rfl) rfl rfl ?_
   refine o_eeS rfl rfl rfl (fun c69=>?_) fun c69=>?_
   ·
    replace hy66:=ip hy66 c69
    refine o_mv rfl rfl (AE rfl rfl (o_mv rfl rfl (o_pt rfl rfl rfl (o_mv rfl rfl ?_))))
    rcases Bool.eq_false_or_eq_true q53.2 with c70|c70
    ·
     try simp only [c70]
     replace hy66:=ip hy66 c70
     refine AE rfl rfl (o_mv rfl rfl (AE rfl rfl (o_mv rfl rfl (AE rfl rfl (o_eeS rfl rfl rfl (fun c71=>?_) fun c71=>?_)))))
     ·
      replace hy66:=ip hy66 c71
      refine o_pt rfl rfl rfl (o_mv rfl rfl (AE rfl rfl (o_fa rfl rfl (AE rfl rfl (o_ld (hc:=Blk.cell (i:=2) (h38.1) rfl) rfl rfl ?_)))))
      refine AE rfl rfl (o_mv rfl rfl (AE rfl rfl (o_eeS rfl rfl rfl (fun c72=>?_) fun c72=>?_)))
      ·
       replace hy66:=ip hy66 c72
       refine o_pt rfl rfl rfl (o_as rfl rfl (o_z ?_))
       obtain rfl:=sm hy66
       replace hB:=((hB.st S32).st S37).st S57
       exact ⟨(),_,⟨rfl,trivial⟩,hB⟩
      ·
       replace hy66:=im hy66 c72
       refine o_pt rfl rfl rfl (o_as rfl rfl (o_z ?_))
       obtain rfl:=sm hy66
       replace hB:=((hB.st S32).st S37).st S57
       exact ⟨(),_,⟨rfl,trivial⟩,hB⟩
     ·
      replace hy66:=im hy66 c71
      refine o_pt rfl rfl rfl (o_mv rfl rfl (AD rfl rfl rfl rfl (AD rfl rfl rfl rfl (AD rfl rfl rfl rfl (AD rfl rfl rfl rfl (o_pf rfl rfl rfl (o_as rfl rfl (o_z ?_))))))))
      obtain rfl:=sm hy66
      replace hB:=((hB.st S32).st S37).st S57
      exact ⟨(),_,⟨rfl,trivial⟩,hB⟩
    ·
     try simp only [c70]
     replace hy66:=im' hy66 c70
     refine AD rfl rfl rfl rfl (AD rfl rfl rfl rfl (AD rfl rfl rfl rfl (o_pf rfl rfl rfl (o_mv rfl rfl (AD rfl rfl rfl rfl (AD rfl rfl rfl rfl (AD rfl rfl rfl rfl (AD rfl rfl rfl rfl (o_pf rfl rfl rfl (o_as rfl rfl (o_z ?_)))))))))))
     obtain rfl:=sm hy66
     replace hB:=((hB.st S32).st S37).st S57
     exact ⟨(),_,⟨rfl,trivial⟩,hB⟩
   ·
    replace hy66:=im hy66 c69
    refine o_mv rfl rfl (AD rfl rfl rfl rfl (o_pf rfl rfl rfl (o_mv rfl rfl (AD rfl rfl rfl rfl (AD rfl rfl rfl rfl (AD rfl rfl rfl rfl (o_pf rfl rfl rfl (o_mv rfl rfl (AD rfl rfl rfl rfl (AD rfl rfl rfl rfl (AD rfl rfl rfl rfl (AD rfl rfl rfl rfl (o_pf rfl rfl rfl (o_as rfl rfl ?_))))))))))))))
    refine o_z ?_
    obtain rfl:=sm hy66
    replace hB:=((hB.st S32).st S37).st S57
    exact ⟨(),_,⟨rfl,trivial⟩,hB⟩
  replace hB:=((hB.st S32).st S37).st S57
  rintro l73 w74 ⟨x68,O75,hs76,hB⟩
  refine AO _ hs76 ?_
  refine Au ?_
  obtain rfl:=sm hm
  exact ret1v rfl (AG rfl) ⟨hB.ext,vBool⟩
end
end Go.Proofs.Ythomfnkaicjmbaa

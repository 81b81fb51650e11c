/- Own text: what the proof of repairFree_holds uses, part 4: rules, models and their proofs, plain laws. -/
import Derived.Test.YtafdmfhdjfkooaaGreatZFC
set_option linter.unusedVariables false
set_option linter.unusedSimpArgs false
namespace Go.Proofs.YtafdmfhdjfkooaaGreat
open Go Go.RowKit
section
open Go Go.RowKit
attribute [local irreducible] ewp owp hwp hwq hws Ev Evg Fn retPost loud loudS Res1
attribute [local irreducible] hwx loudX
structure Itm where
  cost:Int
  order:Int
  id:Int
instance:Rp Itm where
  isAgg:=true
  size:=3
  R w F cs x:=cs=[.int .i64 x.cost,.int .i64 x.order,.int .i64 x.id]∧inI64 x.cost∧inI64 x.order∧inI64 x.id
  len:=by rintro w F cs x ⟨rfl,h0,h1,h2⟩;rfl
  one:=by rintro w F cs x ⟨rfl,h0,h1,h2⟩ u hu;simp at hu;rcases hu with rfl|rfl|rfl<;>first|rfl|exact Vb.one rfl (by assumption)
  agree:=by rintro w w' F cs x ⟨rfl,h0,h1,h2⟩ ha;exact ⟨rfl,h0,h1,h2⟩
  mono:=by rintro w F G cs x ⟨rfl,h0,h1,h2⟩ ha;exact ⟨rfl,h0,h1,h2⟩
instance : TMth Tryz.prog 95 "Len" 56 false := ⟨by kernel_rfl⟩
instance : TMth Tryz.prog 95 "Less" 142 false := ⟨by kernel_rfl⟩
instance : TMth Tryz.prog 95 "Pop" 143 true := ⟨by kernel_rfl⟩
instance : TMth Tryz.prog 95 "Push" 144 true := ⟨by kernel_rfl⟩
instance : TMth Tryz.prog 95 "Swap" 145 false := ⟨by kernel_rfl⟩
noncomputable def Bg (x0:List Itm):Option Int :=
  some (x0.length:Int)
theorem DR {w:World} {A:Nat→Prop} (hA:∀ k,A k→k < w.heap.size) {vx0:Value} {x0:List Itm} (hx0:Vb w A vx0 x0) {r:Int} (hm:Bg x0=some r) :
    Fn Tryz.prog 56 [vx0] w fun v w'=>Ext w w'∧Vb w' (upA A w w') v r:=by
 obtain ⟨O,hB,hA0⟩:=enter hA
 replace hx0:=hx0.mono hA0
 obtain ⟨A2,c3,rfl⟩:=hx0.form
 refine AL Tryz.func56 rfl Tryz.ntmps56 rfl ?_
 unfold Bg at hm
 refine Ah (Ae (o_as rfl rfl (o_z ?_)))
 refine Ah (Ae (o_mv rfl rfl (o_ln rfl rfl ?_)))
 have l5:x0.length≤9223372036854775807:=Nat.le_trans hx0.len.2.1 hx0.len.2.2
 have r4:inI64 (x0.length:Int):=rngNat l5
 refine o_as rfl rfl (o_z ?_)
 refine Au ?_
 obtain rfl:=sm hm
 exact ret1v rfl (AG rfl) ⟨hB.ext,(vInt r4)⟩
noncomputable def Bi (x0:List Itm) (x1:Int) (x2:Int):Option Bool :=
  bnd (bnd (atI x0 x1) fun a10=>bnd (atI x0 x2) fun a24=>if a10.cost < a24.cost then (some true) else (bnd (atI x0 x1) fun a39=>bnd (atI x0 x2) fun a53=>if a39.cost=a53.cost then (bnd (atI x0 x1) fun a68=>bnd (atI x0 x2) fun a82=>if a68.order < a82.order then (some true) else (some false)) else (some false)):Option Bool) fun y6=>some y6
theorem DE {w:World} {A:Nat→Prop} (hA:∀ k,A k→k < w.heap.size) {vx0:Value} {x0:List Itm} (hx0:Vb w A vx0 x0) {x1:Int} (rx1:inI64 x1) {x2:Int} (rx2:inI64 x2) {r:Bool} (hm:Bi x0 x1 x2=some r) :
    Fn Tryz.prog 142 [vx0,(.int .i64 x1),(.int .i64 x2)] w fun v w'=>Ext w w'∧Vb w' (upA A w w') v r:=by
 obtain ⟨O,hB,hA0⟩:=enter hA
 replace hx0:=hx0.mono hA0
 obtain ⟨A4,c5,rfl⟩:=hx0.form
 refine AL Tryz.func142 rfl Tryz.ntmps142 rfl ?_
 unfold Bi at hm
 refine Ah (Ae (o_as rfl rfl (o_z ?_)))
 refine Ah ?_
 obtain ⟨y6,hy7,hm⟩:=bs hm
 refine AN (fun l' w'=>∃ (x9:Unit) (O':Lab),subs l' [(6,(.bool y6))]∧Bs w A w' O') ?_ ?_
 ·
  refine BV (·=w) [(0,true),(1,true),(2,true),(3,true),(4,true),(5,true),(6,true),(7,true),(8,true),(9,true),(10,true),(11,true),(12,true),(13,true),(14,true),(15,true),(16,true),(17,true),(18,true),(19,true),(20,true),(21,true),(22,true),(23,true),(24,true),(25,true),(26,true),(27,true),(28,true),(29,true),(30,true),(31,true),(32,true),(33,true),(34,true),(35,true),(36,true),(37,true)] (by kernel_rfl) rfl (by kernel_rfl) rfl ?_
  refine h_mv rfl rfl rfl (h_mv rfl rfl rfl ?_)
  obtain ⟨a10,e11,hy7⟩:=bs hy7
  obtain ⟨p13,x12⟩:=AO e11
  obtain ⟨b14,o15,ce16,hA17,hl18,hd19,rfl,r21,r22,r23⟩:=hx0.elem' x12
  refine h_iaE (hA:=hA17) (hj:=(Int.toNat_of_nonneg p13).symm) (hlt:=hl18) rfl rfl rfl rfl ?_
  refine h_fa rfl rfl rfl (h_ldA (hc:=cat0 hd19) rfl rfl rfl ?_)
  refine h_mv rfl rfl rfl (h_mv rfl rfl rfl ?_)
  obtain ⟨a24,e25,hy7⟩:=bs hy7
  obtain ⟨p27,x26⟩:=AO e25
  obtain ⟨b28,o29,ce30,hA31,hl32,hd33,rfl,r35,r36,r37⟩:=hx0.elem' x26
  refine h_iaE (hA:=hA31) (hj:=(Int.toNat_of_nonneg p27).symm) (hlt:=hl32) rfl rfl rfl rfl ?_
  refine h_fa rfl rfl rfl (h_ldA (hc:=cat0 hd33) rfl rfl rfl ?_)
  refine h_ltS rfl rfl rfl rfl (fun c38=>?_) fun c38=>?_
  ·
   replace hy7:=ip hy7 c38
   refine h_mv rfl rfl rfl (h_no rfl rfl rfl rfl rfl (h_no rfl rfl rfl rfl rfl (h_no rfl rfl rfl rfl rfl (h_no rfl rfl rfl rfl rfl (h_no rfl rfl rfl rfl rfl (h_no rfl rfl rfl rfl rfl (h_no rfl rfl rfl rfl rfl (h_no rfl rfl rfl rfl rfl (h_no rfl rfl rfl rfl rfl (h_no rfl rfl rfl rfl rfl (h_no rfl rfl rfl rfl rfl (h_no rfl rfl rfl rfl rfl (h_no rfl rfl rfl rfl rfl (h_no rfl rfl rfl rfl rfl ?_))))))))))))))
   refine h_no rfl rfl rfl rfl rfl (h_no rfl rfl rfl rfl rfl (h_no rfl rfl rfl rfl rfl (h_no rfl rfl rfl rfl rfl (h_no rfl rfl rfl rfl rfl (h_no rfl rfl rfl rfl rfl (h_no rfl rfl rfl rfl rfl (h_no rfl rfl rfl rfl rfl (h_no rfl rfl rfl rfl rfl (h_no rfl rfl rfl rfl rfl (h_pt rfl rfl rfl rfl (h_as rfl rfl rfl (h_z ?_))))))))))))
   obtain rfl:=sm hy7
   exact ⟨(),_,⟨rfl,trivial⟩,hB⟩
  ·
   replace hy7:=im hy7 c38
   refine h_mv rfl rfl rfl (hwp_o rfl (AD rfl rfl (g_mv rfl rfl (hwp_o rfl (AD rfl rfl (g_mv rfl rfl (hwp_o rfl (AD rfl rfl ?_))))))))
   obtain ⟨a39,e40,hy7⟩:=bs hy7
   obtain ⟨p42,x41⟩:=AO e40
   obtain ⟨b43,o44,ce45,hA46,hl47,hd48,rfl,r50,r51,r52⟩:=hx0.elem' x41
   refine g_iaE (hA:=hA46) (hj:=(Int.toNat_of_nonneg p42).symm) (hlt:=hl47) rfl rfl rfl ?_
   refine hwp_o rfl (AD rfl rfl (g_fa rfl rfl (hwp_o rfl (AD rfl rfl (g_ldA (hc:=cat0 hd48) rfl rfl ?_)))))
   refine hwp_o rfl (AD rfl rfl (g_mv rfl rfl (hwp_o rfl (AD rfl rfl (g_mv rfl rfl (hwp_o rfl (AD rfl rfl ?_)))))))
   obtain ⟨a53,e54,hy7⟩:=bs hy7
   obtain ⟨p56,x55⟩:=AO e54
   obtain ⟨b57,o58,ce59,hA60,hl61,hd62,rfl,r64,r65,r66⟩:=hx0.elem' x55
   refine g_iaE (hA:=hA60) (hj:=(Int.toNat_of_nonneg p56).symm) (hlt:=hl61) rfl rfl rfl ?_
   refine hwp_o rfl (AD rfl rfl (g_fa rfl rfl (hwp_o rfl (AD rfl rfl (g_ldA (hc:=cat0 hd62) rfl rfl ?_)))))
   refine hwp_o rfl (AD rfl rfl (AS (fun _ _=>FG rfl rfl) rfl (fun c67=>?_) (fun c67=>?_)))
   ·
    replace hy7:=ip hy7 c67
    refine hwp_o rfl (AD rfl rfl (g_mv rfl rfl (hwp_o rfl (AD rfl rfl (g_mv rfl rfl (hwp_o rfl (AD rfl rfl (g_mv rfl rfl (hwp_o rfl (AD rfl rfl ?_))))))))))
    obtain ⟨a68,e69,hy7⟩:=bs hy7
    obtain ⟨p71,x70⟩:=AO e69
    obtain ⟨b72,o73,ce74,hA75,hl76,hd77,rfl,r79,r80,r81⟩:=hx0.elem' x70
    refine g_iaE (hA:=hA75) (hj:=(Int.toNat_of_nonneg p71).symm) (hlt:=hl76) rfl rfl rfl ?_
    refine hwp_o rfl (AD rfl rfl (g_fa rfl rfl (hwp_o rfl (AD rfl rfl (g_ldA (hc:=cat1 hd77) rfl rfl ?_)))))
    refine hwp_o rfl (AD rfl rfl (g_mv rfl rfl (hwp_o rfl (AD rfl rfl (g_mv rfl rfl (hwp_o rfl (AD rfl rfl ?_)))))))
    obtain ⟨a82,e83,hy7⟩:=bs hy7
    obtain ⟨p85,x84⟩:=AO e83
    obtain ⟨b86,o87,ce88,hA89,hl90,hd91,rfl,r93,r94,r95⟩:=hx0.elem' x84
    refine g_iaE (hA:=hA89) (hj:=(Int.toNat_of_nonneg p85).symm) (hlt:=hl90) rfl rfl rfl ?_
    refine hwp_o rfl (AD rfl rfl (g_fa rfl rfl (hwp_o rfl (AD rfl rfl (g_ldA (hc:=cat1 hd91) rfl rfl ?_)))))
    refine hwp_o rfl (AD rfl rfl (AS (fun _ _=>Ce rfl rfl) rfl (fun c96=>?_) (fun c96=>?_)))
    ·
     replace hy7:=ip hy7 c96
     refine hwp_o rfl (AD rfl rfl (g_pt rfl rfl rfl (h_pf rfl rfl rfl rfl (h_as rfl rfl rfl (h_z ?_)))))
     obtain rfl:=sm hy7
     exact ⟨(),_,⟨rfl,trivial⟩,hB⟩
    ·
     replace hy7:=im hy7 c96
     refine hwp_o rfl (AD rfl rfl (g_pt rfl rfl rfl (h_pf rfl rfl rfl rfl (h_as rfl rfl rfl (h_z ?_)))))
     obtain rfl:=sm hy7
     exact ⟨(),_,⟨rfl,trivial⟩,hB⟩
   ·
    replace hy7:=im hy7 c67
    refine hwp_o rfl (AD rfl rfl (g_mv rfl rfl (h_no rfl rfl rfl rfl rfl (h_no rfl rfl rfl rfl rfl (h_no rfl rfl rfl rfl rfl (h_no rfl rfl rfl rfl rfl (h_no rfl rfl rfl rfl rfl (h_no rfl rfl rfl rfl rfl (h_no rfl rfl rfl rfl rfl (h_no rfl rfl rfl rfl rfl (h_no rfl rfl rfl rfl rfl (h_no rfl rfl rfl rfl rfl (h_no rfl rfl rfl rfl rfl (hwp_o rfl ?_))))))))))))))
    refine AD rfl rfl (g_pf rfl rfl rfl (h_pf rfl rfl rfl rfl (h_as rfl rfl rfl (h_z ?_))))
    obtain rfl:=sm hy7
    exact ⟨(),_,⟨rfl,trivial⟩,hB⟩
 rintro l97 w98 ⟨x9,O99,hs100,hB⟩
 refine AP _ hs100 ?_
 refine Au ?_
 obtain rfl:=sm hm
 exact ret1v rfl (AG rfl) ⟨hB.ext,vBool⟩
noncomputable def Be (x0:List Itm) (x1:Int) (x2:Int):Option (List Itm) :=
  bnd (atI x0 x2) fun a4=>bnd (atI x0 x1) fun a18=>bnd (atI x0 x1) fun a32=>bnd (atI (x0.set (x1:Int).toNat a4) x2) fun a48=>some ((x0.set (x1:Int).toNat a4).set (x2:Int).toNat a18)
theorem DF {w:World} {O:Lab} {A0:Option Addr} {m0 c0 i0:Nat} {x0:List Itm} (hx0:Rw i0 w O 97 (.slice A0 m0 c0) x0) {x1:Int} (rx1:inI64 x1) {x2:Int} (rx2:inI64 x2) {r:(List Itm)} (hm:Be x0 x1 x2=some r) :
    Fn Tryz.prog 145 [(.slice A0 m0 c0),(.int .i64 x1),(.int .i64 x2)] w fun v w'=>∃ O',St (eT i0) w O w' O'∧Rw i0 w' O' 97 (.slice A0 m0 c0) r:=by
 obtain ⟨O0,hE,hz0,hl2⟩:=ent1 (w:=w) (O:=O) hx0.2.2
 obtain rfl:m0=x0.length:=hx0.len.1
 have hx0':=Rw.leave hx0 hz0 hl2 (j:=2) (by decide)
 have hB:Bm w O0 w O0:=Bm.refl
 refine AL Tryz.func145 rfl Tryz.ntmps145 rfl ?_
 unfold Be at hm
 refine Bt [(13,[2])] O0 ?_
 refine x_pre (fuel:=5) [] [(0,true),(1,true),(4,true),(5,true),(6,true),(7,true),(8,true),(9,true),(10,true),(11,true),(12,true)] (by kernel_rfl) rfl ?_
 refine h_mv rfl rfl rfl (h_mv rfl rfl rfl (h_mv rfl rfl rfl (h_mv rfl rfl rfl ?_)))
 obtain ⟨a4,e5,hm⟩:=bs hm
 obtain ⟨p7,x6⟩:=AO e5
 obtain ⟨b8,o9,ce10,hA11,hF14,hl12,hd13,rfl,r15,r16,r17⟩:=hx0'.elemF x6
 refine h_iaE (hA:=hA11) (hj:=(Int.toNat_of_nonneg p7).symm) (hlt:=hl12) rfl rfl rfl rfl ?_
 refine h_laB (hl:=rfl) (hb:=fun w' ⟨O',hq⟩=>(Bd (hq.agree (i:=2) (by decide)) hF14 hd13)) rfl rfl rfl ?_
 refine h_mv rfl rfl rfl (h_mv rfl rfl rfl ?_)
 obtain ⟨a18,e19,hm⟩:=bs hm
 obtain ⟨p21,x20⟩:=AO e19
 obtain ⟨b22,o23,ce24,hA25,hF28,hl26,hd27,rfl,r29,r30,r31⟩:=hx0'.elemF x20
 refine h_iaE (hA:=hA25) (hj:=(Int.toNat_of_nonneg p21).symm) (hlt:=hl26) rfl rfl rfl rfl ?_
 refine h_laB (hl:=rfl) (hb:=fun w' ⟨O',hq⟩=>(Bd (hq.agree (i:=2) (by decide)) hF28 hd27)) rfl rfl rfl ?_
 obtain ⟨a32,e33,hm⟩:=bs hm
 obtain ⟨p35,x34⟩:=AO e33
 obtain ⟨b36,o37,ce38,hA39,hF42,hl40,hd41,rfl,r43,r44,r45⟩:=hx0'.elemF x34
 refine h_iaE (hA:=hA39) (hj:=(Int.toNat_of_nonneg p35).symm) (hlt:=hl40) rfl rfl rfl rfl ?_
 refine AK ?_
 refine x_pre (fuel:=3) [2] [(2,true),(3,true)] (by kernel_rfl) rfl ?_
 refine h_mv rfl rfl rfl (h_mv rfl rfl rfl (AK ?_))
 refine x_one (i:=13) (by kernel_rfl) rfl ?_
 refine CG rfl hx0' (a:=a4) (Vb.ofAgg (cs:=[(.int .i64 a4.cost),(.int .i64 a4.order),(.int .i64 a4.id)]) (x:=a4) rfl ⟨rfl,r15,r16,r17⟩) hA39 rfl rfl (AJ x34) fun w46 S47 hx0'=>?_
 have hZ:=S47.lst [2] (fun _ h=>by cases h;decide)
 refine x_go [] hZ (by kernel_rfl) ?_
 refine x_pre (fuel:=1) [] [(14,true)] (by kernel_rfl) rfl ?_
 obtain ⟨a48,e49,hm⟩:=bs hm
 obtain ⟨p51,x50⟩:=AO e49
 obtain ⟨b52,o53,ce54,hA55,hF58,hl56,hd57,rfl,r59,r60,r61⟩:=hx0'.elemF x50
 refine h_iaE (hA:=hA55) (hj:=(Int.toNat_of_nonneg p51).symm) (hlt:=hl56) rfl rfl rfl rfl ?_
 refine AK ?_
 refine x_one (i:=15) (by kernel_rfl) rfl ?_
 refine CG rfl hx0' (a:=a18) (Vb.ofAgg (cs:=[(.int .i64 a18.cost),(.int .i64 a18.order),(.int .i64 a18.id)]) (x:=a18) rfl ⟨rfl,r29,r30,r31⟩) hA55 rfl rfl (AJ x50) fun w62 S63 hx0'=>?_
 refine x_end (by kernel_rfl) ?_
 refine x_nil (by kernel_rfl) ?_
 obtain rfl:=sm hm
 replace hB:=(hB.st S47).st S63
 obtain ⟨O',hS',hz,hl⟩:=hE.leave (fun q=>if q=2 then i0 else 0) rfl hB
 exact ret0n rfl  ⟨O',hS',(Rw.leave hx0' hz (hl 2 (by decide) (by decide)) hx0.2.2)⟩
noncomputable def Cl (x0:BxR 99 97 Itm) (x1:An 97 Itm):Option (BxR 99 97 Itm) :=
  bnd (appI 24 x0.l [x1.x]) fun u31=>some (⟨u31⟩:BxR 99 97 Itm)
theorem GQ {w:World} {O:Lab} {p0 i0:Nat} {x0:BxR 99 97 Itm} (hx0:Ob i0 w O (.pointer (some ⟨p0,0,none⟩)) x0) {vx1:Value} {x1:An 97 Itm} (hx1:Vb w (Fr 0 w O) vx1 x1) {r:(BxR 99 97 Itm)} (hm:Cl x0 x1=some r) :
    Fn Tryz.prog 144 [(.pointer (some ⟨p0,0,none⟩)),vx1] w fun v w'=>∃ O',St (eT i0) w O w' O'∧Ob i0 w' O' (.pointer (some ⟨p0,0,none⟩)) r:=by
 obtain ⟨O0,hE,hz0,hl2⟩:=ent1 (w:=w) (O:=O) hx0.2
 have hx0':=Ob.leave hx0 hz0 hl2 (j:=2) (by decide)
 have hB:Bm w O0 w O0:=Bm.refl
 replace hx1:=hx1.mono hz0
 obtain ⟨v3,rfl,h4⟩:=hx1.any
 obtain ⟨cs5,rfl,rfl,r6,r7,r8⟩:=h4
 refine AL Tryz.func144 rfl Tryz.ntmps144 rfl ?_
 unfold Cl at hm
 refine Ah (Ae (o_mv rfl rfl (o_taA rfl rfl ?_)))
 refine o_mv rfl rfl (o_ex rfl rfl rfl (o_ex rfl rfl rfl (BJ 3 O0 rfl fun g9 w10 O11 S12 h13=>?_)))
 refine AQ h13 rfl rfl rfl (Nat.le_of_ble_eq_true rfl) (by first|exact allOne rfl|simp [Value.cells,Value.oneCell',AM]) fun w14 S15 h13=>?_
 replace h13:Lc 3 w14 O11 g9 97 [(.int .i64 x1.x.cost),(.int .i64 x1.x.order),(.int .i64 x1.x.id)]:=h13
 refine o_as rfl rfl (o_z ?_)
 refine Ah (Ae (o_mv rfl rfl (o_z ?_)))
 refine Ar rfl ?_
 replace hx0':=(hx0'.st S12).st S15
 obtain ⟨O16,v20,S17,ha19,h18,h21⟩:=BxR.opn hx0' 2 4 (by decide)
 obtain ⟨A22,c23,rfl⟩:=h21.form
 refine Bt [(6,[4])] O16 ?_
 refine x_pre (fuel:=5) [] [(1,true),(2,true),(3,true),(4,true)] (by kernel_rfl) rfl ?_
 refine h_mv rfl rfl rfl (h_nc rfl rfl rfl (h_ldC (hc:=fun w' ⟨O',hq⟩=>Blk.cell (i:=0) ((h18.st hq (by decide)).1) rfl) rfl rfl rfl ?_))
 replace h13:=h13.st S17
 refine h_laB (hl:=rfl) (hb:=fun w' ⟨O',hq⟩=>((h13.st hq (by decide)).1).cellsAt) rfl rfl rfl ?_
 refine AK ?_
 refine x_pre (fuel:=4) [4] [(0,true)] (by kernel_rfl) rfl ?_
 refine h_mv rfl rfl rfl (AK ?_)
 refine x_one (i:=5) (by kernel_rfl) rfl ?_
 refine Bf 5 (by decide) O16 (xs:=([x1.x]:List Itm)) rfl rfl rfl rfl ⟨(Vb.ofAgg (cs:=[(.int .i64 x1.x.cost),(.int .i64 x1.x.order),(.int .i64 x1.x.id)]) (x:=x1.x) rfl ⟨rfl,r6,r7,r8⟩),trivial⟩ (by decide) (by decide) rfl fun g25 w26 O27 S28 h29=>?_
 have hZ:=S28.lst [] (fun _ h=>h.elim)
 refine x_go [(6,[4])] hZ (by kernel_rfl) ?_
 refine x_one (i:=6) (by kernel_rfl) rfl ?_
 obtain ⟨u31,e32,hm⟩:=bs hm
 obtain ⟨e32,e33,e34⟩:=AU e32
 replace h21:=h21.st S28
 refine BF rfl h21 (h29.rd) rfl rfl (by decide) e33 e34 rfl fun A35 c36 w37 O38 S39 h40=>?_
 rw [← e32] at h40 ⊢
 have hZ:=S39.lst [4] (fun _ h=>by cases h;decide)
 refine x_go [] hZ (by kernel_rfl) ?_
 refine x_pre (fuel:=1) [] [(7,true)] (by kernel_rfl) rfl ?_
 refine h_nc rfl rfl rfl (AK ?_)
 refine x_one (i:=8) (by kernel_rfl) rfl ?_
 replace h18:=(h18.st S28).st S39
 refine AQ h18 rfl rfl rfl (Nat.le_of_ble_eq_true rfl) (by first|exact allOne rfl|simp [Value.cells,Value.oneCell',AM]) fun w42 S43 h18=>?_
 replace h18:Lc 2 w42 O38 p0 99 [(.slice A35 u31.length c36)]:=h18
 refine x_end (by kernel_rfl) ?_
 refine x_nil (by kernel_rfl) ?_
 replace h40:=h40.st S43
 obtain ⟨O44,S45,hz47,ha48,h46⟩:=BxR.shut (x:=(⟨u31⟩:BxR 99 97 Itm)) (l0:=2) (l1:=4) (by decide) h18 h40
 obtain rfl:=sm hm
 replace hB:=((((((hB.st S12).st S15).st S17).st S28).st S39).st S43).st S45
 obtain ⟨O',hS',hz,hl⟩:=hE.leave (fun q=>if q=2 then i0 else 0) rfl hB
 exact ret0n rfl  ⟨O',hS',(Ob.leave h46 hz (hl 2 (by decide) (by decide)) hx0.2)⟩
noncomputable def Cr (x0:BxR 99 97 Itm):Option ((An 97 Itm)×(BxR 99 97 Itm)) :=
  bnd (chkI ((x0.l.length:Int) - 1)) fun n13=>bnd (atI x0.l n13) fun a16=>bnd (cutI x0.l 0 n13) fun u37=>some ((⟨a16⟩:An 97 Itm),(⟨u37⟩:BxR 99 97 Itm))
theorem Hp {w:World} {O:Lab} {p0 i0:Nat} {x0:BxR 99 97 Itm} (hx0:Ob i0 w O (.pointer (some ⟨p0,0,none⟩)) x0) {r:(An 97 Itm)×(BxR 99 97 Itm)} (hm:Cr x0=some r) :
    Fn Tryz.prog 143 [(.pointer (some ⟨p0,0,none⟩))] w fun v w'=>∃ O',St (eT i0) w O w' O'∧Ob i0 w' O' (.pointer (some ⟨p0,0,none⟩)) r.2∧Vb w' (Fr 0 w' O') v r.1:=by
 obtain ⟨O0,hE,hz0,hl2⟩:=ent1 (w:=w) (O:=O) hx0.2
 have hx0':=Ob.leave hx0 hz0 hl2 (j:=2) (by decide)
 have hB:Bm w O0 w O0:=Bm.refl
 refine AL Tryz.func143 rfl Tryz.ntmps143 rfl ?_
 unfold Cr at hm
 refine Ah (Ae (o_as rfl rfl (o_z ?_)))
 refine Ah (Ae (o_mv rfl rfl (o_nc rfl rfl ?_)))
 obtain ⟨O2,v6,S3,ha5,h4,h7⟩:=BxR.opn hx0' 2 3 (by decide)
 obtain ⟨A8,c9,rfl⟩:=h7.form
 refine o_ld (hc:=Blk.cell (i:=0) (h4.1) rfl) rfl rfl ?_
 refine o_ln rfl rfl ?_
 have l12:x0.l.length≤9223372036854775807:=Nat.le_trans h7.len.2.1 h7.len.2.2
 have r11:inI64 (x0.l.length:Int):=rngNat l12
 obtain ⟨n13,e14,hm⟩:=bs hm
 have r15:=(AW e14)
 refine o_sbE (he:=e14) rfl rfl rfl ?_
 refine o_as rfl rfl (o_z ?_)
 refine Ah (Ae (o_mv rfl rfl (o_nc rfl rfl (o_ld (hc:=Blk.cell (i:=0) (h4.1) rfl) rfl rfl ?_))))
 refine o_mv rfl rfl ?_
 obtain ⟨a16,e17,hm⟩:=bs hm
 obtain ⟨p19,x18⟩:=AO e17
 obtain ⟨b20,o21,ce22,hA23,hl24,hd25,rfl,r27,r28,r29⟩:=h7.elem x18
 refine o_iaE (hA:=hA23) (hj:=(Int.toNat_of_nonneg p19).symm) (hlt:=hl24) rfl rfl rfl ?_
 refine o_la (hl:=rfl) (hc:=hd25) rfl rfl ?_
 refine BJ 4 O2 rfl fun g30 w31 O32 S33 h34=>?_
 refine AQ h34 rfl rfl rfl (Nat.le_of_ble_eq_true rfl) (by first|exact allOne rfl|simp [Value.cells,Value.oneCell',AM]) fun w35 S36 h34=>?_
 replace h34:Lc 4 w35 O32 g30 97 [(.int .i64 a16.cost),(.int .i64 a16.order),(.int .i64 a16.id)]:=h34
 refine o_z ?_
 refine Ah (Ae (o_mv rfl rfl (o_mv rfl rfl (o_nc rfl rfl ?_))))
 replace h4:=(h4.st S33).st S36
 refine o_ld (hc:=Blk.cell (i:=0) (h4.1) rfl) rfl rfl ?_
 refine o_mv rfl rfl ?_
 obtain ⟨u37,e38,hm⟩:=bs hm
 replace h7:=(h7.st S33).st S36
 obtain ⟨h39,e40⟩:=cutRw h7 e38
 refine OK (hc:=e40) rfl rfl rfl ?_
 refine o_nc rfl rfl (AQ h4 rfl rfl rfl (Nat.le_of_ble_eq_true rfl) (by first|exact allOne rfl|simp [Value.cells,Value.oneCell',AM]) fun w42 S43 h4=>?_)
 replace h4:Lc 2 w42 O32 p0 99 [(.slice A8 u37.length c9)]:=h4
 refine o_z ?_
 refine Ah (Ae ?_)
 replace h34:=h34.st S43
 refine o_la (hl:=rfl) (hc:=(h34.1).cellsAt) rfl rfl ?_
 refine o_miA rfl rfl ?_
 refine o_as rfl rfl (o_z ?_)
 refine Au ?_
 replace h39:=h39.st S43
 obtain ⟨O44,S45,hz47,ha48,h46⟩:=BxR.shut (x:=(⟨u37⟩:BxR 99 97 Itm)) (l0:=2) (l1:=3) (by decide) h4 h39
 obtain rfl:=sm hm
 replace hB:=((((hB.st S3).st S33).st S36).st S43).st S45
 obtain ⟨O',hS',hz,hl⟩:=hE.leave (fun q=>if q=2 then i0 else 0) rfl hB
 exact ret1v rfl (AG rfl) ⟨O',hS',(Ob.leave h46 hz (hl 2 (by decide) (by decide)) hx0.2),(vAny (Vb.ofAgg (cs:=[(.int .i64 a16.cost),(.int .i64 a16.order),(.int .i64 a16.id)]) (x:=a16) rfl ⟨rfl,r27,r28,r29⟩))⟩
noncomputable def Ch (x0:BxR 99 97 Itm) (x1:Int):Option (BxR 99 97 Itm) :=
  bnd (lop (ρ:=(BxR 99 97 Itm)) (fun (s5:Int×(BxR 99 97 Itm))=>bnd (chkI (s5.1 - 1)) fun n22=>bnd (quoT n22 2) fun n25=>bnd (if n25=s5.1 then (some true) else (bnd (Bi s5.2.l s5.1 n25) fun q42=>if q42=true then some false else some true):Option Bool) fun y28=>if y28=true then (some (.brk (s5.1,s5.2))) else (bnd (Be s5.2.l n25 s5.1) fun q73=>some (.next (n25,(⟨q73⟩:BxR 99 97 Itm))))) (x1,x0)) fun res3=>fin res3 fun (s90:Int×(BxR 99 97 Itm))=>some s90.2
theorem Hq {w:World} {O:Lab} {p0 i0:Nat} {x0:BxR 99 97 Itm} (hx0:Ob i0 w O (.pointer (some ⟨p0,0,none⟩)) x0) {x1:Int} (rx1:inI64 x1) {r:(BxR 99 97 Itm)} (hm:Ch x0 x1=some r) :
    Fn Tryz.prog 84 [(.iface 95 (.pointer (some ⟨p0,0,none⟩))),(.int .i64 x1)] w fun v w'=>∃ O',St (eT i0) w O w' O'∧Ob i0 w' O' (.pointer (some ⟨p0,0,none⟩)) r:=by
 obtain ⟨O0,hE,hz0,hl2⟩:=ent1 (w:=w) (O:=O) hx0.2
 have hx0':=Ob.leave hx0 hz0 hl2 (j:=2) (by decide)
 have hB:Bm w O0 w O0:=Bm.refl
 refine AL Tryz.func84 rfl Tryz.ntmps84 rfl ?_
 unfold Ch at hm
 obtain ⟨res3,hL4,hm⟩:=bs hm
 refine AN (aft res3 (fun (s5:Int×(BxR 99 97 Itm)) (x6:Unit)=>[]) (fun s5 x6 w'=>∃ O':Lab,Bm w O0 w' O'∧Ob 2 w' O' (.pointer (some ⟨p0,0,none⟩)) s5.2∧inI64 s5.1)) ?_ ?_
 ·
  refine Al (EX (σ:=Int×(BxR 99 97 Itm)) (X:=Unit) hL4 (fun (s5:Int×(BxR 99 97 Itm)) (x6:Unit)=>[(0,(.iface 95 (.pointer (some ⟨p0,0,none⟩)))),(1,(.int .i64 s5.1))]) _ (fun s5 x6 w'=>∃ O':Lab,Bm w O0 w' O'∧Ob 2 w' O' (.pointer (some ⟨p0,0,none⟩)) s5.2∧inI64 s5.1) _ () ⟨O0,hB,hx0',rx1⟩ ⟨rfl,rfl,trivial⟩ ?_)
  rintro s5 x6 w9 cc11 ⟨O10,hB,h21,r20⟩ hf13 hret14 hbrk15
  refine Al (Ah (Ae (o_mv rfl rfl ?_)))
  obtain ⟨n22,e23,hf13⟩:=bs hf13
  have r24:=(AW e23)
  refine o_sbE (he:=e23) rfl rfl rfl ?_
  obtain ⟨n25,e26,hf13⟩:=bs hf13
  have r27:=LM e26 r24
  refine o_qtE (he:=e26) (hr:=r24) rfl rfl rfl ?_
  refine o_as rfl rfl (o_z ?_)
  refine Ah (Ah ?_)
  obtain ⟨y28,hy29,hf13⟩:=bs hf13
  refine AN (fun l' w'=>∃ (x31:Unit) (O':Lab),subs l' [(0,(.iface 95 (.pointer (some ⟨p0,0,none⟩)))),(1,(.int .i64 s5.1)),(4,(.int .i64 n25)),(17,(.bool y28))]∧Bm w O0 w' O'∧Ob 2 w' O' (.pointer (some ⟨p0,0,none⟩)) s5.2) ?_ ?_
  ·
   refine Ae (o_mv rfl rfl (o_mv rfl rfl (o_eeS rfl rfl rfl (fun c32=>?_) fun c32=>?_)))
   ·
    replace hy29:=ip hy29 c32
    refine o_mv rfl rfl (AC rfl rfl rfl rfl (AC rfl rfl rfl rfl (AC rfl rfl rfl rfl (AC rfl rfl rfl rfl (AC rfl rfl rfl rfl (o_pt rfl rfl rfl (o_z ?_)))))))
    obtain rfl:=sm hy29
    exact ⟨(),_,⟨rfl,rfl,rfl,rfl,trivial⟩,hB,h21⟩
   ·
    replace hy29:=im hy29 c32
    refine o_mv rfl rfl (AE rfl rfl (o_mv rfl rfl (AE rfl rfl (o_mv rfl rfl (AE rfl rfl (o_mv rfl rfl (AE rfl rfl ?_)))))))
    obtain ⟨O33,v37,S34,ha36,h35,h38⟩:=BxR.opn h21 2 3 (by decide)
    obtain ⟨A39,c40,rfl⟩:=h38.form
    obtain ⟨q42,e43,hy29⟩:=bs hy29
    refine HF (O:=O33) (A:=All w9) (R:=fun w' F v=>Vb w' F v q42) (DE (fun _ h=>h) (h38).all r20 r27 e43) (EF (Blk.cell (i:=0) h35.1 rfl)) rfl rfl rfl fun v48 w44 O45 S46 h47=>?_
    obtain rfl:=h47.bool
    cases q42
    case false =>
     replace hy29:=iF hy29
     refine AE rfl rfl (o_nf rfl rfl (o_pf rfl rfl rfl (o_z ?_)))
     replace h35:=h35.st S46
     replace h38:=h38.st S46
     obtain ⟨O49,S50,hz52,ha53,h51⟩:=BxR.shut (x:=s5.2) (l0:=2) (l1:=3) (by decide) h35 h38
     obtain rfl:=sm hy29
     replace hB:=((hB.st S34).st S46).st S50
     exact ⟨(),_,⟨rfl,rfl,rfl,rfl,trivial⟩,hB,h51⟩
    replace hy29:=iT hy29
    refine AE rfl rfl (o_nt rfl rfl (o_pf rfl rfl rfl (o_z ?_)))
    replace h35:=h35.st S46
    replace h38:=h38.st S46
    obtain ⟨O54,S55,hz57,ha58,h56⟩:=BxR.shut (x:=s5.2) (l0:=2) (l1:=3) (by decide) h35 h38
    obtain rfl:=sm hy29
    replace hB:=((hB.st S34).st S46).st S55
    exact ⟨(),_,⟨rfl,rfl,rfl,rfl,trivial⟩,hB,h56⟩
  rintro l59 w60 ⟨x31,O61,hs62,hB,h21⟩
  refine AP _ hs62 ?_
  refine Cm rfl (fun c63=>?_) (fun c63=>?_)
  ·
   replace hf13:=ip hf13 c63
   refine At ?_
   obtain rfl:=sm hf13
   refine (?_:Exists _)
   exact ⟨_,(),hbrk15 _ rfl,trivial,_,hB,h21,r20⟩
  ·
   replace hf13:=im' hf13 c63
   refine Am (Ah (Ae (o_mv rfl rfl (o_mv rfl rfl (o_mv rfl rfl ?_)))))
   obtain ⟨O64,v68,S65,ha67,h66,h69⟩:=BxR.opn h21 2 3 (by decide)
   obtain ⟨A70,c71,rfl⟩:=h69.form
   obtain ⟨q73,e74,hf13⟩:=bs hf13
   refine HE (O:=O64) (DF h69 r27 r20 e74) (EF (Blk.cell (i:=0) h66.1 rfl)) rfl rfl rfl fun v79 w75 O76 S77 h80=>?_
   refine o_z ?_
   refine Ae (o_mv rfl rfl (o_as rfl rfl (o_z ?_)))
   replace h66:=h66.st S77
   obtain ⟨O81,S82,hz84,ha85,h83⟩:=BxR.shut (x:=(⟨q73⟩:BxR 99 97 Itm)) (l0:=2) (l1:=3) (by decide) (by have q:=h66;rw [← h80.len.1.symm] at q;exact q) h80.relen
   obtain rfl:=sm hf13
   refine (?_:Exists _)
   replace hB:=((hB.st S65).st S77).st S82
   exact ⟨_,(),rfl,⟨rfl,rfl,trivial⟩,_,hB,h83,r27⟩
 rintro l86 w87 ⟨s90,x91,rfl,hs89,O88,hB,h21,r20⟩
 replace hm:=AY hm
 obtain rfl:=sm hm
 obtain ⟨O',hS',hz,hl⟩:=hE.leave (fun q=>if q=2 then i0 else 0) rfl hB
 exact ret0n rfl  ⟨O',hS',(Ob.leave h21 hz (hl 2 (by decide) (by decide)) hx0.2)⟩
noncomputable def Ca (x0:BxR 99 97 Itm) (x1:Int) (x2:Int):Option (Bool×(BxR 99 97 Itm)) :=
  bnd (lop (ρ:=Bool×(BxR 99 97 Itm)) (fun (s6:Int×(BxR 99 97 Itm))=>bnd (chkI (2 * s6.1)) fun n23=>bnd (chkI (n23 + 1)) fun n26=>bnd (if x2≤n26 then (some true) else (if n26 < 0 then (some true) else (some false)):Option Bool) fun y29=>if y29=true then (some (.brk (s6.1,s6.2))) else (bnd (bnd (chkI (n26 + 1)) fun n45=>bnd (if n45 < x2 then (bnd (Bi s6.2.l n45 n26) fun q62=>if q62=true then some true else some false) else (some false):Option Bool) fun y48=>if y48=true then (some n45) else (some n26):Option Int) fun y40=>bnd (Bi s6.2.l y40 s6.1) fun q97=>if q97=true then bnd (Be s6.2.l s6.1 y40) fun q109=>some (.next (y40,(⟨q109⟩:BxR 99 97 Itm))) else some (.brk (s6.1,s6.2)))) (x1,x0)) fun res4=>fin res4 fun (s126:Int×(BxR 99 97 Itm))=>bnd (if x1 < s126.1 then (some true) else (some false):Option Bool) fun y128=>some (y128,s126.2)
theorem Gy {w:World} {O:Lab} {p0 i0:Nat} {x0:BxR 99 97 Itm} (hx0:Ob i0 w O (.pointer (some ⟨p0,0,none⟩)) x0) {x1:Int} (rx1:inI64 x1) {x2:Int} (rx2:inI64 x2) {r:Bool×(BxR 99 97 Itm)} (hm:Ca x0 x1 x2=some r) :
    Fn Tryz.prog 78 [(.iface 95 (.pointer (some ⟨p0,0,none⟩))),(.int .i64 x1),(.int .i64 x2)] w fun v w'=>∃ O',St (eT i0) w O w' O'∧Ob i0 w' O' (.pointer (some ⟨p0,0,none⟩)) r.2∧Vb w' (Fr 0 w' O') v r.1:=by
 obtain ⟨O0,hE,hz0,hl2⟩:=ent1 (w:=w) (O:=O) hx0.2
 have hx0':=Ob.leave hx0 hz0 hl2 (j:=2) (by decide)
 have hB:Bm w O0 w O0:=Bm.refl
 refine AL Tryz.func78 rfl Tryz.ntmps78 rfl ?_
 unfold Ca at hm
 refine Ah (Ae (o_as rfl rfl (o_z ?_)))
 refine Ah (Ae (o_mv rfl rfl (o_as rfl rfl (o_z ?_))))
 refine Ah ?_
 obtain ⟨res4,hL5,hm⟩:=bs hm
 refine AN (aft res4 (fun (s6:Int×(BxR 99 97 Itm)) (x7:Unit)=>[(1,(.int .i64 x1)),(7,(.int .i64 s6.1))]) (fun s6 x7 w'=>∃ O':Lab,Bm w O0 w' O'∧Ob 2 w' O' (.pointer (some ⟨p0,0,none⟩)) s6.2∧inI64 s6.1)) ?_ ?_
 ·
  refine Al (EX (σ:=Int×(BxR 99 97 Itm)) (X:=Unit) hL5 (fun (s6:Int×(BxR 99 97 Itm)) (x7:Unit)=>[(0,(.iface 95 (.pointer (some ⟨p0,0,none⟩)))),(1,(.int .i64 x1)),(2,(.int .i64 x2)),(7,(.int .i64 s6.1))]) _ (fun s6 x7 w'=>∃ O':Lab,Bm w O0 w' O'∧Ob 2 w' O' (.pointer (some ⟨p0,0,none⟩)) s6.2∧inI64 s6.1) _ () ⟨O0,hB,hx0',rx1⟩ ⟨rfl,rfl,rfl,rfl,trivial⟩ ?_)
  rintro s6 x7 w10 cc12 ⟨O11,hB,h22,r21⟩ hf14 hret15 hbrk16
  refine Al (Ah (Ae (o_mv rfl rfl ?_)))
  obtain ⟨n23,e24,hf14⟩:=bs hf14
  have r25:=(AW e24)
  refine o_mlE (he:=e24) rfl rfl rfl ?_
  obtain ⟨n26,e27,hf14⟩:=bs hf14
  have r28:=(AW e27)
  refine o_adE (he:=e27) rfl rfl rfl ?_
  refine o_as rfl rfl (o_z ?_)
  refine Ah (Ah ?_)
  obtain ⟨y29,hy30,hf14⟩:=bs hf14
  refine AN (fun l' w'=>∃ (x32:Unit) (O':Lab),subs l' [(0,(.iface 95 (.pointer (some ⟨p0,0,none⟩)))),(1,(.int .i64 x1)),(2,(.int .i64 x2)),(7,(.int .i64 s6.1)),(8,(.int .i64 n26)),(21,(.bool y29))]∧Bm w O0 w' O'∧Ob 2 w' O' (.pointer (some ⟨p0,0,none⟩)) s6.2) ?_ ?_
  ·
   refine Ae (o_mv rfl rfl (o_mv rfl rfl (o_geS rfl rfl rfl (fun c33=>?_) fun c33=>?_)))
   ·
    replace hy30:=ip hy30 c33
    refine o_mv rfl rfl (AC rfl rfl rfl rfl (AC rfl rfl rfl rfl (o_pt rfl rfl rfl (o_z ?_))))
    obtain rfl:=sm hy30
    exact ⟨(),_,⟨rfl,rfl,rfl,rfl,rfl,rfl,trivial⟩,hB,h22⟩
   ·
    replace hy30:=im hy30 c33
    refine o_mv rfl rfl (AE rfl rfl (o_mv rfl rfl (AE rfl rfl (o_ltS rfl rfl rfl (fun c34=>?_) fun c34=>?_))))
    ·
     replace hy30:=ip hy30 c34
     refine o_pf rfl rfl rfl (o_z ?_)
     obtain rfl:=sm hy30
     exact ⟨(),_,⟨rfl,rfl,rfl,rfl,rfl,rfl,trivial⟩,hB,h22⟩
    ·
     replace hy30:=im hy30 c34
     refine o_pf rfl rfl rfl (o_z ?_)
     obtain rfl:=sm hy30
     exact ⟨(),_,⟨rfl,rfl,rfl,rfl,rfl,rfl,trivial⟩,hB,h22⟩
  rintro l35 w36 ⟨x32,O37,hs38,hB,h22⟩
  refine AP _ hs38 ?_
  refine Cm rfl (fun c39=>?_) (fun c39=>?_)
  ·
   replace hf14:=ip hf14 c39
   refine At ?_
   obtain rfl:=sm hf14
   refine (?_:Exists _)
   exact ⟨_,(),hbrk16 _ rfl,⟨rfl,rfl,trivial⟩,_,hB,h22,r21⟩
  ·
   replace hf14:=im' hf14 c39
   refine Am (Ah (Ae (o_mv rfl rfl (o_as rfl rfl (o_z ?_)))))
   refine Ah ?_
   obtain ⟨y40,hy41,hf14⟩:=bs hf14
   refine AN (fun l' w'=>∃ (x43:Unit) (O':Lab),subs l' [(0,(.iface 95 (.pointer (some ⟨p0,0,none⟩)))),(1,(.int .i64 x1)),(2,(.int .i64 x2)),(7,(.int .i64 s6.1)),(9,(.int .i64 y40))]∧Bm w O0 w' O'∧Ob 2 w' O' (.pointer (some ⟨p0,0,none⟩)) s6.2∧inI64 y40) ?_ ?_
   ·
    refine Ah (Ae (o_mv rfl rfl ?_))
    obtain ⟨n45,e46,hy41⟩:=bs hy41
    have r47:=(AW e46)
    refine o_adE (he:=e46) rfl rfl rfl ?_
    refine o_as rfl rfl (o_z ?_)
    refine Ah ?_
    obtain ⟨y48,hy49,hy41⟩:=bs hy41
    refine AN (fun l' w'=>∃ (x51:Unit) (O':Lab),subs l' [(0,(.iface 95 (.pointer (some ⟨p0,0,none⟩)))),(1,(.int .i64 x1)),(2,(.int .i64 x2)),(7,(.int .i64 s6.1)),(9,(.int .i64 n26)),(10,(.int .i64 n45)),(33,(.bool y48))]∧Bm w O0 w' O'∧Ob 2 w' O' (.pointer (some ⟨p0,0,none⟩)) s6.2) ?_ ?_
    ·
     refine Ae (o_mv rfl rfl (o_mv rfl rfl (o_ltS rfl rfl rfl (fun c52=>?_) fun c52=>?_)))
     ·
      replace hy49:=ip hy49 c52
      refine o_mv rfl rfl (AE rfl rfl (o_mv rfl rfl (AE rfl rfl (o_mv rfl rfl (AE rfl rfl (o_mv rfl rfl (AE rfl rfl ?_)))))))
      obtain ⟨O53,v57,S54,ha56,h55,h58⟩:=BxR.opn h22 2 3 (by decide)
      obtain ⟨A59,c60,rfl⟩:=h58.form
      obtain ⟨q62,e63,hy49⟩:=bs hy49
      refine HF (O:=O53) (A:=All w36) (R:=fun w' F v=>Vb w' F v q62) (DE (fun _ h=>h) (h58).all r47 r28 e63) (EF (Blk.cell (i:=0) h55.1 rfl)) rfl rfl rfl fun v68 w64 O65 S66 h67=>?_
      obtain rfl:=h67.bool
      cases q62
      case false =>
       replace hy49:=iF hy49
       refine o_pt rfl rfl rfl (o_z ?_)
       replace h55:=h55.st S66
       replace h58:=h58.st S66
       obtain ⟨O69,S70,hz72,ha73,h71⟩:=BxR.shut (x:=s6.2) (l0:=2) (l1:=3) (by decide) h55 h58
       obtain rfl:=sm hy49
       replace hB:=((hB.st S54).st S66).st S70
       exact ⟨(),_,⟨rfl,rfl,rfl,rfl,rfl,rfl,rfl,trivial⟩,hB,h71⟩
      replace hy49:=iT hy49
      refine o_pt rfl rfl rfl (o_z ?_)
      replace h55:=h55.st S66
      replace h58:=h58.st S66
      obtain ⟨O74,S75,hz77,ha78,h76⟩:=BxR.shut (x:=s6.2) (l0:=2) (l1:=3) (by decide) h55 h58
      obtain rfl:=sm hy49
      replace hB:=((hB.st S54).st S66).st S75
      exact ⟨(),_,⟨rfl,rfl,rfl,rfl,rfl,rfl,rfl,trivial⟩,hB,h76⟩
     ·
      replace hy49:=im hy49 c52
      refine o_mv rfl rfl (AC rfl rfl rfl rfl (AC rfl rfl rfl rfl (AC rfl rfl rfl rfl (AC rfl rfl rfl rfl (o_pf rfl rfl rfl (o_z ?_))))))
      obtain rfl:=sm hy49
      exact ⟨(),_,⟨rfl,rfl,rfl,rfl,rfl,rfl,rfl,trivial⟩,hB,h22⟩
    rintro l79 w80 ⟨x51,O81,hs82,hB,h67⟩
    refine AP _ hs82 ?_
    refine Cm rfl (fun c83=>?_) (fun c83=>?_)
    ·
     replace hy41:=ip hy41 c83
     refine Ae (o_mv rfl rfl (o_as rfl rfl (o_z ?_)))
     obtain rfl:=sm hy41
     exact ⟨(),_,⟨rfl,rfl,rfl,rfl,rfl,trivial⟩,hB,h67,r47⟩
    ·
     replace hy41:=im' hy41 c83
     refine Am ?_
     obtain rfl:=sm hy41
     exact ⟨(),_,⟨rfl,rfl,rfl,rfl,rfl,trivial⟩,hB,h67,r28⟩
   rintro l84 w85 ⟨x43,O86,hs87,hB,h62,r44⟩
   refine AP _ hs87 ?_
   refine Ah (Ah (Ae (o_mv rfl rfl (o_mv rfl rfl (o_mv rfl rfl ?_)))))
   obtain ⟨O88,v92,S89,ha91,h90,h93⟩:=BxR.opn h62 2 3 (by decide)
   obtain ⟨A94,c95,rfl⟩:=h93.form
   obtain ⟨q97,e98,hf14⟩:=bs hf14
   refine HF (O:=O88) (A:=All w85) (R:=fun w' F v=>Vb w' F v q97) (DE (fun _ h=>h) (h93).all r44 r21 e98) (EF (Blk.cell (i:=0) h90.1 rfl)) rfl rfl rfl fun v103 w99 O100 S101 h102=>?_
   obtain rfl:=h102.bool
   cases q97
   case false =>
    replace hf14:=iF hf14
    refine o_nf rfl rfl (o_z ?_)
    refine Ar rfl (At ?_)
    replace h90:=h90.st S101
    replace h93:=h93.st S101
    obtain ⟨O104,S105,hz107,ha108,h106⟩:=BxR.shut (x:=s6.2) (l0:=2) (l1:=3) (by decide) h90 h93
    obtain rfl:=sm hf14
    refine (?_:Exists _)
    replace hB:=((hB.st S89).st S101).st S105
    exact ⟨_,(),hbrk16 _ rfl,⟨rfl,rfl,trivial⟩,_,hB,h106,r21⟩
   replace hf14:=iT hf14
   refine o_nt rfl rfl (o_z ?_)
   refine Aj rfl (Am (Ah (Ae (o_mv rfl rfl (o_mv rfl rfl (o_mv rfl rfl ?_))))))
   obtain ⟨q109,e110,hf14⟩:=bs hf14
   replace h90:=h90.st S101
   replace h93:=h93.st S101
   refine HE (O:=O100) (DF h93 r21 r44 e110) (EF (Blk.cell (i:=0) h90.1 rfl)) rfl rfl rfl fun v115 w111 O112 S113 h116=>?_
   refine o_z ?_
   refine Ae (o_mv rfl rfl (o_as rfl rfl (o_z ?_)))
   replace h90:=h90.st S113
   obtain ⟨O117,S118,hz120,ha121,h119⟩:=BxR.shut (x:=(⟨q109⟩:BxR 99 97 Itm)) (l0:=2) (l1:=3) (by decide) (by have q:=h90;rw [← h116.len.1.symm] at q;exact q) h116.relen
   obtain rfl:=sm hf14
   refine (?_:Exists _)
   replace hB:=(((hB.st S89).st S101).st S113).st S118
   exact ⟨_,(),rfl,⟨rfl,rfl,rfl,rfl,trivial⟩,_,hB,h119,r44⟩
 rintro l122 w123 ⟨s126,x127,rfl,hs125,O124,hB,h22,r21⟩
 replace hm:=AY hm
 refine AP _ hs125 ?_
 refine Ah ?_
 obtain ⟨y128,hy129,hm⟩:=bs hm
 refine AN (fun l' w'=>∃ (x131:Unit) (O':Lab),subs l' [(6,(.bool y128))]∧Bm w O0 w' O'∧Ob 2 w' O' (.pointer (some ⟨p0,0,none⟩)) s126.2) ?_ ?_
 ·
  refine Ae (o_mv rfl rfl (o_mv rfl rfl (o_gtS rfl rfl rfl (fun c132=>?_) fun c132=>?_)))
  ·
   replace hy129:=ip hy129 c132
   refine o_as rfl rfl (o_z ?_)
   obtain rfl:=sm hy129
   exact ⟨(),_,⟨rfl,trivial⟩,hB,h22⟩
  ·
   replace hy129:=im hy129 c132
   refine o_as rfl rfl (o_z ?_)
   obtain rfl:=sm hy129
   exact ⟨(),_,⟨rfl,trivial⟩,hB,h22⟩
 rintro l133 w134 ⟨x131,O135,hs136,hB,h22⟩
 refine AP _ hs136 ?_
 refine Au ?_
 obtain rfl:=sm hm
 obtain ⟨O',hS',hz,hl⟩:=hE.leave (fun q=>if q=2 then i0 else 0) rfl hB
 exact ret1v rfl (AG rfl) ⟨O',hS',(Ob.leave h22 hz (hl 2 (by decide) (by decide)) hx0.2),vBool⟩
noncomputable def BS (x0:BxR 99 97 Itm) (x1:An 97 Itm):Option (BxR 99 97 Itm) :=
  bnd (Cl x0 (⟨x1.x⟩:An 97 Itm)) fun q9=>bnd (Bg q9.l) fun q26=>bnd (chkI (q26 - 1)) fun n34=>bnd (Ch q9 n34) fun q42=>some q42
theorem Gz {w:World} {O:Lab} {p0 i0:Nat} {x0:BxR 99 97 Itm} (hx0:Ob i0 w O (.pointer (some ⟨p0,0,none⟩)) x0) {vx1:Value} {x1:An 97 Itm} (hx1:Vb w (Fr 0 w O) vx1 x1) {r:(BxR 99 97 Itm)} (hm:BS x0 x1=some r) :
    Fn Tryz.prog 64 [(.iface 95 (.pointer (some ⟨p0,0,none⟩))),vx1] w fun v w'=>∃ O',St (eT i0) w O w' O'∧Ob i0 w' O' (.pointer (some ⟨p0,0,none⟩)) r:=by
 obtain ⟨O0,hE,hz0,hl2⟩:=ent1 (w:=w) (O:=O) hx0.2
 have hx0':=Ob.leave hx0 hz0 hl2 (j:=2) (by decide)
 have hB:Bm w O0 w O0:=Bm.refl
 replace hx1:=hx1.mono hz0
 obtain ⟨v3,rfl,h4⟩:=hx1.any
 obtain ⟨cs5,rfl,rfl,r6,r7,r8⟩:=h4
 refine AL Tryz.func64 rfl Tryz.ntmps64 rfl ?_
 unfold BS at hm
 refine Ah (Ae (o_mv rfl rfl (o_mv rfl rfl ?_)))
 obtain ⟨q9,e10,hm⟩:=bs hm
 refine HE (O:=O0) (GQ hx0' (vAny (Vb.ofAgg (cs:=[(.int .i64 x1.x.cost),(.int .i64 x1.x.order),(.int .i64 x1.x.id)]) (x:=x1.x) rfl ⟨rfl,r6,r7,r8⟩)) e10) LK rfl rfl rfl fun v15 w11 O12 S13 h16=>?_
 refine o_z ?_
 refine Ae (o_mv rfl rfl (o_mv rfl rfl ?_))
 obtain ⟨O17,v21,S18,ha20,h19,h22⟩:=BxR.opn h16 2 3 (by decide)
 obtain ⟨A23,c24,rfl⟩:=h22.form
 obtain ⟨q26,e27,hm⟩:=bs hm
 refine HF (O:=O17) (A:=All w11) (R:=fun w' F v=>Vb w' F v q26) (DR (fun _ h=>h) (h22).all e27) (EF (Blk.cell (i:=0) h19.1 rfl)) rfl rfl rfl fun v32 w28 O29 S30 h31=>?_
 obtain ⟨rfl,r33⟩:=h31.int
 obtain ⟨n34,e35,hm⟩:=bs hm
 have r36:=(AW e35)
 refine o_sbE (he:=e35) rfl rfl rfl ?_
 replace h19:=h19.st S30
 replace h22:=h22.st S30
 obtain ⟨O37,S38,hz40,ha41,h39⟩:=BxR.shut (x:=q9) (l0:=2) (l1:=3) (by decide) h19 h22
 obtain ⟨q42,e43,hm⟩:=bs hm
 refine BZ (O:=O37) (Hq h39 r36 e43) rfl rfl fun v48 w44 O45 S46 h49=>?_
 refine o_z ?_
 obtain rfl:=sm hm
 replace hB:=((((hB.st S13).st S18).st S30).st S38).st S46
 obtain ⟨O',hS',hz,hl⟩:=hE.leave (fun q=>if q=2 then i0 else 0) rfl hB
 exact ret0n rfl  ⟨O',hS',(Ob.leave h49 hz (hl 2 (by decide) (by decide)) hx0.2)⟩
noncomputable def BT (x0:BxR 99 97 Itm):Option ((An 97 Itm)×(BxR 99 97 Itm)) :=
  bnd (Bg x0.l) fun q11=>bnd (chkI (q11 - 1)) fun n19=>bnd (Be x0.l 0 n19) fun q22=>bnd (Ca (⟨q22⟩:BxR 99 97 Itm) 0 n19) fun q35=>bnd (Cr q35.2) fun q44=>some ((⟨q44.1.x⟩:An 97 Itm),q44.2)
theorem GR {w:World} {O:Lab} {p0 i0:Nat} {x0:BxR 99 97 Itm} (hx0:Ob i0 w O (.pointer (some ⟨p0,0,none⟩)) x0) {r:(An 97 Itm)×(BxR 99 97 Itm)} (hm:BT x0=some r) :
    Fn Tryz.prog 57 [(.iface 95 (.pointer (some ⟨p0,0,none⟩)))] w fun v w'=>∃ O',St (eT i0) w O w' O'∧Ob i0 w' O' (.pointer (some ⟨p0,0,none⟩)) r.2∧Vb w' (Fr 0 w' O') v r.1:=by
 obtain ⟨O0,hE,hz0,hl2⟩:=ent1 (w:=w) (O:=O) hx0.2
 have hx0':=Ob.leave hx0 hz0 hl2 (j:=2) (by decide)
 have hB:Bm w O0 w O0:=Bm.refl
 refine AL Tryz.func57 rfl Tryz.ntmps57 rfl ?_
 unfold BT at hm
 refine Ah (Ae (o_as rfl rfl (o_z ?_)))
 refine Ah (Ae (o_mv rfl rfl ?_))
 obtain ⟨O2,v6,S3,ha5,h4,h7⟩:=BxR.opn hx0' 2 3 (by decide)
 obtain ⟨A8,c9,rfl⟩:=h7.form
 obtain ⟨q11,e12,hm⟩:=bs hm
 refine HF (O:=O2) (A:=All w) (R:=fun w' F v=>Vb w' F v q11) (DR (fun _ h=>h) (h7).all e12) (EF (Blk.cell (i:=0) h4.1 rfl)) rfl rfl rfl fun v17 w13 O14 S15 h16=>?_
 obtain ⟨rfl,r18⟩:=h16.int
 obtain ⟨n19,e20,hm⟩:=bs hm
 have r21:=(AW e20)
 refine o_sbE (he:=e20) rfl rfl rfl ?_
 refine o_as rfl rfl (o_z ?_)
 refine Ah (Ae (o_mv rfl rfl (o_mv rfl rfl ?_)))
 obtain ⟨q22,e23,hm⟩:=bs hm
 replace h4:=h4.st S15
 replace h7:=h7.st S15
 refine HE (O:=O14) (DF h7 (show inI64 (0) from by decide) r21 e23) (EF (Blk.cell (i:=0) h4.1 rfl)) rfl rfl rfl fun v28 w24 O25 S26 h29=>?_
 refine o_z ?_
 refine Ah (Ae (o_mv rfl rfl (o_mv rfl rfl ?_)))
 replace h4:=h4.st S26
 obtain ⟨O30,S31,hz33,ha34,h32⟩:=BxR.shut (x:=(⟨q22⟩:BxR 99 97 Itm)) (l0:=2) (l1:=3) (by decide) (by have q:=h4;rw [← h29.len.1.symm] at q;exact q) h29.relen
 obtain ⟨q35,e36,hm⟩:=bs hm
 refine BZ (O:=O30) (Gy h32 (show inI64 (0) from by decide) r21 e36) rfl rfl fun v41 w37 O38 S39 h40=>?_
 obtain ⟨h42,h43⟩:=h40
 obtain rfl:=h43.bool
 refine o_z ?_
 refine Ah (Ae (o_mv rfl rfl ?_))
 obtain ⟨q44,e45,hm⟩:=bs hm
 refine HE (O:=O38) (Hp h42 e45) LK rfl rfl rfl fun v50 w46 O47 S48 h49=>?_
 obtain ⟨h51,h52⟩:=h49
 obtain ⟨v53,rfl,h54⟩:=h52.any
 obtain ⟨cs55,rfl,rfl,r56,r57,r58⟩:=h54
 refine o_as rfl rfl (o_z ?_)
 refine Au ?_
 obtain rfl:=sm hm
 replace hB:=(((((hB.st S3).st S15).st S26).st S31).st S39).st S48
 obtain ⟨O',hS',hz,hl⟩:=hE.leave (fun q=>if q=2 then i0 else 0) rfl hB
 exact ret1v rfl (AG rfl) ⟨O',hS',(Ob.leave h51 hz (hl 2 (by decide) (by decide)) hx0.2),(vAny (Vb.ofAgg (cs:=[(.int .i64 q44.1.x.cost),(.int .i64 q44.1.x.order),(.int .i64 q44.1.x.id)]) (x:=q44.1.x) rfl ⟨rfl,r56,r57,r58⟩))⟩
end
section
open Go Go.RowKit
def effsOn (s:List Int):List Eff→List Int→List Int
  | [],out=>out
  | e :: r,out=>effsOn s r (if holdsB e.cond s=true then out.set e.var.toNat e.val else out)
theorem Fq (s:List Int):∀ (a b:List Eff) (out:List Int),effsOn s (a ++ b) out=effsOn s b (effsOn s a out)
  | [],_,_=>rfl
  | e :: a,b,out=>by simp [effsOn,Fq s a b]
theorem Eu (s:List Int):∀ (a:List Eff) (out:List Int),(effsOn s a out).length=out.length
  | [],_=>rfl
  | e :: a,out=>by
    rw [effsOn,Eu s a]
    split<;>simp
theorem Lm (s:List Int) {l:List Eff} {k:Nat} {e:Eff} (h:l[k]?=some e) (out:List Int):effsOn s (l.take (k + 1)) out=if holdsB e.cond s=true then (effsOn s (l.take k) out).set e.var.toNat e.val else effsOn s (l.take k) out:=by
  rw [List.take_add_one,h,Fq];rfl
def EffsIn (s:List Int) (l:List Eff):Prop:=∀ (i:Nat) e,l[i]?=some e→0≤e.var∧e.var < s.length
def succ (o:Opr) (s:List Int):List Int:=effsOn s o.effs s
end
section
open Go Go.RowKit
attribute [local irreducible] ewp owp hwp hwq hws Ev Evg Fn retPost loud loudS Res1
theorem cloneInts {w:World} {sv:Value} {xs:List Int} (hs:V w sv xs) (hl:xs.length * 8≤140737488355328) :
    Fn Tryz.prog 50 [sv] w fun v w'=>Own w' w.heap.size (All w) 3 v xs∧Ext w w':=by
  obtain ⟨A,c,rfl⟩:=hs.form
  refine AL Tryz.func50 rfl Tryz.ntmps50 rfl ?_
  cases A with
  | none =>
    have hx:xs=[]:=by
      cases xs with
      | nil=>rfl
      | cons x xs=>obtain ⟨_,_,_,h,_⟩:=hs.elem (k:=0) (x:=x) rfl;cases h
    subst hx
    ((repeat (first|refine Ah ?_|refine Al ?_|refine Ae ?_|refine Am ?_|refine At ?_|refine Au ?_|refine Ar rfl ?_|refine Aj rfl ?_))<;>(refine o_as rfl rfl ?_<;>(first|refine Ay ?_|refine Az ?_|refine Aw ?_|refine AB ?_))<;>(repeat (first|refine Ah ?_|refine Al ?_|refine Ae ?_|refine Am ?_|refine At ?_|refine Au ?_|refine Ar rfl ?_|refine Aj rfl ?_))<;>(refine o_mv rfl rfl ?_<;>refine o_sn rfl rfl ?_<;>(first|refine Ay ?_|refine Az ?_|refine Aw ?_|refine AB ?_))<;>(repeat (first|refine Ah ?_|refine Al ?_|refine Ae ?_|refine Am ?_|refine At ?_|refine Au ?_|refine Ar rfl ?_|refine Aj rfl ?_))<;>(refine o_as rfl rfl ?_<;>(first|refine Ay ?_|refine Az ?_|refine Aw ?_|refine AB ?_))<;>(repeat (first|refine Ah ?_|refine Al ?_|refine Ae ?_|refine Am ?_|refine At ?_|refine Au ?_|refine Ar rfl ?_|refine Aj rfl ?_)))
    exact ret1 rfl rfl ⟨Own.nil _ _ _ _,Below.refl _ _⟩
  | some ad =>
    ((repeat (first|refine Ah ?_|refine Al ?_|refine Ae ?_|refine Am ?_|refine At ?_|refine Au ?_|refine Ar rfl ?_|refine Aj rfl ?_))<;>(refine o_as rfl rfl ?_<;>(first|refine Ay ?_|refine Az ?_|refine Aw ?_|refine AB ?_))<;>(repeat (first|refine Ah ?_|refine Al ?_|refine Ae ?_|refine Am ?_|refine At ?_|refine Au ?_|refine Ar rfl ?_|refine Aj rfl ?_))<;>(refine o_mv rfl rfl ?_<;>refine o_sn rfl rfl ?_<;>(first|refine Ay ?_|refine Az ?_|refine Aw ?_|refine AB ?_))<;>(repeat (first|refine Ah ?_|refine Al ?_|refine Ae ?_|refine Am ?_|refine At ?_|refine Au ?_|refine Ar rfl ?_|refine Aj rfl ?_)))
    refine CU rfl rfl rfl (by simp) (by decide) rfl fun w1 hN=>?_
    have hE:=hN.ext
    have hown:Own w1 w.heap.size (All w) 3 (.slice (some ⟨w.heap.size,0,none⟩) 0 0) ([]:List Int):=Own.made hN rfl rfl (Nat.lt_irrefl _) (by decide)
    (refine o_mv rfl rfl ?_)
    refine Gj rfl rfl rfl hown (fun k hk=>Nat.lt_of_lt_of_le hk hE.size) hE.size (Vb.agree hs (hE.agree fun _ h=>h)) (by decide) (by simpa using hl) (by simp;omega) rfl fun v' w2 ho hK=>?_
    (refine o_as rfl rfl ?_<;>(first|refine Ay ?_|refine Az ?_|refine Aw ?_|refine AB ?_))
    repeat (first|refine Ah ?_|refine Al ?_|refine Ae ?_|refine Am ?_|refine At ?_|refine Au ?_|refine Ar rfl ?_|refine Aj rfl ?_)
    refine ret1 rfl rfl ⟨by simpa using ho,hE.trans (hown.fits (Nat.le_refl _) hE.size hK)⟩
theorem cloneFacts {w:World} {sv:Value} {xs:List Fct} (hs:V w sv xs) (hl:xs.length * 16≤140737488355328) :
    Fn Tryz.prog 51 [sv] w fun v w'=>Own w' w.heap.size (All w) 62 v xs∧Ext w w':=by
  obtain ⟨A,c,rfl⟩:=hs.form
  refine AL Tryz.func51 rfl Tryz.ntmps51 rfl ?_
  cases A with
  | none =>
    have hx:xs=[]:=by
      cases xs with
      | nil=>rfl
      | cons x xs=>obtain ⟨_,_,_,h,_⟩:=hs.elem (k:=0) (x:=x) rfl;cases h
    subst hx
    ((repeat (first|refine Ah ?_|refine Al ?_|refine Ae ?_|refine Am ?_|refine At ?_|refine Au ?_|refine Ar rfl ?_|refine Aj rfl ?_))<;>(refine o_as rfl rfl ?_<;>(first|refine Ay ?_|refine Az ?_|refine Aw ?_|refine AB ?_))<;>(repeat (first|refine Ah ?_|refine Al ?_|refine Ae ?_|refine Am ?_|refine At ?_|refine Au ?_|refine Ar rfl ?_|refine Aj rfl ?_))<;>(refine o_mv rfl rfl ?_<;>refine o_sn rfl rfl ?_<;>(first|refine Ay ?_|refine Az ?_|refine Aw ?_|refine AB ?_))<;>(repeat (first|refine Ah ?_|refine Al ?_|refine Ae ?_|refine Am ?_|refine At ?_|refine Au ?_|refine Ar rfl ?_|refine Aj rfl ?_))<;>(refine o_as rfl rfl ?_<;>(first|refine Ay ?_|refine Az ?_|refine Aw ?_|refine AB ?_))<;>(repeat (first|refine Ah ?_|refine Al ?_|refine Ae ?_|refine Am ?_|refine At ?_|refine Au ?_|refine Ar rfl ?_|refine Aj rfl ?_)))
    exact ret1 rfl rfl ⟨Own.nil _ _ _ _,Below.refl _ _⟩
  | some ad =>
    ((repeat (first|refine Ah ?_|refine Al ?_|refine Ae ?_|refine Am ?_|refine At ?_|refine Au ?_|refine Ar rfl ?_|refine Aj rfl ?_))<;>(refine o_as rfl rfl ?_<;>(first|refine Ay ?_|refine Az ?_|refine Aw ?_|refine AB ?_))<;>(repeat (first|refine Ah ?_|refine Al ?_|refine Ae ?_|refine Am ?_|refine At ?_|refine Au ?_|refine Ar rfl ?_|refine Aj rfl ?_))<;>(refine o_mv rfl rfl ?_<;>refine o_sn rfl rfl ?_<;>(first|refine Ay ?_|refine Az ?_|refine Aw ?_|refine AB ?_))<;>(repeat (first|refine Ah ?_|refine Al ?_|refine Ae ?_|refine Am ?_|refine At ?_|refine Au ?_|refine Ar rfl ?_|refine Aj rfl ?_)))
    refine CU rfl rfl rfl (by simp) (by decide) rfl fun w1 hN=>?_
    have hE:=hN.ext
    have hown:Own w1 w.heap.size (All w) 62 (.slice (some ⟨w.heap.size,0,none⟩) 0 0) ([]:List Fct):=Own.made hN rfl rfl (Nat.lt_irrefl _) (by decide)
    (refine o_mv rfl rfl ?_)
    refine Gj rfl rfl rfl hown (fun k hk=>Nat.lt_of_lt_of_le hk hE.size) hE.size (Vb.agree hs (hE.agree fun _ h=>h)) (by decide) (by simpa using hl) (by simp;omega) rfl fun v' w2 ho hK=>?_
    (refine o_as rfl rfl ?_<;>(first|refine Ay ?_|refine Az ?_|refine Aw ?_|refine AB ?_))
    repeat (first|refine Ah ?_|refine Al ?_|refine Ae ?_|refine Am ?_|refine At ?_|refine Au ?_|refine Ar rfl ?_|refine Aj rfl ?_)
    refine ret1 rfl rfl ⟨by simpa using ho,hE.trans (hown.fits (Nat.le_refl _) hE.size hK)⟩
def applK (t:Tsk) (s:List Int) (k:Nat):List Int:=((List.range k).filter fun i=>match t.ops[i]? with|some o=>holdsB o.pre s|none=>false).map fun i:Nat=>(i:Int)
def appl (t:Tsk) (s:List Int):List Int:=applK t s t.ops.length
theorem MM (t:Tsk) (s:List Int) (k:Nat):(applK t s k).length≤k:=by
  unfold applK
  rw [List.length_map]
  exact Nat.le_trans (List.length_filter_le _ _) (by simp)
end
section
open Go Go.RowKit
attribute [local irreducible] ewp owp hwp hwq hws Ev Evg Fn retPost loud loudS Res1
inductive Tr where
  | nil
  | leaf (ops:List Int)
  | node (nx many:Nat) (vals:Nat→Tr) (rest:Tr)
def TrR (w:World) (F:Nat→Prop):Tr→Value→Prop
  | .nil,p=>p=.pointer none
  | .leaf ops,p=>∃ g ov,p=.pointer (some ⟨g,0,none⟩)∧F g∧Blk w g 184 [ov,.bool true,.int .i64 0,.slice none 0 0,.pointer none]∧Vb w F ov ops
  | .node nx k vals rest,p=>∃ g A c rp,p=.pointer (some ⟨g,0,none⟩)∧F g∧Blk w g 184 [.slice none 0 0,.bool false,.int .i64 (nx:Int),.slice A k c,.pointer rp]∧TrR w F rest (.pointer rp) ∧
      ∀ i,i < k→∃ b o q,A=some ⟨b,o,none⟩∧F b∧w.cell? ⟨b,o + i,none⟩=some (.pointer q)∧TrR w F (vals i) (.pointer q)
theorem TrR.agree {w w':World} {F:Nat→Prop} (ha:Agree F w w'):∀ {T:Tr} {p:Value},TrR w F T p→TrR w' F T p
  | .nil,_,h=>h
  | .leaf ops,_,⟨g,ov,h1,h2,h3,h4⟩=>⟨g,ov,h1,h2,h3.keep (ha g h2),h4.agree ha⟩
  | .node nx k vals rest,_,⟨g,A,c,rp,h1,h2,h3,h4,h5⟩=>⟨g,A,c,rp,h1,h2,h3.keep (ha g h2),TrR.agree ha h4,fun i hi=>by
      obtain ⟨b,o,q,g1,g2,g3,g4⟩:=h5 i hi
      exact ⟨b,o,q,g1,g2,(ha.cell g2).trans g3,TrR.agree ha g4⟩⟩
theorem TrR.mono {w:World} {F G:Nat→Prop} (hk:∀ k,F k→G k):∀ {T:Tr} {p:Value},TrR w F T p→TrR w G T p
  | .nil,_,h=>h
  | .leaf ops,_,⟨g,ov,h1,h2,h3,h4⟩=>⟨g,ov,h1,hk _ h2,h3,h4.mono hk⟩
  | .node nx k vals rest,_,⟨g,A,c,rp,h1,h2,h3,h4,h5⟩=>⟨g,A,c,rp,h1,hk _ h2,h3,TrR.mono hk h4,fun i hi=>by
      obtain ⟨b,o,q,g1,g2,g3,g4⟩:=h5 i hi
      exact ⟨b,o,q,g1,hk _ g2,g3,TrR.mono hk g4⟩⟩
theorem TrR.form {w:World} {F:Nat→Prop}:∀ {T:Tr} {p:Value},TrR w F T p→∃ q,p=.pointer q
  | .nil,_,h=>⟨none,h⟩
  | .leaf _,_,⟨_,_,h,_⟩=>⟨_,h⟩
  | .node ..,_,⟨_,_,_,_,h,_⟩=>⟨_,h⟩
def atN (s:List Int) (i:Nat):Nat:=(s[i]?.getD 0).toNat
def coll (s:List Int):Tr→List Int
  | .nil=>[]
  | .leaf ops=>ops
  | .node nx _ vals rest=>coll s (vals (atN s nx)) ++ coll s rest
def look (s:List Int):Tr→List Bool→List Bool
  | .nil,l=>l
  | .leaf _,l=>l
  | .node nx _ vals rest,l=>look s rest (look s (vals (atN s nx)) (l.set nx true))
def Fits (s:List Int):Tr→Prop
  | .nil=>True
  | .leaf _=>True
  | .node nx k vals rest=>(∃ x:Nat,s[nx]?=some (x:Int)∧x < k)∧Fits s (vals (atN s nx))∧Fits s rest
theorem Fd (s:List Int):∀ (T:Tr) (l:List Bool),(look s T l).length=l.length
  | .nil,_=>rfl
  | .leaf _,_=>rfl
  | .node nx k vals rest,l=>by rw [look,Fd s rest,Fd s (vals _)];simp
theorem Own.own_ne {α β:Type} [Rp α] [Rp β] {w:World} {b1 b2:Nat} {F G:Nat→Prop} {e1 e2:TypeId} {u v:Value} {xs:List α} {ys:List β} (h:Own w b1 F e1 u xs) (k:Own w b2 G e2 v ys) (hne:e1≠e2):∀ g,u.ownBlock=some g→v.ownBlock≠some g:=by
  intro g hg hv
  obtain ⟨c1,h1,_⟩:=h
  obtain ⟨c2,h2,_⟩:=k
  rcases h1.2 with ⟨rfl,_⟩|⟨g1,cap1,cur1,rfl,_,hh1,_⟩
  · simp [Value.ownBlock] at hg
  · rcases h2.2 with ⟨rfl,_⟩|⟨g2,cap2,cur2,rfl,_,hh2,_⟩
    · simp [Value.ownBlock] at hv
    · have e1':g1=g:=by simpa [Value.ownBlock] using hg
      have e2':g2=g:=by simpa [Value.ownBlock] using hv
      subst e1';subst e2'
      rw [hh1] at hh2
      injection hh2 with hh2
      injection hh2 with _ ht
      exact hne ht
theorem Own.kept {α:Type} [Rp α] {w w':World} {base:Nat} {F:Nat→Prop} {e:TypeId} {v u:Value} {xs:List α} (h:Own w base F e v xs) (hK:Kept w w' u) (hF:∀ k,F k→k < w.heap.size∧u.ownBlock≠some k) (hne:∀ g,v.ownBlock=some g→u.ownBlock≠some g):Own w' base F e v xs :=
  h.agree (fun k hk=>hK.block k (hF k hk).1 (hF k hk).2) fun g hg=>hK.block g (h.lt g hg).2 (hne g hg)
theorem collect (B:Nat) (s:List Int):∀ (T:Tr) (w:World) (p ov sv lv:Value) (out:List Int) (looked:List Bool),B≤w.heap.size→TrR w (· < B) T p→Vb w (· < B) sv s→Own w B (· < B) 3 ov out→Own w B (· < B) 4 lv looked →
    Fits s T→looked.length=s.length→out.length + (coll s T).length≤1000000 →
    Fn Tryz.prog 102 [p,ov,sv,lv] w fun v w'=>Own w' B (· < B) 3 v (out ++ coll s T)∧Own w' B (· < B) 4 lv (look s T looked)∧Below B w w':=by
  intro T
  induction T with
  | nil =>
    intro w p ov sv lv out looked hB hT hs ho hl _ _ hlen
    have hp:p=.pointer none:=hT
    subst hp
    refine AL Tryz.func102 rfl Tryz.ntmps102 rfl ?_
    ((repeat (first|refine Ah ?_|refine Al ?_|refine Ae ?_|refine Am ?_|refine At ?_|refine Au ?_|refine Ar rfl ?_|refine Aj rfl ?_))<;>(refine o_as rfl rfl ?_<;>(first|refine Ay ?_|refine Az ?_|refine Aw ?_|refine AB ?_))<;>(repeat (first|refine Ah ?_|refine Al ?_|refine Ae ?_|refine Am ?_|refine At ?_|refine Au ?_|refine Ar rfl ?_|refine Aj rfl ?_))<;>(refine o_mv rfl rfl ?_<;>refine o_pn rfl rfl ?_<;>(first|refine Ay ?_|refine Az ?_|refine Aw ?_|refine AB ?_))<;>(repeat (first|refine Ah ?_|refine Al ?_|refine Ae ?_|refine Am ?_|refine At ?_|refine Au ?_|refine Ar rfl ?_|refine Aj rfl ?_))<;>(refine o_mv rfl rfl ?_<;>refine o_as rfl rfl ?_<;>(first|refine Ay ?_|refine Az ?_|refine Aw ?_|refine AB ?_))<;>(repeat (first|refine Ah ?_|refine Al ?_|refine Ae ?_|refine Am ?_|refine At ?_|refine Au ?_|refine Ar rfl ?_|refine Aj rfl ?_)))
    exact ret1 rfl rfl ⟨by simpa [coll] using ho,hl,Below.refl _ _⟩
  | leaf ops =>
    intro w p ov sv lv out looked hB hT hs ho hl _ _ hlen
    obtain ⟨g,opv',rfl,hg,hb1,hops⟩:=hT
    refine AL Tryz.func102 rfl Tryz.ntmps102 rfl ?_
    ((repeat (first|refine Ah ?_|refine Al ?_|refine Ae ?_|refine Am ?_|refine At ?_|refine Au ?_|refine Ar rfl ?_|refine Aj rfl ?_))<;>(refine o_as rfl rfl ?_<;>(first|refine Ay ?_|refine Az ?_|refine Aw ?_|refine AB ?_))<;>(repeat (first|refine Ah ?_|refine Al ?_|refine Ae ?_|refine Am ?_|refine At ?_|refine Au ?_|refine Ar rfl ?_|refine Aj rfl ?_))<;>(refine o_mv rfl rfl ?_<;>refine o_pn rfl rfl ?_<;>(first|refine Ay ?_|refine Az ?_|refine Aw ?_|refine AB ?_))<;>(repeat (first|refine Ah ?_|refine Al ?_|refine Ae ?_|refine Am ?_|refine At ?_|refine Au ?_|refine Ar rfl ?_|refine Aj rfl ?_))<;>(refine o_mv rfl rfl ?_<;>refine o_nc rfl rfl ?_<;>refine o_fa rfl rfl ?_<;>refine o_ld rfl rfl ?_<;>(first|refine Ay ?_|refine Az ?_|refine Aw ?_|refine AB ?_))<;>(repeat (first|refine Ah ?_|refine Al ?_|refine Ae ?_|refine Am ?_|refine At ?_|refine Au ?_|refine Ar rfl ?_|refine Aj rfl ?_))<;>(refine o_mv rfl rfl ?_<;>refine o_mv rfl rfl ?_<;>refine o_nc rfl rfl ?_<;>refine o_fa rfl rfl ?_<;>refine o_ld rfl rfl ?_)<;>(repeat (first|refine Ah ?_|refine Al ?_|refine Ae ?_|refine Am ?_|refine At ?_|refine Au ?_|refine Ar rfl ?_|refine Aj rfl ?_)))
    simp only [coll] at hlen
    refine Gj rfl rfl rfl ho (fun k hk=>Nat.lt_of_lt_of_le hk hB) hB hops (by decide) (by omega) (by omega) rfl fun v' w1 ho1 hK=>?_
    (refine o_as rfl rfl ?_<;>(first|refine Ay ?_|refine Az ?_|refine Aw ?_|refine AB ?_))
    repeat (first|refine Ah ?_|refine Al ?_|refine Ae ?_|refine Am ?_|refine At ?_|refine Au ?_|refine Ar rfl ?_|refine Aj rfl ?_)
    refine ret1 rfl rfl ⟨ho1,?_,ho.fits (Nat.le_refl _) hB hK⟩
    exact hl.kept hK (fun k hk=>⟨Nat.lt_of_lt_of_le hk hB,fun he=>by have:=(ho.lt k he).1;have:k < B:=hk;omega⟩) (fun g hg=>hl.own_ne ho (by decide) g hg)
  | node nx k vals rest ih1 ih2 =>
    intro w p ov sv lv out looked hB hT hs ho hl hfit hll hlen
    obtain ⟨g,A,c,rp,rfl,hg,hb1,hrest,hvals⟩:=hT
    obtain ⟨⟨x,hx,hxk⟩,hfit1,hfit2⟩:=hfit
    obtain ⟨bv,ovv,q,rfl,hbv,hcv,hq⟩:=hvals x hxk
    obtain ⟨As,cs,rfl⟩:=hs.form
    obtain ⟨bs,os,ce,rfl,hbs,_,hds,rfl,_⟩:=hs.elem hx
    have hnx:=Bh hx
    have hat:atN s nx=x:=by simp [atN,hx]
    obtain ⟨gl,capl,_,_,rfl,_⟩:=hl.open (by omega)
    refine AL Tryz.func102 rfl Tryz.ntmps102 rfl ?_
    have hll':nx < looked.length:=by omega
    ((repeat (first|refine Ah ?_|refine Al ?_|refine Ae ?_|refine Am ?_|refine At ?_|refine Au ?_|refine Ar rfl ?_|refine Aj rfl ?_))<;>(refine o_as rfl rfl ?_<;>(first|refine Ay ?_|refine Az ?_|refine Aw ?_|refine AB ?_))<;>(repeat (first|refine Ah ?_|refine Al ?_|refine Ae ?_|refine Am ?_|refine At ?_|refine Au ?_|refine Ar rfl ?_|refine Aj rfl ?_))<;>(refine o_mv rfl rfl ?_<;>refine o_pn rfl rfl ?_<;>(first|refine Ay ?_|refine Az ?_|refine Aw ?_|refine AB ?_))<;>(repeat (first|refine Ah ?_|refine Al ?_|refine Ae ?_|refine Am ?_|refine At ?_|refine Au ?_|refine Ar rfl ?_|refine Aj rfl ?_))<;>(refine o_mv rfl rfl ?_<;>refine o_nc rfl rfl ?_<;>refine o_fa rfl rfl ?_<;>refine o_ld rfl rfl ?_<;>(first|refine Ay ?_|refine Az ?_|refine Aw ?_|refine AB ?_))<;>(repeat (first|refine Ah ?_|refine Al ?_|refine Ae ?_|refine Am ?_|refine At ?_|refine Au ?_|refine Ar rfl ?_|refine Aj rfl ?_))<;>(refine o_mv rfl rfl ?_<;>refine o_mv rfl rfl ?_<;>refine o_nc rfl rfl ?_<;>refine o_fa rfl rfl ?_<;>refine o_ld rfl rfl ?_<;>refine o_ia rfl rfl rfl ?_)<;>(repeat (first|refine Ah ?_|refine Al ?_|refine Ae ?_|refine Am ?_|refine At ?_|refine Au ?_|refine Ar rfl ?_|refine Aj rfl ?_)))
    refine Is (i:=nx) (a:=true) rfl rfl rfl hl hll' (show Vb w (· < B) (.bool true) true from rfl) fun w1 hl1 hK1 hz1=>?_
    have hB1:Below B w w1:=hl.fits (Nat.le_refl _) hB hK1
    have ho1:Own w1 B (· < B) 3 ov out:=ho.kept hK1 (fun k hk=>⟨Nat.lt_of_lt_of_le hk hB,fun he=>by have:=(hl.lt k he).1;have:k < B:=hk;omega⟩) (fun g hg=>ho.own_ne hl (by decide) g hg)
    ((first|refine Ay ?_|refine Az ?_|refine Aw ?_|refine AB ?_))
    repeat (first|refine Ah ?_|refine Al ?_|refine Ae ?_|refine Am ?_|refine At ?_|refine Au ?_|refine Ar rfl ?_|refine Aj rfl ?_)
    have hag:∀ w',Below B w1 w'→Agree (· < B) w w':=fun w' h k hk=>(hB1.trans h).block k hk
    replace hb1:∀ w',Below B w1 w'→Blk w' g 184 [.slice none 0 0,.bool false,.int .i64 (nx:Int),.slice (some ⟨bv,ovv,none⟩) k c,.pointer rp]:=fun w' h=>hb1.keep (hag w' h g hg)
    have hd1:∀ w',Below B w1 w'→cellsAt w' bs (os + nx * 1) [.int .i64 (x:Int)]:=fun w' h=>Bd (hag w' h) hbs hds
    have hc1:∀ w',Below B w1 w'→w'.cell? ⟨bv,ovv + x * 1,none⟩=some (.pointer q):=fun w' h=>by rw [Nat.mul_one];exact ((hag w' h).cell hbv).trans hcv
    refine BV (Below B w1) [(0,true),(1,true),(2,true),(3,true),(4,true),(5,true),(6,true),(7,true),(8,true),(9,true),(10,true),(11,true),(12,true),(13,true),(14,true),(15,true),(16,true),(17,true),(18,true),(19,true),(21,true),(22,true),(20,false),(23,false),(24,true)] (by kernel_rfl) rfl (by kernel_rfl) (Below.refl _ _) ?_
    (refine h_mv rfl rfl rfl ?_<;>refine h_nc rfl rfl rfl ?_<;>refine h_fa rfl rfl rfl ?_<;>(first|refine h_ldB rfl rfl rfl ?_|refine h_ldC rfl rfl rfl ?_)<;>refine h_mv rfl rfl rfl ?_<;>refine h_nc rfl rfl rfl ?_<;>refine h_fa rfl rfl rfl ?_<;>(first|refine h_ldB rfl rfl rfl ?_|refine h_ldC rfl rfl rfl ?_)<;>refine h_mv rfl rfl rfl ?_<;>refine h_mv rfl rfl rfl ?_<;>refine h_nc rfl rfl rfl ?_<;>refine h_fa rfl rfl rfl ?_<;>(first|refine h_ldB rfl rfl rfl ?_|refine h_ldC rfl rfl rfl ?_)<;>refine h_ia rfl rfl rfl rfl ?_<;>(first|refine h_ldB rfl rfl rfl ?_|refine h_ldC rfl rfl rfl ?_)<;>refine h_ia rfl rfl rfl rfl ?_<;>(first|refine h_ldB rfl rfl rfl ?_|refine h_ldC rfl rfl rfl ?_)<;>refine h_mv rfl rfl rfl ?_<;>refine h_mv rfl rfl rfl ?_<;>refine h_mv rfl rfl rfl ?_<;>refine h_mv rfl rfl rfl ?_<;>refine h_mv rfl rfl rfl ?_)
    refine BB rfl ?_
    simp only [coll,hat,List.length_append] at hlen
    refine Bb rfl rfl (ih1 x w1 (.pointer q) ov _ _ out (looked.set nx true) (Nat.le_trans hB hB1.size) (TrR.agree (hag w1 (Below.refl _ _)) hq) (hs.agree (hag w1 (Below.refl _ _))) ho1 hl1 (hat ▸ hfit1) (by simpa using hll) (by omega)) ?_
    rintro v2 w2 ⟨ho2,hl2,hB2⟩
    refine BY hB2 ?_
    refine BB rfl ?_
    refine Bb rfl rfl (ih2 w2 (.pointer rp) v2 _ _ (out ++ coll s (vals x)) (look s (vals x) (looked.set nx true)) (Nat.le_trans hB (hB1.trans hB2).size) (TrR.agree (hag w2 hB2) hrest) (hs.agree (hag w2 hB2)) ho2 hl2 hfit2 (by rw [Fd];simpa using hll) (by rw [List.length_append];omega)) ?_
    rintro v3 w3 ⟨ho3,hl3,hB3⟩
    refine BY (hB2.trans hB3) ?_
    (refine h_as rfl rfl rfl ?_<;>(first|refine AK ?_|refine BW ?_|refine BX ?_))
    repeat (first|refine Ah ?_|refine Al ?_|refine Ae ?_|refine Am ?_|refine At ?_|refine Au ?_|refine Ar rfl ?_|refine Aj rfl ?_)
    exact ret1 rfl rfl ⟨by simpa [coll,hat] using ho3,by simpa [look,hat] using hl3,hB1.trans (hB2.trans hB3)⟩
end
section
open Go.Shelf
def Tryz.lays189_ren:Go.Shelf.Ren:=⟨fun|189=>103|125=>106|257=>105|128=>116|129=>117|294=>107|295=>108|296=>109|297=>110|298=>111|299=>112|216=>113|300=>114|301=>115|328=>118|329=>119|330=>120|331=>121|332=>122|215=>123|343=>124|n=>n,fun|28=>22|3=>3|46=>186|0=>0|51=>198|53=>167|4=>4|183=>192|182=>191|131=>41|5=>5|9=>9|218=>200|222=>203|228=>205|229=>206|n=>n,fun|n=>n⟩
theorem Tryz.lays189:Go.Proofs.Lays.n189 Tryz.prog Tryz.lays189_ren:={
  mixed:=by kernel_rfl
  f125:=Tryz.func106.trans (congrArg some (by kernel_rfl))
  f128:=Tryz.func116.trans (congrArg some (by kernel_rfl))
  f129:=Tryz.func117.trans (congrArg some (by kernel_rfl))
  f189:=Tryz.func103.trans (congrArg some (by kernel_rfl))
  f215:=Tryz.func123.trans (congrArg some (by kernel_rfl))
  f216:=Tryz.func113.trans (congrArg some (by kernel_rfl))
  f257:=Tryz.func105.trans (congrArg some (by kernel_rfl))
  f294:=Tryz.func107.trans (congrArg some (by kernel_rfl))
  f295:=Tryz.func108.trans (congrArg some (by kernel_rfl))
  f296:=Tryz.func109.trans (congrArg some (by kernel_rfl))
  f297:=Tryz.func110.trans (congrArg some (by kernel_rfl))
  f298:=Tryz.func111.trans (congrArg some (by kernel_rfl))
  f299:=Tryz.func112.trans (congrArg some (by kernel_rfl))
  f300:=Tryz.func114.trans (congrArg some (by kernel_rfl))
  f301:=Tryz.func115.trans (congrArg some (by kernel_rfl))
  f328:=Tryz.func118.trans (congrArg some (by kernel_rfl))
  f329:=Tryz.func119.trans (congrArg some (by kernel_rfl))
  f330:=Tryz.func120.trans (congrArg some (by kernel_rfl))
  f331:=Tryz.func121.trans (congrArg some (by kernel_rfl))
  f332:=Tryz.func122.trans (congrArg some (by kernel_rfl))
  f343:=Tryz.func124.trans (congrArg some (by kernel_rfl))
  t0:=Tryz.underlying0
  a0:=Tryz.isAgg0
  z0:=Tryz.sizeOf0
  v0:=Tryz.zeroValue0
  t3:=Tryz.underlying3
  a3:=Tryz.isAgg3
  z3:=Tryz.sizeOf3
  v3:=Tryz.zeroValue3
  t4:=Tryz.underlying4
  a4:=Tryz.isAgg4
  z4:=Tryz.sizeOf4
  v4:=Tryz.zeroValue4
  t5:=Tryz.underlying5
  a5:=Tryz.isAgg5
  z5:=Tryz.sizeOf5
  v5:=Tryz.zeroValue5
  t9:=Tryz.underlying9
  a9:=Tryz.isAgg9
  z9:=Tryz.sizeOf9
  v9:=Tryz.zeroValue9
  t28:=Tryz.underlying22
  a28:=Tryz.isAgg22
  z28:=Tryz.sizeOf22
  v28:=Tryz.zeroValue22
  t46:=Tryz.underlying186
  a46:=Tryz.isAgg186
  z46:=Tryz.sizeOf186
  v46:=Tryz.zeroValue186
  t51:=Tryz.underlying198
  a51:=Tryz.isAgg198
  z51:=Tryz.sizeOf198
  v51:=Tryz.zeroValue198
  t53:=Tryz.underlying167
  a53:=Tryz.isAgg167
  z53:=Tryz.sizeOf167
  v53:=Tryz.zeroValue167
  t131:=Tryz.underlying41
  a131:=Tryz.isAgg41
  z131:=Tryz.sizeOf41
  v131:=Tryz.zeroValue41
  t182:=Tryz.underlying191
  a182:=Tryz.isAgg191
  z182:=Tryz.sizeOf191
  v182:=Tryz.zeroValue191
  t183:=Tryz.underlying192
  a183:=Tryz.isAgg192
  z183:=Tryz.sizeOf192
  v183:=Tryz.zeroValue192
  t218:=Tryz.underlying200
  a218:=Tryz.isAgg200
  z218:=Tryz.sizeOf200
  v218:=Tryz.zeroValue200
  t222:=Tryz.underlying203
  a222:=Tryz.isAgg203
  z222:=Tryz.sizeOf203
  v222:=Tryz.zeroValue203
  t228:=Tryz.underlying205
  a228:=Tryz.isAgg205
  z228:=Tryz.sizeOf205
  v228:=Tryz.zeroValue205
  t229:=Tryz.underlying206
  a229:=Tryz.isAgg206
  z229:=Tryz.sizeOf206
  v229:=Tryz.zeroValue206 }
open Go.Sort Go.RowKit in
theorem Tryz.slices_Sort_int (blk off cap:Nat) (zs:List Int) (w:World) (hH:Holds (Value.int .i64) w blk off zs.toArray) (hblk:blk < w.heap.size) (hsz:zs.length < 4611686018427387904) :
    Calls Tryz.prog 103 #[.slice (some ⟨blk,off,none⟩) zs.length cap] w fun e w' =>
      e=.returned (.tuple #[])∧∃ n os,w'=grow (putRow (Value.int .i64) (Sort.ahead w n) blk off (zs.mergeSort fun x y=>decide (x≤y)).toArray) os:=Any.slices_Sort_int Tryz.lays189 blk off cap zs w hH hblk hsz
open Go.RowKit Go.Sort in
theorem Tryz.slices_Sort_int_none (p:Option Addr) (cap:Nat) (w:World) :
    Calls Tryz.prog 103 #[.slice p 0 cap] w fun e w'=>e=.returned (.tuple #[])∧w'=w:=Any.slices_Sort_int_none Tryz.lays189 p cap w
end
section
open Go Go.RowKit
def sortL (xs:List Int):List Int:=xs.mergeSort fun x y=>decide (x≤y)
theorem Db (xs:List Int):(sortL xs).length=xs.length:=List.length_mergeSort xs
theorem Hh {w:World} {F:Nat→Prop}:∀ {xs:List Int} {cells:List Value},Chunks w F cells xs→cells=xs.map (Value.int .i64)∧∀ x∈xs,inI64 x
  | [],_,h=>⟨h,fun _ hx=>by simp at hx⟩
  | x :: xs,cells,⟨cs,rest,he,hr,hc⟩=>by
    obtain ⟨h1,h2⟩:=Hh hc
    obtain ⟨h3,h4⟩:=hr
    refine ⟨by rw [he,h3,h1];rfl,fun y hy=>?_⟩
    rcases List.mem_cons.1 hy with rfl|hy
    · exact h4
    · exact h2 y hy
theorem Hi {w:World} {F:Nat→Prop}:∀ {xs:List Int},(∀ x∈xs,inI64 x)→Chunks w F (xs.map (Value.int .i64)) xs
  | [],_=>rfl
  | x :: xs,h=>⟨[.int .i64 x],xs.map (Value.int .i64),rfl,⟨rfl,h x (by simp)⟩,Hi fun y hy=>h y (by simp [hy])⟩
theorem sortInts {w:World} {base:Nat} {F:Nat→Prop} {v:Value} {xs:List Int} (h:Own w base F 3 v xs) (hl:xs.length≤1000000) :
    Fn Tryz.prog 103 [v] w fun r w'=>r=.tuple #[]∧Own w' base F 3 v (sortL xs)∧Kept w w' v:=by
  intro d
  rcases Nat.eq_zero_or_pos xs.length with h0|h0
  · have hx:xs=[]:=List.eq_nil_of_length_eq_zero h0
    subst hx
    have hv:∃ p c,v=.slice p 0 c:=by
      obtain ⟨cells,h1,_⟩:=h
      rcases h1.2 with ⟨rfl,_⟩|⟨g,cap,cur,rfl,_⟩
      · exact ⟨_,_,rfl⟩
      · exact ⟨_,_,rfl⟩
    obtain ⟨p,c,rfl⟩:=hv
    refine (Tryz.slices_Sort_int_none p c (dr w d)).mono fun e w' ⟨he,hw⟩=>⟨_,w,d,he,hw,rfl,by simpa [sortL] using h,⟨rfl,rfl,rfl,Nat.le_refl _,fun _ _ _=>rfl⟩⟩
  · obtain ⟨g,cap,cells,sp,rfl,hg,hFg,hb,hc,hlen,hnc,hcm,htot⟩:=h.open h0
    obtain ⟨rfl,hin⟩:=Hh hc
    have hH:Go.Sort.Holds (Value.int .i64) (dr w d) g 0 xs.toArray:=fun j hj=>by
      have hj':j < xs.length:=by simpa using hj
      refine ⟨?_,by rw [Nat.zero_add];exact hb.frozen j⟩
      rw [Nat.zero_add]
      refine hb.cell ?_
      rw [List.getElem?_append_left (by simpa using hj'),List.getElem?_map,List.getElem?_eq_getElem hj']
      simp [hj']
    refine (Tryz.slices_Sort_int g 0 cap xs (dr w d) hH hb.lt (by omega)).mono fun e w' ⟨he,n,os,hw⟩=>⟨_,w',w'.drawn,he,rfl,rfl,?_,?_⟩
    · have hblk:Blk w' g 3 ((sortL xs).map (Value.int .i64) ++ sp):=by
        subst hw
        unfold Blk at hb ⊢
        have hsz:g < w.heap.size:=Blk.lt hb
        show ((w.heap.modify g _) ++ os)[g]?=_
        rw [Array.getElem?_append_left (by simpa using hsz),Array.getElem?_modify,if_pos rfl,hb]
        simp only [Option.map_some,Go.Sort.onCells]
        congr 2
        apply Array.ext
        · simp [Go.Sort.putCells,Db]
        · intro i h1 h2
          simp only [Go.Sort.putCells,Array.getElem_mapIdx,Nat.zero_add,Nat.sub_zero,Nat.zero_le,true_and]
          have e1:(List.mergeSort xs fun x y=>decide (x≤y)).length=xs.length:=List.length_mergeSort xs
          by_cases hi:i < xs.length
          · rw [if_pos (by simpa [e1] using hi)]
            simp only [List.getElem_toArray]
            rw [List.getElem_append_left (by simpa [Db] using hi),List.getElem_map]
            congr 1
            rw [getElem!_pos _ _ (by simpa [e1] using hi)]
            simp [sortL]
          · rw [if_neg (by simpa [e1] using hi)]
            simp only [List.getElem_toArray]
            rw [List.getElem_append_right (by simp;omega),List.getElem_append_right (by simp [Db];omega)]
            simp [Db]
      have:=Own.close (w:=w') (base:=base) (cap:=cap) hg hFg hblk (Hi (F:=F) (w:=w') fun x hx=>hin x (by
        have:=(List.mergeSort_perm xs fun x y=>decide (x≤y)).mem_iff.1 hx
        exact this)) (by rw [Db];exact hnc) hcm (by simpa [Db] using htot)
      rwa [Db] at this
    · subst hw
      refine ⟨rfl,rfl,rfl,?_,fun k hk hne=>?_⟩
      · show w.heap.size≤((w.heap.modify g _) ++ os).size
        simp
      · have hkg:g≠k:=fun e=>hne (by simp [Value.ownBlock,e])
        show ((w.heap.modify g _) ++ os)[k]?=_
        rw [Array.getElem?_append_left (by simpa using hk),Array.getElem?_modify,if_neg hkg]
end
section
open Go Go.RowKit
attribute [local irreducible] ewp owp hwp hwq hws Ev Evg Fn retPost loud loudS Res1
def GenR (w:World) (F:Nat→Prop) (gv:Value) (t:Tsk) (T:Tr):Prop :=
  ∃ gb a b c d r,gv=.pointer (some ⟨gb,0,none⟩)∧F gb∧Blk w gb 151 [a,b,c,d,r]∧Vb w F a t.vars∧Vb w F b t.init∧Vb w F c t.goal∧Vb w F d t.ops∧TrR w F T r
theorem Ky (z:Value) (n:Nat) (hz:z.cells=#[z]):(madeCells z.cells (n * 1)).toList=List.replicate n z:=by
  rw [hz,Nat.mul_one]
  apply List.ext_getElem
  · simp [madeCells]
  · intro i h1 h2
    simp [madeCells,Nat.mod_one]
theorem HI {w:World} {F:Nat→Prop}:∀ n,Chunks w F (List.replicate n (.bool false)) (List.replicate n false)
  | 0=>rfl
  | n + 1=>⟨[.bool false],List.replicate n (.bool false),rfl,rfl,HI n⟩
noncomputable def findL (t:Tsk) (T:Tr) (s:List Int):List Int:=if bof (StateOk t.vars s)=true then sortL (coll s T) else []
noncomputable def findN (t:Tsk) (T:Tr) (s:List Int):Nat:=if bof (StateOk t.vars s)=true then (look s T (List.replicate s.length false)).count true else 0
theorem Mf {l:List Bool} {k:Nat} {b:Bool} (h:l[k]?=some b):(l.take (k + 1)).count true=(l.take k).count true + if b=true then 1 else 0:=by
  rw [List.take_add_one,h,List.count_append]
  cases b<;>simp
theorem genFind {w:World} {gv sv:Value} {t:Tsk} {T:Tr} {s:List Int} (hg:GenR w (All w) gv t T) (hs:V w sv s) (hfit:StateOk t.vars s→Fits s T) (hlen:(coll s T).length≤1000000) (hsl:s.length≤1000000) :
    Fn Tryz.prog 94 [gv,sv] w fun v w'=>Ext w w'∧∃ u,v=.tuple #[u,.int .i64 (findN t T s:Int)]∧Own w' w.heap.size (All w) 3 u (findL t T s):=by
  obtain ⟨gb,a,b,c,d,r,rfl,hgb,hb1,hvars,hinit,hgoal,hops,hT⟩:=hg
  obtain ⟨Av,cv,rfl⟩:=hvars.form
  obtain ⟨As,cs,rfl⟩:=hs.form
  obtain ⟨rp,rfl⟩:=hT.form
  refine AL Tryz.func94 rfl Tryz.ntmps94 rfl ?_
  ((repeat (first|refine Ah ?_|refine Al ?_|refine Ae ?_|refine Am ?_|refine At ?_|refine Au ?_|refine Ar rfl ?_|refine Aj rfl ?_))<;>(refine o_as rfl rfl ?_<;>refine o_as rfl rfl ?_<;>(first|refine Ay ?_|refine Az ?_|refine Aw ?_|refine AB ?_))<;>(repeat (first|refine Ah ?_|refine Al ?_|refine Ae ?_|refine Am ?_|refine At ?_|refine Au ?_|refine Ar rfl ?_|refine Aj rfl ?_))<;>(refine o_mv rfl rfl ?_<;>refine o_pn rfl rfl ?_<;>refine o_mv rfl rfl ?_<;>(first|(refine AE rfl rfl ?_;refine o_mv rfl rfl ?_)|refine AC rfl rfl rfl rfl ?_)<;>(first|(refine AE rfl rfl ?_;refine o_nc rfl rfl ?_)|refine AC rfl rfl rfl rfl ?_)<;>(first|(refine AE rfl rfl ?_;refine o_fa rfl rfl ?_)|refine AC rfl rfl rfl rfl ?_)<;>(first|(refine AE rfl rfl ?_;refine o_fa rfl rfl ?_)|refine AC rfl rfl rfl rfl ?_)<;>(first|(refine AE rfl rfl ?_;refine o_ld rfl rfl ?_)|refine AC rfl rfl rfl rfl ?_)<;>(first|(refine AE rfl rfl ?_;refine o_mv rfl rfl ?_)|refine AC rfl rfl rfl rfl ?_))<;>(repeat (first|refine Ah ?_|refine Al ?_|refine Ae ?_|refine Am ?_|refine At ?_|refine Au ?_|refine Ar rfl ?_|refine Aj rfl ?_)))
  refine AE rfl rfl ?_
  refine Cp rfl rfl (taskProper hvars hs) ?_ ?_
  case refine_2 =>
    intro w1 hP hE1
    ((first|(refine AE rfl rfl ?_;(first|refine o_nt rfl rfl ?_|refine o_nf rfl rfl ?_|refine o_nn rfl rfl ?_))|refine AC rfl rfl rfl rfl ?_)<;>(first|refine o_pt rfl rfl rfl ?_|refine o_pf rfl rfl rfl ?_)<;>(first|refine Ay ?_|refine Az ?_|refine Aw ?_|refine AB ?_))
    repeat (first|refine Ah ?_|refine Al ?_|refine Ae ?_|refine Am ?_|refine At ?_|refine Au ?_|refine Ar rfl ?_|refine Aj rfl ?_)
    ((repeat (first|refine Ah ?_|refine Al ?_|refine Ae ?_|refine Am ?_|refine At ?_|refine Au ?_|refine Ar rfl ?_|refine Aj rfl ?_))<;>(refine o_as rfl rfl ?_<;>refine o_as rfl rfl ?_<;>(first|refine Ay ?_|refine Az ?_|refine Aw ?_|refine AB ?_))<;>(repeat (first|refine Ah ?_|refine Al ?_|refine Ae ?_|refine Am ?_|refine At ?_|refine Au ?_|refine Ar rfl ?_|refine Aj rfl ?_)))
    refine ret2 rfl (AG rfl) (AG rfl) ⟨hE1,.slice none 0 0,?_,?_⟩
    · rw [findN,bof_f hP];rfl
    · rw [findL,bof_f hP];exact Own.nil _ _ _ _
  intro w1 hok hE1
  replace hb1:=hb1.ext hE1
  ((first|(refine AE rfl rfl ?_;(first|refine o_nt rfl rfl ?_|refine o_nf rfl rfl ?_|refine o_nn rfl rfl ?_))|refine AC rfl rfl rfl rfl ?_)<;>(first|refine o_pt rfl rfl rfl ?_|refine o_pf rfl rfl rfl ?_)<;>(first|refine Ay ?_|refine Az ?_|refine Aw ?_|refine AB ?_))
  repeat (first|refine Ah ?_|refine Al ?_|refine Ae ?_|refine Am ?_|refine At ?_|refine Au ?_|refine Ar rfl ?_|refine Aj rfl ?_)
  (refine o_mv rfl rfl ?_<;>refine o_ln rfl rfl ?_)
  refine IA rfl rfl (by omega) (by omega) rfl fun w2 hN2=>?_
  replace hb1:=hb1.ext hN2.ext
  have hE2:Ext w w2:=hE1.trans' hN2.ext
  have hl2:Own w2 w.heap.size (· < w.heap.size) 4 (.slice (some ⟨w1.heap.size,0,none⟩) s.length s.length) (List.replicate s.length false) :=
    (Own.made hN2 (by rw [Ky _ _ rfl];exact HI _) (by simp) (by have:=hE1.size;omega) (by omega)).lower hE1.size
  (refine o_as rfl rfl ?_<;>(first|refine Ay ?_|refine Az ?_|refine Aw ?_|refine AB ?_))
  repeat (first|refine Ah ?_|refine Al ?_|refine Ae ?_|refine Am ?_|refine At ?_|refine Au ?_|refine Ar rfl ?_|refine Aj rfl ?_)
  (refine o_mv rfl rfl ?_<;>refine o_nc rfl rfl ?_<;>refine o_fa rfl rfl ?_<;>refine o_ld rfl rfl ?_<;>refine o_mv rfl rfl ?_<;>refine o_mv rfl rfl ?_)
  refine Bb rfl rfl (collect w.heap.size s T w2 (.pointer rp) (.slice none 0 0) _ _ [] _ hE2.size (TrR.agree (hE2.agree fun _ h=>h) hT) (Vb.agree hs (hE2.agree fun _ h=>h)) (Own.nil _ _ _ _) hl2 (hfit hok) (by simp) (by simpa using hlen)) ?_
  rintro v3 w3 ⟨ho3,hl3,hB3⟩
  have hE3:Ext w w3:=hE2.trans hB3
  rw [List.nil_append] at ho3
  (refine o_as rfl rfl ?_<;>(first|refine Ay ?_|refine Az ?_|refine Aw ?_|refine AB ?_))
  repeat (first|refine Ah ?_|refine Al ?_|refine Ae ?_|refine Am ?_|refine At ?_|refine Au ?_|refine Ar rfl ?_|refine Aj rfl ?_)
  (refine o_mv rfl rfl ?_)
  refine Bb rfl rfl (sortInts ho3 hlen) ?_
  rintro _ w4 ⟨rfl,ho4,hK4⟩
  have hE4:Ext w w4:=hE3.trans (ho3.fits (Nat.le_refl _) hE3.size hK4)
  have hl4:=hl3.kept hK4 (fun k hk=>⟨Nat.lt_of_lt_of_le hk hE3.size,fun he=>by have:=(ho3.lt k he).1;have:k < w.heap.size:=hk;omega⟩) (fun g hg=>hl3.own_ne ho3 (by decide) g hg)
  have hlv:Vb w4 _ (.slice (some ⟨w1.heap.size,0,none⟩) s.length s.length) (look s T (List.replicate s.length false)):=hl4.vb
  have hll:(look s T (List.replicate s.length false)).length=s.length:=by rw [Fd];simp
  ((first|refine Ay ?_|refine Az ?_|refine Aw ?_|refine AB ?_))
  repeat (first|refine Ah ?_|refine Al ?_|refine Ae ?_|refine Am ?_|refine At ?_|refine Au ?_|refine Ar rfl ?_|refine Aj rfl ?_)
  ((repeat (first|refine Ah ?_|refine Al ?_|refine Ae ?_|refine Am ?_|refine At ?_|refine Au ?_|refine Ar rfl ?_|refine Aj rfl ?_))<;>(refine o_as rfl rfl ?_<;>(first|refine Ay ?_|refine Az ?_|refine Aw ?_|refine AB ?_))<;>(repeat (first|refine Ah ?_|refine Al ?_|refine Ae ?_|refine Am ?_|refine At ?_|refine Au ?_|refine Ar rfl ?_|refine Aj rfl ?_))<;>(refine o_mv rfl rfl ?_<;>refine o_ln rfl rfl ?_<;>refine o_mv rfl rfl ?_<;>(first|refine Ay ?_|refine Az ?_|refine Aw ?_|refine AB ?_))<;>(repeat (first|refine Ah ?_|refine Al ?_|refine Ae ?_|refine Am ?_|refine At ?_|refine Au ?_|refine Ar rfl ?_|refine Aj rfl ?_)))
  refine Bp s.length (by omega) (fun n:Nat=>[(7,v3),(8,.int .i64 (n:Int)),(35,.slice (some ⟨w1.heap.size,0,none⟩) s.length s.length)]) (fun k n w'=>w'=w4∧n=((look s T (List.replicate s.length false)).take k).count true) 0
    ⟨rfl,by simp⟩ ⟨rfl,rfl,rfl,rfl,rfl,trivial⟩ (fun _=>⟨rfl,rfl⟩) ⟨rfl,rfl,rfl⟩ ⟨rfl,rfl⟩ ?_ ?_
  · rintro k n _ hk ⟨rfl,hn⟩
    obtain ⟨x,hx⟩:=AH (l:=look s T (List.replicate s.length false)) (k:=k) (by omega)
    obtain ⟨b2,o2,ce,he,_,_,hd1,rfl⟩:=hlv.elem hx
    injection he with he
    injection he with he1 he2
    subst he1;subst he2
    have hnl:n≤k:=by
      rw [hn]
      exact Nat.le_trans List.count_le_length (by rw [List.length_take];omega)
    have hst:=Mf hx
    cases x
    · ((repeat (first|refine Ah ?_|refine Al ?_|refine Ae ?_|refine Am ?_|refine At ?_|refine Au ?_|refine Ar rfl ?_|refine Aj rfl ?_))<;>(refine o_ia rfl rfl rfl ?_<;>refine o_ld rfl rfl ?_<;>refine o_as rfl rfl ?_<;>(first|refine Ay ?_|refine Az ?_|refine Aw ?_|refine AB ?_))<;>(repeat (first|refine Ah ?_|refine Al ?_|refine Ae ?_|refine Am ?_|refine At ?_|refine Au ?_|refine Ar rfl ?_|refine Aj rfl ?_))<;>(refine o_mv rfl rfl ?_<;>(first|refine Ay ?_|refine Az ?_|refine Aw ?_|refine AB ?_))<;>(repeat (first|refine Ah ?_|refine Al ?_|refine Ae ?_|refine Am ?_|refine At ?_|refine Au ?_|refine Ar rfl ?_|refine Aj rfl ?_)))
      exact ⟨n,⟨rfl,rfl,rfl,rfl,rfl,trivial⟩,rfl,by rw [hst,hn];simp⟩
    · ((repeat (first|refine Ah ?_|refine Al ?_|refine Ae ?_|refine Am ?_|refine At ?_|refine Au ?_|refine Ar rfl ?_|refine Aj rfl ?_))<;>(refine o_ia rfl rfl rfl ?_<;>refine o_ld rfl rfl ?_<;>refine o_as rfl rfl ?_<;>(first|refine Ay ?_|refine Az ?_|refine Aw ?_|refine AB ?_))<;>(repeat (first|refine Ah ?_|refine Al ?_|refine Ae ?_|refine Am ?_|refine At ?_|refine Au ?_|refine Ar rfl ?_|refine Aj rfl ?_))<;>(refine o_mv rfl rfl ?_<;>(first|refine Ay ?_|refine Az ?_|refine Aw ?_|refine AB ?_))<;>(repeat (first|refine Ah ?_|refine Al ?_|refine Ae ?_|refine Am ?_|refine At ?_|refine Au ?_|refine Ar rfl ?_|refine Aj rfl ?_))<;>(refine o_mv rfl rfl ?_<;>(first|refine o_ic rfl rfl ?_|refine o_ad rfl rfl rfl ?_)<;>refine o_as rfl rfl ?_<;>(first|refine Ay ?_|refine Az ?_|refine Aw ?_|refine AB ?_))<;>(repeat (first|refine Ah ?_|refine Al ?_|refine Ae ?_|refine Am ?_|refine At ?_|refine Au ?_|refine Ar rfl ?_|refine Aj rfl ?_)))
      exact ⟨n + 1,⟨rfl,rfl,rfl,rfl,rfl,trivial⟩,rfl,by rw [hst,hn];simp⟩
  rintro n _ ⟨rfl,hn⟩
  repeat (first|refine Ah ?_|refine Al ?_|refine Ae ?_|refine Am ?_|refine At ?_|refine Au ?_|refine Ar rfl ?_|refine Aj rfl ?_)
  ((repeat (first|refine Ah ?_|refine Al ?_|refine Ae ?_|refine Am ?_|refine At ?_|refine Au ?_|refine Ar rfl ?_|refine Aj rfl ?_))<;>(refine o_mv rfl rfl ?_<;>refine o_mv rfl rfl ?_<;>refine o_as rfl rfl ?_<;>refine o_as rfl rfl ?_<;>(first|refine Ay ?_|refine Az ?_|refine Aw ?_|refine AB ?_))<;>(repeat (first|refine Ah ?_|refine Al ?_|refine Ae ?_|refine Am ?_|refine At ?_|refine Au ?_|refine Ar rfl ?_|refine Aj rfl ?_)))
  refine ret2 rfl (AG rfl) (AG rfl) ⟨hE4,v3,?_,?_⟩
  · rw [findN,bof_t hok,if_pos rfl,hn,List.take_of_length_le (by omega)]
  · rw [findL,bof_t hok,if_pos rfl]
    exact ho4
section
variable {w : World} {gv sv : Value} {t : Tsk} {T : Tr} {s : List Int}
theorem genApplicable (hg:GenR w (All w) gv t T) (hs:V w sv s) (hfit:StateOk t.vars s→Fits s T) (hlen:(coll s T).length≤1000000) (hsl:s.length≤1000000) :
    Fn Tryz.prog 82 [gv,sv] w fun v w'=>Ext w w'∧Own w' w.heap.size (All w) 3 v (findL t T s):=by
  refine AL Tryz.func82 rfl Tryz.ntmps82 rfl ?_
  ((repeat (first|refine Ah ?_|refine Al ?_|refine Ae ?_|refine Am ?_|refine At ?_|refine Au ?_|refine Ar rfl ?_|refine Aj rfl ?_))<;>(refine o_as rfl rfl ?_<;>(first|refine Ay ?_|refine Az ?_|refine Aw ?_|refine AB ?_))<;>(repeat (first|refine Ah ?_|refine Al ?_|refine Ae ?_|refine Am ?_|refine At ?_|refine Au ?_|refine Ar rfl ?_|refine Aj rfl ?_))<;>(refine o_mv rfl rfl ?_<;>refine o_mv rfl rfl ?_)<;>(repeat (first|refine Ah ?_|refine Al ?_|refine Ae ?_|refine Am ?_|refine At ?_|refine Au ?_|refine Ar rfl ?_|refine Aj rfl ?_)))
  refine Bb rfl rfl (genFind hg hs hfit hlen hsl) ?_
  rintro _ w1 ⟨hE,u,rfl,ho⟩
  (refine o_mv rfl rfl ?_<;>refine o_ex rfl rfl rfl ?_<;>refine o_ex rfl rfl rfl ?_<;>refine o_as rfl rfl ?_<;>refine o_as rfl rfl ?_<;>(first|refine Ay ?_|refine Az ?_|refine Aw ?_|refine AB ?_))
  repeat (first|refine Ah ?_|refine Al ?_|refine Ae ?_|refine Am ?_|refine At ?_|refine Au ?_|refine Ar rfl ?_|refine Aj rfl ?_)
  ((repeat (first|refine Ah ?_|refine Al ?_|refine Ae ?_|refine Am ?_|refine At ?_|refine Au ?_|refine Ar rfl ?_|refine Aj rfl ?_))<;>(refine o_mv rfl rfl ?_<;>refine o_as rfl rfl ?_<;>(first|refine Ay ?_|refine Az ?_|refine Aw ?_|refine AB ?_))<;>(repeat (first|refine Ah ?_|refine Al ?_|refine Ae ?_|refine Am ?_|refine At ?_|refine Au ?_|refine Ar rfl ?_|refine Aj rfl ?_)))
  exact ret1 rfl rfl ⟨hE,ho⟩
theorem Own.form {α:Type} [Rp α] {w:World} {base:Nat} {F:Nat→Prop} {e:TypeId} {v:Value} {xs:List α} (h:Own w base F e v xs):∃ A c,v=.slice A xs.length c:=h.vb.form
end
structure Suc where
  op:Int
  state:List Int
instance:Rp Suc where
  isAgg:=true
  size:=2
  R w F cs x:=∃ v,cs=[.int .i64 x.op,v]∧Vb w F v x.state∧inI64 x.op
  len:=by rintro w F cs x ⟨v,rfl,_⟩;rfl
  one:=by rintro w F cs x ⟨v,rfl,h,_⟩ u hu;simp at hu;rcases hu with rfl|rfl<;>first|rfl|exact Vb.one rfl (by assumption)
  agree:=by rintro w w' F cs x ⟨v,rfl,h,h2⟩ ha;exact ⟨v,rfl,h.agree ha,h2⟩
  mono:=by rintro w F G cs x ⟨v,rfl,h,h2⟩ ha;exact ⟨v,rfl,h.mono ha,h2⟩
def sucOf (t:Tsk) (s:List Int) (op:Int):Suc:=⟨op,match t.ops[op.toNat]? with|some o=>succ o s|none=>s⟩
end
section
open Go Go.RowKit
attribute [local irreducible] ewp owp hwp hwq hws Ev Evg Fn retPost loud loudS Res1
def GenB (w:World) (F:Nat→Prop) (gv:Value) (t:Tsk):Prop :=
  ∃ gb a b c d rp,gv=.pointer (some ⟨gb,0,none⟩)∧F gb∧Blk w gb 151 [a,b,c,d,.pointer rp]∧Vb w F a t.vars∧Vb w F b t.init∧Vb w F c t.goal∧Vb w F d t.ops
theorem GenB.agree {w w':World} {F:Nat→Prop} {gv:Value} {t:Tsk} (h:GenB w F gv t) (ha:Agree F w w'):GenB w' F gv t:=by
  obtain ⟨gb,a,b,c,d,r,h1,h2,h3,h4,h5,h6,h7⟩:=h
  exact ⟨gb,a,b,c,d,r,h1,h2,h3.keep (ha gb h2),h4.agree ha,h5.agree ha,h6.agree ha,h7.agree ha⟩
theorem GenB.mono {w:World} {F G:Nat→Prop} {gv:Value} {t:Tsk} (h:GenB w F gv t) (ha:∀ k,F k→G k):GenB w G gv t:=by
  obtain ⟨gb,a,b,c,d,r,h1,h2,h3,h4,h5,h6,h7⟩:=h
  exact ⟨gb,a,b,c,d,r,h1,ha _ h2,h3,h4.mono ha,h5.mono ha,h6.mono ha,h7.mono ha⟩
theorem GenB.ext {w w':World} {gv:Value} {t:Tsk} (h:GenB w (All w) gv t) (hE:Ext w w'):GenB w' (All w') gv t:=(h.agree (hE.agree fun _ h=>h)).mono fun k hk=>Nat.lt_of_lt_of_le hk hE.size
def factOn (l:List Fct) (v:Int):Option Fct:=l.find? fun f=>decide (f.var=v)
def factV:Option Fct→Value
  | some f=>.tuple #[.agg #[.int .i64 f.var,.int .i64 f.val],.bool true]
  | none=>.tuple #[.agg #[.int .i64 0,.int .i64 0],.bool false]
theorem JQ {α:Type} (p:α→Bool):∀ {l:List α} {k:Nat} {x:α},l[k]?=some x→p x=true→(∀ i,i < k→∀ y,l[i]?=some y→p y=false)→l.find? p=some x
  | [],_,_,h,_,_=>by simp at h
  | y :: l,0,x,h,hp,_=>by
    have:y=x:=by simpa using h
    subst this;simp [hp]
  | y :: l,k + 1,x,h,hp,hn=>by
    have hy:=hn 0 (by omega) y rfl
    rw [List.find?_cons,hy]
    exact JQ p (k:=k) (by simpa using h) hp fun i hi z hz=>hn (i + 1) (by omega) z (by simpa using hz)
theorem MN {α:Type} (p:α→Bool) {l:List α} (hn:∀ i,i < l.length→∀ y,l[i]?=some y→p y=false):l.find? p=none:=by
  rw [List.find?_eq_none]
  intro x hx
  obtain ⟨i,hi⟩:=List.getElem?_of_mem hx
  simp [hn i (Bh hi) x hi]
theorem genFact {w:World} {gv:Value} {t:Tsk} {j:Nat} {o:Opr} {v:Int} (hg:GenB w (All w) gv t) (ho:t.ops[j]?=some o) :
    Fn Tryz.prog 101 [gv,.int .i64 (j:Int),.int .i64 v] w fun r w'=>r=factV (factOn o.pre v)∧Ext w w':=by
  obtain ⟨gb,a,b,c,d,rp,rfl,hgb,hb0,hvars,hinit,hgoal,hops⟩:=hg
  obtain ⟨Ao,co,rfl⟩:=hops.form
  obtain ⟨b2,o2,ce,rfl,hbl,hjl,hd0,p,q,rfl,hp,hq,hc,hnm⟩:=hops.elem ho
  obtain ⟨Ap,cp,rfl⟩:=hp.form
  have hpl:=hp.len
  refine AL Tryz.func101 rfl Tryz.ntmps101 rfl ?_
  repeat (first|refine Ah ?_|refine Al ?_|refine Ae ?_|refine Am ?_|refine At ?_|refine Au ?_|refine Ar rfl ?_|refine Aj rfl ?_)
  refine Dk rfl fun w1 hN1=>?_
  have hres:=hN1.blk
  have hE1:Ext w w1:=hN1.ext
  have hb1:=hb0.ext hE1
  have hd1:=Hv hd0 hbl hE1
  (refine o_as rfl rfl ?_<;>(first|refine Ay ?_|refine Az ?_|refine Aw ?_|refine AB ?_))
  repeat (first|refine Ah ?_|refine Al ?_|refine Ae ?_|refine Am ?_|refine At ?_|refine Au ?_|refine Ar rfl ?_|refine Aj rfl ?_)
  ((repeat (first|refine Ah ?_|refine Al ?_|refine Ae ?_|refine Am ?_|refine At ?_|refine Au ?_|refine Ar rfl ?_|refine Aj rfl ?_))<;>(refine o_mv rfl rfl ?_<;>refine o_nc rfl rfl ?_<;>refine o_fa rfl rfl ?_<;>refine o_fa rfl rfl ?_<;>refine o_ld rfl rfl ?_<;>refine o_mv rfl rfl ?_<;>refine o_ia rfl rfl rfl ?_<;>refine o_fa rfl rfl ?_<;>refine o_ld rfl rfl ?_<;>refine o_ln rfl rfl ?_<;>refine o_mv rfl rfl ?_<;>(first|refine Ay ?_|refine Az ?_|refine Aw ?_|refine AB ?_))<;>(repeat (first|refine Ah ?_|refine Al ?_|refine Ae ?_|refine Am ?_|refine At ?_|refine Au ?_|refine Ar rfl ?_|refine Aj rfl ?_)))
  refine Bp o.pre.length (by omega) (fun _:Unit=>[(2,.int .i64 v),(6,.pointer (some ⟨w.heap.size,0,none⟩)),(18,.slice Ap o.pre.length cp)]) (fun k _ w'=>Ext w1 w'∧∀ i,i < k→∀ f,o.pre[i]?=some f→decide (f.var=v)=false) ()
    ⟨Below.refl _ _,fun i hi=>by omega⟩ ⟨rfl,rfl,rfl,rfl,rfl,trivial⟩ (fun _=>⟨rfl,rfl⟩) ⟨rfl,rfl,rfl⟩ ⟨rfl,rfl⟩ ?_ ?_
  · rintro k _ w2 hk ⟨hE2,hh⟩
    obtain ⟨f,hf⟩:=AH hk
    obtain ⟨b3,o3,ce,rfl,_,_,hd1,rfl,hr1,hr2⟩:=(hp.ext (hE1.trans' hE2)).elem hf
    ((repeat (first|refine Ah ?_|refine Al ?_|refine Ae ?_|refine Am ?_|refine At ?_|refine Au ?_|refine Ar rfl ?_|refine Aj rfl ?_))<;>(refine o_ia rfl rfl rfl ?_<;>refine o_la rfl rfl ?_)<;>(repeat (first|refine Ah ?_|refine Al ?_|refine Ae ?_|refine Am ?_|refine At ?_|refine Au ?_|refine Ar rfl ?_|refine Aj rfl ?_)))
    refine BO rfl rfl rfl (by simp [Value.cells,Value.oneCell']) fun w3 hN3=>?_
    have hb2:=hN3.blk
    have hE3:Ext w1 w3:=hE2.trans' hN3.ext
    replace hres:=hres.ext hE3
    ((first|refine Ay ?_|refine Az ?_|refine Aw ?_|refine AB ?_))
    repeat (first|refine Ah ?_|refine Al ?_|refine Ae ?_|refine Am ?_|refine At ?_|refine Au ?_|refine Ar rfl ?_|refine Aj rfl ?_)
    ((repeat (first|refine Ah ?_|refine Al ?_|refine Ae ?_|refine Am ?_|refine At ?_|refine Au ?_|refine Ar rfl ?_|refine Aj rfl ?_))<;>(refine o_fa rfl rfl ?_<;>refine o_ld rfl rfl ?_<;>refine o_mv rfl rfl ?_<;>(first|refine o_eeT rfl rfl rfl ?_|refine o_eeF rfl rfl rfl ?_|refine o_eeS rfl rfl rfl (fun _=>?_) fun _=>?_)<;>(first|refine Ay ?_|refine Az ?_|refine Aw ?_|refine AB ?_))<;>(repeat (first|refine Ah ?_|refine Al ?_|refine Ae ?_|refine Am ?_|refine At ?_|refine Au ?_|refine Ar rfl ?_|refine Aj rfl ?_)))
    · (refine o_la rfl rfl ?_)
      refine BN rfl rfl hres rfl (Nat.le_refl _) (by simp [Value.cells,Value.oneCell']) fun w4 hU=>?_
      (refine o_as rfl rfl ?_<;>(first|refine Ay ?_|refine Az ?_|refine Aw ?_|refine AB ?_))
      repeat (first|refine Ah ?_|refine Al ?_|refine Ae ?_|refine Am ?_|refine At ?_|refine Au ?_|refine Ar rfl ?_|refine Aj rfl ?_)
      refine ret2 rfl (BK rfl rfl hU.blk.cellsAt) (AG rfl) ⟨?_,hE1.trans ((hE3.mono hE1.size).trans (hU.below (Nat.le_refl _)))⟩
      rw [factOn,JQ _ hf (by simpa using ‹f.var=v›) hh]
      rfl
    · exact ⟨(),⟨rfl,rfl,rfl,rfl,rfl,trivial⟩,hE3,Ck hh fun f' hf'=>by rw [hf] at hf';injection hf' with hf';subst hf';simpa using ‹¬ f.var=v›⟩
  rintro _ w2 ⟨hE2,hh⟩
  replace hres:=hres.ext hE2
  repeat (first|refine Ah ?_|refine Al ?_|refine Ae ?_|refine Am ?_|refine At ?_|refine Au ?_|refine Ar rfl ?_|refine Aj rfl ?_)
  (refine o_bd rfl rfl rfl ?_)
  refine BN rfl rfl hres rfl (Nat.le_refl _) (by simp [Value.cells,Value.oneCell',setParts]) fun w4 hU=>?_
  (refine o_as rfl rfl ?_<;>(first|refine Ay ?_|refine Az ?_|refine Aw ?_|refine AB ?_))
  repeat (first|refine Ah ?_|refine Al ?_|refine Ae ?_|refine Am ?_|refine At ?_|refine Au ?_|refine Ar rfl ?_|refine Aj rfl ?_)
  refine ret2 rfl (BK rfl rfl hU.blk.cellsAt) (AG rfl) ⟨?_,hE1.trans ((hE2.mono hE1.size).trans (hU.below (Nat.le_refl _)))⟩
  rw [factOn,MN _ hh]
  rfl
theorem genBuild1 {w:World} {gv:Value} {t:Tsk} {j:Nat} {o:Opr} {v:Int} {g1 g2:Nat} {r1 r2:TypeId} (hg:GenB w (All w) gv t) (ho:t.ops[j]?=some o) (h1:Blk w g1 r1 [gv]) (h2:Blk w g2 r2 [.int .i64 v]) :
    Fn Tryz.prog 100 ([.int .i64 (j:Int)] ++ [.pointer (some ⟨g1,0,none⟩),.pointer (some ⟨g2,0,none⟩)]) w fun r w'=>r=.bool (factOn o.pre v).isSome∧Ext w w':=by
  have hb1:=h1
  have hb2:=h2
  refine AL Tryz.func100 rfl Tryz.ntmps100 rfl ?_
  ((repeat (first|refine Ah ?_|refine Al ?_|refine Ae ?_|refine Am ?_|refine At ?_|refine Au ?_|refine Ar rfl ?_|refine Aj rfl ?_))<;>(refine o_as rfl rfl ?_<;>(first|refine Ay ?_|refine Az ?_|refine Aw ?_|refine AB ?_))<;>(repeat (first|refine Ah ?_|refine Al ?_|refine Ae ?_|refine Am ?_|refine At ?_|refine Au ?_|refine Ar rfl ?_|refine Aj rfl ?_))<;>(refine o_ld rfl rfl ?_<;>refine o_mv rfl rfl ?_<;>refine o_ld rfl rfl ?_)<;>(repeat (first|refine Ah ?_|refine Al ?_|refine Ae ?_|refine Am ?_|refine At ?_|refine Au ?_|refine Ar rfl ?_|refine Aj rfl ?_)))
  refine Bb rfl rfl (genFact hg ho) ?_
  rintro _ w1 ⟨rfl,hE1⟩
  cases hf:factOn o.pre v with
  | none =>
    simp only [factV]
    (refine o_mv rfl rfl ?_<;>refine o_ex rfl rfl rfl ?_<;>refine o_ex rfl rfl rfl ?_)
    refine BO rfl rfl rfl (by simp [Value.cells,Value.oneCell']) fun w2 hN2=>?_
    (refine o_as rfl rfl ?_<;>(first|refine Ay ?_|refine Az ?_|refine Aw ?_|refine AB ?_))
    repeat (first|refine Ah ?_|refine Al ?_|refine Ae ?_|refine Am ?_|refine At ?_|refine Au ?_|refine Ar rfl ?_|refine Aj rfl ?_)
    ((repeat (first|refine Ah ?_|refine Al ?_|refine Ae ?_|refine Am ?_|refine At ?_|refine Au ?_|refine Ar rfl ?_|refine Aj rfl ?_))<;>(refine o_mv rfl rfl ?_<;>refine o_as rfl rfl ?_<;>(first|refine Ay ?_|refine Az ?_|refine Aw ?_|refine AB ?_))<;>(repeat (first|refine Ah ?_|refine Al ?_|refine Ae ?_|refine Am ?_|refine At ?_|refine Au ?_|refine Ar rfl ?_|refine Aj rfl ?_)))
    exact ret1 rfl rfl ⟨rfl,hE1.trans' hN2.ext⟩
  | some f =>
    simp only [factV]
    (refine o_mv rfl rfl ?_<;>refine o_ex rfl rfl rfl ?_<;>refine o_ex rfl rfl rfl ?_)
    refine BO rfl rfl rfl (by simp [Value.cells,Value.oneCell']) fun w2 hN2=>?_
    (refine o_as rfl rfl ?_<;>(first|refine Ay ?_|refine Az ?_|refine Aw ?_|refine AB ?_))
    repeat (first|refine Ah ?_|refine Al ?_|refine Ae ?_|refine Am ?_|refine At ?_|refine Au ?_|refine Ar rfl ?_|refine Aj rfl ?_)
    ((repeat (first|refine Ah ?_|refine Al ?_|refine Ae ?_|refine Am ?_|refine At ?_|refine Au ?_|refine Ar rfl ?_|refine Aj rfl ?_))<;>(refine o_mv rfl rfl ?_<;>refine o_as rfl rfl ?_<;>(first|refine Ay ?_|refine Az ?_|refine Aw ?_|refine AB ?_))<;>(repeat (first|refine Ah ?_|refine Al ?_|refine Ae ?_|refine Am ?_|refine At ?_|refine Au ?_|refine Ar rfl ?_|refine Aj rfl ?_)))
    exact ret1 rfl rfl ⟨rfl,hE1.trans' hN2.ext⟩
end
section
open Go Go.RowKit
attribute [local irreducible] ewp owp hwp hwq hws Ev Evg Fn retPost loud loudS Res1
theorem indexFuncInts {w:World} {sv:Value} {xs:List (Int)} {g:FuncId} [Callable Tryz.prog g] {caps:List Value} {p:Int→Prop} (hs:V w sv xs)
    (hg:∀ v x w',x∈xs→Ext w w'→V w' v x→Fn Tryz.prog g ([v] ++ caps) w' fun r w''=>r=.bool (bof (p x))∧Ext w' w'') :
    Fn Tryz.prog 104 [sv,.func (.func g) #[] caps.toArray] w fun v w'=>((∃ k:Nat,v=.int .i64 (k:Int)∧∃ x∈xs,p x)∨(v=.int .i64 (-1)∧∀ x∈xs,¬ p x))∧Ext w w':=by
  obtain ⟨A,c,rfl⟩:=hs.form
  have hl:=hs.len
  refine AL Tryz.func104 rfl Tryz.ntmps104 rfl ?_
  ((repeat (first|refine Ah ?_|refine Al ?_|refine Ae ?_|refine Am ?_|refine At ?_|refine Au ?_|refine Ar rfl ?_|refine Aj rfl ?_))<;>(refine o_as rfl rfl ?_<;>(first|refine Ay ?_|refine Az ?_|refine Aw ?_|refine AB ?_))<;>(repeat (first|refine Ah ?_|refine Al ?_|refine Ae ?_|refine Am ?_|refine At ?_|refine Au ?_|refine Ar rfl ?_|refine Aj rfl ?_))<;>(refine o_mv rfl rfl ?_<;>refine o_ln rfl rfl ?_<;>refine o_mv rfl rfl ?_<;>(first|refine Ay ?_|refine Az ?_|refine Aw ?_|refine AB ?_))<;>(repeat (first|refine Ah ?_|refine Al ?_|refine Ae ?_|refine Am ?_|refine At ?_|refine Au ?_|refine Ar rfl ?_|refine Aj rfl ?_)))
  refine Bp xs.length (by omega) (fun _:Unit=>[(0,.slice A xs.length c),(1,.func (.func g) #[] caps.toArray)]) (fun k _ w'=>Ext w w'∧∀ i,i < k→∀ x,xs[i]?=some x→¬ p x) ()
    ⟨Below.refl _ _,fun i hi=>by omega⟩ ⟨rfl,rfl,rfl,rfl,trivial⟩ (fun _=>⟨rfl,rfl⟩) ⟨rfl,rfl,rfl⟩ ⟨rfl,rfl⟩ ?_ ?_
  · rintro k _ w1 hk ⟨hE,hh⟩
    obtain ⟨x,hx⟩:=AH hk
    obtain ⟨b,o,ce,rfl,_,_,hd1,hR⟩:=(hs.ext hE).elem hx
    obtain ⟨v,rfl⟩:=List.length_eq_one_iff.1 (Rp.len hR)
    ((repeat (first|refine Ah ?_|refine Al ?_|refine Ae ?_|refine Am ?_|refine At ?_|refine Au ?_|refine Ar rfl ?_|refine Aj rfl ?_))<;>(refine o_mv rfl rfl ?_<;>refine o_as rfl rfl ?_<;>(first|refine Ay ?_|refine Az ?_|refine Aw ?_|refine AB ?_))<;>(repeat (first|refine Ah ?_|refine Al ?_|refine Ae ?_|refine Am ?_|refine At ?_|refine Au ?_|refine Ar rfl ?_|refine Aj rfl ?_))<;>(refine o_mv rfl rfl ?_<;>refine o_mv rfl rfl ?_<;>refine o_mv rfl rfl ?_<;>refine o_ia rfl rfl rfl ?_<;>refine o_ld rfl rfl ?_)<;>(repeat (first|refine Ah ?_|refine Al ?_|refine Ae ?_|refine Am ?_|refine At ?_|refine Au ?_|refine Ar rfl ?_|refine Aj rfl ?_)))
    refine JK rfl rfl rfl (hg v x w1 (List.mem_of_getElem? hx) hE hR) ?_
    rintro _ w2 ⟨rfl,hE2⟩
    by_cases hp:p x
    · rw [bof_t hp]
      ((first|refine Ay ?_|refine Az ?_|refine Aw ?_|refine AB ?_))
      repeat (first|refine Ah ?_|refine Al ?_|refine Ae ?_|refine Am ?_|refine At ?_|refine Au ?_|refine Ar rfl ?_|refine Aj rfl ?_)
      ((repeat (first|refine Ah ?_|refine Al ?_|refine Ae ?_|refine Am ?_|refine At ?_|refine Au ?_|refine Ar rfl ?_|refine Aj rfl ?_))<;>(refine o_mv rfl rfl ?_<;>refine o_as rfl rfl ?_<;>(first|refine Ay ?_|refine Az ?_|refine Aw ?_|refine AB ?_))<;>(repeat (first|refine Ah ?_|refine Al ?_|refine Ae ?_|refine Am ?_|refine At ?_|refine Au ?_|refine Ar rfl ?_|refine Aj rfl ?_)))
      exact ret1 rfl rfl ⟨.inl ⟨k,rfl,x,List.mem_of_getElem? hx,hp⟩,hE.trans' hE2⟩
    · rw [bof_f hp]
      ((first|refine Ay ?_|refine Az ?_|refine Aw ?_|refine AB ?_))
      repeat (first|refine Ah ?_|refine Al ?_|refine Ae ?_|refine Am ?_|refine At ?_|refine Au ?_|refine Ar rfl ?_|refine Aj rfl ?_)
      exact ⟨(),⟨rfl,rfl,rfl,rfl,trivial⟩,hE.trans' hE2,Ck hh fun x' hx'=>by rw [hx] at hx';injection hx' with hx';exact hx' ▸ hp⟩
  rintro _ w1 ⟨hE,hh⟩
  repeat (first|refine Ah ?_|refine Al ?_|refine Ae ?_|refine Am ?_|refine At ?_|refine Au ?_|refine Ar rfl ?_|refine Aj rfl ?_)
  ((repeat (first|refine Ah ?_|refine Al ?_|refine Ae ?_|refine Am ?_|refine At ?_|refine Au ?_|refine Ar rfl ?_|refine Aj rfl ?_))<;>(refine o_as rfl rfl ?_<;>(first|refine Ay ?_|refine Az ?_|refine Aw ?_|refine AB ?_))<;>(repeat (first|refine Ah ?_|refine Al ?_|refine Ae ?_|refine Am ?_|refine At ?_|refine Au ?_|refine Ar rfl ?_|refine Aj rfl ?_)))
  refine ret1 rfl rfl ⟨.inr ⟨rfl,fun x hx=>?_⟩,hE⟩
  obtain ⟨i,hi⟩:=List.getElem?_of_mem hx
  exact hh i (Bh hi) x hi
theorem containsFuncInts {w:World} {sv:Value} {xs:List (Int)} {g:FuncId} [Callable Tryz.prog g] {caps:List Value} {p:Int→Prop} (hs:V w sv xs)
    (hg:∀ v x w',x∈xs→Ext w w'→V w' v x→Fn Tryz.prog g ([v] ++ caps) w' fun r w''=>r=.bool (bof (p x))∧Ext w' w'') :
    Fn Tryz.prog 99 [sv,.func (.func g) #[] caps.toArray] w fun v w'=>v=.bool (bof (∃ x∈xs,p x))∧Ext w w':=by
  refine AL Tryz.func99 rfl Tryz.ntmps99 rfl ?_
  ((repeat (first|refine Ah ?_|refine Al ?_|refine Ae ?_|refine Am ?_|refine At ?_|refine Au ?_|refine Ar rfl ?_|refine Aj rfl ?_))<;>(refine o_as rfl rfl ?_<;>(first|refine Ay ?_|refine Az ?_|refine Aw ?_|refine AB ?_))<;>(repeat (first|refine Ah ?_|refine Al ?_|refine Ae ?_|refine Am ?_|refine At ?_|refine Au ?_|refine Ar rfl ?_|refine Aj rfl ?_))<;>(refine o_mv rfl rfl ?_<;>refine o_mv rfl rfl ?_)<;>(repeat (first|refine Ah ?_|refine Al ?_|refine Ae ?_|refine Am ?_|refine At ?_|refine Au ?_|refine Ar rfl ?_|refine Aj rfl ?_)))
  refine Bb rfl rfl (indexFuncInts hs hg) ?_
  rintro v w1 ⟨h,hE⟩
  rcases h with ⟨k,rfl,h⟩|⟨rfl,h⟩
  · ((first|refine o_geT rfl rfl rfl ?_|refine o_geF rfl rfl rfl ?_)<;>refine o_as rfl rfl ?_<;>(first|refine Ay ?_|refine Az ?_|refine Aw ?_|refine AB ?_))
    repeat (first|refine Ah ?_|refine Al ?_|refine Ae ?_|refine Am ?_|refine At ?_|refine Au ?_|refine Ar rfl ?_|refine Aj rfl ?_)
    exact ret1 rfl rfl ⟨by rw [bof_t h],hE⟩
  · ((first|refine o_geT rfl rfl rfl ?_|refine o_geF rfl rfl rfl ?_)<;>refine o_as rfl rfl ?_<;>(first|refine Ay ?_|refine Az ?_|refine Aw ?_|refine AB ?_))
    repeat (first|refine Ah ?_|refine Al ?_|refine Ae ?_|refine Am ?_|refine At ?_|refine Au ?_|refine Ar rfl ?_|refine Aj rfl ?_)
    exact ret1 rfl rfl ⟨by rw [bof_f (fun ⟨x,hx,hp⟩=>h x hx hp)],hE⟩
end
section
open Go Go.RowKit
attribute [local irreducible] ewp owp hwp hwq hws Ev Evg Fn retPost loud loudS Res1
def preOf (t:Tsk) (op:Int):List Fct:=match t.ops[op.toNat]? with|some o=>o.pre|none=>[]
def tests (t:Tsk) (ops:List Int) (v:Nat):Bool:=ops.any fun op=>(factOn (preOf t op) (v:Int)).isSome
def nextF (t:Tsk) (ops:List Int):Nat→Nat→Nat
  | 0,v=>v
  | k + 1,v=>if tests t ops v=true then v else nextF t ops k (v + 1)
def nextV (t:Tsk) (ops:List Int) (v:Nat):Nat:=nextF t ops (t.vars.length - v) v
def valB (t:Tsk) (u:Nat) (x:Nat) (op:Int):Bool:=match factOn (preOf t op) (u:Int) with|some f=>decide (f.val=(x:Int))|none=>false
def restB (t:Tsk) (u:Nat) (op:Int):Bool:=(factOn (preOf t op) (u:Int)).isNone
def mkT (t:Tsk):Nat→List Int→Nat→Tr
  | 0,_,_=>.nil
  | fuel + 1,ops,v =>
    if ops.isEmpty then .nil
    else if nextV t ops v=t.vars.length then .leaf ops
    else .node (nextV t ops v) (t.vars[nextV t ops v]?.getD 0).toNat (fun x=>mkT t fuel (ops.filter (valB t (nextV t ops v) x)) (nextV t ops v + 1)) (mkT t fuel (ops.filter (restB t (nextV t ops v))) (nextV t ops v + 1))
theorem GS (t:Tsk) (ops:List Int):∀ (k v:Nat),v≤nextF t ops k v∧nextF t ops k v≤v + k∧(∀ u,v≤u→u < nextF t ops k v→tests t ops u=false)∧(nextF t ops k v < v + k→tests t ops (nextF t ops k v)=true)
  | 0,v=>by simp [nextF];intro u h1 h2;omega
  | k + 1,v=>by
    by_cases h:tests t ops v=true
    · simp only [nextF,h,if_true]
      exact ⟨Nat.le_refl _,by omega,fun u h1 h2=>by omega,fun _=>trivial⟩
    · obtain ⟨h1,h2,h3,h4⟩:=GS t ops k (v + 1)
      simp only [nextF,h]
      refine ⟨by simp;omega,by simp;omega,fun u hu1 hu2=>?_,fun hlt=>h4 (by simp at hlt;omega)⟩
      by_cases he:u=v
      · subst he;simpa using h
      · exact h3 u (by omega) (by simpa using hu2)
theorem Nq (t:Tsk) (ops:List Int) {v u:Nat} (h1:v≤u) (h2:u≤t.vars.length) (h3:∀ x,v≤x→x < u→tests t ops x=false) (h4:u < t.vars.length→tests t ops u=true):nextV t ops v=u:=by
  obtain ⟨g1,g2,g3,g4⟩:=GS t ops (t.vars.length - v) v
  unfold nextV
  rcases Nat.lt_trichotomy (nextF t ops (t.vars.length - v) v) u with h|h|h
  · have:=h3 _ g1 h
    rw [g4 (by omega)] at this;cases this
  · exact h
  · have:=g3 u h1 h
    rw [h4 (by omega)] at this;cases this
def OpsIn (t:Tsk) (ops:List Int):Prop:=∀ op∈ops,0≤op∧op < t.ops.length
def FitsVals (t:Tsk):Prop:=∀ (i:Nat) o,t.ops[i]?=some o→∀ (v:Nat) f,factOn o.pre (v:Int)=some f→v < t.vars.length→0≤f.val∧∃ n,t.vars[v]?=some n∧f.val < n
structure ByInv (w:World) (base gby:Nat) (vals:List Value) (rv:Value) (L:Nat→List Int) (R:List Int) (m:Nat):Prop where
  len:vals.length=m
  blk:Blk w gby 22 vals
  own:∀ (i:Nat) (u:Value),vals[i]?=some u→Own w base (fun _=>False) 3 u (L i)
  rest:Own w base (fun _=>False) 3 rv R
  apart:∀ (i j:Nat) (u u':Value),i≠j→vals[i]?=some u→vals[j]?=some u'→∀ g,u.ownBlock=some g→u'.ownBlock≠some g
  apartR:∀ (i:Nat) (u:Value),vals[i]?=some u→∀ g,u.ownBlock=some g→rv.ownBlock≠some g
theorem ByInv.ext {w w':World} {base gby:Nat} {vals:List Value} {rv:Value} {L:Nat→List Int} {R:List Int} {m:Nat} (h:ByInv w base gby vals rv L R m) (hE:Ext w w'):ByInv w' base gby vals rv L R m :=
  ⟨h.len,h.blk.ext hE,fun i u hu=>(h.own i u hu).ext hE fun _ hk=>hk.elim,h.rest.ext hE fun _ hk=>hk.elim,h.apart,h.apartR⟩
theorem ByInv.putRest {w w':World} {base gby:Nat} {vals:List Value} {rv rv':Value} {L:Nat→List Int} {R R':List Int} {m:Nat} (h:ByInv w base gby vals rv L R m) (hK:Kept w w' rv) (ho:Own w' base (fun _=>False) 3 rv' R')
    (hat:rv'.ownBlock=rv.ownBlock∨∃ g,rv'.ownBlock=some g∧w.heap.size≤g):ByInv w' base gby vals rv' L R' m:=by
  refine ⟨h.len,hK.blk h.blk (h.rest.blk_ne h.blk (by decide)),fun i u hu=>(h.own i u hu).kept hK (fun _ hk=>hk.elim) (h.apartR i u hu),ho,h.apart,fun i u hu g hg he=>?_⟩
  rcases hat with hat|⟨g',hat,hge⟩
  · exact h.apartR i u hu g hg (hat ▸ he)
  · have:=((h.own i u hu).lt g hg).2
    rw [hat] at he;injection he with he;omega
theorem ByInv.putVal {w w' w'':World} {base gby:Nat} {vals:List Value} {rv u v':Value} {L:Nat→List Int} {R:List Int} {m i:Nat} {xs:List Int} (h:ByInv w base gby vals rv L R m) (hu:vals[i]?=some u) (hK:Kept w w' u) (ho:Own w' base (fun _=>False) 3 v' xs)
    (hat:v'.ownBlock=u.ownBlock∨∃ g,v'.ownBlock=some g∧w.heap.size≤g) (hU:Upd w' w'' gby 22 (vals.set i v')):ByInv w'' base gby (vals.set i v') rv (fun j=>if j=i then xs else L j) R m:=by
  have hi:i < vals.length:=(List.getElem?_eq_some_iff.1 hu).1
  have key:∀ {v:Value} {ys:List Int},Own w' base (fun _=>False) 3 v ys→Own w'' base (fun _=>False) 3 v ys:=fun hv=>by
    have hne:=hv.blk_ne (hK.blk h.blk ((h.own i u hu).blk_ne h.blk (by decide))) (by decide)
    exact hv.agree (fun _ hk=>hk.elim) fun g hg=>hU.other g fun he=>hne (he ▸ hg)
  have sep:∀ {y:Value} {ys:List Int},Own w base (fun _=>False) 3 y ys→(∀ g,u.ownBlock=some g→y.ownBlock≠some g)→∀ g,v'.ownBlock=some g→y.ownBlock≠some g:=fun hy hsep g hg he=>by
    rcases hat with hat|⟨g',hat,hge⟩
    · exact hsep g (hat ▸ hg) he
    · have:=(hy.lt g he).2
      rw [hat] at hg;injection hg with hg;omega
  refine ⟨by rw [List.length_set];exact h.len,hU.blk,fun j y hy=>?_,key (h.rest.kept hK (fun _ hk=>hk.elim) fun g hg he=>h.apartR i u hu g he hg),fun j k y y' hjk hy hy' g hg=>?_,fun j y hy g hg=>?_⟩
  · by_cases hj:j=i
    · subst hj
      rw [List.getElem?_set_self hi] at hy
      injection hy with hy;subst hy
      rw [if_pos rfl];exact key ho
    · rw [List.getElem?_set_ne (Ne.symm hj)] at hy
      rw [if_neg hj]
      exact key ((h.own j y hy).kept hK (fun _ hk=>hk.elim) (h.apart j i y u hj hy hu))
  · by_cases hj:j=i
    · subst hj
      rw [List.getElem?_set_self hi] at hy
      injection hy with hy;subst hy
      rw [List.getElem?_set_ne hjk] at hy'
      exact sep (h.own k y' hy') (h.apart j k u y' hjk hu hy') g hg
    · rw [List.getElem?_set_ne (Ne.symm hj)] at hy
      by_cases hk:k=i
      · subst hk
        rw [List.getElem?_set_self hi] at hy'
        injection hy' with hy';subst hy'
        intro he
        exact sep (h.own j y hy) (h.apart k j u y (Ne.symm hj) hu hy) g he hg
      · rw [List.getElem?_set_ne (Ne.symm hk)] at hy'
        exact h.apart j k y y' hjk hy hy' g hg
  · by_cases hj:j=i
    · subst hj
      rw [List.getElem?_set_self hi] at hy
      injection hy with hy;subst hy
      exact sep h.rest (h.apartR j u hu) g hg
    · rw [List.getElem?_set_ne (Ne.symm hj)] at hy
      exact h.apartR j y hy g hg
instance:Rp Tr where
  isAgg:=false
  size:=1
  R w F cs T:=∃ q,cs=[.pointer q]∧TrR w F T (.pointer q)
  len:=by rintro w F cs x ⟨v,rfl,_⟩;rfl
  one:=by rintro w F cs x ⟨v,rfl,h⟩ u hu;simp at hu;subst hu;rfl
  agree:=by rintro w w' F cs x ⟨v,rfl,h⟩ ha;exact ⟨v,rfl,TrR.agree ha h⟩
  mono:=by rintro w F G cs x ⟨v,rfl,h⟩ ha;exact ⟨v,rfl,TrR.mono ha h⟩
def more (F:Nat→Prop) (w w':World):Nat→Prop:=fun k=>F k∨w.heap.size≤k∧k < w'.heap.size
theorem Fe {p:Int→Bool} {l:List Int} {k:Nat} {x:Int} (h:l[k]?=some x):(l.take (k + 1)).filter p=(l.take k).filter p ++ if p x=true then [x] else []:=by
  rw [List.take_add_one,h,List.filter_append]
  cases hp:p x<;>simp [hp]
theorem MO (n:Nat):(madeCells (Value.slice none 0 0).cells (n * 1)).toList=List.replicate n (.slice none 0 0):=Ky _ n rfl
theorem genBuild (t:Tsk) (hdom:VarsOk t) (hfv:FitsVals t) (hvl:t.vars.length≤64):∀ (fuel:Nat) (w:World) (gv opsv:Value) (ops:List Int) (v:Nat) (F:Nat→Prop),GenB w (All w) gv t→Vb w F opsv ops→(∀ k,F k→k < w.heap.size)→OpsIn t ops→ops.length≤4096 →
    v≤t.vars.length→t.vars.length < fuel + v→Fn Tryz.prog 88 [gv,opsv,.int .i64 (v:Int)] w fun p w'=>TrR w' (more F w w') (mkT t fuel ops v) p∧Ext w w':=by
  intro fuel
  induction fuel with
  | zero=>intro w gv opsv ops v F _ _ _ _ _ h1 h2;omega
  | succ fuel ih =>
    intro w gv opsv ops v F hg0 hops hF hin hlen hvn hfuel
    obtain ⟨gb,a,b,c,d,rp,rfl,hgb,hbg,hvars,hinit,hgoal,hopsv⟩:=id hg0
    obtain ⟨Av,cv,rfl⟩:=hvars.form
    obtain ⟨Ax,cx,rfl⟩:=hops.form
    refine AL Tryz.func88 rfl Tryz.ntmps88 rfl ?_
    repeat (first|refine Ah ?_|refine Al ?_|refine Ae ?_|refine Am ?_|refine At ?_|refine Au ?_|refine Ar rfl ?_|refine Aj rfl ?_)
    refine CP rfl rfl fun w1 hN1=>?_
    refine CP rfl rfl fun w2 hN2=>?_
    have hE2:Ext w w2:=hN1.ext.trans' hN2.ext
    have hb1:Blk w2 w.heap.size 104 [.pointer (some ⟨gb,0,none⟩)]:=hN1.blk.ext hN2.ext
    have hb2:Blk w2 w1.heap.size 3 [.int .i64 (v:Int)]:=hN2.blk
    have hg12:w1.heap.size≠w.heap.size:=by rw [hN1.size];omega
    have hg2w:w.heap.size≤w1.heap.size:=hN1.ext.size
    have hz1:w1.heap.size=w.heap.size + 1:=hN1.size
    have hz2:w2.heap.size=w1.heap.size + 1:=hN2.size
    (refine o_as rfl rfl ?_<;>(first|refine Ay ?_|refine Az ?_|refine Aw ?_|refine AB ?_))
    repeat (first|refine Ah ?_|refine Al ?_|refine Ae ?_|refine Am ?_|refine At ?_|refine Au ?_|refine Ar rfl ?_|refine Aj rfl ?_)
    by_cases hemp:ops.length=0
    · have:ops=[]:=List.eq_nil_of_length_eq_zero hemp
      subst this
      ((repeat (first|refine Ah ?_|refine Al ?_|refine Ae ?_|refine Am ?_|refine At ?_|refine Au ?_|refine Ar rfl ?_|refine Aj rfl ?_))<;>(refine o_mv rfl rfl ?_<;>refine o_ln rfl rfl ?_<;>(first|refine o_eeT rfl rfl rfl ?_|refine o_eeF rfl rfl rfl ?_)<;>(first|refine Ay ?_|refine Az ?_|refine Aw ?_|refine AB ?_))<;>(repeat (first|refine Ah ?_|refine Al ?_|refine Ae ?_|refine Am ?_|refine At ?_|refine Au ?_|refine Ar rfl ?_|refine Aj rfl ?_))<;>(refine o_as rfl rfl ?_<;>(first|refine Ay ?_|refine Az ?_|refine Aw ?_|refine AB ?_))<;>(repeat (first|refine Ah ?_|refine Al ?_|refine Ae ?_|refine Am ?_|refine At ?_|refine Au ?_|refine Ar rfl ?_|refine Aj rfl ?_)))
      exact ret1 rfl rfl ⟨rfl,hE2⟩
    have hemp':ops.isEmpty=false:=by cases ops<;>simp at *
    (refine o_mv rfl rfl ?_<;>refine o_ln rfl rfl ?_<;>(first|refine o_eeT rfl rfl rfl ?_|refine o_eeF rfl rfl rfl ?_)<;>(first|refine Ay ?_|refine Az ?_|refine Aw ?_|refine AB ?_))
    refine Aj rfl (Am ?_)
    refine LB (fun l' w'=>∃ u:Nat,subs l' [(1,.slice Ax ops.length cx),(3,.pointer (some ⟨w.heap.size,0,none⟩)),(5,.pointer (some ⟨w1.heap.size,0,none⟩))]∧Ext w w'∧Blk w' w.heap.size 104 [.pointer (some ⟨gb,0,none⟩)]∧Blk w' w1.heap.size 3 [.int .i64 (u:Int)] ∧
      v≤u∧u≤t.vars.length∧(∀ x,v≤x→x < u→tests t ops x=false)∧(u < t.vars.length→tests t ops u=true)) ?_ ?_
    · repeat (first|refine Ah ?_|refine Al ?_|refine Ae ?_|refine Am ?_|refine At ?_|refine Au ?_|refine Ar rfl ?_|refine Aj rfl ?_)
      refine DN (fun _:Nat=>[(1,.slice Ax ops.length cx),(3,.pointer (some ⟨w.heap.size,0,none⟩)),(5,.pointer (some ⟨w1.heap.size,0,none⟩))]) (fun u w'=>Ext w w'∧Blk w' w.heap.size 104 [.pointer (some ⟨gb,0,none⟩)]∧Blk w' w1.heap.size 3 [.int .i64 (u:Int)] ∧
        v≤u∧u≤t.vars.length∧∀ x,v≤x→x < u→tests t ops x=false) (fun u=>t.vars.length - u) v ⟨hE2,hb1,hb2,Nat.le_refl _,hvn,fun x h1 h2=>by omega⟩ ⟨rfl,rfl,rfl,trivial⟩ ?_
      rintro u w3 ⟨hE3,hb1,hb2,hvu,hun,hno⟩
      have hb3:=hbg.ext hE3
      repeat (first|refine Ah ?_|refine Al ?_|refine Ae ?_|refine Am ?_|refine At ?_|refine Au ?_|refine Ar rfl ?_|refine Aj rfl ?_)
      refine BV (Ext w3) [(0,true),(1,true),(2,true),(3,true),(4,true),(5,true),(6,true),(7,true),(8,true),(9,true),(10,true),(11,false),(12,true),(13,true)] (by kernel_rfl) rfl (by kernel_rfl) (Below.refl _ _) ?_
      by_cases hlt:u < t.vars.length
      · (refine h_ldE rfl rfl rfl ?_<;>refine h_ldE rfl rfl rfl ?_<;>refine h_nc rfl rfl rfl ?_<;>refine h_fa rfl rfl rfl ?_<;>refine h_fa rfl rfl rfl ?_<;>refine h_ldE rfl rfl rfl ?_<;>refine h_ln rfl rfl rfl ?_<;>(first|refine h_ltT rfl rfl rfl rfl ?_|refine h_ltF rfl rfl rfl rfl ?_|refine h_ltS rfl rfl rfl rfl (fun _=>?_) fun _=>?_)<;>refine h_mv rfl rfl rfl ?_<;>(refine hwp_o rfl ?_;(first|(refine AD rfl rfl ?_;refine g_mv rfl rfl ?_)|refine AF rfl rfl rfl rfl ?_))<;>(refine hwp_o rfl ?_;(first|(refine AD rfl rfl ?_;refine g_mf rfl rfl rfl ?_)|refine AF rfl rfl rfl rfl ?_)))
        refine BB rfl ?_
        refine AE rfl rfl ?_
        have hV3:V w3 (.slice Ax ops.length cx) ops:=Vb.mono (Vb.agree hops (hE3.agree hF)) fun k hk=>Nat.lt_of_lt_of_le (hF k hk) hE3.size
        have hex:(∃ x∈ops,(factOn (preOf t x) (u:Int)).isSome=true)↔tests t ops u=true:=by unfold tests;rw [List.any_eq_true]
        refine Cp rfl rfl (containsFuncInts (g:=100) (caps:=[.pointer (some ⟨w.heap.size,0,none⟩),.pointer (some ⟨w1.heap.size,0,none⟩)]) (p:=fun op=>(factOn (preOf t op) (u:Int)).isSome=true) hV3 ?_) ?_ ?_
        · intro vx x w' hx hE' hvx
          obtain ⟨hvx,_⟩:=hvx
          obtain rfl:vx=.int .i64 x:=by simpa using hvx
          obtain ⟨hx0,hx1⟩:=hin x hx
          obtain ⟨j,rfl⟩:=Int.eq_ofNat_of_zero_le hx0
          obtain ⟨o,ho⟩:=AH (l:=t.ops) (k:=j) (by omega)
          refine (genBuild1 (hg0.ext (hE3.trans' hE')) ho (hb1.ext hE') (hb2.ext hE')).mono fun r w'' ⟨hr,hE''⟩=>⟨?_,hE''⟩
          rw [hr,bof_b]
          simp [preOf,ho]
        · intro w4 hp hE4
          refine BY hE4 ?_
          ((refine hwp_o rfl ?_;(first|(refine AD rfl rfl ?_;(first|refine g_nt rfl rfl ?_|refine g_nf rfl rfl ?_|refine g_nn rfl rfl ?_))|refine AF rfl rfl rfl rfl ?_))<;>(first|refine h_pt rfl rfl rfl rfl ?_|refine h_pf rfl rfl rfl rfl ?_)<;>(first|refine AK ?_|refine BW ?_|refine BX ?_))
          repeat (first|refine Ah ?_|refine Al ?_|refine Ae ?_|refine Am ?_|refine At ?_|refine Au ?_|refine Ar rfl ?_|refine Aj rfl ?_)
          exact ⟨u,⟨rfl,rfl,rfl,trivial⟩,hE3.trans' hE4,hb1.ext hE4,hb2.ext hE4,hvu,hun,hno,fun _=>hex.1 hp⟩
        · intro w4 hp hE4
          refine BY hE4 ?_
          ((refine hwp_o rfl ?_;(first|(refine AD rfl rfl ?_;(first|refine g_nt rfl rfl ?_|refine g_nf rfl rfl ?_|refine g_nn rfl rfl ?_))|refine AF rfl rfl rfl rfl ?_))<;>(first|refine h_pt rfl rfl rfl rfl ?_|refine h_pf rfl rfl rfl rfl ?_)<;>(first|refine AK ?_|refine BW ?_|refine BX ?_))
          repeat (first|refine Ah ?_|refine Al ?_|refine Ae ?_|refine Am ?_|refine At ?_|refine Au ?_|refine Ar rfl ?_|refine Aj rfl ?_)
          replace hb1:=hb1.ext hE4
          replace hb2:=hb2.ext hE4
          (refine o_ld rfl rfl ?_<;>(first|refine o_ic rfl rfl ?_|refine o_ad rfl rfl rfl ?_))
          refine BN rfl rfl hb2 rfl (Nat.le_refl _) (by simp [Value.cells,Value.oneCell']) fun w5 hU=>?_
          ((first|refine Ay ?_|refine Az ?_|refine Aw ?_|refine AB ?_))
          refine ⟨u + 1,⟨rfl,rfl,rfl,trivial⟩,⟨(hE3.trans' hE4).trans (hU.below hg2w),hb1.keep (hU.other _ (fun h=>hg12 h.symm)),hU.blk,by omega,by omega,fun x h1 h2=>?_⟩,by omega⟩
          by_cases he:x=u
          · subst he
            cases hq:tests t ops x
            · rfl
            · exact absurd (hex.2 hq) hp
          · exact hno x h1 (by omega)
      · (refine h_ldE rfl rfl rfl ?_<;>refine h_ldE rfl rfl rfl ?_<;>refine h_nc rfl rfl rfl ?_<;>refine h_fa rfl rfl rfl ?_<;>refine h_fa rfl rfl rfl ?_<;>refine h_ldE rfl rfl rfl ?_<;>refine h_ln rfl rfl rfl ?_<;>(first|refine h_ltT rfl rfl rfl rfl ?_|refine h_ltF rfl rfl rfl rfl ?_|refine h_ltS rfl rfl rfl rfl (fun _=>?_) fun _=>?_)<;>refine h_mv rfl rfl rfl ?_<;>(refine hwp_o rfl ?_;(first|(refine AD rfl rfl ?_;refine g_mv rfl rfl ?_)|refine AF rfl rfl rfl rfl ?_))<;>(refine hwp_o rfl ?_;(first|(refine AD rfl rfl ?_;refine g_mf rfl rfl rfl ?_)|refine AF rfl rfl rfl rfl ?_)))
        refine BB rfl ?_
        refine AC rfl rfl rfl rfl ?_
        refine BY (Below.refl _ _) ?_
        ((refine hwp_o rfl ?_;(first|(refine AD rfl rfl ?_;(first|refine g_nt rfl rfl ?_|refine g_nf rfl rfl ?_|refine g_nn rfl rfl ?_))|refine AF rfl rfl rfl rfl ?_))<;>(first|refine h_pt rfl rfl rfl rfl ?_|refine h_pf rfl rfl rfl rfl ?_)<;>(first|refine AK ?_|refine BW ?_|refine BX ?_))
        repeat (first|refine Ah ?_|refine Al ?_|refine Ae ?_|refine Am ?_|refine At ?_|refine Au ?_|refine Ar rfl ?_|refine Aj rfl ?_)
        exact ⟨u,⟨rfl,rfl,rfl,trivial⟩,hE3,hb1,hb2,hvu,hun,hno,fun h=>absurd h hlt⟩
    rintro l' w3 ⟨u,hsub,hE3,hb1,hb2,hvu,hun,hno,hyes⟩
    refine AP _ hsub ?_
    clear hsub
    have hnx:nextV t ops v=u:=Nq t ops hvu hun hno hyes
    have hb3:=hbg.ext hE3
    have hV3:Vb w3 F (.slice Ax ops.length cx) ops:=Vb.agree hops (hE3.agree hF)
    repeat (first|refine Ah ?_|refine Al ?_|refine Ae ?_|refine Am ?_|refine At ?_|refine Au ?_|refine Ar rfl ?_|refine Aj rfl ?_)
    refine BV (·=w3) [(0,true),(1,true),(2,true),(3,true),(4,true),(5,true),(6,true),(7,true)] (by kernel_rfl) rfl (by kernel_rfl) rfl ?_
    by_cases hlast:u=t.vars.length
    · (refine h_ldA rfl rfl rfl ?_<;>refine h_ldA rfl rfl rfl ?_<;>refine h_nc rfl rfl rfl ?_<;>refine h_fa rfl rfl rfl ?_<;>refine h_fa rfl rfl rfl ?_<;>refine h_ldA rfl rfl rfl ?_<;>refine h_ln rfl rfl rfl ?_<;>(first|refine h_eeT rfl rfl rfl rfl ?_|refine h_eeF rfl rfl rfl rfl ?_|refine h_eeS rfl rfl rfl rfl (fun _=>?_) fun _=>?_)<;>(first|refine AK ?_|refine BW ?_|refine BX ?_))<;>(repeat (first|refine Ah ?_|refine Al ?_|refine Ae ?_|refine Am ?_|refine At ?_|refine Au ?_|refine Ar rfl ?_|refine Aj rfl ?_))
      (refine o_mv rfl rfl ?_<;>refine o_bd rfl rfl rfl ?_)
      refine CP rfl rfl fun w4 hN4=>?_
      (refine o_as rfl rfl ?_<;>(first|refine Ay ?_|refine Az ?_|refine Aw ?_|refine AB ?_))
      repeat (first|refine Ah ?_|refine Al ?_|refine Ae ?_|refine Am ?_|refine At ?_|refine Au ?_|refine Ar rfl ?_|refine Aj rfl ?_)
      have hE4:Ext w w4:=hE3.trans' hN4.ext
      have hT:mkT t (fuel + 1) ops v=.leaf ops:=by simp only [mkT,hemp',hnx,hlast];simp
      rw [hT]
      refine ret1 rfl rfl ⟨⟨w3.heap.size,.slice Ax ops.length cx,rfl,.inr ⟨hE3.size,hN4.blk.lt⟩,hN4.blk,?_⟩,hE4⟩
      exact Vb.mono (Vb.agree hV3 (hN4.ext.agree fun k hk=>Nat.lt_of_lt_of_le (hF k hk) hE3.size)) fun k hk=>.inl hk
    have hun':u < t.vars.length:=by omega
    obtain ⟨n,hn⟩:=AH hun'
    have hn1:=hdom u n hn
    obtain ⟨m,rfl⟩:=Int.eq_ofNat_of_zero_le (show 0≤n by omega)
    have hT:mkT t (fuel + 1) ops v=.node u m (fun x=>mkT t fuel (ops.filter (valB t u x)) (u + 1)) (mkT t fuel (ops.filter (restB t u)) (u + 1)):=by
      simp only [mkT,hemp',hnx,hlast,hn];simp
    rw [hT]
    clear hT hnx
    (refine h_ldA rfl rfl rfl ?_<;>refine h_ldA rfl rfl rfl ?_<;>refine h_nc rfl rfl rfl ?_<;>refine h_fa rfl rfl rfl ?_<;>refine h_fa rfl rfl rfl ?_<;>refine h_ldA rfl rfl rfl ?_<;>refine h_ln rfl rfl rfl ?_<;>(first|refine h_eeT rfl rfl rfl rfl ?_|refine h_eeF rfl rfl rfl rfl ?_|refine h_eeS rfl rfl rfl rfl (fun _=>?_) fun _=>?_)<;>(first|refine AK ?_|refine BW ?_|refine BX ?_))<;>(repeat (first|refine Ah ?_|refine Al ?_|refine Ae ?_|refine Am ?_|refine At ?_|refine Au ?_|refine Ar rfl ?_|refine Aj rfl ?_))
    obtain ⟨bv,ov,ce,rfl,hbv,_,hdv,rfl,_⟩:=hvars.elem hn
    refine BV (Ext w3) [(0,true),(1,true),(2,true),(3,true),(4,true),(5,true),(6,true),(7,true),(8,false),(9,true)] (by kernel_rfl) rfl (by kernel_rfl) (Below.refl _ _) ?_
    have hb1s:=hb1
    have hb2s:=hb2
    replace hb1:∀ w',Ext w3 w'→Blk w' w.heap.size 104 [.pointer (some ⟨gb,0,none⟩)]:=fun w' h=>hb1s.ext h
    replace hb2:∀ w',Ext w3 w'→Blk w' w1.heap.size 3 [.int .i64 (u:Int)]:=fun w' h=>hb2s.ext h
    have hb3s:=hb3
    replace hb3:∀ w',Ext w3 w'→Blk w' gb 151 [.slice (some ⟨bv,ov,none⟩) t.vars.length cv,b,c,d,.pointer rp]:=fun w' h=>hb3s.ext h
    have hd1:∀ w',Ext w3 w'→cellsAt w' bv (ov + u * 1) [.int .i64 (m:Int)]:=fun w' h=>Hv hdv hbv (hE3.trans' h)
    ((first|refine h_ldB rfl rfl rfl ?_|refine h_ldC rfl rfl rfl ?_)<;>refine h_nc rfl rfl rfl ?_<;>refine h_fa rfl rfl rfl ?_<;>refine h_fa rfl rfl rfl ?_<;>(first|refine h_ldB rfl rfl rfl ?_|refine h_ldC rfl rfl rfl ?_)<;>(first|refine h_ldB rfl rfl rfl ?_|refine h_ldC rfl rfl rfl ?_)<;>refine h_ia rfl rfl rfl rfl ?_<;>(first|refine h_ldB rfl rfl rfl ?_|refine h_ldC rfl rfl rfl ?_))
    refine BB rfl ?_
    refine IA rfl rfl (by omega) (by omega) rfl fun w4 hN4=>?_
    refine BY hN4.ext ?_
    (refine h_as rfl rfl rfl ?_<;>(first|refine AK ?_|refine BW ?_|refine BX ?_))
    have hE4:Ext w w4:=hE3.trans' hN4.ext
    have hw23:w2.heap.size≤w3.heap.size:=by have:=hb2s.lt;omega
    replace hb1:=hb1s.ext hN4.ext
    replace hb2:=hb2s.ext hN4.ext
    clear hb3 hd1
    repeat (first|refine Ah ?_|refine Al ?_|refine Ae ?_|refine Am ?_|refine At ?_|refine Au ?_|refine Ar rfl ?_|refine Aj rfl ?_)
    ((repeat (first|refine Ah ?_|refine Al ?_|refine Ae ?_|refine Am ?_|refine At ?_|refine Au ?_|refine Ar rfl ?_|refine Aj rfl ?_))<;>(refine o_as rfl rfl ?_<;>(first|refine Ay ?_|refine Az ?_|refine Aw ?_|refine AB ?_))<;>(repeat (first|refine Ah ?_|refine Al ?_|refine Ae ?_|refine Am ?_|refine At ?_|refine Au ?_|refine Ar rfl ?_|refine Aj rfl ?_))<;>(refine o_mv rfl rfl ?_<;>refine o_ln rfl rfl ?_<;>refine o_mv rfl rfl ?_<;>(first|refine Ay ?_|refine Az ?_|refine Aw ?_|refine AB ?_))<;>(repeat (first|refine Ah ?_|refine Al ?_|refine Ae ?_|refine Am ?_|refine At ?_|refine Au ?_|refine Ar rfl ?_|refine Aj rfl ?_)))
    have hby0:ByInv w4 w2.heap.size w3.heap.size (List.replicate m (.slice none 0 0)) (.slice none 0 0) (fun i=>((ops.take 0).filter (valB t u i))) ((ops.take 0).filter (restB t u)) m:=by
      have hget:∀ (i:Nat) (x:Value),(List.replicate m (Value.slice none 0 0))[i]?=some x→x=.slice none 0 0:=fun i x h=>by
        rw [List.getElem?_replicate] at h;split at h<;>simp at h;exact h.symm
      refine ⟨by simp,by have:=hN4.blk;rwa [MO] at this,fun i x h=>?_,by simpa using Own.nil _ _ _ _,fun i j x y _ hx _ g hg=>?_,fun i x hx g hg=>?_⟩
      · rw [hget i x h];simpa using Own.nil _ _ _ _
      · rw [hget i x hx] at hg;simp [Value.ownBlock] at hg
      · rw [hget i x hx] at hg;simp [Value.ownBlock] at hg
    refine Bp ops.length (by omega) (fun x:List Value×Value=>[(1,.slice Ax ops.length cx),(3,.pointer (some ⟨w.heap.size,0,none⟩)),(5,.pointer (some ⟨w1.heap.size,0,none⟩)),(7,.slice (some ⟨w3.heap.size,0,none⟩) m m),(8,x.2),(55,.slice Ax ops.length cx)])
      (fun k x w'=>Ext w w'∧Blk w' w.heap.size 104 [.pointer (some ⟨gb,0,none⟩)]∧Blk w' w1.heap.size 3 [.int .i64 (u:Int)]∧ByInv w' w2.heap.size w3.heap.size x.1 x.2 (fun i=>((ops.take k).filter (valB t u i))) ((ops.take k).filter (restB t u)) m) (List.replicate m (.slice none 0 0),.slice none 0 0)
      ⟨hE4,hb1,hb2,hby0⟩ ⟨rfl,rfl,rfl,rfl,rfl,rfl,rfl,rfl,trivial⟩ (fun _=>⟨rfl,rfl⟩) ⟨rfl,rfl,rfl⟩ ⟨rfl,rfl⟩ ?_ ?_
    · rintro k ⟨vals,rv⟩ w5 hk ⟨hE5,hb1,hb2,hby⟩
      dsimp only at hby
      obtain ⟨x,hx⟩:=AH hk
      obtain ⟨hx0,hx1⟩:=hin x (List.mem_of_getElem? hx)
      obtain ⟨j,rfl⟩:=Int.eq_ofNat_of_zero_le hx0
      obtain ⟨o,ho⟩:=AH (l:=t.ops) (k:=j) (by omega)
      have hpre:preOf t (j:Int)=o.pre:=by simp [preOf,ho]
      obtain ⟨b2,o2,ce,rfl,hbF,_,hd0,rfl,hxin⟩:=hops.elem hx
      have hd1:=Hv hd0 (hF _ hbF) hE5
      ((repeat (first|refine Ah ?_|refine Al ?_|refine Ae ?_|refine Am ?_|refine At ?_|refine Au ?_|refine Ar rfl ?_|refine Aj rfl ?_))<;>(refine o_ia rfl rfl rfl ?_<;>refine o_ld rfl rfl ?_<;>refine o_as rfl rfl ?_<;>(first|refine Ay ?_|refine Az ?_|refine Aw ?_|refine AB ?_))<;>(repeat (first|refine Ah ?_|refine Al ?_|refine Ae ?_|refine Am ?_|refine At ?_|refine Au ?_|refine Ar rfl ?_|refine Aj rfl ?_))<;>(refine o_ld rfl rfl ?_<;>refine o_mv rfl rfl ?_<;>refine o_ld rfl rfl ?_)<;>(repeat (first|refine Ah ?_|refine Al ?_|refine Ae ?_|refine Am ?_|refine At ?_|refine Au ?_|refine Ar rfl ?_|refine Aj rfl ?_)))
      refine Bb rfl rfl (genFact (hg0.ext hE5) ho) ?_
      rintro _ w6 ⟨rfl,hE6⟩
      replace hb1:=hb1.ext hE6
      replace hb2:=hb2.ext hE6
      replace hby:=hby.ext hE6
      have hE06:Ext w w6:=hE5.trans' hE6
      have hkl:((ops.take k).filter (restB t u)).length≤4096:=Nat.le_trans (List.length_filter_le _ _) (by rw [List.length_take];omega)
      cases hf:factOn o.pre (u:Int) with
      | none =>
        simp only [factV]
        (refine o_mv rfl rfl ?_<;>refine o_ex rfl rfl rfl ?_<;>refine o_ex rfl rfl rfl ?_)
        refine BO rfl rfl rfl (by simp [Value.cells,Value.oneCell']) fun w7 hN7=>?_
        replace hb1:=hb1.ext hN7.ext
        replace hb2:=hb2.ext hN7.ext
        replace hby:=hby.ext hN7.ext
        have hE7:Ext w w7:=hE06.trans' hN7.ext
        (refine o_as rfl rfl ?_<;>(first|refine Ay ?_|refine Az ?_|refine Aw ?_|refine AB ?_))
        repeat (first|refine Ah ?_|refine Al ?_|refine Ae ?_|refine Am ?_|refine At ?_|refine Au ?_|refine Ar rfl ?_|refine Aj rfl ?_)
        ((repeat (first|refine Ah ?_|refine Al ?_|refine Ae ?_|refine Am ?_|refine At ?_|refine Au ?_|refine Ar rfl ?_|refine Aj rfl ?_))<;>(refine o_mv rfl rfl ?_<;>(first|refine Ay ?_|refine Az ?_|refine Aw ?_|refine AB ?_))<;>(repeat (first|refine Ah ?_|refine Al ?_|refine Ae ?_|refine Am ?_|refine At ?_|refine Au ?_|refine Ar rfl ?_|refine Aj rfl ?_)))
        (refine o_mv rfl rfl ?_<;>refine o_mv rfl rfl ?_)
        have hl2:=hb2.lt
        refine Kq (a:=(j:Int)) rfl rfl rfl hby.rest (fun _ h=>h.elim) (by omega) ⟨rfl,hxin⟩ (by decide) (by decide) (by omega) (by omega) ⟨rfl,rfl⟩ fun rv' w8 ho8 hK8 hat=>?_
        have hB8:Below w2.heap.size w7 w8:=hby.rest.fits (Nat.le_refl _) (by omega) hK8
        have hby8:=hby.putRest hK8 ho8 hat
        (refine o_as rfl rfl ?_<;>(first|refine Ay ?_|refine Az ?_|refine Aw ?_|refine AB ?_))
        repeat (first|refine Ah ?_|refine Al ?_|refine Ae ?_|refine Am ?_|refine At ?_|refine Au ?_|refine Ar rfl ?_|refine Aj rfl ?_)
        refine ⟨(vals,rv'),⟨rfl,rfl,rfl,rfl,rfl,rfl,rfl,rfl,trivial⟩,hE7.trans (hB8.mono (by omega)),hb1.keep (hB8.block _ (by omega)),hb2.keep (hB8.block _ (by omega)),?_⟩
        have e1:∀ i,(ops.take (k + 1)).filter (valB t u i)=(ops.take k).filter (valB t u i):=fun i=>by rw [Fe hx];simp [valB,hpre,hf]
        have e2:(ops.take (k + 1)).filter (restB t u)=(ops.take k).filter (restB t u) ++ [(j:Int)]:=by rw [Fe hx];simp [restB,hpre,hf]
        dsimp only
        rw [e2]
        simp only [e1]
        exact hby8
      | some f =>
        obtain ⟨hf0,n',hn',hf1⟩:=hfv j o ho u f hf hun'
        rw [hn] at hn';injection hn' with hn';subst hn'
        obtain ⟨x0,hj1⟩:=Int.eq_ofNat_of_zero_le hf0
        have hx0m:x0 < m:=by omega
        obtain ⟨u0,hu0⟩:=AH (l:=vals) (k:=x0) (by rw [hby.len];exact hx0m)
        simp only [factV]
        (refine o_mv rfl rfl ?_<;>refine o_ex rfl rfl rfl ?_<;>refine o_ex rfl rfl rfl ?_)
        refine BO rfl rfl rfl (by simp [Value.cells,Value.oneCell']) fun w7 hN7=>?_
        replace hb1:=hb1.ext hN7.ext
        replace hb2:=hb2.ext hN7.ext
        replace hby:=hby.ext hN7.ext
        have hE7:Ext w w7:=hE06.trans' hN7.ext
        have hbf:=hN7.blk
        (refine o_as rfl rfl ?_<;>(first|refine Ay ?_|refine Az ?_|refine Aw ?_|refine AB ?_))
        repeat (first|refine Ah ?_|refine Al ?_|refine Ae ?_|refine Am ?_|refine At ?_|refine Au ?_|refine Ar rfl ?_|refine Aj rfl ?_)
        ((repeat (first|refine Ah ?_|refine Al ?_|refine Ae ?_|refine Am ?_|refine At ?_|refine Au ?_|refine Ar rfl ?_|refine Aj rfl ?_))<;>(refine o_mv rfl rfl ?_<;>(first|refine Ay ?_|refine Az ?_|refine Aw ?_|refine AB ?_))<;>(repeat (first|refine Ah ?_|refine Al ?_|refine Ae ?_|refine Am ?_|refine At ?_|refine Au ?_|refine Ar rfl ?_|refine Aj rfl ?_)))
        have hl2:=hb2.lt
        have hown0:=hby.own x0 u0 hu0
        have hkl0:((ops.take k).filter (valB t u x0)).length≤4096:=Nat.le_trans (List.length_filter_le _ _) (by rw [List.length_take];omega)
        refine BV (fun w'=>Blk w' w6.heap.size 62 [.int .i64 f.var,.int .i64 f.val]∧Blk w' w3.heap.size 22 vals) [(0,true),(1,true),(2,true),(3,true),(4,true),(5,true),(6,true),(7,true),(8,true),(9,false),(10,false),(11,true),(12,false)] (by kernel_rfl) rfl (by kernel_rfl) ⟨hbf,hby.blk⟩ ?_
        have hb1s:=hb1
        have hb2s:=hb2
        clear hb2
        replace hb1:∀ w',(Blk w' w6.heap.size 62 [.int .i64 f.var,.int .i64 f.val]∧Blk w' w3.heap.size 22 vals)→Blk w' w6.heap.size 62 [.int .i64 f.var,.int .i64 f.val]:=fun _ h=>h.1
        have hc1:∀ w',(Blk w' w6.heap.size 62 [.int .i64 f.var,.int .i64 f.val]∧Blk w' w3.heap.size 22 vals)→w'.cell? ⟨w3.heap.size,0 + x0 * 1,none⟩=some u0:=fun _ h=>h.2.cell (by rw [Nat.zero_add,Nat.mul_one];exact hu0)
        (refine h_mv rfl rfl rfl ?_<;>refine h_fa rfl rfl rfl ?_<;>(first|refine h_ldB rfl rfl rfl ?_|refine h_ldC rfl rfl rfl ?_)<;>refine h_mv rfl rfl rfl ?_<;>refine h_fa rfl rfl rfl ?_<;>(first|refine h_ldB rfl rfl rfl ?_|refine h_ldC rfl rfl rfl ?_)<;>refine h_ia rfl rfl rfl rfl ?_<;>(first|refine h_ldB rfl rfl rfl ?_|refine h_ldC rfl rfl rfl ?_)<;>refine h_mv rfl rfl rfl ?_)
        refine BB rfl ?_
        refine CU rfl rfl rfl (by simp [Value.cells]) (by decide) rfl fun w8 hN8=>?_
        refine BY ⟨hbf.ext hN8.ext,hby.blk.ext hN8.ext⟩ ?_
        refine BB rfl ?_
        refine Ef (α:=Int) (A:=some ⟨w7.heap.size,0,none⟩) (c:=1) (ys:=[(j:Int)]) (cells:=[.int .i64 (j:Int)]) rfl rfl (hown0.ext hN8.ext fun _ h=>h.elim) (fun _ h=>h.elim) (by have:=hN8.size;omega) (.single ⟨rfl,hxin⟩) (fun _=>⟨_,_,rfl,hN8.blk.cellsAt⟩) (by decide) (by rw [List.length_singleton];omega) (by rw [List.length_singleton];omega) rfl fun v' w9 ho9 hg9 hat=>?_
        have hK9:Kept w7 w9 u0:=⟨hg9.os.trans hN8.ext.os,hg9.tape.trans hN8.ext.tape,hg9.output.trans hN8.ext.output,Nat.le_trans hN8.ext.size hg9.size,fun k hk hne=>by rw [hg9.block k (Nat.lt_of_lt_of_le hk hN8.ext.size) (fun he=>hne he.symm),hN8.ext.block k hk]⟩
        have hbf9:=hK9.blk hbf (hown0.blk_ne hbf (by decide))
        have hby9:=hK9.blk hby.blk (hown0.blk_ne hby.blk (by decide))
        have hB9:Below w2.heap.size w7 w9:=hown0.fits (Nat.le_refl _) (by omega) hK9
        refine BY ⟨hbf9,hby9⟩ ?_
        (refine h_ia rfl rfl rfl rfl ?_)
        refine BB rfl ?_
        obtain ⟨A9,c9,rfl⟩:=ho9.form
        refine BN (g:=w3.heap.size) (o:=0 + x0 * 1) rfl rfl hby9 rfl (by rw [hby.len];show 0 + x0 * 1 + 1≤m;omega) (by simp [Value.cells,Value.oneCell']) fun w10 hU=>?_
        have hset:setFrom vals (0 + x0 * 1) [.slice A9 (List.filter (valB t u x0) (List.take k ops) ++ [(j:Int)]).length c9]=vals.set x0 (.slice A9 (List.filter (valB t u x0) (List.take k ops) ++ [(j:Int)]).length c9):=by rw [Nat.zero_add,Nat.mul_one];rfl
        have hU':Upd w9 w10 w3.heap.size 22 (vals.set x0 (.slice A9 (List.filter (valB t u x0) (List.take k ops) ++ [(j:Int)]).length c9)):=hset ▸ hU
        have hby10:=hby.putVal hu0 hK9 ho9 (by
          rcases hat with hat|hat
          · exact .inl hat
          · exact .inr ⟨_,hat,hN8.ext.size⟩) hU'
        have hB10:Below w2.heap.size w9 w10:=hU.below hw23
        refine EB ?_
        ((first|refine AK ?_|refine BW ?_|refine BX ?_))
        repeat (first|refine Ah ?_|refine Al ?_|refine Ae ?_|refine Am ?_|refine At ?_|refine Au ?_|refine Ar rfl ?_|refine Aj rfl ?_)
        refine ⟨(vals.set x0 (.slice A9 (List.filter (valB t u x0) (List.take k ops) ++ [(j:Int)]).length c9),rv),⟨rfl,rfl,rfl,rfl,rfl,rfl,rfl,rfl,trivial⟩,hE7.trans ((hB9.trans hB10).mono (by omega)),hb1s.keep ((hB9.trans hB10).block _ (by omega)),hb2s.keep ((hB9.trans hB10).block _ (by omega)),?_⟩
        have e1:∀ i,(ops.take (k + 1)).filter (valB t u i)=if i=x0 then (ops.take k).filter (valB t u x0) ++ [(j:Int)] else (ops.take k).filter (valB t u i):=fun i=>by
          rw [Fe hx]
          by_cases hi:i=x0
          · subst hi;simp [valB,hpre,hf,hj1]
          · have:¬ (f.val=(i:Int)):=by omega
            simp [valB,hpre,hf,hi,this]
        have e2:(ops.take (k + 1)).filter (restB t u)=(ops.take k).filter (restB t u):=by rw [Fe hx];simp [restB,hpre,hf]
        dsimp only
        rw [e2]
        simp only [e1]
        exact hby10
    rintro ⟨vals,rv⟩ w5 ⟨hE5,hb1,hb2,hby⟩
    dsimp only at hby
    rw [List.take_length] at hby
    have hl2:=hb2.lt
    have hb1s:=hb1
    have hb2s:=hb2
    have hflt:∀ p:Int→Bool,OpsIn t (ops.filter p)∧(ops.filter p).length≤4096:=fun p=>⟨fun x hx=>hin x (List.mem_filter.1 hx).1,Nat.le_trans (List.length_filter_le _ _) hlen⟩
    have hrv:Vb w5 (fun k=>rv.ownBlock=some k) rv (ops.filter (restB t u)):=hby.rest.vb.mono fun k hk=>hk.resolve_left id
    repeat (first|refine Ah ?_|refine Al ?_|refine Ae ?_|refine Am ?_|refine At ?_|refine Au ?_|refine Ar rfl ?_|refine Aj rfl ?_)
    refine BV (Ext w5) [(0,true),(1,true),(2,true),(3,true),(4,true),(5,false),(6,true),(7,false),(8,true)] (by kernel_rfl) rfl (by kernel_rfl) (Below.refl _ _) ?_
    (refine h_ldE rfl rfl rfl ?_<;>refine h_ldE rfl rfl rfl ?_<;>refine h_mv rfl rfl rfl ?_<;>refine h_ldE rfl rfl rfl ?_<;>(first|refine h_ic rfl rfl rfl ?_|refine h_ad rfl rfl rfl rfl ?_))
    refine BB rfl ?_
    refine Bb rfl rfl (ih w5 _ rv _ (u + 1) (fun k=>rv.ownBlock=some k) (hg0.ext hE5) hrv (fun k hk=>(hby.rest.lt k hk).2) (hflt _).1 (hflt _).2 (by omega) (by omega)) ?_
    rintro p6 w6 ⟨hT6,hE6⟩
    obtain ⟨q6,rfl⟩:=hT6.form
    refine BY hE6 ?_
    (refine h_bd rfl rfl rfl rfl ?_)
    refine BB rfl ?_
    refine CP rfl rfl fun w7 hN7=>?_
    refine BY (hE6.trans' hN7.ext) ?_
    (refine h_as rfl rfl rfl ?_<;>(first|refine AK ?_|refine BW ?_|refine BX ?_))
    have hnode:Blk w7 w6.heap.size 184 [.slice none 0 0,.bool false,.int .i64 (u:Int),.slice none 0 0,.pointer q6]:=hN7.blk
    have hby6:=hby.ext hE6
    repeat (first|refine Ah ?_|refine Al ?_|refine Ae ?_|refine Am ?_|refine At ?_|refine Au ?_|refine Ar rfl ?_|refine Aj rfl ?_)
    ((repeat (first|refine Ah ?_|refine Al ?_|refine Ae ?_|refine Am ?_|refine At ?_|refine Au ?_|refine Ar rfl ?_|refine Aj rfl ?_))<;>(refine o_mv rfl rfl ?_<;>refine o_ln rfl rfl ?_<;>refine o_mv rfl rfl ?_<;>(first|refine Ay ?_|refine Az ?_|refine Aw ?_|refine AB ?_))<;>(repeat (first|refine Ah ?_|refine Al ?_|refine Ae ?_|refine Am ?_|refine At ?_|refine Au ?_|refine Ar rfl ?_|refine Aj rfl ?_)))
    refine Bp m (by omega) (fun x:Value=>[(3,.pointer (some ⟨w.heap.size,0,none⟩)),(5,.pointer (some ⟨w1.heap.size,0,none⟩)),(13,.pointer (some ⟨w6.heap.size,0,none⟩)),(94,.slice (some ⟨w3.heap.size,0,none⟩) m m)])
      (fun k x w'=>Ext w6 w'∧Blk w' w6.heap.size 184 [.slice none 0 0,.bool false,.int .i64 (u:Int),x,.pointer q6]∧∃ G:Nat→Prop,(∀ k,G k→k < w'.heap.size∧w2.heap.size≤k)∧¬ G w6.heap.size∧Own w' w7.heap.size G 149 x ((List.range k).map fun i=>mkT t fuel (ops.filter (valB t u i)) (u + 1))) (.slice none 0 0)
      ⟨hN7.ext,hnode,fun _=>False,fun _ h=>h.elim,id,Own.nil _ _ _ _⟩ ⟨rfl,rfl,rfl,rfl,rfl,rfl,trivial⟩ (fun _=>⟨rfl,rfl⟩) ⟨rfl,rfl,rfl⟩ ⟨rfl,rfl⟩ ?_ ?_
    · rintro k xv w8 hk ⟨hE8,hnd,G,hG,hGn,hown⟩
      obtain ⟨u0,hu0⟩:=AH (l:=vals) (k:=k) (by rw [hby.len];exact hk)
      have hby8:=hby6.ext hE8
      have hE58:Ext w5 w8:=hE6.trans' hE8
      have hE08:Ext w w8:=hE5.trans' hE58
      have hc1:w8.cell? ⟨w3.heap.size,0 + k * 1,none⟩=some u0:=hby8.blk.cell (by rw [Nat.zero_add,Nat.mul_one];exact hu0)
      have hown0:=hby8.own k u0 hu0
      obtain ⟨Ak,ck,rfl⟩:=hown0.form
      obtain ⟨Ax',cx',rfl⟩:=hown.form
      have hz78:w7.heap.size≤w8.heap.size:=by have:=hnd.lt;have:=hN7.size;omega
      ((repeat (first|refine Ah ?_|refine Al ?_|refine Ae ?_|refine Am ?_|refine At ?_|refine Au ?_|refine Ar rfl ?_|refine Aj rfl ?_))<;>(refine o_ia rfl rfl rfl ?_<;>refine o_ld rfl rfl ?_<;>refine o_as rfl rfl ?_<;>(first|refine Ay ?_|refine Az ?_|refine Aw ?_|refine AB ?_))<;>(repeat (first|refine Ah ?_|refine Al ?_|refine Ae ?_|refine Am ?_|refine At ?_|refine Au ?_|refine Ar rfl ?_|refine Aj rfl ?_)))
      refine BV (fun w'=>Blk w' w6.heap.size 184 [.slice none 0 0,.bool false,.int .i64 (u:Int),.slice Ax' ((List.range k).map fun i=>mkT t fuel (ops.filter (valB t u i)) (u + 1)).length cx',.pointer q6]∧Blk w' w.heap.size 104 [.pointer (some ⟨gb,0,none⟩)]∧Blk w' w1.heap.size 3 [.int .i64 (u:Int)]) [(0,true),(1,true),(2,true),(3,true),(4,true),(5,true),(6,true),(7,true),(8,true),(9,false),(10,false),(11,false),(12,true),(13,true),(14,false)] (by kernel_rfl) rfl (by kernel_rfl) ⟨hnd,hb1s.ext hE58,hb2s.ext hE58⟩ ?_
      have hS8:∀ w',Ext w8 w'→Blk w' w6.heap.size 184 [.slice none 0 0,.bool false,.int .i64 (u:Int),.slice Ax' ((List.range k).map fun i=>mkT t fuel (ops.filter (valB t u i)) (u + 1)).length cx',.pointer q6]∧Blk w' w.heap.size 104 [.pointer (some ⟨gb,0,none⟩)]∧Blk w' w1.heap.size 3 [.int .i64 (u:Int)]:=fun w' h=>⟨hnd.ext h,(hb1s.ext hE58).ext h,(hb2s.ext hE58).ext h⟩
      clear hb1 hb2 hc1
      have hb1:∀ w',(Blk w' w6.heap.size 184 [.slice none 0 0,.bool false,.int .i64 (u:Int),.slice Ax' ((List.range k).map fun i=>mkT t fuel (ops.filter (valB t u i)) (u + 1)).length cx',.pointer q6]∧Blk w' w.heap.size 104 [.pointer (some ⟨gb,0,none⟩)]∧Blk w' w1.heap.size 3 [.int .i64 (u:Int)])→Blk w' w6.heap.size 184 [.slice none 0 0,.bool false,.int .i64 (u:Int),.slice Ax' ((List.range k).map fun i=>mkT t fuel (ops.filter (valB t u i)) (u + 1)).length cx',.pointer q6]:=fun _ h=>h.1
      have hb2:∀ w',(Blk w' w6.heap.size 184 [.slice none 0 0,.bool false,.int .i64 (u:Int),.slice Ax' ((List.range k).map fun i=>mkT t fuel (ops.filter (valB t u i)) (u + 1)).length cx',.pointer q6]∧Blk w' w.heap.size 104 [.pointer (some ⟨gb,0,none⟩)]∧Blk w' w1.heap.size 3 [.int .i64 (u:Int)])→Blk w' w.heap.size 104 [.pointer (some ⟨gb,0,none⟩)]:=fun _ h=>h.2.1
      have hb3:∀ w',(Blk w' w6.heap.size 184 [.slice none 0 0,.bool false,.int .i64 (u:Int),.slice Ax' ((List.range k).map fun i=>mkT t fuel (ops.filter (valB t u i)) (u + 1)).length cx',.pointer q6]∧Blk w' w.heap.size 104 [.pointer (some ⟨gb,0,none⟩)]∧Blk w' w1.heap.size 3 [.int .i64 (u:Int)])→Blk w' w1.heap.size 3 [.int .i64 (u:Int)]:=fun _ h=>h.2.2
      (refine h_mv rfl rfl rfl ?_<;>refine h_mv rfl rfl rfl ?_<;>refine h_nc rfl rfl rfl ?_<;>refine h_fa rfl rfl rfl ?_<;>(first|refine h_ldB rfl rfl rfl ?_|refine h_ldC rfl rfl rfl ?_)<;>(first|refine h_ldB rfl rfl rfl ?_|refine h_ldC rfl rfl rfl ?_)<;>refine h_mv rfl rfl rfl ?_<;>(first|refine h_ldB rfl rfl rfl ?_|refine h_ldC rfl rfl rfl ?_)<;>(first|refine h_ic rfl rfl rfl ?_|refine h_ad rfl rfl rfl rfl ?_))
      refine BB rfl ?_
      have hu0v:Vb w8 (fun q=>(Value.slice Ak (ops.filter (valB t u k)).length ck).ownBlock=some q) (.slice Ak (ops.filter (valB t u k)).length ck) (ops.filter (valB t u k)):=hown0.vb.mono fun q hq=>hq.resolve_left id
      refine Bb rfl rfl (ih w8 _ _ _ (u + 1) _ (hg0.ext hE08) hu0v (fun q hq=>(hown0.lt q hq).2) (hflt _).1 (hflt _).2 (by omega) (by omega)) ?_
      rintro p9 w9 ⟨hT9,hE9⟩
      obtain ⟨q9,rfl⟩:=hT9.form
      refine BY (hS8 w9 hE9) ?_
      refine BB rfl ?_
      refine CU rfl rfl rfl (by simp [Value.cells]) (by decide) rfl fun w10 hN10=>?_
      have hE10:Ext w8 w10:=hE9.trans' hN10.ext
      refine BY (hS8 w10 hE10) ?_
      have hG':∀ q,(G q∨(Value.slice Ak (ops.filter (valB t u k)).length ck).ownBlock=some q∨w8.heap.size≤q∧q < w9.heap.size)→q < w9.heap.size∧w2.heap.size≤q:=fun q hq=>by
        have h9:=hE9.size
        have h6:=hE6.size
        have h7:=hN7.size
        rcases hq with hq|hq|hq
        · have:=hG q hq;exact ⟨by omega,this.2⟩
        · have:=hown0.lt q hq;exact ⟨by omega,this.1⟩
        · exact ⟨hq.2,by omega⟩
      have hGx:∀ g,(Value.slice Ax' ((List.range k).map fun i=>mkT t fuel (ops.filter (valB t u i)) (u + 1)).length cx').ownBlock=some g→¬ (G g∨(Value.slice Ak (ops.filter (valB t u k)).length ck).ownBlock=some g∨w8.heap.size≤g∧g < w9.heap.size):=fun g hg h=>by
        rcases h with h|h|h
        · obtain ⟨_,_,_,h3⟩:=hown;exact h3 g hg h
        · exact hown.own_ne hown0 (by decide) g hg h
        · have:=(hown.lt g hg).2;omega
      have hownG:Own w9 w7.heap.size (fun q=>G q∨(Value.slice Ak (ops.filter (valB t u k)).length ck).ownBlock=some q∨w8.heap.size≤q∧q < w9.heap.size) 149 _ _:=(hown.ext hE9 fun q hq=>(hG q hq).1).mono (fun q hq=>.inl hq) hGx
      have hch:Chunks w10 (fun q=>G q∨(Value.slice Ak (ops.filter (valB t u k)).length ck).ownBlock=some q∨w8.heap.size≤q∧q < w9.heap.size) [.pointer q9] [mkT t fuel (ops.filter (valB t u k)) (u + 1)] :=
        .single (show Rp.R w10 _ [.pointer q9] _ from ⟨q9,rfl,TrR.agree (hN10.ext.agree fun q hq=>(hG' q hq).1) (TrR.mono (fun q hq=>by
          rcases hq with hq|hq
          · exact .inr (.inl hq)
          · exact .inr (.inr hq)) hT9)⟩)
      refine BB rfl ?_
      have hmk:((List.range k).map fun i=>mkT t fuel (ops.filter (valB t u i)) (u + 1)).length≤64:=by simp;omega
      refine Ef (α:=Tr) (A:=some ⟨w9.heap.size,0,none⟩) (c:=1) (ys:=[mkT t fuel (ops.filter (valB t u k)) (u + 1)]) (cells:=[.pointer q9]) rfl rfl (hownG.ext hN10.ext fun q hq=>(hG' q hq).1) (fun q hq=>Nat.lt_of_lt_of_le (hG' q hq).1 hN10.ext.size) (by have:=hE10.size;omega) hch (fun _=>⟨_,_,rfl,hN10.blk.cellsAt⟩) (by decide) (by rw [List.length_singleton];omega) (by rw [List.length_singleton];omega) rfl fun v' w11 ho11 hg11 hat=>?_
      have hown10:=hown.ext hE10 fun q hq=>(hG q hq).1
      have hK11:Kept w8 w11 (.slice Ax' ((List.range k).map fun i=>mkT t fuel (ops.filter (valB t u i)) (u + 1)).length cx'):=⟨hg11.os.trans hE10.os,hg11.tape.trans hE10.tape,hg11.output.trans hE10.output,Nat.le_trans hE10.size hg11.size,fun q hq hne=>by rw [hg11.block q (Nat.lt_of_lt_of_le hq hE10.size) (fun he=>hne he.symm),hE10.block q hq]⟩
      have hB11:Below w7.heap.size w8 w11:=hown.fits (Nat.le_refl _) hz78 hK11
      have hnd11:=hK11.blk hnd (hown.blk_ne hnd (by decide))
      have hz67:=hN7.size
      refine BY ⟨hnd11,(hb1s.ext hE58).keep (hB11.block _ (by have:=hE6.size;omega)),(hb2s.ext hE58).keep (hB11.block _ (by have:=hE6.size;omega))⟩ ?_
      (refine h_nc rfl rfl rfl ?_<;>refine h_fa rfl rfl rfl ?_)
      refine BB rfl ?_
      obtain ⟨A11,c11,rfl⟩:=ho11.form
      refine BN (g:=w6.heap.size) rfl rfl hnd11 rfl (show 0 + 3 + 1≤5 by decide) (by simp [Value.cells,Value.oneCell']) fun w12 hU=>?_
      refine EB ?_
      ((first|refine AK ?_|refine BW ?_|refine BX ?_))
      repeat (first|refine Ah ?_|refine Al ?_|refine Ae ?_|refine Am ?_|refine At ?_|refine Au ?_|refine Ar rfl ?_|refine Aj rfl ?_)
      refine ⟨_,⟨rfl,rfl,rfl,rfl,rfl,rfl,trivial⟩,?_,hU.blk,(fun q=>G q∨(Value.slice Ak (ops.filter (valB t u k)).length ck).ownBlock=some q∨w8.heap.size≤q∧q < w9.heap.size),?_,?_,?_⟩
      · exact hE8.trans ((hB11.mono (by omega)).trans (hU.below (Nat.le_refl _)))
      · intro q hq
        have:=hG' q hq
        have h1:=hN10.ext.size
        have h2:=hg11.size
        exact ⟨by rw [hU.size];omega,this.2⟩
      · rintro (h|h|h)
        · exact hGn h
        · exact hown0.blk_ne hnd (by decide) h
        · have:=hnd.lt;omega
      · rw [List.range_succ,List.map_append]
        have hne:(Value.slice A11 (((List.range k).map fun i=>mkT t fuel (ops.filter (valB t u i)) (u + 1)) ++ [mkT t fuel (ops.filter (valB t u k)) (u + 1)]).length c11).ownBlock≠some w6.heap.size:=ho11.blk_ne hnd11 (by decide)
        exact ho11.agree (hU.agree (by
          rintro (h|h|h)
          · exact hGn h
          · exact hown0.blk_ne hnd (by decide) h
          · have:=hnd.lt;omega)) fun g hg=>hU.other g fun he=>hne (he ▸ hg)
    rintro xv w8 ⟨hE8,hnd,G,hG,hGn,hown⟩
    repeat (first|refine Ah ?_|refine Al ?_|refine Ae ?_|refine Am ?_|refine At ?_|refine Au ?_|refine Ar rfl ?_|refine Aj rfl ?_)
    ((repeat (first|refine Ah ?_|refine Al ?_|refine Ae ?_|refine Am ?_|refine At ?_|refine Au ?_|refine Ar rfl ?_|refine Aj rfl ?_))<;>(refine o_mv rfl rfl ?_<;>refine o_as rfl rfl ?_<;>(first|refine Ay ?_|refine Az ?_|refine Aw ?_|refine AB ?_))<;>(repeat (first|refine Ah ?_|refine Al ?_|refine Ae ?_|refine Am ?_|refine At ?_|refine Au ?_|refine Ar rfl ?_|refine Aj rfl ?_)))
    have hE08:Ext w w8:=hE5.trans' (hE6.trans' hE8)
    obtain ⟨Ax',cx',rfl⟩:=hown.form
    have hxl:((List.range m).map fun i=>mkT t fuel (ops.filter (valB t u i)) (u + 1)).length=m:=by simp
    rw [hxl] at hnd
    refine ret1 rfl rfl ⟨⟨w6.heap.size,Ax',cx',q6,rfl,.inr ⟨by have:=hE5.size;have:=hE6.size;omega,hnd.lt⟩,hnd,?_,fun i hi=>?_⟩,hE08⟩
    · refine TrR.mono (fun q hq=>?_) (TrR.agree (hE8.agree fun q hq=>?_) hT6)
      · rcases hq with hq|hq
        · have:=hby.rest.lt q hq;have:=hE6.size;have:=hE8.size;exact .inr ⟨by omega,by omega⟩
        · have:=hE8.size;have:=hE5.size;exact .inr ⟨by omega,by omega⟩
      · rcases hq with hq|hq
        · have:=hby.rest.lt q hq;have:=hE6.size;omega
        · exact hq.2
    · have hvb:=hown.vb
      obtain ⟨b9,o9,cs9,hA,hF9,_,hc9,q9,rfl,hT9⟩:=hvb.elem (k:=i) (x:=mkT t fuel (ops.filter (valB t u i)) (u + 1)) (by rw [List.getElem?_map,List.getElem?_range hi];rfl)
      have hsub:∀ q,(G q∨(Value.slice Ax' ((List.range m).map fun i=>mkT t fuel (ops.filter (valB t u i)) (u + 1)).length cx').ownBlock=some q)→more F w w8 q:=fun q hq=>by
        rcases hq with hq|hq
        · have:=hG q hq;exact .inr ⟨by omega,this.1⟩
        · have h1:=hown.lt q hq;have:=hN7.size;have:=hE6.size;exact .inr ⟨by omega,h1.2⟩
      exact ⟨b9,o9,q9,hA,hsub _ hF9,by have:=hc9.1;rwa [show i * Rp.size Tr=i from Nat.mul_one i] at this,TrR.mono hsub hT9⟩
end
section
open Go Go.RowKit
attribute [local irreducible] ewp owp hwp hwq hws Ev Evg Fn retPost loud loudS Res1
def nw (w w':World):Nat→Prop:=fun k=>w.heap.size≤k∧k < w'.heap.size
theorem Jg {w:World} {F G:Nat→Prop}:∀ {xs:List Fct} {cells:List Value},Chunks w F cells xs→Chunks w G cells xs
  | [],_,h=>h
  | _ :: _,_,⟨cs,rest,he,hr,hc⟩=>⟨cs,rest,he,hr,Jg hc⟩
theorem Gm {w:World} {F G:Nat→Prop}:∀ {xs:List Int} {cells:List Value},Chunks w F cells xs→Chunks w G cells xs
  | [],_,h=>h
  | _ :: _,_,⟨cs,rest,he,hr,hc⟩=>⟨cs,rest,he,hr,Gm hc⟩
theorem cloneIntsN {w:World} {sv:Value} {xs:List Int} (hs:V w sv xs) (hl:xs.length≤1000000):Fn Tryz.prog 50 [sv] w fun v w'=>Vb w' (nw w w') v xs∧Ext w w' :=
  (cloneInts hs (by omega)).mono fun v w' ⟨ho,hE⟩=>⟨by
    obtain ⟨cells,q1,q2,q3⟩:=id ho
    have ho':Own w' w.heap.size (fun _=>False) 3 v xs:=⟨cells,q1,Gm q2,fun _ _ h=>h⟩
    exact ho'.vb.mono fun k hk=>ho.lt k (hk.resolve_left id),hE⟩
theorem cloneFactsN {w:World} {sv:Value} {xs:List Fct} (hs:V w sv xs) (hl:xs.length≤1000000):Fn Tryz.prog 51 [sv] w fun v w'=>Vb w' (nw w w') v xs∧Ext w w' :=
  (cloneFacts hs (by omega)).mono fun v w' ⟨ho,hE⟩=>⟨by
    obtain ⟨cells,q1,q2,q3⟩:=id ho
    have ho':Own w' w.heap.size (fun _=>False) 62 v xs:=⟨cells,q1,Jg q2,fun _ _ h=>h⟩
    exact ho'.vb.mono fun k hk=>ho.lt k (hk.resolve_left id),hE⟩
theorem Vb.nwext {α:Type} [Rp α] {w w' w'':World} {v:Value} {x:α} (h:Vb w' (nw w w') v x) (hE:Ext w' w''):Vb w'' (nw w w') v x:=h.agree (hE.agree fun _ hk=>hk.2)
theorem genCopied {w:World} {tv:Value} {t:Tsk} (ht:V w tv t) (hl1:t.vars.length≤1000000) (hl2:t.init.length≤1000000) (hl3:t.goal.length≤1000000) (hl4:t.ops.length≤1000000)
    (hl5:∀ (i:Nat) o,t.ops[i]?=some o→o.pre.length≤1000000∧o.effs.length≤1000000∧∀ (j:Nat) e,o.effs[j]?=some e→e.cond.length≤1000000) :
    Fn Tryz.prog 87 [tv] w fun v w'=>Vb w' (nw w w') v t∧Ext w w':=by
  obtain ⟨cs,rfl,a,b,c,d,rfl,hvars,hinit,hgoal,hops⟩:=ht
  obtain ⟨Av,cv,rfl⟩:=hvars.form
  obtain ⟨Ai,ci,rfl⟩:=hinit.form
  obtain ⟨Ag,cg,rfl⟩:=hgoal.form
  obtain ⟨Ao,co,rfl⟩:=hops.form
  refine AL Tryz.func87 rfl Tryz.ntmps87 rfl ?_
  repeat (first|refine Ah ?_|refine Al ?_|refine Ae ?_|refine Am ?_|refine At ?_|refine Au ?_|refine Ar rfl ?_|refine Aj rfl ?_)
  refine CP rfl rfl fun w1 hN1=>?_
  refine Dk rfl fun w2 hN2=>?_
  have hE2:Ext w w2:=hN1.ext.trans' hN2.ext
  have hz1:w1.heap.size=w.heap.size + 1:=hN1.size
  have hz2:w2.heap.size=w1.heap.size + 1:=hN2.size
  have hb1:Blk w2 w.heap.size 26 [.slice Av t.vars.length cv,.slice Ai t.init.length ci,.slice Ag t.goal.length cg,.slice Ao t.ops.length co]:=hN1.blk.ext hN2.ext
  have hres:Blk w2 w1.heap.size 26 [.slice none 0 0,.slice none 0 0,.slice none 0 0,.slice none 0 0]:=hN2.blk
  ((first|refine Ay ?_|refine Az ?_|refine Aw ?_|refine AB ?_))
  refine LB (fun l' w'=>∃ g3 av bv cv',subs l' [(1,.pointer (some ⟨w.heap.size,0,none⟩)),(2,.pointer (some ⟨w1.heap.size,0,none⟩)),(3,.pointer (some ⟨g3,0,none⟩))]∧Ext w2 w'∧w2.heap.size≤g3∧Blk w' g3 26 [av,bv,cv',.slice none 0 0] ∧
    Vb w' (fun k=>nw w2 w' k∧k≠g3) av t.vars∧Vb w' (fun k=>nw w2 w' k∧k≠g3) bv t.init∧Vb w' (fun k=>nw w2 w' k∧k≠g3) cv' t.goal) ?_ ?_
  · have q0:∀ w',Ext w2 w'→Blk w' w.heap.size 26 [.slice Av t.vars.length cv,.slice Ai t.init.length ci,.slice Ag t.goal.length cg,.slice Ao t.ops.length co]:=fun w' h=>hb1.ext h
    refine Mx (Ext w2) ?_
    refine hws_q (i:=0) rfl (by kernel_rfl) (by kernel_rfl) (by kernel_rfl) rfl rfl (evg fun _ _=>CX rfl) (Below.refl _ _) ?_
    refine hws_q (i:=1) rfl (by kernel_rfl) (by kernel_rfl) (by kernel_rfl) rfl rfl (evg fun _ hS=>DC rfl ((hb1.ext hS).cell rfl)) (Below.refl _ _) ?_
    refine hws_q (i:=3) rfl (by kernel_rfl) (by kernel_rfl) (by kernel_rfl) rfl rfl (evg fun _ _=>CX rfl) (Below.refl _ _) ?_
    refine hws_q (i:=4) rfl (by kernel_rfl) (by kernel_rfl) (by kernel_rfl) rfl rfl (evg fun _ hS=>DC rfl ((hb1.ext hS).cell rfl)) (Below.refl _ _) ?_
    refine hws_q (i:=6) rfl (by kernel_rfl) (by kernel_rfl) (by kernel_rfl) rfl rfl (evg fun _ _=>CX rfl) (Below.refl _ _) ?_
    refine hws_q (i:=7) rfl (by kernel_rfl) (by kernel_rfl) (by kernel_rfl) rfl rfl (evg fun _ hS=>DC rfl ((hb1.ext hS).cell rfl)) (Below.refl _ _) ?_
    refine Jt (i:=2) (j:=10) (by kernel_rfl) rfl rfl ?_ ?_
    · refine Bb rfl rfl (cloneIntsN (hvars.ext hE2) hl1) ?_
      rintro av w3 ⟨hav,hE3⟩
      refine EC hE3 ?_
      refine Jt (i:=5) (j:=10) (by kernel_rfl) rfl rfl ?_ ?_
      · refine Bb rfl rfl (cloneIntsN (hinit.ext (hE2.trans' hE3)) hl2) ?_
        rintro bv w4 ⟨hbv,hE4⟩
        refine EC (hE3.trans' hE4) ?_
        refine Jt (i:=8) (j:=10) (by kernel_rfl) rfl rfl ?_ ?_
        · refine Bb rfl rfl (cloneFactsN (hgoal.ext (hE2.trans' (hE3.trans' hE4))) hl3) ?_
          rintro cv' w5 ⟨hcv,hE5⟩
          refine EC (hE3.trans' (hE4.trans' hE5)) ?_
          refine Ic [(9,true),(10,false),(11,false)] (by kernel_rfl) rfl (by kernel_rfl) (hE3.trans' (hE4.trans' hE5)) ?_
          obtain ⟨Aa,ca,rfl⟩:=hav.form
          obtain ⟨Ab,cb,rfl⟩:=hbv.form
          obtain ⟨Ac,cc,rfl⟩:=hcv.form
          refine hwp_o rfl ?_
          refine AX (fun _ _=>EW rfl rfl) rfl ?_
          refine BB rfl ?_
          refine Dk rfl fun w6 hN6=>?_
          refine BY (hE3.trans' (hE4.trans' (hE5.trans' hN6.ext))) ?_
          refine BB rfl ?_
          refine BN rfl rfl hN6.blk rfl (Nat.le_refl _) (by simp [Value.cells,Value.oneCell',setParts,setFrom]) fun w7 hU=>?_
          refine EB (AK ?_)
          have hE7:Ext w5 w7:=(hN6.upd hU).ext
          have s3:=hE3.size;have s4:=hE4.size;have s5:=hE5.size;have s7:=hE7.size
          refine ⟨w5.heap.size,_,_,_,⟨rfl,rfl,rfl,trivial⟩,hE3.trans' (hE4.trans' (hE5.trans' hE7)),by omega,hU.blk,?_,?_,?_⟩
          · exact ((((hav.nwext hE4).agree (hE5.agree fun k hk=>by have:=hk.2;omega)).agree (hE7.agree fun k hk=>by have:=hk.2;omega)).mono fun k hk=>⟨⟨by have:=hk.1;omega,by have:=hk.2;omega⟩,by have:=hk.2;omega⟩)
          · exact ((hbv.nwext hE5).agree (hE7.agree fun k hk=>by have:=hk.2;omega)).mono fun k hk=>⟨⟨by have:=hk.1;omega,by have:=hk.2;omega⟩,by have:=hk.2;omega⟩
          · exact (hcv.nwext hE7).mono fun k hk=>⟨⟨by have:=hk.1;omega,by have:=hk.2;omega⟩,by have:=hk.2;omega⟩
        · refine Dk rfl fun w5 hN=>?_
          have hE5:=hN.ext
          refine EC (hE3.trans' (hE4.trans' hE5)) ?_
          refine Ic [(8,false),(9,true),(11,false)] (by kernel_rfl) rfl (by kernel_rfl) (hE3.trans' (hE4.trans' hE5)) ?_
          refine BB rfl ?_
          refine Bb rfl rfl (cloneFactsN (hgoal.ext (hE2.trans' (hE3.trans' (hE4.trans' hE5)))) hl3) ?_
          rintro cv' w6 ⟨hcv,hE6⟩
          refine BY (hE3.trans' (hE4.trans' (hE5.trans' hE6))) ?_
          have hg3:=hN.blk.ext hE6
          obtain ⟨Aa,ca,rfl⟩:=hav.form
          obtain ⟨Ab,cb,rfl⟩:=hbv.form
          obtain ⟨Ac,cc,rfl⟩:=hcv.form
          refine hwp_o rfl ?_
          refine AX (fun _ _=>EW rfl rfl) rfl ?_
          refine BB rfl ?_
          refine BN rfl rfl hg3 rfl (Nat.le_refl _) (by simp [Value.cells,Value.oneCell',setParts,setFrom]) fun w7 hU=>?_
          refine EB (AK ?_)
          have s3:=hE3.size;have s4:=hE4.size;have s5:=hE5.size;have s6:=hE6.size;have s7:=hU.size;have sN:=hN.size
          refine ⟨_,_,_,_,⟨rfl,rfl,rfl,trivial⟩,(hE3.trans' (hE4.trans' (hE5.trans' hE6))).trans (hU.below (by omega)),by omega,hU.blk,?_,?_,?_⟩
          · exact (hav.agree fun k hk=>(hU.other k (by have:=hk.2;omega)).trans ((hE4.trans' (hE5.trans' hE6)).block k hk.2)).mono fun k hk=>⟨⟨by have:=hk.1;omega,by have:=hk.2;omega⟩,by have:=hk.2;omega⟩
          · exact (hbv.agree fun k hk=>(hU.other k (by have:=hk.2;omega)).trans ((hE5.trans' hE6).block k hk.2)).mono fun k hk=>⟨⟨by have:=hk.1;omega,by have:=hk.2;omega⟩,by have:=hk.2;omega⟩
          · exact (hcv.agree fun k hk=>hU.other k (by have:=hk.1;omega)).mono fun k hk=>⟨⟨by have:=hk.1;omega,by have:=hk.2;omega⟩,by have:=hk.1;omega⟩
      · refine Dk rfl fun w4 hN=>?_
        have hE4:=hN.ext
        refine EC (hE3.trans' hE4) ?_
        refine Ic [(5,false),(8,false),(9,true),(11,false)] (by kernel_rfl) rfl (by kernel_rfl) (hE3.trans' hE4) ?_
        refine BB rfl ?_
        refine Bb rfl rfl (cloneIntsN (hinit.ext (hE2.trans' (hE3.trans' hE4))) hl2) ?_
        rintro bv w5 ⟨hbv,hE5⟩
        refine BY (hE3.trans' (hE4.trans' hE5)) ?_
        refine BB rfl ?_
        refine Bb rfl rfl (cloneFactsN (hgoal.ext (hE2.trans' (hE3.trans' (hE4.trans' hE5)))) hl3) ?_
        rintro cv' w6 ⟨hcv,hE6⟩
        refine BY (hE3.trans' (hE4.trans' (hE5.trans' hE6))) ?_
        have hg3:=(hN.blk.ext hE5).ext hE6
        obtain ⟨Aa,ca,rfl⟩:=hav.form
        obtain ⟨Ab,cb,rfl⟩:=hbv.form
        obtain ⟨Ac,cc,rfl⟩:=hcv.form
        refine hwp_o rfl ?_
        refine AX (fun _ _=>EW rfl rfl) rfl ?_
        refine BB rfl ?_
        refine BN rfl rfl hg3 rfl (Nat.le_refl _) (by simp [Value.cells,Value.oneCell',setParts,setFrom]) fun w7 hU=>?_
        refine EB (AK ?_)
        have s3:=hE3.size;have s4:=hE4.size;have s5:=hE5.size;have s6:=hE6.size;have s7:=hU.size;have sN:=hN.size
        refine ⟨_,_,_,_,⟨rfl,rfl,rfl,trivial⟩,(hE3.trans' (hE4.trans' (hE5.trans' hE6))).trans (hU.below (by omega)),by omega,hU.blk,?_,?_,?_⟩
        · exact (hav.agree fun k hk=>(hU.other k (by have:=hk.2;omega)).trans ((hE4.trans' (hE5.trans' hE6)).block k hk.2)).mono fun k hk=>⟨⟨by have:=hk.1;omega,by have:=hk.2;omega⟩,by have:=hk.2;omega⟩
        · exact (hbv.agree fun k hk=>(hU.other k (by have:=hk.1;omega)).trans (hE6.block k hk.2)).mono fun k hk=>⟨⟨by have:=hk.1;omega,by have:=hk.2;omega⟩,by have:=hk.1;omega⟩
        · exact (hcv.agree fun k hk=>hU.other k (by have:=hk.1;omega)).mono fun k hk=>⟨⟨by have:=hk.1;omega,by have:=hk.2;omega⟩,by have:=hk.1;omega⟩
    · refine Dk rfl fun w3 hN=>?_
      have hE3:=hN.ext
      refine EC hE3 ?_
      refine Ic [(2,false),(5,false),(8,false),(9,true),(11,false)] (by kernel_rfl) rfl (by kernel_rfl) hE3 ?_
      refine BB rfl ?_
      refine Bb rfl rfl (cloneIntsN (hvars.ext (hE2.trans' hE3)) hl1) ?_
      rintro av w4 ⟨hav,hE4⟩
      refine BY (hE3.trans' hE4) ?_
      refine BB rfl ?_
      refine Bb rfl rfl (cloneIntsN (hinit.ext (hE2.trans' (hE3.trans' hE4))) hl2) ?_
      rintro bv w5 ⟨hbv,hE5⟩
      refine BY (hE3.trans' (hE4.trans' hE5)) ?_
      refine BB rfl ?_
      refine Bb rfl rfl (cloneFactsN (hgoal.ext (hE2.trans' (hE3.trans' (hE4.trans' hE5)))) hl3) ?_
      rintro cv' w6 ⟨hcv,hE6⟩
      refine BY (hE3.trans' (hE4.trans' (hE5.trans' hE6))) ?_
      have hg3:=((hN.blk.ext hE4).ext hE5).ext hE6
      obtain ⟨Aa,ca,rfl⟩:=hav.form
      obtain ⟨Ab,cb,rfl⟩:=hbv.form
      obtain ⟨Ac,cc,rfl⟩:=hcv.form
      refine hwp_o rfl ?_
      refine AX (fun _ _=>EW rfl rfl) rfl ?_
      refine BB rfl ?_
      refine BN rfl rfl hg3 rfl (Nat.le_refl _) (by simp [Value.cells,Value.oneCell',setParts,setFrom]) fun w7 hU=>?_
      refine EB (AK ?_)
      have s3:=hE3.size;have s4:=hE4.size;have s5:=hE5.size;have s6:=hE6.size;have s7:=hU.size;have sN:=hN.size
      refine ⟨_,_,_,_,⟨rfl,rfl,rfl,trivial⟩,(hE3.trans' (hE4.trans' (hE5.trans' hE6))).trans (hU.below (by omega)),by omega,hU.blk,?_,?_,?_⟩
      · exact (hav.agree fun k hk=>(hU.other k (by have:=hk.1;omega)).trans ((hE5.trans' hE6).block k hk.2)).mono fun k hk=>⟨⟨by have:=hk.1;omega,by have:=hk.2;omega⟩,by have:=hk.1;omega⟩
      · exact (hbv.agree fun k hk=>(hU.other k (by have:=hk.1;omega)).trans (hE6.block k hk.2)).mono fun k hk=>⟨⟨by have:=hk.1;omega,by have:=hk.2;omega⟩,by have:=hk.1;omega⟩
      · exact (hcv.agree fun k hk=>hU.other k (by have:=hk.1;omega)).mono fun k hk=>⟨⟨by have:=hk.1;omega,by have:=hk.2;omega⟩,by have:=hk.1;omega⟩
  · rintro l' w3 ⟨g3,av,bv,cv',hsub,hE3,hg3,hb3,hav,hbv,hcv⟩
    refine AP _ hsub ?_
    clear hsub
    replace hb1:=hb1.ext hE3
    replace hres:=hres.ext hE3
    have hE03:Ext w w3:=hE2.trans' hE3
    have hg3z:g3 < w3.heap.size:=hb3.lt
    repeat (first|refine Ah ?_|refine Al ?_|refine Ae ?_|refine Am ?_|refine At ?_|refine Au ?_|refine Ar rfl ?_|refine Aj rfl ?_)
    ((repeat (first|refine Ah ?_|refine Al ?_|refine Ae ?_|refine Am ?_|refine At ?_|refine Au ?_|refine Ar rfl ?_|refine Aj rfl ?_))<;>(refine o_fa rfl rfl ?_<;>refine o_ld rfl rfl ?_<;>refine o_ln rfl rfl ?_<;>refine o_mv rfl rfl ?_<;>(first|refine Ay ?_|refine Az ?_|refine Aw ?_|refine AB ?_))<;>(repeat (first|refine Ah ?_|refine Al ?_|refine Ae ?_|refine Am ?_|refine At ?_|refine Au ?_|refine Ar rfl ?_|refine Aj rfl ?_)))
    refine Bp t.ops.length (by omega) (fun _:Unit=>[(2,.pointer (some ⟨w1.heap.size,0,none⟩)),(3,.pointer (some ⟨g3,0,none⟩)),(20,.slice Ao t.ops.length co)])
      (fun k _ w'=>Below w2.heap.size w2 w'∧w3.heap.size≤w'.heap.size∧(∀ q,q < w3.heap.size→q≠g3→w'.heap[q]?=w3.heap[q]?)∧∃ (ov:Value) (G:Nat→Prop),Blk w' g3 26 [av,bv,cv',ov]∧(∀ q,G q→w3.heap.size≤q∧q < w'.heap.size)∧Own w' w3.heap.size G 67 ov (t.ops.take k)) ()
      ⟨hE3,Nat.le_refl _,fun _ _ _=>rfl,.slice none 0 0,fun _=>False,hb3,fun _ h=>h.elim,Own.nil _ _ _ _⟩ ⟨rfl,rfl,rfl,rfl,rfl,trivial⟩ (fun _=>⟨rfl,rfl⟩) ⟨rfl,rfl,rfl⟩ ⟨rfl,rfl⟩ ?_ ?_
    · rintro k _ w4 hk ⟨hB4,hz34,hkeep,ov,G,hb3,hG,hown⟩
      have hE04:Ext w w4:=hE2.trans (hB4.mono (by omega))
      obtain ⟨o,ho⟩:=AH hk
      obtain ⟨hp5,hq5,hc5⟩:=hl5 k o ho
      obtain ⟨b2,o2,ce,rfl,_,_,hd1,p,q,rfl,hp,hq,hc,hn⟩:=(hops.ext hE04).elem ho
      obtain ⟨Ap,cp,rfl⟩:=hp.form
      obtain ⟨Aq,cq,rfl⟩:=hq.form
      obtain ⟨Aov,cov,rfl⟩:=hown.form
      ((repeat (first|refine Ah ?_|refine Al ?_|refine Ae ?_|refine Am ?_|refine At ?_|refine Au ?_|refine Ar rfl ?_|refine Aj rfl ?_))<;>(refine o_ia rfl rfl rfl ?_<;>refine o_la rfl rfl ?_)<;>(repeat (first|refine Ah ?_|refine Al ?_|refine Ae ?_|refine Am ?_|refine At ?_|refine Au ?_|refine Ar rfl ?_|refine Aj rfl ?_)))
      refine BO rfl rfl rfl (by simp [Value.cells,Value.oneCell']) fun w5 hN5=>?_
      have hb2:Blk w5 w4.heap.size 67 [.string o.name,.int .i64 o.cost,.slice Ap o.pre.length cp,.slice Aq o.effs.length cq]:=hN5.blk
      have hz5:=hN5.size
      ((first|refine Ay ?_|refine Az ?_|refine Aw ?_|refine AB ?_))
      repeat (first|refine Ah ?_|refine Al ?_|refine Ae ?_|refine Am ?_|refine At ?_|refine Au ?_|refine Ar rfl ?_|refine Aj rfl ?_)
      clear hd1
      (refine o_fa rfl rfl ?_<;>refine o_ld rfl rfl ?_)
      refine Bb rfl rfl (cloneFactsN (hp.ext hN5.ext) hp5) ?_
      rintro pv w6 ⟨hpv,hE6⟩
      obtain ⟨Ap',cp',rfl⟩:=hpv.form
      replace hb2:=hb2.ext hE6
      (refine o_fa rfl rfl ?_)
      refine BN rfl rfl hb2 rfl (show 0 + 2 + 1≤4 by decide) (by simp [Value.cells,Value.oneCell']) fun w7 hU7=>?_
      have hE47:Ext w4 w7:=(hN5.ext.trans' hE6).trans (hU7.below (Nat.le_refl _))
      replace hb2:Blk w7 w4.heap.size 67 [.string o.name,.int .i64 o.cost,.slice Ap' o.pre.length cp',.slice Aq o.effs.length cq]:=hU7.blk
      have hpv7:Vb w7 (nw w5 w6) (.slice Ap' o.pre.length cp') o.pre:=hpv.agree fun q hq=>hU7.other q (by have:=hq.1;omega)
      ((first|refine Ay ?_|refine Az ?_|refine Aw ?_|refine AB ?_))
      repeat (first|refine Ah ?_|refine Al ?_|refine Ae ?_|refine Am ?_|refine At ?_|refine Au ?_|refine Ar rfl ?_|refine Aj rfl ?_)
      ((repeat (first|refine Ah ?_|refine Al ?_|refine Ae ?_|refine Am ?_|refine At ?_|refine Au ?_|refine Ar rfl ?_|refine Aj rfl ?_))<;>(refine o_as rfl rfl ?_<;>(first|refine Ay ?_|refine Az ?_|refine Aw ?_|refine AB ?_))<;>(repeat (first|refine Ah ?_|refine Al ?_|refine Ae ?_|refine Am ?_|refine At ?_|refine Au ?_|refine Ar rfl ?_|refine Aj rfl ?_))<;>(refine o_fa rfl rfl ?_<;>refine o_ld rfl rfl ?_<;>refine o_ln rfl rfl ?_<;>refine o_mv rfl rfl ?_<;>(first|refine Ay ?_|refine Az ?_|refine Aw ?_|refine AB ?_))<;>(repeat (first|refine Ah ?_|refine Al ?_|refine Ae ?_|refine Am ?_|refine At ?_|refine Au ?_|refine Ar rfl ?_|refine Aj rfl ?_)))
      refine Bp o.effs.length (by omega) (fun ev:Value=>[(2,.pointer (some ⟨w1.heap.size,0,none⟩)),(3,.pointer (some ⟨g3,0,none⟩)),(5,.pointer (some ⟨w4.heap.size,0,none⟩)),(6,ev),(20,.slice (some ⟨b2,o2,none⟩) t.ops.length co),(21,.int .i64 (t.ops.length:Int)),(22,.int .i64 (k:Int)),(31,.slice Aq o.effs.length cq)])
        (fun i ev w'=>Ext w7 w'∧∃ H:Nat→Prop,(∀ q,H q→w7.heap.size≤q∧q < w'.heap.size)∧Own w' w7.heap.size H 64 ev (o.effs.take i)) (.slice none 0 0)
        ⟨Below.refl _ _,fun _=>False,fun _ h=>h.elim,Own.nil _ _ _ _⟩ ⟨rfl,rfl,rfl,rfl,rfl,rfl,rfl,rfl,rfl,rfl,trivial⟩ (fun _=>⟨rfl,rfl⟩) ⟨rfl,rfl,rfl⟩ ⟨rfl,rfl⟩ ?_ ?_
      · rintro i ev w8 hi ⟨hE8,H,hH,hev⟩
        obtain ⟨e,he⟩:=AH hi
        have hce:=hc5 i e he
        obtain ⟨b3,o3,ce,rfl,_,_,hd1,cv8,rfl,hcn,hr1,hr2⟩:=(hq.ext (hE47.trans' hE8)).elem he
        obtain ⟨Acn,ccn,rfl⟩:=hcn.form
        ((repeat (first|refine Ah ?_|refine Al ?_|refine Ae ?_|refine Am ?_|refine At ?_|refine Au ?_|refine Ar rfl ?_|refine Aj rfl ?_))<;>(refine o_ia rfl rfl rfl ?_<;>refine o_la rfl rfl ?_)<;>(repeat (first|refine Ah ?_|refine Al ?_|refine Ae ?_|refine Am ?_|refine At ?_|refine Au ?_|refine Ar rfl ?_|refine Aj rfl ?_)))
        refine BO rfl rfl rfl (by simp [Value.cells,Value.oneCell']) fun w9 hN9=>?_
        have hb4:Blk w9 w8.heap.size 64 [.slice Acn e.cond.length ccn,.int .i64 e.var,.int .i64 e.val]:=hN9.blk
        have hz9:=hN9.size
        ((first|refine Ay ?_|refine Az ?_|refine Aw ?_|refine AB ?_))
        repeat (first|refine Ah ?_|refine Al ?_|refine Ae ?_|refine Am ?_|refine At ?_|refine Au ?_|refine Ar rfl ?_|refine Aj rfl ?_)
        clear hd1
        (refine o_fa rfl rfl ?_<;>refine o_ld rfl rfl ?_)
        refine Bb rfl rfl (cloneFactsN (hcn.ext hN9.ext) hce) ?_
        rintro cw w10 ⟨hcw,hE10⟩
        obtain ⟨Acw,ccw,rfl⟩:=hcw.form
        replace hb4:=hb4.ext hE10
        (refine o_fa rfl rfl ?_)
        refine BN rfl rfl hb4 rfl (show 0 + 0 + 1≤3 by decide) (by simp [Value.cells,Value.oneCell']) fun w11 hU11=>?_
        replace hb4:Blk w11 w8.heap.size 64 [.slice Acw e.cond.length ccw,.int .i64 e.var,.int .i64 e.val]:=hU11.blk
        have hE811:Ext w8 w11:=(hN9.ext.trans' hE10).trans (hU11.below (Nat.le_refl _))
        have hE711:Ext w7 w11:=hE8.trans' hE811
        have hcw11:Vb w11 (nw w9 w10) (.slice Acw e.cond.length ccw) e.cond:=hcw.agree fun q hq=>hU11.other q (by have:=hq.1;omega)
        have s10:=hE10.size
        have s11:=hU11.size
        have hne:∀ g,ev.ownBlock=some g→¬ (H g∨nw w9 w10 g):=fun g hg h=>by
          have hlt:=(hev.lt g hg).2
          rcases h with h|h
          · obtain ⟨_,_,_,h3⟩:=hev;exact h3 g hg h
          · have:=h.1;omega
        have hev11:Own w11 w7.heap.size (fun q=>H q∨nw w9 w10 q) 64 ev _:=(hev.ext hE811 fun q hq=>(hH q hq).2).mono (fun q hq=>.inl hq) hne
        have hH11:∀ q,(H q∨nw w9 w10 q)→w7.heap.size≤q∧q < w11.heap.size:=fun q hq=>by
          rcases hq with hq|hq
          · have:=hH q hq;omega
          · have h1:=hq.1;have h2:=hq.2;have:=hE8.size;omega
        have hil:(o.effs.take i).length≤1000000:=by rw [List.length_take];omega
        ((first|refine Ay ?_|refine Az ?_|refine Aw ?_|refine AB ?_))
        repeat (first|refine Ah ?_|refine Al ?_|refine Ae ?_|refine Am ?_|refine At ?_|refine Au ?_|refine Ar rfl ?_|refine Aj rfl ?_)
        (refine o_mv rfl rfl ?_<;>refine o_la rfl rfl ?_)
        refine En (a:=e) rfl rfl rfl hev11 (fun q hq=>(hH11 q hq).2) hE711.size ⟨_,rfl,_,rfl,hcw11.mono fun q hq=>.inr hq,hr1,hr2⟩ (by decide) (by decide) (by omega) (by omega) ⟨rfl,rfl⟩ fun ev' w12 hev12 hK12=>?_
        (refine o_as rfl rfl ?_<;>(first|refine Ay ?_|refine Az ?_|refine Aw ?_|refine AB ?_))
        repeat (first|refine Ah ?_|refine Al ?_|refine Ae ?_|refine Am ?_|refine At ?_|refine Au ?_|refine Ar rfl ?_|refine Aj rfl ?_)
        exact ⟨ev',⟨rfl,rfl,rfl,rfl,rfl,rfl,rfl,rfl,rfl,rfl,trivial⟩,hE711.trans (hev11.fits (Nat.le_refl _) hE711.size hK12),_,fun q hq=>⟨(hH11 q hq).1,Nat.lt_of_lt_of_le (hH11 q hq).2 hK12.size⟩,by rw [List.take_add_one,he];simpa using hev12⟩
      rintro ev w12 ⟨hE12,H,hH,hev⟩
      rw [List.take_length] at hev
      obtain ⟨Aev,cev,rfl⟩:=hev.form
      replace hb2:=hb2.ext hE12
      repeat (first|refine Ah ?_|refine Al ?_|refine Ae ?_|refine Am ?_|refine At ?_|refine Au ?_|refine Ar rfl ?_|refine Aj rfl ?_)
      (refine o_mv rfl rfl ?_<;>refine o_fa rfl rfl ?_)
      refine BN rfl rfl hb2 rfl (show 0 + 3 + 1≤4 by decide) (by simp [Value.cells,Value.oneCell']) fun w13 hU13=>?_
      replace hb2:Blk w13 w4.heap.size 67 [.string o.name,.int .i64 o.cost,.slice Ap' o.pre.length cp',.slice Aev o.effs.length cev]:=hU13.blk
      have hE413:Ext w4 w13:=(hE47.trans' hE12).trans (hU13.below (Nat.le_refl _))
      have s6:=hE6.size
      have s7:=hU7.size
      have s12:=hE12.size
      have s13:=hU13.size
      have hb3':=hb3.ext hE413
      have hg3lt:=hb3.lt
      have hpv13:Vb w13 (nw w5 w6) (.slice Ap' o.pre.length cp') o.pre:=hpv7.agree fun q hq=>(hU13.other q (by have:=hq.1;omega)).trans (hE12.block q (by have:=hq.2;omega))
      have hev13:Vb w13 (fun q=>H q∨(Value.slice Aev o.effs.length cev).ownBlock=some q) (.slice Aev o.effs.length cev) o.effs:=hev.vb.agree fun q hq=>hU13.other q (by
        rcases hq with hq|hq
        · have:=(hH q hq).1;omega
        · have:=(hev.lt q hq).1;omega)
      have hne:∀ g,(Value.slice Aov (t.ops.take k).length cov).ownBlock=some g→¬ (G g∨w4.heap.size≤g∧g < w13.heap.size):=fun g hg h=>by
        have hlt:=(hown.lt g hg).2
        rcases h with h|h
        · obtain ⟨_,_,_,h3⟩:=hown;exact h3 g hg h
        · omega
      have hown13:Own w13 w3.heap.size (fun q=>G q∨w4.heap.size≤q∧q < w13.heap.size) 67 _ _:=(hown.ext hE413 fun q hq=>(hG q hq).2).mono (fun q hq=>.inl hq) hne
      have hG13:∀ q,(G q∨w4.heap.size≤q∧q < w13.heap.size)→w3.heap.size≤q∧q < w13.heap.size:=fun q hq=>by
        have:=hE413.size
        rcases hq with hq|hq
        · have:=hG q hq;omega
        · omega
      have hopr:Vb w13 (fun q=>G q∨w4.heap.size≤q∧q < w13.heap.size) (.agg #[.string o.name,.int .i64 o.cost,.slice Ap' o.pre.length cp',.slice Aev o.effs.length cev]) o :=
        ⟨[.string o.name,.int .i64 o.cost,.slice Ap' o.pre.length cp',.slice Aev o.effs.length cev],rfl,_,_,rfl,hpv13.mono fun q hq=>.inr (by have h1:=hq.1;have h2:=hq.2;omega),hev13.mono fun q hq=>.inr (by
          rcases hq with hq|hq
          · have:=hH q hq;omega
          · have:=hev.lt q hq;omega),hc,hn⟩
      have hkl:(t.ops.take k).length≤1000000:=by rw [List.length_take];omega
      ((first|refine Ay ?_|refine Az ?_|refine Aw ?_|refine AB ?_))
      repeat (first|refine Ah ?_|refine Al ?_|refine Ae ?_|refine Am ?_|refine At ?_|refine Au ?_|refine Ar rfl ?_|refine Aj rfl ?_)
      have hbx:=hb2
      clear hb1
      have hb1:=hb3'
      (refine o_fa rfl rfl ?_<;>refine o_ld rfl rfl ?_<;>refine o_la rfl rfl ?_)
      refine En (a:=o) rfl rfl rfl hown13 (fun q hq=>(hG13 q hq).2) (by have:=hE413.size;omega) hopr (by decide) (by decide) (by omega) (by omega) ⟨rfl,rfl⟩ fun ov' w14 hov14 hK14=>?_
      obtain ⟨Aov',cov',rfl⟩:=hov14.form
      have hb3k:=hK14.blk hb3' (hown13.blk_ne hb3' (by decide))
      (refine o_fa rfl rfl ?_)
      refine BN rfl rfl hb3k rfl (show 0 + 3 + 1≤4 by decide) (by simp [Value.cells,Value.oneCell']) fun w15 hU15=>?_
      ((first|refine Ay ?_|refine Az ?_|refine Aw ?_|refine AB ?_))
      repeat (first|refine Ah ?_|refine Al ?_|refine Ae ?_|refine Am ?_|refine At ?_|refine Au ?_|refine Ar rfl ?_|refine Aj rfl ?_)
      have hB14:Below w3.heap.size w13 w14:=hown13.fits (Nat.le_refl _) (by have:=hE413.size;omega) hK14
      have sz14:=hK14.size
      have sz15:=hU15.size
      refine ⟨(),⟨rfl,rfl,rfl,rfl,rfl,trivial⟩,?_,?_,?_,_,(fun q=>G q∨w4.heap.size≤q∧q < w13.heap.size),hU15.blk,fun q hq=>?_,?_⟩
      · exact hB4.trans (((hE413.mono (by omega)).trans (hB14.mono (by omega))).trans (hU15.below (by omega)))
      · have:=hE413.size;omega
      · intro q hq hne'
        rw [hU15.other q hne',hB14.block q hq,hE413.block q (by omega),hkeep q hq hne']
      · have:=hG13 q hq;omega
      · have hne15:=hov14.blk_ne hb3k (by decide)
        rw [List.take_add_one,ho]
        refine hov14.agree (hU15.agree ?_) fun g hg=>hU15.other g fun he=>hne15 (he ▸ hg)
        rintro (h|h)
        · have:=(hG g3 h).1;omega
        · omega
    rintro _ w4 ⟨hB4,hz34,hkeep,ov,G,hb3,hG,hown⟩
    rw [List.take_length] at hown
    obtain ⟨Aov,cov,rfl⟩:=hown.form
    have hresz:=hres.lt
    replace hres:=hres.keep (hkeep _ hresz (by omega))
    clear hb1
    have hb1:=hb3
    repeat (first|refine Ah ?_|refine Al ?_|refine Ae ?_|refine Am ?_|refine At ?_|refine Au ?_|refine Ar rfl ?_|refine Aj rfl ?_)
    obtain ⟨Aa,ca,rfl⟩:=hav.form
    obtain ⟨Ab,cb,rfl⟩:=hbv.form
    obtain ⟨Ac,cc,rfl⟩:=hcv.form
    (refine o_la rfl rfl ?_)
    refine BN rfl rfl hres rfl (Nat.le_refl _) (by simp [Value.cells,Value.oneCell']) fun w5 hU=>?_
    ((first|refine Ay ?_|refine Az ?_|refine Aw ?_|refine AB ?_))
    repeat (first|refine Ah ?_|refine Al ?_|refine Ae ?_|refine Am ?_|refine At ?_|refine Au ?_|refine Ar rfl ?_|refine Aj rfl ?_)
    have hE4:Ext w w4:=hE2.trans (hB4.mono (by omega))
    have s5:=hU.size
    have s04:=hE4.size
    have hcl:∀ {α:Type} [Rp α] {v:Value} {x:α},Vb w3 (fun k=>nw w2 w3 k∧k≠g3) v x→Vb w5 (nw w w5) v x:=fun h=>(h.agree fun q hq=>(hU.other q (by have:=hq.1.1;omega)).trans (hkeep q hq.1.2 hq.2)).mono fun q hq=>⟨by have:=hq.1.1;omega,by have:=hq.1.2;omega⟩
    have hovv:Vb w5 (nw w w5) (.slice Aov t.ops.length cov) t.ops:=(hown.vb.agree fun q hq=>hU.other q (by
      rcases hq with hq|hq
      · have:=(hG q hq).1;omega
      · have:=(hown.lt q hq).1;omega)).mono fun q hq=>by
        rcases hq with hq|hq
        · have:=hG q hq;exact ⟨by omega,by omega⟩
        · have:=hown.lt q hq;exact ⟨by omega,by omega⟩
    refine ret1v rfl (BK rfl rfl hU.blk.cellsAt) ⟨⟨_,rfl,_,_,_,_,rfl,hcl hav,hcl hbv,hcl hcv,hovv⟩,hE4.trans (hU.below (by omega))⟩
end
section
def PreOk (t:Tsk):Prop:=∀ (i:Nat) o,t.ops[i]?=some o→FactsOk t.vars o.pre
theorem TaskOk.pre {t:Tsk} (h:TaskOk t):PreOk t:=fun i o ho=>(h.2.2.2.2.2 i o ho).2.2.2.2.1
theorem Kz {t:Tsk} (h:PreOk t) (op:Int):FactsOk t.vars (preOf t op):=by
  unfold preOf
  cases ho:t.ops[op.toNat]? with
  | none=>exact ⟨fun i x hx=>by simp at hx,fun i x y hx=>by simp at hx⟩
  | some o=>exact h _ o ho
theorem Gn {l:List Fct} {v:Int} {f:Fct} (h:factOn l v=some f):f∈l∧f.var=v:=by
  unfold factOn at h
  exact ⟨List.mem_of_find?_eq_some h,by simpa using List.find?_some h⟩
theorem Ln {l:List Fct} {v:Int} (h:factOn l v=none):∀ f∈l,f.var≠v:=by
  unfold factOn at h
  rw [List.find?_eq_none] at h
  intro f hf
  simpa using h f hf
theorem Lo {vars:List Int} {l:List Fct} (hl:FactsOk vars l) {f g:Fct} (hf:f∈l) (hg:g∈l) (he:f.var=g.var):f=g:=by
  obtain ⟨i,hi⟩:=List.getElem?_of_mem hf
  obtain ⟨j,hj⟩:=List.getElem?_of_mem hg
  rcases Nat.lt_trichotomy i j with h|h|h
  · have:=GO hl j i f g h hi hj;omega
  · subst h;rw [hi] at hj;injection hj
  · have:=GO hl i j g f h hj hi;omega
theorem TaskOk.fits {t:Tsk} (h:TaskOk t):FitsVals t:=by
  intro i o ho v f hf hv
  obtain ⟨h1,h2⟩:=Gn hf
  obtain ⟨j,hj⟩:=List.getElem?_of_mem h1
  obtain ⟨g1,g2,n,g3,g4⟩:=(h.pre i o ho).1 j f hj
  rw [h2] at g3
  exact ⟨g2,n,by simpa using g3,g4⟩
def hf (t:Tsk) (s:List Int) (v:Nat) (op:Int):Bool:=(preOf t op).all fun f=>decide (f.var < (v:Int)) || hasB s f
theorem HJ {t:Tsk} {s:List Int} {v:Nat} {op:Int}:hf t s v op=true↔∀ f∈preOf t op,f.var < (v:Int)∨hasB s f=true:=by
  unfold hf
  simp [List.all_eq_true]
theorem LN {t:Tsk} {s:List Int} {v:Nat} {op:Int} (h:factOn (preOf t op) (v:Int)=none):hf t s v op=hf t s (v + 1) op:=by
  rw [Bool.eq_iff_iff,HJ,HJ]
  constructor
  · intro hh f hm
    rcases hh f hm with h1|h1
    · exact .inl (by omega)
    · exact .inr h1
  · intro hh f hm
    have:=Ln h f hm
    rcases hh f hm with h1|h1
    · exact .inl (by omega)
    · exact .inr h1
theorem NZ {t:Tsk} {s:List Int} {v:Nat} {op:Int} {f:Fct} (hp:PreOk t) (h:factOn (preOf t op) (v:Int)=some f):hf t s v op=(hasB s f && hf t s (v + 1) op):=by
  obtain ⟨h1,h2⟩:=Gn h
  rw [Bool.eq_iff_iff,Bool.and_eq_true,HJ,HJ]
  constructor
  · intro hh
    refine ⟨(hh f h1).resolve_left (by omega),fun g hg=>?_⟩
    rcases hh g hg with h3|h3
    · exact .inl (by omega)
    · exact .inr h3
  · rintro ⟨h3,hh⟩ g hg
    rcases hh g hg with h4|h4
    · by_cases he:g.var=(v:Int)
      · have:g=f:=Lo (Kz hp op) hg h1 (by omega)
        subst this;exact .inr h3
      · exact .inl (by omega)
    · exact .inr h4
theorem LO {t:Tsk} {s:List Int} {ops:List Int}:∀ (k v:Nat),(∀ x,v≤x→x < v + k→tests t ops x=false)→∀ op∈ops,hf t s v op=hf t s (v + k) op
  | 0,_,_,_,_=>rfl
  | k + 1,v,h,op,ho=>by
    have h0:=h v (Nat.le_refl _) (by omega)
    unfold tests at h0
    rw [List.any_eq_false] at h0
    have h1:=h0 op ho
    have h2:factOn (preOf t op) (v:Int)=none:=by simpa using h1
    rw [LN h2,LO k (v + 1) (fun x hx1 hx2=>h x (by omega) (by omega)) op ho]
    congr 1;omega
theorem Jh {a b c:Int→Bool} {p:Int→Bool} (h:∀ x,p x=if a x=true then b x else if c x=true then b x else false) (hac:∀ x,a x=true→c x=false) :
    ∀ l:List Int,(l.filter p).Perm ((l.filter a).filter b ++ (l.filter c).filter b)
  | []=>by simp
  | x :: l=>by
    have ih:=Jh h hac l
    have hx:=h x
    cases ha:a x
    · cases hc:c x
      · simp only [ha,hc] at hx
        simpa [List.filter_cons,ha,hc,hx] using ih
      · simp only [ha,hc] at hx
        cases hb:b x
        · rw [hb] at hx
          simpa [List.filter_cons,ha,hc,hb,hx] using ih
        · rw [hb] at hx
          simp only [List.filter_cons,ha,hc,hb,hx,if_true,Bool.false_eq_true,if_false]
          exact (ih.cons x).trans (List.perm_middle.symm)
    · have hc:=hac x ha
      simp only [ha] at hx
      cases hb:b x
      · rw [hb] at hx
        simpa [List.filter_cons,ha,hc,hb,hx] using ih
      · rw [hb] at hx
        simp only [List.filter_cons,ha,hc,hb,hx,if_true,Bool.false_eq_true,if_false,List.cons_append]
        exact ih.cons x
theorem OZ {t:Tsk} {s:List Int} (hp:PreOk t) (op:Int):hf t s t.vars.length op=true:=by
  rw [HJ]
  intro f hfm
  obtain ⟨i,hi⟩:=List.getElem?_of_mem hfm
  obtain ⟨h1,h2,n,h3,_⟩:=(Kz hp op).1 i f hi
  have:=Bh h3
  exact .inl (by omega)
theorem Mg (t:Tsk) (ops:List Int) {v:Nat} (h:v≤t.vars.length):v≤nextV t ops v∧nextV t ops v≤t.vars.length∧(∀ u,v≤u→u < nextV t ops v→tests t ops u=false)∧(nextV t ops v < t.vars.length→tests t ops (nextV t ops v)=true):=by
  obtain ⟨h1,h2,h3,h4⟩:=GS t ops (t.vars.length - v) v
  exact ⟨h1,by unfold nextV;omega,h3,fun h=>h4 (by unfold nextV at h;omega)⟩
theorem StateOk.at {vars s:List Int} (h:StateOk vars s) {u:Nat} (hu:u < vars.length):∃ (x:Nat) (n:Int),s[u]?=some (x:Int)∧vars[u]?=some n∧(x:Int) < n∧atN s u=x:=by
  obtain ⟨y,hy⟩:=AH (l:=s) (k:=u) (by rw [h.1];exact hu)
  obtain ⟨n,hn⟩:=AH hu
  obtain ⟨h1,h2⟩:=h.2 u y n hy hn
  obtain ⟨x,rfl⟩:=Int.eq_ofNat_of_zero_le h1
  exact ⟨x,n,hy,hn,h2,by simp [atN,hy]⟩
theorem KA {t:Tsk} {s:List Int} (hp:PreOk t) (hs:StateOk t.vars s):∀ (fuel:Nat) (ops:List Int) (v:Nat),v≤t.vars.length→t.vars.length < fuel + v →
    (coll s (mkT t fuel ops v)).Perm (ops.filter (hf t s v))∧Fits s (mkT t fuel ops v):=by
  intro fuel
  induction fuel with
  | zero=>intro ops v h1 h2;omega
  | succ fuel ih =>
    intro ops v h1 h2
    obtain ⟨g1,g2,g3,g4⟩:=Mg t ops h1
    have hsame:=LO (t:=t) (s:=s) (ops:=ops) (nextV t ops v - v) v (fun x hx1 hx2=>g3 x hx1 (by omega))
    rw [show v + (nextV t ops v - v)=nextV t ops v from by omega] at hsame
    have hfil:ops.filter (hf t s v)=ops.filter (hf t s (nextV t ops v)):=List.filter_congr hsame
    rw [hfil]
    unfold mkT
    by_cases he:ops.isEmpty=true
    · rw [if_pos he]
      have:ops=[]:=by simpa using he
      subst this
      exact ⟨by simp [coll],trivial⟩
    rw [if_neg he]
    by_cases hn:nextV t ops v=t.vars.length
    · rw [if_pos hn,hn]
      have:ops.filter (hf t s t.vars.length)=ops:=List.filter_eq_self.2 fun x _=>OZ hp x
      rw [this]
      exact ⟨List.Perm.refl _,trivial⟩
    rw [if_neg hn]
    obtain ⟨x,n,q1,q2,q3,q4⟩:=hs.at (u:=nextV t ops v) (by omega)
    have i1:=ih (ops.filter (valB t (nextV t ops v) x)) (nextV t ops v + 1) (by omega) (by omega)
    have i2:=ih (ops.filter (restB t (nextV t ops v))) (nextV t ops v + 1) (by omega) (by omega)
    refine ⟨?_,⟨x,q1,by rw [q2];simp;omega⟩,by rw [q4];exact i1.2,i2.2⟩
    rw [coll,q4]
    refine (i1.1.append i2.1).trans (Jh (a:=valB t (nextV t ops v) x) (c:=restB t (nextV t ops v)) (fun op=>?_) (fun op h=>?_) ops).symm
    · unfold valB restB
      cases ho:factOn (preOf t op) (nextV t ops v:Int) with
      | none=>rw [LN ho];simp
      | some f =>
        rw [NZ hp ho]
        obtain ⟨_,hv⟩:=Gn ho
        rw [Jx (s:=s) hv q1]
        by_cases hx:f.val=(x:Int)
        · simp [hx]
        · simp [hx,Ne.symm hx]
    · unfold valB at h
      unfold restB
      cases ho:factOn (preOf t op) (nextV t ops v:Int) with
      | none=>rw [ho] at h;simp at h
      | some f=>rfl
def allOps (t:Tsk):List Int:=(List.range t.ops.length).map fun i:Nat=>(i:Int)
def treeOf (t:Tsk):Tr:=mkT t (t.vars.length + 1) (allOps t) 0
theorem JR {α:Type} {p q:α→Bool}:∀ {l:List α},(∀ x∈l,p x=q x)→l.all p=l.all q
  | [],_=>rfl
  | x :: l,h=>by rw [List.all_cons,List.all_cons,h x List.mem_cons_self,JR fun y hy=>h y (List.mem_cons_of_mem _ hy)]
theorem Oa {t:Tsk} (hp:PreOk t) (s:List Int):appl t s=(allOps t).filter (hf t s 0):=by
  unfold appl applK allOps
  rw [List.filter_map]
  congr 1
  refine List.filter_congr fun i hi=>?_
  obtain ⟨o,ho⟩:=AH (l:=t.ops) (k:=i) (List.mem_range.1 hi)
  simp only [Function.comp,hf,preOf,holdsB,Int.toNat_natCast,ho]
  refine JR fun f hfm=>?_
  obtain ⟨j,hj⟩:=List.getElem?_of_mem hfm
  have:=((hp i o ho).1 j f hj).1
  have:decide (f.var < ((0:Nat):Int))=false:=decide_eq_false (by omega)
  rw [this,Bool.false_or]
theorem Lp (t:Tsk) (s:List Int):(appl t s).Pairwise fun x y=>decide (x≤y)=true:=by
  unfold appl applK
  refine List.Pairwise.map _ (fun a b h=>?_) (List.Pairwise.filter _ List.pairwise_lt_range)
  exact decide_eq_true (by omega)
theorem Mh {l m:List Int} (h:l.Perm m) (hm:m.Pairwise fun x y=>decide (x≤y)=true):sortL l=m:=by
  refine List.Perm.eq_of_pairwise (le:=fun x y:Int=>decide (x≤y)=true) (fun a b _ _ h1 h2=>?_) (List.pairwise_mergeSort (fun a b c h1 h2=>?_) (fun a b=>?_) l) hm ((List.mergeSort_perm _ _).trans h)
  · have:=of_decide_eq_true h1;have:=of_decide_eq_true h2;omega
  · have:=of_decide_eq_true h1;have:=of_decide_eq_true h2;exact decide_eq_true (by omega)
  · simp;omega
theorem Mi {t:Tsk} {s:List Int} (hp:PreOk t) (hs:StateOk t.vars s):findL t (treeOf t) s=appl t s:=by
  unfold findL
  rw [if_pos (bof_t hs)]
  refine Mh ?_ (Lp t s)
  rw [Oa hp]
  exact (KA hp hs _ _ 0 (Nat.zero_le _) (by omega)).1
theorem MP {t:Tsk} {s:List Int} (hp:PreOk t) (hs:StateOk t.vars s):Fits s (treeOf t):=(KA hp hs _ _ 0 (Nat.zero_le _) (by omega)).2
theorem Nr (t:Tsk) (s:List Int):∀ (fuel:Nat) (ops:List Int) (v:Nat),(coll s (mkT t fuel ops v)).length≤ops.length:=by
  intro fuel
  induction fuel with
  | zero=>intro ops v;exact Nat.zero_le _
  | succ fuel ih =>
    intro ops v
    unfold mkT
    by_cases he:ops.isEmpty=true
    · rw [if_pos he];exact Nat.zero_le _
    rw [if_neg he]
    by_cases hn:nextV t ops v=t.vars.length
    · rw [if_pos hn];exact Nat.le_refl _
    rw [if_neg hn,coll,List.length_append]
    refine Nat.le_trans (Nat.add_le_add (ih _ _) (ih _ _)) ?_
    generalize nextV t ops v=u
    generalize atN s u=x
    clear he hn ih
    induction ops with
    | nil=>simp
    | cons op ops ih2 =>
      have hac:valB t u x op=true→restB t u op=false:=by
        unfold valB restB
        cases factOn (preOf t op) (u:Int)<;>simp
      rw [List.filter_cons,List.filter_cons]
      cases ha:valB t u x op
      · cases hc:restB t u op<;>simp<;>omega
      · rw [hac ha];simp;omega
theorem Ji (t:Tsk):(allOps t).length=t.ops.length:=by simp [allOps]
theorem Ns (t:Tsk) (s:List Int):(coll s (treeOf t)).length≤t.ops.length:=by
  have:=Nr t s (t.vars.length + 1) (allOps t) 0
  rwa [Ji] at this
end
section
open Go Go.RowKit
attribute [local irreducible] ewp owp hwp hwq hws Ev Evg Fn retPost loud loudS Res1
theorem Lq:∀ k,((List.range (k + 1)).map fun i:Nat=>(i:Int))=((List.range k).map fun i:Nat=>(i:Int)) ++ [(k:Int)]:=fun k=>by
  rw [List.range_succ,List.map_append];rfl
theorem genNew {w:World} {tv:Value} {t:Tsk} (ht:V w tv t):Fn Tryz.prog 76 [tv] w fun v w'=>Ext w w' ∧
    ((TaskOk t∧∃ gv,v=.tuple #[gv,.nilIface]∧GenR w' (nw w w') gv t (treeOf t))∨(¬ TaskOk t∧v=.tuple #[.pointer none,errV (checkN t)])):=by
  have ht0:=ht
  obtain ⟨cs,rfl,a,b,c,d,rfl,hvars,hinit,hgoal,hops⟩:=ht
  refine AL Tryz.func76 rfl Tryz.ntmps76 rfl ?_
  repeat (first|refine Ah ?_|refine Al ?_|refine Ae ?_|refine Am ?_|refine At ?_|refine Au ?_|refine Ar rfl ?_|refine Aj rfl ?_)
  refine CP rfl rfl fun w1 hN1=>?_
  have hE1:Ext w w1:=hN1.ext
  have hb1:Blk w1 w.heap.size 26 [a,b,c,d]:=hN1.blk
  have ht1:=ht0.ext hE1
  (refine o_as rfl rfl ?_<;>refine o_as rfl rfl ?_<;>(first|refine Ay ?_|refine Az ?_|refine Aw ?_|refine AB ?_))
  repeat (first|refine Ah ?_|refine Al ?_|refine Ae ?_|refine Am ?_|refine At ?_|refine Au ?_|refine Ar rfl ?_|refine Aj rfl ?_)
  (refine o_la rfl rfl ?_)
  refine Bb rfl rfl (taskCheck ht1) ?_
  rintro _ w2 ⟨rfl,hE2⟩
  have hE02:Ext w w2:=hE1.trans' hE2
  have hb1:=hb1.ext hE2
  by_cases hok:TaskOk t
  case neg =>
    have hne:checkN t≠0:=fun h=>hok (DW.1 h)
    rw [FN hne]
    (refine o_as rfl rfl ?_<;>(first|refine Ay ?_|refine Az ?_|refine Aw ?_|refine AB ?_))
    repeat (first|refine Ah ?_|refine Al ?_|refine Ae ?_|refine Am ?_|refine At ?_|refine Au ?_|refine Ar rfl ?_|refine Aj rfl ?_)
    ((repeat (first|refine Ah ?_|refine Al ?_|refine Ae ?_|refine Am ?_|refine At ?_|refine Au ?_|refine Ar rfl ?_|refine Aj rfl ?_))<;>(refine o_mv rfl rfl ?_<;>(first|refine o_ep rfl rfl ?_|refine o_eq rfl rfl ?_)<;>(first|refine Ay ?_|refine Az ?_|refine Aw ?_|refine AB ?_))<;>(repeat (first|refine Ah ?_|refine Al ?_|refine Ae ?_|refine Am ?_|refine At ?_|refine Au ?_|refine Ar rfl ?_|refine Aj rfl ?_)))
    ((repeat (first|refine Ah ?_|refine Al ?_|refine Ae ?_|refine Am ?_|refine At ?_|refine Au ?_|refine Ar rfl ?_|refine Aj rfl ?_))<;>(refine o_mv rfl rfl ?_<;>refine o_as rfl rfl ?_<;>refine o_as rfl rfl ?_<;>(first|refine Ay ?_|refine Az ?_|refine Aw ?_|refine AB ?_))<;>(repeat (first|refine Ah ?_|refine Al ?_|refine Ae ?_|refine Am ?_|refine At ?_|refine Au ?_|refine Ar rfl ?_|refine Aj rfl ?_)))
    exact ret2 rfl (AG rfl) (AG rfl) ⟨hE02,.inr ⟨hok,rfl⟩⟩
  rw [DW.2 hok,Fi]
  (refine o_as rfl rfl ?_<;>(first|refine Ay ?_|refine Az ?_|refine Aw ?_|refine AB ?_))
  repeat (first|refine Ah ?_|refine Al ?_|refine Ae ?_|refine Am ?_|refine At ?_|refine Au ?_|refine Ar rfl ?_|refine Aj rfl ?_)
  ((repeat (first|refine Ah ?_|refine Al ?_|refine Ae ?_|refine Am ?_|refine At ?_|refine Au ?_|refine Ar rfl ?_|refine Aj rfl ?_))<;>(refine o_mv rfl rfl ?_<;>(first|refine o_ep rfl rfl ?_|refine o_eq rfl rfl ?_)<;>(first|refine Ay ?_|refine Az ?_|refine Aw ?_|refine AB ?_))<;>(repeat (first|refine Ah ?_|refine Al ?_|refine Ae ?_|refine Am ?_|refine At ?_|refine Au ?_|refine Ar rfl ?_|refine Aj rfl ?_)))
  have hpre:=hok.pre
  have hl1:t.vars.length≤64:=hok.1
  have hl4:t.ops.length≤4096:=hok.2.1
  have hcp:=genCopied (ht1.ext hE2) (by omega) (by rw [hok.2.2.2.1.1];omega) (by have:=Dp hok.2.2.2.2.1;omega) (by omega) (fun i o ho=>by
    obtain ⟨_,_,h3,_,h5,h6⟩:=hok.2.2.2.2.2 i o ho
    exact ⟨by have:=Dp h5;omega,by omega,fun j e he=>by have:=Dp (h6 j e he).1;omega⟩)
  (refine o_la rfl rfl ?_)
  refine Bb rfl rfl hcp ?_
  rintro cvv w3 ⟨hcv,hE3⟩
  obtain ⟨cs',rfl,a',b',c',d',rfl,hvars',hinit',hgoal',hops'⟩:=hcv
  (refine o_bd rfl rfl rfl ?_)
  refine CP rfl rfl fun w4 hN4=>?_
  have hbg:Blk w4 w3.heap.size 151 [a',b',c',d',.pointer none]:=hN4.blk
  have hE34:Ext w3 w4:=hN4.ext
  have s2:=hE02.size
  have s3:=hE3.size
  have s4:w4.heap.size=w3.heap.size + 1:=hN4.size
  obtain ⟨Ao,co,rfl⟩:=hops'.form
  (refine o_as rfl rfl ?_<;>(first|refine Ay ?_|refine Az ?_|refine Aw ?_|refine AB ?_))
  repeat (first|refine Ah ?_|refine Al ?_|refine Ae ?_|refine Am ?_|refine At ?_|refine Au ?_|refine Ar rfl ?_|refine Aj rfl ?_)
  ((repeat (first|refine Ah ?_|refine Al ?_|refine Ae ?_|refine Am ?_|refine At ?_|refine Au ?_|refine Ar rfl ?_|refine Aj rfl ?_))<;>(refine o_as rfl rfl ?_<;>(first|refine Ay ?_|refine Az ?_|refine Aw ?_|refine AB ?_))<;>(repeat (first|refine Ah ?_|refine Al ?_|refine Ae ?_|refine Am ?_|refine At ?_|refine Au ?_|refine Ar rfl ?_|refine Aj rfl ?_)))
  clear hb1
  have hb1:=hbg
  ((repeat (first|refine Ah ?_|refine Al ?_|refine Ae ?_|refine Am ?_|refine At ?_|refine Au ?_|refine Ar rfl ?_|refine Aj rfl ?_))<;>(refine o_mv rfl rfl ?_<;>refine o_nc rfl rfl ?_<;>refine o_fa rfl rfl ?_<;>refine o_fa rfl rfl ?_<;>refine o_ld rfl rfl ?_<;>refine o_ln rfl rfl ?_<;>refine o_mv rfl rfl ?_<;>(first|refine Ay ?_|refine Az ?_|refine Aw ?_|refine AB ?_))<;>(repeat (first|refine Ah ?_|refine Al ?_|refine Ae ?_|refine Am ?_|refine At ?_|refine Au ?_|refine Ar rfl ?_|refine Aj rfl ?_)))
  refine Bp t.ops.length (by omega) (fun v:Value=>[(1,.pointer (some ⟨w.heap.size,0,none⟩)),(5,.pointer (some ⟨w3.heap.size,0,none⟩)),(6,v)]) (fun k v w'=>Ext w4 w'∧Own w' w4.heap.size (fun _=>False) 3 v ((List.range k).map fun i:Nat=>(i:Int))) (.slice none 0 0)
    ⟨Below.refl _ _,Own.nil _ _ _ _⟩ ⟨rfl,rfl,rfl,rfl,rfl,trivial⟩ (fun _=>⟨rfl,rfl⟩) ⟨rfl,rfl,rfl⟩ ⟨rfl,rfl⟩ ?_ ?_
  · rintro k v w5 hk ⟨hE5,hown⟩
    ((repeat (first|refine Ah ?_|refine Al ?_|refine Ae ?_|refine Am ?_|refine At ?_|refine Au ?_|refine Ar rfl ?_|refine Aj rfl ?_))<;>(refine o_mv rfl rfl ?_<;>refine o_as rfl rfl ?_<;>(first|refine Ay ?_|refine Az ?_|refine Aw ?_|refine AB ?_))<;>(repeat (first|refine Ah ?_|refine Al ?_|refine Ae ?_|refine Am ?_|refine At ?_|refine Au ?_|refine Ar rfl ?_|refine Aj rfl ?_)))
    (refine o_mv rfl rfl ?_<;>refine o_mv rfl rfl ?_)
    refine En (a:=(k:Int)) rfl rfl rfl hown (fun _ h=>h.elim) hE5.size ⟨rfl,by omega,by omega⟩ (by decide) (by decide) (by simp;omega) (by simp;omega) ⟨rfl,rfl⟩ fun v' w6 hown6 hK=>?_
    (refine o_as rfl rfl ?_<;>(first|refine Ay ?_|refine Az ?_|refine Aw ?_|refine AB ?_))
    repeat (first|refine Ah ?_|refine Al ?_|refine Ae ?_|refine Am ?_|refine At ?_|refine Au ?_|refine Ar rfl ?_|refine Aj rfl ?_)
    exact ⟨v',⟨rfl,rfl,rfl,rfl,rfl,trivial⟩,hE5.trans (hown.fits (Nat.le_refl _) hE5.size hK),by rw [Lq];exact hown6⟩
  rintro v w5 ⟨hE5,hown⟩
  have s5:=hE5.size
  have hE35:=hE34.trans' hE5
  have hbg5:=hbg.ext hE5
  have hB5:GenB w5 (All w5) (.pointer (some ⟨w3.heap.size,0,none⟩)) t:=⟨_,_,_,_,_,_,rfl,by show _ < _;omega,hbg5,(hvars'.agree (hE35.agree fun _ h=>h.2)).mono fun k hk=>by have:=hk.2;show _ < _;omega,(hinit'.agree (hE35.agree fun _ h=>h.2)).mono fun k hk=>by have:=hk.2;show _ < _;omega,(hgoal'.agree (hE35.agree fun _ h=>h.2)).mono fun k hk=>by have:=hk.2;show _ < _;omega,(hops'.agree (hE35.agree fun _ h=>h.2)).mono fun k hk=>by have:=hk.2;show _ < _;omega⟩
  have hov:Vb w5 (nw w4 w5) v (allOps t):=hown.vb.mono fun k hk=>hown.lt k (hk.resolve_left id)
  have hbuild:=genBuild t hok.vars hok.fits hl1 (t.vars.length + 1) w5 _ v (allOps t) 0 (nw w4 w5) hB5 hov (fun k hk=>hk.2) (fun op hop=>by
    obtain ⟨i,hi,rfl⟩:=List.mem_map.1 hop
    have:=List.mem_range.1 hi
    exact ⟨by omega,by omega⟩) (by rw [Ji];omega) (Nat.zero_le _) (by omega)
  repeat (first|refine Ah ?_|refine Al ?_|refine Ae ?_|refine Am ?_|refine At ?_|refine Au ?_|refine Ar rfl ?_|refine Aj rfl ?_)
  (refine o_mv rfl rfl ?_<;>refine o_mv rfl rfl ?_<;>refine o_mv rfl rfl ?_)
  refine Bb rfl rfl hbuild ?_
  rintro p w6 ⟨hT,hE6⟩
  obtain ⟨rp,rfl⟩:=hT.form
  have s6:=hE6.size
  (refine o_nc rfl rfl ?_<;>refine o_fa rfl rfl ?_)
  refine BN rfl rfl (hbg5.ext hE6) rfl (Nat.le_refl _) (by simp [Value.cells,Value.oneCell']) fun w7 hU=>?_
  ((first|refine Ay ?_|refine Az ?_|refine Aw ?_|refine AB ?_))
  repeat (first|refine Ah ?_|refine Al ?_|refine Ae ?_|refine Am ?_|refine At ?_|refine Au ?_|refine Ar rfl ?_|refine Aj rfl ?_)
  ((repeat (first|refine Ah ?_|refine Al ?_|refine Ae ?_|refine Am ?_|refine At ?_|refine Au ?_|refine Ar rfl ?_|refine Aj rfl ?_))<;>(refine o_mv rfl rfl ?_<;>refine o_as rfl rfl ?_<;>refine o_as rfl rfl ?_<;>(first|refine Ay ?_|refine Az ?_|refine Aw ?_|refine AB ?_))<;>(repeat (first|refine Ah ?_|refine Al ?_|refine Ae ?_|refine Am ?_|refine At ?_|refine Au ?_|refine Ar rfl ?_|refine Aj rfl ?_)))
  have hE36:=hE35.trans' hE6
  have s7:=hU.size
  have hcl:∀ {α:Type} [Rp α] {v:Value} {x:α},Vb w3 (nw w2 w3) v x→Vb w7 (nw w w7) v x:=fun h=>((h.agree (hE36.agree fun _ h=>h.2)).agree fun q hq=>hU.other q (by have:=hq.2;omega)).mono fun k hk=>⟨by have:=hk.1;omega,by have:=hk.2;omega⟩
  refine ret2 rfl (AG rfl) (AG rfl) ⟨(((hE02.trans' hE3).trans' hE36).trans (hU.below (by omega))),.inl ⟨hok,_,rfl,_,_,_,_,_,_,rfl,⟨by omega,by omega⟩,hU.blk,hcl hvars',hcl hinit',hcl hgoal',hcl hops',?_⟩⟩
  refine TrR.mono (fun k hk=>?_) (TrR.agree (fun q hq=>hU.other q ?_) hT)
  · rcases hk with hk|hk
    · exact ⟨by have:=hk.1;omega,by have:=hk.2;omega⟩
    · exact ⟨by omega,by omega⟩
  · rcases hq with hk|hk
    · have:=hk.1;omega
    · omega
end
section
open Go Go.RowKit
theorem TaskOk.effs {t:Tsk} (h:TaskOk t) {s:List Int} (hs:StateOk t.vars s):∀ (i:Nat) o,t.ops[i]?=some o→EffsIn s o.effs:=fun i o ho j e he=>by
  obtain ⟨h1,_,y,hy,_⟩:=((h.2.2.2.2.2 i o ho).2.2.2.2.2 j e he).2
  refine ⟨h1,?_⟩
  have:=(List.getElem?_eq_some_iff.1 hy).1
  rw [hs.1]
  simp only at h1 this
  omega
end
section
open Go Go.RowKit
attribute [local irreducible] ewp owp hwp hwq hws Ev Evg Fn retPost loud loudS Res1
theorem GenR.mono {w:World} {F G:Nat→Prop} {gv:Value} {t:Tsk} {T:Tr} (h:GenR w F gv t T) (hk:∀ k,F k→G k):GenR w G gv t T:=by
  obtain ⟨gb,a,b,c,d,r,h1,h2,h3,h4,h5,h6,h7,h8⟩:=h
  exact ⟨gb,a,b,c,d,r,h1,hk _ h2,h3,h4.mono hk,h5.mono hk,h6.mono hk,h7.mono hk,TrR.mono hk h8⟩
theorem GenR.agree {w w':World} {F:Nat→Prop} {gv:Value} {t:Tsk} {T:Tr} (h:GenR w F gv t T) (ha:Agree F w w'):GenR w' F gv t T:=by
  obtain ⟨gb,a,b,c,d,r,h1,h2,h3,h4,h5,h6,h7,h8⟩:=h
  exact ⟨gb,a,b,c,d,r,h1,h2,h3.keep (ha gb h2),h4.agree ha,h5.agree ha,h6.agree ha,h7.agree ha,TrR.agree ha h8⟩
theorem GenR.form {w:World} {F:Nat→Prop} {gv:Value} {t:Tsk} {T:Tr} (h:GenR w F gv t T):∃ gb,gv=.pointer (some ⟨gb,0,none⟩):=by
  obtain ⟨gb,a,b,c,d,r,h1,_⟩:=h
  exact ⟨gb,h1⟩
noncomputable def appS (t:Tsk) (s:List Int):List Int:=if bof (StateOk t.vars s)=true then appl t s else []
theorem GA {t:Tsk} {s:List Int} (h:StateOk t.vars s):appS t s=appl t s:=by unfold appS;rw [if_pos (bof_t h)]
theorem Jz {t:Tsk} {s:List Int} (h:¬ StateOk t.vars s):appS t s=[]:=by unfold appS;rw [bof_f h];rfl
theorem Mj {t:Tsk} (hp:PreOk t) (s:List Int):findL t (treeOf t) s=appS t s:=by
  by_cases h:StateOk t.vars s
  · rw [Mi hp h,GA h]
  · rw [Jz h];unfold findL;rw [bof_f h];rfl
theorem KB {t:Tsk} {s:List Int} {x:Int} (h:x∈appl t s):∃ (j:Nat) (o:Opr),x=(j:Int)∧t.ops[j]?=some o∧holdsB o.pre s=true:=by
  unfold appl applK at h
  obtain ⟨j,hj,rfl⟩:=List.mem_map.1 h
  obtain ⟨h1,h2⟩:=List.mem_filter.1 hj
  obtain ⟨o,ho⟩:=AH (List.mem_range.1 h1)
  rw [ho] at h2
  exact ⟨j,o,rfl,ho,h2⟩
theorem Nt {t:Tsk} {s:List Int} {x:Int} (h:x∈appS t s):StateOk t.vars s∧x∈appl t s:=by
  by_cases hs:StateOk t.vars s
  · rw [GA hs] at h;exact ⟨hs,h⟩
  · rw [Jz hs] at h;cases h
theorem KC (t:Tsk) (s:List Int):(appl t s).length≤t.ops.length:=MM t s _
theorem Nu (t:Tsk) (s:List Int):(appS t s).length≤t.ops.length:=by
  by_cases hs:StateOk t.vars s
  · rw [GA hs];exact KC t s
  · rw [Jz hs];exact Nat.zero_le _
section
variable {w : World} {gv sv : Value} {t : Tsk} {s : List Int}
theorem applT (hok:TaskOk t) (hg:GenR w (All w) gv t (treeOf t)) (hs:V w sv s) (hsl:s.length≤1000000) :
    Fn Tryz.prog 82 [gv,sv] w fun v w'=>Ext w w'∧Own w' w.heap.size (All w) 3 v (appS t s):=by
  have:=genApplicable hg hs (MP hok.pre) (by have:=Ns t s;have:=hok.2.1;omega) hsl
  rwa [Mj hok.pre] at this
end
theorem nilFind {w:World} {sv:Value}:Fn Tryz.prog 94 [.pointer none,sv] w fun v w'=>v=.tuple #[.slice none 0 0,.int .i64 0]∧Ext w w':=by
  refine AL Tryz.func94 rfl Tryz.ntmps94 rfl ?_
  ((repeat (first|refine Ah ?_|refine Al ?_|refine Ae ?_|refine Am ?_|refine At ?_|refine Au ?_|refine Ar rfl ?_|refine Aj rfl ?_))<;>(refine o_as rfl rfl ?_<;>refine o_as rfl rfl ?_<;>(first|refine Ay ?_|refine Az ?_|refine Aw ?_|refine AB ?_))<;>(repeat (first|refine Ah ?_|refine Al ?_|refine Ae ?_|refine Am ?_|refine At ?_|refine Au ?_|refine Ar rfl ?_|refine Aj rfl ?_)))
  (refine o_mv rfl rfl ?_<;>refine o_pn rfl rfl ?_<;>refine o_mv rfl rfl ?_<;>(first|(refine AE rfl rfl ?_;refine o_mv rfl rfl ?_)|refine AC rfl rfl rfl rfl ?_)<;>(first|(refine AE rfl rfl ?_;refine o_nc rfl rfl ?_)|refine AC rfl rfl rfl rfl ?_)<;>(first|(refine AE rfl rfl ?_;refine o_fa rfl rfl ?_)|refine AC rfl rfl rfl rfl ?_)<;>(first|(refine AE rfl rfl ?_;refine o_fa rfl rfl ?_)|refine AC rfl rfl rfl rfl ?_)<;>(first|(refine AE rfl rfl ?_;refine o_ld rfl rfl ?_)|refine AC rfl rfl rfl rfl ?_)<;>(first|(refine AE rfl rfl ?_;refine o_mv rfl rfl ?_)|refine AC rfl rfl rfl rfl ?_))
  refine AC rfl rfl rfl rfl ?_
  ((first|(refine AE rfl rfl ?_;(first|refine o_nt rfl rfl ?_|refine o_nf rfl rfl ?_|refine o_nn rfl rfl ?_))|refine AC rfl rfl rfl rfl ?_)<;>(first|refine o_pt rfl rfl rfl ?_|refine o_pf rfl rfl rfl ?_)<;>(first|refine Ay ?_|refine Az ?_|refine Aw ?_|refine AB ?_))
  repeat (first|refine Ah ?_|refine Al ?_|refine Ae ?_|refine Am ?_|refine At ?_|refine Au ?_|refine Ar rfl ?_|refine Aj rfl ?_)
  ((repeat (first|refine Ah ?_|refine Al ?_|refine Ae ?_|refine Am ?_|refine At ?_|refine Au ?_|refine Ar rfl ?_|refine Aj rfl ?_))<;>(refine o_as rfl rfl ?_<;>refine o_as rfl rfl ?_<;>(first|refine Ay ?_|refine Az ?_|refine Aw ?_|refine AB ?_))<;>(repeat (first|refine Ah ?_|refine Al ?_|refine Ae ?_|refine Am ?_|refine At ?_|refine Au ?_|refine Ar rfl ?_|refine Aj rfl ?_)))
  exact ret2 rfl (AG rfl) (AG rfl) ⟨rfl,Below.refl _ _⟩
theorem nilApplicable {w:World} {sv:Value}:Fn Tryz.prog 82 [.pointer none,sv] w fun v w'=>v=.slice none 0 0∧Ext w w':=by
  refine AL Tryz.func82 rfl Tryz.ntmps82 rfl ?_
  ((repeat (first|refine Ah ?_|refine Al ?_|refine Ae ?_|refine Am ?_|refine At ?_|refine Au ?_|refine Ar rfl ?_|refine Aj rfl ?_))<;>(refine o_as rfl rfl ?_<;>(first|refine Ay ?_|refine Az ?_|refine Aw ?_|refine AB ?_))<;>(repeat (first|refine Ah ?_|refine Al ?_|refine Ae ?_|refine Am ?_|refine At ?_|refine Au ?_|refine Ar rfl ?_|refine Aj rfl ?_))<;>(refine o_mv rfl rfl ?_<;>refine o_mv rfl rfl ?_)<;>(repeat (first|refine Ah ?_|refine Al ?_|refine Ae ?_|refine Am ?_|refine At ?_|refine Au ?_|refine Ar rfl ?_|refine Aj rfl ?_)))
  refine Bb rfl rfl nilFind ?_
  rintro _ w1 ⟨rfl,hE⟩
  (refine o_mv rfl rfl ?_<;>refine o_ex rfl rfl rfl ?_<;>refine o_ex rfl rfl rfl ?_<;>refine o_as rfl rfl ?_<;>refine o_as rfl rfl ?_<;>(first|refine Ay ?_|refine Az ?_|refine Aw ?_|refine AB ?_))
  repeat (first|refine Ah ?_|refine Al ?_|refine Ae ?_|refine Am ?_|refine At ?_|refine Au ?_|refine Ar rfl ?_|refine Aj rfl ?_)
  ((repeat (first|refine Ah ?_|refine Al ?_|refine Ae ?_|refine Am ?_|refine At ?_|refine Au ?_|refine Ar rfl ?_|refine Aj rfl ?_))<;>(refine o_mv rfl rfl ?_<;>refine o_as rfl rfl ?_<;>(first|refine Ay ?_|refine Az ?_|refine Aw ?_|refine AB ?_))<;>(repeat (first|refine Ah ?_|refine Al ?_|refine Ae ?_|refine Am ?_|refine At ?_|refine Au ?_|refine Ar rfl ?_|refine Aj rfl ?_)))
  exact ret1 rfl rfl ⟨rfl,hE⟩
end
section
open Go Go.RowKit
attribute [local irreducible] ewp owp hwp hwq hws Ev Evg Fn retPost loud loudS Res1
structure Gnr where
  t:Tsk
def GnrR (w:World) (F:Nat→Prop) (v:Value):Option Gnr→Prop
  | none=>v=.pointer none
  | some g=>TaskOk g.t∧GenR w F v g.t (treeOf g.t)
theorem GnrR.one {w:World} {F:Nat→Prop} {v:Value}:∀ {x:Option Gnr},GnrR w F v x→v.oneCell'=true
  | none,h=>by    have:v=.pointer none:=h
                  subst this;rfl
  | some g,h=>by
    obtain ⟨gb,rfl⟩:=h.2.form
    rfl
instance:Rp (Option Gnr) where
  isAgg:=false
  size:=1
  R w F cs x:=∃ v,cs=[v]∧GnrR w F v x
  len:=by rintro w F cs x ⟨v,rfl,_⟩;rfl
  one:=by
    rintro w F cs x ⟨v,rfl,h⟩ u hu
    have:u=v:=by simpa using hu
    subst this;exact h.one
  agree:=by
    rintro w w' F cs x ⟨v,rfl,h⟩ ha
    refine ⟨v,rfl,?_⟩
    cases x with
    | none=>exact h
    | some g=>exact ⟨h.1,h.2.agree ha⟩
  mono:=by
    rintro w F G cs x ⟨v,rfl,h⟩ hk
    refine ⟨v,rfl,?_⟩
    cases x with
    | none=>exact h
    | some g=>exact ⟨h.1,h.2.mono hk⟩
theorem vNone {w:World} {F:Nat→Prop}:Vb w F (.pointer none) (none:Option Gnr):=⟨_,rfl,rfl⟩
theorem Vb.gnr {w:World} {F:Nat→Prop} {v:Value} {x:Option Gnr} (h:Vb w F v x):GnrR w F v x:=by
  obtain ⟨u,hu,h'⟩:=h
  have:v=u:=by simpa using hu
  subst this;exact h'
theorem Vb.ptr {w:World} {F:Nat→Prop} {v:Value} {x:Option Gnr} (h:Vb w F v x):∃ p,v=.pointer p∧p.isNone=x.isNone:=by
  cases x with
  | none=>exact ⟨none,h.gnr,rfl⟩
  | some g=>obtain ⟨gb,rfl⟩:=h.gnr.2.form;exact ⟨_,rfl,rfl⟩
theorem Nv {w:World} {F:Nat→Prop} {p:Option Addr} {x:Option Gnr} {g:Gnr} (h:Vb w F (.pointer p) x) (e:x=some g) :
    ∃ gb a b c d r,p=some ⟨gb,0,none⟩∧F gb∧cellsAt w gb 0 [a,b,c,d,r]∧Vb w F a g.t.vars∧Vb w F b g.t.init∧Vb w F c g.t.goal∧Vb w F d g.t.ops:=by
  subst e
  obtain ⟨_,gb,a,b,c,d,r,h1,h2,h3,h4,h5,h6,h7,_⟩:=h.gnr
  injection h1 with h1
  exact ⟨gb,a,b,c,d,r,h1,h2,h3.cellsAt,h4,h5,h6,h7⟩
theorem vGnr {w:World} {F:Nat→Prop} {v:Value} {g:Gnr} (h:TaskOk g.t) (hg:GenR w F v g.t (treeOf g.t)):Vb w F v (some g):=⟨v,rfl,h,hg⟩
theorem Oc {A:Nat→Prop} {w w':World}:∀ k,nw w w' k→upA A w w' k:=fun _ h=>.inr h
theorem Own.intRow {w w':World} {F A:Nat→Prop} {e:TypeId} {v:Value} {xs:List Int} (h:Own w' w.heap.size F e v xs):RowR w w' (upA A w w') e v xs:=by
  obtain ⟨cells,q1,q2,q3⟩:=h
  exact ⟨fun _=>False,fun _ h=>h.elim,cells,q1,Gm q2,fun _ _ h=>h⟩
noncomputable def DM (t:Tsk):Option (Option Gnr×Err):=some (if bof (TaskOk t)=true then some ⟨t⟩ else none,⟨checkN t⟩)
theorem Kf {w:World} {A:Nat→Prop} (hA:∀ k,A k→k < w.heap.size) {v0:Value} {x0:Tsk} (h0:Vb w A v0 x0) {r:Option Gnr×Err} (hm:DM x0=some r):Fn Tryz.prog 76 [v0] w fun v w'=>Ext w w'∧T2 w' (upA A w w') v r:=by
  obtain rfl:=sm hm
  refine (genNew (h0.mono hA)).mono fun v w' h=>⟨h.1,?_⟩
  rcases h.2 with ⟨hok,gv,rfl,hg⟩|⟨hno,rfl⟩
  · rw [bof_t hok,DW.2 hok]
    exact ⟨gv,_,rfl,vGnr (g:=⟨x0⟩) hok (hg.mono Oc),vErr0⟩
  · rw [bof_f hno]
    exact ⟨_,_,rfl,vNone,vErr (Je _)⟩
noncomputable def appG:Option Gnr→List Int→List Int
  | none,_=>[]
  | some g,s=>appS g.t s
noncomputable def BU (x:Option Gnr) (s:List Int):Option (List Int):=if s.length≤1000000 then some (appG x s) else none
theorem EN {w:World} {A:Nat→Prop} (hA:∀ k,A k→k < w.heap.size) {v0:Value} {x0:Option Gnr} (h0:Vb w A v0 x0) {v1:Value} {x1:List Int} (h1:Vb w A v1 x1) {r:List Int} (hm:BU x0 x1=some r) :
    Fn Tryz.prog 82 [v0,v1] w fun v w'=>Ext w w'∧RowR w w' (upA A w w') 3 v r:=by
  obtain ⟨hl,rfl⟩:=DV hm
  cases x0 with
  | none =>
    have h2:=h0.gnr
    have:v0=.pointer none:=h2
    subst this
    refine nilApplicable.mono fun v w' h=>⟨h.2,?_⟩
    rw [h.1];exact RowR.nil
  | some g =>
    obtain ⟨hok,hg⟩:=h0.gnr
    exact (applT hok (hg.mono hA) (h1.mono hA) hl).mono fun v w' h=>⟨h.1,h.2.intRow⟩
end
section
open Go Go.RowKit
attribute [local irreducible] ewp owp hwp hwq hws Ev Evg Fn retPost loud loudS Res1
def exts (n:Nat) (s:List Int):List (List Int):=(List.range n).map fun x:Nat=>s ++ [(x:Int)]
def grows (out:List (List Int)) (k:Int):List (List Int):=out.flatMap (exts k.toNat)
def statesL (vars:List Int):List (List Int):=vars.foldl grows [[]]
theorem Dw {vars:List Int} {k:Nat} {n:Int} (h:vars[k]?=some n):statesL (vars.take (k + 1))=grows (statesL (vars.take k)) n:=by
  unfold statesL
  rw [List.take_add_one,h,List.foldl_append];rfl
theorem MQ (n:Nat) (s:List Int):exts (n + 1) s=exts n s ++ [s ++ [(n:Int)]]:=by unfold exts;rw [List.range_succ];simp
theorem EY (n:Nat) (s:List Int):(exts n s).length=n:=by simp [exts]
theorem Fk (n:Nat):∀ l:List (List Int),(l.flatMap (exts n)).length=l.length * n
  | []=>by simp
  | s :: l=>by rw [List.flatMap_cons,List.length_append,EY,Fk n l,List.length_cons,Nat.add_mul];omega
theorem MR {α β:Type} (f:α→List β) {l:List α} {k:Nat} {x:α} (h:l[k]?=some x):(l.take (k + 1)).flatMap f=(l.take k).flatMap f ++ f x:=by
  rw [List.take_add_one,h];simp
theorem Lr (vars:List Int):∀ (k:Nat),k≤vars.length→∀ s∈statesL (vars.take k),s.length=k:=by
  intro k
  induction k with
  | zero=>intro _ s hs;simp [statesL] at hs;simp [hs]
  | succ k ih =>
    intro hk s hs
    obtain ⟨n,hn⟩:∃ n,vars[k]?=some n:=⟨vars[k],List.getElem?_eq_getElem (by omega)⟩
    rw [Dw hn] at hs
    obtain ⟨s',h1,h2⟩:=List.mem_flatMap.1 hs
    obtain ⟨x,_,rfl⟩:=List.mem_map.1 h2
    simp [ih (by omega) s' h1]
end
section
open Go Go.RowKit
def prodV:List Int→Nat→Nat
  | [],n=>n
  | k :: r,n=>prodV r (n * k.toNat)
theorem Ge:∀ (vars:List Int) (out:List (List Int)),(vars.foldl grows out).length=prodV vars out.length
  | [],_=>rfl
  | k :: r,out=>by
    simp only [List.foldl_cons,prodV]
    rw [Ge r,grows,Fk]
theorem Ls (vars:List Int):(statesL vars).length=prodV vars 1:=Ge vars [[]]
theorem JS {most:Nat}:∀ (vars:List Int) (n:Nat),(∀ x∈vars,1≤x)→1≤n→manyF most vars (n:Int)≤most→∀ k,prodV (vars.take k) n≤most
  | [],n,_,_,h,k=>by simp only [List.take_nil,prodV];simp only [manyF] at h;omega
  | x :: r,n,hx,hn,h,k=>by
    have h1:1≤x:=hx x List.mem_cons_self
    simp only [manyF] at h
    have hmax:max x 0=x:=by omega
    rw [hmax] at h
    obtain ⟨m,rfl⟩:∃ m:Nat,x=(m:Int):=⟨x.toNat,by omega⟩
    by_cases hm:(m:Int)≤most
    · rw [show min (m:Int) (most + 1)=(m:Int) from by omega,← Int.natCast_mul] at h
      have hnm:n≤n * m:=Nat.le_mul_of_pos_right n (by omega)
      by_cases hc:(most:Int) < ((n * m:Nat):Int)
      · rw [if_pos hc] at h;omega
      · rw [if_neg hc] at h
        cases k with
        | zero=>simp only [List.take_zero,prodV];omega
        | succ k =>
          simp only [List.take_succ_cons,prodV,Int.toNat_natCast]
          exact JS r (n * m) (fun y hy=>hx y (List.mem_cons_of_mem _ hy)) (by omega) h k
    · exfalso
      rw [show min (m:Int) (most + 1)=((most + 1:Nat):Int) from by omega,← Int.natCast_mul] at h
      have:most + 1≤n * (most + 1):=Nat.le_mul_of_pos_left _ hn
      rw [if_pos (by omega)] at h
      omega
theorem HK {y x:Int} {vs s:List Int}:StateOk (y :: vs) (x :: s)↔(0≤x∧x < y)∧StateOk vs s:=by
  constructor
  · intro h
    exact ⟨h.2 0 x y rfl rfl,by have:=h.1;simpa using this,fun i a b ha hb=>h.2 (i + 1) a b (by simpa using ha) (by simpa using hb)⟩
  · rintro ⟨h1,h2,h3⟩
    refine ⟨by simpa using h2,fun i a b ha hb=>?_⟩
    cases i with
    | zero=>simp at ha hb;subst ha;subst hb;exact h1
    | succ i=>exact h3 i a b (by simpa using ha) (by simpa using hb)
theorem Lt:StateOk [] []:=⟨rfl,fun i a b ha=>by simp at ha⟩
theorem KD {n:Nat} {s t:List Int}:t∈exts n s↔∃ x:Nat,x < n∧t=s ++ [(x:Int)]:=by
  unfold exts
  rw [List.mem_map]
  constructor
  · rintro ⟨x,hx,rfl⟩;exact ⟨x,List.mem_range.1 hx,rfl⟩
  · rintro ⟨x,hx,rfl⟩;exact ⟨x,List.mem_range.2 hx,rfl⟩
theorem Gf:∀ (vars:List Int) (out:List (List Int)) (s:List Int),s∈vars.foldl grows out↔∃ s0∈out,∃ r,s=s0 ++ r∧StateOk vars r
  | [],out,s=>by
    constructor
    · intro h;exact ⟨s,h,[],by simp,Lt⟩
    · rintro ⟨s0,h,r,rfl,hr⟩
      have:r=[]:=List.eq_nil_of_length_eq_zero hr.1
      subst this;simpa using h
  | k :: vs,out,s=>by
    simp only [List.foldl_cons]
    rw [Gf vs (grows out k) s]
    constructor
    · rintro ⟨s1,h1,r,rfl,hr⟩
      obtain ⟨s0,h0,h2⟩:=List.mem_flatMap.1 h1
      obtain ⟨x,hx,rfl⟩:=KD.1 h2
      exact ⟨s0,h0,(x:Int) :: r,by simp,HK.2 ⟨⟨by omega,by omega⟩,hr⟩⟩
    · rintro ⟨s0,h0,r,rfl,hr⟩
      cases r with
      | nil=>have:=hr.1;simp at this
      | cons x r =>
        obtain ⟨⟨h1,h2⟩,h3⟩:=HK.1 hr
        exact ⟨s0 ++ [x],List.mem_flatMap.2 ⟨s0,h0,KD.2 ⟨x.toNat,by omega,by rw [show ((x.toNat:Nat):Int)=x from by omega]⟩⟩,r,by simp,h3⟩
theorem Ff {vars s:List Int}:s∈statesL vars↔StateOk vars s:=by
  unfold statesL
  rw [Gf]
  constructor
  · rintro ⟨s0,h0,r,rfl,hr⟩
    have:s0=[]:=by simpa using h0
    subst this;exact hr
  · intro h;exact ⟨[],by simp,s,rfl,h⟩
theorem SmallOk.ok {t:Tsk} (h:SmallOk t):TaskOk t:=h.2.2.2.1
theorem SmallOk.states {t:Tsk} (h:SmallOk t):∀ k,(statesL (t.vars.take k)).length≤512:=fun k=>by
  rw [Ls]
  refine JS (most:=512) t.vars 1 (fun x hx=>?_) (Nat.le_refl _) h.2.2.2.2 k
  obtain ⟨i,hi,rfl⟩:=List.getElem_of_mem hx
  exact (h.ok.vars i _ (List.getElem?_eq_getElem hi)).1
structure Mid (t:Tsk):Prop where
  ok:TaskOk t
  states:∀ k,(statesL (t.vars.take k)).length≤600
  ops:t.ops.length≤80
theorem Mid.many {t:Tsk} (h:Mid t):(statesL t.vars).length≤600:=by
  have:=h.states t.vars.length
  rwa [List.take_length] at this
theorem SmallOk.mid {t:Tsk} (h:SmallOk t):Mid t:=⟨h.ok,fun k=>by have:=h.states k;omega,by have:=h.2.1;omega⟩
end
section
open Go Go.RowKit
attribute [local irreducible] ewp owp hwp hwq hws Ev Evg Fn retPost loud loudS Res1
structure Edg where
  src:Int
  op:Int
  dst:Int
instance:Rp Edg where
  isAgg:=true
  size:=3
  R w F cs x:=cs=[.int .i64 x.src,.int .i64 x.op,.int .i64 x.dst]∧inI64 x.src∧inI64 x.op∧inI64 x.dst
  len:=by rintro w F cs x ⟨rfl,h0,h1,h2⟩;rfl
  one:=by rintro w F cs x ⟨rfl,h0,h1,h2⟩ u hu;simp at hu;rcases hu with rfl|rfl|rfl<;>first|rfl|exact Vb.one rfl (by assumption)
  agree:=by rintro w w' F cs x ⟨rfl,h0,h1,h2⟩ ha;exact ⟨rfl,h0,h1,h2⟩
  mono:=by rintro w F G cs x ⟨rfl,h0,h1,h2⟩ ha;exact ⟨rfl,h0,h1,h2⟩
noncomputable def CQ (x0:List Int):Option (List (List Int)) :=
  bnd (rng (ρ:=(List (List Int))) (fun (k24:Nat) (a25:Int) (s22:(List (List Int)))=>bnd (rng (ρ:=Ctl (List (List Int)) (List (List Int))) (fun (k53:Nat) (a54:List Int) (s51:(List (List Int)))=>bnd (natI a25) fun N92=>bnd (rngN (ρ:=Ctl (List (List Int)) (Ctl (List (List Int)) (List (List Int)))) (fun (k83:Nat) (s81:(List (List Int)))=>bnd (appI 8 ([]:List Int) a54) fun u104=>bnd (appI 8 u104 [(k83:Int)]) fun u115=>bnd (appI 24 s81 [u115]) fun u129=>some (.next u129)) N92 s51) fun res79=>fin res79 fun (s145:(List (List Int)))=>some (.next s145)) s22 0 ([]:List (List Int))) fun res49=>fin res49 fun (s151:(List (List Int)))=>some (.next s151)) x0 0 [([]:List Int)]) fun res20=>fin res20 fun (s159:(List (List Int)))=>some s159
theorem Hj {w:World} {A:Nat→Prop} (hA:∀ k,A k→k < w.heap.size) {vx0:Value} {x0:List Int} (hx0:Vb w A vx0 x0) {r:(List (List Int))} (hm:CQ x0=some r) :
    Fn Tryz.prog 65 [vx0] w fun v w'=>Ext w w'∧Vb w' (upA A w w') v r:=by
 obtain ⟨O,hB,hA0⟩:=enter hA
 replace hx0:=hx0.mono hA0
 obtain ⟨A2,c3,rfl⟩:=hx0.form
 refine AL Tryz.func65 rfl Tryz.ntmps65 rfl ?_
 unfold CQ at hm
 refine Ah (Ae (o_as rfl rfl (o_z ?_)))
 refine Ah (Ae (Bf 2 (by decide) O (xs:=(([]:List Int):List Int)) rfl rfl rfl rfl trivial (by decide) (by decide) rfl fun g4 w5 O6 S7 h8=>?_))
 obtain ⟨O10,S11,h8⟩:=h8.freeze
 refine Bf 3 (by decide) O10 (xs:=([([]:List Int)]:List (List Int))) rfl rfl rfl rfl ⟨h8,trivial⟩ (by decide) (by decide) rfl fun g12 w13 O14 S15 h16=>?_
 refine o_as rfl rfl (o_z ?_)
 refine Ah (Ah (Ae (o_mv rfl rfl (o_ln rfl rfl ?_))))
 replace hx0:=((hx0.st S7).st S11).st S15
 have l19:x0.length≤9223372036854775807:=Nat.le_trans hx0.len.2.1 hx0.len.2.2
 have r18:inI64 (x0.length:Int):=rngNat l19
 refine o_mv rfl rfl (o_z ?_)
 obtain ⟨res20,hL21,hm⟩:=bs hm
 refine AN (aft res20 (fun (s22:(List (List Int))) (x23:(Option Addr×Nat))=>[(3,(.slice x23.1 s22.length x23.2))]) (fun s22 x23 w'=>∃ O':Lab,Bs w A w' O'∧Vb w' (Fr 0 w' O') (.slice x23.1 s22.length x23.2) s22)) ?_ ?_
 ·
  refine Al ?_
  obtain ⟨O37,S38,h16⟩:=h16.freeze
  replace hx0:=hx0.st S38
  replace hB:=(((hB.st S7).st S11).st S15).st S38
  refine BD (σ:=(List (List Int))) (X:=(Option Addr×Nat)) (x0.length) hL21 rfl l19 (fun (s22:(List (List Int))) (x23:(Option Addr×Nat))=>[(3,(.slice x23.1 s22.length x23.2)),(12,(.slice A2 x0.length c3))]) _ (fun s22 x23 w'=>∃ O':Lab,Bs w A w' O'∧Vb w' (Fr 0 w' O') (.slice x23.1 s22.length x23.2) s22∧Vb w' (Fr 0 w' O') (.slice A2 x0.length c3) x0) _ ((some ⟨g12,0,none⟩),1) ⟨O37,hB,h16,hx0⟩ ⟨rfl,rfl,rfl,rfl,trivial⟩ (fun _ _=>⟨rfl,rfl⟩) (fun _ _=>⟨rfl,trivial⟩) (fun _ _ _ ⟨O',hB,h36,hx0⟩=>⟨O',hB,h36⟩) ⟨rfl,rfl,rfl⟩ ⟨rfl,rfl⟩ ?_
  rintro k24 a25 s22 x23 w26 cc28 hx29 ⟨O27,hB,h36,hx0⟩ hf30 hret31 hbrk32
  have rk24:inI64 (k24:Int):=rngK hx29 l19
  refine Ah (Ae ?_)
  obtain ⟨b39,o40,ce41,hA42,hl43,hd44,rfl,r46⟩:=hx0.elem' hx29
  refine o_iaE (hA:=hA42) (hj:=rfl) (hlt:=hl43) rfl rfl rfl ?_
  refine o_ld (hc:=cat0 hd44) rfl rfl ?_
  refine o_as rfl rfl (o_z ?_)
  refine Ah (Ae (o_as rfl rfl (o_z ?_)))
  refine Ah (Ah (Ae (o_mv rfl rfl (o_ln rfl rfl ?_))))
  have l48:s22.length≤9223372036854775807:=Nat.le_trans h36.len.2.1 h36.len.2.2
  have r47:inI64 (s22.length:Int):=rngNat l48
  refine o_mv rfl rfl (o_z ?_)
  obtain ⟨res49,hL50,hf30⟩:=bs hf30
  refine AN (aft res49 (fun (s51:(List (List Int))) (x52:(Option Addr×Nat))=>[(6,(.slice x52.1 s51.length x52.2)),(12,(.slice A2 x0.length c3)),(13,(.int .i64 (x0.length:Int))),(14,(.int .i64 (k24:Int)))]) (fun s51 x52 w'=>∃ O':Lab,Bs w A w' O'∧Rw 5 w' O' 22 (.slice x52.1 s51.length x52.2) s51∧Vb w' (Fr 0 w' O') (.slice A2 x0.length c3) x0)) ?_ ?_
  ·
   refine Al (BD (σ:=(List (List Int))) (X:=(Option Addr×Nat)) (s22.length) hL50 rfl l48 (fun (s51:(List (List Int))) (x52:(Option Addr×Nat))=>[(5,(.int .i64 a25)),(6,(.slice x52.1 s51.length x52.2)),(12,(.slice A2 x0.length c3)),(13,(.int .i64 (x0.length:Int))),(14,(.int .i64 (k24:Int))),(18,(.slice x23.1 s22.length x23.2))]) _ (fun s51 x52 w'=>∃ O':Lab,Bs w A w' O'∧Rw 5 w' O' 22 (.slice x52.1 s51.length x52.2) s51∧Vb w' (Fr 0 w' O') (.slice A2 x0.length c3) x0∧Vb w' (Fr 0 w' O') (.slice x23.1 s22.length x23.2) s22) _ (none,0) ⟨O27,hB,(Rw.nil 5 (by decide)),hx0,h36⟩ ⟨rfl,rfl,rfl,rfl,rfl,rfl,rfl,rfl,trivial⟩ (fun _ _=>⟨rfl,rfl⟩) (fun _ _=>⟨rfl,rfl,rfl,rfl,trivial⟩) (fun _ _ _ ⟨O',hB,h66,hx0,h36⟩=>⟨O',hB,h66,hx0⟩) ⟨rfl,rfl,rfl⟩ ⟨rfl,rfl⟩ ?_)
   rintro k53 a54 s51 x52 w55 cc57 hx58 ⟨O56,hB,h66,hx0,h36⟩ hf59 hret60 hbrk61
   have rk53:inI64 (k53:Int):=rngK hx58 l48
   refine Ah (Ae ?_)
   obtain ⟨b68,o69,ce70,hA71,hl72,hd73,v75,rfl,h76⟩:=h36.elem' hx58
   replace h76:=Vb.of_slice h76
   obtain ⟨A77,c78,rfl⟩:=h76.form
   refine o_iaE (hA:=hA71) (hj:=rfl) (hlt:=hl72) rfl rfl rfl ?_
   refine o_ld (hc:=cat0 hd73) rfl rfl ?_
   refine o_as rfl rfl (o_z ?_)
   refine Ah (Ae (o_mv rfl rfl (o_mv rfl rfl (o_z ?_))))
   obtain ⟨N92,hN93,hf59⟩:=bs hf59
   replace hN93:=MC hN93
   obtain ⟨res79,hL80,hf59⟩:=bs hf59
   refine AN (aft res79 (fun (s81:(List (List Int))) (x82:(Option Addr×Nat))=>[(5,(.int .i64 a25)),(6,(.slice x82.1 s81.length x82.2)),(12,(.slice A2 x0.length c3)),(13,(.int .i64 (x0.length:Int))),(14,(.int .i64 (k24:Int))),(18,(.slice x23.1 s22.length x23.2)),(19,(.int .i64 (s22.length:Int))),(20,(.int .i64 (k53:Int)))]) (fun s81 x82 w'=>∃ O':Lab,Bs w A w' O'∧Rw 5 w' O' 22 (.slice x82.1 s81.length x82.2) s81∧Vb w' (Fr 0 w' O') (.slice A2 x0.length c3) x0∧Vb w' (Fr 0 w' O') (.slice x23.1 s22.length x23.2) s22)) ?_ ?_
   ·
    refine Al (GI (σ:=(List (List Int))) (X:=(Option Addr×Nat)) N92 hL80 (LE hN93 r46) (fun (s81:(List (List Int))) (x82:(Option Addr×Nat))=>[(5,(.int .i64 a25)),(6,(.slice x82.1 s81.length x82.2)),(8,(.slice A77 a54.length c78)),(12,(.slice A2 x0.length c3)),(13,(.int .i64 (x0.length:Int))),(14,(.int .i64 (k24:Int))),(18,(.slice x23.1 s22.length x23.2)),(19,(.int .i64 (s22.length:Int))),(20,(.int .i64 (k53:Int)))]) _ (fun s81 x82 w'=>∃ O':Lab,Bs w A w' O'∧Rw 5 w' O' 22 (.slice x82.1 s81.length x82.2) s81∧Vb w' (Fr 0 w' O') (.slice A77 a54.length c78) a54∧Vb w' (Fr 0 w' O') (.slice A2 x0.length c3) x0∧Vb w' (Fr 0 w' O') (.slice x23.1 s22.length x23.2) s22) _ (x52.1,x52.2) ⟨O56,hB,h66,h76,hx0,h36⟩ ⟨rfl,(congrArg (fun z=>some (Value.int .i64 z)) hN93),rfl,rfl,rfl,rfl,rfl,rfl,rfl,rfl,rfl,trivial⟩ (fun _ _=>⟨rfl,rfl⟩) (fun _ _=>⟨rfl,rfl,rfl,rfl,rfl,rfl,rfl,rfl,trivial⟩) (fun _ _ _ ⟨O',hB,h96,h76,hx0,h36⟩=>⟨O',hB,h96,hx0,h36⟩) ⟨rfl,rfl,rfl⟩ ⟨rfl,rfl⟩ ?_)
    rintro k83 s81 x82 w85 cc87 hx88 ⟨O86,hB,h96,h76,hx0,h36⟩ hf89 hret90 hbrk91
    have rk83:inI64 (k83:Int):=rngKN hx88 (LE hN93 r46)
    refine Ah (Ae (o_mv rfl rfl (o_as rfl rfl (o_z ?_))))
    refine Ae (o_mv rfl rfl (Bf 4 (by decide) O86 (xs:=(([]:List Int):List Int)) rfl rfl rfl rfl trivial (by decide) (by decide) rfl fun g98 w99 O100 S101 h102=>?_))
    refine o_mv rfl rfl ?_
    obtain ⟨u104,e105,hf89⟩:=bs hf89
    obtain ⟨e105,e106,e107⟩:=AU e105
    replace h76:=h76.st S101
    refine BF rfl h102 (h76.rd) rfl rfl (by decide) e106 e107 rfl fun A108 c109 w110 O111 S112 h113=>?_
    rw [← e105] at h113 ⊢
    refine o_mv rfl rfl ?_
    obtain ⟨u115,e116,hf89⟩:=bs hf89
    obtain ⟨e116,e117,e118⟩:=AU e116
    refine Cu rfl (a:=(k83:Int)) h113 (vInt rk83) (fun _=>rfl) rfl (by decide) (by decide) e117 e118 ⟨rfl,rfl⟩ fun g119 A120 c121 w122 O123 S124 h125=>?_
    rw [← e116] at h125 ⊢
    obtain ⟨O127,S128,h125⟩:=h125.freeze
    obtain ⟨u129,e130,hf89⟩:=bs hf89
    obtain ⟨e130,e131,e132⟩:=AU e130
    replace h96:=(((h96.st S101).st S112).st S124).st S128
    refine Cu rfl (a:=u115) h96 h125 (fun _=>rfl) rfl (by decide) (by decide) e131 e132 ⟨rfl,rfl⟩ fun g133 A134 c135 w136 O137 S138 h139=>?_
    rw [← e130] at h139 ⊢
    refine o_as rfl rfl (o_z ?_)
    obtain rfl:=sm hf89
    refine (?_:Exists _)
    replace hx0:=((((hx0.st S101).st S112).st S124).st S128).st S138
    replace hB:=((((hB.st S101).st S112).st S124).st S128).st S138
    replace h36:=((((h36.st S101).st S112).st S124).st S128).st S138
    replace h76:=(((h76.st S112).st S124).st S128).st S138
    exact ⟨_,(A134,c135),rfl,⟨rfl,rfl,rfl,rfl,rfl,rfl,rfl,rfl,rfl,rfl,rfl,trivial⟩,_,hB,h139,h76,hx0,h36⟩
   rintro l141 w142 ⟨s145,x146,rfl,hs144,O143,hB,h96,hx0,h36⟩
   replace hf59:=AY hf59
   obtain rfl:=sm hf59
   refine (?_:Exists _)
   exact ⟨_,(x146.1,x146.2),rfl,⟨(Bw hs144 _ _ rfl),(Bw hs144 _ _ rfl),(Bw hs144 _ _ rfl),(Bw hs144 _ _ rfl),(Bw hs144 _ _ rfl),(Bw hs144 _ _ rfl),(Bw hs144 _ _ rfl),(Bw hs144 _ _ rfl),trivial⟩,_,hB,h96,hx0,h36⟩
  rintro l147 w148 ⟨s151,x152,rfl,hs150,O149,hB,h66,hx0⟩
  replace hf30:=AY hf30
  refine AP _ hs150 ?_
  refine Ae (o_mv rfl rfl (o_as rfl rfl (o_z ?_)))
  obtain ⟨O153,S154,h66⟩:=h66.freeze
  obtain rfl:=sm hf30
  refine (?_:Exists _)
  replace hx0:=hx0.st S154
  replace hB:=hB.st S154
  exact ⟨_,(x152.1,x152.2),rfl,⟨rfl,rfl,rfl,rfl,trivial⟩,_,hB,h66,hx0⟩
 replace hB:=((hB.st S7).st S11).st S15
 rintro l155 w156 ⟨s159,x160,rfl,hs158,O157,hB,h36⟩
 replace hm:=AY hm
 refine AP _ hs158 ?_
 refine Ah (Ae (o_mv rfl rfl (o_as rfl rfl (o_z ?_))))
 refine Au ?_
 obtain rfl:=sm hm
 exact ret1v rfl (AG rfl) ⟨hB.ext,(Vb.mono (F:=Fr 0 w156 O157) h36 hB.out)⟩
noncomputable def Cw (x0:Tsk) (x1:List Int) (x2:Int):Option ((List Int)×Bool) :=
  bnd (if x2 < 0 then (some true) else (if (x0.ops.length:Int)≤x2 then (some true) else (bnd (atI x0.ops x2) fun a36=>bnd (Da a36.pre x1) fun q57=>if q57=true then some false else some true)):Option Bool) fun y28=>if y28=true then (some (([]:List Int),false)) else (bnd (appI 8 ([]:List Int) x1) fun u75=>bnd (atI x0.ops x2) fun a86=>bnd (rng (ρ:=(List Int)×Bool) (fun (k113:Nat) (a114:Eff) (s111:(List Int))=>bnd (Da a114.cond x1) fun q148=>if q148=true then bnd (atI s111 a114.var) fun a155=>some (.next (s111.set (a114.var:Int).toNat a114.val)) else some (.next s111)) a86.effs 0 u75) fun res109=>fin res109 fun (s173:(List Int))=>some (s173,true))
theorem KE {w:World} {A:Nat→Prop} (hA:∀ k,A k→k < w.heap.size) {vx0:Value} {x0:Tsk} (hx0:Vb w A vx0 x0) {vx1:Value} {x1:List Int} (hx1:Vb w A vx1 x1) {x2:Int} (rx2:inI64 x2) {r:(List Int)×Bool} (hm:Cw x0 x1 x2=some r) :
    Fn Tryz.prog 36 [vx0,vx1,(.int .i64 x2)] w fun v w'=>Ext w w'∧T2 w' (upA A w w') v r:=by
 obtain ⟨O,hB,hA0⟩:=enter hA
 replace hx0:=hx0.mono hA0
 obtain ⟨cs4,rfl,v5,v6,v7,v8,rfl,h9,h12,h15,h18⟩:=hx0
 obtain ⟨A10,c11,rfl⟩:=h9.form
 obtain ⟨A13,c14,rfl⟩:=h12.form
 obtain ⟨A16,c17,rfl⟩:=h15.form
 obtain ⟨A19,c20,rfl⟩:=h18.form
 replace hx1:=hx1.mono hA0
 obtain ⟨A21,c22,rfl⟩:=hx1.form
 refine AL Tryz.func36 rfl Tryz.ntmps36 rfl ?_
 unfold Cw at hm
 refine Ah (Ae (l_box 2 O rfl rfl fun g23 w24 O25 S26 h27=>?_))
 replace h27:Lc 2 w24 O25 g23 26 [(.slice A10 x0.vars.length c11),(.slice A13 x0.init.length c14),(.slice A16 x0.goal.length c17),(.slice A19 x0.ops.length c20)]:=h27
 refine o_as rfl rfl (o_as rfl rfl (o_z ?_))
 refine Ah (Ah ?_)
 obtain ⟨y28,hy29,hm⟩:=bs hm
 refine AN (fun l' w'=>∃ (x31:Unit) (O':Lab),subs l' [(1,(.slice A21 x1.length c22)),(2,(.int .i64 x2)),(3,(.pointer (some ⟨g23,0,none⟩))),(30,(.bool y28))]∧Bs w A w' O'∧Vb w' (Fr 0 w' O') (.slice A21 x1.length c22) x1∧Lc 2 w' O' g23 26 [(.slice A10 x0.vars.length c11),(.slice A13 x0.init.length c14),(.slice A16 x0.goal.length c17),(.slice A19 x0.ops.length c20)]∧Vb w' (Fr 0 w' O') (.slice A10 x0.vars.length c11) x0.vars∧Vb w' (Fr 0 w' O') (.slice A13 x0.init.length c14) x0.init∧Vb w' (Fr 0 w' O') (.slice A16 x0.goal.length c17) x0.goal∧Vb w' (Fr 0 w' O') (.slice A19 x0.ops.length c20) x0.ops) ?_ ?_
 ·
  refine Ae (o_mv rfl rfl (o_ltS rfl rfl rfl (fun c32=>?_) fun c32=>?_))
  ·
   replace hy29:=ip hy29 c32
   refine o_mv rfl rfl (AC rfl rfl rfl rfl (AC rfl rfl rfl rfl (AC rfl rfl rfl rfl (AC rfl rfl rfl rfl (AC rfl rfl rfl rfl (o_pt rfl rfl rfl (o_mv rfl rfl (AC rfl rfl rfl rfl (AC rfl rfl rfl rfl (AC rfl rfl rfl rfl (AC rfl rfl rfl rfl (AC rfl rfl rfl rfl (AC rfl rfl rfl rfl (AC rfl rfl rfl rfl ?_))))))))))))))
   refine AC rfl rfl rfl rfl (AC rfl rfl rfl rfl (o_pt rfl rfl rfl (o_z ?_)))
   obtain rfl:=sm hy29
   replace hB:=hB.st S26
   replace hx1:=hx1.st S26
   replace h9:=h9.st S26
   replace h12:=h12.st S26
   replace h15:=h15.st S26
   replace h18:=h18.st S26
   exact ⟨(),_,⟨rfl,rfl,rfl,rfl,trivial⟩,hB,hx1,h27,h9,h12,h15,h18⟩
  ·
   replace hy29:=im hy29 c32
   refine o_mv rfl rfl (AE rfl rfl (o_mv rfl rfl (AE rfl rfl (o_fa rfl rfl (AE rfl rfl (o_ld (hc:=Blk.cell (i:=3) (h27.1) rfl) rfl rfl ?_))))))
   refine AE rfl rfl (o_ln rfl rfl ?_)
   replace h18:=h18.st S26
   have l34:x0.ops.length≤9223372036854775807:=Nat.le_trans h18.len.2.1 h18.len.2.2
   have r33:inI64 (x0.ops.length:Int):=rngNat l34
   refine AE rfl rfl (o_geS rfl rfl rfl (fun c35=>?_) fun c35=>?_)
   ·
    replace hy29:=ip hy29 c35
    refine o_pf rfl rfl rfl (o_mv rfl rfl (AC rfl rfl rfl rfl (AC rfl rfl rfl rfl (AC rfl rfl rfl rfl (AC rfl rfl rfl rfl (AC rfl rfl rfl rfl (AC rfl rfl rfl rfl (AC rfl rfl rfl rfl (AC rfl rfl rfl rfl (AC rfl rfl rfl rfl (o_pt rfl rfl rfl (o_z ?_))))))))))))
    obtain rfl:=sm hy29
    replace hB:=hB.st S26
    replace hx1:=hx1.st S26
    replace h9:=h9.st S26
    replace h12:=h12.st S26
    replace h15:=h15.st S26
    exact ⟨(),_,⟨rfl,rfl,rfl,rfl,trivial⟩,hB,hx1,h27,h9,h12,h15,h18⟩
   ·
    replace hy29:=im hy29 c35
    refine o_pf rfl rfl rfl (o_mv rfl rfl (AE rfl rfl (o_fa rfl rfl (AE rfl rfl (o_ld (hc:=Blk.cell (i:=3) (h27.1) rfl) rfl rfl ?_)))))
    refine AE rfl rfl (o_mv rfl rfl (AE rfl rfl ?_))
    obtain ⟨a36,e37,hy29⟩:=bs hy29
    obtain ⟨p39,x38⟩:=AO e37
    obtain ⟨b40,o41,ce42,hA43,hl44,hd45,v47,v48,rfl,h49,h52,r55,z56⟩:=h18.elem' x38
    obtain ⟨A50,c51,rfl⟩:=h49.form
    obtain ⟨A53,c54,rfl⟩:=h52.form
    refine o_iaE (hA:=hA43) (hj:=(Int.toNat_of_nonneg p39).symm) (hlt:=hl44) rfl rfl rfl ?_
    refine AE rfl rfl (o_fa rfl rfl (AE rfl rfl (o_ld (hc:=cat2 hd45) rfl rfl ?_)))
    refine AE rfl rfl (o_mv rfl rfl (AE rfl rfl ?_))
    obtain ⟨q57,e58,hy29⟩:=bs hy29
    replace hx1:=hx1.st S26
    refine BP (O:=O25) (A:=All w24) (R:=fun w' F v=>Vb w' F v q57) (FO (fun _ h=>h) (Vb.mono (F:=Fr 0 w24 O25) h49 Fr.lt) (Vb.mono (F:=Fr 0 w24 O25) hx1 Fr.lt) e58) rfl rfl fun v63 w59 O60 S61 h62=>?_
    obtain rfl:=h62.bool
    cases q57
    case false =>
     replace hy29:=iF hy29
     refine AE rfl rfl (o_nf rfl rfl (o_pf rfl rfl rfl (o_z ?_)))
     obtain rfl:=sm hy29
     replace hB:=(hB.st S26).st S61
     replace hx1:=hx1.st S61
     replace h9:=(h9.st S26).st S61
     replace h12:=(h12.st S26).st S61
     replace h15:=(h15.st S26).st S61
     replace h18:=h18.st S61
     replace h27:=h27.st S61
     exact ⟨(),_,⟨rfl,rfl,rfl,rfl,trivial⟩,hB,hx1,h27,h9,h12,h15,h18⟩
    replace hy29:=iT hy29
    refine AE rfl rfl (o_nt rfl rfl (o_pf rfl rfl rfl (o_z ?_)))
    obtain rfl:=sm hy29
    replace hB:=(hB.st S26).st S61
    replace hx1:=hx1.st S61
    replace h9:=(h9.st S26).st S61
    replace h12:=(h12.st S26).st S61
    replace h15:=(h15.st S26).st S61
    replace h18:=h18.st S61
    replace h27:=h27.st S61
    exact ⟨(),_,⟨rfl,rfl,rfl,rfl,trivial⟩,hB,hx1,h27,h9,h12,h15,h18⟩
 replace hB:=hB.st S26
 replace hx1:=hx1.st S26
 replace h9:=h9.st S26
 replace h12:=h12.st S26
 replace h15:=h15.st S26
 replace h18:=h18.st S26
 rintro l64 w65 ⟨x31,O66,hs67,hB,hx1,h27,h9,h12,h15,h18⟩
 refine AP _ hs67 ?_
 refine Cm rfl (fun c68=>?_) (fun c68=>?_)
 ·
  replace hm:=ip hm c68
  refine Ah (Ae (o_as rfl rfl (o_as rfl rfl (o_z ?_))))
  refine Au ?_
  obtain rfl:=sm hm
  exact ret2 rfl (AG rfl) (AG rfl) ⟨hB.ext,_,_,rfl,(Vb.mono (F:=Fr 0 w65 O66) (Vb.nil _ _) hB.out),vBool⟩
 ·
  replace hm:=im' hm c68
  refine Am (Ah (Ae (Bf 3 (by decide) O66 (xs:=(([]:List Int):List Int)) rfl rfl rfl rfl trivial (by decide) (by decide) rfl fun g69 w70 O71 S72 h73=>?_)))
  refine o_mv rfl rfl ?_
  obtain ⟨u75,e76,hm⟩:=bs hm
  obtain ⟨e76,e77,e78⟩:=AU e76
  replace hx1:=hx1.st S72
  refine BF rfl h73 (hx1.rd) rfl rfl (by decide) e77 e78 rfl fun A79 c80 w81 O82 S83 h84=>?_
  rw [← e76] at h84 ⊢
  refine o_as rfl rfl (o_z ?_)
  refine Ah (Ah (Ae (o_fa rfl rfl ?_)))
  replace h27:=(h27.st S72).st S83
  refine o_ld (hc:=Blk.cell (i:=3) (h27.1) rfl) rfl rfl ?_
  refine o_mv rfl rfl ?_
  obtain ⟨a86,e87,hm⟩:=bs hm
  obtain ⟨p89,x88⟩:=AO e87
  replace h18:=(h18.st S72).st S83
  obtain ⟨b90,o91,ce92,hA93,hl94,hd95,v97,v98,rfl,h99,h102,r105,z106⟩:=h18.elem' x88
  obtain ⟨A100,c101,rfl⟩:=h99.form
  obtain ⟨A103,c104,rfl⟩:=h102.form
  refine o_iaE (hA:=hA93) (hj:=(Int.toNat_of_nonneg p89).symm) (hlt:=hl94) rfl rfl rfl ?_
  refine o_fa rfl rfl (o_ld (hc:=cat3 hd95) rfl rfl ?_)
  refine o_ln rfl rfl ?_
  have l108:a86.effs.length≤9223372036854775807:=Nat.le_trans h102.len.2.1 h102.len.2.2
  have r107:inI64 (a86.effs.length:Int):=rngNat l108
  refine o_mv rfl rfl (o_z ?_)
  obtain ⟨res109,hL110,hm⟩:=bs hm
  refine AN (aft res109 (fun (s111:(List Int)) (x112:Unit)=>[(8,(.slice A79 u75.length c80))]) (fun s111 x112 w'=>∃ O':Lab,Bs w A w' O'∧Rw 3 w' O' 3 (.slice A79 u75.length c80) s111)) ?_ ?_
  ·
   refine Al ?_
   replace hB:=(hB.st S72).st S83
   replace hx1:=hx1.st S83
   refine BD (σ:=(List Int)) (X:=Unit) (a86.effs.length) hL110 rfl l108 (fun (s111:(List Int)) (x112:Unit)=>[(1,(.slice A21 x1.length c22)),(8,(.slice A79 u75.length c80)),(39,(.slice A103 a86.effs.length c104))]) _ (fun s111 x112 w'=>∃ O':Lab,Bs w A w' O'∧Vb w' (Fr 0 w' O') (.slice A21 x1.length c22) x1∧Rw 3 w' O' 3 (.slice A79 u75.length c80) s111∧Vb w' (Fr 0 w' O') (.slice A103 a86.effs.length c104) a86.effs) _ () ⟨O82,hB,hx1,h84,h102⟩ ⟨rfl,rfl,rfl,rfl,rfl,trivial⟩ (fun _ _=>⟨rfl,rfl⟩) (fun _ _=>⟨rfl,trivial⟩) (fun _ _ _ ⟨O',hB,hx1,h126,h102⟩=>⟨O',hB,h126⟩) ⟨rfl,rfl,rfl⟩ ⟨rfl,rfl⟩ ?_
   rintro k113 a114 s111 x112 w115 cc117 hx118 ⟨O116,hB,hx1,h126,h102⟩ hf119 hret120 hbrk121
   have rk113:inI64 (k113:Int):=rngK hx118 l108
   refine Ah (Ae ?_)
   obtain ⟨b128,o129,ce130,hA131,hl132,hd133,v135,rfl,h136,r139,r140⟩:=h102.elem' hx118
   obtain ⟨A137,c138,rfl⟩:=h136.form
   refine o_iaE (hA:=hA131) (hj:=rfl) (hlt:=hl132) rfl rfl rfl ?_
   refine o_la (hl:=rfl) (hc:=hd133) rfl rfl ?_
   refine BJ 4 O116 rfl fun g141 w142 O143 S144 h145=>?_
   refine AQ h145 rfl rfl rfl (Nat.le_of_ble_eq_true rfl) (by first|exact allOne rfl|simp [Value.cells,Value.oneCell',AM]) fun w146 S147 h145=>?_
   replace h145:Lc 4 w146 O143 g141 64 [(.slice A137 a114.cond.length c138),(.int .i64 a114.var),(.int .i64 a114.val)]:=h145
   refine o_z ?_
   refine Ah (Ae (o_fa rfl rfl (o_ld (hc:=Blk.cell (i:=0) (h145.1) rfl) rfl rfl ?_)))
   refine o_mv rfl rfl ?_
   obtain ⟨q148,e149,hf119⟩:=bs hf119
   replace hx1:=(hx1.st S144).st S147
   replace h136:=(h136.st S144).st S147
   refine BP (O:=O143) (A:=All w146) (R:=fun w' F v=>Vb w' F v q148) (FO (fun _ h=>h) (Vb.mono (F:=Fr 0 w146 O143) h136 Fr.lt) (Vb.mono (F:=Fr 0 w146 O143) hx1 Fr.lt) e149) rfl rfl fun v154 w150 O151 S152 h153=>?_
   obtain rfl:=h153.bool
   cases q148
   case false =>
    replace hf119:=iF hf119
    refine o_z ?_
    refine Aj rfl (Am ?_)
    obtain rfl:=sm hf119
    refine (?_:Exists _)
    replace hB:=((hB.st S144).st S147).st S152
    replace hx1:=hx1.st S152
    replace h102:=((h102.st S144).st S147).st S152
    replace h126:=((h126.st S144).st S147).st S152
    exact ⟨_,(),rfl,⟨rfl,rfl,rfl,rfl,rfl,trivial⟩,_,hB,hx1,h126,h102⟩
   replace hf119:=iT hf119
   refine o_z ?_
   refine Ar rfl (Ae (o_mv rfl rfl (o_fa rfl rfl ?_)))
   replace h145:=h145.st S152
   refine o_ld (hc:=Blk.cell (i:=1) (h145.1) rfl) rfl rfl ?_
   refine o_fa rfl rfl (o_ld (hc:=Blk.cell (i:=2) (h145.1) rfl) rfl rfl ?_)
   obtain ⟨a155,e156,hf119⟩:=bs hf119
   obtain ⟨p158,x157⟩:=AO e156
   replace h126:=((h126.st S144).st S147).st S152
   obtain ⟨b159,o160,ce161,hA162,hl163,hd164,rfl,r166⟩:=h126.elem x157
   refine o_iaE (hA:=hA162) (hj:=(Int.toNat_of_nonneg p158).symm) (hlt:=hl163) rfl rfl rfl ?_
   refine CG rfl h126 (a:=a114.val) (vInt r140) hA162 rfl rfl (AJ x157) fun w167 S168 h126=>?_
   refine o_z ?_
   obtain rfl:=sm hf119
   refine (?_:Exists _)
   replace hB:=(((hB.st S144).st S147).st S152).st S168
   replace hx1:=(hx1.st S152).st S168
   replace h102:=(((h102.st S144).st S147).st S152).st S168
   exact ⟨_,(),rfl,⟨rfl,rfl,rfl,rfl,rfl,trivial⟩,_,hB,hx1,h126,h102⟩
  replace hB:=(hB.st S72).st S83
  rintro l169 w170 ⟨s173,x174,rfl,hs172,O171,hB,h126⟩
  replace hm:=AY hm
  refine AP _ hs172 ?_
  refine Ah (Ae (o_mv rfl rfl (o_as rfl rfl (o_as rfl rfl (o_z ?_)))))
  refine Au ?_
  obtain ⟨O175,S176,h126⟩:=h126.freeze
  obtain rfl:=sm hm
  replace hB:=hB.st S176
  exact ret2 rfl (AG rfl) (AG rfl) ⟨hB.ext,_,_,rfl,(Vb.mono (F:=Fr 0 w170 O175) h126 hB.out),vBool⟩
noncomputable def CV (x0:List Int) (x1:List Int):Option Int :=
  bnd (rng (ρ:=Int) (fun (k13:Nat) (a14:Int) (s11:Int)=>bnd (x0[k13]?) fun a26=>bnd (chkI (s11 * a26)) fun n36=>bnd (chkI (n36 + a14)) fun n47=>some (.next n47)) x1 0 0) fun res9=>fin res9 fun (s54:Int)=>some s54
theorem Iv {w:World} {A:Nat→Prop} (hA:∀ k,A k→k < w.heap.size) {vx0:Value} {x0:List Int} (hx0:Vb w A vx0 x0) {vx1:Value} {x1:List Int} (hx1:Vb w A vx1 x1) {r:Int} (hm:CV x0 x1=some r) :
    Fn Tryz.prog 35 [vx0,vx1] w fun v w'=>Ext w w'∧Vb w' (upA A w w') v r:=by
 obtain ⟨O,hB,hA0⟩:=enter hA
 replace hx0:=hx0.mono hA0
 obtain ⟨A3,c4,rfl⟩:=hx0.form
 replace hx1:=hx1.mono hA0
 obtain ⟨A5,c6,rfl⟩:=hx1.form
 refine AL Tryz.func35 rfl Tryz.ntmps35 rfl ?_
 unfold CV at hm
 refine Ah (Ae (o_as rfl rfl (o_z ?_)))
 refine Ah (Ae (o_as rfl rfl (o_z ?_)))
 refine Ah (Ah (Ae (o_mv rfl rfl (o_ln rfl rfl ?_))))
 have l8:x1.length≤9223372036854775807:=Nat.le_trans hx1.len.2.1 hx1.len.2.2
 have r7:inI64 (x1.length:Int):=rngNat l8
 refine o_mv rfl rfl (o_z ?_)
 obtain ⟨res9,hL10,hm⟩:=bs hm
 refine AN (aft res9 (fun (s11:Int) (x12:Unit)=>[(5,(.int .i64 s11))]) (fun s11 x12 w'=>∃ O':Lab,Bs w A w' O'∧inI64 s11)) ?_ ?_
 ·
  refine Al (BD (σ:=Int) (X:=Unit) (x1.length) hL10 rfl l8 (fun (s11:Int) (x12:Unit)=>[(0,(.slice A3 x0.length c4)),(1,(.slice A5 x1.length c6)),(5,(.int .i64 s11))]) _ (fun s11 x12 w'=>∃ O':Lab,Bs w A w' O'∧Vb w' (Fr 0 w' O') (.slice A3 x0.length c4) x0∧Vb w' (Fr 0 w' O') (.slice A5 x1.length c6) x1∧inI64 s11) _ () ⟨O,hB,hx0,hx1,(show inI64 (0) from by decide)⟩ ⟨rfl,rfl,rfl,rfl,rfl,trivial⟩ (fun _ _=>⟨rfl,rfl⟩) (fun _ _=>⟨rfl,trivial⟩) (fun _ _ _ ⟨O',hB,hx0,hx1,r25⟩=>⟨O',hB,r25⟩) ⟨rfl,rfl,rfl⟩ ⟨rfl,rfl⟩ ?_)
  rintro k13 a14 s11 x12 w15 cc17 hx18 ⟨O16,hB,hx0,hx1,r25⟩ hf19 hret20 hbrk21
  have rk13:inI64 (k13:Int):=rngK hx18 l8
  refine Ah (Ae (o_mv rfl rfl (o_as rfl rfl (o_z ?_))))
  refine BV (·=w15) [(0,true),(1,true),(2,true),(3,true),(4,true),(5,true),(6,true),(7,true),(8,true),(9,true),(10,true),(11,true)] (by kernel_rfl) rfl (by kernel_rfl) rfl ?_
  refine h_mv rfl rfl rfl (h_mv rfl rfl rfl (h_mv rfl rfl rfl ?_))
  obtain ⟨a26,e27,hf19⟩:=bs hf19
  obtain ⟨b28,o29,ce30,hA31,hl32,hd33,rfl,r35⟩:=hx0.elem' e27
  refine h_iaE (hA:=hA31) (hj:=rfl) (hlt:=hl32) rfl rfl rfl rfl ?_
  refine h_ldA (hc:=cat0 hd33) rfl rfl rfl ?_
  obtain ⟨n36,e37,hf19⟩:=bs hf19
  have r38:=(AW e37)
  refine h_mlE (he:=e37) rfl rfl rfl rfl ?_
  refine h_mv rfl rfl rfl (h_mv rfl rfl rfl ?_)
  obtain ⟨b39,o40,ce41,hA42,hl43,hd44,rfl,r46⟩:=hx1.elem' hx18
  refine h_iaE (hA:=hA42) (hj:=rfl) (hlt:=hl43) rfl rfl rfl rfl ?_
  refine h_ldA (hc:=cat0 hd44) rfl rfl rfl ?_
  obtain ⟨n47,e48,hf19⟩:=bs hf19
  have r49:=(AW e48)
  refine h_adE (he:=e48) rfl rfl rfl rfl ?_
  refine h_as rfl rfl rfl (h_z ?_)
  obtain rfl:=sm hf19
  refine (?_:Exists _)
  exact ⟨_,(),rfl,⟨rfl,rfl,rfl,rfl,rfl,trivial⟩,_,hB,hx0,hx1,r49⟩
 rintro l50 w51 ⟨s54,x55,rfl,hs53,O52,hB,r25⟩
 replace hm:=AY hm
 refine AP _ hs53 ?_
 refine Ah (Ae (o_mv rfl rfl (o_as rfl rfl (o_z ?_))))
 refine Au ?_
 obtain rfl:=sm hm
 exact ret1v rfl (AG rfl) ⟨hB.ext,(vInt r25)⟩
noncomputable def DX (x0:Tsk):Option (List Edg) :=
  bnd (CQ x0.vars) fun q24=>bnd (rng (ρ:=(List Edg)) (fun (k39:Nat) (a40:List Int) (s37:(List Edg))=>bnd (rng (ρ:=Ctl (List Edg) (List Edg)) (fun (k71:Nat) (a72:Opr) (s69:(List Edg))=>bnd (Cw x0 a40 (k71:Int)) fun q86=>if q86.2=true then (bnd (CV x0.vars q86.1) fun q100=>bnd (appI 24 s69 [(⟨(k39:Int),(k71:Int),q100⟩:Edg)]) fun u108=>some (.next u108)) else (some (.next s69))) x0.ops 0 s37) fun res67=>fin res67 fun (s124:(List Edg))=>some (.next s124)) q24 0 ([]:List Edg)) fun res35=>fin res35 fun (s130:(List Edg))=>some s130
theorem KF {w:World} {A:Nat→Prop} (hA:∀ k,A k→k < w.heap.size) {vx0:Value} {x0:Tsk} (hx0:Vb w A vx0 x0) {r:(List Edg)} (hm:DX x0=some r) :
    Fn Tryz.prog 66 [vx0] w fun v w'=>Ext w w'∧Vb w' (upA A w w') v r:=by
 obtain ⟨O,hB,hA0⟩:=enter hA
 replace hx0:=hx0.mono hA0
 obtain ⟨cs2,rfl,v3,v4,v5,v6,rfl,h7,h10,h13,h16⟩:=hx0
 obtain ⟨A8,c9,rfl⟩:=h7.form
 obtain ⟨A11,c12,rfl⟩:=h10.form
 obtain ⟨A14,c15,rfl⟩:=h13.form
 obtain ⟨A17,c18,rfl⟩:=h16.form
 refine AL Tryz.func66 rfl Tryz.ntmps66 rfl ?_
 unfold DX at hm
 refine Ah (Ae (l_box 2 O rfl rfl fun g19 w20 O21 S22 h23=>?_))
 replace h23:Lc 2 w20 O21 g19 26 [(.slice A8 x0.vars.length c9),(.slice A11 x0.init.length c12),(.slice A14 x0.goal.length c15),(.slice A17 x0.ops.length c18)]:=h23
 refine o_as rfl rfl (o_z ?_)
 refine Ah (Ae (o_as rfl rfl (o_z ?_)))
 refine Ah (Ah (Ae (o_fa rfl rfl (o_ld (hc:=Blk.cell (i:=0) (h23.1) rfl) rfl rfl ?_))))
 obtain ⟨q24,e25,hm⟩:=bs hm
 replace h7:=h7.st S22
 refine CY (O:=O21) (R:=fun w' F v=>Vb w' F v q24) (Hj Fr.lt h7 e25) rfl rfl fun v30 w26 O27 S28 h29=>?_
 obtain ⟨A31,c32,rfl⟩:=h29.form
 refine o_ln rfl rfl ?_
 have l34:q24.length≤9223372036854775807:=Nat.le_trans h29.len.2.1 h29.len.2.2
 have r33:inI64 (q24.length:Int):=rngNat l34
 refine o_mv rfl rfl (o_z ?_)
 obtain ⟨res35,hL36,hm⟩:=bs hm
 refine AN (aft res35 (fun (s37:(List Edg)) (x38:(Option Addr×Nat))=>[(3,(.slice x38.1 s37.length x38.2))]) (fun s37 x38 w'=>∃ O':Lab,Bs w A w' O'∧Rw 3 w' O' 122 (.slice x38.1 s37.length x38.2) s37)) ?_ ?_
 ·
  refine Al ?_
  replace hB:=(hB.st S22).st S28
  replace h7:=h7.st S28
  replace h10:=(h10.st S22).st S28
  replace h13:=(h13.st S22).st S28
  replace h16:=(h16.st S22).st S28
  replace h23:=h23.st S28
  refine BD (σ:=(List Edg)) (X:=(Option Addr×Nat)) (q24.length) hL36 rfl l34 (fun (s37:(List Edg)) (x38:(Option Addr×Nat))=>[(1,(.pointer (some ⟨g19,0,none⟩))),(3,(.slice x38.1 s37.length x38.2)),(11,(.slice A31 q24.length c32))]) _ (fun s37 x38 w'=>∃ O':Lab,Bs w A w' O'∧Lc 2 w' O' g19 26 [(.slice A8 x0.vars.length c9),(.slice A11 x0.init.length c12),(.slice A14 x0.goal.length c15),(.slice A17 x0.ops.length c18)]∧Vb w' (Fr 0 w' O') (.slice A8 x0.vars.length c9) x0.vars∧Vb w' (Fr 0 w' O') (.slice A11 x0.init.length c12) x0.init∧Vb w' (Fr 0 w' O') (.slice A14 x0.goal.length c15) x0.goal∧Vb w' (Fr 0 w' O') (.slice A17 x0.ops.length c18) x0.ops∧Rw 3 w' O' 122 (.slice x38.1 s37.length x38.2) s37∧Vb w' (Fr 0 w' O') (.slice A31 q24.length c32) q24) _ (none,0) ⟨O27,hB,h23,h7,h10,h13,h16,(Rw.nil 3 (by decide)),h29⟩ ⟨rfl,rfl,rfl,rfl,rfl,trivial⟩ (fun _ _=>⟨rfl,rfl⟩) (fun _ _=>⟨rfl,trivial⟩) (fun _ _ _ ⟨O',hB,h23,h7,h10,h13,h16,h52,h29⟩=>⟨O',hB,h52⟩) ⟨rfl,rfl,rfl⟩ ⟨rfl,rfl⟩ ?_
  rintro k39 a40 s37 x38 w41 cc43 hx44 ⟨O42,hB,h23,h7,h10,h13,h16,h52,h29⟩ hf45 hret46 hbrk47
  have rk39:inI64 (k39:Int):=rngK hx44 l34
  refine Ah (Ae (o_mv rfl rfl ?_))
  obtain ⟨b54,o55,ce56,hA57,hl58,hd59,v61,rfl,h62⟩:=h29.elem' hx44
  replace h62:=Vb.of_slice h62
  obtain ⟨A63,c64,rfl⟩:=h62.form
  refine o_iaE (hA:=hA57) (hj:=rfl) (hlt:=hl58) rfl rfl rfl ?_
  refine o_ld (hc:=cat0 hd59) rfl rfl ?_
  refine o_as rfl rfl (o_as rfl rfl (o_z ?_))
  refine Ah (Ae (o_fa rfl rfl (o_ld (hc:=Blk.cell (i:=3) (h23.1) rfl) rfl rfl ?_)))
  refine o_ln rfl rfl ?_
  have l66:x0.ops.length≤9223372036854775807:=Nat.le_trans h16.len.2.1 h16.len.2.2
  have r65:inI64 (x0.ops.length:Int):=rngNat l66
  refine o_mv rfl rfl (o_z ?_)
  obtain ⟨res67,hL68,hf45⟩:=bs hf45
  refine AN (aft res67 (fun (s69:(List Edg)) (x70:(Option Addr×Nat))=>[(1,(.pointer (some ⟨g19,0,none⟩))),(3,(.slice x70.1 s69.length x70.2)),(11,(.slice A31 q24.length c32)),(12,(.int .i64 (q24.length:Int))),(13,(.int .i64 (k39:Int)))]) (fun s69 x70 w'=>∃ O':Lab,Bs w A w' O'∧Lc 2 w' O' g19 26 [(.slice A8 x0.vars.length c9),(.slice A11 x0.init.length c12),(.slice A14 x0.goal.length c15),(.slice A17 x0.ops.length c18)]∧Vb w' (Fr 0 w' O') (.slice A8 x0.vars.length c9) x0.vars∧Vb w' (Fr 0 w' O') (.slice A11 x0.init.length c12) x0.init∧Vb w' (Fr 0 w' O') (.slice A14 x0.goal.length c15) x0.goal∧Vb w' (Fr 0 w' O') (.slice A17 x0.ops.length c18) x0.ops∧Rw 3 w' O' 122 (.slice x70.1 s69.length x70.2) s69∧Vb w' (Fr 0 w' O') (.slice A31 q24.length c32) q24)) ?_ ?_
  ·
   refine Al (BD (σ:=(List Edg)) (X:=(Option Addr×Nat)) (x0.ops.length) hL68 rfl l66 (fun (s69:(List Edg)) (x70:(Option Addr×Nat))=>[(1,(.pointer (some ⟨g19,0,none⟩))),(3,(.slice x70.1 s69.length x70.2)),(4,(.int .i64 (k39:Int))),(5,(.slice A63 a40.length c64)),(11,(.slice A31 q24.length c32)),(12,(.int .i64 (q24.length:Int))),(13,(.int .i64 (k39:Int)))]) _ (fun s69 x70 w'=>∃ O':Lab,Bs w A w' O'∧Lc 2 w' O' g19 26 [(.slice A8 x0.vars.length c9),(.slice A11 x0.init.length c12),(.slice A14 x0.goal.length c15),(.slice A17 x0.ops.length c18)]∧Vb w' (Fr 0 w' O') (.slice A8 x0.vars.length c9) x0.vars∧Vb w' (Fr 0 w' O') (.slice A11 x0.init.length c12) x0.init∧Vb w' (Fr 0 w' O') (.slice A14 x0.goal.length c15) x0.goal∧Vb w' (Fr 0 w' O') (.slice A17 x0.ops.length c18) x0.ops∧Rw 3 w' O' 122 (.slice x70.1 s69.length x70.2) s69∧Vb w' (Fr 0 w' O') (.slice A63 a40.length c64) a40∧Vb w' (Fr 0 w' O') (.slice A31 q24.length c32) q24) _ (x38.1,x38.2) ⟨O42,hB,h23,h7,h10,h13,h16,h52,h62,h29⟩ ⟨rfl,rfl,rfl,rfl,rfl,rfl,rfl,rfl,rfl,trivial⟩ (fun _ _=>⟨rfl,rfl⟩) (fun _ _=>⟨rfl,rfl,rfl,rfl,rfl,trivial⟩) (fun _ _ _ ⟨O',hB,h23,h7,h10,h13,h16,h84,h62,h29⟩=>⟨O',hB,h23,h7,h10,h13,h16,h84,h29⟩) ⟨rfl,rfl,rfl⟩ ⟨rfl,rfl⟩ ?_)
   rintro k71 a72 s69 x70 w73 cc75 hx76 ⟨O74,hB,h23,h7,h10,h13,h16,h84,h62,h29⟩ hf77 hret78 hbrk79
   have rk71:inI64 (k71:Int):=rngK hx76 l66
   refine Ah (Ae (o_mv rfl rfl (o_as rfl rfl (o_z ?_))))
   refine Ah (Ae (o_la (hl:=rfl) (hc:=(h23.1).cellsAt) rfl rfl ?_))
   refine o_mv rfl rfl (o_mv rfl rfl ?_)
   obtain ⟨q86,e87,hf77⟩:=bs hf77
   refine CY (O:=O74) (R:=fun w' F v=>T2 w' F v q86) (KE Fr.lt (Vb.ofAgg (cs:=[(.slice A8 x0.vars.length c9),(.slice A11 x0.init.length c12),(.slice A14 x0.goal.length c15),(.slice A17 x0.ops.length c18)]) (x:=x0) rfl ⟨_,_,_,_,rfl,h7,h10,h13,h16⟩) h62 rk71 e87) rfl rfl fun v92 w88 O89 S90 h91=>?_
   obtain ⟨v93,v94,rfl,h95,h96⟩:=h91
   obtain ⟨A97,c98,rfl⟩:=h95.form
   obtain rfl:=h96.bool
   refine o_mv rfl rfl (o_ex rfl rfl rfl (o_ex rfl rfl rfl (o_as rfl rfl (o_as rfl rfl (o_z ?_)))))
   refine Ah (Ae (o_mv rfl rfl (o_z ?_)))
   refine Cm rfl (fun c99=>?_) (fun c99=>?_)
   ·
    replace hf77:=ip hf77 c99
    refine Ae (o_mv rfl rfl (o_mv rfl rfl (o_mv rfl rfl (o_fa rfl rfl ?_))))
    replace h23:=h23.st S90
    refine o_ld (hc:=Blk.cell (i:=0) (h23.1) rfl) rfl rfl ?_
    refine o_mv rfl rfl ?_
    obtain ⟨q100,e101,hf77⟩:=bs hf77
    replace h7:=h7.st S90
    refine BP (O:=O89) (A:=All w88) (R:=fun w' F v=>Vb w' F v q100) (Iv (fun _ h=>h) (Vb.mono (F:=Fr 0 w88 O89) h7 Fr.lt) (Vb.mono (F:=Fr 0 w88 O89) h95 Fr.lt) e101) rfl rfl fun v106 w102 O103 S104 h105=>?_
    obtain ⟨rfl,r107⟩:=h105.int
    refine o_bd rfl rfl rfl ?_
    obtain ⟨u108,e109,hf77⟩:=bs hf77
    obtain ⟨e109,e110,e111⟩:=AU e109
    replace h84:=(h84.st S90).st S104
    refine Cu rfl (a:=(⟨(k39:Int),(k71:Int),q100⟩:Edg)) h84 (Vb.ofAgg (cs:=[(.int .i64 (k39:Int)),(.int .i64 (k71:Int)),(.int .i64 q100)]) (x:=(⟨(k39:Int),(k71:Int),q100⟩:Edg)) rfl ⟨rfl,rk39,rk71,r107⟩) (fun _=>rfl) rfl (by decide) (by decide) e110 e111 ⟨rfl,rfl⟩ fun g112 A113 c114 w115 O116 S117 h118=>?_
    rw [← e109] at h118 ⊢
    refine o_as rfl rfl (o_z ?_)
    obtain rfl:=sm hf77
    refine (?_:Exists _)
    replace hB:=((hB.st S90).st S104).st S117
    replace h7:=(h7.st S104).st S117
    replace h10:=((h10.st S90).st S104).st S117
    replace h13:=((h13.st S90).st S104).st S117
    replace h16:=((h16.st S90).st S104).st S117
    replace h23:=(h23.st S104).st S117
    replace h29:=((h29.st S90).st S104).st S117
    replace h62:=((h62.st S90).st S104).st S117
    exact ⟨_,(A113,c114),rfl,⟨rfl,rfl,rfl,rfl,rfl,rfl,rfl,rfl,rfl,trivial⟩,_,hB,h23,h7,h10,h13,h16,h118,h62,h29⟩
   ·
    replace hf77:=im' hf77 c99
    refine Am ?_
    obtain rfl:=sm hf77
    refine (?_:Exists _)
    replace hB:=hB.st S90
    replace h7:=h7.st S90
    replace h10:=h10.st S90
    replace h13:=h13.st S90
    replace h16:=h16.st S90
    replace h23:=h23.st S90
    replace h29:=h29.st S90
    replace h62:=h62.st S90
    replace h84:=h84.st S90
    exact ⟨_,(x70.1,x70.2),rfl,⟨rfl,rfl,rfl,rfl,rfl,rfl,rfl,rfl,rfl,trivial⟩,_,hB,h23,h7,h10,h13,h16,h84,h62,h29⟩
  rintro l120 w121 ⟨s124,x125,rfl,hs123,O122,hB,h23,h7,h10,h13,h16,h84,h29⟩
  replace hf45:=AY hf45
  obtain rfl:=sm hf45
  refine (?_:Exists _)
  exact ⟨_,(x125.1,x125.2),rfl,⟨(Bw hs123 _ _ rfl),(Bw hs123 _ _ rfl),(Bw hs123 _ _ rfl),(Bw hs123 _ _ rfl),(Bw hs123 _ _ rfl),trivial⟩,_,hB,h23,h7,h10,h13,h16,h84,h29⟩
 replace hB:=(hB.st S22).st S28
 rintro l126 w127 ⟨s130,x131,rfl,hs129,O128,hB,h52⟩
 replace hm:=AY hm
 refine AP _ hs129 ?_
 refine Ah (Ae (o_mv rfl rfl (o_as rfl rfl (o_z ?_))))
 refine Au ?_
 obtain ⟨O132,S133,h52⟩:=h52.freeze
 obtain rfl:=sm hm
 replace hB:=hB.st S133
 exact ret1v rfl (AG rfl) ⟨hB.ext,(Vb.mono (F:=Fr 0 w127 O132) h52 hB.out)⟩
noncomputable def Dc (x0:Tsk):Option (List Int) :=
  bnd (CQ x0.vars) fun q25=>bnd (mkI 8 (0:Int) (q25.length:Int)) fun u36=>bnd (rng (ρ:=(List Int)) (fun (k55:Nat) (a56:List Int) (s53:(List Int))=>bnd (s53[k55]?) fun a81=>bnd (Da x0.goal a56) fun q93=>if q93=true then bnd ((s53.set k55 1125899906842624)[k55]?) fun a100=>some (.next ((s53.set k55 1125899906842624).set k55 0)) else some (.next (s53.set k55 1125899906842624))) q25 0 u36) fun res51=>fin res51 fun (s116:(List Int))=>bnd (DX x0) fun q118=>bnd (lop (ρ:=(List Int)) (fun (s129:(List Int)×Bool)=>if s129.2=true then (bnd (rng (ρ:=Ctl ((List Int)×Bool) (List Int)) (fun (k153:Nat) (a154:Edg) (s151:(List Int)×Bool)=>bnd (atI x0.ops a154.op) fun a185=>bnd (bnd (atI s151.1 a154.dst) fun a210=>if a210 < 1125899906842624 then (bnd (atI s151.1 a154.dst) fun a223=>bnd (chkI (a223 + a185.cost)) fun n235=>bnd (atI s151.1 a154.src) fun a238=>if n235 < a238 then (some true) else (some false)) else (some false):Option Bool) fun y206=>if y206=true then (bnd (atI s151.1 a154.dst) fun a256=>bnd (chkI (a256 + a185.cost)) fun n268=>bnd (atI s151.1 a154.src) fun a271=>some (.next ((s151.1.set (a154.src:Int).toNat n268),true))) else (some (.next (s151.1,s151.2)))) q118 0 (s129.1,false)) fun res149=>fin res149 fun (s289:(List Int)×Bool)=>some (.next (s289.1,s289.2))) else (some (.brk (s129.1,s129.2)))) (s116,true)) fun res127=>fin res127 fun (s295:(List Int)×Bool)=>some s295.1
theorem IH {w:World} {A:Nat→Prop} (hA:∀ k,A k→k < w.heap.size) {vx0:Value} {x0:Tsk} (hx0:Vb w A vx0 x0) {r:(List Int)} (hm:Dc x0=some r) :
    Fn Tryz.prog 34 [vx0,(.slice none 0 0)] w fun v w'=>Ext w w'∧Vb w' (upA A w w') v r:=by
 obtain ⟨O,hB,hA0⟩:=enter hA
 replace hx0:=hx0.mono hA0
 obtain ⟨cs3,rfl,v4,v5,v6,v7,rfl,h8,h11,h14,h17⟩:=hx0
 obtain ⟨A9,c10,rfl⟩:=h8.form
 obtain ⟨A12,c13,rfl⟩:=h11.form
 obtain ⟨A15,c16,rfl⟩:=h14.form
 obtain ⟨A18,c19,rfl⟩:=h17.form
 refine AL Tryz.func34 rfl Tryz.ntmps34 rfl ?_
 unfold Dc at hm
 refine Ah (Ae (l_box 2 O rfl rfl fun g20 w21 O22 S23 h24=>?_))
 replace h24:Lc 2 w21 O22 g20 26 [(.slice A9 x0.vars.length c10),(.slice A12 x0.init.length c13),(.slice A15 x0.goal.length c16),(.slice A18 x0.ops.length c19)]:=h24
 refine o_as rfl rfl (o_z ?_)
 refine Ah (Ae (o_fa rfl rfl (o_ld (hc:=Blk.cell (i:=0) (h24.1) rfl) rfl rfl ?_)))
 obtain ⟨q25,e26,hm⟩:=bs hm
 replace h8:=h8.st S23
 refine CY (O:=O22) (R:=fun w' F v=>Vb w' F v q25) (Hj Fr.lt h8 e26) rfl rfl fun v31 w27 O28 S29 h30=>?_
 obtain ⟨A32,c33,rfl⟩:=h30.form
 refine o_as rfl rfl (o_z ?_)
 refine Ah (Ae (o_mv rfl rfl (o_ln rfl rfl ?_)))
 have l35:q25.length≤9223372036854775807:=Nat.le_trans h30.len.2.1 h30.len.2.2
 have r34:inI64 (q25.length:Int):=rngNat l35
 obtain ⟨u36,e37,hm⟩:=bs hm
 obtain ⟨m38,e39,e40,e41,e42⟩:=FL e37
 refine Hy 3 (by decide) O28 (z0:=(0:Int)) rfl rfl rfl rfl rfl e39 (vInt (show inI64 0 from by decide)) e40 e41 rfl fun g43 w44 O45 S46 h47=>?_
 rw [← e42] at h47 ⊢
 refine o_as rfl rfl (o_z ?_)
 refine Ah (Ah (Ae (o_mv rfl rfl (o_ln rfl rfl ?_))))
 replace h30:=h30.st S46
 have l50:q25.length≤9223372036854775807:=Nat.le_trans h30.len.2.1 h30.len.2.2
 have r49:inI64 (q25.length:Int):=rngNat l50
 refine o_mv rfl rfl (o_z ?_)
 obtain ⟨res51,hL52,hm⟩:=bs hm
 refine AN (aft res51 (fun (s53:(List Int)) (x54:Unit)=>[(1,(.slice none 0 0)),(2,(.pointer (some ⟨g20,0,none⟩))),(6,(.slice (some ⟨g43,0,none⟩) u36.length m38))]) (fun s53 x54 w'=>∃ O':Lab,Bs w A w' O'∧Lc 2 w' O' g20 26 [(.slice A9 x0.vars.length c10),(.slice A12 x0.init.length c13),(.slice A15 x0.goal.length c16),(.slice A18 x0.ops.length c19)]∧Vb w' (Fr 0 w' O') (.slice A9 x0.vars.length c10) x0.vars∧Vb w' (Fr 0 w' O') (.slice A12 x0.init.length c13) x0.init∧Vb w' (Fr 0 w' O') (.slice A15 x0.goal.length c16) x0.goal∧Vb w' (Fr 0 w' O') (.slice A18 x0.ops.length c19) x0.ops∧Rw 3 w' O' 3 (.slice (some ⟨g43,0,none⟩) u36.length m38) s53)) ?_ ?_
 ·
  refine Al ?_
  replace hB:=((hB.st S23).st S29).st S46
  replace h8:=(h8.st S29).st S46
  replace h11:=((h11.st S23).st S29).st S46
  replace h14:=((h14.st S23).st S29).st S46
  replace h17:=((h17.st S23).st S29).st S46
  replace h24:=(h24.st S29).st S46
  refine BD (σ:=(List Int)) (X:=Unit) (q25.length) hL52 rfl l50 (fun (s53:(List Int)) (x54:Unit)=>[(1,(.slice none 0 0)),(2,(.pointer (some ⟨g20,0,none⟩))),(6,(.slice (some ⟨g43,0,none⟩) u36.length m38)),(20,(.slice A32 q25.length c33))]) _ (fun s53 x54 w'=>∃ O':Lab,Bs w A w' O'∧Lc 2 w' O' g20 26 [(.slice A9 x0.vars.length c10),(.slice A12 x0.init.length c13),(.slice A15 x0.goal.length c16),(.slice A18 x0.ops.length c19)]∧Vb w' (Fr 0 w' O') (.slice A9 x0.vars.length c10) x0.vars∧Vb w' (Fr 0 w' O') (.slice A12 x0.init.length c13) x0.init∧Vb w' (Fr 0 w' O') (.slice A15 x0.goal.length c16) x0.goal∧Vb w' (Fr 0 w' O') (.slice A18 x0.ops.length c19) x0.ops∧Rw 3 w' O' 3 (.slice (some ⟨g43,0,none⟩) u36.length m38) s53∧Vb w' (Fr 0 w' O') (.slice A32 q25.length c33) q25) _ () ⟨O45,hB,h24,h8,h11,h14,h17,h47,h30⟩ ⟨rfl,rfl,rfl,rfl,rfl,rfl,trivial⟩ (fun _ _=>⟨rfl,rfl⟩) (fun _ _=>⟨rfl,rfl,rfl,trivial⟩) (fun _ _ _ ⟨O',hB,h24,h8,h11,h14,h17,h68,h30⟩=>⟨O',hB,h24,h8,h11,h14,h17,h68⟩) ⟨rfl,rfl,rfl⟩ ⟨rfl,rfl⟩ ?_
  rintro k55 a56 s53 x54 w57 cc59 hx60 ⟨O58,hB,h24,h8,h11,h14,h17,h68,h30⟩ hf61 hret62 hbrk63
  have rk55:inI64 (k55:Int):=rngK hx60 l50
  refine Ah (Ae (o_mv rfl rfl ?_))
  obtain ⟨b70,o71,ce72,hA73,hl74,hd75,v77,rfl,h78⟩:=h30.elem' hx60
  replace h78:=Vb.of_slice h78
  obtain ⟨A79,c80,rfl⟩:=h78.form
  refine o_iaE (hA:=hA73) (hj:=rfl) (hlt:=hl74) rfl rfl rfl ?_
  refine o_ld (hc:=cat0 hd75) rfl rfl ?_
  refine o_as rfl rfl (o_as rfl rfl (o_z ?_))
  refine Ah (Ae (o_mv rfl rfl (o_mv rfl rfl ?_)))
  obtain ⟨a81,e82,hf61⟩:=bs hf61
  obtain ⟨b83,o84,ce85,hA86,hl87,hd88,rfl,r90⟩:=h68.elem e82
  refine o_iaE (hA:=hA86) (hj:=rfl) (hlt:=hl87) rfl rfl rfl ?_
  refine CG rfl h68 (a:=1125899906842624) (vInt (show inI64 (1125899906842624) from by decide)) hA86 rfl rfl (AJ e82) fun w91 S92 h68=>?_
  refine o_z ?_
  refine Ah (Ae (o_fa rfl rfl ?_))
  replace h24:=h24.st S92
  refine o_ld (hc:=Blk.cell (i:=2) (h24.1) rfl) rfl rfl ?_
  refine o_mv rfl rfl ?_
  obtain ⟨q93,e94,hf61⟩:=bs hf61
  replace h14:=h14.st S92
  replace h78:=h78.st S92
  refine BP (O:=O58) (A:=All w91) (R:=fun w' F v=>Vb w' F v q93) (FO (fun _ h=>h) (Vb.mono (F:=Fr 0 w91 O58) h14 Fr.lt) (Vb.mono (F:=Fr 0 w91 O58) h78 Fr.lt) e94) rfl rfl fun v99 w95 O96 S97 h98=>?_
  obtain rfl:=h98.bool
  cases q93
  case false =>
   replace hf61:=iF hf61
   refine o_z ?_
   refine Aj rfl (Am ?_)
   obtain rfl:=sm hf61
   refine (?_:Exists _)
   replace hB:=(hB.st S92).st S97
   replace h8:=(h8.st S92).st S97
   replace h11:=(h11.st S92).st S97
   replace h14:=h14.st S97
   replace h17:=(h17.st S92).st S97
   replace h24:=h24.st S97
   replace h30:=(h30.st S92).st S97
   replace h68:=h68.st S97
   exact ⟨_,(),rfl,⟨rfl,rfl,rfl,rfl,rfl,rfl,trivial⟩,_,hB,h24,h8,h11,h14,h17,h68,h30⟩
  replace hf61:=iT hf61
  refine o_z ?_
  refine Ar rfl (Ae (o_mv rfl rfl (o_mv rfl rfl ?_)))
  obtain ⟨a100,e101,hf61⟩:=bs hf61
  replace h68:=h68.st S97
  obtain ⟨b102,o103,ce104,hA105,hl106,hd107,rfl,r109⟩:=h68.elem e101
  refine o_iaE (hA:=hA105) (hj:=rfl) (hlt:=hl106) rfl rfl rfl ?_
  refine CG rfl h68 (a:=0) (vInt (show inI64 (0) from by decide)) hA105 rfl rfl (AJ e101) fun w110 S111 h68=>?_
  refine o_z ?_
  obtain rfl:=sm hf61
  refine (?_:Exists _)
  replace hB:=((hB.st S92).st S97).st S111
  replace h8:=((h8.st S92).st S97).st S111
  replace h11:=((h11.st S92).st S97).st S111
  replace h14:=(h14.st S97).st S111
  replace h17:=((h17.st S92).st S97).st S111
  replace h24:=(h24.st S97).st S111
  replace h30:=((h30.st S92).st S97).st S111
  exact ⟨_,(),rfl,⟨rfl,rfl,rfl,rfl,rfl,rfl,trivial⟩,_,hB,h24,h8,h11,h14,h17,h68,h30⟩
 replace hB:=((hB.st S23).st S29).st S46
 replace h8:=(h8.st S29).st S46
 replace h11:=((h11.st S23).st S29).st S46
 replace h14:=((h14.st S23).st S29).st S46
 replace h17:=((h17.st S23).st S29).st S46
 replace h24:=(h24.st S29).st S46
 rintro l112 w113 ⟨s116,x117,rfl,hs115,O114,hB,h24,h8,h11,h14,h17,h68⟩
 replace hm:=AY hm
 refine AP _ hs115 ?_
 refine Ah (Ae (o_la (hl:=rfl) (hc:=(h24.1).cellsAt) rfl rfl ?_))
 obtain ⟨q118,e119,hm⟩:=bs hm
 refine CY (O:=O114) (R:=fun w' F v=>Vb w' F v q118) (KF Fr.lt (Vb.ofAgg (cs:=[(.slice A9 x0.vars.length c10),(.slice A12 x0.init.length c13),(.slice A15 x0.goal.length c16),(.slice A18 x0.ops.length c19)]) (x:=x0) rfl ⟨_,_,_,_,rfl,h8,h11,h14,h17⟩) e119) rfl rfl fun v124 w120 O121 S122 h123=>?_
 obtain ⟨A125,c126,rfl⟩:=h123.form
 refine o_as rfl rfl (o_z ?_)
 refine Ah (Ah (Ae (o_as rfl rfl (o_z ?_))))
 obtain ⟨res127,hL128,hm⟩:=bs hm
 refine AN (aft res127 (fun (s129:(List Int)×Bool) (x130:Unit)=>[(6,(.slice (some ⟨g43,0,none⟩) u36.length m38))]) (fun s129 x130 w'=>∃ O':Lab,Bs w A w' O'∧Rw 3 w' O' 3 (.slice (some ⟨g43,0,none⟩) u36.length m38) s129.1)) ?_ ?_
 ·
  refine Al ?_
  replace hB:=hB.st S122
  replace h8:=h8.st S122
  replace h11:=h11.st S122
  replace h14:=h14.st S122
  replace h17:=h17.st S122
  replace h24:=h24.st S122
  replace h68:=h68.st S122
  refine EX (σ:=(List Int)×Bool) (X:=Unit) hL128 (fun (s129:(List Int)×Bool) (x130:Unit)=>[(1,(.slice none 0 0)),(2,(.pointer (some ⟨g20,0,none⟩))),(6,(.slice (some ⟨g43,0,none⟩) u36.length m38)),(9,(.slice A125 q118.length c126)),(10,(.bool s129.2))]) _ (fun s129 x130 w'=>∃ O':Lab,Bs w A w' O'∧Lc 2 w' O' g20 26 [(.slice A9 x0.vars.length c10),(.slice A12 x0.init.length c13),(.slice A15 x0.goal.length c16),(.slice A18 x0.ops.length c19)]∧Vb w' (Fr 0 w' O') (.slice A9 x0.vars.length c10) x0.vars∧Vb w' (Fr 0 w' O') (.slice A12 x0.init.length c13) x0.init∧Vb w' (Fr 0 w' O') (.slice A15 x0.goal.length c16) x0.goal∧Vb w' (Fr 0 w' O') (.slice A18 x0.ops.length c19) x0.ops∧Rw 3 w' O' 3 (.slice (some ⟨g43,0,none⟩) u36.length m38) s129.1∧Vb w' (Fr 0 w' O') (.slice A125 q118.length c126) q118) _ () ⟨O121,hB,h24,h8,h11,h14,h17,h68,h123⟩ ⟨rfl,rfl,rfl,rfl,rfl,trivial⟩ ?_
  rintro s129 x130 w133 cc135 ⟨O134,hB,h24,h8,h11,h14,h17,h144,h123⟩ hf137 hret138 hbrk139
  refine Ah (Ah (Ae (o_mv rfl rfl (o_z ?_))))
  refine Cm rfl (fun c146=>?_) (fun c146=>?_)
  ·
   replace hf137:=ip hf137 c146
   refine Am (Al (Ah (Ae (o_as rfl rfl (o_z ?_)))))
   refine Ah (Ae (o_mv rfl rfl (o_ln rfl rfl ?_)))
   have l148:q118.length≤9223372036854775807:=Nat.le_trans h123.len.2.1 h123.len.2.2
   have r147:inI64 (q118.length:Int):=rngNat l148
   refine o_mv rfl rfl (o_z ?_)
   obtain ⟨res149,hL150,hf137⟩:=bs hf137
   refine AN (aft res149 (fun (s151:(List Int)×Bool) (x152:Unit)=>[(1,(.slice none 0 0)),(2,(.pointer (some ⟨g20,0,none⟩))),(6,(.slice (some ⟨g43,0,none⟩) u36.length m38)),(9,(.slice A125 q118.length c126)),(10,(.bool s151.2))]) (fun s151 x152 w'=>∃ O':Lab,Bs w A w' O'∧Lc 2 w' O' g20 26 [(.slice A9 x0.vars.length c10),(.slice A12 x0.init.length c13),(.slice A15 x0.goal.length c16),(.slice A18 x0.ops.length c19)]∧Vb w' (Fr 0 w' O') (.slice A9 x0.vars.length c10) x0.vars∧Vb w' (Fr 0 w' O') (.slice A12 x0.init.length c13) x0.init∧Vb w' (Fr 0 w' O') (.slice A15 x0.goal.length c16) x0.goal∧Vb w' (Fr 0 w' O') (.slice A18 x0.ops.length c19) x0.ops∧Rw 3 w' O' 3 (.slice (some ⟨g43,0,none⟩) u36.length m38) s151.1∧Vb w' (Fr 0 w' O') (.slice A125 q118.length c126) q118)) ?_ ?_
   ·
    refine Al (BD (σ:=(List Int)×Bool) (X:=Unit) (q118.length) hL150 rfl l148 (fun (s151:(List Int)×Bool) (x152:Unit)=>[(1,(.slice none 0 0)),(2,(.pointer (some ⟨g20,0,none⟩))),(6,(.slice (some ⟨g43,0,none⟩) u36.length m38)),(9,(.slice A125 q118.length c126)),(10,(.bool s151.2)),(41,(.slice A125 q118.length c126))]) _ (fun s151 x152 w'=>∃ O':Lab,Bs w A w' O'∧Lc 2 w' O' g20 26 [(.slice A9 x0.vars.length c10),(.slice A12 x0.init.length c13),(.slice A15 x0.goal.length c16),(.slice A18 x0.ops.length c19)]∧Vb w' (Fr 0 w' O') (.slice A9 x0.vars.length c10) x0.vars∧Vb w' (Fr 0 w' O') (.slice A12 x0.init.length c13) x0.init∧Vb w' (Fr 0 w' O') (.slice A15 x0.goal.length c16) x0.goal∧Vb w' (Fr 0 w' O') (.slice A18 x0.ops.length c19) x0.ops∧Rw 3 w' O' 3 (.slice (some ⟨g43,0,none⟩) u36.length m38) s151.1∧Vb w' (Fr 0 w' O') (.slice A125 q118.length c126) q118) _ () ⟨O134,hB,h24,h8,h11,h14,h17,h144,h123⟩ ⟨rfl,rfl,rfl,rfl,rfl,rfl,rfl,rfl,trivial⟩ (fun _ _=>⟨rfl,rfl⟩) (fun _ _=>⟨rfl,rfl,rfl,rfl,rfl,trivial⟩) (fun _ _ _ ⟨O',hB,h24,h8,h11,h14,h17,h166,h123⟩=>⟨O',hB,h24,h8,h11,h14,h17,h166,h123⟩) ⟨rfl,rfl,rfl⟩ ⟨rfl,rfl⟩ ?_)
    rintro k153 a154 s151 x152 w155 cc157 hx158 ⟨O156,hB,h24,h8,h11,h14,h17,h166,h123⟩ hf159 hret160 hbrk161
    have rk153:inI64 (k153:Int):=rngK hx158 l148
    refine Ah (Ae ?_)
    obtain ⟨b168,o169,ce170,hA171,hl172,hd173,rfl,r175,r176,r177⟩:=h123.elem' hx158
    refine o_iaE (hA:=hA171) (hj:=rfl) (hlt:=hl172) rfl rfl rfl ?_
    refine o_la (hl:=rfl) (hc:=hd173) rfl rfl ?_
    refine BJ 4 O156 rfl fun g178 w179 O180 S181 h182=>?_
    refine AQ h182 rfl rfl rfl (Nat.le_of_ble_eq_true rfl) (by first|exact allOne rfl|simp [Value.cells,Value.oneCell',AM]) fun w183 S184 h182=>?_
    replace h182:Lc 4 w183 O180 g178 122 [(.int .i64 a154.src),(.int .i64 a154.op),(.int .i64 a154.dst)]:=h182
    refine o_z ?_
    refine Ah (Ae (o_fa rfl rfl ?_))
    replace h24:=(h24.st S181).st S184
    refine o_ld (hc:=Blk.cell (i:=3) (h24.1) rfl) rfl rfl ?_
    refine o_fa rfl rfl (o_ld (hc:=Blk.cell (i:=1) (h182.1) rfl) rfl rfl ?_)
    obtain ⟨a185,e186,hf159⟩:=bs hf159
    obtain ⟨p188,x187⟩:=AO e186
    replace h17:=(h17.st S181).st S184
    obtain ⟨b189,o190,ce191,hA192,hl193,hd194,v196,v197,rfl,h198,h201,r204,z205⟩:=h17.elem' x187
    obtain ⟨A199,c200,rfl⟩:=h198.form
    obtain ⟨A202,c203,rfl⟩:=h201.form
    refine o_iaE (hA:=hA192) (hj:=(Int.toNat_of_nonneg p188).symm) (hlt:=hl193) rfl rfl rfl ?_
    refine o_fa rfl rfl (o_ld (hc:=cat1 hd194) rfl rfl ?_)
    refine o_as rfl rfl (o_z ?_)
    refine Ah (Ah (Ae (o_mv rfl rfl (o_sq rfl rfl ?_))))
    refine o_z ?_
    refine Aj rfl (Am (Ah ?_))
    obtain ⟨y206,hy207,hf159⟩:=bs hf159
    refine AN (fun l' w'=>∃ (x209:Unit) (O':Lab),subs l' [(1,(.slice none 0 0)),(2,(.pointer (some ⟨g20,0,none⟩))),(6,(.slice (some ⟨g43,0,none⟩) u36.length m38)),(9,(.slice A125 q118.length c126)),(10,(.bool s151.2)),(12,(.pointer (some ⟨g178,0,none⟩))),(13,(.int .i64 a185.cost)),(41,(.slice A125 q118.length c126)),(42,(.int .i64 (q118.length:Int))),(43,(.int .i64 (k153:Int))),(81,(.bool y206))]∧Bs w A w' O'∧Lc 2 w' O' g20 26 [(.slice A9 x0.vars.length c10),(.slice A12 x0.init.length c13),(.slice A15 x0.goal.length c16),(.slice A18 x0.ops.length c19)]∧Vb w' (Fr 0 w' O') (.slice A9 x0.vars.length c10) x0.vars∧Vb w' (Fr 0 w' O') (.slice A12 x0.init.length c13) x0.init∧Vb w' (Fr 0 w' O') (.slice A15 x0.goal.length c16) x0.goal∧Vb w' (Fr 0 w' O') (.slice A18 x0.ops.length c19) x0.ops∧Rw 3 w' O' 3 (.slice (some ⟨g43,0,none⟩) u36.length m38) s151.1∧Vb w' (Fr 0 w' O') (.slice A125 q118.length c126) q118∧Lc 4 w' O' g178 122 [(.int .i64 a154.src),(.int .i64 a154.op),(.int .i64 a154.dst)]) ?_ ?_
    ·
     refine BV (·=w183) [(0,true),(1,true),(2,true),(3,true),(4,true),(5,true),(6,true),(7,true),(8,true),(9,true),(10,true),(11,true),(12,true),(13,true),(14,true),(15,true),(16,true),(17,true),(18,true),(19,true),(20,true)] (by kernel_rfl) rfl (by kernel_rfl) rfl ?_
     refine h_mv rfl rfl rfl (h_fa rfl rfl rfl (h_ldA (hc:=Blk.cell (i:=2) (h182.1) rfl) rfl rfl rfl ?_))
     obtain ⟨a210,e211,hy207⟩:=bs hy207
     obtain ⟨p213,x212⟩:=AO e211
     replace h166:=(h166.st S181).st S184
     obtain ⟨b214,o215,ce216,hA217,hl218,hd219,rfl,r221⟩:=h166.elem x212
     refine h_iaE (hA:=hA217) (hj:=(Int.toNat_of_nonneg p213).symm) (hlt:=hl218) rfl rfl rfl rfl ?_
     refine h_ldA (hc:=cat0 hd219) rfl rfl rfl ?_
     refine h_ltS rfl rfl rfl rfl (fun c222=>?_) fun c222=>?_
     ·
      replace hy207:=ip hy207 c222
      refine h_mv rfl rfl rfl (hwp_o rfl (AD rfl rfl (g_mv rfl rfl (hwp_o rfl (AD rfl rfl (g_fa rfl rfl (hwp_o rfl (AD rfl rfl (g_ldA (hc:=Blk.cell (i:=2) (h182.1) rfl) rfl rfl ?_)))))))))
      refine hwp_o rfl (AD rfl rfl ?_)
      obtain ⟨a223,e224,hy207⟩:=bs hy207
      obtain ⟨p226,x225⟩:=AO e224
      obtain ⟨b227,o228,ce229,hA230,hl231,hd232,rfl,r234⟩:=h166.elem x225
      refine g_iaE (hA:=hA230) (hj:=(Int.toNat_of_nonneg p226).symm) (hlt:=hl231) rfl rfl rfl ?_
      refine hwp_o rfl (AD rfl rfl (g_ldA (hc:=cat0 hd232) rfl rfl ?_))
      refine hwp_o rfl (AD rfl rfl (g_mv rfl rfl (hwp_o rfl (AD rfl rfl ?_))))
      obtain ⟨n235,e236,hy207⟩:=bs hy207
      have r237:=(AW e236)
      refine g_adE (he:=e236) rfl rfl rfl ?_
      refine hwp_o rfl (AD rfl rfl (g_mv rfl rfl (hwp_o rfl (AD rfl rfl (g_fa rfl rfl (hwp_o rfl (AD rfl rfl (g_ldA (hc:=Blk.cell (i:=0) (h182.1) rfl) rfl rfl ?_))))))))
      refine hwp_o rfl (AD rfl rfl ?_)
      obtain ⟨a238,e239,hy207⟩:=bs hy207
      obtain ⟨p241,x240⟩:=AO e239
      obtain ⟨b242,o243,ce244,hA245,hl246,hd247,rfl,r249⟩:=h166.elem x240
      refine g_iaE (hA:=hA245) (hj:=(Int.toNat_of_nonneg p241).symm) (hlt:=hl246) rfl rfl rfl ?_
      refine hwp_o rfl (AD rfl rfl (g_ldA (hc:=cat0 hd247) rfl rfl ?_))
      refine hwp_o rfl (AD rfl rfl (AS (fun _ _=>Ce rfl rfl) rfl (fun c250=>?_) (fun c250=>?_)))
      ·
       replace hy207:=ip hy207 c250
       refine h_pt rfl rfl rfl rfl (h_z ?_)
       obtain rfl:=sm hy207
       replace hB:=(hB.st S181).st S184
       replace h8:=(h8.st S181).st S184
       replace h11:=(h11.st S181).st S184
       replace h14:=(h14.st S181).st S184
       replace h123:=(h123.st S181).st S184
       exact ⟨(),_,⟨rfl,rfl,rfl,rfl,rfl,rfl,rfl,rfl,rfl,rfl,rfl,trivial⟩,hB,h24,h8,h11,h14,h17,h166,h123,h182⟩
      ·
       replace hy207:=im hy207 c250
       refine h_pt rfl rfl rfl rfl (h_z ?_)
       obtain rfl:=sm hy207
       replace hB:=(hB.st S181).st S184
       replace h8:=(h8.st S181).st S184
       replace h11:=(h11.st S181).st S184
       replace h14:=(h14.st S181).st S184
       replace h123:=(h123.st S181).st S184
       exact ⟨(),_,⟨rfl,rfl,rfl,rfl,rfl,rfl,rfl,rfl,rfl,rfl,rfl,trivial⟩,hB,h24,h8,h11,h14,h17,h166,h123,h182⟩
     ·
      replace hy207:=im hy207 c222
      refine h_mv rfl rfl rfl (h_no rfl rfl rfl rfl rfl (h_no rfl rfl rfl rfl rfl (h_no rfl rfl rfl rfl rfl (h_no rfl rfl rfl rfl rfl (h_no rfl rfl rfl rfl rfl (h_no rfl rfl rfl rfl rfl (h_no rfl rfl rfl rfl rfl (h_no rfl rfl rfl rfl rfl (h_no rfl rfl rfl rfl rfl (h_no rfl rfl rfl rfl rfl (h_no rfl rfl rfl rfl rfl (h_no rfl rfl rfl rfl rfl (h_no rfl rfl rfl rfl rfl (h_pf rfl rfl rfl rfl ?_))))))))))))))
      refine h_z ?_
      obtain rfl:=sm hy207
      replace hB:=(hB.st S181).st S184
      replace h8:=(h8.st S181).st S184
      replace h11:=(h11.st S181).st S184
      replace h14:=(h14.st S181).st S184
      replace h123:=(h123.st S181).st S184
      exact ⟨(),_,⟨rfl,rfl,rfl,rfl,rfl,rfl,rfl,rfl,rfl,rfl,rfl,trivial⟩,hB,h24,h8,h11,h14,h17,h166,h123,h182⟩
    replace hB:=(hB.st S181).st S184
    replace h8:=(h8.st S181).st S184
    replace h11:=(h11.st S181).st S184
    replace h14:=(h14.st S181).st S184
    replace h123:=(h123.st S181).st S184
    replace h166:=(h166.st S181).st S184
    rintro l251 w252 ⟨x209,O253,hs254,hB,h24,h8,h11,h14,h17,h166,h123,h182⟩
    refine AP _ hs254 ?_
    refine Cm rfl (fun c255=>?_) (fun c255=>?_)
    ·
     replace hf159:=ip hf159 c255
     refine Ah (Bt [] O253 ?_)
     refine x_pre (fuel:=1) [] [(0,true),(1,true),(2,true),(3,true),(4,true),(5,true),(6,true),(7,true),(8,true),(9,true),(10,true)] (by kernel_rfl) rfl ?_
     refine h_mv rfl rfl rfl (h_fa rfl rfl rfl (h_ldC (hc:=fun w' ⟨O',hq⟩=>Blk.cell (i:=0) ((h182.st hq (by decide)).1) rfl) rfl rfl rfl ?_))
     refine h_mv rfl rfl rfl (h_fa rfl rfl rfl (h_ldC (hc:=fun w' ⟨O',hq⟩=>Blk.cell (i:=2) ((h182.st hq (by decide)).1) rfl) rfl rfl rfl ?_))
     obtain ⟨a256,e257,hf159⟩:=bs hf159
     obtain ⟨p259,x258⟩:=AO e257
     obtain ⟨b260,o261,ce262,hA263,hF266,hl264,hd265,rfl,r267⟩:=h166.elemF x258
     refine h_iaE (hA:=hA263) (hj:=(Int.toNat_of_nonneg p259).symm) (hlt:=hl264) rfl rfl rfl rfl ?_
     refine h_ldC (hc:=fun w' ⟨O',hq⟩=>cat0 (Bd (hq.agree (i:=3) (by decide)) hF266 hd265)) rfl rfl rfl ?_
     refine h_mv rfl rfl rfl ?_
     obtain ⟨n268,e269,hf159⟩:=bs hf159
     have r270:=(AW e269)
     refine h_adE (he:=e269) rfl rfl rfl rfl ?_
     obtain ⟨a271,e272,hf159⟩:=bs hf159
     obtain ⟨p274,x273⟩:=AO e272
     obtain ⟨b275,o276,ce277,hA278,hF281,hl279,hd280,rfl,r282⟩:=h166.elemF x273
     refine h_iaE (hA:=hA278) (hj:=(Int.toNat_of_nonneg p274).symm) (hlt:=hl279) rfl rfl rfl rfl ?_
     refine AK ?_
     refine x_one (i:=11) (by kernel_rfl) rfl ?_
     refine CG rfl h166 (a:=n268) (vInt r270) hA278 rfl rfl (AJ x273) fun w283 S284 h166=>?_
     refine x_end (by kernel_rfl) ?_
     refine x_nil (by kernel_rfl) ?_
     refine Ae (o_as rfl rfl (o_z ?_))
     obtain rfl:=sm hf159
     refine (?_:Exists _)
     replace hB:=hB.st S284
     replace h8:=h8.st S284
     replace h11:=h11.st S284
     replace h14:=h14.st S284
     replace h17:=h17.st S284
     replace h24:=h24.st S284
     replace h123:=h123.st S284
     exact ⟨_,(),rfl,⟨rfl,rfl,rfl,rfl,rfl,rfl,rfl,rfl,trivial⟩,_,hB,h24,h8,h11,h14,h17,h166,h123⟩
    ·
     replace hf159:=im' hf159 c255
     refine Am ?_
     obtain rfl:=sm hf159
     refine (?_:Exists _)
     exact ⟨_,(),rfl,⟨rfl,rfl,rfl,rfl,rfl,rfl,rfl,rfl,trivial⟩,_,hB,h24,h8,h11,h14,h17,h166,h123⟩
   rintro l285 w286 ⟨s289,x290,rfl,hs288,O287,hB,h24,h8,h11,h14,h17,h166,h123⟩
   replace hf137:=AY hf137
   obtain rfl:=sm hf137
   refine (?_:Exists _)
   exact ⟨_,(),rfl,⟨(Bw hs288 _ _ rfl),(Bw hs288 _ _ rfl),(Bw hs288 _ _ rfl),(Bw hs288 _ _ rfl),(Bw hs288 _ _ rfl),trivial⟩,_,hB,h24,h8,h11,h14,h17,h166,h123⟩
  ·
   replace hf137:=im' hf137 c146
   refine At ?_
   obtain rfl:=sm hf137
   refine (?_:Exists _)
   exact ⟨_,(),hbrk139 _ rfl,⟨rfl,trivial⟩,_,hB,h144⟩
 replace hB:=hB.st S122
 rintro l291 w292 ⟨s295,x296,rfl,hs294,O293,hB,h144⟩
 replace hm:=AY hm
 refine AP _ hs294 ?_
 refine Ah (Ae (o_mv rfl rfl (o_as rfl rfl (o_z ?_))))
 refine Au ?_
 obtain ⟨O297,S298,h144⟩:=h144.freeze
 obtain rfl:=sm hm
 replace hB:=hB.st S298
 exact ret1v rfl (AG rfl) ⟨hB.ext,(Vb.mono (F:=Fr 0 w292 O297) h144 hB.out)⟩
end
section
section
variable {α σ ρ : Type}
theorem fin_d {s:σ} {f:σ→Option ρ}:fin (.done s) f=f s:=rfl
theorem if_t {x y:α}:(if true=true then x else y)=x:=rfl
theorem if_f {x y:α}:(if false=true then x else y)=y:=rfl
theorem HL {f:Nat→α→σ→Option (Ctl σ ρ)} {I:Nat→σ→Prop} {R:ρ→Prop}:∀ (ys:List α) (j:Nat) (s:σ),I j s →
    (∀ k x s,ys[k]?=some x→I (j + k) s→(∃ s',f (j + k) x s=some (.next s')∧I (j + k + 1) s')∨(∃ r,f (j + k) x s=some (.ret r)∧R r)) →
    (∃ s',rng f ys j s=some (.done s')∧I (j + ys.length) s')∨∃ r,rng f ys j s=some (.ret r)∧R r
  | [],j,s,h0,_=>.inl ⟨s,rfl,h0⟩
  | y :: ys,j,s,h0,h=>by
    rcases h 0 y s rfl h0 with ⟨s',h1,h2⟩|⟨r,h1,h2⟩
    · have h1':f j y s=some (.next s'):=h1
      simp only [rng,h1']
      rcases HL (I:=I) (R:=R) ys (j + 1) s' h2 (fun k x s hk hI=>by
        have:=h (k + 1) x s (by simpa using hk) (by rwa [show j + (k + 1)=j + 1 + k from by omega])
        rwa [show j + (k + 1)=j + 1 + k from by omega] at this) with ⟨s2,h3,h4⟩|h3
      · exact .inl ⟨s2,h3,by rw [List.length_cons,show j + (ys.length + 1)=j + 1 + ys.length from by omega];exact h4⟩
      · exact .inr h3
    · have h1':f j y s=some (.ret r):=h1
      simp only [rng,h1']
      exact .inr ⟨r,rfl,h2⟩
theorem Od {f:Nat→α→σ→Option (Ctl σ ρ)} {xs:List α} {s₀:σ} (I:Nat→σ→Prop) (R:ρ→Prop) (h0:I 0 s₀)
    (h:∀ k x s,xs[k]?=some x→I k s→(∃ s',f k x s=some (.next s')∧I (k + 1) s')∨(∃ r,f k x s=some (.ret r)∧R r)) :
    (∃ s',rng f xs 0 s₀=some (.done s')∧I xs.length s')∨∃ r,rng f xs 0 s₀=some (.ret r)∧R r:=by
  have:=HL (f:=f) (I:=I) (R:=R) xs 0 s₀ h0 (fun k x s hk hI=>by rw [Nat.zero_add] at hI ⊢;exact h k x s hk hI)
  rwa [Nat.zero_add] at this
theorem DP {f:Nat→α→σ→Option (Ctl σ ρ)} {xs:List α} {s₀:σ} (I:Nat→σ→Prop) (h0:I 0 s₀) (h:∀ k x s,xs[k]?=some x→I k s→∃ s',f k x s=some (.next s')∧I (k + 1) s') :
    ∃ s',rng f xs 0 s₀=some (.done s')∧I xs.length s':=by
  rcases Od I (fun _=>False) h0 (fun k x s hk hI=>.inl (h k x s hk hI)) with h|⟨_,_,h⟩
  · exact h
  · exact h.elim
theorem LP {f:Nat→α→σ→Option (Ctl σ ρ)} {xs:List α} (g:Nat→σ) (h:∀ k x,xs[k]?=some x→f k x (g k)=some (.next (g (k + 1)))):rng f xs 0 (g 0)=some (.done (g xs.length)):=by
  obtain ⟨s',h1,h2⟩:=DP (f:=f) (xs:=xs) (s₀:=g 0) (fun k s=>s=g k) rfl (fun k x s hk hI=>⟨_,by rw [hI];exact h k x hk,rfl⟩)
  rw [h1,h2]
theorem DY {f:Nat→α→σ→Option (Ctl σ ρ)} {xs:List α} {s₀:σ} (g:Nat→σ) (h0:s₀=g 0) (h:∀ k x,xs[k]?=some x→f k x (g k)=some (.next (g (k + 1)))):rng f xs 0 s₀=some (.done (g xs.length)):=by
  rw [h0];exact LP g h
theorem Nw {f:Nat→σ→Option (Ctl σ ρ)} {N:Nat} (g:Nat→σ) (h:∀ k,k < N→f k (g k)=some (.next (g (k + 1)))):rngN f N (g 0)=some (.done (g N)):=by
  have:=LP (f:=fun _ k s=>f k s) (xs:=List.range N) g (fun k x hk=>by
    obtain ⟨hlt,rfl⟩:=List.getElem?_eq_some_iff.1 hk
    simpa using h k (by simpa using hlt))
  rwa [List.length_range] at this
theorem HN {f:Nat→σ→Option (Ctl σ ρ)} {N:Nat} {s₀:σ} (g:Nat→σ) (h0:s₀=g 0) (h:∀ k,k < N→f k (g k)=some (.next (g (k + 1)))):rngN f N s₀=some (.done (g N)):=by
  rw [h0];exact Nw g h
theorem Nx {f:Nat→σ→Option (Ctl σ ρ)} {N:Nat} {s₀:σ} (I:Nat→σ→Prop) (h0:I 0 s₀) (h:∀ k s,k < N→I k s→∃ s',f k s=some (.next s')∧I (k + 1) s') :
    ∃ s',rngN f N s₀=some (.done s')∧I N s':=by
  have:=DP (f:=fun _ k s=>f k s) (xs:=List.range N) (s₀:=s₀) I h0 (fun k x s hk hI=>by
    obtain ⟨hlt,rfl⟩:=List.getElem?_eq_some_iff.1 hk
    simpa using h k s (by simpa using hlt) hI)
  rwa [List.length_range] at this
end
end
section
open Go Go.RowKit
theorem MS {vars:List Int} (h0:∀ (i:Nat) n,vars[i]?=some n→0≤n∧n≤64) (hb:∀ k,(statesL (vars.take k)).length≤1000000) (hvn:vars.length≤1000):CQ vars=some (statesL vars):=by
  unfold CQ
  rw [DY (fun k=>statesL (vars.take k)) ?_ ?_]
  · rw [AA,fin_d,List.take_length]
  · rfl
  intro k n hn
  obtain ⟨N,rfl⟩:=Int.eq_ofNat_of_zero_le (h0 k n hn).1
  have hN:=(h0 k _ hn).2
  have hk:=AJ hn
  have hlen:=hb k
  rw [DY (fun i=>((statesL (vars.take k)).take i).flatMap (exts N)) ?_ ?_]
  · rw [AA,fin_d,List.take_length,Dw hn];rfl
  · rfl
  intro i s hs
  have hsl:=Lr vars k (by omega) s (List.mem_of_getElem? hs)
  have hfl:=Fk N ((statesL (vars.take k)).take i)
  have hfl2:((statesL (vars.take k)).take i).length * N≤1000000 * 64:=Nat.mul_le_mul (by rw [List.length_take];omega) (by omega)
  rw [NP,AA,HN (fun x=>((statesL (vars.take k)).take i).flatMap (exts N) ++ exts x s) ?_ ?_]
  · rw [AA,fin_d,MR _ hs]
  · simp [exts]
  intro x hx
  rw [BR (by simp;omega) (by simp;omega),AA,BR (by simp;omega) (by simp;omega),AA,BR (by simp only [List.length_append,EY,List.length_singleton];omega) (by simp only [List.length_append,EY,List.length_singleton];omega),AA,MQ]
  simp
theorem HO {t:Tsk} (h:Mid t):CQ t.vars=some (statesL t.vars) :=
  MS (fun i n hn=>by have:=h.ok.vars i n hn;omega) (fun k=>by have:=h.states k;omega) (by have:=h.ok.1;omega)
end
section
open Go Go.RowKit
theorem GT (f:List Fct) (s:List Int):Da f s=some (holdsB f s):=rfl
theorem KG {ρ:Type} {s:List Int} {effs:List Eff} (he:EffsIn s effs) (m:List Fct→List Int→Option Bool) (hm:∀ f s,m f s=some (holdsB f s)) (u:List Int) (hu:u.length=s.length) :
    rng (ρ:=ρ) (fun (_:Nat) (e:Eff) (out:List Int)=>bnd (m e.cond s) fun q=>if q=true then bnd (atI out e.var) fun _=>some (.next (out.set (e.var).toNat e.val)) else some (.next out)) effs 0 u=some (.done (effsOn s effs u)):=by
  rw [DY (fun k=>effsOn s (effs.take k) u) ?_ ?_,List.take_length]
  · rfl
  intro k e hk
  rw [hm,AA,Lm s hk]
  have hin:=he k e hk
  have hl:=Eu s (effs.take k) u
  by_cases hb:holdsB e.cond s=true
  · rw [if_pos hb,if_pos hb]
    obtain ⟨j,hj⟩:=Int.eq_ofNat_of_zero_le hin.1
    rw [hj,Bk,List.getElem?_eq_getElem (by omega),AA]
  · rw [if_neg hb,if_neg hb]
theorem Ny {t:Tsk} {s:List Int} {j:Nat} {o:Opr} (ho:t.ops[j]?=some o) (hp:holdsB o.pre s=true) (hl:s.length≤1000000) (he:EffsIn s o.effs):Cw t s (j:Int)=some (succ o s,true):=by
  have hj:=AJ ho
  unfold Cw
  rw [if_neg (by omega),if_neg (by omega),Bk,ho,AA,GT,AA,hp,if_t,AA,if_f,BR (by simp;omega) (by simp;omega),AA,AA,List.nil_append,KG he Da GT s rfl,AA,fin_d]
  rfl
theorem JT {vars s:List Int}:∀ (l:List Eff),(∀ e∈l,EffOk vars e)→∀ (u:List Int),StateOk vars u→StateOk vars (effsOn s l u)
  | [],_,_,hu=>hu
  | e :: l,he,u,hu=>by
    refine JT l (fun e' h'=>he e' (List.mem_cons_of_mem _ h')) _ ?_
    split
    · obtain ⟨_,h1,h2,y,hy,h3⟩:=he e List.mem_cons_self
      refine ⟨by rw [List.length_set];exact hu.1,fun i x n hx hn=>?_⟩
      rw [List.getElem?_set] at hx
      by_cases hi:e.var.toNat=i
      · subst hi
        rw [if_pos rfl] at hx
        split at hx
        · obtain rfl:=Option.some.inj hx
          simp only at hy h2 h3
          rw [hy] at hn
          obtain rfl:=Option.some.inj hn
          exact ⟨h2,h3⟩
        · cases hx
      · rw [if_neg hi] at hx
        exact hu.2 i x n hx hn
    · exact hu
theorem If {t:Tsk} (h:TaskOk t) {s:List Int} (hs:StateOk t.vars s) {k:Nat} {o:Opr} (ho:t.ops[k]?=some o):StateOk t.vars (succ o s) :=
  JT o.effs (fun e he=>by obtain ⟨j,hj⟩:=List.getElem?_of_mem he;exact (h.2.2.2.2.2 k o ho).2.2.2.2.2 j e hj) s hs
theorem MT {t:Tsk} (h:TaskOk t) {s:List Int} (hs:StateOk t.vars s) {k:Nat} {o:Opr} (ho:t.ops[k]?=some o):Cw t s (k:Int)=some (if holdsB o.pre s=true then (succ o s,true) else ([],false)):=by
  have hk:=AJ ho
  by_cases hp:holdsB o.pre s=true
  · rw [Ny ho hp (by have:=hs.1;have:=h.1;omega) (h.effs hs k o ho),if_pos hp]
  · unfold Cw
    rw [if_neg (by omega),if_neg (by omega),Bk,ho,AA,GT,AA,if_neg hp,if_neg hp,AA,if_t]
theorem II {n:Nat} (hn:0 < n):∀ (l:List (List Int)) (q:Nat),(l.flatMap (exts n))[q]?=(l[q / n]?).map (· ++ [((q % n:Nat):Int)])
  | [],q=>by simp
  | a :: l,q=>by
    rw [List.flatMap_cons]
    by_cases hq:q < n
    · rw [List.getElem?_append_left (by rw [EY];exact hq),Nat.div_eq_of_lt hq,Nat.mod_eq_of_lt hq]
      simp [exts,hq]
    · rw [List.getElem?_append_right (by rw [EY];omega),EY,II hn l (q - n)]
      obtain ⟨r,rfl⟩:∃ r,q=r + n:=⟨q - n,by omega⟩
      rw [Nat.add_sub_cancel,Nat.add_div_right _ hn,Nat.add_mod_right]
      simp
theorem Jj {vars:List Int} (hv:∀ (i:Nat) n,vars[i]?=some n→1≤n):∀ (k:Nat),k≤vars.length→∀ (i j:Nat) (s:List Int),(statesL (vars.take k))[i]?=some s→(statesL (vars.take k))[j]?=some s→i=j
  | 0,_,i,j,s,h1,h2=>by
    have e1:=AJ h1
    have e2:=AJ h2
    simp [statesL] at e1 e2
    omega
  | k + 1,hk,i,j,s,h1,h2=>by
    obtain ⟨n,hn⟩:=AH (l:=vars) (k:=k) (by omega)
    have hn1:=hv k n hn
    rw [Dw hn] at h1 h2
    unfold grows at h1 h2
    rw [II (by omega)] at h1 h2
    obtain ⟨p,hp,rfl⟩:=Option.map_eq_some_iff.1 h1
    obtain ⟨p',hp',e⟩:=Option.map_eq_some_iff.1 h2
    obtain ⟨e1,e2⟩:=List.append_inj' e rfl
    subst e1
    have:=Jj hv k (by omega) _ _ _ hp hp'
    have e3:j % n.toNat=i % n.toNat:=by
      have:=List.singleton_inj.1 e2
      omega
    have d1:=Nat.div_add_mod i n.toNat
    have d2:=Nat.div_add_mod j n.toNat
    rw [this,← e3] at d1
    omega
theorem Lu {t:Tsk} (h:TaskOk t) {i j:Nat} {s:List Int} (h1:(statesL t.vars)[i]?=some s) (h2:(statesL t.vars)[j]?=some s):i=j:=by
  have:=Jj (vars:=t.vars) (fun i n hn=>(h.vars i n hn).1) t.vars.length (Nat.le_refl _) i j s
  rw [List.take_length] at this
  exact this h1 h2
theorem JA {t:Tsk} (h:Mid t) {s:List Int} (hs:StateOk t.vars s):∃ i:Nat,CV t.vars s=some (i:Int)∧(statesL t.vars)[i]?=some s:=by
  unfold CV
  obtain ⟨r,h1,i,rfl,h2⟩:=DP (ρ:=Int) (f:=fun (k11:Nat) (a12:Int) (s9:Int)=>bnd (t.vars[k11]?) fun a24=>bnd (chkI (s9 * a24)) fun n34=>bnd (chkI (n34 + a12)) fun n45=>some (.next n45)) (xs:=s) (s₀:=0) (fun k r=>∃ i:Nat,r=(i:Int)∧(statesL (t.vars.take k))[i]?=some (s.take k)) ⟨0,rfl,by simp [statesL]⟩ (fun k x r hk hI=>by
    obtain ⟨i,rfl,hi⟩:=hI
    have hlt:=AJ hk
    obtain ⟨n,hn⟩:=AH (l:=t.vars) (k:=k) (by rw [← hs.1];exact hlt)
    have hn1:=h.ok.vars k n hn
    obtain ⟨hx1,hx2⟩:=hs.2 k x n hk hn
    obtain ⟨x,rfl⟩:=Int.eq_ofNat_of_zero_le hx1
    obtain ⟨n,rfl⟩:=Int.eq_ofNat_of_zero_le (by omega:0≤n)
    have hget:(statesL (t.vars.take (k + 1)))[i * n + x]?=some (s.take (k + 1)):=by
      rw [Dw hn]
      show ((statesL (t.vars.take k)).flatMap (exts ((n:Int)).toNat))[i * n + x]?=_
      rw [show ((n:Int)).toNat=n from by omega,II (by omega)]
      have e1:(i * n + x) / n=i:=by
        rw [Nat.mul_comm,Nat.mul_add_div (by omega),Nat.div_eq_of_lt (by omega)];omega
      have e2:(i * n + x) % n=x:=by
        rw [Nat.mul_comm,Nat.mul_add_mod,Nat.mod_eq_of_lt (by omega)]
      rw [e1,e2,hi,List.take_add_one,hk];rfl
    have hb:=AJ hget
    have hb2:=h.states (k + 1)
    have e3:(i:Int) * (n:Int)=((i * n:Nat):Int):=by simp
    rw [hn,AA,e3,Bl (by unfold inI64;omega),AA,Bl (by unfold inI64;omega),AA]
    exact ⟨_,rfl,i * n + x,by omega,hget⟩)
  rw [List.take_length,hs.1,List.take_length] at h2
  exact ⟨i,by rw [h1,AA,fin_d],h2⟩
def EdgeOk (t:Tsk) (e:Edg):Prop:=∃ (i k j:Nat) (s:List Int) (o:Opr),e=⟨i,k,j⟩∧(statesL t.vars)[i]?=some s∧t.ops[k]?=some o∧holdsB o.pre s=true∧(statesL t.vars)[j]?=some (succ o s)
theorem Nz {t:Tsk} (h:Mid t):∃ es,DX t=some es∧∀ e,e∈es↔EdgeOk t e:=by
  have hlen:(statesL t.vars).length≤600:=by have:=h.states t.vars.length;rwa [List.take_length] at this
  have hops:=h.ops
  have uniq:∀ {i i':Nat} {s:List Int},(statesL t.vars)[i]?=some s→(statesL t.vars)[i']?=some s→i=i':=fun h1 h2=>Lu h.ok h1 h2
  unfold DX
  rw [HO h,AA]
  obtain ⟨es, h1,h2,h3⟩:=DP (ρ:=List Edg) (f:=fun (k38:Nat) (a39:List Int) (s36:(List Edg))=>bnd (rng (ρ:=Ctl (List Edg) (List Edg)) (fun (k70:Nat) (_:Opr) (s68:(List Edg))=>bnd (Cw t a39 (k70:Int)) fun q85=>if q85.2=true then (bnd (CV t.vars q85.1) fun q99=>bnd (appI 24 s68 [(⟨(k38:Int),(k70:Int),q99⟩:Edg)]) fun u107=>some (.next u107)) else (some (.next s68))) t.ops 0 s36) fun res66=>fin res66 fun (s123:(List Edg))=>some (.next s123)) (xs:=statesL t.vars) (s₀:=[])
    (fun n acc=>acc.length≤n * 80∧∀ e,e∈acc↔EdgeOk t e∧e.src < (n:Int)) ⟨by simp,fun e=>⟨fun he=>by simp at he,fun ⟨⟨i,_,_,_,_,hE,_⟩,hlt⟩=>by subst hE;simp only at hlt;omega⟩⟩ (fun n s acc hn hI=>by
      obtain ⟨i1,i2⟩:=hI
      have hnlt:=AJ hn
      have hs:StateOk t.vars s:=Ff.1 (List.mem_of_getElem? hn)
      obtain ⟨es,g1,g2,g3⟩:=DP (ρ:=Ctl (List Edg) (List Edg)) (f:=fun (k70:Nat) (_:Opr) (s68:(List Edg))=>bnd (Cw t s (k70:Int)) fun q85=>if q85.2=true then (bnd (CV t.vars q85.1) fun q99=>bnd (appI 24 s68 [(⟨(n:Int),(k70:Int),q99⟩:Edg)]) fun u107=>some (.next u107)) else (some (.next s68))) (xs:=t.ops) (s₀:=acc)
        (fun m acc'=>acc'.length≤n * 80 + m∧∀ e,e∈acc'↔EdgeOk t e∧(e.src < (n:Int)∨e.src=(n:Int)∧e.op < (m:Int))) ⟨by omega,fun e=>by
          rw [i2]
          constructor
          · rintro ⟨a,b⟩;exact ⟨a,.inl b⟩
          · rintro ⟨a,b|⟨b,c⟩⟩
            · exact ⟨a,b⟩
            · obtain ⟨i,k,j,s',o,rfl,_⟩:=a
              simp at c;omega⟩ (fun m o acc' hm hI=>by
          obtain ⟨j1,j2⟩:=hI
          have hmlt:=AJ hm
          rw [MT h.ok hs hm,AA]
          by_cases hp:holdsB o.pre s=true
          · obtain ⟨r,hr,hr2⟩:=JA h (If h.ok hs hm)
            rw [if_pos hp,if_t,hr,AA,BR (by simp;omega) (by simp;omega),AA]
            refine ⟨_,rfl,by simp;omega,fun e=>?_⟩
            rw [List.mem_append,j2]
            constructor
            · rintro (⟨a,b⟩|hmem)
              · refine ⟨a,?_⟩
                rcases b with b|⟨b,c⟩
                · exact .inl b
                · exact .inr ⟨b,by omega⟩
              · obtain rfl:e=⟨(n:Int),(m:Int),(r:Int)⟩:=by simpa using hmem
                exact ⟨⟨n,m,r,s,o,rfl,hn,hm,hp,hr2⟩,.inr ⟨rfl,by simp;omega⟩⟩
            · rintro ⟨a,b⟩
              obtain ⟨i,k,j,s',o',rfl,a1,a2,a3,a4⟩:=a
              simp only at b
              by_cases hc:i=n∧k=m
              · obtain ⟨rfl,rfl⟩:=hc
                obtain rfl:s'=s:=by rw [hn] at a1;exact (Option.some.inj a1).symm
                obtain rfl:o'=o:=by rw [hm] at a2;exact (Option.some.inj a2).symm
                obtain rfl:=uniq a4 hr2
                exact .inr (by simp)
              · exact .inl ⟨⟨i,k,j,s',o',rfl,a1,a2,a3,a4⟩,by simp only;omega⟩
          · rw [if_neg hp]
            refine ⟨_,if_neg (by simp),by omega,fun e=>?_⟩
            rw [j2]
            constructor
            · rintro ⟨a,b⟩
              refine ⟨a,?_⟩
              rcases b with b|⟨b,c⟩
              · exact .inl b
              · exact .inr ⟨b,by omega⟩
            · rintro ⟨a,b⟩
              obtain ⟨i,k,j,s',o',rfl,a1,a2,a3,a4⟩:=a
              simp only at b
              by_cases hc:i=n∧k=m
              · obtain ⟨rfl,rfl⟩:=hc
                obtain rfl:s'=s:=by rw [hn] at a1;exact (Option.some.inj a1).symm
                obtain rfl:o'=o:=by rw [hm] at a2;exact (Option.some.inj a2).symm
                exact absurd a3 hp
              · exact ⟨⟨i,k,j,s',o',rfl,a1,a2,a3,a4⟩,by simp only;omega⟩)
      rw [g1,AA,fin_d]
      refine ⟨_,rfl,by omega,fun e=>?_⟩
      rw [g3]
      constructor
      · rintro ⟨a,b⟩
        exact ⟨a,by rcases b with b|⟨b,_⟩<;>omega⟩
      · rintro ⟨a,b⟩
        refine ⟨a,?_⟩
        obtain ⟨i,k,j,s',o',rfl,a1,a2,a3,a4⟩:=a
        simp only at b ⊢
        have:=AJ a2
        omega)
  refine ⟨es,by rw [h1,AA,fin_d],fun e=>?_⟩
  rw [h3]
  refine ⟨fun a=>a.1,fun a=>⟨a,?_⟩⟩
  obtain ⟨i,k,j,s',o',rfl,a1,a2,a3,a4⟩:=a
  have:=AJ a1
  simp only;omega
end
end Go.Proofs.YtafdmfhdjfkooaaGreat

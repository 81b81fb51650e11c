/- Own text: what the proof of repairFree_holds uses, part 5: rules, models and their proofs, plain laws. -/
import Derived.Test.YtafdmfhdjfkooaaGreatZFD
set_option linter.unusedVariables false
set_option linter.unusedSimpArgs false
namespace Go.Proofs.YtafdmfhdjfkooaaGreat
open Go Go.RowKit
section
open Go Go.RowKit
section
attribute [local irreducible] ewp owp hwp hwq hws Ev Evg Fn retPost loud loudS Res1
noncomputable def AZ (x0:Option Gnr) (x1:List Int):Option (List Suc) :=
  bnd (BU x0 x1) fun q7=>bnd (rng (ρ:=(List Suc)) (fun (k23:Nat) (a24:Int) (s21:(List Suc))=>bnd (Br x1) fun q46=>bnd (x0) fun o56=>bnd (atI o56.t.ops a24) fun a88=>bnd (rng (ρ:=Ctl (List Suc) (List Suc)) (fun (k115:Nat) (a116:Eff) (s113:(List Int))=>bnd (CM a116.cond x1) fun q150=>if q150=true then bnd (atI s113 a116.var) fun a157=>some (.next (s113.set (a116.var:Int).toNat a116.val)) else some (.next s113)) a88.effs 0 q46) fun res111=>fin res111 fun (s175:(List Int))=>bnd (appI 32 s21 [(⟨a24,s175⟩:Suc)]) fun u179=>some (.next u179)) q7 0 ([]:List Suc)) fun res19=>fin res19 fun (s195:(List Suc))=>some s195
theorem EO {w:World} {A:Nat→Prop} (hA:∀ k,A k→k < w.heap.size) {vx0:Value} {x0:Option Gnr} (hx0:Vb w A vx0 x0) {vx1:Value} {x1:List Int} (hx1:Vb w A vx1 x1) {r:(List Suc)} (hm:AZ x0 x1=some r) :
    Fn Tryz.prog 61 [vx0,vx1] w fun v w'=>Ext w w'∧Vb w' (upA A w w') v r:=by
 obtain ⟨O,hB,hA0⟩:=enter hA
 replace hx0:=hx0.mono hA0
 obtain ⟨p3,rfl,hq4⟩:=hx0.ptr
 replace hx1:=hx1.mono hA0
 obtain ⟨A5,c6,rfl⟩:=hx1.form
 refine AL Tryz.func61 rfl Tryz.ntmps61 rfl ?_
 unfold AZ at hm
 refine Ah (Ae (o_as rfl rfl (o_z ?_)))
 refine Ah (Ae (o_as rfl rfl (o_z ?_)))
 refine Ah (Ah (Ae (o_mv rfl rfl (o_mv rfl rfl ?_))))
 obtain ⟨q7,e8,hm⟩:=bs hm
 refine CL 2 (by decide) (O:=O) (EN Fr.lt hx0 hx1 e8) rfl rfl fun A14 c15 w9 O10 S11 h12=>?_
 refine o_ln rfl rfl ?_
 have l18:q7.length≤9223372036854775807:=Nat.le_trans h12.len.2.1 h12.len.2.2
 have r17:inI64 (q7.length:Int):=rngNat l18
 refine o_mv rfl rfl (o_z ?_)
 obtain ⟨res19,hL20,hm⟩:=bs hm
 refine AN (aft res19 (fun (s21:(List Suc)) (x22:(Option Addr×Nat))=>[(5,(.slice x22.1 s21.length x22.2))]) (fun s21 x22 w'=>∃ O':Lab,Bs w A w' O'∧Rw 5 w' O' 112 (.slice x22.1 s21.length x22.2) s21)) ?_ ?_
 ·
  refine Al ?_
  replace hB:=hB.st S11
  replace hx0:=hx0.st S11
  replace hx1:=hx1.st S11
  refine BD (σ:=(List Suc)) (X:=(Option Addr×Nat)) (q7.length) hL20 rfl l18 (fun (s21:(List Suc)) (x22:(Option Addr×Nat))=>[(0,(.pointer p3)),(1,(.slice A5 x1.length c6)),(5,(.slice x22.1 s21.length x22.2)),(13,(.slice A14 q7.length c15))]) _ (fun s21 x22 w'=>∃ O':Lab,Bs w A w' O'∧Vb w' (Fr 0 w' O') (.pointer p3) x0∧Vb w' (Fr 0 w' O') (.slice A5 x1.length c6) x1∧Rw 5 w' O' 112 (.slice x22.1 s21.length x22.2) s21∧Rw 2 w' O' 3 (.slice A14 q7.length c15) q7) _ (none,0) ⟨O10,hB,hx0,hx1,(Rw.nil 5 (by decide)),h12⟩ ⟨rfl,rfl,rfl,rfl,rfl,rfl,trivial⟩ (fun _ _=>⟨rfl,rfl⟩) (fun _ _=>⟨rfl,trivial⟩) (fun _ _ _ ⟨O',hB,hx0,hx1,h36,h12⟩=>⟨O',hB,h36⟩) ⟨rfl,rfl,rfl⟩ ⟨rfl,rfl⟩ ?_
  rintro k23 a24 s21 x22 w25 cc27 hx28 ⟨O26,hB,hx0,hx1,h36,h12⟩ hf29 hret30 hbrk31
  have rk23:inI64 (k23:Int):=rngK hx28 l18
  refine Ah (Ae ?_)
  obtain ⟨b38,o39,ce40,hA41,hl42,hd43,rfl,r45⟩:=h12.elem hx28
  refine o_iaE (hA:=hA41) (hj:=rfl) (hlt:=hl42) rfl rfl rfl ?_
  refine o_ld (hc:=cat0 hd43) rfl rfl ?_
  refine o_as rfl rfl (o_z ?_)
  refine Ah (Ae (o_mv rfl rfl ?_))
  obtain ⟨q46,e47,hf29⟩:=bs hf29
  refine CL 3 (by decide) (O:=O26) (Dh Fr.lt hx1 e47) rfl rfl fun A53 c54 w48 O49 S50 h51=>?_
  refine o_as rfl rfl (o_z ?_)
  refine Ah (Ah (Ae (o_mv rfl rfl ?_)))
  obtain ⟨o56,e57,hf29⟩:=bs hf29
  obtain ⟨ad59,hp58⟩:=Jv (hq4.trans (by rw [e57];rfl))
  refine o_ncE (hA:=hp58) rfl rfl ?_
  replace hx0:=hx0.st S50
  obtain ⟨b84,v67,v71,v75,v79,v83,hA85,hF86,hd87,h68,h72,h76,h80⟩:=Nv hx0 e57
  obtain ⟨A69,c70,rfl⟩:=h68.form
  obtain ⟨A73,c74,rfl⟩:=h72.form
  obtain ⟨A77,c78,rfl⟩:=h76.form
  obtain ⟨A81,c82,rfl⟩:=h80.form
  refine o_faE (hA:=hA85) rfl rfl ?_
  refine o_fa rfl rfl (o_ld (hc:=cat3 hd87) rfl rfl ?_)
  refine o_mv rfl rfl ?_
  obtain ⟨a88,e89,hf29⟩:=bs hf29
  obtain ⟨p91,x90⟩:=AO e89
  obtain ⟨b92,o93,ce94,hA95,hl96,hd97,v99,v100,rfl,h101,h104,r107,z108⟩:=h80.elem' x90
  obtain ⟨A102,c103,rfl⟩:=h101.form
  obtain ⟨A105,c106,rfl⟩:=h104.form
  refine o_iaE (hA:=hA95) (hj:=(Int.toNat_of_nonneg p91).symm) (hlt:=hl96) rfl rfl rfl ?_
  refine o_fa rfl rfl (o_ld (hc:=cat3 hd97) rfl rfl ?_)
  refine o_ln rfl rfl ?_
  have l110:a88.effs.length≤9223372036854775807:=Nat.le_trans h104.len.2.1 h104.len.2.2
  have r109:inI64 (a88.effs.length:Int):=rngNat l110
  refine o_mv rfl rfl (o_z ?_)
  obtain ⟨res111,hL112,hf29⟩:=bs hf29
  refine AN (aft res111 (fun (s113:(List Int)) (x114:Unit)=>[(0,(.pointer p3)),(1,(.slice A5 x1.length c6)),(5,(.slice x22.1 s21.length x22.2)),(7,(.int .i64 a24)),(8,(.slice A53 q46.length c54)),(13,(.slice A14 q7.length c15)),(14,(.int .i64 (q7.length:Int))),(15,(.int .i64 (k23:Int)))]) (fun s113 x114 w'=>∃ O':Lab,Bs w A w' O'∧Vb w' (Fr 0 w' O') (.pointer p3) x0∧Vb w' (Fr 0 w' O') (.slice A5 x1.length c6) x1∧Rw 5 w' O' 112 (.slice x22.1 s21.length x22.2) s21∧Rw 3 w' O' 3 (.slice A53 q46.length c54) s113∧Rw 2 w' O' 3 (.slice A14 q7.length c15) q7)) ?_ ?_
  ·
   refine Al ?_
   replace hB:=hB.st S50
   replace hx1:=hx1.st S50
   replace h12:=h12.st S50
   replace h36:=h36.st S50
   refine BD (σ:=(List Int)) (X:=Unit) (a88.effs.length) hL112 rfl l110 (fun (s113:(List Int)) (x114:Unit)=>[(0,(.pointer p3)),(1,(.slice A5 x1.length c6)),(5,(.slice x22.1 s21.length x22.2)),(7,(.int .i64 a24)),(8,(.slice A53 q46.length c54)),(13,(.slice A14 q7.length c15)),(14,(.int .i64 (q7.length:Int))),(15,(.int .i64 (k23:Int))),(29,(.slice A105 a88.effs.length c106))]) _ (fun s113 x114 w'=>∃ O':Lab,Bs w A w' O'∧Vb w' (Fr 0 w' O') (.pointer p3) x0∧Vb w' (Fr 0 w' O') (.slice A5 x1.length c6) x1∧Rw 5 w' O' 112 (.slice x22.1 s21.length x22.2) s21∧Rw 3 w' O' 3 (.slice A53 q46.length c54) s113∧Rw 2 w' O' 3 (.slice A14 q7.length c15) q7∧Vb w' (Fr 0 w' O') (.slice A105 a88.effs.length c106) a88.effs) _ () ⟨O49,hB,hx0,hx1,h36,h51,h12,h104⟩ ⟨rfl,rfl,rfl,rfl,rfl,rfl,rfl,rfl,rfl,rfl,rfl,trivial⟩ (fun _ _=>⟨rfl,rfl⟩) (fun _ _=>⟨rfl,rfl,rfl,rfl,rfl,rfl,rfl,rfl,trivial⟩) (fun _ _ _ ⟨O',hB,hx0,hx1,h36,h128,h12,h104⟩=>⟨O',hB,hx0,hx1,h36,h128,h12⟩) ⟨rfl,rfl,rfl⟩ ⟨rfl,rfl⟩ ?_
   rintro k115 a116 s113 x114 w117 cc119 hx120 ⟨O118,hB,hx0,hx1,h36,h128,h12,h104⟩ hf121 hret122 hbrk123
   have rk115:inI64 (k115:Int):=rngK hx120 l110
   refine Ah (Ae ?_)
   obtain ⟨b130,o131,ce132,hA133,hl134,hd135,v137,rfl,h138,r141,r142⟩:=h104.elem' hx120
   obtain ⟨A139,c140,rfl⟩:=h138.form
   refine o_iaE (hA:=hA133) (hj:=rfl) (hlt:=hl134) rfl rfl rfl ?_
   refine o_la (hl:=rfl) (hc:=hd135) rfl rfl ?_
   refine BJ 4 O118 rfl fun g143 w144 O145 S146 h147=>?_
   refine AQ h147 rfl rfl rfl (Nat.le_of_ble_eq_true rfl) (by first|exact allOne rfl|simp [Value.cells,Value.oneCell',AM]) fun w148 S149 h147=>?_
   replace h147:Lc 4 w148 O145 g143 64 [(.slice A139 a116.cond.length c140),(.int .i64 a116.var),(.int .i64 a116.val)]:=h147
   refine o_z ?_
   refine Ah (Ae (o_fa rfl rfl (o_ld (hc:=Blk.cell (i:=0) (h147.1) rfl) rfl rfl ?_)))
   refine o_mv rfl rfl ?_
   obtain ⟨q150,e151,hf121⟩:=bs hf121
   replace hx1:=(hx1.st S146).st S149
   replace h138:=(h138.st S146).st S149
   refine BP (O:=O145) (A:=All w148) (R:=fun w' F v=>Vb w' F v q150) (HC (fun _ h=>h) (Vb.mono (F:=Fr 0 w148 O145) h138 Fr.lt) (Vb.mono (F:=Fr 0 w148 O145) hx1 Fr.lt) e151) rfl rfl fun v156 w152 O153 S154 h155=>?_
   obtain rfl:=h155.bool
   cases q150
   case false =>
    replace hf121:=iF hf121
    refine o_z ?_
    refine Aj rfl (Am ?_)
    obtain rfl:=sm hf121
    refine (?_:Exists _)
    replace hx0:=((hx0.st S146).st S149).st S154
    replace hB:=((hB.st S146).st S149).st S154
    replace hx1:=hx1.st S154
    replace h12:=((h12.st S146).st S149).st S154
    replace h36:=((h36.st S146).st S149).st S154
    replace h104:=((h104.st S146).st S149).st S154
    replace h128:=((h128.st S146).st S149).st S154
    exact ⟨_,(),rfl,⟨rfl,rfl,rfl,rfl,rfl,rfl,rfl,rfl,rfl,rfl,rfl,trivial⟩,_,hB,hx0,hx1,h36,h128,h12,h104⟩
   replace hf121:=iT hf121
   refine o_z ?_
   refine Ar rfl (Ae (o_mv rfl rfl (o_fa rfl rfl ?_)))
   replace h147:=h147.st S154
   refine o_ld (hc:=Blk.cell (i:=1) (h147.1) rfl) rfl rfl ?_
   refine o_fa rfl rfl (o_ld (hc:=Blk.cell (i:=2) (h147.1) rfl) rfl rfl ?_)
   obtain ⟨a157,e158,hf121⟩:=bs hf121
   obtain ⟨p160,x159⟩:=AO e158
   replace h128:=((h128.st S146).st S149).st S154
   obtain ⟨b161,o162,ce163,hA164,hl165,hd166,rfl,r168⟩:=h128.elem x159
   refine o_iaE (hA:=hA164) (hj:=(Int.toNat_of_nonneg p160).symm) (hlt:=hl165) rfl rfl rfl ?_
   refine CG rfl h128 (a:=a116.val) (vInt r142) hA164 rfl rfl (AJ x159) fun w169 S170 h128=>?_
   refine o_z ?_
   obtain rfl:=sm hf121
   refine (?_:Exists _)
   replace hx0:=(((hx0.st S146).st S149).st S154).st S170
   replace hB:=(((hB.st S146).st S149).st S154).st S170
   replace hx1:=(hx1.st S154).st S170
   replace h12:=(((h12.st S146).st S149).st S154).st S170
   replace h36:=(((h36.st S146).st S149).st S154).st S170
   replace h104:=(((h104.st S146).st S149).st S154).st S170
   exact ⟨_,(),rfl,⟨rfl,rfl,rfl,rfl,rfl,rfl,rfl,rfl,rfl,rfl,rfl,trivial⟩,_,hB,hx0,hx1,h36,h128,h12,h104⟩
  replace hB:=hB.st S50
  replace hx1:=hx1.st S50
  replace h12:=h12.st S50
  replace h36:=h36.st S50
  rintro l171 w172 ⟨s175,x176,rfl,hs174,O173,hB,hx0,hx1,h36,h128,h12⟩
  replace hf29:=AY hf29
  refine AP _ hs174 ?_
  refine Ae (o_mv rfl rfl (o_mv rfl rfl (o_mv rfl rfl (o_bd rfl rfl rfl ?_))))
  obtain ⟨O177,S178,h128⟩:=h128.freeze
  obtain ⟨u179,e180,hf29⟩:=bs hf29
  obtain ⟨e180,e181,e182⟩:=AU e180
  replace h36:=h36.st S178
  refine Cu rfl (a:=(⟨a24,s175⟩:Suc)) h36 (Vb.ofAgg (cs:=[(.int .i64 a24),(.slice A53 q46.length c54)]) (x:=(⟨a24,s175⟩:Suc)) rfl ⟨_,rfl,h128,r45⟩) (fun _=>rfl) rfl (by decide) (by decide) e181 e182 ⟨rfl,rfl⟩ fun g183 A184 c185 w186 O187 S188 h189=>?_
  rw [← e180] at h189 ⊢
  refine o_as rfl rfl (o_z ?_)
  obtain rfl:=sm hf29
  refine (?_:Exists _)
  replace hB:=(hB.st S178).st S188
  replace hx0:=(hx0.st S178).st S188
  replace hx1:=(hx1.st S178).st S188
  replace h12:=(h12.st S178).st S188
  exact ⟨_,(A184,c185),rfl,⟨rfl,rfl,rfl,rfl,rfl,rfl,trivial⟩,_,hB,hx0,hx1,h189,h12⟩
 replace hB:=hB.st S11
 rintro l191 w192 ⟨s195,x196,rfl,hs194,O193,hB,h36⟩
 replace hm:=AY hm
 refine AP _ hs194 ?_
 refine Ah (Ae (o_mv rfl rfl (o_as rfl rfl (o_z ?_))))
 refine Au ?_
 obtain ⟨O197,S198,h36⟩:=h36.freeze
 obtain rfl:=sm hm
 replace hB:=hB.st S198
 exact ret1v rfl (AG rfl) ⟨hB.ext,(Vb.mono (F:=Fr 0 w192 O197) h36 hB.out)⟩
end
theorem NA {s:List Int} (hl:s.length≤1000000):Br s=some s:=if_pos ⟨by omega,by omega⟩
theorem Oe {t:Tsk} {s:List Int} (hok:TaskOk t) (hl:s.length≤1000000):AZ (some ⟨t⟩) s=some ((appS t s).map (sucOf t s)):=by
  have ha:BU (some ⟨t⟩) s=some (appS t s):=if_pos hl
  have hol:=hok.2.1
  have hal:=Nu t s
  unfold AZ
  rw [ha,AA]
  rw [DY (fun k=>((appS t s).take k).map (sucOf t s)) ?_ ?_,AA,fin_d,List.take_length]
  · rfl
  intro k x hk
  have hkl:=AJ hk
  obtain ⟨hst,hmem⟩:=Nt (List.mem_of_getElem? hk)
  obtain ⟨j,o,rfl,hj,hp⟩:=KB hmem
  rw [NA hl,AA,AA,Bk,hj,AA,KG (hok.effs hst j o hj) CM (fun _ _=>rfl) s rfl,AA,fin_d,BR (by simp;omega) (by simp;omega),AA,List.take_add_one,hk,List.map_append]
  simp [sucOf,hj,succ]
theorem MU {t:Tsk} (h:TaskOk t):DM t=some (some ⟨t⟩,⟨0⟩):=by unfold DM;rw [bof_t h,if_t,DW.2 h]
end
section
open Go Go.RowKit
attribute [local irreducible] ewp owp hwp hwq hws Ev Evg Fn retPost loud loudS Res1
attribute [local irreducible] hwx loudX
structure Spc where
  t:Tsk
  reg:Reg
  gen:Option Gnr
instance:Ow Spc where
  R w F M v x:=∃ (g:Nat) (L:Lab) (c0 c1 c2 c3 c4 c5:Value),v=.pointer (some ⟨g,0,none⟩)∧Blk w g 106 [c0,c1,c2,c3,c4,c5]∧M g∧L g=0∧Vb w F c0 x.t.vars∧Vb w F c1 x.t.init∧Vb w F c2 x.t.goal∧Vb w F c3 x.t.ops∧Ow.R w F (fun k=>M k∧L k=1) c4 x.reg∧Vb w F c5 x.gen
  agree:=by rintro w w' F M v x ⟨g,L,c0,c1,c2,c3,c4,c5,rfl,hb,hM,hL,h0,h1,h2,h3,h4,h5⟩ a1 a2;exact ⟨g,L,c0,c1,c2,c3,c4,c5,rfl,hb.keep (a2 g hM),hM,hL,h0.agree a1,h1.agree a1,h2.agree a1,h3.agree a1,Ow.agree h4 a1 fun k hk=>a2 k hk.1,h5.agree a1⟩
  mono:=by rintro w F M F' M' v x ⟨g,L,c0,c1,c2,c3,c4,c5,rfl,hb,hM,hL,h0,h1,h2,h3,h4,h5⟩ a1 a2 a3;exact ⟨g,L,c0,c1,c2,c3,c4,c5,rfl,hb,a2 g hM,hL,h0.mono a1,h1.mono a1,h2.mono a1,h3.mono a1,Ow.mono h4 a1 (fun k hk=>⟨a2 k hk.1,hk.2⟩) fun k hf hm=>a3 k hf hm.1,h5.mono a1⟩
instance:OwP Spc:=⟨by rintro w F M v x ⟨g,L,c0,c1,c2,c3,c4,c5,rfl,_⟩;exact ⟨g,rfl⟩⟩
theorem Spc.opn {i:Nat} {w:World} {O:Lab} {p:Nat} {x:Spc} (h:Ob i w O (.pointer (some ⟨p,0,none⟩)) x) (l0 l1:Nat) (hl:l0≠0∧l1≠0):∃ (O':Lab) (c0 c1 c2 c3 c4 c5:Value),St (eT i) w O w O'∧(∀ k,Fr i w O k→∃ q,q∈[l0,l1]∧Fr q w O' k)∧Lc l0 w O' p 106 [c0,c1,c2,c3,c4,c5]∧Vb w (Fr 0 w O') c0 x.t.vars∧Vb w (Fr 0 w O') c1 x.t.init∧Vb w (Fr 0 w O') c2 x.t.goal∧Vb w (Fr 0 w O') c3 x.t.ops∧Ob l1 w O' c4 x.reg∧Vb w (Fr 0 w O') c5 x.gen:=by
  obtain ⟨⟨g,L,c0,c1,c2,c3,c4,c5,hv,hb,hM,hL,h0,h1,h2,h3,h4,h5⟩,hi⟩:=h
  obtain rfl:p=g:=by injection hv with hv;injection hv with hv;injection hv
  exact ⟨part O i L [l0,l1],c0,c1,c2,c3,c4,c5,Id hi,GJ (by simp),⟨hb,(DO (j:=0) rfl p ⟨hM,hL⟩).2⟩,h0.mono (CZ hi),h1.mono (CZ hi),h2.mono (CZ hi),h3.mono (CZ hi),⟨Ow.mono h4 (CZ hi) (DO (j:=1) rfl) (frNe0 hl.2),hl.2⟩,h5.mono (CZ hi)⟩
theorem Spc.shut {w:World} {O:Lab} {p:Nat} {x:Spc} {l0 l1:Nat} {c0 c1 c2 c3 c4 c5:Value} (hd:¬ 0∈[l0,l1]∧[l0,l1].idxOf l0=0∧[l0,l1].idxOf l1=1) (hb:Lc l0 w O p 106 [c0,c1,c2,c3,c4,c5]) (h0:Vb w (Fr 0 w O) c0 x.t.vars) (h1:Vb w (Fr 0 w O) c1 x.t.init) (h2:Vb w (Fr 0 w O) c2 x.t.goal) (h3:Vb w (Fr 0 w O) c3 x.t.ops) (h4:Ob l1 w O c4 x.reg) (h5:Vb w (Fr 0 w O) c5 x.gen):∃ O',St (·∈[l0,l1]) w O w O'∧(∀ k,Fr 0 w O k→Fr 0 w O' k)∧(∀ q,q∈[l0,l1]→∀ k,Fr q w O k→Fr l0 w O' k)∧Ob l0 w O' (.pointer (some ⟨p,0,none⟩)) x:=by
  have hb1:l0≠0:=fun e=>hd.1 (by simp [e])
  have hg:=Do (i:=l0) hd.2.1 (by simp) p ⟨hb.1.lt,hb.2⟩
  exact ⟨whole O l0 [l0,l1],GK,Cj hd.1,FZ,⟨p,fun k=>[l0,l1].idxOf (O k),c0,c1,c2,c3,c4,c5,rfl,hb.1,hg.1,hg.2,h0.mono (Cj hd.1),h1.mono (Cj hd.1),h2.mono (Cj hd.1),h3.mono (Cj hd.1),Ow.mono h4.1 (Cj hd.1) (Do hd.2.2 (by simp)) (fun k a b=>frNe0 hb1 k a b.1),h5.mono (Cj hd.1)⟩,hb1⟩
noncomputable def Cq (x0:Tsk):Option ((Option Spc)×Err) :=
  bnd (DM x0) fun q24=>if q24.2.n≠0 then (some (none,(⟨q24.2.n⟩:Err))) else (bnd (CJ x0.vars) fun q39=>if q39.2.n≠0 then (some (none,(⟨q39.2.n⟩:Err))) else (bnd q39.1 fun o52=>bnd (Bj o52 x0.init) fun q55=>if q55.2.2.1.n≠0 then (some (none,(⟨q55.2.2.1.n⟩:Err))) else (some ((some (⟨(⟨x0.vars,x0.init,x0.goal,x0.ops⟩:Tsk),q55.2.2.2,q24.1⟩:Spc)),(⟨0⟩:Err)))))
theorem Jk {w:World} {O:Lab} {vx0:Value} {x0:Tsk} (hx0:Vb w (Fr 0 w O) vx0 x0) (j0:Nat) (hj0:j0≠0) {r:(Option Spc)×Err} (hm:Cq x0=some r) :
    Fn Tryz.prog 55 [vx0] w fun v w'=>∃ O',St nT w O w' O'∧∃ v0 v1:Value,v=.tuple #[v0,v1]∧Obo j0 w' O' v0 r.1∧Vb w' (Fr 0 w' O') v1 r.2:=by
 obtain ⟨O0,hE,hz0⟩:=ent0 (w:=w) (O:=O)
 have hB:Bm w O0 w O0:=Bm.refl
 replace hx0:=hx0.mono hz0
 obtain ⟨cs2,rfl,v3,v4,v5,v6,rfl,h7,h10,h13,h16⟩:=hx0
 obtain ⟨A8,c9,rfl⟩:=h7.form
 obtain ⟨A11,c12,rfl⟩:=h10.form
 obtain ⟨A14,c15,rfl⟩:=h13.form
 obtain ⟨A17,c18,rfl⟩:=h16.form
 refine AL Tryz.func55 rfl Tryz.ntmps55 rfl ?_
 unfold Cq at hm
 refine Ah (Ae (l_box 2 O0 rfl rfl fun g19 w20 O21 S22 h23=>?_))
 replace h23:Lc 2 w20 O21 g19 26 [(.slice A8 x0.vars.length c9),(.slice A11 x0.init.length c12),(.slice A14 x0.goal.length c15),(.slice A17 x0.ops.length c18)]:=h23
 refine o_as rfl rfl (o_as rfl rfl (o_z ?_))
 refine Ah (Ae (o_la (hl:=rfl) (hc:=(h23.1).cellsAt) rfl rfl ?_))
 obtain ⟨q24,e25,hm⟩:=bs hm
 replace h7:=h7.st S22
 replace h10:=h10.st S22
 replace h13:=h13.st S22
 replace h16:=h16.st S22
 refine CY (O:=O21) (R:=fun w' F v=>T2 w' F v q24) (Kf Fr.lt (Vb.ofAgg (cs:=[(.slice A8 x0.vars.length c9),(.slice A11 x0.init.length c12),(.slice A14 x0.goal.length c15),(.slice A17 x0.ops.length c18)]) (x:=x0) rfl ⟨_,_,_,_,rfl,h7,h10,h13,h16⟩) e25) rfl rfl fun v30 w26 O27 S28 h29=>?_
 obtain ⟨v31,v32,rfl,h33,h34⟩:=h29
 obtain ⟨p35,rfl,hq36⟩:=h33.ptr
 obtain ⟨rfl,r37⟩:=h34.err
 refine o_mv rfl rfl (o_ex rfl rfl rfl (o_ex rfl rfl rfl (o_as rfl rfl (o_as rfl rfl (o_z ?_)))))
 refine Ah (Ah (Ae (o_mv rfl rfl (o_rnS rfl rfl (fun c38=>?_) fun c38=>?_))))
 ·
  replace hm:=ip hm c38
  refine o_z ?_
  refine Ar rfl (Ah (Ae (o_mv rfl rfl (o_as rfl rfl (o_as rfl rfl (o_z ?_))))))
  refine Au ?_
  obtain rfl:=sm hm
  replace hB:=(hB.st S22).st S28
  obtain ⟨O',hS',hz,hl⟩:=hE.leave (fun _=>0) rfl hB
  exact ret2 rfl (AG rfl) (AG rfl) ⟨O',hS',_,_,rfl,rfl,(vErr r37)⟩
 ·
  replace hm:=im hm c38
  refine o_z ?_
  refine Aj rfl (Am (Ah (Ae (o_fa rfl rfl ?_))))
  replace h23:=h23.st S28
  refine o_ld (hc:=Blk.cell (i:=0) (h23.1) rfl) rfl rfl ?_
  obtain ⟨q39,e40,hm⟩:=bs hm
  replace h7:=h7.st S28
  refine BZ (O:=O27) (Jy h7 3 (by decide) e40) rfl rfl fun v45 w41 O42 S43 h44=>?_
  obtain ⟨v46,v47,rfl,h48,h49⟩:=h44
  obtain ⟨rfl,r50⟩:=h49.err
  refine o_mv rfl rfl (o_ex rfl rfl rfl (o_ex rfl rfl rfl (o_as rfl rfl (o_as rfl rfl (o_z ?_)))))
  refine Ah (Ah (Ae (o_mv rfl rfl (o_rnS rfl rfl (fun c51=>?_) fun c51=>?_))))
  ·
   replace hm:=ip hm c51
   refine o_z ?_
   refine Ar rfl (Ah (Ae (o_mv rfl rfl (o_as rfl rfl (o_as rfl rfl (o_z ?_))))))
   refine Au ?_
   obtain rfl:=sm hm
   replace hB:=((hB.st S22).st S28).st S43
   obtain ⟨O',hS',hz,hl⟩:=hE.leave (fun _=>0) rfl hB
   exact ret2 rfl (AG rfl) (AG rfl) ⟨O',hS',_,_,rfl,rfl,(vErr r50)⟩
  ·
   replace hm:=im hm c51
   refine o_z ?_
   refine Aj rfl (Am (Ah (Ah (Ae (o_mv rfl rfl (o_fa rfl rfl ?_))))))
   replace h23:=h23.st S43
   refine o_ld (hc:=Blk.cell (i:=1) (h23.1) rfl) rfl rfl ?_
   obtain ⟨o52,e53,hm⟩:=bs hm
   rw [e53] at h48
   obtain ⟨p54,rfl⟩:=Ob.ptr h48
   obtain ⟨q55,e56,hm⟩:=bs hm
   replace h10:=(h10.st S28).st S43
   refine BZ (O:=O42) (Eh h48 h10 e56) rfl rfl fun v61 w57 O58 S59 h60=>?_
   obtain ⟨v63,v64,v65,h62,rfl,h66,h67,h68⟩:=h60
   obtain ⟨rfl,r69⟩:=h66.int
   obtain rfl:=h67.bool
   obtain ⟨rfl,r70⟩:=h68.err
   refine o_mv rfl rfl (o_ex rfl rfl rfl (o_ex rfl rfl rfl (o_ex rfl rfl rfl (o_as rfl rfl (o_as rfl rfl (o_as rfl rfl (o_z ?_)))))))
   refine Ah (Ae (o_mv rfl rfl (o_rnS rfl rfl (fun c71=>?_) fun c71=>?_)))
   ·
    replace hm:=ip hm c71
    refine o_z ?_
    refine Ar rfl (Ah (Ae (o_mv rfl rfl (o_as rfl rfl (o_as rfl rfl (o_z ?_))))))
    refine Au ?_
    obtain rfl:=sm hm
    replace hB:=(((hB.st S22).st S28).st S43).st S59
    obtain ⟨O',hS',hz,hl⟩:=hE.leave (fun _=>0) rfl hB
    exact ret2 rfl (AG rfl) (AG rfl) ⟨O',hS',_,_,rfl,rfl,(vErr r70)⟩
   ·
    replace hm:=im hm c71
    refine o_z ?_
    refine Aj rfl (Am (Ah (Ae ?_)))
    replace h23:=h23.st S59
    refine o_la (hl:=rfl) (hc:=(h23.1).cellsAt) rfl rfl ?_
    refine o_mv rfl rfl (o_mv rfl rfl (o_bd rfl rfl rfl ?_))
    refine l_box 4 O58 rfl rfl fun g72 w73 O74 S75 h76=>?_
    replace h76:Lc 4 w73 O74 g72 106 [(.slice A8 x0.vars.length c9),(.slice A11 x0.init.length c12),(.slice A14 x0.goal.length c15),(.slice A17 x0.ops.length c18),(.pointer (some ⟨p54,0,none⟩)),(.pointer p35)]:=h76
    refine o_as rfl rfl (o_as rfl rfl (o_z ?_))
    refine Au ?_
    replace h7:=((h7.st S43).st S59).st S75
    replace h10:=(h10.st S59).st S75
    replace h13:=(((h13.st S28).st S43).st S59).st S75
    replace h16:=(((h16.st S28).st S43).st S59).st S75
    replace h33:=((h33.st S43).st S59).st S75
    replace h62:=h62.st S75
    obtain ⟨O77,S78,hz80,ha81,h79⟩:=Spc.shut (x:=(⟨(⟨x0.vars,x0.init,x0.goal,x0.ops⟩:Tsk),q55.2.2.2,q24.1⟩:Spc)) (l0:=4) (l1:=3) (by decide) h76 h7 h10 h13 h16 h62 h33
    obtain rfl:=sm hm
    replace hB:=(((((hB.st S22).st S28).st S43).st S59).st S75).st S78
    obtain ⟨O',hS',hz,hl⟩:=hE.leave (fun q=>if q=4 then j0 else 0) rfl hB
    exact ret2 rfl (AG rfl) (AG rfl) ⟨O',hS',_,_,rfl,(Ob.leave h79 hz (hl 4 (by decide) (by decide)) hj0),(vErr (show inI64 0 from by decide))⟩
noncomputable def BH (x0:Spc) (x1:Int) (x2:Int):Option (Rsl×Err) :=
  bnd (BL x0.reg x1) fun q36=>if q36.2.n≠0 then (some ((⟨0,([]:List Int),0,0⟩:Rsl),(⟨q36.2.n⟩:Err))) else (bnd (rng (ρ:=Rsl×Err) (fun (k77:Nat) (a78:Int) (s75:Int)=>bnd (atI x0.t.ops a78) fun a125=>bnd (chkI (s75 + a125.cost)) fun n146=>some (.next n146)) q36.1 0 0) fun res73=>fin res73 fun (s160:Int)=>some ((⟨1,q36.1,s160,x2⟩:Rsl),(⟨0⟩:Err)))
theorem Gp {w:World} {O:Lab} {p0 i0:Nat} {x0:Spc} (hx0:Ob i0 w O (.pointer (some ⟨p0,0,none⟩)) x0) {x1:Int} (rx1:inI64 x1) {x2:Int} (rx2:inI64 x2) {r:Rsl×Err} (hm:BH x0 x1 x2=some r) :
    Fn Tryz.prog 59 [(.pointer (some ⟨p0,0,none⟩)),(.int .i64 x1),(.int .i64 x2)] w fun v w'=>∃ O',St (eT i0) w O w' O'∧∃ v0 v1:Value,Ob i0 w' O' (.pointer (some ⟨p0,0,none⟩)) x0∧v=.tuple #[v0,v1]∧Vb w' (Fr 0 w' O') v0 r.1∧Vb w' (Fr 0 w' O') v1 r.2:=by
 obtain ⟨O0,hE,hz0,hl2⟩:=ent1 (w:=w) (O:=O) hx0.2
 have hx0':=Ob.leave hx0 hz0 hl2 (j:=2) (by decide)
 have hB:Bm w O0 w O0:=Bm.refl
 refine AL Tryz.func59 rfl Tryz.ntmps59 rfl ?_
 unfold BH at hm
 refine Ah (Ae (BJ 3 O0 rfl fun g4 w5 O6 S7 h8=>?_))
 refine o_as rfl rfl (o_z ?_)
 refine Ah (Ae (o_mv rfl rfl (o_nc rfl rfl ?_)))
 replace hx0':=hx0'.st S7
 obtain ⟨O9,v13,v17,v21,v25,v29,v32,S10,ha12,h11,h14,h18,h22,h26,h30,h33⟩:=Spc.opn hx0' 2 4 (by decide)
 obtain ⟨A15,c16,rfl⟩:=h14.form
 obtain ⟨A19,c20,rfl⟩:=h18.form
 obtain ⟨A23,c24,rfl⟩:=h22.form
 obtain ⟨A27,c28,rfl⟩:=h26.form
 obtain ⟨p31,rfl⟩:=h30.ptr
 obtain ⟨p34,rfl,hq35⟩:=h33.ptr
 refine o_fa rfl rfl (o_ld (hc:=Blk.cell (i:=4) (h11.1) rfl) rfl rfl ?_)
 refine o_mv rfl rfl ?_
 obtain ⟨q36,e37,hm⟩:=bs hm
 refine BZ (O:=O9) (FR h30 rx1 e37) rfl rfl fun v42 w38 O39 S40 h41=>?_
 obtain ⟨v44,v45,h43,rfl,h46,h47⟩:=h41
 obtain ⟨A48,c49,rfl⟩:=h46.form
 obtain ⟨rfl,r50⟩:=h47.err
 refine o_mv rfl rfl (o_ex rfl rfl rfl (o_ex rfl rfl rfl (o_as rfl rfl (o_as rfl rfl (o_z ?_)))))
 refine Ah (Ah (Ae (o_mv rfl rfl (o_rnS rfl rfl (fun c51=>?_) fun c51=>?_))))
 ·
  replace hm:=ip hm c51
  refine o_z ?_
  refine Ar rfl (Ah (Ae (o_bd rfl rfl rfl ?_)))
  refine o_mv rfl rfl ?_
  replace h8:=(h8.st S10).st S40
  refine AQ h8 rfl rfl rfl (Nat.le_of_ble_eq_true rfl) (by first|exact allOne rfl|simp [Value.cells,Value.oneCell',AM]) fun w52 S53 h8=>?_
  replace h8:Lc 3 w52 O39 g4 32 [(.int .i64 0),(.slice none 0 0),(.int .i64 0),(.int .i64 0)]:=h8
  refine o_as rfl rfl (o_z ?_)
  refine Au ?_
  replace h11:=(h11.st S40).st S53
  replace h14:=(h14.st S40).st S53
  replace h18:=(h18.st S40).st S53
  replace h22:=(h22.st S40).st S53
  replace h26:=(h26.st S40).st S53
  replace h33:=(h33.st S40).st S53
  replace h43:=h43.st S53
  obtain ⟨O54,S55,hz57,ha58,h56⟩:=Spc.shut (x:=x0) (l0:=2) (l1:=4) (by decide) h11 h14 h18 h22 h26 h43 h33
  obtain rfl:=sm hm
  replace hB:=((((hB.st S7).st S10).st S40).st S53).st S55
  obtain ⟨O',hS',hz,hl⟩:=hE.leave (fun q=>if q=2 then i0 else 0) rfl hB
  replace h8:=h8.st S55
  exact ret2 rfl (BK (cs:=[(.int .i64 0),(.slice none 0 0),(.int .i64 0),(.int .i64 0)]) rfl rfl h8.1.cellsAt) (AG rfl) ⟨O',hS',_,_,(Ob.leave h56 hz (hl 2 (by decide) (by decide)) hx0.2),rfl,(Vb.mono (Vb.ofAgg (cs:=[(.int .i64 0),(.slice none 0 0),(.int .i64 0),(.int .i64 0)]) (x:=(⟨0,([]:List Int),0,0⟩:Rsl)) rfl ⟨_,rfl,(Vb.nil _ _),(show inI64 0 from by decide),(show inI64 0 from by decide),(show inI64 0 from by decide)⟩) hz),(vErr r50)⟩
 ·
  replace hm:=im hm c51
  refine o_z ?_
  refine Aj rfl (Am (Ah (Ae (o_mv rfl rfl (o_mv rfl rfl (o_bd rfl rfl rfl ?_))))))
  refine BJ 5 O39 rfl fun g59 w60 O61 S62 h63=>?_
  refine AQ h63 rfl rfl rfl (Nat.le_of_ble_eq_true rfl) (by first|exact allOne rfl|simp [Value.cells,Value.oneCell',AM]) fun w64 S65 h63=>?_
  replace h63:Lc 5 w64 O61 g59 32 [(.int .i64 1),(.slice A48 q36.1.length c49),(.int .i64 0),(.int .i64 x2)]:=h63
  refine o_z ?_
  refine Ah (Ah (Ae (o_mv rfl rfl (o_ln rfl rfl ?_))))
  replace h46:=(h46.st S62).st S65
  have l67:q36.1.length≤9223372036854775807:=Nat.le_trans h46.len.2.1 h46.len.2.2
  have r66:inI64 (q36.1.length:Int):=rngNat l67
  refine o_mv rfl rfl (o_z ?_)
  replace h11:=((h11.st S40).st S62).st S65
  replace h14:=((h14.st S40).st S62).st S65
  replace h18:=((h18.st S40).st S62).st S65
  replace h22:=((h22.st S40).st S62).st S65
  replace h26:=((h26.st S40).st S62).st S65
  replace h33:=((h33.st S40).st S62).st S65
  replace h43:=(h43.st S62).st S65
  obtain ⟨O68,S69,hz71,ha72,h70⟩:=Spc.shut (x:=x0) (l0:=2) (l1:=4) (by decide) h11 h14 h18 h22 h26 h43 h33
  obtain ⟨res73,hL74,hm⟩:=bs hm
  refine AN (aft res73 (fun (s75:Int) (x76:Unit)=>[(6,(.pointer (some ⟨g4,0,none⟩))),(10,(.pointer (some ⟨g59,0,none⟩)))]) (fun s75 x76 w'=>∃ O':Lab,Bm w O0 w' O'∧Lc 3 w' O' g4 32 [(.int .i64 0),(.slice none 0 0),(.int .i64 0),(.int .i64 0)]∧Lc 5 w' O' g59 32 [(.int .i64 1),(.slice A48 q36.1.length c49),(.int .i64 s75),(.int .i64 x2)]∧Vb w' (Fr 0 w' O') (.slice A48 q36.1.length c49) q36.1∧Ob 2 w' O' (.pointer (some ⟨p0,0,none⟩)) x0∧inI64 s75)) ?_ ?_
  ·
   refine Al ?_
   replace hB:=(((((hB.st S7).st S10).st S40).st S62).st S65).st S69
   replace h8:=((((h8.st S10).st S40).st S62).st S65).st S69
   replace h46:=h46.st S69
   replace h63:=h63.st S69
   refine BD (σ:=Int) (X:=Unit) (q36.1.length) hL74 rfl l67 (fun (s75:Int) (x76:Unit)=>[(0,(.pointer (some ⟨p0,0,none⟩))),(6,(.pointer (some ⟨g4,0,none⟩))),(10,(.pointer (some ⟨g59,0,none⟩))),(29,(.slice A48 q36.1.length c49))]) _ (fun s75 x76 w'=>∃ O':Lab,Bm w O0 w' O'∧Ob 2 w' O' (.pointer (some ⟨p0,0,none⟩)) x0∧Lc 3 w' O' g4 32 [(.int .i64 0),(.slice none 0 0),(.int .i64 0),(.int .i64 0)]∧Lc 5 w' O' g59 32 [(.int .i64 1),(.slice A48 q36.1.length c49),(.int .i64 s75),(.int .i64 x2)]∧Vb w' (Fr 0 w' O') (.slice A48 q36.1.length c49) q36.1∧inI64 s75) _ () ⟨O68,hB,h70,h8,h63,h46,(show inI64 0 from by decide)⟩ ⟨rfl,rfl,rfl,rfl,rfl,rfl,trivial⟩ (fun _ _=>⟨rfl,rfl⟩) (fun _ _=>⟨rfl,rfl,trivial⟩) (fun _ _ _ ⟨O',hB,h70,h8,h63,h46,r89⟩=>⟨O',hB,h8,h63,h46,h70,r89⟩) ⟨rfl,rfl,rfl⟩ ⟨rfl,rfl⟩ ?_
   rintro k77 a78 s75 x76 w79 cc81 hx82 ⟨O80,hB,h70,h8,h63,h46,r89⟩ hf83 hret84 hbrk85
   have rk77:inI64 (k77:Int):=rngK hx82 l67
   refine Ah (Ae ?_)
   obtain ⟨b90,o91,ce92,hA93,hl94,hd95,rfl,r97⟩:=h46.elem' hx82
   refine o_iaE (hA:=hA93) (hj:=rfl) (hlt:=hl94) rfl rfl rfl ?_
   refine o_ld (hc:=cat0 hd95) rfl rfl ?_
   refine o_as rfl rfl (o_z ?_)
   obtain ⟨O98,v102,v106,v110,v114,v118,v121,S99,ha101,h100,h103,h107,h111,h115,h119,h122⟩:=Spc.opn h70 2 4 (by decide)
   obtain ⟨A104,c105,rfl⟩:=h103.form
   obtain ⟨A108,c109,rfl⟩:=h107.form
   obtain ⟨A112,c113,rfl⟩:=h111.form
   obtain ⟨A116,c117,rfl⟩:=h115.form
   obtain ⟨p120,rfl⟩:=h119.ptr
   obtain ⟨p123,rfl,hq124⟩:=h122.ptr
   refine Bt [] O98 ?_
   refine x_pre (fuel:=1) [] [(0,true),(1,true),(2,true),(3,true),(4,true),(5,true),(6,true),(7,true),(8,true),(9,true),(10,true),(11,true),(12,true)] (by kernel_rfl) rfl ?_
   refine h_fa rfl rfl rfl ?_
   replace h63:=h63.st S99
   refine h_ldC (hc:=fun w' ⟨O',hq⟩=>Blk.cell (i:=2) ((h63.st hq (by decide)).1) rfl) rfl rfl rfl ?_
   refine h_mv rfl rfl rfl (h_nc rfl rfl rfl (h_fa rfl rfl rfl (h_fa rfl rfl rfl (h_ldC (hc:=fun w' ⟨O',hq⟩=>Blk.cell (i:=3) ((h100.st hq (by decide)).1) rfl) rfl rfl rfl ?_))))
   refine h_mv rfl rfl rfl ?_
   obtain ⟨a125,e126,hf83⟩:=bs hf83
   obtain ⟨p128,x127⟩:=AO e126
   obtain ⟨b129,o130,ce131,hA132,hF135,hl133,hd134,v136,v137,rfl,h138,h141,r144,z145⟩:=h115.elem x127
   obtain ⟨A139,c140,rfl⟩:=h138.form
   obtain ⟨A142,c143,rfl⟩:=h141.form
   refine h_iaE (hA:=hA132) (hj:=(Int.toNat_of_nonneg p128).symm) (hlt:=hl133) rfl rfl rfl rfl ?_
   refine h_fa rfl rfl rfl (h_ldC (hc:=fun w' ⟨O',hq⟩=>cat1 (Bd (hq.agree (i:=0) (by decide)) hF135 hd134)) rfl rfl rfl ?_)
   obtain ⟨n146,e147,hf83⟩:=bs hf83
   have r148:=(AW e147)
   refine h_adE (he:=e147) rfl rfl rfl rfl ?_
   refine h_fa rfl rfl rfl (AK ?_)
   refine x_one (i:=13) (by kernel_rfl) rfl ?_
   refine AQ h63 rfl rfl rfl (Nat.le_of_ble_eq_true rfl) (by first|exact allOne rfl|simp [Value.cells,Value.oneCell',AM]) fun w149 S150 h63=>?_
   replace h63:Lc 5 w149 O98 g59 32 [(.int .i64 1),(.slice A48 q36.1.length c49),(.int .i64 n146),(.int .i64 x2)]:=h63
   refine x_end (by kernel_rfl) ?_
   refine x_nil (by kernel_rfl) ?_
   replace h100:=h100.st S150
   replace h103:=h103.st S150
   replace h107:=h107.st S150
   replace h111:=h111.st S150
   replace h115:=h115.st S150
   replace h119:=h119.st S150
   replace h122:=h122.st S150
   obtain ⟨O151,S152,hz154,ha155,h153⟩:=Spc.shut (x:=x0) (l0:=2) (l1:=4) (by decide) h100 h103 h107 h111 h115 h119 h122
   obtain rfl:=sm hf83
   refine (?_:Exists _)
   replace hB:=((hB.st S99).st S150).st S152
   replace h8:=((h8.st S99).st S150).st S152
   replace h46:=((h46.st S99).st S150).st S152
   replace h63:=h63.st S152
   exact ⟨_,(),rfl,⟨rfl,rfl,rfl,rfl,rfl,rfl,trivial⟩,_,hB,h153,h8,h63,h46,r148⟩
  replace hB:=(((((hB.st S7).st S10).st S40).st S62).st S65).st S69
  replace h8:=((((h8.st S10).st S40).st S62).st S65).st S69
  replace h46:=h46.st S69
  replace h63:=h63.st S69
  rintro l156 w157 ⟨s160,x161,rfl,hs159,O158,hB,h8,h63,h46,h70,r89⟩
  replace hm:=AY hm
  refine AP _ hs159 ?_
  refine Ah (Ae (o_la (hl:=rfl) (hc:=(h63.1).cellsAt) rfl rfl ?_))
  refine AQ h8 rfl rfl rfl (Nat.le_of_ble_eq_true rfl) (by first|exact allOne rfl|simp [Value.cells,Value.oneCell',AM]) fun w162 S163 h8=>?_
  replace h8:Lc 3 w162 O158 g4 32 [(.int .i64 1),(.slice A48 q36.1.length c49),(.int .i64 s160),(.int .i64 x2)]:=h8
  refine o_as rfl rfl (o_z ?_)
  refine Au ?_
  obtain rfl:=sm hm
  replace hB:=hB.st S163
  obtain ⟨O',hS',hz,hl⟩:=hE.leave (fun q=>if q=2 then i0 else 0) rfl hB
  replace h46:=h46.st S163
  replace h70:=h70.st S163
  exact ret2 rfl (BK (cs:=[(.int .i64 1),(.slice A48 q36.1.length c49),(.int .i64 s160),(.int .i64 x2)]) rfl rfl h8.1.cellsAt) (AG rfl) ⟨O',hS',_,_,(Ob.leave h70 hz (hl 2 (by decide) (by decide)) hx0.2),rfl,(Vb.mono (Vb.ofAgg (cs:=[(.int .i64 1),(.slice A48 q36.1.length c49),(.int .i64 s160),(.int .i64 x2)]) (x:=(⟨1,q36.1,s160,x2⟩:Rsl)) rfl ⟨_,rfl,h46,(show inI64 (1) from by decide),r89,rx2⟩) hz),(vErr (show inI64 0 from by decide))⟩
noncomputable def BM (x0:Int) (x1:Int):Option (Rsl×Err) :=
  some ((⟨x0,([]:List Int),0,x1⟩:Rsl),(⟨0⟩:Err))
theorem Ex {w:World} {A:Nat→Prop} (hA:∀ k,A k→k < w.heap.size) {x0:Int} (rx0:inI64 x0) {x1:Int} (rx1:inI64 x1) {r:Rsl×Err} (hm:BM x0 x1=some r) :
    Fn Tryz.prog 60 [(.int .i64 x0),(.int .i64 x1)] w fun v w'=>Ext w w'∧T2 w' (upA A w w') v r:=by
 obtain ⟨O,hB,hA0⟩:=enter hA
 refine AL Tryz.func60 rfl Tryz.ntmps60 rfl ?_
 unfold BM at hm
 refine Ah (Ae (BJ 2 O rfl fun g3 w4 O5 S6 h7=>?_))
 refine o_as rfl rfl (o_z ?_)
 refine Ah (Ae (o_mv rfl rfl (o_mv rfl rfl (o_bd rfl rfl rfl ?_))))
 refine AQ h7 rfl rfl rfl (Nat.le_of_ble_eq_true rfl) (by first|exact allOne rfl|simp [Value.cells,Value.oneCell',AM]) fun w8 S9 h7=>?_
 replace h7:Lc 2 w8 O5 g3 32 [(.int .i64 x0),(.slice none 0 0),(.int .i64 0),(.int .i64 x1)]:=h7
 refine o_as rfl rfl (o_z ?_)
 refine Au ?_
 obtain rfl:=sm hm
 replace hB:=(hB.st S6).st S9
 exact ret2 rfl (BK (cs:=[(.int .i64 x0),(.slice none 0 0),(.int .i64 0),(.int .i64 x1)]) rfl rfl h7.1.cellsAt) (AG rfl) ⟨hB.ext,_,_,rfl,(Vb.mono (F:=Fr 0 w8 O5) (Vb.ofAgg (cs:=[(.int .i64 x0),(.slice none 0 0),(.int .i64 0),(.int .i64 x1)]) (x:=(⟨x0,([]:List Int),0,x1⟩:Rsl)) rfl ⟨_,rfl,(Vb.nil _ _),rx0,(show inI64 0 from by decide),rx1⟩) hB.out),(vErr (show inI64 0 from by decide))⟩
noncomputable def BC (x0:Tsk) (x1:Int):Option (Rsl×Err) :=
  bnd (Cq x0) fun q30=>if q30.2.n≠0 then (some ((⟨0,([]:List Int),0,0⟩:Rsl),(⟨q30.2.n⟩:Err))) else (bnd q30.1 fun o68=>bnd (lop (ρ:=Rsl×Err) (fun (s78:(List Int)×(List Bool)×Int×Int×Spc×(BxR 99 97 Itm))=>bnd (Bg s78.2.2.2.2.2.l) fun q116=>if 0 < q116 then (bnd (BT s78.2.2.2.2.2) fun q130=>bnd (atI s78.2.1 q130.1.x.id) fun a152=>if a152=true then (some (.next (s78.1,s78.2.1,s78.2.2.1,s78.2.2.2.1,s78.2.2.2.2.1,q130.2))) else (bnd (Bu s78.2.2.2.2.1.reg q130.1.x.id) fun q191=>if q191.2.n≠0 then (some (.ret ((⟨0,([]:List Int),0,0⟩:Rsl),(⟨q191.2.n⟩:Err)))) else (bnd (CM x0.goal q191.1) fun q209=>if q209=true then bnd (BH s78.2.2.2.2.1 q130.1.x.id s78.2.2.2.1) fun q581=>some (.ret (q581.1,(⟨q581.2.n⟩:Err))) else if x1≤s78.2.2.2.1 then (bnd (BM 3 s78.2.2.2.1) fun q217=>some (.ret (q217.1,(⟨q217.2.n⟩:Err)))) else (bnd (atI s78.2.1 q130.1.x.id) fun a239=>bnd (chkI (s78.2.2.2.1 + 1)) fun n252=>bnd (AZ s78.2.2.2.2.1.gen q191.1) fun q255=>bnd (rng (ρ:=Ctl ((List Int)×(List Bool)×Int×Int×Spc×(BxR 99 97 Itm)) (Rsl×Err)) (fun (k275:Nat) (a276:Suc) (s273:(List Int)×(List Bool)×Int×Spc×(BxR 99 97 Itm))=>bnd (Bj s273.2.2.2.1.reg a276.state) fun q346=>if q346.2.2.1.n≠0 then (bnd (BM 3 n252) fun q363=>some (.ret (.ret (q363.1,(⟨q363.2.n⟩:Err))))) else (bnd (atI x0.ops a276.op) fun a385=>bnd (chkI (q130.1.x.cost + a385.cost)) fun n406=>bnd (if q346.2.1=true then (bnd (appI 8 s273.1 [n406]) fun u418=>bnd (appI 1 s273.2.1 [false]) fun u430=>some (.done (u418,u430))) else (bnd (bnd (atI s273.2.1 q346.1) fun a451=>if a451=true then (some true) else (bnd (atI s273.1 q346.1) fun a468=>if a468≤n406 then (some true) else (some false)):Option Bool) fun y447=>if y447=true then (some (.ret (.next (s273.1,s273.2.1,s273.2.2.1,(⟨(⟨s273.2.2.2.1.t.vars,s273.2.2.2.1.t.init,s273.2.2.2.1.t.goal,s273.2.2.2.1.t.ops⟩:Tsk),q346.2.2.2,s273.2.2.2.1.gen⟩:Spc),s273.2.2.2.2)))) else (some (.done (s273.1,s273.2.1)))):Option (Fin ((List Int)×(List Bool)) (Ctl ((List Int)×(List Bool)×Int×Spc×(BxR 99 97 Itm)) (Ctl ((List Int)×(List Bool)×Int×Int×Spc×(BxR 99 97 Itm)) (Rsl×Err))))) fun y409=>fin y409 fun (s411:(List Int)×(List Bool))=>bnd (atI s411.1 q346.1) fun a500=>bnd (Bn ((⟨(⟨s273.2.2.2.1.t.vars,s273.2.2.2.1.t.init,s273.2.2.2.1.t.goal,s273.2.2.2.1.t.ops⟩:Tsk),q346.2.2.2,s273.2.2.2.1.gen⟩:Spc).reg) q346.1 q130.1.x.id a276.op n406) fun q541=>if q541.1.n≠0 then (some (.ret (.ret ((⟨0,([]:List Int),0,0⟩:Rsl),(⟨q541.1.n⟩:Err))))) else (bnd (BS s273.2.2.2.2 (⟨(⟨n406,s273.2.2.1,q346.1⟩:Itm)⟩:An 97 Itm)) fun q554=>bnd (chkI (s273.2.2.1 + 1)) fun n562=>some (.next ((s411.1.set (q346.1:Int).toNat n406),s411.2,n562,(⟨(⟨(⟨(⟨s273.2.2.2.1.t.vars,s273.2.2.2.1.t.init,s273.2.2.2.1.t.goal,s273.2.2.2.1.t.ops⟩:Tsk),q346.2.2.2,s273.2.2.2.1.gen⟩:Spc).t.vars,(⟨(⟨s273.2.2.2.1.t.vars,s273.2.2.2.1.t.init,s273.2.2.2.1.t.goal,s273.2.2.2.1.t.ops⟩:Tsk),q346.2.2.2,s273.2.2.2.1.gen⟩:Spc).t.init,(⟨(⟨s273.2.2.2.1.t.vars,s273.2.2.2.1.t.init,s273.2.2.2.1.t.goal,s273.2.2.2.1.t.ops⟩:Tsk),q346.2.2.2,s273.2.2.2.1.gen⟩:Spc).t.goal,(⟨(⟨s273.2.2.2.1.t.vars,s273.2.2.2.1.t.init,s273.2.2.2.1.t.goal,s273.2.2.2.1.t.ops⟩:Tsk),q346.2.2.2,s273.2.2.2.1.gen⟩:Spc).t.ops⟩:Tsk),q541.2,(⟨(⟨s273.2.2.2.1.t.vars,s273.2.2.2.1.t.init,s273.2.2.2.1.t.goal,s273.2.2.2.1.t.ops⟩:Tsk),q346.2.2.2,s273.2.2.2.1.gen⟩:Spc).gen⟩:Spc),q554))))) q255 0 (s78.1,(s78.2.1.set (q130.1.x.id:Int).toNat true),s78.2.2.1,s78.2.2.2.2.1,q130.2)) fun res271=>fin res271 fun (s574:(List Int)×(List Bool)×Int×Spc×(BxR 99 97 Itm))=>some (.next (s574.1,s574.2.1,s574.2.2.1,n252,s574.2.2.2.1,s574.2.2.2.2)))))) else (some (.brk (s78.1,s78.2.1,s78.2.2.1,s78.2.2.2.1,s78.2.2.2.2.1,s78.2.2.2.2.2)))) (([0]:List Int),[false],1,0,o68,(⟨[(⟨0,0,0⟩:Itm)]⟩:BxR 99 97 Itm))) fun res76=>fin res76 fun (s613:(List Int)×(List Bool)×Int×Int×Spc×(BxR 99 97 Itm))=>bnd (BM 2 s613.2.2.2.1) fun q615=>some (q615.1,(⟨q615.2.n⟩:Err)))
set_option maxHeartbeats 1000000 in
theorem Ik {w:World} {A:Nat→Prop} (hA:∀ k,A k→k < w.heap.size) {vx0:Value} {x0:Tsk} (hx0:Vb w A vx0 x0) {x1:Int} (rx1:inI64 x1) {r:Rsl×Err} (hm:BC x0 x1=some r) :
    Fn Tryz.prog 31 [vx0,(.int .i64 x1)] w fun v w'=>Ext w w'∧T2 w' (upA A w w') v r:=by
 obtain ⟨O,hB,hA0⟩:=enter hA
 replace hx0:=hx0.mono hA0
 obtain ⟨cs3,rfl,v4,v5,v6,v7,rfl,h8,h11,h14,h17⟩:=hx0
 obtain ⟨A9,c10,rfl⟩:=h8.form
 obtain ⟨A12,c13,rfl⟩:=h11.form
 obtain ⟨A15,c16,rfl⟩:=h14.form
 obtain ⟨A18,c19,rfl⟩:=h17.form
 refine AL Tryz.func31 rfl Tryz.ntmps31 rfl ?_
 unfold BC at hm
 refine Ah (Ae (l_box 2 O rfl rfl fun g20 w21 O22 S23 h24=>?_))
 replace h24:Lc 2 w21 O22 g20 26 [(.slice A9 x0.vars.length c10),(.slice A12 x0.init.length c13),(.slice A15 x0.goal.length c16),(.slice A18 x0.ops.length c19)]:=h24
 refine BJ 3 O22 rfl fun g25 w26 O27 S28 h29=>?_
 refine o_as rfl rfl (o_z ?_)
 refine Ah (Ae ?_)
 replace h24:=h24.st S28
 refine o_la (hl:=rfl) (hc:=(h24.1).cellsAt) rfl rfl ?_
 obtain ⟨q30,e31,hm⟩:=bs hm
 replace h8:=(h8.st S23).st S28
 replace h11:=(h11.st S23).st S28
 replace h14:=(h14.st S23).st S28
 replace h17:=(h17.st S23).st S28
 refine BZ (O:=O27) (Jk (Vb.ofAgg (cs:=[(.slice A9 x0.vars.length c10),(.slice A12 x0.init.length c13),(.slice A15 x0.goal.length c16),(.slice A18 x0.ops.length c19)]) (x:=x0) rfl ⟨_,_,_,_,rfl,h8,h11,h14,h17⟩) 4 (by decide) e31) rfl rfl fun v36 w32 O33 S34 h35=>?_
 obtain ⟨v37,v38,rfl,h39,h40⟩:=h35
 obtain ⟨rfl,r41⟩:=h40.err
 refine o_mv rfl rfl (o_ex rfl rfl rfl (o_ex rfl rfl rfl (o_as rfl rfl (o_as rfl rfl (o_z ?_)))))
 refine Ah (Ah (Ae (o_mv rfl rfl (o_rnS rfl rfl (fun c42=>?_) fun c42=>?_))))
 ·
  replace hm:=ip hm c42
  refine o_z ?_
  refine Ar rfl (Ah (Ae (o_bd rfl rfl rfl ?_)))
  refine o_mv rfl rfl ?_
  replace h29:=h29.st S34
  refine AQ h29 rfl rfl rfl (Nat.le_of_ble_eq_true rfl) (by first|exact allOne rfl|simp [Value.cells,Value.oneCell',AM]) fun w43 S44 h29=>?_
  replace h29:Lc 3 w43 O33 g25 32 [(.int .i64 0),(.slice none 0 0),(.int .i64 0),(.int .i64 0)]:=h29
  refine o_as rfl rfl (o_z ?_)
  refine Au ?_
  obtain rfl:=sm hm
  replace hB:=(((hB.st S23).st S28).st S34).st S44
  exact ret2 rfl (BK (cs:=[(.int .i64 0),(.slice none 0 0),(.int .i64 0),(.int .i64 0)]) rfl rfl h29.1.cellsAt) (AG rfl) ⟨hB.ext,_,_,rfl,(Vb.mono (F:=Fr 0 w43 O33) (Vb.ofAgg (cs:=[(.int .i64 0),(.slice none 0 0),(.int .i64 0),(.int .i64 0)]) (x:=(⟨0,([]:List Int),0,0⟩:Rsl)) rfl ⟨_,rfl,(Vb.nil _ _),(show inI64 0 from by decide),(show inI64 0 from by decide),(show inI64 0 from by decide)⟩) hB.out),(vErr r41)⟩
 ·
  replace hm:=im hm c42
  refine o_z ?_
  refine Aj rfl (Am (Ah (Ae (Bf 5 (by decide) O33 (xs:=(([0]:List Int):List Int)) rfl rfl rfl rfl ⟨(vInt (show inI64 (0) from by decide)),trivial⟩ (by decide) (by decide) rfl fun g45 w46 O47 S48 h49=>?_))))
  refine Bf 6 (by decide) O47 (xs:=([false]:List Bool)) rfl rfl rfl rfl ⟨vBool,trivial⟩ (by decide) (by decide) rfl fun g51 w52 O53 S54 h55=>?_
  refine o_as rfl rfl (o_as rfl rfl (o_z ?_))
  refine Ah (Ae (o_bd rfl rfl rfl ?_))
  refine Bf 7 (by decide) O53 (xs:=([(⟨0,0,0⟩:Itm)]:List Itm)) rfl rfl rfl rfl ⟨(Vb.ofAgg (cs:=[(.int .i64 0),(.int .i64 0),(.int .i64 0)]) (x:=(⟨0,0,0⟩:Itm)) rfl ⟨rfl,(show inI64 0 from by decide),(show inI64 0 from by decide),(show inI64 0 from by decide)⟩),trivial⟩ (by decide) (by decide) rfl fun g57 w58 O59 S60 h61=>?_
  refine l_box 8 O59 rfl rfl fun g63 w64 O65 S66 h67=>?_
  refine o_as rfl rfl (o_z ?_)
  refine Ah (Ae (o_as rfl rfl (o_as rfl rfl (o_z ?_))))
  refine Ah ?_
  obtain ⟨o68,e69,hm⟩:=bs hm
  replace h39:=(((h39.st S48).st S54).st S60).st S66
  rw [e69] at h39
  obtain ⟨p70,rfl⟩:=Ob.ptr h39
  replace h61:=h61.st S66
  obtain ⟨O71,S72,hz74,ha75,h73⟩:=BxR.shut (x:=(⟨[(⟨0,0,0⟩:Itm)]⟩:BxR 99 97 Itm)) (l0:=8) (l1:=7) (by decide) h67 h61
  obtain ⟨res76,hL77,hm⟩:=bs hm
  refine AN (aft res76 (fun (s78:(List Int)×(List Bool)×Int×Int×Spc×(BxR 99 97 Itm)) (x79:(Option Addr×Nat)×(Option Addr×Nat))=>[(4,(.pointer (some ⟨g25,0,none⟩))),(12,(.int .i64 s78.2.2.2.1))]) (fun s78 x79 w'=>∃ O':Lab,Bs w A w' O'∧Lc 3 w' O' g25 32 [(.int .i64 0),(.slice none 0 0),(.int .i64 0),(.int .i64 0)]∧inI64 s78.2.2.1∧inI64 s78.2.2.2.1)) ?_ ?_
  ·
   refine Al ?_
   replace hB:=(((((((hB.st S23).st S28).st S34).st S48).st S54).st S60).st S66).st S72
   replace h8:=(((((h8.st S34).st S48).st S54).st S60).st S66).st S72
   replace h11:=(((((h11.st S34).st S48).st S54).st S60).st S66).st S72
   replace h14:=(((((h14.st S34).st S48).st S54).st S60).st S66).st S72
   replace h17:=(((((h17.st S34).st S48).st S54).st S60).st S66).st S72
   replace h24:=(((((h24.st S34).st S48).st S54).st S60).st S66).st S72
   replace h29:=(((((h29.st S34).st S48).st S54).st S60).st S66).st S72
   replace h39:=h39.st S72
   replace h49:=(((h49.st S54).st S60).st S66).st S72
   replace h55:=((h55.st S60).st S66).st S72
   refine EX (σ:=(List Int)×(List Bool)×Int×Int×Spc×(BxR 99 97 Itm)) (X:=(Option Addr×Nat)×(Option Addr×Nat)) hL77 (fun (s78:(List Int)×(List Bool)×Int×Int×Spc×(BxR 99 97 Itm)) (x79:(Option Addr×Nat)×(Option Addr×Nat))=>[(1,(.int .i64 x1)),(2,(.pointer (some ⟨g20,0,none⟩))),(4,(.pointer (some ⟨g25,0,none⟩))),(6,(.pointer (some ⟨p70,0,none⟩))),(8,(.slice x79.1.1 s78.1.length x79.1.2)),(9,(.slice x79.2.1 s78.2.1.length x79.2.2)),(10,(.pointer (some ⟨g63,0,none⟩))),(11,(.int .i64 s78.2.2.1)),(12,(.int .i64 s78.2.2.2.1))]) _ (fun s78 x79 w'=>∃ O':Lab,Bs w A w' O'∧Lc 2 w' O' g20 26 [(.slice A9 x0.vars.length c10),(.slice A12 x0.init.length c13),(.slice A15 x0.goal.length c16),(.slice A18 x0.ops.length c19)]∧Vb w' (Fr 0 w' O') (.slice A9 x0.vars.length c10) x0.vars∧Vb w' (Fr 0 w' O') (.slice A12 x0.init.length c13) x0.init∧Vb w' (Fr 0 w' O') (.slice A15 x0.goal.length c16) x0.goal∧Vb w' (Fr 0 w' O') (.slice A18 x0.ops.length c19) x0.ops∧Lc 3 w' O' g25 32 [(.int .i64 0),(.slice none 0 0),(.int .i64 0),(.int .i64 0)]∧Ob 4 w' O' (.pointer (some ⟨p70,0,none⟩)) s78.2.2.2.2.1∧Rw 5 w' O' 3 (.slice x79.1.1 s78.1.length x79.1.2) s78.1∧Rw 6 w' O' 4 (.slice x79.2.1 s78.2.1.length x79.2.2) s78.2.1∧Ob 8 w' O' (.pointer (some ⟨g63,0,none⟩)) s78.2.2.2.2.2∧inI64 s78.2.2.1∧inI64 s78.2.2.2.1) _ (((some ⟨g45,0,none⟩),1),((some ⟨g51,0,none⟩),1)) ⟨O71,hB,h24,h8,h11,h14,h17,h29,h39,h49,h55,h73,(show inI64 (1) from by decide),(show inI64 (0) from by decide)⟩ ⟨rfl,rfl,rfl,rfl,rfl,rfl,rfl,rfl,rfl,trivial⟩ ?_
   rintro s78 x79 w82 cc84 ⟨O83,hB,h24,h8,h11,h14,h17,h29,h105,h99,h101,h106,r103,r104⟩ hf86 hret87 hbrk88
   refine Ah (Ah (Ae (o_mv rfl rfl (o_nc rfl rfl ?_))))
   obtain ⟨O107,v111,S108,ha110,h109,h112⟩:=BxR.opn h106 8 9 (by decide)
   obtain ⟨A113,c114,rfl⟩:=h112.form
   refine o_ld (hc:=Blk.cell (i:=0) (h109.1) rfl) rfl rfl ?_
   obtain ⟨q116,e117,hf86⟩:=bs hf86
   refine BP (O:=O107) (A:=All w82) (R:=fun w' F v=>Vb w' F v q116) (DR (fun _ h=>h) (h112).all e117) rfl rfl fun v122 w118 O119 S120 h121=>?_
   obtain ⟨rfl,r123⟩:=h121.int
   refine o_gtS rfl rfl rfl (fun c124=>?_) fun c124=>?_
   ·
    replace hf86:=ip hf86 c124
    refine o_z ?_
    refine Ar rfl (Am (Al (Ah (Ae (o_mv rfl rfl (o_miA rfl rfl ?_))))))
    replace h109:=h109.st S120
    replace h112:=h112.st S120
    obtain ⟨O125,S126,hz128,ha129,h127⟩:=BxR.shut (x:=s78.2.2.2.2.2) (l0:=8) (l1:=9) (by decide) h109 h112
    obtain ⟨q130,e131,hf86⟩:=bs hf86
    refine BZ (O:=O125) (GR h127 e131) rfl rfl fun v136 w132 O133 S134 h135=>?_
    obtain ⟨h137,h138⟩:=h135
    obtain ⟨v139,rfl,h140⟩:=h138.any
    obtain ⟨cs141,rfl,rfl,r142,r143,r144⟩:=h140
    refine o_taA rfl rfl ?_
    refine o_mv rfl rfl (o_ex rfl rfl rfl (o_ex rfl rfl rfl (BJ 10 O133 rfl fun g145 w146 O147 S148 h149=>?_)))
    refine AQ h149 rfl rfl rfl (Nat.le_of_ble_eq_true rfl) (by first|exact allOne rfl|simp [Value.cells,Value.oneCell',AM]) fun w150 S151 h149=>?_
    replace h149:Lc 10 w150 O147 g145 97 [(.int .i64 q130.1.x.cost),(.int .i64 q130.1.x.order),(.int .i64 q130.1.x.id)]:=h149
    refine o_as rfl rfl (o_z ?_)
    refine Ah (Ah (Ae (o_mv rfl rfl (o_fa rfl rfl (o_ld (hc:=Blk.cell (i:=2) (h149.1) rfl) rfl rfl ?_)))))
    obtain ⟨a152,e153,hf86⟩:=bs hf86
    obtain ⟨p155,x154⟩:=AO e153
    replace h101:=(((((h101.st S108).st S120).st S126).st S134).st S148).st S151
    obtain ⟨b156,o157,ce158,hA159,hl160,hd161,rfl⟩:=h101.elem x154
    refine o_iaE (hA:=hA159) (hj:=(Int.toNat_of_nonneg p155).symm) (hlt:=hl160) rfl rfl rfl ?_
    refine o_ld (hc:=cat0 hd161) rfl rfl ?_
    refine o_z ?_
    refine Cm rfl (fun c163=>?_) (fun c163=>?_)
    ·
     replace hf86:=ip hf86 c163
     refine At ?_
     obtain rfl:=sm hf86
     refine (?_:Exists _)
     replace hB:=(((((hB.st S108).st S120).st S126).st S134).st S148).st S151
     replace h8:=(((((h8.st S108).st S120).st S126).st S134).st S148).st S151
     replace h11:=(((((h11.st S108).st S120).st S126).st S134).st S148).st S151
     replace h14:=(((((h14.st S108).st S120).st S126).st S134).st S148).st S151
     replace h17:=(((((h17.st S108).st S120).st S126).st S134).st S148).st S151
     replace h24:=(((((h24.st S108).st S120).st S126).st S134).st S148).st S151
     replace h29:=(((((h29.st S108).st S120).st S126).st S134).st S148).st S151
     replace h99:=(((((h99.st S108).st S120).st S126).st S134).st S148).st S151
     replace h105:=(((((h105.st S108).st S120).st S126).st S134).st S148).st S151
     replace h137:=(h137.st S148).st S151
     exact ⟨_,((x79.1.1,x79.1.2),(x79.2.1,x79.2.2)),rfl,⟨rfl,rfl,rfl,rfl,rfl,rfl,rfl,rfl,rfl,trivial⟩,_,hB,h24,h8,h11,h14,h17,h29,h105,h99,h101,h137,r103,r104⟩
    ·
     replace hf86:=im' hf86 c163
     refine Am (Ah ?_)
     replace h105:=(((((h105.st S108).st S120).st S126).st S134).st S148).st S151
     obtain ⟨O164,v168,v172,v176,v180,v184,v187,S165,ha167,h166,h169,h173,h177,h181,h185,h188⟩:=Spc.opn h105 4 11 (by decide)
     obtain ⟨A170,c171,rfl⟩:=h169.form
     obtain ⟨A174,c175,rfl⟩:=h173.form
     obtain ⟨A178,c179,rfl⟩:=h177.form
     obtain ⟨A182,c183,rfl⟩:=h181.form
     obtain ⟨p186,rfl⟩:=h185.ptr
     obtain ⟨p189,rfl,hq190⟩:=h188.ptr
     refine Bt [(6,[11])] O164 ?_
     refine x_pre (fuel:=6) [] [(0,true),(1,true),(2,true),(3,true),(4,true),(5,true)] (by kernel_rfl) rfl ?_
     refine h_mv rfl rfl rfl (h_nc rfl rfl rfl (h_fa rfl rfl rfl (h_ldC (hc:=fun w' ⟨O',hq⟩=>Blk.cell (i:=4) ((h166.st hq (by decide)).1) rfl) rfl rfl rfl ?_)))
     refine h_fa rfl rfl rfl ?_
     replace h149:=h149.st S165
     refine h_ldC (hc:=fun w' ⟨O',hq⟩=>Blk.cell (i:=2) ((h149.st hq (by decide)).1) rfl) rfl rfl rfl ?_
     refine AK ?_
     refine x_one (i:=6) (by kernel_rfl) rfl ?_
     obtain ⟨q191,e192,hf86⟩:=bs hf86
     refine BZ (O:=O164) (Fw h185 r144 e192) rfl rfl fun v197 w193 O194 S195 h196=>?_
     obtain ⟨v199,v200,h198,rfl,h201,h202⟩:=h196
     obtain ⟨A203,c204,rfl⟩:=h201.form
     obtain ⟨rfl,r205⟩:=h202.err
     have hZ:=S195.lst [11] (fun _ h=>by cases h;decide)
     refine x_go [] hZ (by kernel_rfl) ?_
     refine x_pre (fuel:=0) [] [(7,true),(8,true),(9,true),(10,true),(11,true)] (by kernel_rfl) rfl ?_
     refine h_mv rfl rfl rfl (h_ex rfl rfl rfl rfl (h_ex rfl rfl rfl rfl (h_as rfl rfl rfl (h_as rfl rfl rfl (AK ?_)))))
     refine x_nil (by kernel_rfl) ?_
     refine Ah (Ah (Ae (o_mv rfl rfl (o_rnS rfl rfl (fun c206=>?_) fun c206=>?_))))
     ·
      replace hf86:=ip hf86 c206
      refine o_z ?_
      refine Ar rfl (Ah (Ae (o_bd rfl rfl rfl ?_)))
      refine o_mv rfl rfl ?_
      replace h29:=(((((((h29.st S108).st S120).st S126).st S134).st S148).st S151).st S165).st S195
      refine AQ h29 rfl rfl rfl (Nat.le_of_ble_eq_true rfl) (by first|exact allOne rfl|simp [Value.cells,Value.oneCell',AM]) fun w207 S208 h29=>?_
      replace h29:Lc 3 w207 O194 g25 32 [(.int .i64 0),(.slice none 0 0),(.int .i64 0),(.int .i64 0)]:=h29
      refine o_as rfl rfl (o_z ?_)
      refine Au ?_
      obtain rfl:=sm hf86
      obtain rfl:=hret87 _ rfl
      obtain rfl:=sm (Cv hm)
      replace hB:=((((((((hB.st S108).st S120).st S126).st S134).st S148).st S151).st S165).st S195).st S208
      exact ret2 rfl (BK (cs:=[(.int .i64 0),(.slice none 0 0),(.int .i64 0),(.int .i64 0)]) rfl rfl h29.1.cellsAt) (AG rfl) ⟨hB.ext,_,_,rfl,(Vb.mono (F:=Fr 0 w207 O194) (Vb.ofAgg (cs:=[(.int .i64 0),(.slice none 0 0),(.int .i64 0),(.int .i64 0)]) (x:=(⟨0,([]:List Int),0,0⟩:Rsl)) rfl ⟨_,rfl,(Vb.nil _ _),(show inI64 0 from by decide),(show inI64 0 from by decide),(show inI64 0 from by decide)⟩) hB.out),(vErr r205)⟩
     ·
      replace hf86:=im hf86 c206
      refine o_z ?_
      refine Aj rfl (Am (Ah (Ah (Ae (o_fa rfl rfl ?_)))))
      replace h24:=(((((((h24.st S108).st S120).st S126).st S134).st S148).st S151).st S165).st S195
      refine o_ld (hc:=Blk.cell (i:=2) (h24.1) rfl) rfl rfl ?_
      refine o_mv rfl rfl ?_
      obtain ⟨q209,e210,hf86⟩:=bs hf86
      replace h14:=(((((((h14.st S108).st S120).st S126).st S134).st S148).st S151).st S165).st S195
      refine BP (O:=O194) (A:=All w193) (R:=fun w' F v=>Vb w' F v q209) (HC (fun _ h=>h) (Vb.mono (F:=Fr 0 w193 O194) h14 Fr.lt) (Vb.mono (F:=Fr 0 w193 O194) h201 Fr.lt) e210) rfl rfl fun v215 w211 O212 S213 h214=>?_
      obtain rfl:=h214.bool
      cases q209
      case false =>
       replace hf86:=iF hf86
       refine o_z ?_
       refine Aj rfl (Am (Ah (Ah (Ae (o_mv rfl rfl (o_mv rfl rfl (o_geS rfl rfl rfl (fun c216=>?_) fun c216=>?_)))))))
       ·
        replace hf86:=ip hf86 c216
        refine o_z ?_
        refine Ar rfl (Ah (Ae (o_mv rfl rfl ?_)))
        obtain ⟨q217,e218,hf86⟩:=bs hf86
        refine CY (O:=O212) (R:=fun w' F v=>T2 w' F v q217) (Ex Fr.lt (show inI64 (3) from by decide) r104 e218) rfl rfl fun v223 w219 O220 S221 h222=>?_
        obtain ⟨v224,v225,rfl,h226,h227⟩:=h222
        obtain ⟨cs228,rfl,v229,rfl,h230,r233,r234,r235⟩:=h226
        obtain ⟨A231,c232,rfl⟩:=h230.form
        obtain ⟨rfl,r236⟩:=h227.err
        refine o_ex rfl rfl rfl (o_ex rfl rfl rfl ?_)
        replace h29:=(((((((((h29.st S108).st S120).st S126).st S134).st S148).st S151).st S165).st S195).st S213).st S221
        refine AQ h29 rfl rfl rfl (Nat.le_of_ble_eq_true rfl) (by first|exact allOne rfl|simp [Value.cells,Value.oneCell',AM]) fun w237 S238 h29=>?_
        replace h29:Lc 3 w237 O220 g25 32 [(.int .i64 q217.1.verdict),(.slice A231 q217.1.plan.length c232),(.int .i64 q217.1.cost),(.int .i64 q217.1.expanded)]:=h29
        refine o_as rfl rfl (o_z ?_)
        refine Au ?_
        obtain rfl:=sm hf86
        obtain rfl:=hret87 _ rfl
        obtain rfl:=sm (Cv hm)
        replace hB:=((((((((((hB.st S108).st S120).st S126).st S134).st S148).st S151).st S165).st S195).st S213).st S221).st S238
        replace h230:=h230.st S238
        exact ret2 rfl (BK (cs:=[(.int .i64 q217.1.verdict),(.slice A231 q217.1.plan.length c232),(.int .i64 q217.1.cost),(.int .i64 q217.1.expanded)]) rfl rfl h29.1.cellsAt) (AG rfl) ⟨hB.ext,_,_,rfl,(Vb.mono (F:=Fr 0 w237 O220) (Vb.ofAgg (cs:=[(.int .i64 q217.1.verdict),(.slice A231 q217.1.plan.length c232),(.int .i64 q217.1.cost),(.int .i64 q217.1.expanded)]) (x:=q217.1) rfl ⟨_,rfl,h230,r233,r234,r235⟩) hB.out),(vErr r236)⟩
       ·
        replace hf86:=im hf86 c216
        refine o_z ?_
        refine Aj rfl (Am (Ah (Ae (o_mv rfl rfl (o_fa rfl rfl ?_)))))
        replace h149:=(h149.st S195).st S213
        refine o_ld (hc:=Blk.cell (i:=2) (h149.1) rfl) rfl rfl ?_
        obtain ⟨a239,e240,hf86⟩:=bs hf86
        obtain ⟨p242,x241⟩:=AO e240
        replace h101:=((h101.st S165).st S195).st S213
        obtain ⟨b243,o244,ce245,hA246,hl247,hd248,rfl⟩:=h101.elem x241
        refine o_iaE (hA:=hA246) (hj:=(Int.toNat_of_nonneg p242).symm) (hlt:=hl247) rfl rfl rfl ?_
        refine CG rfl h101 (a:=true) vBool hA246 rfl rfl (AJ x241) fun w250 S251 h101=>?_
        refine o_z ?_
        refine Ah (Ae (o_mv rfl rfl ?_))
        obtain ⟨n252,e253,hf86⟩:=bs hf86
        have r254:=(AW e253)
        refine o_adE (he:=e253) rfl rfl rfl ?_
        refine o_as rfl rfl (o_z ?_)
        refine Ah (Ae (o_mv rfl rfl (o_nc rfl rfl (o_fa rfl rfl ?_))))
        replace h166:=((h166.st S195).st S213).st S251
        refine o_ld (hc:=Blk.cell (i:=5) (h166.1) rfl) rfl rfl ?_
        refine o_mv rfl rfl ?_
        obtain ⟨q255,e256,hf86⟩:=bs hf86
        replace h188:=((h188.st S195).st S213).st S251
        replace h201:=(h201.st S213).st S251
        refine CY (O:=O212) (R:=fun w' F v=>Vb w' F v q255) (EO Fr.lt h188 h201 e256) rfl rfl fun v261 w257 O258 S259 h260=>?_
        obtain ⟨A262,c263,rfl⟩:=h260.form
        refine o_ln rfl rfl ?_
        have l265:q255.length≤9223372036854775807:=Nat.le_trans h260.len.2.1 h260.len.2.2
        have r264:inI64 (q255.length:Int):=rngNat l265
        refine o_mv rfl rfl (o_z ?_)
        replace h166:=h166.st S259
        replace h169:=(((h169.st S195).st S213).st S251).st S259
        replace h173:=(((h173.st S195).st S213).st S251).st S259
        replace h177:=(((h177.st S195).st S213).st S251).st S259
        replace h181:=(((h181.st S195).st S213).st S251).st S259
        replace h188:=h188.st S259
        replace h198:=((h198.st S213).st S251).st S259
        obtain ⟨O266,S267,hz269,ha270,h268⟩:=Spc.shut (x:=s78.2.2.2.2.1) (l0:=4) (l1:=11) (by decide) h166 h169 h173 h177 h181 h198 h188
        obtain ⟨res271,hL272,hf86⟩:=bs hf86
        refine AN (aft res271 (fun (s273:(List Int)×(List Bool)×Int×Spc×(BxR 99 97 Itm)) (x274:(Option Addr×Nat)×(Option Addr×Nat))=>[(1,(.int .i64 x1)),(2,(.pointer (some ⟨g20,0,none⟩))),(4,(.pointer (some ⟨g25,0,none⟩))),(6,(.pointer (some ⟨p70,0,none⟩))),(8,(.slice x274.1.1 s273.1.length x274.1.2)),(9,(.slice x274.2.1 s273.2.1.length x274.2.2)),(10,(.pointer (some ⟨g63,0,none⟩))),(11,(.int .i64 s273.2.2.1)),(12,(.int .i64 n252))]) (fun s273 x274 w'=>∃ O':Lab,Bs w A w' O'∧Lc 2 w' O' g20 26 [(.slice A9 x0.vars.length c10),(.slice A12 x0.init.length c13),(.slice A15 x0.goal.length c16),(.slice A18 x0.ops.length c19)]∧Vb w' (Fr 0 w' O') (.slice A9 x0.vars.length c10) x0.vars∧Vb w' (Fr 0 w' O') (.slice A12 x0.init.length c13) x0.init∧Vb w' (Fr 0 w' O') (.slice A15 x0.goal.length c16) x0.goal∧Vb w' (Fr 0 w' O') (.slice A18 x0.ops.length c19) x0.ops∧Lc 3 w' O' g25 32 [(.int .i64 0),(.slice none 0 0),(.int .i64 0),(.int .i64 0)]∧Ob 4 w' O' (.pointer (some ⟨p70,0,none⟩)) s273.2.2.2.1∧Rw 5 w' O' 3 (.slice x274.1.1 s273.1.length x274.1.2) s273.1∧Rw 6 w' O' 4 (.slice x274.2.1 s273.2.1.length x274.2.2) s273.2.1∧Ob 8 w' O' (.pointer (some ⟨g63,0,none⟩)) s273.2.2.2.2∧inI64 s273.2.2.1)) ?_ ?_
        ·
         refine Al ?_
         replace hB:=(((((((((((hB.st S108).st S120).st S126).st S134).st S148).st S151).st S165).st S195).st S213).st S251).st S259).st S267
         replace h8:=(((((((((((h8.st S108).st S120).st S126).st S134).st S148).st S151).st S165).st S195).st S213).st S251).st S259).st S267
         replace h11:=(((((((((((h11.st S108).st S120).st S126).st S134).st S148).st S151).st S165).st S195).st S213).st S251).st S259).st S267
         replace h14:=(((h14.st S213).st S251).st S259).st S267
         replace h17:=(((((((((((h17.st S108).st S120).st S126).st S134).st S148).st S151).st S165).st S195).st S213).st S251).st S259).st S267
         replace h24:=(((h24.st S213).st S251).st S259).st S267
         replace h29:=(((((((((((h29.st S108).st S120).st S126).st S134).st S148).st S151).st S165).st S195).st S213).st S251).st S259).st S267
         replace h99:=(((((((((((h99.st S108).st S120).st S126).st S134).st S148).st S151).st S165).st S195).st S213).st S251).st S259).st S267
         replace h101:=(h101.st S259).st S267
         replace h137:=(((((((h137.st S148).st S151).st S165).st S195).st S213).st S251).st S259).st S267
         replace h149:=((h149.st S251).st S259).st S267
         replace h260:=h260.st S267
         refine BD (σ:=(List Int)×(List Bool)×Int×Spc×(BxR 99 97 Itm)) (X:=(Option Addr×Nat)×(Option Addr×Nat)) (q255.length) hL272 rfl l265 (fun (s273:(List Int)×(List Bool)×Int×Spc×(BxR 99 97 Itm)) (x274:(Option Addr×Nat)×(Option Addr×Nat))=>[(1,(.int .i64 x1)),(2,(.pointer (some ⟨g20,0,none⟩))),(4,(.pointer (some ⟨g25,0,none⟩))),(6,(.pointer (some ⟨p70,0,none⟩))),(8,(.slice x274.1.1 s273.1.length x274.1.2)),(9,(.slice x274.2.1 s273.2.1.length x274.2.2)),(10,(.pointer (some ⟨g63,0,none⟩))),(11,(.int .i64 s273.2.2.1)),(12,(.int .i64 n252)),(13,(.pointer (some ⟨g145,0,none⟩))),(98,(.slice A262 q255.length c263))]) _ (fun s273 x274 w'=>∃ O':Lab,Bs w A w' O'∧Lc 2 w' O' g20 26 [(.slice A9 x0.vars.length c10),(.slice A12 x0.init.length c13),(.slice A15 x0.goal.length c16),(.slice A18 x0.ops.length c19)]∧Vb w' (Fr 0 w' O') (.slice A9 x0.vars.length c10) x0.vars∧Vb w' (Fr 0 w' O') (.slice A12 x0.init.length c13) x0.init∧Vb w' (Fr 0 w' O') (.slice A15 x0.goal.length c16) x0.goal∧Vb w' (Fr 0 w' O') (.slice A18 x0.ops.length c19) x0.ops∧Lc 3 w' O' g25 32 [(.int .i64 0),(.slice none 0 0),(.int .i64 0),(.int .i64 0)]∧Ob 4 w' O' (.pointer (some ⟨p70,0,none⟩)) s273.2.2.2.1∧Rw 5 w' O' 3 (.slice x274.1.1 s273.1.length x274.1.2) s273.1∧Rw 6 w' O' 4 (.slice x274.2.1 s273.2.1.length x274.2.2) s273.2.1∧Ob 8 w' O' (.pointer (some ⟨g63,0,none⟩)) s273.2.2.2.2∧Lc 10 w' O' g145 97 [(.int .i64 q130.1.x.cost),(.int .i64 q130.1.x.order),(.int .i64 q130.1.x.id)]∧Vb w' (Fr 0 w' O') (.slice A262 q255.length c263) q255∧inI64 s273.2.2.1) _ ((x79.1.1,x79.1.2),(x79.2.1,x79.2.2)) ⟨O266,hB,h24,h8,h11,h14,h17,h29,h268,h99,h101.relen,h137,h149,h260,r103⟩ ⟨rfl,rfl,rfl,rfl,rfl,rfl,rfl,(congrArg (fun n=>some (Value.slice _ n _)) ((by simp:(s78.2.1.set (q130.1.x.id:Int).toNat true).length=s78.2.1.length).trans rfl).symm),rfl,rfl,rfl,rfl,rfl,trivial⟩ (fun _ _=>⟨rfl,rfl⟩) (fun _ _=>⟨rfl,rfl,rfl,rfl,rfl,rfl,rfl,rfl,rfl,trivial⟩) (fun _ _ _ ⟨O',hB,h24,h8,h11,h14,h17,h29,h298,h293,h295,h299,h149,h260,r297⟩=>⟨O',hB,h24,h8,h11,h14,h17,h29,h298,h293,h295,h299,r297⟩) ⟨rfl,rfl,rfl⟩ ⟨rfl,rfl⟩ ?_
         rintro k275 a276 s273 x274 w277 cc279 hx280 ⟨O278,hB,h24,h8,h11,h14,h17,h29,h298,h293,h295,h299,h149,h260,r297⟩ hf281 hret282 hbrk283
         have rk275:inI64 (k275:Int):=rngK hx280 l265
         refine Ah (Ae ?_)
         obtain ⟨b300,o301,ce302,hA303,hl304,hd305,v307,rfl,h308,r311⟩:=h260.elem' hx280
         obtain ⟨A309,c310,rfl⟩:=h308.form
         refine o_iaE (hA:=hA303) (hj:=rfl) (hlt:=hl304) rfl rfl rfl ?_
         refine o_la (hl:=rfl) (hc:=hd305) rfl rfl ?_
         refine BJ 12 O278 rfl fun g312 w313 O314 S315 h316=>?_
         refine AQ h316 rfl rfl rfl (Nat.le_of_ble_eq_true rfl) (by first|exact allOne rfl|simp [Value.cells,Value.oneCell',AM]) fun w317 S318 h316=>?_
         replace h316:Lc 12 w317 O314 g312 112 [(.int .i64 a276.op),(.slice A309 a276.state.length c310)]:=h316
         refine o_z ?_
         refine Ah ?_
         replace h298:=(h298.st S315).st S318
         obtain ⟨O319,v323,v327,v331,v335,v339,v342,S320,ha322,h321,h324,h328,h332,h336,h340,h343⟩:=Spc.opn h298 4 11 (by decide)
         obtain ⟨A325,c326,rfl⟩:=h324.form
         obtain ⟨A329,c330,rfl⟩:=h328.form
         obtain ⟨A333,c334,rfl⟩:=h332.form
         obtain ⟨A337,c338,rfl⟩:=h336.form
         obtain ⟨p341,rfl⟩:=h340.ptr
         obtain ⟨p344,rfl,hq345⟩:=h343.ptr
         refine Bt [(6,[11])] O319 ?_
         refine x_pre (fuel:=8) [] [(0,true),(1,true),(2,true),(3,true),(4,true),(5,true)] (by kernel_rfl) rfl ?_
         refine h_mv rfl rfl rfl (h_nc rfl rfl rfl (h_fa rfl rfl rfl (h_ldC (hc:=fun w' ⟨O',hq⟩=>Blk.cell (i:=4) ((h321.st hq (by decide)).1) rfl) rfl rfl rfl ?_)))
         refine h_fa rfl rfl rfl ?_
         replace h316:=h316.st S320
         refine h_ldC (hc:=fun w' ⟨O',hq⟩=>Blk.cell (i:=1) ((h316.st hq (by decide)).1) rfl) rfl rfl rfl ?_
         refine AK ?_
         refine x_one (i:=6) (by kernel_rfl) rfl ?_
         obtain ⟨q346,e347,hf281⟩:=bs hf281
         replace h308:=((h308.st S315).st S318).st S320
         refine BZ (O:=O319) (Eh h340 h308 e347) rfl rfl fun v352 w348 O349 S350 h351=>?_
         obtain ⟨v354,v355,v356,h353,rfl,h357,h358,h359⟩:=h351
         obtain ⟨rfl,r360⟩:=h357.int
         obtain rfl:=h358.bool
         obtain ⟨rfl,r361⟩:=h359.err
         have hZ:=S350.lst [11] (fun _ h=>by cases h;decide)
         refine x_go [] hZ (by kernel_rfl) ?_
         refine x_pre (fuel:=0) [] [(7,true),(8,true),(9,true),(10,true),(11,true),(12,true),(13,true)] (by kernel_rfl) rfl ?_
         refine h_mv rfl rfl rfl (h_ex rfl rfl rfl rfl (h_ex rfl rfl rfl rfl (h_ex rfl rfl rfl rfl (h_as rfl rfl rfl (h_as rfl rfl rfl (h_as rfl rfl rfl (AK ?_)))))))
         refine x_nil (by kernel_rfl) ?_
         refine Ah (Ah (Ae (o_mv rfl rfl (o_rnS rfl rfl (fun c362=>?_) fun c362=>?_))))
         ·
          replace hf281:=ip hf281 c362
          refine o_z ?_
          refine Ar rfl (Ah (Ae (o_mv rfl rfl ?_)))
          obtain ⟨q363,e364,hf281⟩:=bs hf281
          refine CY (O:=O349) (R:=fun w' F v=>T2 w' F v q363) (Ex Fr.lt (show inI64 (3) from by decide) r254 e364) rfl rfl fun v369 w365 O366 S367 h368=>?_
          obtain ⟨v370,v371,rfl,h372,h373⟩:=h368
          obtain ⟨cs374,rfl,v375,rfl,h376,r379,r380,r381⟩:=h372
          obtain ⟨A377,c378,rfl⟩:=h376.form
          obtain ⟨rfl,r382⟩:=h373.err
          refine o_ex rfl rfl rfl (o_ex rfl rfl rfl ?_)
          replace h29:=((((h29.st S315).st S318).st S320).st S350).st S367
          refine AQ h29 rfl rfl rfl (Nat.le_of_ble_eq_true rfl) (by first|exact allOne rfl|simp [Value.cells,Value.oneCell',AM]) fun w383 S384 h29=>?_
          replace h29:Lc 3 w383 O366 g25 32 [(.int .i64 q363.1.verdict),(.slice A377 q363.1.plan.length c378),(.int .i64 q363.1.cost),(.int .i64 q363.1.expanded)]:=h29
          refine o_as rfl rfl (o_z ?_)
          refine Au ?_
          obtain rfl:=sm hf281
          obtain rfl:=hret282 _ rfl
          obtain rfl:=sm (Cv hf86)
          obtain rfl:=hret87 _ rfl
          obtain rfl:=sm (Cv hm)
          replace hB:=(((((hB.st S315).st S318).st S320).st S350).st S367).st S384
          replace h376:=h376.st S384
          exact ret2 rfl (BK (cs:=[(.int .i64 q363.1.verdict),(.slice A377 q363.1.plan.length c378),(.int .i64 q363.1.cost),(.int .i64 q363.1.expanded)]) rfl rfl h29.1.cellsAt) (AG rfl) ⟨hB.ext,_,_,rfl,(Vb.mono (F:=Fr 0 w383 O366) (Vb.ofAgg (cs:=[(.int .i64 q363.1.verdict),(.slice A377 q363.1.plan.length c378),(.int .i64 q363.1.cost),(.int .i64 q363.1.expanded)]) (x:=q363.1) rfl ⟨_,rfl,h376,r379,r380,r381⟩) hB.out),(vErr r382)⟩
         ·
          replace hf281:=im hf281 c362
          refine o_z ?_
          refine Aj rfl (Am (Ah (BV (·=w348) [(0,true),(1,true),(2,true),(3,true),(4,true),(5,true),(6,true),(7,true),(8,true),(9,true),(10,true)] (by kernel_rfl) rfl (by kernel_rfl) rfl ?_)))
          refine h_fa rfl rfl rfl ?_
          replace h149:=(((h149.st S315).st S318).st S320).st S350
          refine h_ldA (hc:=Blk.cell (i:=0) (h149.1) rfl) rfl rfl rfl ?_
          refine h_fa rfl rfl rfl ?_
          replace h24:=(((h24.st S315).st S318).st S320).st S350
          refine h_ldA (hc:=Blk.cell (i:=3) (h24.1) rfl) rfl rfl rfl ?_
          refine h_fa rfl rfl rfl ?_
          replace h316:=h316.st S350
          refine h_ldA (hc:=Blk.cell (i:=0) (h316.1) rfl) rfl rfl rfl ?_
          obtain ⟨a385,e386,hf281⟩:=bs hf281
          obtain ⟨p388,x387⟩:=AO e386
          replace h17:=(((h17.st S315).st S318).st S320).st S350
          obtain ⟨b389,o390,ce391,hA392,hl393,hd394,v396,v397,rfl,h398,h401,r404,z405⟩:=h17.elem' x387
          obtain ⟨A399,c400,rfl⟩:=h398.form
          obtain ⟨A402,c403,rfl⟩:=h401.form
          refine h_iaE (hA:=hA392) (hj:=(Int.toNat_of_nonneg p388).symm) (hlt:=hl393) rfl rfl rfl rfl ?_
          refine h_fa rfl rfl rfl (h_ldA (hc:=cat1 hd394) rfl rfl rfl ?_)
          obtain ⟨n406,e407,hf281⟩:=bs hf281
          have r408:=(AW e407)
          refine h_adE (he:=e407) rfl rfl rfl rfl ?_
          refine h_as rfl rfl rfl (h_z ?_)
          refine Ah ?_
          obtain ⟨y409,hy410,hf281⟩:=bs hf281
          refine AN (fun l' w'=>∃ (s411:(List Int)×(List Bool)) (x412:(Option Addr×Nat)×(Option Addr×Nat)) (O':Lab),y409=.done s411∧subs l' [(1,(.int .i64 x1)),(2,(.pointer (some ⟨g20,0,none⟩))),(4,(.pointer (some ⟨g25,0,none⟩))),(6,(.pointer (some ⟨p70,0,none⟩))),(8,(.slice x412.1.1 s411.1.length x412.1.2)),(9,(.slice x412.2.1 s411.2.length x412.2.2)),(10,(.pointer (some ⟨g63,0,none⟩))),(11,(.int .i64 s273.2.2.1)),(12,(.int .i64 n252)),(13,(.pointer (some ⟨g145,0,none⟩))),(18,(.pointer (some ⟨g312,0,none⟩))),(19,(.int .i64 q346.1)),(22,(.int .i64 n406)),(98,(.slice A262 q255.length c263)),(99,(.int .i64 (q255.length:Int))),(100,(.int .i64 (k275:Int)))]∧Bs w A w' O'∧Lc 2 w' O' g20 26 [(.slice A9 x0.vars.length c10),(.slice A12 x0.init.length c13),(.slice A15 x0.goal.length c16),(.slice A18 x0.ops.length c19)]∧Vb w' (Fr 0 w' O') (.slice A9 x0.vars.length c10) x0.vars∧Vb w' (Fr 0 w' O') (.slice A12 x0.init.length c13) x0.init∧Vb w' (Fr 0 w' O') (.slice A15 x0.goal.length c16) x0.goal∧Vb w' (Fr 0 w' O') (.slice A18 x0.ops.length c19) x0.ops∧Lc 3 w' O' g25 32 [(.int .i64 0),(.slice none 0 0),(.int .i64 0),(.int .i64 0)]∧Ob 4 w' O' (.pointer (some ⟨p70,0,none⟩)) (⟨(⟨s273.2.2.2.1.t.vars,s273.2.2.2.1.t.init,s273.2.2.2.1.t.goal,s273.2.2.2.1.t.ops⟩:Tsk),q346.2.2.2,s273.2.2.2.1.gen⟩:Spc)∧Rw 5 w' O' 3 (.slice x412.1.1 s411.1.length x412.1.2) s411.1∧Rw 6 w' O' 4 (.slice x412.2.1 s411.2.length x412.2.2) s411.2∧Ob 8 w' O' (.pointer (some ⟨g63,0,none⟩)) s273.2.2.2.2∧Lc 10 w' O' g145 97 [(.int .i64 q130.1.x.cost),(.int .i64 q130.1.x.order),(.int .i64 q130.1.x.id)]∧Lc 12 w' O' g312 112 [(.int .i64 a276.op),(.slice A309 a276.state.length c310)]∧Vb w' (Fr 0 w' O') (.slice A309 a276.state.length c310) a276.state∧Vb w' (Fr 0 w' O') (.slice A262 q255.length c263) q255) ?_ ?_
          ·
           refine Ah (Ae (o_mv rfl rfl (o_z ?_)))
           refine Cm rfl (fun c417=>?_) (fun c417=>?_)
           ·
            replace hy410:=ip hy410 c417
            refine Ae (o_mv rfl rfl (o_mv rfl rfl ?_))
            obtain ⟨u418,e419,hy410⟩:=bs hy410
            obtain ⟨e419,e420,e421⟩:=AU e419
            replace h293:=(((h293.st S315).st S318).st S320).st S350
            refine Cu rfl (a:=n406) h293 (vInt r408) (fun _=>rfl) rfl (by decide) (by decide) e420 e421 ⟨rfl,rfl⟩ fun g422 A423 c424 w425 O426 S427 h428=>?_
            rw [← e419] at h428 ⊢
            refine o_mv rfl rfl ?_
            obtain ⟨u430,e431,hy410⟩:=bs hy410
            obtain ⟨e431,e432,e433⟩:=AU e431
            replace h295:=((((h295.st S315).st S318).st S320).st S350).st S427
            refine Cu rfl (a:=false) h295 vBool (fun _=>rfl) rfl (by decide) (by decide) e432 e433 ⟨rfl,rfl⟩ fun g434 A435 c436 w437 O438 S439 h440=>?_
            rw [← e431] at h440 ⊢
            refine o_as rfl rfl (o_as rfl rfl (o_z ?_))
            replace h321:=((h321.st S350).st S427).st S439
            replace h324:=((h324.st S350).st S427).st S439
            replace h328:=((h328.st S350).st S427).st S439
            replace h332:=((h332.st S350).st S427).st S439
            replace h336:=((h336.st S350).st S427).st S439
            replace h343:=((h343.st S350).st S427).st S439
            replace h353:=(h353.st S427).st S439
            obtain ⟨O442,S443,hz445,ha446,h444⟩:=Spc.shut (x:=(⟨(⟨s273.2.2.2.1.t.vars,s273.2.2.2.1.t.init,s273.2.2.2.1.t.goal,s273.2.2.2.1.t.ops⟩:Tsk),q346.2.2.2,s273.2.2.2.1.gen⟩:Spc)) (l0:=4) (l1:=11) (by decide) h321 h324 h328 h332 h336 h353 h343
            obtain rfl:=sm hy410
            replace hB:=((((((hB.st S315).st S318).st S320).st S350).st S427).st S439).st S443
            replace h8:=((((((h8.st S315).st S318).st S320).st S350).st S427).st S439).st S443
            replace h11:=((((((h11.st S315).st S318).st S320).st S350).st S427).st S439).st S443
            replace h14:=((((((h14.st S315).st S318).st S320).st S350).st S427).st S439).st S443
            replace h17:=((h17.st S427).st S439).st S443
            replace h24:=((h24.st S427).st S439).st S443
            replace h29:=((((((h29.st S315).st S318).st S320).st S350).st S427).st S439).st S443
            replace h149:=((h149.st S427).st S439).st S443
            replace h260:=((((((h260.st S315).st S318).st S320).st S350).st S427).st S439).st S443
            replace h299:=((((((h299.st S315).st S318).st S320).st S350).st S427).st S439).st S443
            replace h308:=(((h308.st S350).st S427).st S439).st S443
            replace h316:=((h316.st S427).st S439).st S443
            replace h428:=(h428.st S439).st S443
            replace h440:=h440.st S443
            exact ⟨_,((A423,c424),(A435,c436)),_,rfl,⟨rfl,rfl,rfl,rfl,rfl,rfl,rfl,rfl,rfl,rfl,rfl,rfl,rfl,rfl,rfl,rfl,trivial⟩,hB,h24,h8,h11,h14,h17,h29,h444,h428,h440,h299,h149,h316,h308,h260⟩
           ·
            replace hy410:=im' hy410 c417
            refine Ah ?_
            obtain ⟨y447,hy448,hy410⟩:=bs hy410
            refine AN (fun l' w'=>∃ (x450:Unit) (O':Lab),subs l' [(1,(.int .i64 x1)),(2,(.pointer (some ⟨g20,0,none⟩))),(4,(.pointer (some ⟨g25,0,none⟩))),(6,(.pointer (some ⟨p70,0,none⟩))),(8,(.slice x274.1.1 s273.1.length x274.1.2)),(9,(.slice x274.2.1 s273.2.1.length x274.2.2)),(10,(.pointer (some ⟨g63,0,none⟩))),(11,(.int .i64 s273.2.2.1)),(12,(.int .i64 n252)),(13,(.pointer (some ⟨g145,0,none⟩))),(18,(.pointer (some ⟨g312,0,none⟩))),(19,(.int .i64 q346.1)),(22,(.int .i64 n406)),(98,(.slice A262 q255.length c263)),(99,(.int .i64 (q255.length:Int))),(100,(.int .i64 (k275:Int))),(150,(.bool y447))]∧Bs w A w' O'∧Lc 2 w' O' g20 26 [(.slice A9 x0.vars.length c10),(.slice A12 x0.init.length c13),(.slice A15 x0.goal.length c16),(.slice A18 x0.ops.length c19)]∧Vb w' (Fr 0 w' O') (.slice A9 x0.vars.length c10) x0.vars∧Vb w' (Fr 0 w' O') (.slice A12 x0.init.length c13) x0.init∧Vb w' (Fr 0 w' O') (.slice A15 x0.goal.length c16) x0.goal∧Vb w' (Fr 0 w' O') (.slice A18 x0.ops.length c19) x0.ops∧Lc 3 w' O' g25 32 [(.int .i64 0),(.slice none 0 0),(.int .i64 0),(.int .i64 0)]∧Ob 4 w' O' (.pointer (some ⟨p70,0,none⟩)) (⟨(⟨s273.2.2.2.1.t.vars,s273.2.2.2.1.t.init,s273.2.2.2.1.t.goal,s273.2.2.2.1.t.ops⟩:Tsk),q346.2.2.2,s273.2.2.2.1.gen⟩:Spc)∧Rw 5 w' O' 3 (.slice x274.1.1 s273.1.length x274.1.2) s273.1∧Rw 6 w' O' 4 (.slice x274.2.1 s273.2.1.length x274.2.2) s273.2.1∧Ob 8 w' O' (.pointer (some ⟨g63,0,none⟩)) s273.2.2.2.2∧Lc 10 w' O' g145 97 [(.int .i64 q130.1.x.cost),(.int .i64 q130.1.x.order),(.int .i64 q130.1.x.id)]∧Lc 12 w' O' g312 112 [(.int .i64 a276.op),(.slice A309 a276.state.length c310)]∧Vb w' (Fr 0 w' O') (.slice A309 a276.state.length c310) a276.state∧Vb w' (Fr 0 w' O') (.slice A262 q255.length c263) q255) ?_ ?_
            ·
             refine Ae (o_mv rfl rfl (o_mv rfl rfl ?_))
             obtain ⟨a451,e452,hy448⟩:=bs hy448
             obtain ⟨p454,x453⟩:=AO e452
             replace h295:=(((h295.st S315).st S318).st S320).st S350
             obtain ⟨b455,o456,ce457,hA458,hl459,hd460,rfl⟩:=h295.elem x453
             refine o_iaE (hA:=hA458) (hj:=(Int.toNat_of_nonneg p454).symm) (hlt:=hl459) rfl rfl rfl ?_
             refine o_ld (hc:=cat0 hd460) rfl rfl ?_
             refine o_mv rfl rfl ?_
             rcases Bool.eq_false_or_eq_true a451 with c462|c462
             ·
              try rw [c462]
              replace hy448:=ip hy448 c462
              refine AC rfl rfl rfl rfl (AC rfl rfl rfl rfl (AC rfl rfl rfl rfl (AC rfl rfl rfl rfl (AC rfl rfl rfl rfl (AC rfl rfl rfl rfl (o_pt rfl rfl rfl (o_z ?_)))))))
              replace h321:=h321.st S350
              replace h324:=h324.st S350
              replace h328:=h328.st S350
              replace h332:=h332.st S350
              replace h336:=h336.st S350
              replace h343:=h343.st S350
              obtain ⟨O463,S464,hz466,ha467,h465⟩:=Spc.shut (x:=(⟨(⟨s273.2.2.2.1.t.vars,s273.2.2.2.1.t.init,s273.2.2.2.1.t.goal,s273.2.2.2.1.t.ops⟩:Tsk),q346.2.2.2,s273.2.2.2.1.gen⟩:Spc)) (l0:=4) (l1:=11) (by decide) h321 h324 h328 h332 h336 h353 h343
              obtain rfl:=sm hy448
              replace hB:=((((hB.st S315).st S318).st S320).st S350).st S464
              replace h8:=((((h8.st S315).st S318).st S320).st S350).st S464
              replace h11:=((((h11.st S315).st S318).st S320).st S350).st S464
              replace h14:=((((h14.st S315).st S318).st S320).st S350).st S464
              replace h17:=h17.st S464
              replace h24:=h24.st S464
              replace h29:=((((h29.st S315).st S318).st S320).st S350).st S464
              replace h149:=h149.st S464
              replace h260:=((((h260.st S315).st S318).st S320).st S350).st S464
              replace h293:=((((h293.st S315).st S318).st S320).st S350).st S464
              replace h295:=h295.st S464
              replace h299:=((((h299.st S315).st S318).st S320).st S350).st S464
              replace h308:=(h308.st S350).st S464
              replace h316:=h316.st S464
              exact ⟨(),_,⟨rfl,rfl,rfl,rfl,rfl,rfl,rfl,rfl,rfl,rfl,rfl,rfl,rfl,rfl,rfl,rfl,rfl,trivial⟩,hB,h24,h8,h11,h14,h17,h29,h465,h293,h295,h299,h149,h316,h308,h260⟩
             ·
              try rw [c462]
              replace hy448:=im' hy448 c462
              refine AE rfl rfl (o_mv rfl rfl (AE rfl rfl (o_mv rfl rfl (AE rfl rfl (o_mv rfl rfl (AE rfl rfl ?_))))))
              obtain ⟨a468,e469,hy448⟩:=bs hy448
              obtain ⟨p471,x470⟩:=AO e469
              replace h293:=(((h293.st S315).st S318).st S320).st S350
              obtain ⟨b472,o473,ce474,hA475,hl476,hd477,rfl,r479⟩:=h293.elem x470
              refine o_iaE (hA:=hA475) (hj:=(Int.toNat_of_nonneg p471).symm) (hlt:=hl476) rfl rfl rfl ?_
              refine AE rfl rfl (o_ld (hc:=cat0 hd477) rfl rfl ?_)
              refine AE rfl rfl (o_geS rfl rfl rfl (fun c480=>?_) fun c480=>?_)
              ·
               replace hy448:=ip hy448 c480
               refine o_pf rfl rfl rfl (o_z ?_)
               replace h321:=h321.st S350
               replace h324:=h324.st S350
               replace h328:=h328.st S350
               replace h332:=h332.st S350
               replace h336:=h336.st S350
               replace h343:=h343.st S350
               obtain ⟨O481,S482,hz484,ha485,h483⟩:=Spc.shut (x:=(⟨(⟨s273.2.2.2.1.t.vars,s273.2.2.2.1.t.init,s273.2.2.2.1.t.goal,s273.2.2.2.1.t.ops⟩:Tsk),q346.2.2.2,s273.2.2.2.1.gen⟩:Spc)) (l0:=4) (l1:=11) (by decide) h321 h324 h328 h332 h336 h353 h343
               obtain rfl:=sm hy448
               replace hB:=((((hB.st S315).st S318).st S320).st S350).st S482
               replace h8:=((((h8.st S315).st S318).st S320).st S350).st S482
               replace h11:=((((h11.st S315).st S318).st S320).st S350).st S482
               replace h14:=((((h14.st S315).st S318).st S320).st S350).st S482
               replace h17:=h17.st S482
               replace h24:=h24.st S482
               replace h29:=((((h29.st S315).st S318).st S320).st S350).st S482
               replace h149:=h149.st S482
               replace h260:=((((h260.st S315).st S318).st S320).st S350).st S482
               replace h293:=h293.st S482
               replace h295:=h295.st S482
               replace h299:=((((h299.st S315).st S318).st S320).st S350).st S482
               replace h308:=(h308.st S350).st S482
               replace h316:=h316.st S482
               exact ⟨(),_,⟨rfl,rfl,rfl,rfl,rfl,rfl,rfl,rfl,rfl,rfl,rfl,rfl,rfl,rfl,rfl,rfl,rfl,trivial⟩,hB,h24,h8,h11,h14,h17,h29,h483,h293,h295,h299,h149,h316,h308,h260⟩
              ·
               replace hy448:=im hy448 c480
               refine o_pf rfl rfl rfl (o_z ?_)
               replace h321:=h321.st S350
               replace h324:=h324.st S350
               replace h328:=h328.st S350
               replace h332:=h332.st S350
               replace h336:=h336.st S350
               replace h343:=h343.st S350
               obtain ⟨O486,S487,hz489,ha490,h488⟩:=Spc.shut (x:=(⟨(⟨s273.2.2.2.1.t.vars,s273.2.2.2.1.t.init,s273.2.2.2.1.t.goal,s273.2.2.2.1.t.ops⟩:Tsk),q346.2.2.2,s273.2.2.2.1.gen⟩:Spc)) (l0:=4) (l1:=11) (by decide) h321 h324 h328 h332 h336 h353 h343
               obtain rfl:=sm hy448
               replace hB:=((((hB.st S315).st S318).st S320).st S350).st S487
               replace h8:=((((h8.st S315).st S318).st S320).st S350).st S487
               replace h11:=((((h11.st S315).st S318).st S320).st S350).st S487
               replace h14:=((((h14.st S315).st S318).st S320).st S350).st S487
               replace h17:=h17.st S487
               replace h24:=h24.st S487
               replace h29:=((((h29.st S315).st S318).st S320).st S350).st S487
               replace h149:=h149.st S487
               replace h260:=((((h260.st S315).st S318).st S320).st S350).st S487
               replace h293:=h293.st S487
               replace h295:=h295.st S487
               replace h299:=((((h299.st S315).st S318).st S320).st S350).st S487
               replace h308:=(h308.st S350).st S487
               replace h316:=h316.st S487
               exact ⟨(),_,⟨rfl,rfl,rfl,rfl,rfl,rfl,rfl,rfl,rfl,rfl,rfl,rfl,rfl,rfl,rfl,rfl,rfl,trivial⟩,hB,h24,h8,h11,h14,h17,h29,h488,h293,h295,h299,h149,h316,h308,h260⟩
            replace hB:=(((hB.st S315).st S318).st S320).st S350
            replace h8:=(((h8.st S315).st S318).st S320).st S350
            replace h11:=(((h11.st S315).st S318).st S320).st S350
            replace h14:=(((h14.st S315).st S318).st S320).st S350
            replace h29:=(((h29.st S315).st S318).st S320).st S350
            replace h260:=(((h260.st S315).st S318).st S320).st S350
            replace h293:=(((h293.st S315).st S318).st S320).st S350
            replace h295:=(((h295.st S315).st S318).st S320).st S350
            replace h299:=(((h299.st S315).st S318).st S320).st S350
            replace h308:=h308.st S350
            rintro l491 w492 ⟨x450,O493,hs494,hB,h24,h8,h11,h14,h17,h29,h461,h293,h295,h299,h149,h316,h308,h260⟩
            refine AP _ hs494 ?_
            refine Cm rfl (fun c495=>?_) (fun c495=>?_)
            ·
             replace hy410:=ip hy410 c495
             refine At ?_
             obtain rfl:=sm hy410
             obtain rfl:=sm (Cv hf281)
             refine (?_:Exists _)
             exact ⟨_,((x274.1.1,x274.1.2),(x274.2.1,x274.2.2)),rfl,⟨rfl,rfl,rfl,rfl,rfl,rfl,rfl,rfl,rfl,rfl,rfl,rfl,rfl,trivial⟩,_,hB,h24,h8,h11,h14,h17,h29,h461,h293,h295,h299,h149,h260,r297⟩
            ·
             replace hy410:=im' hy410 c495
             refine Am ?_
             obtain rfl:=sm hy410
             exact ⟨_,((x274.1.1,x274.1.2),(x274.2.1,x274.2.2)),_,rfl,⟨rfl,rfl,rfl,rfl,rfl,rfl,rfl,rfl,rfl,rfl,rfl,rfl,rfl,rfl,rfl,rfl,trivial⟩,hB,h24,h8,h11,h14,h17,h29,h461,h293,h295,h299,h149,h316,h308,h260⟩
          replace hB:=(((hB.st S315).st S318).st S320).st S350
          replace h8:=(((h8.st S315).st S318).st S320).st S350
          replace h11:=(((h11.st S315).st S318).st S320).st S350
          replace h14:=(((h14.st S315).st S318).st S320).st S350
          replace h29:=(((h29.st S315).st S318).st S320).st S350
          replace h260:=(((h260.st S315).st S318).st S320).st S350
          replace h299:=(((h299.st S315).st S318).st S320).st S350
          replace h308:=h308.st S350
          rintro l496 w497 ⟨s411,x412,O498,rfl,hs499,hB,h24,h8,h11,h14,h17,h29,h436,h413,h415,h299,h149,h316,h308,h260⟩
          replace hf281:=AY hf281
          refine AP _ hs499 ?_
          refine Ah (Ae (o_mv rfl rfl (o_mv rfl rfl (o_mv rfl rfl ?_))))
          obtain ⟨a500,e501,hf281⟩:=bs hf281
          obtain ⟨p503,x502⟩:=AO e501
          obtain ⟨b504,o505,ce506,hA507,hl508,hd509,rfl,r511⟩:=h413.elem x502
          refine o_iaE (hA:=hA507) (hj:=(Int.toNat_of_nonneg p503).symm) (hlt:=hl508) rfl rfl rfl ?_
          refine CG rfl h413 (a:=n406) (vInt r408) hA507 rfl rfl (AJ x502) fun w512 S513 h413=>?_
          refine o_z ?_
          refine Ah (Ah ?_)
          replace h436:=h436.st S513
          obtain ⟨O514,v518,v522,v526,v530,v534,v537,S515,ha517,h516,h519,h523,h527,h531,h535,h538⟩:=Spc.opn h436 4 11 (by decide)
          obtain ⟨A520,c521,rfl⟩:=h519.form
          obtain ⟨A524,c525,rfl⟩:=h523.form
          obtain ⟨A528,c529,rfl⟩:=h527.form
          obtain ⟨A532,c533,rfl⟩:=h531.form
          obtain ⟨p536,rfl⟩:=h535.ptr
          obtain ⟨p539,rfl,hq540⟩:=h538.ptr
          refine Bt [(10,[11])] O514 ?_
          refine x_pre (fuel:=2) [] [(0,true),(1,true),(2,true),(3,true),(4,true),(5,true),(6,true),(7,true),(8,true),(9,true)] (by kernel_rfl) rfl ?_
          refine h_mv rfl rfl rfl (h_nc rfl rfl rfl (h_fa rfl rfl rfl (h_ldC (hc:=fun w' ⟨O',hq⟩=>Blk.cell (i:=4) ((h516.st hq (by decide)).1) rfl) rfl rfl rfl ?_)))
          refine h_mv rfl rfl rfl (h_fa rfl rfl rfl ?_)
          replace h149:=(h149.st S513).st S515
          refine h_ldC (hc:=fun w' ⟨O',hq⟩=>Blk.cell (i:=2) ((h149.st hq (by decide)).1) rfl) rfl rfl rfl ?_
          refine h_fa rfl rfl rfl ?_
          replace h316:=(h316.st S513).st S515
          refine h_ldC (hc:=fun w' ⟨O',hq⟩=>Blk.cell (i:=0) ((h316.st hq (by decide)).1) rfl) rfl rfl rfl ?_
          refine h_mv rfl rfl rfl (AK ?_)
          refine x_one (i:=10) (by kernel_rfl) rfl ?_
          obtain ⟨q541,e542,hf281⟩:=bs hf281
          refine BZ (O:=O514) (Fj h535 r360 r144 r311 r408 e542) rfl rfl fun v547 w543 O544 S545 h546=>?_
          obtain ⟨h548,h549⟩:=h546
          obtain ⟨rfl,r550⟩:=h549.err
          have hZ:=S545.lst [11] (fun _ h=>by cases h;decide)
          refine x_go [] hZ (by kernel_rfl) ?_
          refine x_pre (fuel:=0) [] [(11,true)] (by kernel_rfl) rfl ?_
          refine h_as rfl rfl rfl (AK ?_)
          refine x_nil (by kernel_rfl) ?_
          refine Ah (Ae (o_mv rfl rfl (o_rnS rfl rfl (fun c551=>?_) fun c551=>?_)))
          ·
           replace hf281:=ip hf281 c551
           refine o_z ?_
           refine Ar rfl (Ah (Ae (o_bd rfl rfl rfl ?_)))
           refine o_mv rfl rfl ?_
           replace h29:=((h29.st S513).st S515).st S545
           refine AQ h29 rfl rfl rfl (Nat.le_of_ble_eq_true rfl) (by first|exact allOne rfl|simp [Value.cells,Value.oneCell',AM]) fun w552 S553 h29=>?_
           replace h29:Lc 3 w552 O544 g25 32 [(.int .i64 0),(.slice none 0 0),(.int .i64 0),(.int .i64 0)]:=h29
           refine o_as rfl rfl (o_z ?_)
           refine Au ?_
           obtain rfl:=sm hf281
           obtain rfl:=hret282 _ rfl
           obtain rfl:=sm (Cv hf86)
           obtain rfl:=hret87 _ rfl
           obtain rfl:=sm (Cv hm)
           replace hB:=(((hB.st S513).st S515).st S545).st S553
           exact ret2 rfl (BK (cs:=[(.int .i64 0),(.slice none 0 0),(.int .i64 0),(.int .i64 0)]) rfl rfl h29.1.cellsAt) (AG rfl) ⟨hB.ext,_,_,rfl,(Vb.mono (F:=Fr 0 w552 O544) (Vb.ofAgg (cs:=[(.int .i64 0),(.slice none 0 0),(.int .i64 0),(.int .i64 0)]) (x:=(⟨0,([]:List Int),0,0⟩:Rsl)) rfl ⟨_,rfl,(Vb.nil _ _),(show inI64 0 from by decide),(show inI64 0 from by decide),(show inI64 0 from by decide)⟩) hB.out),(vErr r550)⟩
          ·
           replace hf281:=im hf281 c551
           refine o_z ?_
           refine Aj rfl (Am (Ah (Ae (o_mv rfl rfl (o_miA rfl rfl ?_)))))
           refine o_mv rfl rfl (o_mv rfl rfl (o_mv rfl rfl (o_bd rfl rfl rfl ?_)))
           refine o_miA rfl rfl ?_
           obtain ⟨q554,e555,hf281⟩:=bs hf281
           replace h299:=((h299.st S513).st S515).st S545
           refine BZ (O:=O544) (Gz h299 (vAny (Vb.ofAgg (cs:=[(.int .i64 n406),(.int .i64 s273.2.2.1),(.int .i64 q346.1)]) (x:=(⟨n406,s273.2.2.1,q346.1⟩:Itm)) rfl ⟨rfl,r408,r297,r360⟩)) e555) rfl rfl fun v560 w556 O557 S558 h561=>?_
           refine o_z ?_
           refine Ae (o_mv rfl rfl ?_)
           obtain ⟨n562,e563,hf281⟩:=bs hf281
           have r564:=(AW e563)
           refine o_adE (he:=e563) rfl rfl rfl ?_
           refine o_as rfl rfl (o_z ?_)
           replace h516:=(h516.st S545).st S558
           replace h519:=(h519.st S545).st S558
           replace h523:=(h523.st S545).st S558
           replace h527:=(h527.st S545).st S558
           replace h531:=(h531.st S545).st S558
           replace h538:=(h538.st S545).st S558
           replace h548:=h548.st S558
           obtain ⟨O565,S566,hz568,ha569,h567⟩:=Spc.shut (x:=(⟨(⟨(⟨(⟨s273.2.2.2.1.t.vars,s273.2.2.2.1.t.init,s273.2.2.2.1.t.goal,s273.2.2.2.1.t.ops⟩:Tsk),q346.2.2.2,s273.2.2.2.1.gen⟩:Spc).t.vars,(⟨(⟨s273.2.2.2.1.t.vars,s273.2.2.2.1.t.init,s273.2.2.2.1.t.goal,s273.2.2.2.1.t.ops⟩:Tsk),q346.2.2.2,s273.2.2.2.1.gen⟩:Spc).t.init,(⟨(⟨s273.2.2.2.1.t.vars,s273.2.2.2.1.t.init,s273.2.2.2.1.t.goal,s273.2.2.2.1.t.ops⟩:Tsk),q346.2.2.2,s273.2.2.2.1.gen⟩:Spc).t.goal,(⟨(⟨s273.2.2.2.1.t.vars,s273.2.2.2.1.t.init,s273.2.2.2.1.t.goal,s273.2.2.2.1.t.ops⟩:Tsk),q346.2.2.2,s273.2.2.2.1.gen⟩:Spc).t.ops⟩:Tsk),q541.2,(⟨(⟨s273.2.2.2.1.t.vars,s273.2.2.2.1.t.init,s273.2.2.2.1.t.goal,s273.2.2.2.1.t.ops⟩:Tsk),q346.2.2.2,s273.2.2.2.1.gen⟩:Spc).gen⟩:Spc)) (l0:=4) (l1:=11) (by decide) h516 h519 h523 h527 h531 h548 h538
           obtain rfl:=sm hf281
           refine (?_:Exists _)
           replace hB:=((((hB.st S513).st S515).st S545).st S558).st S566
           replace h8:=((((h8.st S513).st S515).st S545).st S558).st S566
           replace h11:=((((h11.st S513).st S515).st S545).st S558).st S566
           replace h14:=((((h14.st S513).st S515).st S545).st S558).st S566
           replace h17:=((((h17.st S513).st S515).st S545).st S558).st S566
           replace h24:=((((h24.st S513).st S515).st S545).st S558).st S566
           replace h29:=((((h29.st S513).st S515).st S545).st S558).st S566
           replace h149:=((h149.st S545).st S558).st S566
           replace h260:=((((h260.st S513).st S515).st S545).st S558).st S566
           replace h413:=(((h413.st S515).st S545).st S558).st S566
           replace h415:=((((h415.st S513).st S515).st S545).st S558).st S566
           replace h561:=h561.st S566
           exact ⟨_,((x412.1.1,x412.1.2),(x412.2.1,x412.2.2)),rfl,⟨rfl,rfl,rfl,rfl,rfl,rfl,(congrArg (fun n=>some (Value.slice _ n _)) ((by simp:(s411.1.set (q346.1:Int).toNat n406).length=s411.1.length).trans rfl).symm),rfl,rfl,rfl,rfl,rfl,rfl,trivial⟩,_,hB,h24,h8,h11,h14,h17,h29,h567,h413.relen,h415,h561,h149,h260,r564⟩
        replace hB:=(((((((((((hB.st S108).st S120).st S126).st S134).st S148).st S151).st S165).st S195).st S213).st S251).st S259).st S267
        replace h8:=(((((((((((h8.st S108).st S120).st S126).st S134).st S148).st S151).st S165).st S195).st S213).st S251).st S259).st S267
        replace h11:=(((((((((((h11.st S108).st S120).st S126).st S134).st S148).st S151).st S165).st S195).st S213).st S251).st S259).st S267
        replace h14:=(((h14.st S213).st S251).st S259).st S267
        replace h17:=(((((((((((h17.st S108).st S120).st S126).st S134).st S148).st S151).st S165).st S195).st S213).st S251).st S259).st S267
        replace h24:=(((h24.st S213).st S251).st S259).st S267
        replace h29:=(((((((((((h29.st S108).st S120).st S126).st S134).st S148).st S151).st S165).st S195).st S213).st S251).st S259).st S267
        rintro l570 w571 ⟨s574,x575,rfl,hs573,O572,hB,h24,h8,h11,h14,h17,h29,h298,h293,h295,h299,r297⟩
        replace hf86:=AY hf86
        obtain rfl:=sm hf86
        refine (?_:Exists _)
        exact ⟨_,((x575.1.1,x575.1.2),(x575.2.1,x575.2.2)),rfl,⟨(Bw hs573 _ _ rfl),(Bw hs573 _ _ rfl),(Bw hs573 _ _ rfl),(Bw hs573 _ _ rfl),(Bw hs573 _ _ rfl),(Bw hs573 _ _ rfl),(Bw hs573 _ _ rfl),(Bw hs573 _ _ rfl),(Bw hs573 _ _ rfl),trivial⟩,_,hB,h24,h8,h11,h14,h17,h29,h298,h293,h295,h299,r297,r254⟩
      replace hf86:=iT hf86
      refine o_z ?_
      refine Ar rfl (Ah (Ae (o_mv rfl rfl (o_fa rfl rfl ?_))))
      replace h149:=(h149.st S195).st S213
      refine o_ld (hc:=Blk.cell (i:=2) (h149.1) rfl) rfl rfl ?_
      refine o_mv rfl rfl ?_
      replace h166:=(h166.st S195).st S213
      replace h169:=(h169.st S195).st S213
      replace h173:=(h173.st S195).st S213
      replace h177:=(h177.st S195).st S213
      replace h181:=(h181.st S195).st S213
      replace h188:=(h188.st S195).st S213
      replace h198:=h198.st S213
      obtain ⟨O576,S577,hz579,ha580,h578⟩:=Spc.shut (x:=s78.2.2.2.2.1) (l0:=4) (l1:=11) (by decide) h166 h169 h173 h177 h181 h198 h188
      obtain ⟨q581,e582,hf86⟩:=bs hf86
      refine BZ (O:=O576) (Gp h578 r144 r104 e582) rfl rfl fun v587 w583 O584 S585 h586=>?_
      obtain ⟨v589,v590,h588,rfl,h591,h592⟩:=h586
      obtain ⟨cs593,rfl,v594,rfl,h595,r598,r599,r600⟩:=h591
      obtain ⟨A596,c597,rfl⟩:=h595.form
      obtain ⟨rfl,r601⟩:=h592.err
      refine o_ex rfl rfl rfl (o_ex rfl rfl rfl ?_)
      replace h29:=((((((((((h29.st S108).st S120).st S126).st S134).st S148).st S151).st S165).st S195).st S213).st S577).st S585
      refine AQ h29 rfl rfl rfl (Nat.le_of_ble_eq_true rfl) (by first|exact allOne rfl|simp [Value.cells,Value.oneCell',AM]) fun w602 S603 h29=>?_
      replace h29:Lc 3 w602 O584 g25 32 [(.int .i64 q581.1.verdict),(.slice A596 q581.1.plan.length c597),(.int .i64 q581.1.cost),(.int .i64 q581.1.expanded)]:=h29
      refine o_as rfl rfl (o_z ?_)
      refine Au ?_
      obtain rfl:=sm hf86
      obtain rfl:=hret87 _ rfl
      obtain rfl:=sm (Cv hm)
      replace hB:=(((((((((((hB.st S108).st S120).st S126).st S134).st S148).st S151).st S165).st S195).st S213).st S577).st S585).st S603
      replace h595:=h595.st S603
      exact ret2 rfl (BK (cs:=[(.int .i64 q581.1.verdict),(.slice A596 q581.1.plan.length c597),(.int .i64 q581.1.cost),(.int .i64 q581.1.expanded)]) rfl rfl h29.1.cellsAt) (AG rfl) ⟨hB.ext,_,_,rfl,(Vb.mono (F:=Fr 0 w602 O584) (Vb.ofAgg (cs:=[(.int .i64 q581.1.verdict),(.slice A596 q581.1.plan.length c597),(.int .i64 q581.1.cost),(.int .i64 q581.1.expanded)]) (x:=q581.1) rfl ⟨_,rfl,h595,r598,r599,r600⟩) hB.out),(vErr r601)⟩
   ·
    replace hf86:=im hf86 c124
    refine o_z ?_
    refine Aj rfl (At ?_)
    replace h109:=h109.st S120
    replace h112:=h112.st S120
    obtain ⟨O604,S605,hz607,ha608,h606⟩:=BxR.shut (x:=s78.2.2.2.2.2) (l0:=8) (l1:=9) (by decide) h109 h112
    obtain rfl:=sm hf86
    refine (?_:Exists _)
    replace hB:=((hB.st S108).st S120).st S605
    replace h29:=((h29.st S108).st S120).st S605
    exact ⟨_,((x79.1.1,x79.1.2),(x79.2.1,x79.2.2)),hbrk88 _ rfl,⟨rfl,rfl,trivial⟩,_,hB,h29,r103,r104⟩
  replace hB:=(((((((hB.st S23).st S28).st S34).st S48).st S54).st S60).st S66).st S72
  replace h29:=(((((h29.st S34).st S48).st S54).st S60).st S66).st S72
  rintro l609 w610 ⟨s613,x614,rfl,hs612,O611,hB,h29,r103,r104⟩
  replace hm:=AY hm
  refine AP _ hs612 ?_
  refine Ah (Ae (o_mv rfl rfl ?_))
  obtain ⟨q615,e616,hm⟩:=bs hm
  refine CY (O:=O611) (R:=fun w' F v=>T2 w' F v q615) (Ex Fr.lt (show inI64 (2) from by decide) r104 e616) rfl rfl fun v621 w617 O618 S619 h620=>?_
  obtain ⟨v622,v623,rfl,h624,h625⟩:=h620
  obtain ⟨cs626,rfl,v627,rfl,h628,r631,r632,r633⟩:=h624
  obtain ⟨A629,c630,rfl⟩:=h628.form
  obtain ⟨rfl,r634⟩:=h625.err
  refine o_ex rfl rfl rfl (o_ex rfl rfl rfl ?_)
  replace h29:=h29.st S619
  refine AQ h29 rfl rfl rfl (Nat.le_of_ble_eq_true rfl) (by first|exact allOne rfl|simp [Value.cells,Value.oneCell',AM]) fun w635 S636 h29=>?_
  replace h29:Lc 3 w635 O618 g25 32 [(.int .i64 q615.1.verdict),(.slice A629 q615.1.plan.length c630),(.int .i64 q615.1.cost),(.int .i64 q615.1.expanded)]:=h29
  refine o_as rfl rfl (o_z ?_)
  refine Au ?_
  obtain rfl:=sm hm
  replace hB:=(hB.st S619).st S636
  replace h628:=h628.st S636
  exact ret2 rfl (BK (cs:=[(.int .i64 q615.1.verdict),(.slice A629 q615.1.plan.length c630),(.int .i64 q615.1.cost),(.int .i64 q615.1.expanded)]) rfl rfl h29.1.cellsAt) (AG rfl) ⟨hB.ext,_,_,rfl,(Vb.mono (F:=Fr 0 w635 O618) (Vb.ofAgg (cs:=[(.int .i64 q615.1.verdict),(.slice A629 q615.1.plan.length c630),(.int .i64 q615.1.cost),(.int .i64 q615.1.expanded)]) (x:=q615.1) rfl ⟨_,rfl,h628,r631,r632,r633⟩) hB.out),(vErr r634)⟩
end
section
open Go Go.RowKit
attribute [local irreducible] ewp owp hwp hwq hws Ev Evg Fn retPost loud loudS Res1
noncomputable def Cn (x0:List ByteArray) (x1:List ByteArray):Option Int :=
  bnd (chkI ((x1.length:Int) + 1)) fun n9=>bnd (mkI 8 (0:Int) n9) fun u12=>bnd (rngN (ρ:=Int) (fun (k31:Nat) (s29:(List Int))=>bnd (s29[k31]?) fun a50=>some (.next (s29.set k31 (k31:Int)))) u12.length u12) fun res27=>fin res27 fun (s66:(List Int))=>bnd (rng (ρ:=Int) (fun (k74:Nat) (a75:ByteArray) (s72:(List Int))=>bnd (chkI ((x1.length:Int) + 1)) fun n99=>bnd (mkI 8 (0:Int) n99) fun u102=>bnd (chkI ((k74:Int) + 1)) fun n115=>bnd (atI u102 0) fun a118=>bnd (rng (ρ:=Ctl (List Int) Int) (fun (k138:Nat) (a139:ByteArray) (s136:(List Int))=>bnd (chkI ((k138:Int) + 1)) fun n161=>bnd (s136[k138]?) fun a164=>bnd (chkI ((k138:Int) + 1)) fun n174=>bnd (atI s72 n174) fun a177=>bnd (chkI ((min a164 a177) + 1)) fun n189=>bnd (atI s136 n161) fun a192=>if a75=a139 then (bnd (chkI ((k138:Int) + 1)) fun n207=>bnd (chkI ((k138:Int) + 1)) fun n210=>bnd (atI (s136.set (n161:Int).toNat n189) n210) fun a213=>bnd (s72[k138]?) fun a225=>bnd (atI (s136.set (n161:Int).toNat n189) n207) fun a235=>some (.next ((s136.set (n161:Int).toNat n189).set (n207:Int).toNat (min a213 a225)))) else (some (.next (s136.set (n161:Int).toNat n189)))) x1 0 (u102.set (0:Int).toNat n115)) fun res134=>fin res134 fun (s253:(List Int))=>some (.next s253)) x0 0 s66) fun res70=>fin res70 fun (s261:(List Int))=>bnd (s261[x1.length]?) fun a265=>some a265
theorem Il {w:World} {A:Nat→Prop} (hA:∀ k,A k→k < w.heap.size) {vx0:Value} {x0:List ByteArray} (hx0:Vb w A vx0 x0) {vx1:Value} {x1:List ByteArray} (hx1:Vb w A vx1 x1) {r:Int} (hm:Cn x0 x1=some r) :
    Fn Tryz.prog 32 [vx0,vx1] w fun v w'=>Ext w w'∧Vb w' (upA A w w') v r:=by
 obtain ⟨O,hB,hA0⟩:=enter hA
 replace hx0:=hx0.mono hA0
 obtain ⟨A3,c4,rfl⟩:=hx0.form
 replace hx1:=hx1.mono hA0
 obtain ⟨A5,c6,rfl⟩:=hx1.form
 refine AL Tryz.func32 rfl Tryz.ntmps32 rfl ?_
 unfold Cn at hm
 refine Ah (Ae (o_as rfl rfl (o_z ?_)))
 refine Ah (Ae (o_mv rfl rfl (o_ln rfl rfl ?_)))
 have l8:x1.length≤9223372036854775807:=Nat.le_trans hx1.len.2.1 hx1.len.2.2
 have r7:inI64 (x1.length:Int):=rngNat l8
 obtain ⟨n9,e10,hm⟩:=bs hm
 have r11:=(AW e10)
 refine o_adE (he:=e10) rfl rfl rfl ?_
 obtain ⟨u12,e13,hm⟩:=bs hm
 obtain ⟨m14,e15,e16,e17,e18⟩:=FL e13
 refine Hy 2 (by decide) O (z0:=(0:Int)) rfl rfl rfl rfl rfl e15 (vInt (show inI64 0 from by decide)) e16 e17 rfl fun g19 w20 O21 S22 h23=>?_
 rw [← e18] at h23 ⊢
 refine o_as rfl rfl (o_z ?_)
 refine Ah (Ah (Ae (o_mv rfl rfl (o_ln rfl rfl ?_))))
 have l26:u12.length≤9223372036854775807:=Nat.le_trans h23.len.2.1 h23.len.2.2
 have r25:inI64 (u12.length:Int):=rngNat l26
 refine o_mv rfl rfl (o_z ?_)
 obtain ⟨res27,hL28,hm⟩:=bs hm
 refine AN (aft res27 (fun (s29:(List Int)) (x30:Unit)=>[(0,(.slice A3 x0.length c4)),(1,(.slice A5 x1.length c6)),(5,(.slice (some ⟨g19,0,none⟩) u12.length m14))]) (fun s29 x30 w'=>∃ O':Lab,Bs w A w' O'∧Vb w' (Fr 0 w' O') (.slice A3 x0.length c4) x0∧Vb w' (Fr 0 w' O') (.slice A5 x1.length c6) x1∧Rw 2 w' O' 3 (.slice (some ⟨g19,0,none⟩) u12.length m14) s29)) ?_ ?_
 ·
  refine Al ?_
  replace hB:=hB.st S22
  replace hx0:=hx0.st S22
  replace hx1:=hx1.st S22
  refine GI (σ:=(List Int)) (X:=Unit) (u12.length) hL28 l26 (fun (s29:(List Int)) (x30:Unit)=>[(0,(.slice A3 x0.length c4)),(1,(.slice A5 x1.length c6)),(5,(.slice (some ⟨g19,0,none⟩) u12.length m14))]) _ (fun s29 x30 w'=>∃ O':Lab,Bs w A w' O'∧Vb w' (Fr 0 w' O') (.slice A3 x0.length c4) x0∧Vb w' (Fr 0 w' O') (.slice A5 x1.length c6) x1∧Rw 2 w' O' 3 (.slice (some ⟨g19,0,none⟩) u12.length m14) s29) _ () ⟨O21,hB,hx0,hx1,h23⟩ ⟨rfl,rfl,rfl,rfl,rfl,trivial⟩ (fun _ _=>⟨rfl,rfl⟩) (fun _ _=>⟨rfl,rfl,rfl,trivial⟩) (fun _ _ _ ⟨O',hB,hx0,hx1,h48⟩=>⟨O',hB,hx0,hx1,h48⟩) ⟨rfl,rfl,rfl⟩ ⟨rfl,rfl⟩ ?_
  rintro k31 s29 x30 w33 cc35 hx36 ⟨O34,hB,hx0,hx1,h48⟩ hf37 hret38 hbrk39
  have rk31:inI64 (k31:Int):=rngKN hx36 l26
  refine Ah (Ae (o_mv rfl rfl (o_as rfl rfl (o_z ?_))))
  refine Ae (o_mv rfl rfl (o_mv rfl rfl (o_mv rfl rfl ?_)))
  obtain ⟨a50,e51,hf37⟩:=bs hf37
  obtain ⟨b52,o53,ce54,hA55,hl56,hd57,rfl,r59⟩:=h48.elem e51
  refine o_iaE (hA:=hA55) (hj:=rfl) (hlt:=hl56) rfl rfl rfl ?_
  refine CG rfl h48 (a:=(k31:Int)) (vInt rk31) hA55 rfl rfl (AJ e51) fun w60 S61 h48=>?_
  refine o_z ?_
  obtain rfl:=sm hf37
  refine (?_:Exists _)
  replace hB:=hB.st S61
  replace hx0:=hx0.st S61
  replace hx1:=hx1.st S61
  exact ⟨_,(),rfl,⟨rfl,rfl,rfl,rfl,rfl,trivial⟩,_,hB,hx0,hx1,h48⟩
 replace hB:=hB.st S22
 replace hx0:=hx0.st S22
 replace hx1:=hx1.st S22
 rintro l62 w63 ⟨s66,x67,rfl,hs65,O64,hB,hx0,hx1,h48⟩
 replace hm:=AY hm
 refine AP _ hs65 ?_
 refine Ah (Ah (Ae (o_mv rfl rfl (o_ln rfl rfl ?_))))
 have l69:x0.length≤9223372036854775807:=Nat.le_trans hx0.len.2.1 hx0.len.2.2
 have r68:inI64 (x0.length:Int):=rngNat l69
 refine o_mv rfl rfl (o_z ?_)
 obtain ⟨res70,hL71,hm⟩:=bs hm
 refine AN (aft res70 (fun (s72:(List Int)) (x73:(Option Addr×Nat))=>[(1,(.slice A5 x1.length c6)),(5,(.slice x73.1 s72.length x73.2))]) (fun s72 x73 w'=>∃ O':Lab,Bs w A w' O'∧Vb w' (Fr 0 w' O') (.slice A5 x1.length c6) x1∧Vb w' (Fr 0 w' O') (.slice x73.1 s72.length x73.2) s72)) ?_ ?_
 ·
  refine Al ?_
  obtain ⟨O87,S88,h48⟩:=h48.freeze
  replace hB:=hB.st S88
  replace hx0:=hx0.st S88
  replace hx1:=hx1.st S88
  refine BD (σ:=(List Int)) (X:=(Option Addr×Nat)) (x0.length) hL71 rfl l69 (fun (s72:(List Int)) (x73:(Option Addr×Nat))=>[(1,(.slice A5 x1.length c6)),(5,(.slice x73.1 s72.length x73.2)),(26,(.slice A3 x0.length c4))]) _ (fun s72 x73 w'=>∃ O':Lab,Bs w A w' O'∧Vb w' (Fr 0 w' O') (.slice A5 x1.length c6) x1∧Vb w' (Fr 0 w' O') (.slice x73.1 s72.length x73.2) s72∧Vb w' (Fr 0 w' O') (.slice A3 x0.length c4) x0) _ ((some ⟨g19,0,none⟩),m14) ⟨O87,hB,hx1,h48.relen,hx0⟩ ⟨rfl,rfl,rfl,(congrArg (fun n=>some (Value.slice _ n _)) h48.len.1.symm.symm),rfl,trivial⟩ (fun _ _=>⟨rfl,rfl⟩) (fun _ _=>⟨rfl,rfl,trivial⟩) (fun _ _ _ ⟨O',hB,hx1,h86,hx0⟩=>⟨O',hB,hx1,h86⟩) ⟨rfl,rfl,rfl⟩ ⟨rfl,rfl⟩ ?_
  rintro k74 a75 s72 x73 w76 cc78 hx79 ⟨O77,hB,hx1,h86,hx0⟩ hf80 hret81 hbrk82
  have rk74:inI64 (k74:Int):=rngK hx79 l69
  refine Ah (Ae (o_mv rfl rfl ?_))
  obtain ⟨b89,o90,ce91,hA92,hl93,hd94,rfl,z96⟩:=hx0.elem' hx79
  refine o_iaE (hA:=hA92) (hj:=rfl) (hlt:=hl93) rfl rfl rfl ?_
  refine o_ld (hc:=cat0 hd94) rfl rfl ?_
  refine o_as rfl rfl (o_as rfl rfl (o_z ?_))
  refine Ah (Ae (o_mv rfl rfl (o_ln rfl rfl ?_)))
  have l98:x1.length≤9223372036854775807:=Nat.le_trans hx1.len.2.1 hx1.len.2.2
  have r97:inI64 (x1.length:Int):=rngNat l98
  obtain ⟨n99,e100,hf80⟩:=bs hf80
  have r101:=(AW e100)
  refine o_adE (he:=e100) rfl rfl rfl ?_
  obtain ⟨u102,e103,hf80⟩:=bs hf80
  obtain ⟨m104,e105,e106,e107,e108⟩:=FL e103
  refine Hy 3 (by decide) O77 (z0:=(0:Int)) rfl rfl rfl rfl rfl e105 (vInt (show inI64 0 from by decide)) e106 e107 rfl fun g109 w110 O111 S112 h113=>?_
  rw [← e108] at h113 ⊢
  refine o_as rfl rfl (o_z ?_)
  refine Ah (Ae (o_mv rfl rfl (o_mv rfl rfl ?_)))
  obtain ⟨n115,e116,hf80⟩:=bs hf80
  have r117:=(AW e116)
  refine o_adE (he:=e116) rfl rfl rfl ?_
  obtain ⟨a118,e119,hf80⟩:=bs hf80
  obtain ⟨p121,x120⟩:=AO e119
  obtain ⟨b122,o123,ce124,hA125,hl126,hd127,rfl,r129⟩:=h113.elem x120
  refine o_iaE (hA:=hA125) (hj:=(Int.toNat_of_nonneg p121).symm) (hlt:=hl126) rfl rfl rfl ?_
  refine CG rfl h113 (a:=n115) (vInt r117) hA125 rfl rfl (AJ x120) fun w130 S131 h113=>?_
  refine o_z ?_
  refine Ah (Ah (Ae (o_mv rfl rfl (o_ln rfl rfl ?_))))
  replace hx1:=(hx1.st S112).st S131
  have l133:x1.length≤9223372036854775807:=Nat.le_trans hx1.len.2.1 hx1.len.2.2
  have r132:inI64 (x1.length:Int):=rngNat l133
  refine o_mv rfl rfl (o_z ?_)
  obtain ⟨res134,hL135,hf80⟩:=bs hf80
  refine AN (aft res134 (fun (s136:(List Int)) (x137:Unit)=>[(1,(.slice A5 x1.length c6)),(9,(.slice (some ⟨g109,0,none⟩) u102.length m104)),(26,(.slice A3 x0.length c4)),(27,(.int .i64 (x0.length:Int))),(28,(.int .i64 (k74:Int)))]) (fun s136 x137 w'=>∃ O':Lab,Bs w A w' O'∧Vb w' (Fr 0 w' O') (.slice A5 x1.length c6) x1∧Rw 3 w' O' 3 (.slice (some ⟨g109,0,none⟩) u102.length m104) s136∧Vb w' (Fr 0 w' O') (.slice A3 x0.length c4) x0)) ?_ ?_
  ·
   refine Al ?_
   replace hB:=(hB.st S112).st S131
   replace hx0:=(hx0.st S112).st S131
   replace h86:=(h86.st S112).st S131
   refine BD (σ:=(List Int)) (X:=Unit) (x1.length) hL135 rfl l133 (fun (s136:(List Int)) (x137:Unit)=>[(1,(.slice A5 x1.length c6)),(5,(.slice x73.1 s72.length x73.2)),(8,(.string a75)),(9,(.slice (some ⟨g109,0,none⟩) u102.length m104)),(26,(.slice A3 x0.length c4)),(27,(.int .i64 (x0.length:Int))),(28,(.int .i64 (k74:Int))),(41,(.slice A5 x1.length c6))]) _ (fun s136 x137 w'=>∃ O':Lab,Bs w A w' O'∧Vb w' (Fr 0 w' O') (.slice A5 x1.length c6) x1∧Vb w' (Fr 0 w' O') (.slice x73.1 s72.length x73.2) s72∧Rw 3 w' O' 3 (.slice (some ⟨g109,0,none⟩) u102.length m104) s136∧Vb w' (Fr 0 w' O') (.slice A3 x0.length c4) x0) _ () ⟨O111,hB,hx1,h86,h113,hx0⟩ ⟨rfl,rfl,rfl,rfl,rfl,rfl,rfl,rfl,rfl,rfl,trivial⟩ (fun _ _=>⟨rfl,rfl⟩) (fun _ _=>⟨rfl,rfl,rfl,rfl,rfl,trivial⟩) (fun _ _ _ ⟨O',hB,hx1,h86,h151,hx0⟩=>⟨O',hB,hx1,h151,hx0⟩) ⟨rfl,rfl,rfl⟩ ⟨rfl,rfl⟩ ?_
   rintro k138 a139 s136 x137 w140 cc142 hx143 ⟨O141,hB,hx1,h86,h151,hx0⟩ hf144 hret145 hbrk146
   have rk138:inI64 (k138:Int):=rngK hx143 l133
   refine Ah (Ae (o_mv rfl rfl ?_))
   obtain ⟨b153,o154,ce155,hA156,hl157,hd158,rfl,z160⟩:=hx1.elem' hx143
   refine o_iaE (hA:=hA156) (hj:=rfl) (hlt:=hl157) rfl rfl rfl ?_
   refine o_ld (hc:=cat0 hd158) rfl rfl ?_
   refine o_as rfl rfl (o_as rfl rfl (o_z ?_))
   refine Ah (Bt [] O141 ?_)
   refine x_pre (fuel:=1) [] [(0,true),(1,true),(2,true),(3,true),(4,true),(5,true),(6,true),(7,true),(8,true),(9,true),(10,true),(11,true),(12,true),(13,true),(14,true)] (by kernel_rfl) rfl ?_
   refine h_mv rfl rfl rfl (h_mv rfl rfl rfl ?_)
   obtain ⟨n161,e162,hf144⟩:=bs hf144
   have r163:=(AW e162)
   refine h_adE (he:=e162) rfl rfl rfl rfl ?_
   refine h_mv rfl rfl rfl (h_mv rfl rfl rfl ?_)
   obtain ⟨a164,e165,hf144⟩:=bs hf144
   obtain ⟨b166,o167,ce168,hA169,hF172,hl170,hd171,rfl,r173⟩:=h151.elemF e165
   refine h_iaE (hA:=hA169) (hj:=rfl) (hlt:=hl170) rfl rfl rfl rfl ?_
   refine h_ldC (hc:=fun w' ⟨O',hq⟩=>cat0 (Bd (hq.agree (i:=3) (by decide)) hF172 hd171)) rfl rfl rfl ?_
   refine h_mv rfl rfl rfl (h_mv rfl rfl rfl ?_)
   obtain ⟨n174,e175,hf144⟩:=bs hf144
   have r176:=(AW e175)
   refine h_adE (he:=e175) rfl rfl rfl rfl ?_
   obtain ⟨a177,e178,hf144⟩:=bs hf144
   obtain ⟨p180,x179⟩:=AO e178
   obtain ⟨b181,o182,ce183,hA184,hF187,hl185,hd186,rfl,r188⟩:=h86.elem x179
   refine h_iaE (hA:=hA184) (hj:=(Int.toNat_of_nonneg p180).symm) (hlt:=hl185) rfl rfl rfl rfl ?_
   refine h_ldC (hc:=fun w' ⟨O',hq⟩=>cat0 (Bd (hq.agree (i:=0) (by decide)) hF187 hd186)) rfl rfl rfl ?_
   refine h_min rfl rfl rfl rfl ?_
   obtain ⟨n189,e190,hf144⟩:=bs hf144
   have r191:=(AW e190)
   refine h_adE (he:=e190) rfl rfl rfl rfl ?_
   obtain ⟨a192,e193,hf144⟩:=bs hf144
   obtain ⟨p195,x194⟩:=AO e193
   obtain ⟨b196,o197,ce198,hA199,hF202,hl200,hd201,rfl,r203⟩:=h151.elemF x194
   refine h_iaE (hA:=hA199) (hj:=(Int.toNat_of_nonneg p195).symm) (hlt:=hl200) rfl rfl rfl rfl ?_
   refine AK ?_
   refine x_one (i:=15) (by kernel_rfl) rfl ?_
   refine CG rfl h151 (a:=n189) (vInt r191) hA199 rfl rfl (AJ x194) fun w204 S205 h151=>?_
   refine x_end (by kernel_rfl) ?_
   refine x_nil (by kernel_rfl) ?_
   refine Ah (Ae (o_mv rfl rfl (o_mv rfl rfl (o_teS rfl rfl rfl (fun c206=>?_) fun c206=>?_))))
   ·
    replace hf144:=ip hf144 c206
    refine o_z ?_
    refine Ar rfl (Bt [] O141 ?_)
    refine x_pre (fuel:=1) [] [(0,true),(1,true),(2,true),(3,true),(4,true),(5,true),(6,true),(7,true),(8,true),(9,true),(10,true),(11,true),(12,true),(13,true)] (by kernel_rfl) rfl ?_
    refine h_mv rfl rfl rfl (h_mv rfl rfl rfl ?_)
    obtain ⟨n207,e208,hf144⟩:=bs hf144
    have r209:=(AW e208)
    refine h_adE (he:=e208) rfl rfl rfl rfl ?_
    refine h_mv rfl rfl rfl (h_mv rfl rfl rfl ?_)
    obtain ⟨n210,e211,hf144⟩:=bs hf144
    have r212:=(AW e211)
    refine h_adE (he:=e211) rfl rfl rfl rfl ?_
    obtain ⟨a213,e214,hf144⟩:=bs hf144
    obtain ⟨p216,x215⟩:=AO e214
    obtain ⟨b217,o218,ce219,hA220,hF223,hl221,hd222,rfl,r224⟩:=h151.elemF x215
    refine h_iaE (hA:=hA220) (hj:=(Int.toNat_of_nonneg p216).symm) (hlt:=hl221) rfl rfl rfl rfl ?_
    refine h_ldC (hc:=fun w' ⟨O',hq⟩=>cat0 (Bd (hq.agree (i:=3) (by decide)) hF223 hd222)) rfl rfl rfl ?_
    refine h_mv rfl rfl rfl (h_mv rfl rfl rfl ?_)
    obtain ⟨a225,e226,hf144⟩:=bs hf144
    replace h86:=h86.st S205
    obtain ⟨b227,o228,ce229,hA230,hF233,hl231,hd232,rfl,r234⟩:=h86.elem e226
    refine h_iaE (hA:=hA230) (hj:=rfl) (hlt:=hl231) rfl rfl rfl rfl ?_
    refine h_ldC (hc:=fun w' ⟨O',hq⟩=>cat0 (Bd (hq.agree (i:=0) (by decide)) hF233 hd232)) rfl rfl rfl ?_
    refine h_min rfl rfl rfl rfl ?_
    obtain ⟨a235,e236,hf144⟩:=bs hf144
    obtain ⟨p238,x237⟩:=AO e236
    obtain ⟨b239,o240,ce241,hA242,hF245,hl243,hd244,rfl,r246⟩:=h151.elemF x237
    refine h_iaE (hA:=hA242) (hj:=(Int.toNat_of_nonneg p238).symm) (hlt:=hl243) rfl rfl rfl rfl ?_
    refine AK ?_
    refine x_one (i:=14) (by kernel_rfl) rfl ?_
    refine CG rfl h151 (a:=(min a213 a225)) (vInt (rngMin r224 r234)) hA242 rfl rfl (AJ x237) fun w247 S248 h151=>?_
    refine x_end (by kernel_rfl) ?_
    refine x_nil (by kernel_rfl) ?_
    obtain rfl:=sm hf144
    refine (?_:Exists _)
    replace hB:=(hB.st S205).st S248
    replace hx0:=(hx0.st S205).st S248
    replace hx1:=(hx1.st S205).st S248
    replace h86:=h86.st S248
    exact ⟨_,(),rfl,⟨rfl,rfl,rfl,rfl,rfl,rfl,rfl,rfl,rfl,rfl,trivial⟩,_,hB,hx1,h86,h151,hx0⟩
   ·
    replace hf144:=im hf144 c206
    refine o_z ?_
    refine Aj rfl (Am ?_)
    obtain rfl:=sm hf144
    refine (?_:Exists _)
    replace hB:=hB.st S205
    replace hx0:=hx0.st S205
    replace hx1:=hx1.st S205
    replace h86:=h86.st S205
    exact ⟨_,(),rfl,⟨rfl,rfl,rfl,rfl,rfl,rfl,rfl,rfl,rfl,rfl,trivial⟩,_,hB,hx1,h86,h151,hx0⟩
  replace hB:=(hB.st S112).st S131
  replace hx0:=(hx0.st S112).st S131
  rintro l249 w250 ⟨s253,x254,rfl,hs252,O251,hB,hx1,h151,hx0⟩
  replace hf80:=AY hf80
  refine AP _ hs252 ?_
  refine Ae (o_mv rfl rfl (o_as rfl rfl (o_z ?_)))
  obtain ⟨O255,S256,h151⟩:=h151.freeze
  obtain rfl:=sm hf80
  refine (?_:Exists _)
  replace hB:=hB.st S256
  replace hx0:=hx0.st S256
  replace hx1:=hx1.st S256
  exact ⟨_,((some ⟨g109,0,none⟩),m104),rfl,⟨rfl,rfl,rfl,(congrArg (fun n=>some (Value.slice _ n _)) h151.len.1.symm.symm),rfl,trivial⟩,_,hB,hx1,h151.relen,hx0⟩
 rintro l257 w258 ⟨s261,x262,rfl,hs260,O259,hB,hx1,h86⟩
 replace hm:=AY hm
 refine AP _ hs260 ?_
 refine Ah (Ae (o_mv rfl rfl (o_mv rfl rfl (o_ln rfl rfl ?_))))
 have l264:x1.length≤9223372036854775807:=Nat.le_trans hx1.len.2.1 hx1.len.2.2
 have r263:inI64 (x1.length:Int):=rngNat l264
 obtain ⟨a265,e266,hm⟩:=bs hm
 obtain ⟨b267,o268,ce269,hA270,hl271,hd272,rfl,r274⟩:=h86.elem' e266
 refine o_iaE (hA:=hA270) (hj:=rfl) (hlt:=hl271) rfl rfl rfl ?_
 refine o_ld (hc:=cat0 hd272) rfl rfl ?_
 refine o_as rfl rfl (o_z ?_)
 refine Au ?_
 obtain rfl:=sm hm
 exact ret1v rfl (AG rfl) ⟨hB.ext,(vInt r274)⟩
noncomputable def DZ (x0:List ByteArray):Option Bool :=
  bnd (rng (ρ:=Bool) (fun (k12:Nat) (a13:ByteArray) (s10:Int)=>some (.next (wr (s10 + (a13.size:Int))))) x0 0 (x0.length:Int)) fun res8=>fin res8 fun (s38:Int)=>bnd (if 600 < s38 then (some true) else (some false):Option Bool) fun y40=>some y40
theorem KH {w:World} {A:Nat→Prop} (hA:∀ k,A k→k < w.heap.size) {vx0:Value} {x0:List ByteArray} (hx0:Vb w A vx0 x0) {r:Bool} (hm:DZ x0=some r) :
    Fn Tryz.prog 9 [vx0] w fun v w'=>Ext w w'∧Vb w' (upA A w w') v r:=by
 obtain ⟨O,hB,hA0⟩:=enter hA
 replace hx0:=hx0.mono hA0
 obtain ⟨A2,c3,rfl⟩:=hx0.form
 refine AL Tryz.func9 rfl Tryz.ntmps9 rfl ?_
 unfold DZ at hm
 refine Ah (Ae (o_as rfl rfl (o_z ?_)))
 refine Ah (Ae (o_mv rfl rfl (o_ln rfl rfl ?_)))
 have l5:x0.length≤9223372036854775807:=Nat.le_trans hx0.len.2.1 hx0.len.2.2
 have r4:inI64 (x0.length:Int):=rngNat l5
 refine o_as rfl rfl (o_z ?_)
 refine Ah (Ah (Ae (o_mv rfl rfl (o_ln rfl rfl ?_))))
 have l7:x0.length≤9223372036854775807:=Nat.le_trans hx0.len.2.1 hx0.len.2.2
 have r6:inI64 (x0.length:Int):=rngNat l7
 refine o_mv rfl rfl (o_z ?_)
 obtain ⟨res8,hL9,hm⟩:=bs hm
 refine AN (aft res8 (fun (s10:Int) (x11:Unit)=>[(3,(.int .i64 s10))]) (fun s10 x11 w'=>∃ O':Lab,Bs w A w' O'∧inI64 s10)) ?_ ?_
 ·
  refine Al (BD (σ:=Int) (X:=Unit) (x0.length) hL9 rfl l7 (fun (s10:Int) (x11:Unit)=>[(3,(.int .i64 s10)),(8,(.slice A2 x0.length c3))]) _ (fun s10 x11 w'=>∃ O':Lab,Bs w A w' O'∧Vb w' (Fr 0 w' O') (.slice A2 x0.length c3) x0∧inI64 s10) _ () ⟨O,hB,hx0,r4⟩ ⟨rfl,rfl,rfl,rfl,trivial⟩ (fun _ _=>⟨rfl,rfl⟩) (fun _ _=>⟨rfl,trivial⟩) (fun _ _ _ ⟨O',hB,hx0,r24⟩=>⟨O',hB,r24⟩) ⟨rfl,rfl,rfl⟩ ⟨rfl,rfl⟩ ?_)
  rintro k12 a13 s10 x11 w14 cc16 hx17 ⟨O15,hB,hx0,r24⟩ hf18 hret19 hbrk20
  have rk12:inI64 (k12:Int):=rngK hx17 l7
  refine Ah (Ae ?_)
  obtain ⟨b25,o26,ce27,hA28,hl29,hd30,rfl,z32⟩:=hx0.elem' hx17
  refine o_iaE (hA:=hA28) (hj:=rfl) (hlt:=hl29) rfl rfl rfl ?_
  refine o_ld (hc:=cat0 hd30) rfl rfl ?_
  refine o_as rfl rfl (o_z ?_)
  refine Ae (o_mv rfl rfl (o_mv rfl rfl (o_ls rfl rfl ?_)))
  have r33:inI64 (a13.size:Int):=rngNat z32
  refine o_adW rfl rfl rfl ?_
  refine o_as rfl rfl (o_z ?_)
  obtain rfl:=sm hf18
  refine (?_:Exists _)
  exact ⟨_,(),rfl,⟨rfl,rfl,rfl,rfl,trivial⟩,_,hB,hx0,(MB _)⟩
 rintro l34 w35 ⟨s38,x39,rfl,hs37,O36,hB,r24⟩
 replace hm:=AY hm
 refine AP _ hs37 ?_
 refine Ah ?_
 obtain ⟨y40,hy41,hm⟩:=bs hm
 refine AN (fun l' w'=>∃ (x43:Unit) (O':Lab),subs l' [(2,(.bool y40))]∧Bs w A w' O') ?_ ?_
 ·
  refine Ae (o_mv rfl rfl (o_gtS rfl rfl rfl (fun c44=>?_) fun c44=>?_))
  ·
   replace hy41:=ip hy41 c44
   refine o_as rfl rfl (o_z ?_)
   obtain rfl:=sm hy41
   exact ⟨(),_,⟨rfl,trivial⟩,hB⟩
  ·
   replace hy41:=im hy41 c44
   refine o_as rfl rfl (o_z ?_)
   obtain rfl:=sm hy41
   exact ⟨(),_,⟨rfl,trivial⟩,hB⟩
 rintro l45 w46 ⟨x43,O47,hs48,hB⟩
 refine AP _ hs48 ?_
 refine Au ?_
 obtain rfl:=sm hm
 exact ret1v rfl (AG rfl) ⟨hB.ext,vBool⟩
end
section
open Go Go.RowKit
attribute [local irreducible] ewp owp hwp hwq hws Ev Evg Fn retPost loud loudS Res1
noncomputable def Ep (x0:List Int) (x1:Int):Option Int :=
  bnd (rng (ρ:=Int) (fun (k11:Nat) (a12:Int) (s9:Int)=>bnd (chkI (x1 + 1)) fun n32=>bnd (chkI (s9 * (min (max a12 0) n32))) fun n35=>if x1 < n35 then (bnd (chkI (x1 + 1)) fun n39=>some (.ret n39)) else (some (.next n35))) x0 0 1) fun res7=>fin res7 fun (s46:Int)=>some s46
theorem Lv {w:World} {A:Nat→Prop} (hA:∀ k,A k→k < w.heap.size) {vx0:Value} {x0:List Int} (hx0:Vb w A vx0 x0) {x1:Int} (rx1:inI64 x1) {r:Int} (hm:Ep x0 x1=some r) :
    Fn Tryz.prog 29 [vx0,(.int .i64 x1)] w fun v w'=>Ext w w'∧Vb w' (upA A w w') v r:=by
 obtain ⟨O,hB,hA0⟩:=enter hA
 replace hx0:=hx0.mono hA0
 obtain ⟨A3,c4,rfl⟩:=hx0.form
 refine AL Tryz.func29 rfl Tryz.ntmps29 rfl ?_
 unfold Ep at hm
 refine Ah (Ae (o_as rfl rfl (o_z ?_)))
 refine Ah (Ae (o_as rfl rfl (o_z ?_)))
 refine Ah (Ah (Ae (o_mv rfl rfl (o_ln rfl rfl ?_))))
 have l6:x0.length≤9223372036854775807:=Nat.le_trans hx0.len.2.1 hx0.len.2.2
 have r5:inI64 (x0.length:Int):=rngNat l6
 refine o_mv rfl rfl (o_z ?_)
 obtain ⟨res7,hL8,hm⟩:=bs hm
 refine AN (aft res7 (fun (s9:Int) (x10:Unit)=>[(5,(.int .i64 s9))]) (fun s9 x10 w'=>∃ O':Lab,Bs w A w' O'∧inI64 s9)) ?_ ?_
 ·
  refine Al (BD (σ:=Int) (X:=Unit) (x0.length) hL8 rfl l6 (fun (s9:Int) (x10:Unit)=>[(1,(.int .i64 x1)),(5,(.int .i64 s9)),(8,(.slice A3 x0.length c4))]) _ (fun s9 x10 w'=>∃ O':Lab,Bs w A w' O'∧Vb w' (Fr 0 w' O') (.slice A3 x0.length c4) x0∧inI64 s9) _ () ⟨O,hB,hx0,(show inI64 (1) from by decide)⟩ ⟨rfl,rfl,rfl,rfl,rfl,trivial⟩ (fun _ _=>⟨rfl,rfl⟩) (fun _ _=>⟨rfl,trivial⟩) (fun _ _ _ ⟨O',hB,hx0,r23⟩=>⟨O',hB,r23⟩) ⟨rfl,rfl,rfl⟩ ⟨rfl,rfl⟩ ?_)
  rintro k11 a12 s9 x10 w13 cc15 hx16 ⟨O14,hB,hx0,r23⟩ hf17 hret18 hbrk19
  have rk11:inI64 (k11:Int):=rngK hx16 l6
  refine Ah (Ae ?_)
  obtain ⟨b24,o25,ce26,hA27,hl28,hd29,rfl,r31⟩:=hx0.elem' hx16
  refine o_iaE (hA:=hA27) (hj:=rfl) (hlt:=hl28) rfl rfl rfl ?_
  refine o_ld (hc:=cat0 hd29) rfl rfl ?_
  refine o_as rfl rfl (o_z ?_)
  refine Ah (Ae (o_mv rfl rfl (o_mv rfl rfl (o_max rfl rfl rfl ?_))))
  refine o_mv rfl rfl ?_
  obtain ⟨n32,e33,hf17⟩:=bs hf17
  have r34:=(AW e33)
  refine o_adE (he:=e33) rfl rfl rfl ?_
  refine o_min rfl rfl rfl ?_
  obtain ⟨n35,e36,hf17⟩:=bs hf17
  have r37:=(AW e36)
  refine o_mlE (he:=e36) rfl rfl rfl ?_
  refine o_as rfl rfl (o_z ?_)
  refine Ah (Ae (o_mv rfl rfl (o_mv rfl rfl (o_gtS rfl rfl rfl (fun c38=>?_) fun c38=>?_))))
  ·
   replace hf17:=ip hf17 c38
   refine o_z ?_
   refine Ar rfl (Ah (Ae (o_mv rfl rfl ?_)))
   obtain ⟨n39,e40,hf17⟩:=bs hf17
   have r41:=(AW e40)
   refine o_adE (he:=e40) rfl rfl rfl ?_
   refine o_as rfl rfl (o_z ?_)
   refine Au ?_
   obtain rfl:=sm hf17
   obtain rfl:=hret18 _ rfl
   obtain rfl:=sm (Cv hm)
   exact ret1v rfl (AG rfl) ⟨hB.ext,(vInt r41)⟩
  ·
   replace hf17:=im hf17 c38
   refine o_z ?_
   refine Aj rfl (Am ?_)
   obtain rfl:=sm hf17
   refine (?_:Exists _)
   exact ⟨_,(),rfl,⟨rfl,rfl,rfl,rfl,rfl,trivial⟩,_,hB,hx0,r37⟩
 rintro l42 w43 ⟨s46,x47,rfl,hs45,O44,hB,r23⟩
 replace hm:=AY hm
 refine AP _ hs45 ?_
 refine Ah (Ae (o_mv rfl rfl (o_as rfl rfl (o_z ?_))))
 refine Au ?_
 obtain rfl:=sm hm
 exact ret1v rfl (AG rfl) ⟨hB.ext,(vInt r23)⟩
noncomputable def Er (x0:Tsk):Option Int :=
  bnd (Dc x0) fun q24=>bnd (CV x0.vars x0.init) fun q33=>bnd (atI q24 q33) fun a41=>some a41
theorem Lw {w:World} {A:Nat→Prop} (hA:∀ k,A k→k < w.heap.size) {vx0:Value} {x0:Tsk} (hx0:Vb w A vx0 x0) {r:Int} (hm:Er x0=some r) :
    Fn Tryz.prog 14 [vx0] w fun v w'=>Ext w w'∧Vb w' (upA A w w') v r:=by
 obtain ⟨O,hB,hA0⟩:=enter hA
 replace hx0:=hx0.mono hA0
 obtain ⟨cs2,rfl,v3,v4,v5,v6,rfl,h7,h10,h13,h16⟩:=hx0
 obtain ⟨A8,c9,rfl⟩:=h7.form
 obtain ⟨A11,c12,rfl⟩:=h10.form
 obtain ⟨A14,c15,rfl⟩:=h13.form
 obtain ⟨A17,c18,rfl⟩:=h16.form
 refine AL Tryz.func14 rfl Tryz.ntmps14 rfl ?_
 unfold Er at hm
 refine Ah (Ae (l_box 2 O rfl rfl fun g19 w20 O21 S22 h23=>?_))
 replace h23:Lc 2 w20 O21 g19 26 [(.slice A8 x0.vars.length c9),(.slice A11 x0.init.length c12),(.slice A14 x0.goal.length c15),(.slice A17 x0.ops.length c18)]:=h23
 refine o_as rfl rfl (o_z ?_)
 refine Ah (Bt [] O21 ?_)
 refine x_pre (fuel:=5) [] [(0,true),(2,true),(3,true),(4,true),(5,true)] (by kernel_rfl) rfl ?_
 refine h_laB (hl:=rfl) (hb:=fun w' ⟨O',hq⟩=>((h23.st hq (by decide)).1).cellsAt) rfl rfl rfl ?_
 refine h_fa rfl rfl rfl (h_ldC (hc:=fun w' ⟨O',hq⟩=>Blk.cell (i:=0) ((h23.st hq (by decide)).1) rfl) rfl rfl rfl ?_)
 refine h_fa rfl rfl rfl (h_ldC (hc:=fun w' ⟨O',hq⟩=>Blk.cell (i:=1) ((h23.st hq (by decide)).1) rfl) rfl rfl rfl ?_)
 refine AK ?_
 refine x_one (i:=1) (by kernel_rfl) rfl ?_
 obtain ⟨q24,e25,hm⟩:=bs hm
 replace h7:=h7.st S22
 replace h10:=h10.st S22
 replace h13:=h13.st S22
 replace h16:=h16.st S22
 refine CY (O:=O21) (R:=fun w' F v=>Vb w' F v q24) (IH Fr.lt (Vb.ofAgg (cs:=[(.slice A8 x0.vars.length c9),(.slice A11 x0.init.length c12),(.slice A14 x0.goal.length c15),(.slice A17 x0.ops.length c18)]) (x:=x0) rfl ⟨_,_,_,_,rfl,h7,h10,h13,h16⟩) e25) rfl rfl fun v30 w26 O27 S28 h29=>?_
 obtain ⟨A31,c32,rfl⟩:=h29.form
 have hZ:=S28.lst [] (fun _ h=>h.elim)
 refine x_go [] hZ (by kernel_rfl) ?_
 refine x_one (i:=6) (by kernel_rfl) rfl ?_
 obtain ⟨q33,e34,hm⟩:=bs hm
 replace h7:=h7.st S28
 replace h10:=h10.st S28
 refine BP (O:=O27) (A:=All w26) (R:=fun w' F v=>Vb w' F v q33) (Iv (fun _ h=>h) (Vb.mono (F:=Fr 0 w26 O27) h7 Fr.lt) (Vb.mono (F:=Fr 0 w26 O27) h10 Fr.lt) e34) rfl rfl fun v39 w35 O36 S37 h38=>?_
 obtain ⟨rfl,r40⟩:=h38.int
 have hZ:=S37.lst [] (fun _ h=>h.elim)
 refine x_go [] hZ (by kernel_rfl) ?_
 refine x_pre (fuel:=0) [] [(7,true),(8,true),(9,true)] (by kernel_rfl) rfl ?_
 obtain ⟨a41,e42,hm⟩:=bs hm
 obtain ⟨p44,x43⟩:=AO e42
 replace h29:=h29.st S37
 obtain ⟨b45,o46,ce47,hA48,hF51,hl49,hd50,rfl,r52⟩:=h29.elem x43
 refine h_iaE (hA:=hA48) (hj:=(Int.toNat_of_nonneg p44).symm) (hlt:=hl49) rfl rfl rfl rfl ?_
 refine h_ldC (hc:=fun w' ⟨O',hq⟩=>cat0 (Bd (hq.agree (i:=0) (by decide)) hF51 hd50)) rfl rfl rfl ?_
 refine h_as rfl rfl rfl (AK ?_)
 refine x_nil (by kernel_rfl) ?_
 refine Au ?_
 obtain rfl:=sm hm
 replace hB:=((hB.st S22).st S28).st S37
 exact ret1v rfl (AG rfl) ⟨hB.ext,(vInt r52)⟩
end
section
open Go Go.RowKit
attribute [local irreducible] ewp owp hwp hwq hws Ev Evg Fn retPost loud loudS Res1
attribute [local irreducible] hwx loudX hwz zNext
noncomputable def BA (x0:Tsk) (x1:List ByteArray) (x2:Int) (x3:Int):Option (Rsl×Int×Err) :=
  bnd (Cs x0 x1 x2) fun q34=>if q34.2.2.n≠0 then (some ((⟨0,([]:List Int),0,0⟩:Rsl),0,(⟨q34.2.2.n⟩:Err))) else (bnd (BC q34.1 x3) fun q77=>if q77.2.n≠0 then (some ((⟨0,([]:List Int),0,0⟩:Rsl),0,(⟨q77.2.n⟩:Err))) else (if q77.1.verdict≠1 then (some (q77.1,0,(⟨0⟩:Err))) else (bnd (rng (ρ:=Rsl×Int×Err) (fun (k116:Nat) (a117:Int) (s114:(List Int)×(List ByteArray))=>bnd (atI q34.2.1 a117) fun a143=>if 0≤a143.op then (bnd (atI x0.ops a143.op) fun a156=>bnd (appI 8 s114.1 ([a143.op]:List Int)) fun u158=>bnd (appI 16 s114.2 [a156.name]) fun u160=>some (.next (u158,u160))) else (some (.next (s114.1,s114.2)))) q77.1.plan 0 (([]:List Int),([]:List ByteArray))) fun res112=>fin res112 fun (s269:(List Int)×(List ByteArray))=>bnd (Cn s269.2 x1) fun q273=>some ((⟨q77.1.verdict,s269.1,q77.1.cost,q77.1.expanded⟩:Rsl),q273,(⟨0⟩:Err)))))
theorem EP {w:World} {A:Nat→Prop} (hA:∀ k,A k→k < w.heap.size) {vx0:Value} {x0:Tsk} (hx0:Vb w A vx0 x0) {vx1:Value} {x1:List ByteArray} (hx1:Vb w A vx1 x1) {x2:Int} (rx2:inI64 x2) {x3:Int} (rx3:inI64 x3) {r:Rsl×Int×Err} (hm:BA x0 x1 x2 x3=some r) :
    Fn Tryz.prog 11 [vx0,vx1,(.int .i64 x2),(.int .i64 x3)] w fun v w'=>Ext w w'∧T3 w' (upA A w w') v r:=by
 obtain ⟨O,hB,hA0⟩:=enter hA
 replace hx0:=hx0.mono hA0
 obtain ⟨cs5,rfl,v6,v7,v8,v9,rfl,h10,h13,h16,h19⟩:=hx0
 obtain ⟨A11,c12,rfl⟩:=h10.form
 obtain ⟨A14,c15,rfl⟩:=h13.form
 obtain ⟨A17,c18,rfl⟩:=h16.form
 obtain ⟨A20,c21,rfl⟩:=h19.form
 replace hx1:=hx1.mono hA0
 obtain ⟨A22,c23,rfl⟩:=hx1.form
 refine AL Tryz.func11 rfl Tryz.ntmps11 rfl ?_
 unfold BA at hm
 refine Ah (Ae (l_box 2 O rfl rfl fun g24 w25 O26 S27 h28=>?_))
 replace h28:Lc 2 w25 O26 g24 26 [(.slice A11 x0.vars.length c12),(.slice A14 x0.init.length c15),(.slice A17 x0.goal.length c18),(.slice A20 x0.ops.length c21)]:=h28
 refine BJ 3 O26 rfl fun g29 w30 O31 S32 h33=>?_
 refine o_as rfl rfl (o_as rfl rfl (o_z ?_))
 refine Ah (Ae ?_)
 replace h28:=h28.st S32
 refine o_la (hl:=rfl) (hc:=(h28.1).cellsAt) rfl rfl ?_
 refine o_mv rfl rfl (o_mv rfl rfl ?_)
 obtain ⟨q34,e35,hm⟩:=bs hm
 replace hx1:=(hx1.st S27).st S32
 replace h10:=(h10.st S27).st S32
 replace h13:=(h13.st S27).st S32
 replace h16:=(h16.st S27).st S32
 replace h19:=(h19.st S27).st S32
 refine CY (O:=O31) (R:=fun w' F v=>T3 w' F v q34) (IF Fr.lt (Vb.ofAgg (cs:=[(.slice A11 x0.vars.length c12),(.slice A14 x0.init.length c15),(.slice A17 x0.goal.length c18),(.slice A20 x0.ops.length c21)]) (x:=x0) rfl ⟨_,_,_,_,rfl,h10,h13,h16,h19⟩) hx1 rx2 e35) rfl rfl fun v40 w36 O37 S38 h39=>?_
 obtain ⟨v41,v42,v43,rfl,h44,h45,h46⟩:=h39
 obtain ⟨cs47,rfl,v48,v49,v50,v51,rfl,h52,h55,h58,h61⟩:=h44
 obtain ⟨A53,c54,rfl⟩:=h52.form
 obtain ⟨A56,c57,rfl⟩:=h55.form
 obtain ⟨A59,c60,rfl⟩:=h58.form
 obtain ⟨A62,c63,rfl⟩:=h61.form
 obtain ⟨A64,c65,rfl⟩:=h45.form
 obtain ⟨rfl,r66⟩:=h46.err
 refine o_mv rfl rfl (o_ex rfl rfl rfl (o_ex rfl rfl rfl (o_ex rfl rfl rfl (BJ 4 O37 rfl fun g67 w68 O69 S70 h71=>?_))))
 refine AQ h71 rfl rfl rfl (Nat.le_of_ble_eq_true rfl) (by first|exact allOne rfl|simp [Value.cells,Value.oneCell',AM]) fun w72 S73 h71=>?_
 replace h71:Lc 4 w72 O69 g67 26 [(.slice A53 q34.1.vars.length c54),(.slice A56 q34.1.init.length c57),(.slice A59 q34.1.goal.length c60),(.slice A62 q34.1.ops.length c63)]:=h71
 refine o_as rfl rfl (o_as rfl rfl (o_z ?_))
 refine Ah (Ah (Ae (o_mv rfl rfl (o_rnS rfl rfl (fun c74=>?_) fun c74=>?_))))
 ·
  replace hm:=ip hm c74
  refine o_z ?_
  refine Ar rfl (Ah (Ae (o_bd rfl rfl rfl ?_)))
  refine o_mv rfl rfl ?_
  replace h33:=((h33.st S38).st S70).st S73
  refine AQ h33 rfl rfl rfl (Nat.le_of_ble_eq_true rfl) (by first|exact allOne rfl|simp [Value.cells,Value.oneCell',AM]) fun w75 S76 h33=>?_
  replace h33:Lc 3 w75 O69 g29 32 [(.int .i64 0),(.slice none 0 0),(.int .i64 0),(.int .i64 0)]:=h33
  refine o_as rfl rfl (o_as rfl rfl (o_z ?_))
  refine Au ?_
  obtain rfl:=sm hm
  replace hB:=(((((hB.st S27).st S32).st S38).st S70).st S73).st S76
  exact ret3 rfl (BK (cs:=[(.int .i64 0),(.slice none 0 0),(.int .i64 0),(.int .i64 0)]) rfl rfl h33.1.cellsAt) (AG rfl) (AG rfl) ⟨hB.ext,_,_,_,rfl,(Vb.mono (F:=Fr 0 w75 O69) (Vb.ofAgg (cs:=[(.int .i64 0),(.slice none 0 0),(.int .i64 0),(.int .i64 0)]) (x:=(⟨0,([]:List Int),0,0⟩:Rsl)) rfl ⟨_,rfl,(Vb.nil _ _),(show inI64 0 from by decide),(show inI64 0 from by decide),(show inI64 0 from by decide)⟩) hB.out),(vInt (show inI64 (0) from by decide)),(vErr r66)⟩
 ·
  replace hm:=im hm c74
  refine o_z ?_
  refine Aj rfl (Am (Ah (Ae (o_la (hl:=rfl) (hc:=(h71.1).cellsAt) rfl rfl ?_))))
  refine o_mv rfl rfl ?_
  obtain ⟨q77,e78,hm⟩:=bs hm
  replace h52:=(h52.st S70).st S73
  replace h55:=(h55.st S70).st S73
  replace h58:=(h58.st S70).st S73
  replace h61:=(h61.st S70).st S73
  refine CY (O:=O69) (R:=fun w' F v=>T2 w' F v q77) (Ik Fr.lt (Vb.ofAgg (cs:=[(.slice A53 q34.1.vars.length c54),(.slice A56 q34.1.init.length c57),(.slice A59 q34.1.goal.length c60),(.slice A62 q34.1.ops.length c63)]) (x:=q34.1) rfl ⟨_,_,_,_,rfl,h52,h55,h58,h61⟩) rx3 e78) rfl rfl fun v83 w79 O80 S81 h82=>?_
  obtain ⟨v84,v85,rfl,h86,h87⟩:=h82
  obtain ⟨cs88,rfl,v89,rfl,h90,r93,r94,r95⟩:=h86
  obtain ⟨A91,c92,rfl⟩:=h90.form
  obtain ⟨rfl,r96⟩:=h87.err
  refine o_mv rfl rfl (o_ex rfl rfl rfl (o_ex rfl rfl rfl (BJ 5 O80 rfl fun g97 w98 O99 S100 h101=>?_)))
  refine AQ h101 rfl rfl rfl (Nat.le_of_ble_eq_true rfl) (by first|exact allOne rfl|simp [Value.cells,Value.oneCell',AM]) fun w102 S103 h101=>?_
  replace h101:Lc 5 w102 O99 g97 32 [(.int .i64 q77.1.verdict),(.slice A91 q77.1.plan.length c92),(.int .i64 q77.1.cost),(.int .i64 q77.1.expanded)]:=h101
  refine o_as rfl rfl (o_z ?_)
  refine Ah (Ah (Ae (o_mv rfl rfl (o_rnS rfl rfl (fun c104=>?_) fun c104=>?_))))
  ·
   replace hm:=ip hm c104
   refine o_z ?_
   refine Ar rfl (Ah (Ae (o_bd rfl rfl rfl ?_)))
   refine o_mv rfl rfl ?_
   replace h33:=(((((h33.st S38).st S70).st S73).st S81).st S100).st S103
   refine AQ h33 rfl rfl rfl (Nat.le_of_ble_eq_true rfl) (by first|exact allOne rfl|simp [Value.cells,Value.oneCell',AM]) fun w105 S106 h33=>?_
   replace h33:Lc 3 w105 O99 g29 32 [(.int .i64 0),(.slice none 0 0),(.int .i64 0),(.int .i64 0)]:=h33
   refine o_as rfl rfl (o_as rfl rfl (o_z ?_))
   refine Au ?_
   obtain rfl:=sm hm
   replace hB:=((((((((hB.st S27).st S32).st S38).st S70).st S73).st S81).st S100).st S103).st S106
   exact ret3 rfl (BK (cs:=[(.int .i64 0),(.slice none 0 0),(.int .i64 0),(.int .i64 0)]) rfl rfl h33.1.cellsAt) (AG rfl) (AG rfl) ⟨hB.ext,_,_,_,rfl,(Vb.mono (F:=Fr 0 w105 O99) (Vb.ofAgg (cs:=[(.int .i64 0),(.slice none 0 0),(.int .i64 0),(.int .i64 0)]) (x:=(⟨0,([]:List Int),0,0⟩:Rsl)) rfl ⟨_,rfl,(Vb.nil _ _),(show inI64 0 from by decide),(show inI64 0 from by decide),(show inI64 0 from by decide)⟩) hB.out),(vInt (show inI64 (0) from by decide)),(vErr r96)⟩
  ·
   replace hm:=im hm c104
   refine o_z ?_
   refine Aj rfl (Am (Ah (Ah (Ae (o_fa rfl rfl (o_ld (hc:=Blk.cell (i:=0) (h101.1) rfl) rfl rfl ?_))))))
   refine o_neS rfl rfl rfl (fun c107=>?_) fun c107=>?_
   ·
    replace hm:=ip hm c107
    refine o_z ?_
    refine Ar rfl (Ah (Ae (o_la (hl:=rfl) (hc:=(h101.1).cellsAt) rfl rfl ?_)))
    replace h33:=(((((h33.st S38).st S70).st S73).st S81).st S100).st S103
    refine AQ h33 rfl rfl rfl (Nat.le_of_ble_eq_true rfl) (by first|exact allOne rfl|simp [Value.cells,Value.oneCell',AM]) fun w108 S109 h33=>?_
    replace h33:Lc 3 w108 O99 g29 32 [(.int .i64 q77.1.verdict),(.slice A91 q77.1.plan.length c92),(.int .i64 q77.1.cost),(.int .i64 q77.1.expanded)]:=h33
    refine o_as rfl rfl (o_as rfl rfl (o_z ?_))
    refine Au ?_
    obtain rfl:=sm hm
    replace hB:=((((((((hB.st S27).st S32).st S38).st S70).st S73).st S81).st S100).st S103).st S109
    replace h90:=((h90.st S100).st S103).st S109
    exact ret3 rfl (BK (cs:=[(.int .i64 q77.1.verdict),(.slice A91 q77.1.plan.length c92),(.int .i64 q77.1.cost),(.int .i64 q77.1.expanded)]) rfl rfl h33.1.cellsAt) (AG rfl) (AG rfl) ⟨hB.ext,_,_,_,rfl,(Vb.mono (F:=Fr 0 w108 O99) (Vb.ofAgg (cs:=[(.int .i64 q77.1.verdict),(.slice A91 q77.1.plan.length c92),(.int .i64 q77.1.cost),(.int .i64 q77.1.expanded)]) (x:=q77.1) rfl ⟨_,rfl,h90,r93,r94,r95⟩) hB.out),(vInt (show inI64 (0) from by decide)),(vErr (show inI64 0 from by decide))⟩
   ·
    replace hm:=im hm c107
    refine o_z ?_
    refine Aj rfl (Am (Ah (Ae (o_as rfl rfl (o_z ?_)))))
    refine Ah (Ae (o_as rfl rfl (o_z ?_)))
    refine Ah (Ah (Ae (o_fa rfl rfl (o_ld (hc:=Blk.cell (i:=1) (h101.1) rfl) rfl rfl ?_))))
    refine o_ln rfl rfl ?_
    replace h90:=(h90.st S100).st S103
    have l111:q77.1.plan.length≤9223372036854775807:=Nat.le_trans h90.len.2.1 h90.len.2.2
    have r110:inI64 (q77.1.plan.length:Int):=rngNat l111
    refine o_mv rfl rfl (o_z ?_)
    obtain ⟨res112,hL113,hm⟩:=bs hm
    refine AN (aft res112 (fun (s114:(List Int)×(List ByteArray)) (x115:(Option Addr×Nat)×(Option Addr×Nat))=>[(1,(.slice A22 x1.length c23)),(8,(.pointer (some ⟨g29,0,none⟩))),(14,(.pointer (some ⟨g97,0,none⟩))),(15,(.slice x115.1.1 s114.1.length x115.1.2)),(16,(.slice x115.2.1 s114.2.length x115.2.2))]) (fun s114 x115 w'=>∃ O':Lab,Bs w A w' O'∧Vb w' (Fr 0 w' O') (.slice A22 x1.length c23) x1∧Lc 3 w' O' g29 32 [(.int .i64 0),(.slice none 0 0),(.int .i64 0),(.int .i64 0)]∧Lc 5 w' O' g97 32 [(.int .i64 q77.1.verdict),(.slice A91 q77.1.plan.length c92),(.int .i64 q77.1.cost),(.int .i64 q77.1.expanded)]∧Vb w' (Fr 0 w' O') (.slice A91 q77.1.plan.length c92) q77.1.plan∧Rw 7 w' O' 3 (.slice x115.1.1 s114.1.length x115.1.2) s114.1∧Rw 9 w' O' 9 (.slice x115.2.1 s114.2.length x115.2.2) s114.2)) ?_ ?_
    ·
     refine Al ?_
     replace hB:=(((((((hB.st S27).st S32).st S38).st S70).st S73).st S81).st S100).st S103
     replace hx1:=(((((hx1.st S38).st S70).st S73).st S81).st S100).st S103
     replace h10:=(((((h10.st S38).st S70).st S73).st S81).st S100).st S103
     replace h13:=(((((h13.st S38).st S70).st S73).st S81).st S100).st S103
     replace h16:=(((((h16.st S38).st S70).st S73).st S81).st S100).st S103
     replace h19:=(((((h19.st S38).st S70).st S73).st S81).st S100).st S103
     replace h28:=(((((h28.st S38).st S70).st S73).st S81).st S100).st S103
     replace h33:=(((((h33.st S38).st S70).st S73).st S81).st S100).st S103
     replace h45:=((((h45.st S70).st S73).st S81).st S100).st S103
     refine BD (σ:=(List Int)×(List ByteArray)) (X:=(Option Addr×Nat)×(Option Addr×Nat)) (q77.1.plan.length) hL113 rfl l111 (fun (s114:(List Int)×(List ByteArray)) (x115:(Option Addr×Nat)×(Option Addr×Nat))=>[(1,(.slice A22 x1.length c23)),(4,(.pointer (some ⟨g24,0,none⟩))),(8,(.pointer (some ⟨g29,0,none⟩))),(12,(.slice A64 q34.2.1.length c65)),(14,(.pointer (some ⟨g97,0,none⟩))),(15,(.slice x115.1.1 s114.1.length x115.1.2)),(16,(.slice x115.2.1 s114.2.length x115.2.2)),(47,(.slice A91 q77.1.plan.length c92))]) _ (fun s114 x115 w'=>∃ O':Lab,Bs w A w' O'∧Vb w' (Fr 0 w' O') (.slice A22 x1.length c23) x1∧Lc 2 w' O' g24 26 [(.slice A11 x0.vars.length c12),(.slice A14 x0.init.length c15),(.slice A17 x0.goal.length c18),(.slice A20 x0.ops.length c21)]∧Vb w' (Fr 0 w' O') (.slice A11 x0.vars.length c12) x0.vars∧Vb w' (Fr 0 w' O') (.slice A14 x0.init.length c15) x0.init∧Vb w' (Fr 0 w' O') (.slice A17 x0.goal.length c18) x0.goal∧Vb w' (Fr 0 w' O') (.slice A20 x0.ops.length c21) x0.ops∧Lc 3 w' O' g29 32 [(.int .i64 0),(.slice none 0 0),(.int .i64 0),(.int .i64 0)]∧Vb w' (Fr 0 w' O') (.slice A64 q34.2.1.length c65) q34.2.1∧Lc 5 w' O' g97 32 [(.int .i64 q77.1.verdict),(.slice A91 q77.1.plan.length c92),(.int .i64 q77.1.cost),(.int .i64 q77.1.expanded)]∧Vb w' (Fr 0 w' O') (.slice A91 q77.1.plan.length c92) q77.1.plan∧Rw 7 w' O' 3 (.slice x115.1.1 s114.1.length x115.1.2) s114.1∧Rw 9 w' O' 9 (.slice x115.2.1 s114.2.length x115.2.2) s114.2) _ ((none,0),(none,0)) ⟨O99,hB,hx1,h28,h10,h13,h16,h19,h33,h45,h101,h90,(Rw.nil 7 (by decide)),(Rw.nil 9 (by decide))⟩ ⟨rfl,rfl,rfl,rfl,rfl,rfl,rfl,rfl,rfl,rfl,trivial⟩ (fun _ _=>⟨rfl,rfl⟩) (fun _ _=>⟨rfl,rfl,rfl,rfl,rfl,trivial⟩) (fun _ _ _ ⟨O',hB,hx1,h28,h10,h13,h16,h19,h33,h45,h101,h90,h131,h133⟩=>⟨O',hB,hx1,h33,h101,h90,h131,h133⟩) ⟨rfl,rfl,rfl⟩ ⟨rfl,rfl⟩ ?_
     rintro k116 a117 s114 x115 w118 cc120 hx121 ⟨O119,hB,hx1,h28,h10,h13,h16,h19,h33,h45,h101,h90,h131,h133⟩ hf122 hret123 hbrk124
     have rk116:inI64 (k116:Int):=rngK hx121 l111
     refine Ah (Ae ?_)
     obtain ⟨b135,o136,ce137,hA138,hl139,hd140,rfl,r142⟩:=h90.elem' hx121
     refine o_iaE (hA:=hA138) (hj:=rfl) (hlt:=hl139) rfl rfl rfl ?_
     refine o_ld (hc:=cat0 hd140) rfl rfl ?_
     refine o_as rfl rfl (o_z ?_)
     refine Ah (Ae (o_mv rfl rfl (o_mv rfl rfl ?_)))
     obtain ⟨a143,e144,hf122⟩:=bs hf122
     obtain ⟨p146,x145⟩:=AO e144
     obtain ⟨b147,o148,ce149,hA150,hl151,hd152,rfl,r154⟩:=h45.elem' x145
     refine o_iaE (hA:=hA150) (hj:=(Int.toNat_of_nonneg p146).symm) (hlt:=hl151) rfl rfl rfl ?_
     refine o_fa rfl rfl (o_ld (hc:=cat0 hd152) rfl rfl ?_)
     refine o_as rfl rfl (o_z ?_)
     refine Ah (Ae (o_mv rfl rfl (o_geS rfl rfl rfl (fun c155=>?_) fun c155=>?_)))
     ·
      replace hf122:=ip hf122 c155
      refine o_z ?_
      refine Ar rfl ?_
      obtain ⟨a156,e157,hf122⟩:=bs hf122
      obtain ⟨u158,e159,hf122⟩:=bs hf122
      obtain ⟨u160,e161,hf122⟩:=bs hf122
      refine Bt [(3,[7]),(12,[9])] O119 ?_
      refine x_pre (fuel:=13) [] [(0,true),(1,true)] (by kernel_rfl) rfl ?_
      refine h_mv rfl rfl rfl (h_mv rfl rfl rfl (AK ?_))
      refine x_pre (fuel:=6) [7] [(4,true),(5,true),(6,true),(7,true),(8,true),(9,true),(10,true)] (by kernel_rfl) rfl ?_
      refine h_mv rfl rfl rfl (h_fa rfl rfl rfl (h_ldC (hc:=fun w' ⟨O',hq⟩=>Blk.cell (i:=3) ((h28.st hq (by decide)).1) rfl) rfl rfl rfl ?_))
      refine h_mv rfl rfl rfl ?_
      obtain ⟨p163,x162⟩:=AO e157
      obtain ⟨b164,o165,ce166,hA167,hF170,hl168,hd169,v171,v172,rfl,h173,h176,r179,z180⟩:=h19.elem x162
      obtain ⟨A174,c175,rfl⟩:=h173.form
      obtain ⟨A177,c178,rfl⟩:=h176.form
      refine h_iaE (hA:=hA167) (hj:=(Int.toNat_of_nonneg p163).symm) (hlt:=hl168) rfl rfl rfl rfl ?_
      refine h_fa rfl rfl rfl (h_ldC (hc:=fun w' ⟨O',hq⟩=>cat0 (Bd (hq.agree (i:=0) (by decide)) hF170 hd169)) rfl rfl rfl ?_)
      refine AK ?_
      refine x_two (i:=2) (j:=11) (by kernel_rfl) rfl rfl ?_ ?_
      ·
       refine Bf 6 (by decide) O119 (xs:=(([a143.op]:List Int):List Int)) rfl rfl rfl rfl ⟨(vInt r154),trivial⟩ (by decide) (by decide) rfl fun g181 w182 O183 S184 h185=>?_
       have hZ:=S184.lst [] (fun _ h=>h.elim)
       refine x_go [(3,[7]),(12,[9])] hZ (by kernel_rfl) ?_
       refine x_two (i:=3) (j:=11) (by kernel_rfl) rfl rfl ?_ ?_
       ·
        obtain ⟨e159,e187,e188⟩:=AU e159
        replace h131:=h131.st S184
        refine BF rfl h131 (h185.rd) rfl rfl (by decide) e187 e188 rfl fun A189 c190 w191 O192 S193 h194=>?_
        rw [← e159] at h194 ⊢
        have hZ:=S193.lst [7] (fun _ h=>by cases h;decide)
        refine x_go [(12,[9])] hZ (by kernel_rfl) ?_
        refine x_one (i:=11) (by kernel_rfl) rfl ?_
        refine Bf 8 (by decide) O192 (xs:=([a156.name]:List ByteArray)) rfl rfl rfl rfl ⟨(vStr z180),trivial⟩ (by decide) (by decide) rfl fun g196 w197 O198 S199 h200=>?_
        have hZ:=S199.lst [] (fun _ h=>h.elim)
        refine x_go [(12,[9])] hZ (by kernel_rfl) ?_
        refine x_one (i:=12) (by kernel_rfl) rfl ?_
        obtain ⟨e161,e202,e203⟩:=AU e161
        replace h133:=((h133.st S184).st S193).st S199
        refine BF rfl h133 (h200.rd) rfl rfl (by decide) e202 e203 rfl fun A204 c205 w206 O207 S208 h209=>?_
        rw [← e161] at h209 ⊢
        have hZ:=S208.lst [9] (fun _ h=>by cases h;decide)
        refine x_go [] hZ (by kernel_rfl) ?_
        refine x_pre (fuel:=0) [] [(13,true),(14,true)] (by kernel_rfl) rfl ?_
        refine h_as rfl rfl rfl (h_as rfl rfl rfl (AK ?_))
        refine x_nil (by kernel_rfl) ?_
        obtain rfl:=sm hf122
        refine (?_:Exists _)
        replace hB:=(((hB.st S184).st S193).st S199).st S208
        replace hx1:=(((hx1.st S184).st S193).st S199).st S208
        replace h10:=(((h10.st S184).st S193).st S199).st S208
        replace h13:=(((h13.st S184).st S193).st S199).st S208
        replace h16:=(((h16.st S184).st S193).st S199).st S208
        replace h19:=(((h19.st S184).st S193).st S199).st S208
        replace h28:=(((h28.st S184).st S193).st S199).st S208
        replace h33:=(((h33.st S184).st S193).st S199).st S208
        replace h45:=(((h45.st S184).st S193).st S199).st S208
        replace h90:=(((h90.st S184).st S193).st S199).st S208
        replace h101:=(((h101.st S184).st S193).st S199).st S208
        replace h194:=(h194.st S199).st S208
        exact ⟨_,((A189,c190),(A204,c205)),rfl,⟨rfl,rfl,rfl,rfl,rfl,rfl,rfl,rfl,rfl,rfl,trivial⟩,_,hB,hx1,h28,h10,h13,h16,h19,h33,h45,h101,h90,h194,h209⟩
       ·
        refine Bf 8 (by decide) O183 (xs:=([a156.name]:List ByteArray)) rfl rfl rfl rfl ⟨(vStr z180),trivial⟩ (by decide) (by decide) rfl fun g211 w212 O213 S214 h215=>?_
        have hZ:=S214.lst [] (fun _ h=>h.elim)
        refine x_go [(3,[7]),(12,[9])] hZ (by kernel_rfl) ?_
        refine x_one (i:=3) (by kernel_rfl) rfl ?_
        obtain ⟨e159,e217,e218⟩:=AU e159
        replace h131:=(h131.st S184).st S214
        replace h185:=h185.st S214
        refine BF rfl h131 (h185.rd) rfl rfl (by decide) e217 e218 rfl fun A219 c220 w221 O222 S223 h224=>?_
        rw [← e159] at h224 ⊢
        have hZ:=S223.lst [7] (fun _ h=>by cases h;decide)
        refine x_go [(12,[9])] hZ (by kernel_rfl) ?_
        refine x_one (i:=12) (by kernel_rfl) rfl ?_
        obtain ⟨e161,e226,e227⟩:=AU e161
        replace h133:=((h133.st S184).st S214).st S223
        replace h215:=h215.st S223
        refine BF rfl h133 (h215.rd) rfl rfl (by decide) e226 e227 rfl fun A228 c229 w230 O231 S232 h233=>?_
        rw [← e161] at h233 ⊢
        have hZ:=S232.lst [9] (fun _ h=>by cases h;decide)
        refine x_go [] hZ (by kernel_rfl) ?_
        refine x_pre (fuel:=0) [] [(13,true),(14,true)] (by kernel_rfl) rfl ?_
        refine h_as rfl rfl rfl (h_as rfl rfl rfl (AK ?_))
        refine x_nil (by kernel_rfl) ?_
        obtain rfl:=sm hf122
        refine (?_:Exists _)
        replace hB:=(((hB.st S184).st S214).st S223).st S232
        replace hx1:=(((hx1.st S184).st S214).st S223).st S232
        replace h10:=(((h10.st S184).st S214).st S223).st S232
        replace h13:=(((h13.st S184).st S214).st S223).st S232
        replace h16:=(((h16.st S184).st S214).st S223).st S232
        replace h19:=(((h19.st S184).st S214).st S223).st S232
        replace h28:=(((h28.st S184).st S214).st S223).st S232
        replace h33:=(((h33.st S184).st S214).st S223).st S232
        replace h45:=(((h45.st S184).st S214).st S223).st S232
        replace h90:=(((h90.st S184).st S214).st S223).st S232
        replace h101:=(((h101.st S184).st S214).st S223).st S232
        replace h224:=h224.st S232
        exact ⟨_,((A219,c220),(A228,c229)),rfl,⟨rfl,rfl,rfl,rfl,rfl,rfl,rfl,rfl,rfl,rfl,trivial⟩,_,hB,hx1,h28,h10,h13,h16,h19,h33,h45,h101,h90,h224,h233⟩
      ·
       refine Bf 8 (by decide) O119 (xs:=([a156.name]:List ByteArray)) rfl rfl rfl rfl ⟨(vStr z180),trivial⟩ (by decide) (by decide) rfl fun g235 w236 O237 S238 h239=>?_
       have hZ:=S238.lst [] (fun _ h=>h.elim)
       refine x_go [(3,[7]),(12,[9])] hZ (by kernel_rfl) ?_
       refine x_one (i:=2) (by kernel_rfl) rfl ?_
       refine Bf 6 (by decide) O237 (xs:=(([a143.op]:List Int):List Int)) rfl rfl rfl rfl ⟨(vInt r154),trivial⟩ (by decide) (by decide) rfl fun g241 w242 O243 S244 h245=>?_
       have hZ:=S244.lst [] (fun _ h=>h.elim)
       refine x_go [(3,[7]),(12,[9])] hZ (by kernel_rfl) ?_
       refine x_one (i:=3) (by kernel_rfl) rfl ?_
       obtain ⟨e159,e247,e248⟩:=AU e159
       replace h131:=(h131.st S238).st S244
       refine BF rfl h131 (h245.rd) rfl rfl (by decide) e247 e248 rfl fun A249 c250 w251 O252 S253 h254=>?_
       rw [← e159] at h254 ⊢
       have hZ:=S253.lst [7] (fun _ h=>by cases h;decide)
       refine x_go [(12,[9])] hZ (by kernel_rfl) ?_
       refine x_one (i:=12) (by kernel_rfl) rfl ?_
       obtain ⟨e161,e256,e257⟩:=AU e161
       replace h133:=((h133.st S238).st S244).st S253
       replace h239:=(h239.st S244).st S253
       refine BF rfl h133 (h239.rd) rfl rfl (by decide) e256 e257 rfl fun A258 c259 w260 O261 S262 h263=>?_
       rw [← e161] at h263 ⊢
       have hZ:=S262.lst [9] (fun _ h=>by cases h;decide)
       refine x_go [] hZ (by kernel_rfl) ?_
       refine x_pre (fuel:=0) [] [(13,true),(14,true)] (by kernel_rfl) rfl ?_
       refine h_as rfl rfl rfl (h_as rfl rfl rfl (AK ?_))
       refine x_nil (by kernel_rfl) ?_
       obtain rfl:=sm hf122
       refine (?_:Exists _)
       replace hB:=(((hB.st S238).st S244).st S253).st S262
       replace hx1:=(((hx1.st S238).st S244).st S253).st S262
       replace h10:=(((h10.st S238).st S244).st S253).st S262
       replace h13:=(((h13.st S238).st S244).st S253).st S262
       replace h16:=(((h16.st S238).st S244).st S253).st S262
       replace h19:=(((h19.st S238).st S244).st S253).st S262
       replace h28:=(((h28.st S238).st S244).st S253).st S262
       replace h33:=(((h33.st S238).st S244).st S253).st S262
       replace h45:=(((h45.st S238).st S244).st S253).st S262
       replace h90:=(((h90.st S238).st S244).st S253).st S262
       replace h101:=(((h101.st S238).st S244).st S253).st S262
       replace h254:=h254.st S262
       exact ⟨_,((A249,c250),(A258,c259)),rfl,⟨rfl,rfl,rfl,rfl,rfl,rfl,rfl,rfl,rfl,rfl,trivial⟩,_,hB,hx1,h28,h10,h13,h16,h19,h33,h45,h101,h90,h254,h263⟩
     ·
      replace hf122:=im hf122 c155
      refine o_z ?_
      refine Aj rfl (Am ?_)
      obtain rfl:=sm hf122
      refine (?_:Exists _)
      exact ⟨_,((x115.1.1,x115.1.2),(x115.2.1,x115.2.2)),rfl,⟨rfl,rfl,rfl,rfl,rfl,rfl,rfl,rfl,rfl,rfl,trivial⟩,_,hB,hx1,h28,h10,h13,h16,h19,h33,h45,h101,h90,h131,h133⟩
    replace hB:=(((((((hB.st S27).st S32).st S38).st S70).st S73).st S81).st S100).st S103
    replace hx1:=(((((hx1.st S38).st S70).st S73).st S81).st S100).st S103
    replace h33:=(((((h33.st S38).st S70).st S73).st S81).st S100).st S103
    rintro l265 w266 ⟨s269,x270,rfl,hs268,O267,hB,hx1,h33,h101,h90,h131,h133⟩
    replace hm:=AY hm
    refine AP _ hs268 ?_
    refine Ah (Ae (o_mv rfl rfl (o_fa rfl rfl (AQ h101 rfl rfl rfl (Nat.le_of_ble_eq_true rfl) (by first|exact allOne rfl|simp [Value.cells,Value.oneCell',AM]) fun w271 S272 h101=>?_))))
    replace h101:Lc 5 w271 O267 g97 32 [(.int .i64 q77.1.verdict),(.slice x270.1.1 s269.1.length x270.1.2),(.int .i64 q77.1.cost),(.int .i64 q77.1.expanded)]:=h101
    refine o_z ?_
    refine Ah (Bt [(4,[3])] O267 ?_)
    refine x_pre (fuel:=4) [] [(0,true),(1,true),(2,true)] (by kernel_rfl) rfl ?_
    refine h_laB (hl:=rfl) (hb:=fun w' ⟨O',hq⟩=>((h101.st hq (by decide)).1).cellsAt) rfl rfl rfl ?_
    refine h_mv rfl rfl rfl (h_mv rfl rfl rfl (AK ?_))
    refine x_one (i:=3) (by kernel_rfl) rfl ?_
    obtain ⟨q273,e274,hm⟩:=bs hm
    replace hx1:=hx1.st S272
    replace h133:=h133.st S272
    refine BP (O:=O267) (A:=All w271) (R:=fun w' F v=>Vb w' F v q273) (Il (fun _ h=>h) (h133).all (Vb.mono (F:=Fr 0 w271 O267) hx1 Fr.lt) e274) rfl rfl fun v279 w275 O276 S277 h278=>?_
    obtain ⟨rfl,r280⟩:=h278.int
    have hZ:=S277.lst [] (fun _ h=>h.elim)
    refine x_go [(4,[3])] hZ (by kernel_rfl) ?_
    refine x_one (i:=4) (by kernel_rfl) rfl ?_
    replace h33:=(h33.st S272).st S277
    refine AQ h33 rfl rfl rfl (Nat.le_of_ble_eq_true rfl) (by first|exact allOne rfl|simp [Value.cells,Value.oneCell',AM]) fun w281 S282 h33=>?_
    replace h33:Lc 3 w281 O276 g29 32 [(.int .i64 q77.1.verdict),(.slice x270.1.1 s269.1.length x270.1.2),(.int .i64 q77.1.cost),(.int .i64 q77.1.expanded)]:=h33
    have hZ:=S282.lst [3] (fun _ h=>by cases h;decide)
    refine x_go [] hZ (by kernel_rfl) ?_
    refine x_pre (fuel:=0) [] [(5,true),(6,true)] (by kernel_rfl) rfl ?_
    refine h_as rfl rfl rfl (h_as rfl rfl rfl (AK ?_))
    refine x_nil (by kernel_rfl) ?_
    refine Au ?_
    replace h131:=((h131.st S272).st S277).st S282
    obtain ⟨O283,S284,h131⟩:=h131.freeze
    obtain rfl:=sm hm
    replace hB:=(((hB.st S272).st S277).st S282).st S284
    replace h33:=h33.st S284
    exact ret3 rfl (BK (cs:=[(.int .i64 q77.1.verdict),(.slice x270.1.1 s269.1.length x270.1.2),(.int .i64 q77.1.cost),(.int .i64 q77.1.expanded)]) rfl rfl h33.1.cellsAt) (AG rfl) (AG rfl) ⟨hB.ext,_,_,_,rfl,(Vb.mono (F:=Fr 0 w281 O283) (Vb.ofAgg (cs:=[(.int .i64 q77.1.verdict),(.slice x270.1.1 s269.1.length x270.1.2),(.int .i64 q77.1.cost),(.int .i64 q77.1.expanded)]) (x:=(⟨q77.1.verdict,s269.1,q77.1.cost,q77.1.expanded⟩:Rsl)) rfl ⟨_,rfl,h131,r93,r94,r95⟩) hB.out),(vInt r280),(vErr (show inI64 0 from by decide))⟩
noncomputable def CR  : Option Bool :=
  bnd (BA (⟨([2]:List Int),([0]:List Int),[(⟨0,1⟩:Fct)],[(⟨(⟨#[97]⟩:ByteArray),3,([]:List Fct),[(⟨([]:List Fct),0,1⟩:Eff)]⟩:Opr)]⟩:Tsk) [(⟨#[97]⟩:ByteArray)] 5 100) fun q56=>bnd (if q56.2.2.n=0 then (if q56.2.1=0 then (if q56.1.verdict=1 then (if q56.1.cost=3 then (bnd (Fc q56.1.plan ([0]:List Int)) fun q100=>if q100=true then some true else some false) else (some false)) else (some false)) else (some false)) else (some false):Option Bool) fun y86=>some y86
theorem Hk {w:World} {A:Nat→Prop} (hA:∀ k,A k→k < w.heap.size)  {r:Bool} (hm:CR  = some r) :
    Fn Tryz.prog 10 [] w fun v w'=>Ext w w'∧Vb w' (upA A w w') v r:=by
 obtain ⟨O,hB,hA0⟩:=enter hA
 refine AL Tryz.func10 rfl Tryz.ntmps10 rfl ?_
 unfold CR at hm
 refine Ah (Ae (o_as rfl rfl (o_z ?_)))
 refine Ah (Ae (Bf 2 (by decide) O (xs:=(([2]:List Int):List Int)) rfl rfl rfl rfl ⟨(vInt (show inI64 (2) from by decide)),trivial⟩ (by decide) (by decide) rfl fun g1 w2 O3 S4 h5=>?_))
 refine Bf 3 (by decide) O3 (xs:=(([0]:List Int):List Int)) rfl rfl rfl rfl ⟨(vInt (show inI64 (0) from by decide)),trivial⟩ (by decide) (by decide) rfl fun g7 w8 O9 S10 h11=>?_
 refine o_bd rfl rfl rfl ?_
 refine Bf 4 (by decide) O9 (xs:=([(⟨0,1⟩:Fct)]:List Fct)) rfl rfl rfl rfl ⟨(Vb.ofAgg (cs:=[(.int .i64 0),(.int .i64 1)]) (x:=(⟨0,1⟩:Fct)) rfl ⟨rfl,(show inI64 (0) from by decide),(show inI64 (1) from by decide)⟩),trivial⟩ (by decide) (by decide) rfl fun g13 w14 O15 S16 h17=>?_
 refine o_bd rfl rfl rfl ?_
 refine Bf 5 (by decide) O15 (xs:=([(⟨([]:List Fct),0,1⟩:Eff)]:List Eff)) rfl rfl rfl rfl ⟨(Vb.ofAgg (cs:=[(.slice none 0 0),(.int .i64 0),(.int .i64 1)]) (x:=(⟨([]:List Fct),0,1⟩:Eff)) rfl ⟨_,rfl,(Vb.nil _ _),(show inI64 (0) from by decide),(show inI64 (1) from by decide)⟩),trivial⟩ (by decide) (by decide) rfl fun g19 w20 O21 S22 h23=>?_
 refine o_bd rfl rfl rfl ?_
 obtain ⟨O25,S26,h23⟩:=h23.freeze
 refine Bf 6 (by decide) O25 (xs:=([(⟨(⟨#[97]⟩:ByteArray),3,([]:List Fct),[(⟨([]:List Fct),0,1⟩:Eff)]⟩:Opr)]:List Opr)) rfl rfl rfl rfl ⟨(Vb.ofAgg (cs:=[(.string (⟨#[97]⟩:ByteArray)),(.int .i64 3),(.slice none 0 0),(.slice (some ⟨g19,0,none⟩) [(⟨([]:List Fct),0,1⟩:Eff)].length 1)]) (x:=(⟨(⟨#[97]⟩:ByteArray),3,([]:List Fct),[(⟨([]:List Fct),0,1⟩:Eff)]⟩:Opr)) rfl ⟨_,_,rfl,(Vb.nil _ _),h23,(show inI64 (3) from by decide),(show (⟨#[97]⟩:ByteArray).size≤9223372036854775807 from by decide)⟩),trivial⟩ (by decide) (by decide) rfl fun g27 w28 O29 S30 h31=>?_
 refine o_bd rfl rfl rfl ?_
 refine BJ 7 O29 rfl fun g33 w34 O35 S36 h37=>?_
 refine AQ h37 rfl rfl rfl (Nat.le_of_ble_eq_true rfl) (by first|exact allOne rfl|simp [Value.cells,Value.oneCell',AM]) fun w38 S39 h37=>?_
 replace h37:Lc 7 w38 O35 g33 26 [(.slice (some ⟨g1,0,none⟩) ([2]:List Int).length 1),(.slice (some ⟨g7,0,none⟩) ([0]:List Int).length 1),(.slice (some ⟨g13,0,none⟩) [(⟨0,1⟩:Fct)].length 1),(.slice (some ⟨g27,0,none⟩) [(⟨(⟨#[97]⟩:ByteArray),3,([]:List Fct),[(⟨([]:List Fct),0,1⟩:Eff)]⟩:Opr)].length 1)]:=h37
 refine o_z ?_
 refine Ah (Ae (o_la (hl:=rfl) (hc:=(h37.1).cellsAt) rfl rfl ?_))
 refine Bf 8 (by decide) O35 (xs:=([(⟨#[97]⟩:ByteArray)]:List ByteArray)) rfl rfl rfl rfl ⟨(vStr (show (⟨#[97]⟩:ByteArray).size≤9223372036854775807 from by decide)),trivial⟩ (by decide) (by decide) rfl fun g40 w41 O42 S43 h44=>?_
 replace h5:=(((((((h5.st S10).st S16).st S22).st S26).st S30).st S36).st S39).st S43
 obtain ⟨O46,S47,h5⟩:=h5.freeze
 replace h11:=(((((((h11.st S16).st S22).st S26).st S30).st S36).st S39).st S43).st S47
 obtain ⟨O48,S49,h11⟩:=h11.freeze
 replace h17:=(((((((h17.st S22).st S26).st S30).st S36).st S39).st S43).st S47).st S49
 obtain ⟨O50,S51,h17⟩:=h17.freeze
 replace h31:=(((((h31.st S36).st S39).st S43).st S47).st S49).st S51
 obtain ⟨O52,S53,h31⟩:=h31.freeze
 replace h44:=(((h44.st S47).st S49).st S51).st S53
 obtain ⟨O54,S55,h44⟩:=h44.freeze
 obtain ⟨q56,e57,hm⟩:=bs hm
 replace h5:=(((h5.st S49).st S51).st S53).st S55
 replace h11:=((h11.st S51).st S53).st S55
 replace h17:=(h17.st S53).st S55
 replace h31:=h31.st S55
 refine CY (O:=O54) (R:=fun w' F v=>T3 w' F v q56) (EP Fr.lt (Vb.ofAgg (cs:=[(.slice (some ⟨g1,0,none⟩) ([2]:List Int).length 1),(.slice (some ⟨g7,0,none⟩) ([0]:List Int).length 1),(.slice (some ⟨g13,0,none⟩) [(⟨0,1⟩:Fct)].length 1),(.slice (some ⟨g27,0,none⟩) [(⟨(⟨#[97]⟩:ByteArray),3,([]:List Fct),[(⟨([]:List Fct),0,1⟩:Eff)]⟩:Opr)].length 1)]) (x:=(⟨([2]:List Int),([0]:List Int),[(⟨0,1⟩:Fct)],[(⟨(⟨#[97]⟩:ByteArray),3,([]:List Fct),[(⟨([]:List Fct),0,1⟩:Eff)]⟩:Opr)]⟩:Tsk)) rfl ⟨_,_,_,_,rfl,h5,h11,h17,h31⟩) h44 (show inI64 (5) from by decide) (show inI64 (100) from by decide) e57) rfl rfl fun v62 w58 O59 S60 h61=>?_
 obtain ⟨v63,v64,v65,rfl,h66,h67,h68⟩:=h61
 obtain ⟨cs69,rfl,v70,rfl,h71,r74,r75,r76⟩:=h66
 obtain ⟨A72,c73,rfl⟩:=h71.form
 obtain ⟨rfl,r77⟩:=h67.int
 obtain ⟨rfl,r78⟩:=h68.err
 refine o_mv rfl rfl (o_ex rfl rfl rfl (o_ex rfl rfl rfl (o_ex rfl rfl rfl (BJ 9 O59 rfl fun g79 w80 O81 S82 h83=>?_))))
 refine AQ h83 rfl rfl rfl (Nat.le_of_ble_eq_true rfl) (by first|exact allOne rfl|simp [Value.cells,Value.oneCell',AM]) fun w84 S85 h83=>?_
 replace h83:Lc 9 w84 O81 g79 32 [(.int .i64 q56.1.verdict),(.slice A72 q56.1.plan.length c73),(.int .i64 q56.1.cost),(.int .i64 q56.1.expanded)]:=h83
 refine o_as rfl rfl (o_as rfl rfl (o_z ?_))
 refine Ah ?_
 obtain ⟨y86,hy87,hm⟩:=bs hm
 refine AN (fun l' w'=>∃ (x89:Unit) (O':Lab),subs l' [(0,(.bool y86))]∧Bs w A w' O') ?_ ?_
 ·
  refine Ae (o_mv rfl rfl (o_erS rfl rfl (fun c90=>?_) fun c90=>?_))
  ·
   replace hy87:=ip hy87 c90
   refine o_mv rfl rfl (AE rfl rfl (o_mv rfl rfl (AE rfl rfl (o_eeS rfl rfl rfl (fun c91=>?_) fun c91=>?_))))
   ·
    replace hy87:=ip hy87 c91
    refine o_pt rfl rfl rfl (o_mv rfl rfl (AE rfl rfl (o_fa rfl rfl (AE rfl rfl (o_ld (hc:=Blk.cell (i:=0) (h83.1) rfl) rfl rfl ?_)))))
    refine AE rfl rfl (o_eeS rfl rfl rfl (fun c92=>?_) fun c92=>?_)
    ·
     replace hy87:=ip hy87 c92
     refine o_pt rfl rfl rfl (o_mv rfl rfl (AE rfl rfl (o_fa rfl rfl (AE rfl rfl (o_ld (hc:=Blk.cell (i:=2) (h83.1) rfl) rfl rfl ?_)))))
     refine AE rfl rfl (o_eeS rfl rfl rfl (fun c93=>?_) fun c93=>?_)
     ·
      replace hy87:=ip hy87 c93
      refine o_pt rfl rfl rfl (o_mv rfl rfl (AE rfl rfl (o_fa rfl rfl (AE rfl rfl (o_ld (hc:=Blk.cell (i:=1) (h83.1) rfl) rfl rfl ?_)))))
      refine AE rfl rfl (Bf 10 (by decide) O81 (xs:=(([0]:List Int):List Int)) rfl rfl rfl rfl ⟨(vInt (show inI64 (0) from by decide)),trivial⟩ (by decide) (by decide) rfl fun g94 w95 O96 S97 h98=>?_)
      refine AE rfl rfl ?_
      obtain ⟨q100,e101,hy87⟩:=bs hy87
      replace h71:=((h71.st S82).st S85).st S97
      refine BP (O:=O96) (A:=All w95) (R:=fun w' F v=>Vb w' F v q100) (Lk (fun _ h=>h) (Vb.mono (F:=Fr 0 w95 O96) h71 Fr.lt) (h98).all e101) rfl rfl fun v106 w102 O103 S104 h105=>?_
      obtain rfl:=h105.bool
      cases q100
      case false =>
       replace hy87:=iF hy87
       refine o_pt rfl rfl rfl (o_as rfl rfl (o_z ?_))
       obtain rfl:=sm hy87
       replace hB:=((((((((((((((((((hB.st S4).st S10).st S16).st S22).st S26).st S30).st S36).st S39).st S43).st S47).st S49).st S51).st S53).st S55).st S60).st S82).st S85).st S97).st S104
       exact ⟨(),_,⟨rfl,trivial⟩,hB⟩
      replace hy87:=iT hy87
      refine o_pt rfl rfl rfl (o_as rfl rfl (o_z ?_))
      obtain rfl:=sm hy87
      replace hB:=((((((((((((((((((hB.st S4).st S10).st S16).st S22).st S26).st S30).st S36).st S39).st S43).st S47).st S49).st S51).st S53).st S55).st S60).st S82).st S85).st S97).st S104
      exact ⟨(),_,⟨rfl,trivial⟩,hB⟩
     ·
      replace hy87:=im hy87 c93
      refine o_pt rfl rfl rfl (o_mv rfl rfl (AC rfl rfl rfl rfl (AC rfl rfl rfl rfl (AC rfl rfl rfl rfl (AC rfl rfl rfl rfl (o_pf rfl rfl rfl (o_as rfl rfl (o_z ?_))))))))
      obtain rfl:=sm hy87
      replace hB:=((((((((((((((((hB.st S4).st S10).st S16).st S22).st S26).st S30).st S36).st S39).st S43).st S47).st S49).st S51).st S53).st S55).st S60).st S82).st S85
      exact ⟨(),_,⟨rfl,trivial⟩,hB⟩
    ·
     replace hy87:=im hy87 c92
     refine o_pt rfl rfl rfl (o_mv rfl rfl (AC rfl rfl rfl rfl (AC rfl rfl rfl rfl (AC rfl rfl rfl rfl (o_pf rfl rfl rfl (o_mv rfl rfl (AC rfl rfl rfl rfl (AC rfl rfl rfl rfl (AC rfl rfl rfl rfl (AC rfl rfl rfl rfl (o_pf rfl rfl rfl (o_as rfl rfl (o_z ?_)))))))))))))
     obtain rfl:=sm hy87
     replace hB:=((((((((((((((((hB.st S4).st S10).st S16).st S22).st S26).st S30).st S36).st S39).st S43).st S47).st S49).st S51).st S53).st S55).st S60).st S82).st S85
     exact ⟨(),_,⟨rfl,trivial⟩,hB⟩
   ·
    replace hy87:=im hy87 c91
    refine o_pt rfl rfl rfl (o_mv rfl rfl (AC rfl rfl rfl rfl (AC rfl rfl rfl rfl (AC rfl rfl rfl rfl (o_pf rfl rfl rfl (o_mv rfl rfl (AC rfl rfl rfl rfl (AC rfl rfl rfl rfl (AC rfl rfl rfl rfl (o_pf rfl rfl rfl (o_mv rfl rfl (AC rfl rfl rfl rfl (AC rfl rfl rfl rfl (AC rfl rfl rfl rfl ?_))))))))))))))
    refine AC rfl rfl rfl rfl (o_pf rfl rfl rfl (o_as rfl rfl (o_z ?_)))
    obtain rfl:=sm hy87
    replace hB:=((((((((((((((((hB.st S4).st S10).st S16).st S22).st S26).st S30).st S36).st S39).st S43).st S47).st S49).st S51).st S53).st S55).st S60).st S82).st S85
    exact ⟨(),_,⟨rfl,trivial⟩,hB⟩
  ·
   replace hy87:=im hy87 c90
   refine o_mv rfl rfl (AC rfl rfl rfl rfl (AC rfl rfl rfl rfl (o_pf rfl rfl rfl (o_mv rfl rfl (AC rfl rfl rfl rfl (AC rfl rfl rfl rfl (AC rfl rfl rfl rfl (o_pf rfl rfl rfl (o_mv rfl rfl (AC rfl rfl rfl rfl (AC rfl rfl rfl rfl (AC rfl rfl rfl rfl (o_pf rfl rfl rfl (o_mv rfl rfl ?_))))))))))))))
   refine AC rfl rfl rfl rfl (AC rfl rfl rfl rfl (AC rfl rfl rfl rfl (AC rfl rfl rfl rfl (o_pf rfl rfl rfl (o_as rfl rfl (o_z ?_))))))
   obtain rfl:=sm hy87
   replace hB:=((((((((((((((((hB.st S4).st S10).st S16).st S22).st S26).st S30).st S36).st S39).st S43).st S47).st S49).st S51).st S53).st S55).st S60).st S82).st S85
   exact ⟨(),_,⟨rfl,trivial⟩,hB⟩
 replace hB:=((((((((((((((((hB.st S4).st S10).st S16).st S22).st S26).st S30).st S36).st S39).st S43).st S47).st S49).st S51).st S53).st S55).st S60).st S82).st S85
 rintro l107 w108 ⟨x89,O109,hs110,hB⟩
 refine AP _ hs110 ?_
 refine Au ?_
 obtain rfl:=sm hm
 exact ret1v rfl (AG rfl) ⟨hB.ext,vBool⟩
noncomputable def Fg (x0:Int) (x1:Int) (x2:Int):Option Int :=
  some (max x1 (min x0 x2))
theorem Lx {w:World} {A:Nat→Prop} (hA:∀ k,A k→k < w.heap.size) {x0:Int} (rx0:inI64 x0) {x1:Int} (rx1:inI64 x1) {x2:Int} (rx2:inI64 x2) {r:Int} (hm:Fg x0 x1 x2=some r) :
    Fn Tryz.prog 18 [(.int .i64 x0),(.int .i64 x1),(.int .i64 x2)] w fun v w'=>Ext w w'∧Vb w' (upA A w w') v r:=by
 obtain ⟨O,hB,hA0⟩:=enter hA
 refine AL Tryz.func18 rfl Tryz.ntmps18 rfl ?_
 unfold Fg at hm
 refine Ah (Ae (o_as rfl rfl (o_z ?_)))
 refine Ah (Ae (o_mv rfl rfl (o_mv rfl rfl (o_mv rfl rfl (o_min rfl rfl rfl ?_)))))
 refine o_max rfl rfl rfl ?_
 refine o_as rfl rfl (o_z ?_)
 refine Au ?_
 obtain rfl:=sm hm
 exact ret1v rfl (AG rfl) ⟨hB.ext,(vInt (rngMax rx1 (rngMin rx0 rx2)))⟩
noncomputable def Es (x0:Tsk) (x1:List ByteArray):Option Bool :=
  bnd (bnd (FP x0) fun q31=>if q31=true then if (x0.ops.length:Int)≤10 then (if (x1.length:Int)≤6 then (bnd (Ep x0.vars 81) fun q44=>if q44≤81 then (some true) else (some false)) else (some false)) else (some false) else some false:Option Bool) fun y27=>some y27
theorem Ly {w:World} {A:Nat→Prop} (hA:∀ k,A k→k < w.heap.size) {vx0:Value} {x0:Tsk} (hx0:Vb w A vx0 x0) {vx1:Value} {x1:List ByteArray} (hx1:Vb w A vx1 x1) {r:Bool} (hm:Es x0 x1=some r) :
    Fn Tryz.prog 8 [vx0,vx1] w fun v w'=>Ext w w'∧Vb w' (upA A w w') v r:=by
 obtain ⟨O,hB,hA0⟩:=enter hA
 replace hx0:=hx0.mono hA0
 obtain ⟨cs3,rfl,v4,v5,v6,v7,rfl,h8,h11,h14,h17⟩:=hx0
 obtain ⟨A9,c10,rfl⟩:=h8.form
 obtain ⟨A12,c13,rfl⟩:=h11.form
 obtain ⟨A15,c16,rfl⟩:=h14.form
 obtain ⟨A18,c19,rfl⟩:=h17.form
 replace hx1:=hx1.mono hA0
 obtain ⟨A20,c21,rfl⟩:=hx1.form
 refine AL Tryz.func8 rfl Tryz.ntmps8 rfl ?_
 unfold Es at hm
 refine Ah (Ae (l_box 2 O rfl rfl fun g22 w23 O24 S25 h26=>?_))
 replace h26:Lc 2 w23 O24 g22 26 [(.slice A9 x0.vars.length c10),(.slice A12 x0.init.length c13),(.slice A15 x0.goal.length c16),(.slice A18 x0.ops.length c19)]:=h26
 refine o_as rfl rfl (o_z ?_)
 refine Ah ?_
 obtain ⟨y27,hy28,hm⟩:=bs hm
 refine AN (fun l' w'=>∃ (x30:Unit) (O':Lab),subs l' [(4,(.bool y27))]∧Bs w A w' O') ?_ ?_
 ·
  refine Ae (o_la (hl:=rfl) (hc:=(h26.1).cellsAt) rfl rfl ?_)
  obtain ⟨q31,e32,hy28⟩:=bs hy28
  replace h8:=h8.st S25
  replace h11:=h11.st S25
  replace h14:=h14.st S25
  replace h17:=h17.st S25
  refine BP (O:=O24) (A:=All w23) (R:=fun w' F v=>Vb w' F v q31) (Kx (fun _ h=>h) (Vb.mono (F:=Fr 0 w23 O24) (Vb.ofAgg (cs:=[(.slice A9 x0.vars.length c10),(.slice A12 x0.init.length c13),(.slice A15 x0.goal.length c16),(.slice A18 x0.ops.length c19)]) (x:=x0) rfl ⟨_,_,_,_,rfl,h8,h11,h14,h17⟩) Fr.lt) e32) rfl rfl fun v37 w33 O34 S35 h36=>?_
  obtain rfl:=h36.bool
  cases q31
  case false =>
   replace hy28:=iF hy28
   refine o_mv rfl rfl (AC rfl rfl rfl rfl (AC rfl rfl rfl rfl (AC rfl rfl rfl rfl (AC rfl rfl rfl rfl (o_pf rfl rfl rfl (o_mv rfl rfl (AC rfl rfl rfl rfl (AC rfl rfl rfl rfl (AC rfl rfl rfl rfl (o_pf rfl rfl rfl (o_mv rfl rfl (AC rfl rfl rfl rfl (AC rfl rfl rfl rfl (AC rfl rfl rfl rfl ?_))))))))))))))
   refine AC rfl rfl rfl rfl (o_pf rfl rfl rfl (o_as rfl rfl (o_z ?_)))
   obtain rfl:=sm hy28
   replace hB:=(hB.st S25).st S35
   exact ⟨(),_,⟨rfl,trivial⟩,hB⟩
  replace hy28:=iT hy28
  refine o_mv rfl rfl (AE rfl rfl (o_fa rfl rfl (AE rfl rfl ?_)))
  replace h26:=h26.st S35
  refine o_ld (hc:=Blk.cell (i:=3) (h26.1) rfl) rfl rfl ?_
  refine AE rfl rfl (o_ln rfl rfl ?_)
  replace h17:=h17.st S35
  have l39:x0.ops.length≤9223372036854775807:=Nat.le_trans h17.len.2.1 h17.len.2.2
  have r38:inI64 (x0.ops.length:Int):=rngNat l39
  refine AE rfl rfl (o_leS rfl rfl rfl (fun c40=>?_) fun c40=>?_)
  ·
   replace hy28:=ip hy28 c40
   refine o_pt rfl rfl rfl (o_mv rfl rfl (AE rfl rfl (o_mv rfl rfl (AE rfl rfl (o_ln rfl rfl ?_)))))
   replace hx1:=(hx1.st S25).st S35
   have l42:x1.length≤9223372036854775807:=Nat.le_trans hx1.len.2.1 hx1.len.2.2
   have r41:inI64 (x1.length:Int):=rngNat l42
   refine AE rfl rfl (o_leS rfl rfl rfl (fun c43=>?_) fun c43=>?_)
   ·
    replace hy28:=ip hy28 c43
    refine o_pt rfl rfl rfl (o_mv rfl rfl (AE rfl rfl (o_fa rfl rfl (AE rfl rfl (o_ld (hc:=Blk.cell (i:=0) (h26.1) rfl) rfl rfl ?_)))))
    refine AE rfl rfl ?_
    obtain ⟨q44,e45,hy28⟩:=bs hy28
    replace h8:=h8.st S35
    refine BP (O:=O34) (A:=All w33) (R:=fun w' F v=>Vb w' F v q44) (Lv (fun _ h=>h) (Vb.mono (F:=Fr 0 w33 O34) h8 Fr.lt) (show inI64 (81) from by decide) e45) rfl rfl fun v50 w46 O47 S48 h49=>?_
    obtain ⟨rfl,r51⟩:=h49.int
    refine AE rfl rfl (o_leS rfl rfl rfl (fun c52=>?_) fun c52=>?_)
    ·
     replace hy28:=ip hy28 c52
     refine o_pt rfl rfl rfl (o_as rfl rfl (o_z ?_))
     obtain rfl:=sm hy28
     replace hB:=((hB.st S25).st S35).st S48
     exact ⟨(),_,⟨rfl,trivial⟩,hB⟩
    ·
     replace hy28:=im hy28 c52
     refine o_pt rfl rfl rfl (o_as rfl rfl (o_z ?_))
     obtain rfl:=sm hy28
     replace hB:=((hB.st S25).st S35).st S48
     exact ⟨(),_,⟨rfl,trivial⟩,hB⟩
   ·
    replace hy28:=im hy28 c43
    refine o_pt rfl rfl rfl (o_mv rfl rfl (AC rfl rfl rfl rfl (AC rfl rfl rfl rfl (AC rfl rfl rfl rfl (AC rfl rfl rfl rfl (o_pf rfl rfl rfl (o_as rfl rfl (o_z ?_))))))))
    obtain rfl:=sm hy28
    replace hB:=(hB.st S25).st S35
    exact ⟨(),_,⟨rfl,trivial⟩,hB⟩
  ·
   replace hy28:=im hy28 c40
   refine o_pt rfl rfl rfl (o_mv rfl rfl (AC rfl rfl rfl rfl (AC rfl rfl rfl rfl (AC rfl rfl rfl rfl (o_pf rfl rfl rfl (o_mv rfl rfl (AC rfl rfl rfl rfl (AC rfl rfl rfl rfl (AC rfl rfl rfl rfl (AC rfl rfl rfl rfl (o_pf rfl rfl rfl (o_as rfl rfl (o_z ?_)))))))))))))
   obtain rfl:=sm hy28
   replace hB:=(hB.st S25).st S35
   exact ⟨(),_,⟨rfl,trivial⟩,hB⟩
 replace hB:=hB.st S25
 rintro l53 w54 ⟨x30,O55,hs56,hB⟩
 refine AP _ hs56 ?_
 refine Au ?_
 obtain rfl:=sm hm
 exact ret1v rfl (AG rfl) ⟨hB.ext,vBool⟩
end
section
open Go Go.RowKit
attribute [local irreducible] ewp owp hwp hwq hws Ev Evg Fn retPost loud loudS Res1
attribute [local irreducible] hwx loudX hwz zNext
noncomputable def Dm (x0:Tsk) (x1:List ByteArray) (x2:Int):Option Bool :=
  bnd (bnd (Es x0 x1) fun q32=>if q32=true then bnd (DZ x1) fun q39=>if q39=true then some true else bnd (CR) fun q46=>if q46=true then some false else some true else some true:Option Bool) fun y28=>if y28=true then (bnd (bnd (CR) fun q62=>if q62=true then some true else some false:Option Bool) fun y58=>some y58) else (bnd (Fg x2 0 1000) fun q73=>bnd (Er x0) fun q81=>bnd (BA x0 x1 0 2000) fun q89=>bnd (BA x0 x1 q73 2000) fun q119=>bnd (if q89.2.2.n≠0 then (some true) else (if q119.2.2.n≠0 then (some true) else (some false)):Option Bool) fun y149=>if y149=true then (bnd (bnd (EM (⟨q89.2.2.n⟩:Err)) fun q164=>if q164≠0 then (some true) else (bnd (EM (⟨q119.2.2.n⟩:Err)) fun q173=>if q173≠0 then (some true) else (some false)):Option Bool) fun y160=>some y160) else (if q81=1125899906842624 then (bnd (if q89.1.verdict=2 then (if q119.1.verdict=2 then (some true) else (some false)) else (some false):Option Bool) fun y187=>some y187) else (bnd (if q89.1.verdict=1 then (if q89.1.cost=q81 then (if q119.1.verdict=1 then (if q81≤q119.1.cost then (bnd (chkI (q73 * q89.2.1)) fun n205=>bnd (chkI (q81 + n205)) fun n208=>if q119.1.cost≤n208 then (some true) else (some false)) else (some false)) else (some false)) else (some false)) else (some false):Option Bool) fun y197=>some y197)))
theorem HP {w:World} {A:Nat→Prop} (hA:∀ k,A k→k < w.heap.size) {vx0:Value} {x0:Tsk} (hx0:Vb w A vx0 x0) {vx1:Value} {x1:List ByteArray} (hx1:Vb w A vx1 x1) {x2:Int} (rx2:inI64 x2) {r:Bool} (hm:Dm x0 x1 x2=some r) :
    Fn Tryz.prog 4 [vx0,vx1,(.int .i64 x2)] w fun v w'=>Ext w w'∧Vb w' (upA A w w') v r:=by
 obtain ⟨O,hB,hA0⟩:=enter hA
 replace hx0:=hx0.mono hA0
 obtain ⟨cs4,rfl,v5,v6,v7,v8,rfl,h9,h12,h15,h18⟩:=hx0
 obtain ⟨A10,c11,rfl⟩:=h9.form
 obtain ⟨A13,c14,rfl⟩:=h12.form
 obtain ⟨A16,c17,rfl⟩:=h15.form
 obtain ⟨A19,c20,rfl⟩:=h18.form
 replace hx1:=hx1.mono hA0
 obtain ⟨A21,c22,rfl⟩:=hx1.form
 refine AL Tryz.func4 rfl Tryz.ntmps4 rfl ?_
 unfold Dm at hm
 refine Ah (Ae (l_box 2 O rfl rfl fun g23 w24 O25 S26 h27=>?_))
 replace h27:Lc 2 w24 O25 g23 26 [(.slice A10 x0.vars.length c11),(.slice A13 x0.init.length c14),(.slice A16 x0.goal.length c17),(.slice A19 x0.ops.length c20)]:=h27
 refine o_as rfl rfl (o_z ?_)
 refine Ah (Ah ?_)
 obtain ⟨y28,hy29,hm⟩:=bs hm
 refine AN (fun l' w'=>∃ (x31:Unit) (O':Lab),subs l' [(1,(.slice A21 x1.length c22)),(2,(.int .i64 x2)),(3,(.pointer (some ⟨g23,0,none⟩))),(25,(.bool y28))]∧Bs w A w' O'∧Vb w' (Fr 0 w' O') (.slice A21 x1.length c22) x1∧Lc 2 w' O' g23 26 [(.slice A10 x0.vars.length c11),(.slice A13 x0.init.length c14),(.slice A16 x0.goal.length c17),(.slice A19 x0.ops.length c20)]∧Vb w' (Fr 0 w' O') (.slice A10 x0.vars.length c11) x0.vars∧Vb w' (Fr 0 w' O') (.slice A13 x0.init.length c14) x0.init∧Vb w' (Fr 0 w' O') (.slice A16 x0.goal.length c17) x0.goal∧Vb w' (Fr 0 w' O') (.slice A19 x0.ops.length c20) x0.ops) ?_ ?_
 ·
  refine Ae (o_la (hl:=rfl) (hc:=(h27.1).cellsAt) rfl rfl ?_)
  refine o_mv rfl rfl ?_
  obtain ⟨q32,e33,hy29⟩:=bs hy29
  replace hx1:=hx1.st S26
  replace h9:=h9.st S26
  replace h12:=h12.st S26
  replace h15:=h15.st S26
  replace h18:=h18.st S26
  refine BP (O:=O25) (A:=All w24) (R:=fun w' F v=>Vb w' F v q32) (Ly (fun _ h=>h) (Vb.mono (F:=Fr 0 w24 O25) (Vb.ofAgg (cs:=[(.slice A10 x0.vars.length c11),(.slice A13 x0.init.length c14),(.slice A16 x0.goal.length c17),(.slice A19 x0.ops.length c20)]) (x:=x0) rfl ⟨_,_,_,_,rfl,h9,h12,h15,h18⟩) Fr.lt) (Vb.mono (F:=Fr 0 w24 O25) hx1 Fr.lt) e33) rfl rfl fun v38 w34 O35 S36 h37=>?_
  obtain rfl:=h37.bool
  cases q32
  case false =>
   replace hy29:=iF hy29
   refine o_nf rfl rfl (o_mv rfl rfl (AC rfl rfl rfl rfl (AC rfl rfl rfl rfl (o_pt rfl rfl rfl (o_mv rfl rfl (AC rfl rfl rfl rfl (AC rfl rfl rfl rfl (o_pt rfl rfl rfl (o_z ?_)))))))))
   obtain rfl:=sm hy29
   replace hB:=(hB.st S26).st S36
   replace hx1:=hx1.st S36
   replace h9:=h9.st S36
   replace h12:=h12.st S36
   replace h15:=h15.st S36
   replace h18:=h18.st S36
   replace h27:=h27.st S36
   exact ⟨(),_,⟨rfl,rfl,rfl,rfl,trivial⟩,hB,hx1,h27,h9,h12,h15,h18⟩
  replace hy29:=iT hy29
  refine o_nt rfl rfl (o_mv rfl rfl (AE rfl rfl (o_mv rfl rfl (AE rfl rfl ?_))))
  obtain ⟨q39,e40,hy29⟩:=bs hy29
  replace hx1:=hx1.st S36
  refine BP (O:=O35) (A:=All w34) (R:=fun w' F v=>Vb w' F v q39) (KH (fun _ h=>h) (Vb.mono (F:=Fr 0 w34 O35) hx1 Fr.lt) e40) rfl rfl fun v45 w41 O42 S43 h44=>?_
  obtain rfl:=h44.bool
  cases q39
  case false =>
   replace hy29:=iF hy29
   refine o_pf rfl rfl rfl (o_mv rfl rfl (AE rfl rfl ?_))
   obtain ⟨q46,e47,hy29⟩:=bs hy29
   refine BP (O:=O42) (A:=All w41) (R:=fun w' F v=>Vb w' F v q46) (Hk (fun _ h=>h)  e47) rfl rfl fun v52 w48 O49 S50 h51=>?_
   obtain rfl:=h51.bool
   cases q46
   case false =>
    replace hy29:=iF hy29
    refine AE rfl rfl (o_nf rfl rfl (o_pf rfl rfl rfl (o_z ?_)))
    obtain rfl:=sm hy29
    replace hB:=(((hB.st S26).st S36).st S43).st S50
    replace hx1:=(hx1.st S43).st S50
    replace h9:=((h9.st S36).st S43).st S50
    replace h12:=((h12.st S36).st S43).st S50
    replace h15:=((h15.st S36).st S43).st S50
    replace h18:=((h18.st S36).st S43).st S50
    replace h27:=((h27.st S36).st S43).st S50
    exact ⟨(),_,⟨rfl,rfl,rfl,rfl,trivial⟩,hB,hx1,h27,h9,h12,h15,h18⟩
   replace hy29:=iT hy29
   refine AE rfl rfl (o_nt rfl rfl (o_pf rfl rfl rfl (o_z ?_)))
   obtain rfl:=sm hy29
   replace hB:=(((hB.st S26).st S36).st S43).st S50
   replace hx1:=(hx1.st S43).st S50
   replace h9:=((h9.st S36).st S43).st S50
   replace h12:=((h12.st S36).st S43).st S50
   replace h15:=((h15.st S36).st S43).st S50
   replace h18:=((h18.st S36).st S43).st S50
   replace h27:=((h27.st S36).st S43).st S50
   exact ⟨(),_,⟨rfl,rfl,rfl,rfl,trivial⟩,hB,hx1,h27,h9,h12,h15,h18⟩
  replace hy29:=iT hy29
  refine o_pf rfl rfl rfl (o_mv rfl rfl (AC rfl rfl rfl rfl (AC rfl rfl rfl rfl (o_pt rfl rfl rfl (o_z ?_)))))
  obtain rfl:=sm hy29
  replace hB:=((hB.st S26).st S36).st S43
  replace hx1:=hx1.st S43
  replace h9:=(h9.st S36).st S43
  replace h12:=(h12.st S36).st S43
  replace h15:=(h15.st S36).st S43
  replace h18:=(h18.st S36).st S43
  replace h27:=(h27.st S36).st S43
  exact ⟨(),_,⟨rfl,rfl,rfl,rfl,trivial⟩,hB,hx1,h27,h9,h12,h15,h18⟩
 replace hB:=hB.st S26
 replace hx1:=hx1.st S26
 replace h9:=h9.st S26
 replace h12:=h12.st S26
 replace h15:=h15.st S26
 replace h18:=h18.st S26
 rintro l53 w54 ⟨x31,O55,hs56,hB,hx1,h27,h9,h12,h15,h18⟩
 refine AP _ hs56 ?_
 refine Cm rfl (fun c57=>?_) (fun c57=>?_)
 ·
  replace hm:=ip hm c57
  refine Ah ?_
  obtain ⟨y58,hy59,hm⟩:=bs hm
  refine AN (fun l' w'=>∃ (x61:Unit) (O':Lab),subs l' [(6,(.bool y58))]∧Bs w A w' O') ?_ ?_
  ·
   refine Ae ?_
   obtain ⟨q62,e63,hy59⟩:=bs hy59
   refine BP (O:=O55) (A:=All w54) (R:=fun w' F v=>Vb w' F v q62) (Hk (fun _ h=>h)  e63) rfl rfl fun v68 w64 O65 S66 h67=>?_
   obtain rfl:=h67.bool
   cases q62
   case false =>
    replace hy59:=iF hy59
    refine o_as rfl rfl (o_z ?_)
    obtain rfl:=sm hy59
    replace hB:=hB.st S66
    exact ⟨(),_,⟨rfl,trivial⟩,hB⟩
   replace hy59:=iT hy59
   refine o_as rfl rfl (o_z ?_)
   obtain rfl:=sm hy59
   replace hB:=hB.st S66
   exact ⟨(),_,⟨rfl,trivial⟩,hB⟩
  rintro l69 w70 ⟨x61,O71,hs72,hB⟩
  refine AP _ hs72 ?_
  refine Au ?_
  obtain rfl:=sm hm
  exact ret1v rfl (AG rfl) ⟨hB.ext,vBool⟩
 ·
  replace hm:=im' hm c57
  refine Am (Ah (Ae (o_mv rfl rfl ?_)))
  obtain ⟨q73,e74,hm⟩:=bs hm
  refine BP (O:=O55) (A:=All w54) (R:=fun w' F v=>Vb w' F v q73) (Lx (fun _ h=>h) rx2 (show inI64 (0) from by decide) (show inI64 (1000) from by decide) e74) rfl rfl fun v79 w75 O76 S77 h78=>?_
  obtain ⟨rfl,r80⟩:=h78.int
  refine o_as rfl rfl (o_z ?_)
  refine Ah (Ae ?_)
  replace h27:=h27.st S77
  refine o_la (hl:=rfl) (hc:=(h27.1).cellsAt) rfl rfl ?_
  obtain ⟨q81,e82,hm⟩:=bs hm
  replace h9:=h9.st S77
  replace h12:=h12.st S77
  replace h15:=h15.st S77
  replace h18:=h18.st S77
  refine BP (O:=O76) (A:=All w75) (R:=fun w' F v=>Vb w' F v q81) (Lw (fun _ h=>h) (Vb.mono (F:=Fr 0 w75 O76) (Vb.ofAgg (cs:=[(.slice A10 x0.vars.length c11),(.slice A13 x0.init.length c14),(.slice A16 x0.goal.length c17),(.slice A19 x0.ops.length c20)]) (x:=x0) rfl ⟨_,_,_,_,rfl,h9,h12,h15,h18⟩) Fr.lt) e82) rfl rfl fun v87 w83 O84 S85 h86=>?_
  obtain ⟨rfl,r88⟩:=h86.int
  refine o_as rfl rfl (o_z ?_)
  refine Ah (Ae ?_)
  replace h27:=h27.st S85
  refine o_la (hl:=rfl) (hc:=(h27.1).cellsAt) rfl rfl ?_
  refine o_mv rfl rfl ?_
  obtain ⟨q89,e90,hm⟩:=bs hm
  replace hx1:=(hx1.st S77).st S85
  replace h9:=h9.st S85
  replace h12:=h12.st S85
  replace h15:=h15.st S85
  replace h18:=h18.st S85
  refine CY (O:=O84) (R:=fun w' F v=>T3 w' F v q89) (EP Fr.lt (Vb.ofAgg (cs:=[(.slice A10 x0.vars.length c11),(.slice A13 x0.init.length c14),(.slice A16 x0.goal.length c17),(.slice A19 x0.ops.length c20)]) (x:=x0) rfl ⟨_,_,_,_,rfl,h9,h12,h15,h18⟩) hx1 (show inI64 (0) from by decide) (show inI64 (2000) from by decide) e90) rfl rfl fun v95 w91 O92 S93 h94=>?_
  obtain ⟨v96,v97,v98,rfl,h99,h100,h101⟩:=h94
  obtain ⟨cs102,rfl,v103,rfl,h104,r107,r108,r109⟩:=h99
  obtain ⟨A105,c106,rfl⟩:=h104.form
  obtain ⟨rfl,r110⟩:=h100.int
  obtain ⟨rfl,r111⟩:=h101.err
  refine o_mv rfl rfl (o_ex rfl rfl rfl (o_ex rfl rfl rfl (o_ex rfl rfl rfl (BJ 3 O92 rfl fun g112 w113 O114 S115 h116=>?_))))
  refine AQ h116 rfl rfl rfl (Nat.le_of_ble_eq_true rfl) (by first|exact allOne rfl|simp [Value.cells,Value.oneCell',AM]) fun w117 S118 h116=>?_
  replace h116:Lc 3 w117 O114 g112 32 [(.int .i64 q89.1.verdict),(.slice A105 q89.1.plan.length c106),(.int .i64 q89.1.cost),(.int .i64 q89.1.expanded)]:=h116
  refine o_as rfl rfl (o_as rfl rfl (o_z ?_))
  refine Ah (Ae ?_)
  replace h27:=((h27.st S93).st S115).st S118
  refine o_la (hl:=rfl) (hc:=(h27.1).cellsAt) rfl rfl ?_
  refine o_mv rfl rfl (o_mv rfl rfl ?_)
  obtain ⟨q119,e120,hm⟩:=bs hm
  replace hx1:=((hx1.st S93).st S115).st S118
  replace h9:=((h9.st S93).st S115).st S118
  replace h12:=((h12.st S93).st S115).st S118
  replace h15:=((h15.st S93).st S115).st S118
  replace h18:=((h18.st S93).st S115).st S118
  refine CY (O:=O114) (R:=fun w' F v=>T3 w' F v q119) (EP Fr.lt (Vb.ofAgg (cs:=[(.slice A10 x0.vars.length c11),(.slice A13 x0.init.length c14),(.slice A16 x0.goal.length c17),(.slice A19 x0.ops.length c20)]) (x:=x0) rfl ⟨_,_,_,_,rfl,h9,h12,h15,h18⟩) hx1 r80 (show inI64 (2000) from by decide) e120) rfl rfl fun v125 w121 O122 S123 h124=>?_
  obtain ⟨v126,v127,v128,rfl,h129,h130,h131⟩:=h124
  obtain ⟨cs132,rfl,v133,rfl,h134,r137,r138,r139⟩:=h129
  obtain ⟨A135,c136,rfl⟩:=h134.form
  obtain ⟨rfl,r140⟩:=h130.int
  obtain ⟨rfl,r141⟩:=h131.err
  refine o_mv rfl rfl (o_ex rfl rfl rfl (o_ex rfl rfl rfl (o_ex rfl rfl rfl (BJ 4 O122 rfl fun g142 w143 O144 S145 h146=>?_))))
  refine AQ h146 rfl rfl rfl (Nat.le_of_ble_eq_true rfl) (by first|exact allOne rfl|simp [Value.cells,Value.oneCell',AM]) fun w147 S148 h146=>?_
  replace h146:Lc 4 w147 O144 g142 32 [(.int .i64 q119.1.verdict),(.slice A135 q119.1.plan.length c136),(.int .i64 q119.1.cost),(.int .i64 q119.1.expanded)]:=h146
  refine o_as rfl rfl (o_as rfl rfl (o_z ?_))
  refine Ah (Ah ?_)
  obtain ⟨y149,hy150,hm⟩:=bs hm
  refine AN (fun l' w'=>∃ (x152:Unit) (O':Lab),subs l' [(2,(.int .i64 q73)),(7,(.int .i64 q81)),(8,(.pointer (some ⟨g112,0,none⟩))),(9,(.int .i64 q89.2.1)),(10,(errV q89.2.2.n)),(11,(.pointer (some ⟨g142,0,none⟩))),(13,(errV q119.2.2.n)),(51,(.bool y149))]∧Bs w A w' O'∧Lc 3 w' O' g112 32 [(.int .i64 q89.1.verdict),(.slice A105 q89.1.plan.length c106),(.int .i64 q89.1.cost),(.int .i64 q89.1.expanded)]∧Vb w' (Fr 0 w' O') (.slice A105 q89.1.plan.length c106) q89.1.plan∧Lc 4 w' O' g142 32 [(.int .i64 q119.1.verdict),(.slice A135 q119.1.plan.length c136),(.int .i64 q119.1.cost),(.int .i64 q119.1.expanded)]∧Vb w' (Fr 0 w' O') (.slice A135 q119.1.plan.length c136) q119.1.plan) ?_ ?_
  ·
   refine Ae (o_mv rfl rfl (o_rnS rfl rfl (fun c153=>?_) fun c153=>?_))
   ·
    replace hy150:=ip hy150 c153
    refine o_mv rfl rfl (AC rfl rfl rfl rfl (AC rfl rfl rfl rfl (o_pt rfl rfl rfl (o_z ?_))))
    obtain rfl:=sm hy150
    replace hB:=(((((((hB.st S77).st S85).st S93).st S115).st S118).st S123).st S145).st S148
    replace h104:=((((h104.st S115).st S118).st S123).st S145).st S148
    replace h116:=((h116.st S123).st S145).st S148
    replace h134:=(h134.st S145).st S148
    exact ⟨(),_,⟨rfl,rfl,rfl,rfl,rfl,rfl,rfl,rfl,trivial⟩,hB,h116,h104,h146,h134⟩
   ·
    replace hy150:=im hy150 c153
    refine o_mv rfl rfl (AE rfl rfl (o_mv rfl rfl (AE rfl rfl (o_rnS rfl rfl (fun c154=>?_) fun c154=>?_))))
    ·
     replace hy150:=ip hy150 c154
     refine o_pf rfl rfl rfl (o_z ?_)
     obtain rfl:=sm hy150
     replace hB:=(((((((hB.st S77).st S85).st S93).st S115).st S118).st S123).st S145).st S148
     replace h104:=((((h104.st S115).st S118).st S123).st S145).st S148
     replace h116:=((h116.st S123).st S145).st S148
     replace h134:=(h134.st S145).st S148
     exact ⟨(),_,⟨rfl,rfl,rfl,rfl,rfl,rfl,rfl,rfl,trivial⟩,hB,h116,h104,h146,h134⟩
    ·
     replace hy150:=im hy150 c154
     refine o_pf rfl rfl rfl (o_z ?_)
     obtain rfl:=sm hy150
     replace hB:=(((((((hB.st S77).st S85).st S93).st S115).st S118).st S123).st S145).st S148
     replace h104:=((((h104.st S115).st S118).st S123).st S145).st S148
     replace h116:=((h116.st S123).st S145).st S148
     replace h134:=(h134.st S145).st S148
     exact ⟨(),_,⟨rfl,rfl,rfl,rfl,rfl,rfl,rfl,rfl,trivial⟩,hB,h116,h104,h146,h134⟩
  replace hB:=(((((((hB.st S77).st S85).st S93).st S115).st S118).st S123).st S145).st S148
  replace h104:=((((h104.st S115).st S118).st S123).st S145).st S148
  replace h116:=((h116.st S123).st S145).st S148
  replace h134:=(h134.st S145).st S148
  rintro l155 w156 ⟨x152,O157,hs158,hB,h116,h104,h146,h134⟩
  refine AP _ hs158 ?_
  refine Cm rfl (fun c159=>?_) (fun c159=>?_)
  ·
   replace hm:=ip hm c159
   refine Ah ?_
   obtain ⟨y160,hy161,hm⟩:=bs hm
   refine AN (fun l' w'=>∃ (x163:Unit) (O':Lab),subs l' [(6,(.bool y160))]∧Bs w A w' O') ?_ ?_
   ·
    refine Ae (o_mv rfl rfl ?_)
    obtain ⟨q164,e165,hy161⟩:=bs hy161
    refine BP (O:=O157) (A:=All w156) (R:=fun w' F v=>Vb w' F v q164) (Jf (fun _ h=>h) r111 e165) rfl rfl fun v170 w166 O167 S168 h169=>?_
    obtain ⟨rfl,r171⟩:=h169.int
    refine o_neS rfl rfl rfl (fun c172=>?_) fun c172=>?_
    ·
     replace hy161:=ip hy161 c172
     refine o_mv rfl rfl (AC rfl rfl rfl rfl (AC rfl rfl rfl rfl (AC rfl rfl rfl rfl (o_pt rfl rfl rfl (o_as rfl rfl (o_z ?_))))))
     obtain rfl:=sm hy161
     replace hB:=hB.st S168
     exact ⟨(),_,⟨rfl,trivial⟩,hB⟩
    ·
     replace hy161:=im hy161 c172
     refine o_mv rfl rfl (AE rfl rfl (o_mv rfl rfl (AE rfl rfl ?_)))
     obtain ⟨q173,e174,hy161⟩:=bs hy161
     refine BP (O:=O167) (A:=All w166) (R:=fun w' F v=>Vb w' F v q173) (Jf (fun _ h=>h) r141 e174) rfl rfl fun v179 w175 O176 S177 h178=>?_
     obtain ⟨rfl,r180⟩:=h178.int
     refine AE rfl rfl (o_neS rfl rfl rfl (fun c181=>?_) fun c181=>?_)
     ·
      replace hy161:=ip hy161 c181
      refine o_pf rfl rfl rfl (o_as rfl rfl (o_z ?_))
      obtain rfl:=sm hy161
      replace hB:=(hB.st S168).st S177
      exact ⟨(),_,⟨rfl,trivial⟩,hB⟩
     ·
      replace hy161:=im hy161 c181
      refine o_pf rfl rfl rfl (o_as rfl rfl (o_z ?_))
      obtain rfl:=sm hy161
      replace hB:=(hB.st S168).st S177
      exact ⟨(),_,⟨rfl,trivial⟩,hB⟩
   rintro l182 w183 ⟨x163,O184,hs185,hB⟩
   refine AP _ hs185 ?_
   refine Au ?_
   obtain rfl:=sm hm
   exact ret1v rfl (AG rfl) ⟨hB.ext,vBool⟩
  ·
   replace hm:=im' hm c159
   refine Am (Ah (Ah (Ae (o_mv rfl rfl (o_eeS rfl rfl rfl (fun c186=>?_) fun c186=>?_)))))
   ·
    replace hm:=ip hm c186
    refine o_z ?_
    refine Ar rfl (Ah ?_)
    obtain ⟨y187,hy188,hm⟩:=bs hm
    refine AN (fun l' w'=>∃ (x190:Unit) (O':Lab),subs l' [(6,(.bool y187))]∧Bs w A w' O') ?_ ?_
    ·
     refine Ae (o_fa rfl rfl (o_ld (hc:=Blk.cell (i:=0) (h116.1) rfl) rfl rfl ?_))
     refine o_eeS rfl rfl rfl (fun c191=>?_) fun c191=>?_
     ·
      replace hy188:=ip hy188 c191
      refine o_mv rfl rfl (AE rfl rfl (o_fa rfl rfl (AE rfl rfl (o_ld (hc:=Blk.cell (i:=0) (h146.1) rfl) rfl rfl ?_))))
      refine AE rfl rfl (o_eeS rfl rfl rfl (fun c192=>?_) fun c192=>?_)
      ·
       replace hy188:=ip hy188 c192
       refine o_pt rfl rfl rfl (o_as rfl rfl (o_z ?_))
       obtain rfl:=sm hy188
       exact ⟨(),_,⟨rfl,trivial⟩,hB⟩
      ·
       replace hy188:=im hy188 c192
       refine o_pt rfl rfl rfl (o_as rfl rfl (o_z ?_))
       obtain rfl:=sm hy188
       exact ⟨(),_,⟨rfl,trivial⟩,hB⟩
     ·
      replace hy188:=im hy188 c191
      refine o_mv rfl rfl (AC rfl rfl rfl rfl (AC rfl rfl rfl rfl (AC rfl rfl rfl rfl (o_pf rfl rfl rfl (o_as rfl rfl (o_z ?_))))))
      obtain rfl:=sm hy188
      exact ⟨(),_,⟨rfl,trivial⟩,hB⟩
    rintro l193 w194 ⟨x190,O195,hs196,hB⟩
    refine AP _ hs196 ?_
    refine Au ?_
    obtain rfl:=sm hm
    exact ret1v rfl (AG rfl) ⟨hB.ext,vBool⟩
   ·
    replace hm:=im hm c186
    refine o_z ?_
    refine Aj rfl (Am (Ah ?_))
    obtain ⟨y197,hy198,hm⟩:=bs hm
    refine AN (fun l' w'=>∃ (x200:Unit) (O':Lab),subs l' [(6,(.bool y197))]∧Bs w A w' O') ?_ ?_
    ·
     refine Ae (o_fa rfl rfl (o_ld (hc:=Blk.cell (i:=0) (h116.1) rfl) rfl rfl ?_))
     refine o_eeS rfl rfl rfl (fun c201=>?_) fun c201=>?_
     ·
      replace hy198:=ip hy198 c201
      refine o_mv rfl rfl (AE rfl rfl (o_fa rfl rfl (AE rfl rfl (o_ld (hc:=Blk.cell (i:=2) (h116.1) rfl) rfl rfl ?_))))
      refine AE rfl rfl (o_mv rfl rfl (AE rfl rfl (o_eeS rfl rfl rfl (fun c202=>?_) fun c202=>?_)))
      ·
       replace hy198:=ip hy198 c202
       refine o_pt rfl rfl rfl (o_mv rfl rfl (AE rfl rfl (o_fa rfl rfl (AE rfl rfl (o_ld (hc:=Blk.cell (i:=0) (h146.1) rfl) rfl rfl ?_)))))
       refine AE rfl rfl (o_eeS rfl rfl rfl (fun c203=>?_) fun c203=>?_)
       ·
        replace hy198:=ip hy198 c203
        refine o_pt rfl rfl rfl (o_mv rfl rfl (AE rfl rfl (o_fa rfl rfl (AE rfl rfl (o_ld (hc:=Blk.cell (i:=2) (h146.1) rfl) rfl rfl ?_)))))
        refine AE rfl rfl (o_mv rfl rfl (AE rfl rfl (o_geS rfl rfl rfl (fun c204=>?_) fun c204=>?_)))
        ·
         replace hy198:=ip hy198 c204
         refine o_pt rfl rfl rfl (o_mv rfl rfl (AE rfl rfl (o_fa rfl rfl (AE rfl rfl (o_ld (hc:=Blk.cell (i:=2) (h146.1) rfl) rfl rfl ?_)))))
         refine AE rfl rfl (o_mv rfl rfl (AE rfl rfl (o_mv rfl rfl (AE rfl rfl (o_mv rfl rfl (AE rfl rfl ?_))))))
         obtain ⟨n205,e206,hy198⟩:=bs hy198
         have r207:=(AW e206)
         refine o_mlE (he:=e206) rfl rfl rfl ?_
         refine AE rfl rfl ?_
         obtain ⟨n208,e209,hy198⟩:=bs hy198
         have r210:=(AW e209)
         refine o_adE (he:=e209) rfl rfl rfl ?_
         refine AE rfl rfl (o_leS rfl rfl rfl (fun c211=>?_) fun c211=>?_)
         ·
          replace hy198:=ip hy198 c211
          refine o_pt rfl rfl rfl (o_as rfl rfl (o_z ?_))
          obtain rfl:=sm hy198
          exact ⟨(),_,⟨rfl,trivial⟩,hB⟩
         ·
          replace hy198:=im hy198 c211
          refine o_pt rfl rfl rfl (o_as rfl rfl (o_z ?_))
          obtain rfl:=sm hy198
          exact ⟨(),_,⟨rfl,trivial⟩,hB⟩
        ·
         replace hy198:=im hy198 c204
         refine o_pt rfl rfl rfl (o_mv rfl rfl (AC rfl rfl rfl rfl (AC rfl rfl rfl rfl (AC rfl rfl rfl rfl (AC rfl rfl rfl rfl (AC rfl rfl rfl rfl (AC rfl rfl rfl rfl (AC rfl rfl rfl rfl (AC rfl rfl rfl rfl (o_pf rfl rfl rfl (o_as rfl rfl (o_z ?_))))))))))))
         obtain rfl:=sm hy198
         exact ⟨(),_,⟨rfl,trivial⟩,hB⟩
       ·
        replace hy198:=im hy198 c203
        refine o_pt rfl rfl rfl (o_mv rfl rfl (AC rfl rfl rfl rfl (AC rfl rfl rfl rfl (AC rfl rfl rfl rfl (AC rfl rfl rfl rfl (o_pf rfl rfl rfl (o_mv rfl rfl (AC rfl rfl rfl rfl (AC rfl rfl rfl rfl (AC rfl rfl rfl rfl (AC rfl rfl rfl rfl (AC rfl rfl rfl rfl (AC rfl rfl rfl rfl (AC rfl rfl rfl rfl ?_))))))))))))))
        refine AC rfl rfl rfl rfl (o_pf rfl rfl rfl (o_as rfl rfl (o_z ?_)))
        obtain rfl:=sm hy198
        exact ⟨(),_,⟨rfl,trivial⟩,hB⟩
      ·
       replace hy198:=im hy198 c202
       refine o_pt rfl rfl rfl (o_mv rfl rfl (AC rfl rfl rfl rfl (AC rfl rfl rfl rfl (AC rfl rfl rfl rfl (o_pf rfl rfl rfl (o_mv rfl rfl (AC rfl rfl rfl rfl (AC rfl rfl rfl rfl (AC rfl rfl rfl rfl (AC rfl rfl rfl rfl (o_pf rfl rfl rfl (o_mv rfl rfl (AC rfl rfl rfl rfl (AC rfl rfl rfl rfl ?_))))))))))))))
       refine AC rfl rfl rfl rfl (AC rfl rfl rfl rfl (AC rfl rfl rfl rfl (AC rfl rfl rfl rfl (AC rfl rfl rfl rfl (AC rfl rfl rfl rfl (o_pf rfl rfl rfl (o_as rfl rfl (o_z ?_))))))))
       obtain rfl:=sm hy198
       exact ⟨(),_,⟨rfl,trivial⟩,hB⟩
     ·
      replace hy198:=im hy198 c201
      refine o_mv rfl rfl (AC rfl rfl rfl rfl (AC rfl rfl rfl rfl (AC rfl rfl rfl rfl (AC rfl rfl rfl rfl (o_pf rfl rfl rfl (o_mv rfl rfl (AC rfl rfl rfl rfl (AC rfl rfl rfl rfl (AC rfl rfl rfl rfl (o_pf rfl rfl rfl (o_mv rfl rfl (AC rfl rfl rfl rfl (AC rfl rfl rfl rfl (AC rfl rfl rfl rfl ?_))))))))))))))
      refine AC rfl rfl rfl rfl (o_pf rfl rfl rfl (o_mv rfl rfl (AC rfl rfl rfl rfl (AC rfl rfl rfl rfl (AC rfl rfl rfl rfl (AC rfl rfl rfl rfl (AC rfl rfl rfl rfl (AC rfl rfl rfl rfl (AC rfl rfl rfl rfl (AC rfl rfl rfl rfl (o_pf rfl rfl rfl (o_as rfl rfl (o_z ?_)))))))))))))
      obtain rfl:=sm hy198
      exact ⟨(),_,⟨rfl,trivial⟩,hB⟩
    rintro l212 w213 ⟨x200,O214,hs215,hB⟩
    refine AP _ hs215 ?_
    refine Au ?_
    obtain rfl:=sm hm
    exact ret1v rfl (AG rfl) ⟨hB.ext,vBool⟩
end
section
section
variable {α : Type}
inductive Scr:List α→List α→Nat→Prop
  | nil:Scr [] [] 0
  | del {x xs ys n}:Scr xs ys n→Scr (x :: xs) ys (n + 1)
  | ins {y xs ys n}:Scr xs ys n→Scr xs (y :: ys) (n + 1)
  | keep {x xs ys n}:Scr xs ys n→Scr (x :: xs) (x :: ys) n
theorem Scr.bound {xs ys:List α} {n:Nat} (h:Scr xs ys n):n≤xs.length + ys.length∧xs.length≤ys.length + n∧ys.length≤xs.length + n∧(xs.length + ys.length - n) % 2=0:=by
  induction h with
  | nil=>simp
  | del _ ih=>simp only [List.length_cons];omega
  | ins _ ih=>simp only [List.length_cons];omega
  | keep _ ih=>simp only [List.length_cons];omega
theorem Scr.all:∀ xs ys:List α,Scr xs ys (xs.length + ys.length)
  | [],[]=>.nil
  | [],y :: ys=>.ins (Scr.all [] ys)
  | x :: xs,ys=>by
    have:=Scr.del (x:=x) (Scr.all xs ys)
    rwa [show xs.length + ys.length + 1=(x :: xs).length + ys.length from by simp only [List.length_cons];omega] at this
end
section
variable {α : Type} [DecidableEq α]
def ed:List α→List α→Nat
  | [],ys=>ys.length
  | xs,[]=>xs.length
  | x :: xs,y :: ys=>if x=y then min (min (ed (x :: xs) ys) (ed xs (y :: ys)) + 1) (ed xs ys) else min (ed (x :: xs) ys) (ed xs (y :: ys)) + 1
termination_by xs ys=>xs.length + ys.length
theorem HQ (ys:List α):ed [] ys=ys.length:=by cases ys<;>simp [ed]
theorem JB (xs:List α):ed xs []=xs.length:=by cases xs<;>simp [ed]
theorem FE (x:α) (xs:List α) (y:α) (ys:List α):ed (x :: xs) (y :: ys)=if x=y then min (min (ed (x :: xs) ys) (ed xs (y :: ys)) + 1) (ed xs ys) else min (ed (x :: xs) ys) (ed xs (y :: ys)) + 1:=by rw [ed]
theorem Pa (n:Nat):∀ xs ys:List α,xs.length + ys.length≤n→Scr xs ys (ed xs ys):=by
  induction n with
  | zero =>
    intro xs ys h
    have h1:xs=[]:=List.eq_nil_of_length_eq_zero (by omega)
    have h2:ys=[]:=List.eq_nil_of_length_eq_zero (by omega)
    subst h1 h2
    rw [HQ];exact .nil
  | succ n ih =>
    intro xs ys h
    match xs,ys,h with
    | [],ys,_=>rw [HQ];simpa using Scr.all [] ys
    | x :: xs,[],_=>rw [JB];simpa using Scr.all (x :: xs) []
    | x :: xs,y :: ys,h =>
      simp only [List.length_cons] at h
      have h1:=ih (x :: xs) ys (by simp only [List.length_cons];omega)
      have h2:=ih xs (y :: ys) (by simp only [List.length_cons];omega)
      have h3:=ih xs ys (by omega)
      have hm:Scr (x :: xs) (y :: ys) (min (ed (x :: xs) ys) (ed xs (y :: ys)) + 1):=by
        rcases Nat.le_total (ed (x :: xs) ys) (ed xs (y :: ys)) with q|q
        · rw [Nat.min_eq_left q];exact .ins h1
        · rw [Nat.min_eq_right q];exact .del h2
      rw [FE]
      by_cases e:x=y
      · rw [if_pos e]
        subst e
        rcases Nat.le_total (min (ed (x :: xs) ys) (ed xs (x :: ys)) + 1) (ed xs ys) with q|q
        · rw [Nat.min_eq_left q];exact hm
        · rw [Nat.min_eq_right q];exact .keep h3
      · rw [if_neg e];exact hm
theorem ed_le {xs ys:List α} {n:Nat} (h:Scr xs ys n):ed xs ys≤n:=by
  induction h with
  | nil=>rw [HQ];simp
  | @del x xs ys n _ ih =>
    cases ys with
    | nil=>rw [JB] at ih ⊢;simp only [List.length_cons];omega
    | cons y ys=>rw [FE];split<;>omega
  | @ins y xs ys n _ ih =>
    cases xs with
    | nil=>rw [HQ] at ih ⊢;simp only [List.length_cons];omega
    | cons x xs=>rw [FE];split<;>omega
  | @keep x xs ys n _ ih=>rw [FE,if_pos rfl];omega
theorem ed_is (xs ys:List α):Scr xs ys (ed xs ys):=Pa _ xs ys (Nat.le_refl _)
end
end
section
section
variable {α σ ρ β : Type}
theorem LQ {f:σ→Option (Ctl σ ρ)} (I:σ→Prop) (B:σ→Prop) (R:ρ→Prop) (μ:σ→Nat) (h:∀ s,I s→(∃ s',f s=some (.next s')∧I s'∧μ s' < μ s)∨(∃ s',f s=some (.brk s')∧B s')∨∃ r,f s=some (.ret r)∧R r) :
    ∀ s,I s→(∃ s',lop f s=some (.done s')∧B s')∨∃ r,lop f s=some (.ret r)∧R r:=by
  have key:∀ (n:Nat) s,I s→μ s < n→(∃ s',lop f s=some (.done s')∧B s')∨∃ r,lop f s=some (.ret r)∧R r:=by
    intro n
    induction n with
    | zero=>intro s _ hn;omega
    | succ n ih =>
      intro s hI hn
      rw [DL]
      rcases h s hI with ⟨s',h1,h2,h3⟩|⟨s',h1,h2⟩|⟨r,h1,h2⟩
      · rw [h1];exact ih s' h2 (by omega)
      · rw [h1];exact .inl ⟨s',rfl,h2⟩
      · rw [h1];exact .inr ⟨r,rfl,h2⟩
  exact fun s hI=>key (μ s + 1) s hI (by omega)
theorem KI {f:σ→Option (Ctl σ ρ)} {s₀:σ} {k:Fin σ ρ→Option β} {P:β→Prop} (I:σ→Prop) (B:σ→Prop) (R:ρ→Prop) (μ:σ→Nat) (h0:I s₀)
    (h:∀ s,I s→(∃ s',f s=some (.next s')∧I s'∧μ s' < μ s)∨(∃ s',f s=some (.brk s')∧B s')∨∃ r,f s=some (.ret r)∧R r)
    (hb:∀ s,B s→∃ r,k (.done s)=some r∧P r) (hr:∀ q,R q→∃ r,k (.ret q)=some r∧P r):∃ r,bnd (lop f s₀) k=some r∧P r:=by
  rcases LQ I B R μ h s₀ h0 with ⟨s,h1,h2⟩|⟨q,h1,h2⟩
  · rw [h1,AA];exact hb s h2
  · rw [h1,AA];exact hr q h2
theorem Of {f:σ→Option (Ctl σ ρ)} {s₀:σ} {k:Fin σ ρ→Option β} {r:Option β} (I:σ→Prop) (B:σ→Prop) (μ:σ→Nat) (h0:I s₀)
    (h:∀ s,I s→(∃ s',f s=some (.next s')∧I s'∧μ s' < μ s)∨(∃ s',f s=some (.brk s')∧B s')) (hb:∀ s,B s→k (.done s)=r):bnd (lop f s₀) k=r:=by
  rcases LQ I B (fun _=>False) μ (fun s hI=>(h s hI).imp id .inl) s₀ h0 with ⟨s,h1,h2⟩|⟨q,_,h2⟩
  · rw [h1,AA];exact hb s h2
  · exact h2.elim
theorem GB {f:Nat→α→σ→Option (Ctl σ ρ)} {xs:List α} {s₀:σ} {k:Fin σ ρ→Option β} {P:β→Prop} (I:Nat→σ→Prop) (R:ρ→Prop) (h0:I 0 s₀)
    (h:∀ i x s,xs[i]?=some x→I i s→(∃ s',f i x s=some (.next s')∧I (i + 1) s')∨∃ q,f i x s=some (.ret q)∧R q)
    (hb:∀ s,I xs.length s→∃ r,k (.done s)=some r∧P r) (hr:∀ q,R q→∃ r,k (.ret q)=some r∧P r):∃ r,bnd (rng f xs 0 s₀) k=some r∧P r:=by
  have key:∀ (ys:List α) (j:Nat) (s:σ),(∀ i,ys[i]?=xs[j + i]?)→j + ys.length=xs.length→I j s→∃ r,bnd (rng f ys j s) k=some r∧P r:=by
    intro ys
    induction ys with
    | nil=>intro j s _ hl hI;exact hb s (by simp at hl;rw [← hl];exact hI)
    | cons y ys ih =>
      intro j s hg hl hI
      have hy:xs[j]?=some y:=by have:=hg 0;simpa using this.symm
      simp only [rng]
      rcases h j y s hy hI with ⟨s',h1,h2⟩|⟨q,h1,h2⟩
      · rw [h1]
        exact ih (j + 1) s' (fun i=>by have:=hg (i + 1);rw [show j + 1 + i=j + (i + 1) from by omega,← this];simp) (by simp at hl;omega) h2
      · rw [h1,AA];exact hr q h2
  exact key xs 0 s₀ (fun i=>by rw [Nat.zero_add]) (by omega) h0
theorem JC {f:Nat→α→σ→Option (Ctl σ ρ)} {xs:List α} {s₀:σ} {k:Fin σ ρ→Option β} {r:Option β} (I:Nat→σ→Prop) (h0:I 0 s₀)
    (h:∀ i x s,xs[i]?=some x→I i s→∃ s',f i x s=some (.next s')∧I (i + 1) s') (hb:∀ s,I xs.length s→k (.done s)=r):bnd (rng f xs 0 s₀) k=r:=by
  obtain ⟨s,h1,h2⟩:=DP I h0 h
  rw [h1,AA]
  exact hb s h2
end
end
section
open Go Go.RowKit
def dE (ar b:List ByteArray) (j:Nat):Int:=((ed ar (b.take j).reverse:Nat):Int)
theorem dE_bd (ar b:List ByteArray) (j:Nat):0≤dE ar b j∧dE ar b j≤(ar.length:Int) + b.length:=by
  have h:=(ed_is ar (b.take j).reverse).bound.1
  rw [List.length_reverse,List.length_take] at h
  unfold dE
  omega
theorem Pb (b:List ByteArray) {j:Nat} (h:j≤b.length):dE [] b j=(j:Int):=by
  unfold dE
  rw [HQ,List.length_reverse,List.length_take]
  omega
theorem Og (ar b:List ByteArray):dE ar b 0=(ar.length:Int):=by unfold dE;simp [JB]
theorem IJ {α:Type} {b:List α} {k:Nat} {y:α} (h:b[k]?=some y):(b.take (k + 1)).reverse=y :: (b.take k).reverse:=by
  rw [List.take_add_one,h];simp
theorem Pc {x:ByteArray} {ar b:List ByteArray} {k:Nat} (h:b[k]?=some x):dE (x :: ar) b (k + 1)=min (min (dE (x :: ar) b k) (dE ar b (k + 1)) + 1) (dE ar b k):=by
  unfold dE
  rw [IJ h,FE,if_pos rfl]
  omega
theorem dE_no {x y:ByteArray} {ar b:List ByteArray} {k:Nat} (h:b[k]?=some y) (hn:¬ x=y):dE (x :: ar) b (k + 1)=min (dE (x :: ar) b k) (dE ar b (k + 1)) + 1:=by
  unfold dE
  rw [IJ h,FE,if_neg hn]
  omega
def RowK (ar b:List ByteArray) (k:Nat) (s:List Int):Prop:=s.length=b.length + 1∧∀ j,j≤k→s[j]?=some (dE ar b j)
theorem RowK.set {ar b:List ByteArray} {k:Nat} {s:List Int} (h:RowK ar b k s) (hk:k < b.length) {v:Int} (hv:v=dE ar b (k + 1)):RowK ar b (k + 1) (s.set (k + 1) v):=by
  refine ⟨by rw [List.length_set];exact h.1,fun j hj=>?_⟩
  rcases Nat.lt_or_ge j (k + 1) with hl|hl
  · rw [List.getElem?_set_ne (by omega)];exact h.2 j (by omega)
  · have:j=k + 1:=by omega
    subst this
    rw [List.getElem?_set_self (by rw [h.1];omega),hv]
theorem MV {b:List ByteArray} {f:Nat→List Int→Option (Ctl (List Int) Int)} (hf:∀ (k:Nat) (s:List Int),f k s=bnd (s[k]?) fun _=>some (.next (s.set k (k:Int)))) :
    ∃ s,rngN (ρ:=Int) f (List.replicate (b.length + 1) (0:Int)).length (List.replicate (b.length + 1) (0:Int))=some (.done s)∧RowK [] b b.length s:=by
  obtain ⟨s,h1,h2,h3⟩:=Nx (f:=f) (N:=(List.replicate (b.length + 1) (0:Int)).length) (s₀:=List.replicate (b.length + 1) (0:Int)) (fun k s=>s.length=b.length + 1∧∀ j,j < k→s[j]?=some (j:Int))
    ⟨by simp,fun j hj=>by omega⟩ (fun k s hk ⟨hl,hs⟩=>by
      rw [List.length_replicate] at hk
      have hg:s[k]?=some (s[k]'(by omega)):=List.getElem?_eq_getElem _
      refine ⟨s.set k (k:Int),by rw [hf,hg,AA],by rw [List.length_set];exact hl,fun j hj=>?_⟩
      rcases Nat.lt_or_ge j k with hl'|hl'
      · rw [List.getElem?_set_ne (by omega)];exact hs j hl'
      · have:j=k:=by omega
        subst this
        rw [List.getElem?_set_self (by omega)])
  refine ⟨s,h1,h2,fun j hj=>?_⟩
  rw [h3 j (by rw [List.length_replicate];omega),Pb b hj]
theorem MW {ar b:List ByteArray}:RowK ar b 0 ((List.replicate (b.length + 1) (0:Int)).set (0:Int).toNat (ar.length:Int)):=by
  refine ⟨by simp,fun j hj=>?_⟩
  have:j=0:=by omega
  subst this
  rw [Og]
  exact List.getElem?_set_self (by simp)
theorem chk1 {k:Nat} (h:k≤8796093022208):chkI ((k:Int) + 1)=some ((k + 1:Nat):Int):=by rw [Bl (by unfold inI64;omega)];simp
theorem Pd {a b:List ByteArray} (ha:a.length≤8796093022208) (hb:b.length≤8796093022208):Cn a b=some ((ed a.reverse b.reverse:Nat):Int):=by
  unfold Cn
  rw [chk1 hb,AA,HA (by omega) (by omega),AA]
  obtain ⟨s0,h1,h2⟩:=MV (b:=b) (f:=fun k s=>bnd (s[k]?) fun _=>some (.next (s.set k (k:Int)))) (fun _ _=>rfl)
  rw [h1,AA,fin_d]
  refine JC (fun i s=>RowK (a.take i).reverse b b.length s) (by simpa using h2) ?_ ?_
  · intro i x s hx hI
    have hi:=AJ hx
    rw [AA,HA (by omega) (by omega),AA,chk1 (k:=i) (by omega),AA]
    rw [show atI (List.replicate (b.length + 1) (0:Int)) 0=some 0 from by rw [show (0:Int)=((0:Nat):Int) from rfl,Bk];simp,AA]
    have hst:RowK (x :: (a.take i).reverse) b 0 ((List.replicate (b.length + 1) (0:Int)).set (0:Int).toNat ((i + 1:Nat):Int)):=by
      have:=MW (ar:=x :: (a.take i).reverse) (b:=b)
      rwa [List.length_cons,List.length_reverse,List.length_take,Nat.min_eq_left (by omega)] at this
    have hlen:((a.take i).reverse).length=i:=by rw [List.length_reverse,List.length_take];omega
    obtain ⟨s',h3,h4⟩:=DP (f:=fun (k138:Nat) (a139:ByteArray) (s136:List Int)=>bnd (chkI ((k138:Int) + 1)) fun n161=>bnd (s136[k138]?) fun a164=>bnd (chkI ((k138:Int) + 1)) fun n174=>bnd (atI s n174) fun a177=>bnd (chkI ((min a164 a177) + 1)) fun n189=>bnd (atI s136 n161) fun _=>if x=a139 then (bnd (chkI ((k138:Int) + 1)) fun n207=>bnd (chkI ((k138:Int) + 1)) fun n210=>bnd (atI (s136.set (n161:Int).toNat n189) n210) fun a213=>bnd (s[k138]?) fun a225=>bnd (atI (s136.set (n161:Int).toNat n189) n207) fun _=>some (.next ((s136.set (n161:Int).toNat n189).set (n207:Int).toNat (min a213 a225)))) else (some (.next (s136.set (n161:Int).toNat n189):Ctl (List Int) (Ctl (List Int) Int)))) (xs:=b) (RowK (x :: (a.take i).reverse) b) hst (fun k y u hy hu=>by
        have hk:=AJ hy
        have b1:=dE_bd (x :: (a.take i).reverse) b k
        have b2:=dE_bd (a.take i).reverse b (k + 1)
        rw [List.length_cons,hlen] at b1
        rw [hlen] at b2
        rw [chk1 (by omega),AA,hu.2 k (Nat.le_refl _),AA,AA,Bk,hI.2 (k + 1) (by omega),AA,Bl (by unfold inI64;omega),AA]
        rw [Bk,List.getElem?_eq_getElem (by rw [hu.1];omega),AA,Int.toNat_natCast]
        by_cases e:x=y
        · subst e
          rw [if_pos rfl,AA,AA,Bk,List.getElem?_set_self (by rw [hu.1];omega),AA,hI.2 k (by omega),AA,AA,Int.toNat_natCast,List.set_set]
          exact ⟨_,rfl,hu.set hk (Pc hy).symm⟩
        · rw [if_neg e]
          exact ⟨_,rfl,hu.set hk (dE_no hy e).symm⟩)
    rw [h3,AA,fin_d]
    refine ⟨s',rfl,?_⟩
    rw [IJ hx]
    exact h4
  · intro s hI
    rw [fin_d,hI.2 b.length (Nat.le_refl _),AA]
    unfold dE
    rw [List.take_length,List.take_length]
theorem MX (a:List ByteArray):∃ b,DZ a=some b:=by
  have key:∀ (xs:List ByteArray) (k:Nat) (s:Int),∃ s',rng (ρ:=Bool) (fun (_:Nat) (x:ByteArray) (s:Int)=>some (.next (wr (s + (x.size:Int))))) xs k s=some (.done s'):=by
    intro xs
    induction xs with
    | nil=>intro k s;exact ⟨s,rfl⟩
    | cons x xs ih=>intro k s;exact ih (k + 1) _
  obtain ⟨s,hs⟩:=key a 0 (a.length:Int)
  unfold DZ
  rw [hs,AA,fin_d]
  by_cases h:600 < s
  · exact ⟨true,by rw [if_pos h,AA]⟩
  · exact ⟨false,by rw [if_neg h,AA]⟩
end
section
open Go Go.RowKit
def keptO (o:Opr) (v p:Int):Opr:=⟨o.name,o.cost,o.pre ++ [⟨v,p⟩],o.effs ++ [⟨[],v,p + 1⟩]⟩
def insL (t:Tsk) (w:Int):List (Opr×Prt):=t.ops.zipIdx.map fun q=>(⟨q.1.name,q.1.cost + w,q.1.pre,q.1.effs⟩,⟨(q.2:Int)⟩)
def keepL (ops:List (Opr×Nat)) (v p:Int) (name:ByteArray):List (Opr×Prt):=(ops.filter fun q=>decide (q.1.name=name)).map fun q=>(keptO q.1 v p,⟨(q.2:Int)⟩)
def delE (w v p:Int):Opr×Prt:=(keptO ⟨⟨#[]⟩,w,[],[]⟩ v p,⟨-1⟩)
def stepL (t:Tsk) (w v p:Int) (name:ByteArray):List (Opr×Prt):=keepL t.ops.zipIdx v p name ++ [delE w v p]
def delL (t:Tsk) (w v:Int):Nat→List ByteArray→List (Opr×Prt)
  | _,[]=>[]
  | p,name :: r=>stepL t w v (p:Int) name ++ delL t w v (p + 1) r
def cmpL (t:Tsk) (old:List ByteArray) (w:Int):List (Opr×Prt):=insL t w ++ delL t w (t.vars.length:Int) 0 old
def cmpT (t:Tsk) (old:List ByteArray) (w:Int):Tsk :=
  ⟨t.vars ++ [(old.length:Int) + 1],t.init ++ [0],t.goal ++ [⟨(t.vars.length:Int),(old.length:Int)⟩],(cmpL t old w).map (·.1)⟩
theorem JU (t:Tsk) (w v:Int) (name:ByteArray):∀ (l:List ByteArray) (p:Nat),delL t w v p (l ++ [name])=delL t w v p l ++ stepL t w v ((p + l.length:Nat):Int) name
  | [],p=>by simp [delL]
  | x :: l,p=>by
    rw [List.cons_append,delL,delL,JU t w v name l (p + 1),List.append_assoc,List.length_cons,show p + 1 + l.length=p + (l.length + 1) from by omega]
theorem HR (ops:List (Opr×Nat)) (v p:Int) (name:ByteArray):(keepL ops v p name).length≤ops.length:=by
  unfold keepL;rw [List.length_map];exact List.length_filter_le _ _
theorem KJ (t:Tsk) (w:Int):(insL t w).length=t.ops.length:=by unfold insL;simp
theorem MY (t:Tsk) (w v p:Int) (name:ByteArray):(stepL t w v p name).length≤t.ops.length + 1:=by
  unfold stepL
  have:=HR t.ops.zipIdx v p name
  simp only [List.length_append,List.length_singleton,List.length_zipIdx] at this ⊢
  omega
theorem IK (t:Tsk) (w v:Int):∀ (l:List ByteArray) (p:Nat),(delL t w v p l).length≤l.length * (t.ops.length + 1)
  | [],p=>by simp [delL]
  | x :: l,p=>by
    rw [delL,List.length_append,List.length_cons,Nat.succ_mul]
    have:=MY t w v p x
    have:=IK t w v l (p + 1)
    omega
theorem KK (t:Tsk) (old:List ByteArray) (w:Int):(cmpL t old w).length≤t.ops.length + old.length * (t.ops.length + 1):=by
  unfold cmpL
  rw [List.length_append,KJ]
  have:=IK t w (t.vars.length:Int) old 0
  omega
theorem NB {α:Type} {l:List α} {k:Nat} {x:α} (h:l[k]?=some x):l.zipIdx.take (k + 1)=l.zipIdx.take k ++ [(x,k)]:=by
  rw [List.take_add_one,List.getElem?_zipIdx,h];simp
theorem Mk {ops:List (Opr×Nat)} {v p:Int} {name:ByteArray} {o:Opr} {k:Nat}:keepL (ops ++ [(o,k)]) v p name=keepL ops v p name ++ if o.name=name then [(keptO o v p,⟨(k:Int)⟩)] else []:=by
  unfold keepL
  rw [List.filter_append,List.map_append]
  by_cases h:o.name=name<;>simp [h]
theorem Gg {l:List Fct} (h:l.length≤1000000):AV l=some l:=if_pos ⟨by omega,by omega⟩
theorem JV {l:List Eff} (h:l.length≤1000000):Bc l=some l:=if_pos ⟨by omega,by omega⟩
theorem JW {l:List Int} (h:l.length≤1000000):Br l=some l:=if_pos ⟨by omega,by omega⟩
theorem LR {o:Opr} {v:Int} {p:Nat} (h1:o.pre.length≤1000) (h2:o.effs.length≤1000) (hp:p≤1000):CB o v (p:Int)=some (keptO o v (p:Int)):=by
  unfold CB
  rw [Gg (by omega),AA,BR (by simp;omega) (by simp;omega),AA,JV (by omega),AA,Bl (by unfold inI64;omega),AA,BR (by simp;omega) (by simp;omega),AA]
  rfl
theorem KL {α:Type} {l:List α} {k:Nat} {x:α} (h:l[k]?=some x):l.set k x=l:=by
  refine List.ext_getElem? fun j=>?_
  rw [List.getElem?_set]
  split
  · rename_i e;subst e
    split
    · exact h.symm
    · rename_i h2;exact absurd (AJ h) h2
  · rfl
theorem NC {l:List Eff} (h:∀ e∈l,e.cond.length≤1000000):Cg l=some l:=by
  unfold Cg
  rw [HN (fun _=>l) rfl ?_,AA,fin_d]
  intro k hk
  have hg:l[k]?=some l[k]:=List.getElem?_eq_getElem hk
  rw [hg,AA,Gg (h _ (List.getElem_mem hk)),AA,AA,KL hg]
def ShortO (o:Opr):Prop:=o.pre.length≤1000∧o.effs.length≤1000∧∀ e∈o.effs,e.cond.length≤1000
theorem OpOk.short {t:Tsk} (hok:TaskOk t) {k:Nat} {o:Opr} (ho:t.ops[k]?=some o):o.pre.length≤64∧o.effs.length≤64∧∀ e∈o.effs,e.cond.length≤64:=by
  obtain ⟨_,_,h1,_,h2,h3⟩:=hok.2.2.2.2.2 k o ho
  have hv:=hok.1
  refine ⟨by have:=Dp h2;omega,h1,fun e he=>?_⟩
  obtain ⟨i,hi⟩:=List.getElem?_of_mem he
  have:=Dp (h3 i e hi).1
  omega
theorem Ml {t:Tsk} (hok:TaskOk t) (old:List ByteArray) (w:Int):∀ q∈cmpL t old w,ShortO q.1:=by
  have hops:∀ q∈t.ops.zipIdx,q.1.pre.length≤64∧q.1.effs.length≤64∧∀ e∈q.1.effs,e.cond.length≤64:=fun q hq=>by
    obtain ⟨k,hk⟩:=List.getElem?_of_mem hq
    rw [List.getElem?_zipIdx] at hk
    obtain ⟨o,ho,rfl⟩:=Option.map_eq_some_iff.1 hk
    exact OpOk.short hok ho
  have hkept:∀ (o:Opr) (v p:Int),(o.pre.length≤64∧o.effs.length≤64∧∀ e∈o.effs,e.cond.length≤64)→ShortO (keptO o v p):=fun o v p ⟨h1,h2,h3⟩=>by
    refine ⟨by simp [keptO];omega,by simp [keptO];omega,fun e he=>?_⟩
    rcases List.mem_append.1 he with he|he
    · have:=h3 e he;omega
    · have:e=⟨[],v,p + 1⟩:=by simpa using he
      subst this;simp
  have hdel:∀ (l:List ByteArray) (p:Nat),∀ q∈delL t w (t.vars.length:Int) p l,ShortO q.1:=by
    intro l
    induction l with
    | nil=>intro p q hq;simp [delL] at hq
    | cons x l ih =>
      intro p q hq
      rw [delL] at hq
      rcases List.mem_append.1 hq with hq|hq
      · unfold stepL at hq
        rcases List.mem_append.1 hq with hq|hq
        · unfold keepL at hq
          obtain ⟨q',h1,rfl⟩:=List.mem_map.1 hq
          exact hkept _ _ _ (hops q' (List.mem_filter.1 h1).1)
        · have:q=delE w (t.vars.length:Int) p:=by simpa using hq
          subst this
          exact hkept _ _ _ ⟨by simp,by simp,by simp⟩
      · exact ih (p + 1) q hq
  intro q hq
  unfold cmpL at hq
  rcases List.mem_append.1 hq with hq|hq
  · unfold insL at hq
    obtain ⟨q',h1,rfl⟩:=List.mem_map.1 hq
    obtain ⟨h2,h3,h4⟩:=hops q' h1
    exact ⟨by show q'.1.pre.length≤1000;omega,by show q'.1.effs.length≤1000;omega,fun e he=>by have:=h4 e he;omega⟩
  · exact hdel old 0 q hq
def sp (l:List (Opr×Prt)):List Prt×List Opr:=(l.map (·.2),l.map (·.1))
theorem JD (l:List (Opr×Prt)) (q:Opr×Prt):sp (l ++ [q])=((sp l).1 ++ [q.2],(sp l).2 ++ [q.1]):=by simp [sp]
theorem KM (l:List (Opr×Prt)):(sp l).1.length=l.length∧(sp l).2.length=l.length:=by simp [sp]
theorem Jl {t:Tsk} (hok:TaskOk t) (hops:t.ops.length≤20) {old:List ByteArray} (hold:old.length≤63) {w:Int} (hw0:0≤w) (hw1:w≤1000) :
    Cs t old w=some (if checkN (cmpT t old w)≠0 then (⟨[],[],[],[]⟩,[],⟨checkN (cmpT t old w)⟩) else (cmpT t old w,(cmpL t old w).map (·.2),⟨0⟩)):=by
  have hv:=hok.1
  have hi:=hok.2.2.2.1.1
  have hg:=Dp hok.2.2.2.2.1
  have hcl:(cmpL t old w).length≤2000:=by
    have:=KK t old w
    have h2:old.length * (t.ops.length + 1)≤63 * 21:=Nat.mul_le_mul hold (by omega)
    omega
  unfold Cs Dv
  rw [DW.2 hok,AA,if_neg (by simp),if_neg (by omega),if_neg (by omega),AA,if_f,if_neg (by omega),Bl (by unfold inI64;omega),AA,JW (by omega),AA,BR (by simp;omega) (by simp;omega),AA,JW (by omega),AA,BR (by simp;omega) (by simp;omega),AA,Gg (by omega),AA,BR (by simp;omega) (by simp;omega),AA,AA]
  have zx:∀ k o,t.ops[k]?=some o→t.ops.zipIdx.take (k + 1)=t.ops.zipIdx.take k ++ [(o,k)]:=fun k o h=>NB h
  rw [DY (fun k=>sp ((t.ops.zipIdx.take k).map fun q=>(⟨q.1.name,q.1.cost + w,q.1.pre,q.1.effs⟩,⟨(q.2:Int)⟩))) (by simp [sp]) ?gg1,AA,fin_d]
  case gg1 =>
    intro k o ho
    have hk:=AJ ho
    obtain ⟨h1,h2,_⟩:=OpOk.short hok ho
    have hc:=(hok.2.2.2.2.2 k o ho).1
    have hc2:=(hok.2.2.2.2.2 k o ho).2.1
    have hl:((t.ops.zipIdx.take k).map fun q=>((⟨q.1.name,q.1.cost + w,q.1.pre,q.1.effs⟩:Opr),(⟨(q.2:Int)⟩:Prt))).length≤20:=by simp;omega
    obtain ⟨l1,l2⟩:=KM ((t.ops.zipIdx.take k).map fun q=>((⟨q.1.name,q.1.cost + w,q.1.pre,q.1.effs⟩:Opr),(⟨(q.2:Int)⟩:Prt)))
    rw [Bl (by unfold inI64;omega),AA,Gg (by omega),AA,JV (by omega),AA,BR (by rw [l2];simp;omega) (by rw [l2];simp;omega),AA,BR (by rw [l1];simp;omega) (by rw [l1];simp;omega),AA,zx k o ho,List.map_append,List.map_singleton,JD]
  have hzx:t.ops.zipIdx.take t.ops.length=t.ops.zipIdx:=List.take_of_length_le (by simp)
  have hfull:(t.ops.zipIdx.take t.ops.length).map (fun q=>((⟨q.1.name,q.1.cost + w,q.1.pre,q.1.effs⟩:Opr),(⟨(q.2:Int)⟩:Prt)))=insL t w:=by
    unfold insL;rw [hzx]
  rw [hfull]
  rw [DY (fun k=>sp (insL t w ++ delL t w (t.vars.length:Int) 0 (old.take k))) (by simp [delL]) ?gg2,AA,fin_d,List.take_length]
  case gg2 =>
    intro k name hn
    have hk:=AJ hn
    have hbase:(insL t w ++ delL t w (t.vars.length:Int) 0 (old.take k)).length≤1500:=by
      have h1:=IK t w (t.vars.length:Int) (old.take k) 0
      have h2:(old.take k).length * (t.ops.length + 1)≤63 * 21:=Nat.mul_le_mul (by simp;omega) (by omega)
      rw [List.length_append,KJ];omega
    rw [DY (fun j=>sp ((insL t w ++ delL t w (t.vars.length:Int) 0 (old.take k)) ++ keepL (t.ops.zipIdx.take j) (t.vars.length:Int) (k:Int) name)) (by simp [keepL]) ?gg3,AA,fin_d,hzx]
    case gg3 =>
      intro j o ho
      have hj:=AJ ho
      obtain ⟨h1,h2,_⟩:=OpOk.short hok ho
      have hkl:=HR (t.ops.zipIdx.take j) (t.vars.length:Int) (k:Int) name
      rw [List.length_take,List.length_zipIdx] at hkl
      obtain ⟨l1,l2⟩:=KM ((insL t w ++ delL t w (t.vars.length:Int) 0 (old.take k)) ++ keepL (t.ops.zipIdx.take j) (t.vars.length:Int) (k:Int) name)
      rw [List.length_append] at l1 l2
      rw [zx j o ho,Mk]
      by_cases he:o.name=name
      · rw [if_pos he,if_pos he,LR (by omega) (by omega) (by omega),AA,BR (by rw [l2];simp only [List.length_singleton];omega) (by rw [l2];simp only [List.length_singleton];omega),AA,BR (by rw [l1];simp only [List.length_singleton];omega) (by rw [l1];simp only [List.length_singleton];omega),AA,← List.append_assoc,JD]
      · rw [if_neg he,if_neg he,List.append_nil]
    have hkl:=HR t.ops.zipIdx (t.vars.length:Int) (k:Int) name
    rw [List.length_zipIdx] at hkl
    obtain ⟨l1,l2⟩:=KM ((insL t w ++ delL t w (t.vars.length:Int) 0 (old.take k)) ++ keepL t.ops.zipIdx (t.vars.length:Int) (k:Int) name)
    rw [List.length_append] at l1 l2
    have htk:old.take (k + 1)=old.take k ++ [name]:=by rw [List.take_add_one,hn];rfl
    have hfin:sp (insL t w ++ delL t w (t.vars.length:Int) 0 (old.take (k + 1)))=((sp ((insL t w ++ delL t w (t.vars.length:Int) 0 (old.take k)) ++ keepL t.ops.zipIdx (t.vars.length:Int) (k:Int) name)).1 ++ [⟨-1⟩],(sp ((insL t w ++ delL t w (t.vars.length:Int) 0 (old.take k)) ++ keepL t.ops.zipIdx (t.vars.length:Int) (k:Int) name)).2 ++ [keptO ⟨⟨#[]⟩,w,[],[]⟩ (t.vars.length:Int) (k:Int)]):=by
      have hkk:(0 + (old.take k).length:Nat)=k:=by simp;omega
      rw [htk,JU,hkk,stepL,← List.append_assoc,← List.append_assoc,JD]
      rfl
    rw [LR (by simp) (by simp) (by omega),AA,BR (by rw [l2];simp only [List.length_singleton];omega) (by rw [l2];simp only [List.length_singleton];omega),AA,BR (by rw [l1];simp only [List.length_singleton];omega) (by rw [l1];simp only [List.length_singleton];omega),AA,if_neg (by rw [List.length_append,l2];simp only [List.length_singleton];omega),hfin]
  show bnd (rngN _ (sp (cmpL t old w)).2.length (sp (cmpL t old w)).2) _=_
  have hsh:∀ o∈(sp (cmpL t old w)).2,ShortO o:=fun o ho=>by
    obtain ⟨q,hq,rfl⟩:=List.mem_map.1 ho
    exact Ml hok old w q hq
  rw [HN (fun _=>(sp (cmpL t old w)).2) rfl ?gg4,AA,fin_d,AA]
  case gg4 =>
    intro k hk
    have hgk:(sp (cmpL t old w)).2[k]?=some (sp (cmpL t old w)).2[k]:=List.getElem?_eq_getElem hk
    have h3:=(hsh _ (List.getElem_mem hk)).2.2
    rw [hgk,AA,NC (fun e he=>by have:=h3 e he;omega),AA,AA,KL hgk]
  show (if checkN (cmpT t old w)≠0 then _ else _)=_
  by_cases hc:checkN (cmpT t old w)≠0
  · rw [if_pos hc,if_pos hc];rfl
  · rw [if_neg hc,if_neg hc];rfl
end
section
open Go Go.RowKit
inductive PlanR (t:Tsk):List Int→List Int→List Int→Int→Prop
  | nil {s:List Int}:PlanR t s [] s 0
  | cons {s rest s':List Int} {k:Nat} {o:Opr} {C:Int}:t.ops[k]?=some o→holdsB o.pre s=true→PlanR t (succ o s) rest s' C→PlanR t s ((k:Int) :: rest) s' (o.cost + C)
theorem MZ (f:List Fct) (s:List Int):CM f s=some (holdsB f s):=rfl
end
section
open Go Go.RowKit
inductive Walk (t:Tsk):List Int→Int→Prop
  | goal {s:List Int}:holdsB t.goal s=true→Walk t s 0
  | step {s:List Int} {k:Nat} {o:Opr} {c:Int}:t.ops[k]?=some o→holdsB o.pre s=true→Walk t (succ o s) c→Walk t s (c + o.cost)
def Inf:Int:=1125899906842624
theorem Pe {σ ρ:Type} {f:σ→Option (Ctl σ ρ)} (I:σ→Prop) (B:σ→Prop) (μ:σ→Nat) (h:∀ s,I s→(∃ s',f s=some (.next s')∧I s'∧μ s' < μ s)∨(∃ s',f s=some (.brk s')∧B s')):∀ s,I s→∃ s',lop f s=some (.done s')∧B s':=by
  have key:∀ (n:Nat) s,I s→μ s < n→∃ s',itr f n s=some (.done s')∧B s':=by
    intro n
    induction n with
    | zero=>intro s _ h0;omega
    | succ n ih =>
      intro s hs hn
      rcases h s hs with ⟨s',h1,h2,h3⟩|⟨s',h1,h2⟩
      · obtain ⟨r,hr,hb⟩:=ih s' h2 (by omega)
        exact ⟨r,by simp only [itr,h1];exact hr,hb⟩
      · exact ⟨s',by simp only [itr,h1],h2⟩
  intro s hs
  obtain ⟨r,hr,hb⟩:=key (μ s + 1) s hs (by omega)
  exact ⟨r,FM.2 ⟨_,hr⟩,hb⟩
def sumN:List Int→Nat
  | []=>0
  | x :: l=>x.toNat + sumN l
theorem KN:∀ (l:List Int) (i:Nat) (x y:Int),l[i]?=some x→0≤y→y < x→sumN (l.set i y) < sumN l
  | [],i,x,y,h,_,_=>by simp at h
  | a :: l,0,x,y,h,h1,h2=>by
    obtain rfl:a=x:=by simpa using h
    show y.toNat + sumN l < a.toNat + sumN l
    omega
  | a :: l,i + 1,x,y,h,h1,h2=>by
    have:=KN l i x y (by simpa using h) h1 h2
    show a.toNat + sumN (l.set i y) < a.toNat + sumN l
    omega
def DistI (t:Tsk) (d:List Int):Prop:=d.length=(statesL t.vars).length∧∀ (i:Nat) s,(statesL t.vars)[i]?=some s→∃ c,d[i]?=some c∧0≤c∧c≤Inf∧(c < Inf→Walk t s c)∧(holdsB t.goal s=true→c=0)
def DistP (t:Tsk) (d:List Int):Prop:=DistI t d∧∀ (i:Nat) s c C,(statesL t.vars)[i]?=some s→d[i]?=some c→Walk t s C→c≤C
theorem KO {α:Type} {l:List α} {k:Nat} {x y:α} (h:l[k]?=some x):y∈l.take (k + 1)↔y∈l.take k∨y=x:=by
  rw [List.take_add_one,h,List.mem_append];simp
theorem Oh      {t:Tsk} (h:Mid t):∃ d,Dc t=some d∧DistP t d:=by
  have hlen:(statesL t.vars).length≤600:=by have:=h.states t.vars.length;rwa [List.take_length] at this
  unfold Dc
  rw [HO h,AA,HA (by omega) (by omega),AA]
  obtain ⟨d0,h1,h2,h3⟩:=DP (ρ:=List Int) (f:=fun (k53:Nat) (a54:List Int) (s51:(List Int))=>bnd (s51[k53]?) fun _=>bnd (Da t.goal a54) fun q91=>if q91=true then bnd ((s51.set k53 1125899906842624)[k53]?) fun _=>some (.next ((s51.set k53 1125899906842624).set k53 0)) else some (.next (s51.set k53 1125899906842624))) (xs:=statesL t.vars) (s₀:=List.replicate (statesL t.vars).length 0)
    (fun n d=>d.length=(statesL t.vars).length∧∀ (i:Nat) s,i < n→(statesL t.vars)[i]?=some s→d[i]?=some (if holdsB t.goal s=true then 0 else Inf)) ⟨by simp,fun i s hi=>by omega⟩ (fun n s d hn hI=>by
      obtain ⟨i1,i2⟩:=hI
      have hlt:=AJ hn
      obtain ⟨u,hu⟩:=AH (l:=d) (k:=n) (by omega)
      rw [hu,AA,GT,AA]
      by_cases hg:holdsB t.goal s=true
      · rw [if_pos hg,List.getElem?_set_self (by omega),AA]
        refine ⟨_,rfl,by simpa using i1,fun i s' hi hs'=>?_⟩
        by_cases e:i=n
        · subst e
          obtain rfl:s'=s:=by rw [hn] at hs';exact (Option.some.inj hs').symm
          rw [List.getElem?_set_self (by simp;omega),if_pos hg]
        · rw [List.getElem?_set_ne (by omega),List.getElem?_set_ne (by omega)]
          exact i2 i s' (by omega) hs'
      · rw [if_neg hg]
        refine ⟨_,rfl,by simpa using i1,fun i s' hi hs'=>?_⟩
        by_cases e:i=n
        · subst e
          obtain rfl:s'=s:=by rw [hn] at hs';exact (Option.some.inj hs').symm
          rw [List.getElem?_set_self (by omega),if_neg hg];rfl
        · rw [List.getElem?_set_ne (by omega)]
          exact i2 i s' (by omega) hs')
  obtain ⟨es,he,hes⟩:=Nz h
  rw [h1,AA,fin_d,he,AA]
  have hd0:DistI t d0:=⟨h2,fun i s hi=>by
    refine ⟨_,h3 i s (AJ hi) hi,?_⟩
    by_cases hg:holdsB t.goal s=true
    · rw [if_pos hg];exact ⟨by omega,by unfold Inf;omega,fun _=>.goal hg,fun _=>rfl⟩
    · rw [if_neg hg];exact ⟨by unfold Inf;omega,by omega,fun hh=>absurd hh (by omega),fun hh=>absurd hh hg⟩⟩
  -- one pass over the edges
  have pass : ∀ d,DistI t d→∃ (d':List Int) (b:Bool),rng (ρ:=Ctl ((List Int)×Bool) (List Int)) (fun (_:Nat) (a152:Edg) (s149:(List Int)×Bool)=>bnd (atI t.ops a152.op) fun a183=>bnd (bnd (atI s149.1 a152.dst) fun a208=>if a208 < 1125899906842624 then (bnd (atI s149.1 a152.dst) fun a221=>bnd (chkI (a221 + a183.cost)) fun n233=>bnd (atI s149.1 a152.src) fun a236=>if n233 < a236 then (some true) else (some false)) else (some false):Option Bool) fun y204=>if y204=true then (bnd (atI s149.1 a152.dst) fun a254=>bnd (chkI (a254 + a183.cost)) fun n266=>bnd (atI s149.1 a152.src) fun _=>some (.next ((s149.1.set (a152.src).toNat n266),true))) else (some (.next (s149.1,s149.2)))) es 0 (d,false)=some (.done (d',b))∧DistI t d'∧(b=true→sumN d' < sumN d)∧(b=false→d'=d∧∀ e∈es,∀ (i k j:Nat) o x y,e=⟨i,k,j⟩→t.ops[k]?=some o→d[i]?=some x→d[j]?=some y→y < Inf→x≤y + o.cost):=by
    intro d hd
    obtain ⟨⟨d',b⟩,g1,g2,g3,g4⟩:=DP (ρ:=Ctl ((List Int)×Bool) (List Int)) (f:=fun (_:Nat) (a152:Edg) (s149:(List Int)×Bool)=>bnd (atI t.ops a152.op) fun a183=>bnd (bnd (atI s149.1 a152.dst) fun a208=>if a208 < 1125899906842624 then (bnd (atI s149.1 a152.dst) fun a221=>bnd (chkI (a221 + a183.cost)) fun n233=>bnd (atI s149.1 a152.src) fun a236=>if n233 < a236 then (some true) else (some false)) else (some false):Option Bool) fun y204=>if y204=true then (bnd (atI s149.1 a152.dst) fun a254=>bnd (chkI (a254 + a183.cost)) fun n266=>bnd (atI s149.1 a152.src) fun _=>some (.next ((s149.1.set (a152.src).toNat n266),true))) else (some (.next (s149.1,s149.2)))) (xs:=es) (s₀:=(d,false))
      (fun m r=>DistI t r.1∧(r.2=true→sumN r.1 < sumN d)∧(r.2=false→r.1=d∧∀ e∈es.take m,∀ (i k j:Nat) o x y,e=⟨i,k,j⟩→t.ops[k]?=some o→d[i]?=some x→d[j]?=some y→y < Inf→x≤y + o.cost)) ⟨hd,fun hh=>by simp at hh,fun _=>⟨rfl,fun e he=>by simp at he⟩⟩ (fun m e r hm hI=>by
        obtain ⟨i1,i2,i3⟩:=hI
        obtain ⟨r1,r2⟩:=r
        simp only at i1 i2 i3
        obtain ⟨i,k,j,s,o,rfl,a1,a2,a3,a4⟩:=(hes e).1 (List.mem_of_getElem? hm)
        obtain ⟨x,x1,x2,x3,x4,x5⟩:=i1.2 i s a1
        obtain ⟨y,y1,y2,y3,y4,y5⟩:=i1.2 j _ a4
        have hco:=h.ok.2.2.2.2.2 k o a2
        have hc1:=hco.1
        have hc2:=hco.2.1
        simp only
        rw [Bk,a2,AA,Bk,y1,AA,Bk,x1]
        have keep:∀ (hx:y < Inf→x≤y + o.cost),DistI t r1∧(r2=true→sumN r1 < sumN d)∧(r2=false→r1=d∧∀ e∈es.take (m + 1),∀ (i k j:Nat) o x y,e=⟨i,k,j⟩→t.ops[k]?=some o→d[i]?=some x→d[j]?=some y→y < Inf→x≤y + o.cost):=fun hx=>by
          refine ⟨i1,i2,fun hf=>⟨(i3 hf).1,fun e' he'=>?_⟩⟩
          obtain ⟨e1,e2⟩:=i3 hf
          rcases (KO hm).1 he' with hh|rfl
          · exact e2 e' hh
          · intro i' k' j' o' x' y' hE ho' hx' hy' hlt
            injection hE with h1 h2 h3
            obtain rfl:i=i':=by omega
            obtain rfl:k=k':=by omega
            obtain rfl:j=j':=by omega
            obtain rfl:o=o':=by rw [a2] at ho';exact Option.some.inj ho'
            rw [← e1,x1] at hx'
            rw [← e1,y1] at hy'
            obtain rfl:=Option.some.inj hx'
            obtain rfl:=Option.some.inj hy'
            exact hx hlt
        by_cases hy:y < 1125899906842624
        · rw [if_pos hy,AA,Bl (by unfold inI64;unfold Inf at *;omega),AA,AA]
          by_cases hx:y + o.cost < x
          · rw [if_pos hx,AA,if_t,AA,Bl (by unfold inI64;unfold Inf at *;omega),AA,AA]
            refine ⟨_,rfl,⟨by simpa using i1.1,fun i' s' hs'=>?_⟩,fun _=>?_,fun hh=>by simp at hh⟩
            · show ∃ c,(r1.set ((i:Int)).toNat (y + o.cost))[i']?=some c∧_
              rw [show ((i:Int)).toNat=i from by omega]
              by_cases e:i=i'
              · subst e
                obtain rfl:s=s':=by rw [a1] at hs';exact Option.some.inj hs'
                refine ⟨_,by rw [List.getElem?_set_self (AJ x1)],by omega,by omega,fun _=>.step a2 a3 (y4 hy),fun hg=>?_⟩
                have:=x5 hg;omega
              · rw [List.getElem?_set_ne e];exact i1.2 i' s' hs'
            · show sumN (r1.set ((i:Int)).toNat (y + o.cost)) < _
              rw [show ((i:Int)).toNat=i from by omega]
              have hlt:=KN r1 i x (y + o.cost) x1 (by omega) hx
              cases hr:r2 with
              | true=>have:=i2 hr;omega
              | false=>rw [(i3 hr).1] at hlt;rwa [(i3 hr).1]
          · rw [if_neg hx,AA,if_f]
            exact ⟨_,rfl,keep fun _=>by omega⟩
        · rw [if_neg hy,AA,if_f]
          exact ⟨_,rfl,keep fun hh=>absurd hh hy⟩)
    refine ⟨d',b,g1,g2,g3,fun hb=>?_⟩
    obtain ⟨e1,e2⟩:=g4 hb
    rw [List.take_length] at e2
    exact ⟨e1,e2⟩
  obtain ⟨⟨d,b⟩,l1,l2,l3⟩:=Pe (ρ:=List Int) (f:=fun (s127:(List Int)×Bool)=>if s127.2=true then (bnd (rng (ρ:=Ctl ((List Int)×Bool) (List Int)) (fun (_:Nat) (a152:Edg) (s149:(List Int)×Bool)=>bnd (atI t.ops a152.op) fun a183=>bnd (bnd (atI s149.1 a152.dst) fun a208=>if a208 < 1125899906842624 then (bnd (atI s149.1 a152.dst) fun a221=>bnd (chkI (a221 + a183.cost)) fun n233=>bnd (atI s149.1 a152.src) fun a236=>if n233 < a236 then (some true) else (some false)) else (some false):Option Bool) fun y204=>if y204=true then (bnd (atI s149.1 a152.dst) fun a254=>bnd (chkI (a254 + a183.cost)) fun n266=>bnd (atI s149.1 a152.src) fun _=>some (.next ((s149.1.set (a152.src).toNat n266),true))) else (some (.next (s149.1,s149.2)))) es 0 (s127.1,false)) fun res147=>fin res147 fun (s287:(List Int)×Bool)=>some (.next (s287.1,s287.2))) else (some (.brk (s127.1,s127.2))))
    (fun r=>DistI t r.1∧(r.2=false→∀ e∈es,∀ (i k j:Nat) o x y,e=⟨i,k,j⟩→t.ops[k]?=some o→r.1[i]?=some x→r.1[j]?=some y→y < Inf→x≤y + o.cost)) (fun r=>DistI t r.1∧∀ e∈es,∀ (i k j:Nat) o x y,e=⟨i,k,j⟩→t.ops[k]?=some o→r.1[i]?=some x→r.1[j]?=some y→y < Inf→x≤y + o.cost) (fun r=>2 * sumN r.1 + if r.2=true then 1 else 0) (fun r hr=>by
      obtain ⟨r1,r2⟩:=r
      obtain ⟨i1,i2⟩:=hr
      cases r2 with
      | true =>
        obtain ⟨d',b,p1,p2,p3,p4⟩:=pass r1 i1
        refine .inl ⟨(d',b),?_,⟨p2,fun hb=>?_⟩,?_⟩
        · simp only [if_true]
          rw [p1,AA,fin_d]
        · obtain ⟨e1,e2⟩:=p4 hb
          show ∀ e∈es,_
          intro e he i k j o x y hE ho hx hy
          simp only at hx hy
          rw [e1] at hx hy
          exact e2 e he i k j o x y hE ho hx hy
        · cases b with
          | true=>have:=p3 rfl;simp;omega
          | false=>rw [(p4 rfl).1];simp
      | false=>exact .inr ⟨(r1,false),by simp,i1,i2 rfl⟩) (d0,true) ⟨hd0,fun hh=>by simp at hh⟩
  refine ⟨d,by rw [l1,AA,fin_d],l2,fun i s c C hi hc hw=>?_⟩
  induction hw generalizing i c with
  | goal hg =>
    obtain ⟨c',q1,_,_,_,q5⟩:=l2.2 i _ hi
    rw [hc] at q1
    obtain rfl:=Option.some.inj q1
    have:=q5 hg;omega
  | @step s k o C' ho hp hw ih =>
    have hs:StateOk t.vars s:=Ff.1 (List.mem_of_getElem? hi)
    obtain ⟨j,_,hj⟩:=JA h (If h.ok hs ho)
    obtain ⟨y,y1,y2,y3,y4,y5⟩:=l2.2 j _ hj
    have h5:=ih j y hj y1
    obtain ⟨x,x1,x2,x3,x4,x5⟩:=l2.2 i s hi
    rw [x1] at hc
    obtain rfl:=Option.some.inj hc
    have hco:=(h.ok.2.2.2.2.2 k o ho).1
    by_cases hy:y < Inf
    · have:=l3 ⟨i,k,j⟩ ((hes _).2 ⟨i,k,j,s,o,rfl,hi,ho,hp,hj⟩) i k j o x y rfl ho x1 y1 hy
      omega
    · omega
end
section
open Go Go.RowKit
structure QEn where
  key:Int
  tie:Int
  item:Int
  number:Int
theorem JX {α:Type} {l:List α} {m i:Nat} {x:α} (h:(l.take m)[i]?=some x):l[i]?=some x:=by
  by_cases hi:i < m
  · rwa [List.getElem?_take_of_lt hi] at h
  · rw [List.getElem?_take_eq_none (by omega)] at h;cases h
def bfr (x y:QEn):Prop:=x.key < y.key∨(x.key=y.key∧(x.tie < y.tie∨(x.tie=y.tie∧x.number < y.number)))
instance (x y:QEn):Decidable (bfr x y):=by unfold bfr;infer_instance
def nb (x y:QEn):Prop:=¬ bfr x y
theorem GU {x y z:QEn} (h1:nb x y) (h2:nb y z):nb x z:=by unfold nb bfr at *;omega
theorem nb_of {x y:QEn} (h:bfr x y):nb y x:=by unfold nb bfr at *;omega
theorem Jm (x:QEn):nb x x:=by unfold nb bfr;omega
theorem KQ {x y:QEn} (h:nb x y):y.key≤x.key:=by unfold nb bfr at h;omega
def HeapOk (l:List QEn):Prop:=∀ (j:Nat) x y,0 < j→l[j]?=some x→l[(j - 1) / 2]?=some y→nb x y
def Over (l:List QEn) (i:Nat):Prop:=∀ (j:Nat) x y,0 < i→0 < j→(j - 1) / 2=i→l[j]?=some x→l[(i - 1) / 2]?=some y→nb x y
def UpI (l:List QEn) (i:Nat):Prop:=(∀ (j:Nat) x y,0 < j→j≠i→l[j]?=some x→l[(j - 1) / 2]?=some y→nb x y)∧Over l i
def DownI (l:List QEn) (i:Nat):Prop:=(∀ (j:Nat) x y,0 < j→(j - 1) / 2≠i→l[j]?=some x→l[(j - 1) / 2]?=some y→nb x y)∧Over l i
theorem GC {l:List QEn} {i j:Nat} {a b:QEn} (hi:l[i]?=some a) (hj:l[j]?=some b) (hne:i≠j) (k:Nat):((l.set i b).set j a)[k]?=if k=j then some a else if k=i then some b else l[k]?:=by
  by_cases h1:k=j
  · subst h1;rw [if_pos rfl,List.getElem?_set_self (by simpa using AJ hj)]
  · rw [if_neg h1,List.getElem?_set_ne (by omega)]
    by_cases h2:k=i
    · subst h2;rw [if_pos rfl,List.getElem?_set_self (AJ hi)]
    · rw [if_neg h2,List.getElem?_set_ne (by omega)]
theorem KR {l:List QEn} {i j:Nat} {a b:QEn} (hi:l[i]?=some a) (hj:l[j]?=some b):((l.set i b).set j a).Perm l:=by
  have h1:=AJ hi
  have h2:=AJ hj
  have e1:l[i]=a:=by rw [List.getElem?_eq_getElem h1] at hi;exact Option.some.inj hi
  have e2:l[j]=b:=by rw [List.getElem?_eq_getElem h2] at hj;exact Option.some.inj hj
  rw [← e1,← e2]
  exact List.set_set_perm h1 h2
theorem UpI.step {l:List QEn} {i:Nat} {a b:QEn} (h:UpI l i) (h0:0 < i) (hi:l[i]?=some a) (hj:l[(i - 1) / 2]?=some b) (hb:bfr a b):UpI ((l.set i b).set ((i - 1) / 2) a) ((i - 1) / 2):=by
  have hne:i≠(i - 1) / 2:=by omega
  constructor
  · intro j x y hj0 hjp hx hy
    rw [GC hi hj hne,if_neg hjp] at hx
    rw [GC hi hj hne] at hy
    by_cases e1:j=i
    · subst e1
      rw [if_pos rfl] at hx hy
      obtain rfl:=Option.some.inj hx
      obtain rfl:=Option.some.inj hy
      exact nb_of hb
    · rw [if_neg e1] at hx
      by_cases e2:(j - 1) / 2=(i - 1) / 2
      · rw [if_pos e2] at hy
        obtain rfl:=Option.some.inj hy
        have:=h.1 j x b hj0 e1 hx (by rw [e2];exact hj)
        exact GU this (nb_of hb)
      · rw [if_neg e2] at hy
        by_cases e3:(j - 1) / 2=i
        · rw [if_pos e3] at hy
          obtain rfl:=Option.some.inj hy
          exact h.2 j x b h0 hj0 e3 hx hj
        · rw [if_neg e3] at hy
          exact h.1 j x y hj0 e1 hx hy
  · intro j x y hp0 hj0 hjp hx hy
    rw [GC hi hj hne] at hx hy
    have n1:((i - 1) / 2 - 1) / 2≠(i - 1) / 2:=by omega
    have n2:((i - 1) / 2 - 1) / 2≠i:=by omega
    rw [if_neg n1,if_neg n2] at hy
    have hpp:=h.1 ((i - 1) / 2) b y hp0 (by omega) hj hy
    rw [if_neg (by omega)] at hx
    by_cases e1:j=i
    · subst e1
      rw [if_pos rfl] at hx
      obtain rfl:=Option.some.inj hx
      exact hpp
    · rw [if_neg e1] at hx
      exact GU (h.1 j x b hj0 e1 hx (by rw [hjp];exact hj)) hpp
theorem UpI.heap {l:List QEn} {i:Nat} (h:UpI l i) (hi:i=0∨∀ x y,l[i]?=some x→l[(i - 1) / 2]?=some y→nb x y):HeapOk l:=fun j x y hj hx hy=>by
  by_cases e:j=i
  · subst e
    rcases hi with h0|h1
    · omega
    · exact h1 x y hx hy
  · exact h.1 j x y hj e hx hy
theorem DownI.step {l:List QEn} {i c:Nat} {a b:QEn} (h:DownI l i) (hc:c=2 * i + 1∨c=2 * i + 2) (hi:l[i]?=some a) (hj:l[c]?=some b) (hb:bfr b a) (hs:∀ (j:Nat) x,0 < j→(j - 1) / 2=i→l[j]?=some x→nb x b):DownI ((l.set i b).set c a) c:=by
  have hne:i≠c:=by omega
  have hcp:(c - 1) / 2=i:=by omega
  constructor
  · intro j x y hj0 hjp hx hy
    rw [GC hi hj hne] at hx hy
    rw [if_neg hjp] at hy
    by_cases e1:j=c
    · subst e1
      rw [if_pos rfl] at hx
      rw [if_pos hcp] at hy
      obtain rfl:=Option.some.inj hx
      obtain rfl:=Option.some.inj hy
      exact nb_of hb
    · rw [if_neg e1] at hx
      by_cases e2:j=i
      · subst e2
        rw [if_pos rfl] at hx
        rw [if_neg (by omega)] at hy
        obtain rfl:=Option.some.inj hx
        exact h.2 c _ y hj0 (by omega) hcp hj hy
      · rw [if_neg e2] at hx
        by_cases e3:(j - 1) / 2=i
        · rw [if_pos e3] at hy
          obtain rfl:=Option.some.inj hy
          exact hs j x hj0 e3 hx
        · rw [if_neg e3] at hy
          exact h.1 j x y hj0 e3 hx hy
  · intro j x y hc0 hj0 hjc hx hy
    rw [GC hi hj hne] at hx hy
    rw [if_neg (by omega),if_neg (by omega)] at hx
    rw [if_neg (by omega),if_pos hcp] at hy
    obtain rfl:=Option.some.inj hy
    exact h.1 j x _ hj0 (by omega) hx (by rw [hjc];exact hj)
theorem DownI.heap {l:List QEn} {i:Nat} (h:DownI l i) (hi:∀ (j:Nat) x y,0 < j→(j - 1) / 2=i→l[j]?=some x→l[i]?=some y→nb x y):HeapOk l:=fun j x y hj hx hy=>by
  by_cases e:(j - 1) / 2=i
  · exact hi j x y hj e hx (by rw [← e];exact hy)
  · exact h.1 j x y hj e hx hy
theorem Na {l:List QEn} (h:HeapOk l) {e:QEn} (he:l[0]?=some e):∀ x∈l,nb x e:=by
  have key:∀ (n j:Nat) x,j≤n→l[j]?=some x→nb x e:=by
    intro n
    induction n with
    | zero =>
      intro j x hj hx
      have hj0:j=0:=by omega
      rw [hj0,he] at hx
      rw [← Option.some.inj hx]
      exact Jm _
    | succ n ih =>
      intro j x hj hx
      by_cases h0:j=0
      · exact ih j x (by omega) hx
      · obtain ⟨y,hy⟩:=AH (l:=l) (k:=(j - 1) / 2) (by have:=AJ hx;omega)
        exact GU (h j x y (by omega) hx hy) (ih ((j - 1) / 2) y (by omega) hy)
  intro x hx
  obtain ⟨j,hj⟩:=List.getElem?_of_mem hx
  exact key j j x (by omega) hj
end
section
open Go Go.RowKit
theorem LS {σ ρ:Type} {x:Option (Ctl σ ρ)} {I:σ→Prop} (h:∃ r,x=some r∧∃ s',r=Ctl.next s'∧I s'):∃ s',x=some (.next s')∧I s':=by
  obtain ⟨_,h1,s',rfl,h2⟩:=h
  exact ⟨s',h1,h2⟩
def FldOk (W:Nat) (f:PFd) (n:Int):Prop:=∃ k b w:Nat,f=⟨k,b,w,n⟩∧k < W∧b + w≤64∧w≤6∧n≤2 ^ w
def PkOk (vars:List Int) (p:Pkr):Prop:=p.fields.length=vars.length∧(∃ W:Nat,p.words=(W:Int)∧1≤W∧W≤vars.length + 1∧∀ (i:Nat) f n,p.fields[i]?=some f→vars[i]?=some n→FldOk W f n) ∧
  ∀ (i j:Nat) f g,i < j→p.fields[i]?=some f→p.fields[j]?=some g→f.word < g.word∨(f.word=g.word∧f.bit + f.width≤g.bit)
theorem Oi:∀ {w:Nat},w≤6→shlI 1 (w:Int)=some ((2 ^ w:Nat):Int):=by
  intro w h
  have:w=0∨w=1∨w=2∨w=3∨w=4∨w=5∨w=6:=by omega
  rcases this with rfl|rfl|rfl|rfl|rfl|rfl|rfl<;>rfl
theorem Oj {w:Nat} {n:Int} (hw:w≤6) (h:((2 ^ w:Nat):Int) < n) (hn:n≤64):w < 6:=by
  rcases Nat.lt_or_ge w 6 with hh|hh
  · exact hh
  · obtain rfl:w=6:=by omega
    simp at h;omega
def PkI (vars:List Int) (B W:Nat) (fs:List PFd):Prop:=(∀ (i:Nat) f n,fs[i]?=some f→vars[i]?=some n→FldOk W f n) ∧
  (∀ (i j:Nat) f g,i < j→fs[i]?=some f→fs[j]?=some g→f.word < g.word∨(f.word=g.word∧f.bit + f.width≤g.bit))∧∀ (i:Nat) f,fs[i]?=some f→f.word + 1 < (W:Int)∨(f.word + 1=(W:Int)∧f.bit + f.width≤(B:Int))
theorem PkI.over {vars:List Int} {B W:Nat} {fs:List PFd} (h:PkI vars B W fs):PkI vars 0 (W + 1) fs :=
  ⟨fun i f n hf hn=>by obtain ⟨k,b,w,e,e1,e2⟩:=h.1 i f n hf hn;exact ⟨k,b,w,e,by omega,e2⟩,h.2.1,fun i f hf=>by have:=h.2.2 i f hf;omega⟩
theorem CW {α:Type} {l:List α} {x y:α} {i:Nat} (h:(l ++ [x])[i]?=some y):l[i]?=some y∨(i=l.length∧y=x):=by
  rcases Nat.lt_trichotomy i l.length with hi|hi|hi
  · rw [List.getElem?_append_left hi] at h;exact .inl h
  · subst hi;simp at h;exact .inr ⟨rfl,h.symm⟩
  · rw [List.getElem?_append_right (by omega)] at h
    rw [List.getElem?_eq_none (by simp;omega)] at h
    cases h
theorem PkI.add {vars:List Int} {B W w:Nat} {fs:List PFd} {n:Int} (h:PkI vars B W fs) (hW:1≤W) (hn:vars[fs.length]?=some n) (hB:B + w≤64) (hw:w≤6) (hnw:n≤2 ^ w):PkI vars (B + w) W (fs ++ [⟨(W:Int) - 1,(B:Int),(w:Int),n⟩]):=by
  refine ⟨fun i f n' hf hn'=>?_,fun i j f g hij hf hg=>?_,fun i f hf=>?_⟩
  · rcases CW hf with hh|⟨rfl,rfl⟩
    · exact h.1 i f n' hh hn'
    · rw [hn] at hn'
      obtain rfl:=Option.some.inj hn'
      exact ⟨W - 1,B,w,by congr 1;omega,by omega,hB,hw,hnw⟩
  · rcases CW hg with hh|⟨rfl,rfl⟩
    · rcases CW hf with hk|⟨rfl,rfl⟩
      · exact h.2.1 i j f g hij hk hh
      · have:=AJ hh;omega
    · rcases CW hf with hk|⟨rfl,rfl⟩
      · have:=h.2.2 i f hk
        dsimp only
        omega
      · omega
  · rcases CW hf with hh|⟨rfl,rfl⟩
    · have:=h.2.2 i f hh;omega
    · dsimp only;omega
theorem Mm {vars:List Int} (hl:vars.length≤64) (hv:∀ (i:Nat) n,vars[i]?=some n→1≤n∧n≤64):∃ r,DD vars=some r∧∃ p,r=(some p,⟨0⟩)∧PkOk vars p:=by
  unfold DD
  rw [if_neg (by omega)]
  refine GB (fun m s=>∃ B W:Nat,s.1=(B:Int)∧B≤64∧s.2.words=(W:Int)∧1≤W∧W≤m + 1∧s.2.fields.length=m∧PkI vars B W s.2.fields) (fun _=>False)
    ⟨0,1,rfl,by omega,rfl,by omega,by omega,rfl,fun i f n h=>by simp at h,fun i j f g _ h=>by simp at h,fun i f h=>by simp at h⟩ ?_ ?_ (fun q hq=>hq.elim)
  · rintro m n ⟨s1,s2⟩ hm ⟨B,W,hs1,hB,hW,hW1,hWm,hlen,hI⟩
    dsimp only at hs1 hW hlen hI
    subst hs1
    obtain ⟨hn1,hn2⟩:=hv m n hm
    have hml:=AJ hm
    refine .inl (LS ?_)
    rw [if_neg (by omega),if_neg (by omega),AA,if_f]
    refine KI (fun c=>∃ w:Nat,c=(w:Int)∧w≤6) (fun c=>∃ w:Nat,c=(w:Int)∧w≤6∧n≤2 ^ w) (fun _=>False) (fun c=>7 - c.toNat) ⟨0,rfl,by omega⟩ ?_ ?_ (fun q hq=>hq.elim)
    · rintro c ⟨w,rfl,hw⟩
      rw [Oi hw,AA]
      by_cases hlt:((2 ^ w:Nat):Int) < n
      · have:=Oj hw hlt hn2
        rw [if_pos hlt,Bl (by unfold inI64;omega),AA]
        exact .inl ⟨_,rfl,⟨w + 1,by omega,by omega⟩,by omega⟩
      · rw [if_neg hlt]
        refine .inr (.inl ⟨_,rfl,w,rfl,hw,?_⟩)
        have:((2 ^ w:Nat):Int)=(2:Int) ^ w:=by simp
        omega
    · rintro c ⟨w,rfl,hw,hnw⟩
      rw [fin_d,Bl (by unfold inI64;omega),AA]
      have fin':∀ (B' W':Nat) (q:Pkr),B' + w≤64→1≤W'→W'≤m + 2→q.words=(W':Int)→q.fields=s2.fields→PkI vars B' W' s2.fields→∃ r,(bnd (chkI (q.words - 1)) fun n133=>bnd (appI 32 q.fields [(⟨n133,(B':Int),(w:Int),n⟩:PFd)]) fun u142=>bnd (chkI ((B':Int) + (w:Int))) fun n155=>some (Ctl.next (ρ:=(Option Pkr)×Err) (n155,(⟨u142,q.words⟩:Pkr))))=some r∧∃ s',r=Ctl.next s'∧∃ B W:Nat,s'.1=(B:Int)∧B≤64∧s'.2.words=(W:Int)∧1≤W∧W≤m + 1 + 1∧s'.2.fields.length=m + 1∧PkI vars B W s'.2.fields:=by
        intro B' W' q hB' hW' hWm' hq1 hq2 hI'
        rw [hq1,hq2,Bl (by unfold inI64;omega),AA,BR (by simp;omega) (by simp;omega),AA,Bl (by unfold inI64;omega),AA]
        exact ⟨_,rfl,_,rfl,B' + w,W',by simp,hB',rfl,hW',by omega,by simp [hlen],hI'.add hW' (by rw [hlen];exact hm) hB' hw hnw⟩
      by_cases hover:64 < (B:Int) + (w:Int)
      · rw [if_pos hover]
        dsimp only
        rw [hW,Bl (by unfold inI64;omega),AA,AA]
        exact fin' 0 (W + 1) ⟨s2.fields,(W:Int) + 1⟩ (by omega) (by omega) (by omega) (by simp) rfl hI.over
      · rw [if_neg hover,AA]
        exact fin' B W s2 (by omega) hW1 (by omega) hW rfl hI
  · rintro ⟨s1,s2⟩ ⟨B,W,hs1,hB,hW,hW1,hWm,hlen,hI⟩
    exact ⟨_,rfl,s2,rfl,hlen,⟨W,hW,hW1,hWm,hI.1⟩,hI.2.1⟩
def InF (f:PFd) (x:Int) (k c:Nat):Prop:=f.word=(k:Int)∧f.bit≤(c:Int)∧(c:Int) < f.bit + f.width∧x.toNat.testBit (c - f.bit.toNat)=true
def Bits (fs:List PFd) (s:List Int) (p:Nat→Prop) (ws:List U64):Prop:=∀ (k c:Nat) a,ws[k]?=some a→c < 64→(a.getLsbD c=true↔∃ (i:Nat) (f:PFd) (x:Int),p i∧fs[i]?=some f∧s[i]?=some x∧InF f x k c)
theorem ones {w:Nat} (h:w≤6):((1:U64) <<< w) - (1:U64)=BitVec.ofNat 64 (2 ^ w - 1):=by
  have:w=0∨w=1∨w=2∨w=3∨w=4∨w=5∨w=6:=by omega
  rcases this with rfl|rfl|rfl|rfl|rfl|rfl|rfl<;>rfl
theorem KS {w b c:Nat} (hw:w≤6) (hc:c < 64):((((1:U64) <<< w) - (1:U64)) <<< b).getLsbD c=(decide (b≤c) && decide (c < b + w)):=by
  rw [ones hw,BitVec.getLsbD_shiftLeft,BitVec.getLsbD_ofNat,Nat.testBit_two_pow_sub_one]
  by_cases h1:b≤c<;>by_cases h2:c < b + w<;>simp [h1,h2,hc]<;>omega
theorem JE {x:Int} {w j:Nat} (h0:0≤x) (h1:x < 2 ^ w) (ht:x.toNat.testBit j=true):j < w:=by
  rcases Nat.lt_or_ge j w with h|h
  · exact h
  · have h2:x.toNat < 2 ^ w:=by
      have:((2 ^ w:Nat):Int)=(2:Int) ^ w:=by simp
      omega
    rw [Nat.testBit_lt_two_pow (Nat.lt_of_lt_of_le h2 (Nat.pow_le_pow_right (by omega) h))] at ht
    cases ht
theorem PkOk.field {vars:List Int} {p:Pkr} (h:PkOk vars p) {s:List Int} (hs:StateOk vars s) {i:Nat} {f:PFd} (hf:p.fields[i]?=some f):∃ (k b w:Nat) (n x:Int),f=⟨k,b,w,n⟩∧(k:Int) < p.words∧b + w≤64∧w≤6∧s[i]?=some x∧0≤x∧x < n∧x < 2 ^ w:=by
  obtain ⟨h1,⟨W,hW,_,_,h2⟩,h3⟩:=h
  have hi:=AJ hf
  obtain ⟨n,hn⟩:=AH (l:=vars) (k:=i) (by omega)
  obtain ⟨x,hx⟩:=AH (l:=s) (k:=i) (by have:=hs.1;omega)
  obtain ⟨k,b,w,e,e1,e2,e3,e4⟩:=h2 i f n hf hn
  have:=hs.2 i x n hx hn
  exact ⟨k,b,w,n,x,e,by omega,e2,e3,hx,this.1,this.2,by omega⟩
theorem PkOk.same {vars:List Int} {p:Pkr} (h:PkOk vars p) {i j:Nat} {f g:PFd} {k c:Nat} (hf:p.fields[i]?=some f) (hg:p.fields[j]?=some g) (h1:f.word=(k:Int)∧f.bit≤(c:Int)∧(c:Int) < f.bit + f.width) (h2:g.word=(k:Int)∧g.bit≤(c:Int)∧(c:Int) < g.bit + g.width):i=j:=by
  rcases Nat.lt_trichotomy i j with hh|hh|hh
  · have:=h.2.2 i j f g hh hf hg;omega
  · exact hh
  · have:=h.2.2 j i g f hh hg hf;omega
theorem Ig {vars:List Int} {p:Pkr} (h:PkOk vars p) (hl:vars.length≤64) {s:List Int} (hs:StateOk vars s):∃ r,Bx p s=some r∧r.2=⟨0⟩∧(r.1.length:Int)=p.words∧Bits p.fields s (fun _=>True) r.1:=by
  obtain ⟨W,hW,hW1,hW2,_⟩:=h.2.1
  unfold Bx
  rw [if_neg (by have:=h.1;have:=hs.1;omega),hW,HA (by omega) (by omega),AA]
  refine GB (fun m ws=>(ws.length:Int)=(W:Int)∧Bits p.fields s (fun i=>i < m) ws) (fun _=>False) ⟨by simp,?_⟩ ?_ ?_ (fun q hq=>hq.elim)
  · intro k c a ha _
    have:=List.eq_of_mem_replicate (List.mem_of_getElem? ha)
    subst this
    constructor
    · intro hh;simp at hh
    · rintro ⟨i,_,_,hi,_⟩;omega
  · rintro m f ws hm ⟨hwl,hb⟩
    refine .inl (LS ?_)
    obtain ⟨k,b,w,n,x,rfl,hk,hbw,hw,hx,hx0,hxn,hxw⟩:=h.field hs hm
    dsimp only
    obtain ⟨a,ha⟩:=AH (l:=ws) (k:=k) (by omega)
    rw [hx,AA,if_neg (by omega),AA,if_neg (by omega),AA,if_f,Bk,ha,AA,AA]
    unfold shlU
    rw [if_pos (by omega),AA,AA]
    refine ⟨_,rfl,_,rfl,by simpa using hwl,?_⟩
    simp only [Int.toNat_natCast]
    have hxb:∀ c:Nat,c < 64→((a ||| (BitVec.ofInt 64 x <<< b)).getLsbD c=true↔a.getLsbD c=true∨(b≤c∧x.toNat.testBit (c - b)=true)):=by
      intro c hc
      have hofi:BitVec.ofInt 64 x=BitVec.ofNat 64 x.toNat:=by
        rw [← BitVec.ofInt_natCast,Int.toNat_of_nonneg hx0]
      rw [BitVec.getLsbD_or,BitVec.getLsbD_shiftLeft,hofi,BitVec.getLsbD_ofNat]
      by_cases h1:b≤c
      · have:c - b < 64:=by omega
        simp [hc,h1,this,Nat.not_lt.2 h1]
      · simp [hc,h1,Nat.lt_of_not_le h1]
    intro k' c a' ha' hc
    by_cases e:k=k'
    · subst e
      rw [List.getElem?_set_self (AJ ha)] at ha'
      obtain rfl:=Option.some.inj ha'
      rw [hxb c hc,hb k c a ha hc]
      constructor
      · rintro (⟨i,f,y,hi,hr⟩|⟨h1,h2⟩)
        · exact ⟨i,f,y,by omega,hr⟩
        · have:=JE hx0 hxw h2
          exact ⟨m,_,x,by omega,hm,hx,rfl,by dsimp only;omega,by dsimp only;omega,by simpa using h2⟩
      · rintro ⟨i,f,y,hi,hf,hy,hin⟩
        by_cases he:i=m
        · subst he
          rw [hm] at hf
          obtain rfl:=Option.some.inj hf
          rw [hx] at hy
          obtain rfl:=Option.some.inj hy
          obtain ⟨_,i2,i3,i4⟩:=hin
          dsimp only at i2 i3 i4
          exact .inr ⟨by omega,by simpa using i4⟩
        · exact .inl ⟨i,f,y,by omega,hf,hy,hin⟩
    · rw [List.getElem?_set_ne e] at ha'
      rw [hb k' c a' ha' hc]
      constructor
      · rintro ⟨i,f,y,hi,hr⟩;exact ⟨i,f,y,by omega,hr⟩
      · rintro ⟨i,f,y,hi,hf,hy,hin⟩
        by_cases he:i=m
        · subst he
          rw [hm] at hf
          obtain rfl:=Option.some.inj hf
          have:=hin.1
          dsimp only at this
          omega
        · exact ⟨i,f,y,by omega,hf,hy,hin⟩
  · rintro ws ⟨hwl,hb⟩
    refine ⟨_,rfl,rfl,hwl,fun k c a ha hc=>?_⟩
    rw [hb k c a ha hc]
    constructor
    · rintro ⟨i,f,x,_,hr⟩;exact ⟨i,f,x,trivial,hr⟩
    · rintro ⟨i,f,x,_,hf,hr⟩;exact ⟨i,f,x,AJ hf,hf,hr⟩
theorem LT {k b w:Nat} {n:Int}:Cf ⟨k,b,w,n⟩=some ((((1:U64) <<< w) - (1:U64)) <<< b):=by
  unfold Cf shlU
  dsimp only
  rw [if_pos (by omega),AA,if_pos (by omega),AA]
  simp
theorem Pf {vars:List Int} {p:Pkr} (h:PkOk vars p) {s:List Int} (hs:StateOk vars s) {ws:List U64} (hwl:(ws.length:Int)=p.words) (hb:Bits p.fields s (fun _=>True) ws) {i:Nat} {f:PFd} {x:Int} (hf:p.fields[i]?=some f) (hx:s[i]?=some x):Ct f ws=some x:=by
  obtain ⟨k,b,w,n,x',rfl,hk,hbw,hw,hx',hx0,hxn,hxw⟩:=h.field hs hf
  rw [hx] at hx'
  obtain rfl:=Option.some.inj hx'
  obtain ⟨a,ha⟩:=AH (l:=ws) (k:=k) (by omega)
  unfold Ct
  dsimp only
  rw [Bk,ha,AA,LT,AA]
  unfold shrU
  rw [if_pos (by omega),AA]
  have hval : (a &&& ((((1:U64) <<< w) - (1:U64)) <<< b)) >>> b=BitVec.ofNat 64 x.toNat:=by
    apply BitVec.eq_of_getLsbD_eq
    intro j hj
    rw [BitVec.getLsbD_ushiftRight,BitVec.getLsbD_and,BitVec.getLsbD_ofNat]
    by_cases hjb:b + j < 64
    · rw [KS hw hjb]
      by_cases hjw:j < w
      · have h1:=hb k (b + j) a ha hjb
        have h2:a.getLsbD (b + j)=x.toNat.testBit j:=by
          cases ht:x.toNat.testBit j with
          | true=>exact h1.2 ⟨i,_,x,trivial,hf,hx,rfl,by dsimp only;omega,by dsimp only;omega,by simpa using ht⟩
          | false =>
            cases hg:a.getLsbD (b + j) with
            | false=>rfl
            | true =>
              obtain ⟨i',f',x',_,hf',hx',hin⟩:=h1.1 hg
              have hii:=h.same (k:=k) (c:=b + j) hf hf' ⟨rfl,by dsimp only;omega,by dsimp only;omega⟩ ⟨hin.1,hin.2.1,hin.2.2.1⟩
              subst hii
              rw [hf] at hf'
              obtain rfl:=Option.some.inj hf'
              rw [hx] at hx'
              obtain rfl:=Option.some.inj hx'
              have:=hin.2.2.2
              simp at this
              rw [this] at ht
              cases ht
        rw [h2]
        simp [hj,hjw]
      · have hf0:x.toNat.testBit j=false:=by
          cases ht:x.toNat.testBit j with
          | false=>rfl
          | true=>exact absurd (JE hx0 hxw ht) hjw
        simp [hf0,hjw]
    · have hf0:x.toNat.testBit j=false:=by
        cases ht:x.toNat.testBit j with
        | false=>rfl
        | true=>have:=JE hx0 hxw ht;omega
      rw [BitVec.getLsbD_of_ge _ _ (by omega)]
      simp [hf0]
  have h64:(2:Int) ^ w≤64:=by
    have:w=0∨w=1∨w=2∨w=3∨w=4∨w=5∨w=6:=by omega
    rcases this with rfl|rfl|rfl|rfl|rfl|rfl|rfl<;>decide
  simp only [Int.toNat_natCast]
  rw [hval]
  congr 1
  rw [BitVec.toInt_eq_toNat_of_lt (by rw [BitVec.toNat_ofNat];omega),BitVec.toNat_ofNat]
  omega
theorem HS {vars:List Int} {p:Pkr} (h:PkOk vars p) (hl:vars.length≤64) {s:List Int} (hs:StateOk vars s) {ws:List U64} (hwl:(ws.length:Int)=p.words) (hb:Bits p.fields s (fun _=>True) ws):Cd p ws=some (s,⟨0⟩):=by
  obtain ⟨W,hW,hW1,hW2,_⟩:=h.2.1
  have hsl:=hs.1
  have hfl:=h.1
  unfold Cd
  rw [if_neg (by omega),HA (by omega) (by omega),AA]
  unfold BE
  rw [if_pos (by omega),AA]
  refine JC (fun m st=>st.1.length=s.length∧(∀ (i:Nat) x,i < m→s[i]?=some x→st.1[i]?=some x)∧st.2.length=ws.length∧Bits p.fields s (fun i=>m≤i) st.2) ⟨by simp;omega,fun i x hi=>by omega,rfl,?_⟩ ?_ ?_
  · intro k c a ha hc
    rw [hb k c a ha hc]
    constructor
    · rintro ⟨i,f,x,_,hr⟩;exact ⟨i,f,x,by omega,hr⟩
    · rintro ⟨i,f,x,_,hr⟩;exact ⟨i,f,x,trivial,hr⟩
  · rintro m f ⟨out,rest⟩ hm ⟨i1,i2,i3,i4⟩
    dsimp only at i1 i2 i3 i4 ⊢
    obtain ⟨k,b,w,n,x,rfl,hk,hbw,hw,hx,hx0,hxn,hxw⟩:=h.field hs hm
    have hml:=AJ hx
    obtain ⟨u,hu⟩:=AH (l:=out) (k:=m) (by omega)
    obtain ⟨a,ha⟩:=AH (l:=rest) (k:=k) (by omega)
    rw [Pf h hs hwl hb hm hx,AA,hu,AA,List.getElem?_set_self (by omega),AA]
    dsimp only
    rw [if_neg (by omega),Bk,ha,AA,LT,AA,AA]
    refine ⟨_,rfl,by simpa using i1,fun i y hi hy=>?_,by simpa using i3,?_⟩
    · by_cases e:i=m
      · subst e
        rw [hx] at hy
        obtain rfl:=Option.some.inj hy
        exact List.getElem?_set_self (by omega)
      · show (out.set m x)[i]?=_
        rw [List.getElem?_set_ne (by omega)]
        exact i2 i y (by omega) hy
    · show Bits p.fields s _ (rest.set ((k:Int)).toNat _)
      simp only [Int.toNat_natCast]
      intro k' c a' ha' hc
      by_cases e:k=k'
      · subst e
        rw [List.getElem?_set_self (AJ ha)] at ha'
        obtain rfl:=Option.some.inj ha'
        rw [BitVec.getLsbD_and,BitVec.getLsbD_not,KS hw hc]
        have h1:=i4 k c a ha hc
        constructor
        · intro hh
          simp only [Bool.and_eq_true,Bool.not_eq_true',decide_eq_true_eq] at hh
          obtain ⟨i,f,y,hi,hf,hy,hin⟩:=h1.1 hh.1
          refine ⟨i,f,y,?_,hf,hy,hin⟩
          rcases Nat.lt_or_ge m i with hlt|hge
          · exact hlt
          · exfalso
            obtain rfl:i=m:=by omega
            rw [hm] at hf
            obtain rfl:=Option.some.inj hf
            obtain ⟨_,j2,j3,_⟩:=hin
            dsimp only at j2 j3
            have h2:=hh.2.2
            rw [show decide (b≤c)=true from by simp;omega,show decide (c < b + w)=true from by simp;omega] at h2
            cases h2
        · rintro ⟨i,f,y,hi,hf,hy,hin⟩
          have hg:=h1.2 ⟨i,f,y,by omega,hf,hy,hin⟩
          have hno:¬ (b≤c∧c < b + w):=fun hh=>by
            have:=h.same (k:=k) (c:=c) hm hf ⟨rfl,by dsimp only;omega,by dsimp only;omega⟩ ⟨hin.1,hin.2.1,hin.2.2.1⟩
            omega
          rw [hg]
          by_cases q1:b≤c
          · have q2:¬ c < b + w:=fun hh=>hno ⟨q1,hh⟩
            simp [hc,q1,q2]
          · simp [hc,q1]
      · rw [List.getElem?_set_ne e] at ha'
        rw [i4 k' c a' ha' hc]
        constructor
        · rintro ⟨i,f,y,hi,hf,hy,hin⟩
          refine ⟨i,f,y,?_,hf,hy,hin⟩
          rcases Nat.lt_or_ge m i with hlt|hge
          · exact hlt
          · exfalso
            obtain rfl:i=m:=by omega
            rw [hm] at hf
            obtain rfl:=Option.some.inj hf
            have:=hin.1
            dsimp only at this
            omega
        · rintro ⟨i,f,y,hi,hr⟩;exact ⟨i,f,y,by omega,hr⟩
  · rintro ⟨out,rest⟩ ⟨i1,i2,i3,i4⟩
    dsimp only at i1 i2 i3 i4
    rw [fin_d]
    dsimp only
    have hout:out=s:=by
      apply List.ext_getElem?
      intro i
      rcases Nat.lt_or_ge i s.length with hi|hi
      · obtain ⟨x,hx⟩:=AH (l:=s) (k:=i) hi
        rw [hx];exact i2 i x (by omega) hx
      · rw [List.getElem?_eq_none hi,List.getElem?_eq_none (by omega)]
    subst hout
    refine JC (fun _ _=>True) trivial (fun k a _ hk _=>⟨(),?_,trivial⟩) (fun _ _=>rfl)
    obtain ⟨a',ha'⟩:=AH (l:=rest) (k:=k) (by have:=AJ hk;omega)
    rw [ha',AA]
    have hz:a'=0:=by
      apply BitVec.eq_of_getLsbD_eq
      intro c hc
      cases hg:a'.getLsbD c with
      | false=>simp
      | true =>
        obtain ⟨i,f,x,hi,hf,_⟩:=(i4 k c a' ha' hc).1 hg
        have:=AJ hf
        omega
    subst hz
    rw [if_neg (by simp)]
theorem ND {vars:List Int} {p:Pkr} (h:PkOk vars p) (hl:vars.length≤64) {s s':List Int} (hs:StateOk vars s) (hs':StateOk vars s') {ws:List U64} (h1:Bx p s=some (ws,⟨0⟩)) (h2:Bx p s'=some (ws,⟨0⟩)):s=s':=by
  obtain ⟨r,r1,r2,r3,r4⟩:=Ig h hl hs
  obtain ⟨q,q1,q2,q3,q4⟩:=Ig h hl hs'
  rw [h1] at r1
  rw [h2] at q1
  obtain rfl:=Option.some.inj r1
  obtain rfl:=Option.some.inj q1
  have e1:=HS h hl hs r3 r4
  have e2:=HS h hl hs' q3 q4
  rw [e1] at e2
  have:=Option.some.inj e2
  exact congrArg Prod.fst this
end
section
open Go Go.RowKit
theorem JY {K V:Type} [MKey K] (z:V) (k k':K) (v:V):∀ l:List (K×V),mget z (mput l k v) k'=if k=k' then v else mget z l k'
  | []=>by simp only [mput,mget]
  | p :: r=>by
    have ih:=JY z k k' v r
    simp only [mput]
    by_cases h1:p.1=k
    · rw [if_pos h1]
      simp only [mget]
      by_cases h2:k=k'
      · rw [if_pos h2,if_pos h2]
      · rw [if_neg h2,if_neg h2,if_neg (by rw [h1];exact h2)]
    · rw [if_neg h1]
      simp only [mget,ih]
      by_cases h2:k=k'
      · rw [if_pos h2,if_pos h2,if_neg (by rw [← h2];exact h1)]
      · rw [if_neg h2,if_neg h2]
theorem Nb (p:Pkr) (ws:List U64):∃ h,BG p ws=some h:=by
  have:∃ r,BG p ws=some r∧True:=by
    unfold BG
    refine GB (fun _ _=>True) (fun _=>False) trivial (fun i x s _ _=>.inl ?_) (fun s _=>?_) (fun q hq=>hq.elim)
    · exact ⟨_,rfl,trivial⟩
    · exact ⟨_,rfl,trivial⟩
  obtain ⟨h,h1,_⟩:=this
  exact ⟨h,h1⟩
theorem Pg (a b:List U64):Bq a b=some (decide (a=b)):=by
  unfold Bq
  by_cases hl:(a.length:Int)=(b.length:Int)
  · rw [if_neg (by omega)]
    have:∃ r,(bnd (rng (ρ:=Bool) (fun (k18:Nat) (a19:U64) (_:Unit)=>bnd (b[k18]?) fun a36=>if (a19.toNat:Int)≠(a36.toNat:Int) then (some (.ret false)) else (some (.next ()))) a 0 ()) fun res14=>fin res14 fun (_:Unit)=>some true)=some r∧r=decide (a=b):=by
      refine GB (fun m _=>∀ (i:Nat),i < m→a[i]?=b[i]?) (fun r=>r=false∧a≠b) (fun i hi=>by omega) ?_ ?_ ?_
      · intro i x _ hx hI
        obtain ⟨y,hy⟩:=AH (l:=b) (k:=i) (by have:=AJ hx;omega)
        rw [hy,AA]
        by_cases he:x=y
        · subst he
          rw [if_neg (by simp)]
          refine .inl ⟨(),rfl,fun j hj=>?_⟩
          by_cases e:j=i
          · subst e;rw [hx,hy]
          · exact hI j (by omega)
        · rw [if_pos (fun h=>he (BitVec.eq_of_toNat_eq (by omega)))]
          refine .inr ⟨_,rfl,rfl,fun h=>he ?_⟩
          rw [h,hy] at hx
          exact (Option.some.inj hx).symm
      · intro _ hI
        refine ⟨_,rfl,?_⟩
        symm
        rw [decide_eq_true_eq]
        apply List.ext_getElem?
        intro i
        rcases Nat.lt_or_ge i a.length with h|h
        · exact hI i h
        · rw [List.getElem?_eq_none h,List.getElem?_eq_none (by omega)]
      · rintro q ⟨rfl,hne⟩
        exact ⟨_,rfl,by simp [hne]⟩
    obtain ⟨r,h1,h2⟩:=this
    rw [h1,h2]
  · rw [if_pos hl]
    congr 1
    symm
    rw [decide_eq_false_iff_not]
    exact fun h=>hl (by rw [h])
structure RegI (vars:List Int) (r:Reg) (L:List (List Int)):Prop where
  pk:PkOk vars r.packer
  len:r.entries.length=L.length
  st:∀ (i:Nat) s,L[i]?=some s→StateOk vars s
  words:∀ (i:Nat) s e,L[i]?=some s→r.entries[i]?=some e→Bx r.packer s=some (e.words,⟨0⟩)
  nodup:∀ (i j:Nat) s,L[i]?=some s→L[j]?=some s→i=j
  tab:∀ (i:Nat) e,r.entries[i]?=some e→∃ h,BG r.packer e.words=some h∧(i:Int)∈mget ([]:List Int) r.table.l h
  val:∀ h a,a∈mget ([]:List Int) r.table.l h→∃ i:Nat,a=(i:Int)∧i < L.length
  few:∀ h,(mget ([]:List Int) r.table.l h).length≤L.length
def links (r:Reg):List RLk:=r.entries.map (·.link)
theorem Nc {vars:List Int} (hl:vars.length≤64) (hv:∀ (i:Nat) n,vars[i]?=some n→1≤n∧n≤64):∃ r,CJ vars=some r∧∃ q,r=(some q,⟨0⟩)∧RegI vars q []∧links q=[]:=by
  obtain ⟨r,h1,p,rfl,hp⟩:=Mm hl hv
  unfold CJ
  rw [h1,AA,if_neg (by simp),AA]
  exact ⟨_,rfl,_,rfl,⟨hp,rfl,fun i s h=>by simp at h,fun i s e h=>by simp at h,fun i j s h=>by simp at h,fun i e h=>by simp at h,fun h a ha=>by simp [mget] at ha,fun h=>by simp [mget]⟩,rfl⟩
theorem Mn {vars:List Int} (hl:vars.length≤64) {r:Reg} {L:List (List Int)} (h:RegI vars r L) {s:List Int} (hs:StateOk vars s):∃ (ws:List U64) (hh:Int),Bx r.packer s=some (ws,⟨0⟩)∧BG r.packer ws=some hh ∧
    ((∃ i:Nat,L[i]?=some s∧Bo r s=some (ws,hh,(i:Int),⟨0⟩))∨((∀ i:Nat,L[i]?≠some s)∧Bo r s=some (ws,hh,-1,⟨0⟩))):=by
  obtain ⟨⟨ws,er⟩,p1,p2,p3,p4⟩:=Ig h.pk hl hs
  dsimp only at p2 p3 p4
  subst p2
  obtain ⟨hh,hhe⟩:=Nb r.packer ws
  refine ⟨ws,hh,p1,hhe,?_⟩
  have key:∃ res,Bo r s=some res∧((∃ i:Nat,L[i]?=some s∧res=(ws,hh,(i:Int),⟨0⟩))∨((∀ i:Nat,L[i]?≠some s)∧res=(ws,hh,-1,⟨0⟩))):=by
    unfold Bo
    rw [p1,AA,if_neg (by simp),hhe,AA]
    refine GB (fun m _=>∀ (j:Nat) (i:Nat),j < m→(mget ([]:List Int) r.table.l hh)[j]?=some (i:Int)→L[i]?≠some s) (fun res=>∃ i:Nat,L[i]?=some s∧res=(ws,hh,(i:Int),⟨0⟩)) (fun j i hj=>by omega) ?_ ?_ ?_
    · intro m a _ hm hI
      obtain ⟨i,rfl,hi⟩:=h.val hh a (List.mem_of_getElem? hm)
      obtain ⟨e,he⟩:=AH (l:=r.entries) (k:=i) (by rw [h.len];exact hi)
      obtain ⟨s',hs'⟩:=AH (l:=L) (k:=i) hi
      have hw:=h.words i s' e hs' he
      rw [Bk,he,AA,Pg,AA]
      by_cases hew:e.words=ws
      · rw [decide_eq_true hew,if_t]
        rw [hew] at hw
        have:=ND h.pk hl (h.st i s' hs') hs hw p1
        subst this
        exact .inr ⟨_,rfl,i,hs',rfl⟩
      · rw [decide_eq_false hew,if_f]
        refine .inl ⟨(),rfl,fun j i' hj hi'=>?_⟩
        by_cases e1:j=m
        · subst e1
          rw [hm] at hi'
          have e2:i=i':=by have:=Option.some.inj hi';omega
          subst e2
          intro hL
          rw [hL] at hs'
          obtain rfl:=Option.some.inj hs'
          rw [p1] at hw
          exact hew (congrArg Prod.fst (Option.some.inj hw)).symm
        · exact hI j i' (by omega) hi'
    · intro _ hI
      refine ⟨_,rfl,.inr ⟨fun i hL=>?_,rfl⟩⟩
      obtain ⟨e,he⟩:=AH (l:=r.entries) (k:=i) (by rw [h.len];exact AJ hL)
      have hw:=h.words i s e hL he
      rw [p1] at hw
      have hwe:ws=e.words:=congrArg Prod.fst (Option.some.inj hw)
      obtain ⟨h',t1,t2⟩:=h.tab i e he
      rw [← hwe,hhe] at t1
      obtain rfl:=Option.some.inj t1
      obtain ⟨j,hj⟩:=List.getElem?_of_mem t2
      exact hI j i (AJ hj) hj hL
    · rintro q ⟨i,hi,rfl⟩
      exact ⟨_,rfl,.inl ⟨i,hi,rfl⟩⟩
  obtain ⟨res,k1,k2⟩:=key
  rcases k2 with ⟨i,hi,rfl⟩|⟨hn,rfl⟩
  · exact .inl ⟨i,hi,k1⟩
  · exact .inr ⟨hn,k1⟩
theorem JZ {vars:List Int} (hl:vars.length≤64) {r:Reg} {L:List (List Int)} (h:RegI vars r L) {s:List Int} (hs:StateOk vars s) (hL:L.length < 65536) :
    (∃ i:Nat,L[i]?=some s∧Bj r s=some ((i:Int),false,⟨0⟩,r))∨((∀ i:Nat,L[i]?≠some s)∧∃ r',Bj r s=some ((L.length:Int),true,⟨0⟩,r')∧RegI vars r' (L ++ [s])∧links r'=links r ++ [⟨-1,-1,0⟩]):=by
  obtain ⟨ws,hh,p1,p2,hf⟩:=Mn hl h hs
  unfold Bj
  have hlen:=h.len
  rcases hf with ⟨i,hi,hf⟩|⟨hno,hf⟩
  · refine .inl ⟨i,hi,?_⟩
    rw [hf,AA,if_neg (by simp),if_pos (by dsimp only;omega)]
  · refine .inr ⟨hno,?_⟩
    have hfew:=h.few hh
    rw [hf,AA,if_neg (by simp),if_neg (by dsimp only;omega),if_neg (by omega)]
    dsimp only
    rw [BR (by simp;omega) (by simp;omega),AA,BR (by simp;omega) (by simp;omega),AA,hlen]
    have hget:∀ k,mget ([]:List Int) (mput r.table.l hh (mget ([]:List Int) r.table.l hh ++ [(L.length:Int)])) k=if hh=k then mget ([]:List Int) r.table.l hh ++ [(L.length:Int)] else mget ([]:List Int) r.table.l k:=fun k=>JY _ _ _ _ _
    refine ⟨_,rfl,⟨h.pk,by simp [hlen],?_,?_,?_,?_,?_,?_⟩,by simp [links]⟩
    · intro i s' hi
      rcases CW hi with hi|⟨_,rfl⟩
      · exact h.st i s' hi
      · exact hs
    · intro i s' e hi he
      rcases CW hi with hi|⟨hi,rfl⟩
      · rcases CW he with he|⟨he,_⟩
        · exact h.words i s' e hi he
        · have:=AJ hi;omega
      · rcases CW he with he|⟨he,rfl⟩
        · have:=AJ he;omega
        · exact p1
    · intro i j s' hi hj
      rcases CW hi with hi2|⟨hi2,hs2⟩
      · rcases CW hj with hj2|⟨hj2,hs2⟩
        · exact h.nodup i j s' hi2 hj2
        · exact absurd (hs2 ▸ hi2) (hno i)
      · rcases CW hj with hj2|⟨hj2,_⟩
        · exact absurd (hs2 ▸ hj2) (hno j)
        · omega
    · intro i e he
      rcases CW he with he|⟨hi,rfl⟩
      · obtain ⟨k,k1,k2⟩:=h.tab i e he
        refine ⟨k,k1,?_⟩
        dsimp only
        rw [hget]
        by_cases e1:hh=k
        · subst e1;rw [if_pos rfl];exact List.mem_append_left _ k2
        · rw [if_neg e1];exact k2
      · refine ⟨hh,p2,?_⟩
        dsimp only
        rw [hget,if_pos rfl,hi,hlen]
        simp
    · intro k a ha
      dsimp only at ha
      rw [hget] at ha
      simp only [List.length_append,List.length_singleton]
      by_cases e1:hh=k
      · rw [if_pos e1] at ha
        rcases List.mem_append.1 ha with ha|ha
        · obtain ⟨i,h1,h2⟩:=h.val hh a ha;exact ⟨i,h1,by omega⟩
        · exact ⟨L.length,by simpa using ha,by omega⟩
      · rw [if_neg e1] at ha
        obtain ⟨i,h1,h2⟩:=h.val k a ha;exact ⟨i,h1,by omega⟩
    · intro k
      dsimp only
      rw [hget]
      have:=h.few k
      simp only [List.length_append,List.length_singleton]
      by_cases e1:hh=k
      · rw [if_pos e1];simp;omega
      · rw [if_neg e1];omega
theorem Gh {vars:List Int} {r:Reg} {L:List (List Int)} (h:RegI vars r L) {i:Nat} (hi:i < L.length):Ba r (i:Int)=some true:=by
  unfold Ba
  rw [if_pos (by omega),if_pos (by rw [h.len];omega)]
  rfl
theorem Lz {vars:List Int} (hl:vars.length≤64) {r:Reg} {L:List (List Int)} (h:RegI vars r L) {i:Nat} {s:List Int} (hi:L[i]?=some s):Bu r (i:Int)=some (s,⟨0⟩):=by
  obtain ⟨e,he⟩:=AH (l:=r.entries) (k:=i) (by rw [h.len];exact AJ hi)
  have hs:=h.st i s hi
  obtain ⟨⟨ws,er⟩,p1,p2,p3,p4⟩:=Ig h.pk hl hs
  have hw:=h.words i s e hi he
  rw [p1] at hw
  have hwe:ws=e.words:=congrArg Prod.fst (Option.some.inj hw)
  dsimp only at p3 p4
  rw [hwe] at p3 p4
  unfold Bu
  rw [Gh h (AJ hi),AA,if_t,Bk,he,AA,HS h.pk hl hs p3 p4,AA]
theorem Jn {vars:List Int} {r:Reg} {L:List (List Int)} (h:RegI vars r L) {i:Nat} (hi:i < L.length) {p o c:Int} (hp:p=-1∨∃ j:Nat,p=(j:Int)∧j < L.length):∃ r',Bn r (i:Int) p o c=some (⟨0⟩,r')∧RegI vars r' L∧links r'=(links r).set i ⟨p,o,c⟩:=by
  obtain ⟨e,he⟩:=AH (l:=r.entries) (k:=i) (by rw [h.len];exact hi)
  unfold Bn
  have hcond:(bnd (Ba r (i:Int)) fun q10=>if q10=true then if p≠(-1) then (bnd (Ba r p) fun q20=>if q20=true then some false else some true) else (some false) else some true:Option Bool)=some false:=by
    rw [Gh h hi,AA,if_t]
    rcases hp with rfl|⟨j,rfl,hj⟩
    · rfl
    · rw [if_pos (by omega),Gh h hj];rfl
  rw [hcond,AA,if_f,Bk,he,AA]
  have hge:∀ (j:Nat) x,(r.entries.set ((i:Int)).toNat ({ e with link:=(⟨p,o,c⟩:RLk) }:REn))[j]?=some x→∃ y,r.entries[j]?=some y∧x.words=y.words:=by
    intro j x hx
    rw [Int.toNat_natCast] at hx
    by_cases e1:i=j
    · subst e1
      rw [List.getElem?_set_self (AJ he)] at hx
      obtain rfl:=Option.some.inj hx
      exact ⟨e,he,rfl⟩
    · rw [List.getElem?_set_ne e1] at hx
      exact ⟨x,hx,rfl⟩
  refine ⟨_,rfl,⟨h.pk,by simp [h.len],h.st,?_,h.nodup,?_,h.val,h.few⟩,?_⟩
  · intro j s x hj hx
    obtain ⟨y,hy,hxy⟩:=hge j x hx
    rw [hxy];exact h.words j s y hj hy
  · intro j x hx
    obtain ⟨y,hy,hxy⟩:=hge j x hx
    rw [hxy];exact h.tab j y hy
  · simp [links,List.map_set]
theorem Ph {xs:List Int} (hl:xs.length≤1000000):Bv xs=some xs.reverse:=by
  unfold Bv
  rw [Bl (by unfold inI64;omega),AA]
  refine Of (fun s=>∃ i:Nat,s.2.1=(i:Int)∧s.2.1 + s.2.2=(xs.length:Int) - 1∧i≤xs.length∧s.1.length=xs.length∧∀ k:Nat,k < xs.length→s.1[k]?=if k < i∨xs.length - 1 - k < i then xs[xs.length - 1 - k]? else xs[k]?) (fun s=>s.1=xs.reverse) (fun s=>(s.2.2 - s.2.1 + 1).toNat) ⟨0,rfl,by dsimp only;omega,by omega,rfl,fun k hk=>by rw [if_neg (by omega)]⟩ ?_ (fun s hs=>by rw [fin_d,hs])
  rintro ⟨ys,i',j⟩ ⟨i,hi,hij,hil,hlen,hg⟩
  dsimp only at hi hij hlen hg ⊢
  subst hi
  by_cases hlt:(i:Int) < j
  · obtain ⟨jn,rfl⟩:∃ jn:Nat,j=(jn:Int):=⟨j.toNat,by omega⟩
    obtain ⟨a,ha⟩:=AH (l:=ys) (k:=jn) (by omega)
    obtain ⟨b,hb⟩:=AH (l:=ys) (k:=i) (by omega)
    rw [if_pos hlt,Bk,ha,AA,Bk,hb,AA,AA,Int.toNat_natCast,Int.toNat_natCast,Bk,List.getElem?_set_ne (by omega),ha,AA,Bl (by unfold inI64;omega),AA,Bl (by unfold inI64;omega),AA]
    refine .inl ⟨_,rfl,⟨i + 1,by dsimp only;omega,by dsimp only;omega,by omega,by simp [hlen],fun k hk=>?_⟩,by dsimp only;omega⟩
    dsimp only
    have hga:=hg jn (by omega)
    rw [ha,if_neg (by omega)] at hga
    have hgb:=hg i (by omega)
    rw [hb,if_neg (by omega)] at hgb
    by_cases e1:k=jn
    · subst e1
      rw [List.getElem?_set_self (by simp;omega),if_pos (by omega),hgb]
      congr 1;omega
    · rw [List.getElem?_set_ne (by omega)]
      by_cases e2:k=i
      · subst e2
        rw [List.getElem?_set_self (by omega),if_pos (by omega),hga]
        congr 1;omega
      · rw [List.getElem?_set_ne (by omega),hg k hk]
        by_cases e3:k < i∨xs.length - 1 - k < i
        · rw [if_pos e3,if_pos (by omega)]
        · rw [if_neg e3,if_neg (by omega)]
  · rw [if_neg hlt]
    refine .inr ⟨_,rfl,?_⟩
    dsimp only
    apply List.ext_getElem?
    intro k
    rcases Nat.lt_or_ge k xs.length with hk|hk
    · rw [List.getElem?_reverse hk,hg k hk]
      by_cases e3:k < i∨xs.length - 1 - k < i
      · rw [if_pos e3]
      · rw [if_neg e3];congr 1;omega
    · rw [List.getElem?_eq_none (by omega),List.getElem?_eq_none (by simp;omega)]
inductive PathL (lk:List RLk):Nat→List Int→Prop
  | root {i:Nat} {k:RLk}:lk[i]?=some k→k.parent < 0→PathL lk i []
  | step {i j:Nat} {k:RLk} {p:List Int}:lk[i]?=some k→k.parent=(j:Int)→PathL lk j p→PathL lk i (p ++ [k.op])
theorem Ol {vars:List Int} {r:Reg} {L:List (List Int)} (h:RegI vars r L) (hL:L.length≤65536) {i:Nat} {p:List Int} (hp:PathL (links r) i p) (hl:p.length≤L.length):BL r (i:Int)=some (p,⟨0⟩):=by
  have hget:∀ {i:Nat} {k:RLk},(links r)[i]?=some k→∃ e:REn,r.entries[i]?=some e∧e.link=k:=by
    intro i k hk
    unfold links at hk
    rw [List.getElem?_map] at hk
    cases he:r.entries[i]? with
    | none=>rw [he] at hk;cases hk
    | some e=>rw [he] at hk;exact ⟨e,rfl,by simpa using hk⟩
  have hil:i < L.length:=by
    have:∃ k,(links r)[i]?=some k:=by cases hp with|root h1 _=>exact ⟨_,h1⟩|step h1 _ _=>exact ⟨_,h1⟩
    obtain ⟨k,hk⟩:=this
    obtain ⟨e,he,_⟩:=hget hk
    rw [← h.len];exact AJ he
  unfold BL
  rw [Gh h hil,AA,if_t]
  have key:∀ {i p},PathL (links r) i p→∀ acc:List Int,acc.length + p.length≤L.length→lop (ρ:=(List Int)×Err) (fun (s14:Int×(List Int))=>bnd (atI r.entries s14.1) fun a48=>if a48.link.parent < 0 then (bnd (Bv s14.2) fun q74=>some (.ret (q74,(⟨0⟩:Err)))) else (bnd (appI 8 s14.2 [a48.link.op]) fun u89=>if (r.entries.length:Int) < (u89.length:Int) then (some (.ret (([]:List Int),(⟨21⟩:Err)))) else (some (.next (a48.link.parent,u89))))) ((i:Int),acc)=some (.ret (p ++ acc.reverse,⟨0⟩)):=by
    intro i p hp
    induction hp with
    | root h1 h2 =>
      intro acc ha
      obtain ⟨e,he,rfl⟩:=hget h1
      rw [DL]
      dsimp only
      rw [Bk,he,AA,if_pos h2,Ph (by omega),AA]
      rfl
    | @step i j k p h1 h2 _ ih =>
      intro acc ha
      obtain ⟨e,he,rfl⟩:=hget h1
      simp at ha
      rw [DL]
      dsimp only
      rw [Bk,he,AA,if_neg (by omega),BR (by simp;omega) (by simp;omega),AA,if_neg (by rw [h.len];simp;omega),h2]
      dsimp only
      rw [ih (acc ++ [e.link.op]) (by simp;omega)]
      simp
  rw [key hp [] (by simpa using hl),AA]
  simp [fin]
end
section
open Go Go.RowKit
inductive Rch (t:Tsk):List Int→Prop
  | init:Rch t t.init
  | step {s:List Int} {k:Nat} {o:Opr}:Rch t s→t.ops[k]?=some o→holdsB o.pre s=true→Rch t (succ o s)
theorem Rch.ok {t:Tsk} (h:TaskOk t) {s:List Int} (hr:Rch t s):StateOk t.vars s:=by
  induction hr with
  | init=>exact h.2.2.2.1
  | step _ ho _ ih=>exact If h ih ho
theorem PlanR.snoc {t:Tsk} {s p s':List Int} {C:Int} (h:PlanR t s p s' C) {k:Nat} {o:Opr} (ho:t.ops[k]?=some o) (hp:holdsB o.pre s'=true):PlanR t s (p ++ [(k:Int)]) (succ o s') (C + o.cost):=by
  induction h with
  | nil=>have:=PlanR.cons ho hp (PlanR.nil (t:=t) (s:=succ o _));simpa [Int.add_comm] using this
  | cons ho' hp' _ ih=>have:=PlanR.cons ho' hp' (ih hp);rw [Int.add_assoc];exact this
theorem PlanR.walk {t:Tsk} {s p s':List Int} {C:Int} (h:PlanR t s p s' C) (hg:holdsB t.goal s'=true):Walk t s C:=by
  induction h with
  | nil=>exact .goal hg
  | cons ho hp _ ih=>have:=Walk.step ho hp (ih hg);rwa [Int.add_comm] at this
inductive WalkS (t:Tsk) (sel:List Int→List Int):List Int→Int→Prop
  | goal {s:List Int}:holdsB t.goal s=true→WalkS t sel s 0
  | step {s:List Int} {k:Nat} {o:Opr} {C:Int}:t.ops[k]?=some o→(k:Int)∈sel s→WalkS t sel (succ o s) C→WalkS t sel s (C + o.cost)
theorem Nd {t:Tsk} (h:TaskOk t) {sel:List Int→List Int} {s:List Int} {C:Int} (hw:WalkS t sel s C):0≤C:=by
  induction hw with
  | goal _=>omega
  | @step s k o C ho _ _ ih=>have:=(h.2.2.2.2.2 k o ho).1;omega
def UpL {α:Type} (i:Nat) (x:α) (l l':List α):Prop:=l'[i]?=some x∧∀ j,j≠i→l'[j]?=l[j]?
theorem LU {α:Type} {i:Nat} {x:α} {l:List α} (h:i < l.length):UpL i x l (l.set i x):=⟨List.getElem?_set_self h,fun j hj=>List.getElem?_set_ne (by omega)⟩
theorem KT {α:Type} {i:Nat} {x:α} {l:List α} (h:l[i]?=some x):UpL i x l l:=⟨h,fun _ _=>rfl⟩
theorem Ih {α:Type} {x:α} {l:List α}:UpL l.length x l (l ++ [x]):=⟨by simp,fun j hj=>by
  rcases Nat.lt_or_ge j l.length with h|h
  · exact List.getElem?_append_left h
  · rw [List.getElem?_append_right h,List.getElem?_eq_none (l:=l) h,List.getElem?_eq_none (by simp;omega)]⟩
def cnt (l:List Bool):Nat:=(l.filter id).length
theorem Nf (l:List Bool):cnt l≤l.length:=List.length_filter_le _ _
theorem Om (l:List Bool):cnt (l ++ [false])=cnt l:=by simp [cnt]
theorem LV:∀ {l:List Bool} {i:Nat},l[i]?=some false→cnt (l.set i true)=cnt l + 1
  | [],i,h=>by simp at h
  | b :: l,0,h=>by simp at h;subst h;simp [cnt]
  | b :: l,i + 1,h=>by
    have:=LV (l:=l) (i:=i) (by simpa using h)
    simp only [cnt] at this ⊢
    cases b<;>simp [this]
theorem LW:∀ {l:List Bool} {i:Nat},l[i]?=some true→0 < cnt l
  | [],i,h=>by simp at h
  | b :: l,0,h=>by simp at h;subst h;simp [cnt]
  | b :: l,i + 1,h=>by
    have:=LW (l:=l) (i:=i) (by simpa using h)
    unfold cnt at this ⊢
    rw [List.filter_cons]
    split
    · simp
    · exact this
structure SrI (t:Tsk) (sel:List Int→List Int) (D:Nat→Int→Prop) (L:List (List Int)) (lk:List RLk) (g:List Int) (fn:List Bool) (hp:List QEn) (ord:Nat→Nat) (E:Nat):Prop where
  root:L[0]?=some t.init
  root0:g[0]?=some 0
  lenk:lk.length=L.length
  leng:g.length=L.length
  lenf:fn.length=L.length
  link:∀ (i:Nat) s k c,L[i]?=some s→lk[i]?=some k→g[i]?=some c→(i=0∧k.parent=-1∧c=0)∨∃ (p q:Nat) (o:Opr) (s':List Int) (c':Int),k.parent=(p:Int)∧k.op=(q:Int)∧t.ops[q]?=some o∧L[p]?=some s'∧fn[p]?=some true∧holdsB o.pre s'=true∧succ o s'=s∧g[p]?=some c'∧c=c' + o.cost∧(fn[i]?=some true→ord p < ord i)
  ordl:∀ i:Nat,fn[i]?=some true→ord i < E
  lower:∀ (j:Nat) c,fn[j]?=some true→g[j]?=some c→∀ e∈hp,c≤e.key
  ent:∀ e∈hp,∃ i:Nat,e.item=(i:Int)∧i < L.length∧∀ c,g[i]?=some c→c≤e.key
  opn:∀ (i:Nat) c,fn[i]?=some false→g[i]?=some c→∃ e∈hp,e.key=c∧e.item=(i:Int)
  bound:∀ (i:Nat) c,g[i]?=some c→0≤c∧c≤(E:Int) * 1048576
  nogoal:∀ (j:Nat) s,fn[j]?=some true→L[j]?=some s→holdsB t.goal s=false
  rel:∀ (j:Nat) s q,fn[j]?=some true→L[j]?=some s→q∈sel s→D j q→∃ (k:Nat) (o:Opr) (i:Nat) (c c':Int),q=(k:Int)∧t.ops[k]?=some o∧L[i]?=some (succ o s)∧g[j]?=some c∧g[i]?=some c'∧c'≤c + o.cost
  num:cnt fn=E
  rch:∀ (i:Nat) s,L[i]?=some s→Rch t s
  first:0 < E→fn[0]?=some true
section
variable {t : Tsk} {sel : List Int → List Int} {D : Nat → Int → Prop} {L L' : List (List Int)} {lk lk' : List RLk} {g g' : List Int} {fn fn' : List Bool} {hp hp' : List QEn} {ord : Nat → Nat} {E : Nat}
theorem SrI.upd (h:SrI t sel D L lk g fn hp ord E) (hok:TaskOk t) {i p q:Nat} {o:Opr} {s sp:List Int} {x cp lc:Int} {e:QEn} (hL:UpL i s L L') (hk:UpL i ⟨(p:Int),(q:Int),lc⟩ lk lk') (hg:UpL i x g g') (hf:UpL i false fn fn') (hh:hp'.Perm (e :: hp)) (ek:e.key=x) (ei:e.item=(i:Int))
    (l1:lk'.length=L'.length) (l2:g'.length=L'.length) (l3:fn'.length=L'.length) (l4:L.length≤L'.length) (hc:cnt fn'=cnt fn) (hi:L[i]?=none∨(L[i]?=some s∧fn[i]?=some false∧∀ c,g[i]?=some c→x < c))
    (ho:t.ops[q]?=some o) (hsp:L[p]?=some sp) (hfp:fn[p]?=some true) (hpre:holdsB o.pre sp=true) (hs:succ o sp=s) (hgp:g[p]?=some cp) (hx:x=cp + o.cost) (hmax:∀ (j:Nat) c,fn[j]?=some true→g[j]?=some c→c≤cp) (hxE:x≤(E:Int) * 1048576) :
    SrI t sel D L' lk' g' fn' hp' ord E:=by
  have hoc:=(hok.2.2.2.2.2 q o ho).1
  have hcp:=(h.bound p cp hgp).1
  have hfin:∀ j:Nat,fn[j]?=some true→j≠i:=fun j hj e=>by
    subst e
    rcases hi with hn|⟨_,hn,_⟩
    · have:=AJ hj
      rw [h.lenf] at this
      rw [List.getElem?_eq_none_iff] at hn
      omega
    · rw [hj] at hn;cases hn
  have hfin':∀ j:Nat,fn'[j]?=some true→j≠i∧fn[j]?=some true:=fun j hj=>by
    have hne:j≠i:=fun e=>by subst e;rw [hf.1] at hj;cases hj
    exact ⟨hne,by rw [← hf.2 j hne];exact hj⟩
  have h0:(0:Nat)≠i:=fun e=>by
    subst e
    rcases hi with hn|⟨_,_,hn⟩
    · rw [h.root] at hn;cases hn
    · have:=hn 0 h.root0;omega
  have hpi:=hfin p hfp
  have hiL:i < L'.length:=AJ hL.1
  refine ⟨by rw [hL.2 0 h0];exact h.root,by rw [hg.2 0 h0];exact h.root0,l1,l2,l3,?_,?_,?_,?_,?_,?_,?_,?_,by rw [hc];exact h.num,?_,?_⟩
  · intro j s' k c hs' hk' hc'
    by_cases e1:j=i
    · subst e1
      rw [hL.1] at hs'
      rw [hk.1] at hk'
      rw [hg.1] at hc'
      obtain rfl:=Option.some.inj hs'
      obtain rfl:=Option.some.inj hk'
      obtain rfl:=Option.some.inj hc'
      exact .inr ⟨p,q,o,sp,cp,rfl,rfl,ho,by rw [hL.2 p hpi];exact hsp,by rw [hf.2 p hpi];exact hfp,hpre,hs,by rw [hg.2 p hpi];exact hgp,hx,fun hh=>by rw [hf.1] at hh;cases hh⟩
    · rw [hL.2 j e1] at hs'
      rw [hk.2 j e1] at hk'
      rw [hg.2 j e1] at hc'
      rcases h.link j s' k c hs' hk' hc' with hh|⟨p',q',o',sp',c',a1,a2,a3,a4,a5,a6,a7,a8,a9,a10⟩
      · exact .inl hh
      · have hne:=hfin p' a5
        exact .inr ⟨p',q',o',sp',c',a1,a2,a3,by rw [hL.2 p' hne];exact a4,by rw [hf.2 p' hne];exact a5,a6,a7,by rw [hg.2 p' hne];exact a8,a9,fun hh=>a10 (hfin' j hh).2⟩
  · exact fun j hj=>h.ordl j (hfin' j hj).2
  · intro j c hj hcj e' he'
    obtain ⟨hne,hj⟩:=hfin' j hj
    rw [hg.2 j hne] at hcj
    rcases List.mem_cons.1 (hh.mem_iff.1 he') with rfl|hm
    · have:=hmax j c hj hcj;omega
    · exact h.lower j c hj hcj e' hm
  · intro e' he'
    rcases List.mem_cons.1 (hh.mem_iff.1 he') with rfl|hm
    · exact ⟨i,ei,hiL,fun c hc=>by rw [hg.1] at hc;have:=Option.some.inj hc;omega⟩
    · obtain ⟨j,j1,j2,j3⟩:=h.ent e' hm
      refine ⟨j,j1,by omega,fun c hc=>?_⟩
      by_cases e1:j=i
      · subst e1
        rw [hg.1] at hc
        obtain rfl:=Option.some.inj hc
        rcases hi with hn|⟨_,_,hn⟩
        · rw [List.getElem?_eq_none_iff] at hn;omega
        · obtain ⟨c0,hc0⟩:=AH (l:=g) (k:=j) (by rw [h.leng];exact j2)
          have:=j3 c0 hc0
          have:=hn c0 hc0
          omega
      · rw [hg.2 j e1] at hc;exact j3 c hc
  · intro j c hj hcj
    by_cases e1:j=i
    · subst e1
      rw [hg.1] at hcj
      obtain rfl:=Option.some.inj hcj
      exact ⟨e,hh.mem_iff.2 List.mem_cons_self,ek,ei⟩
    · rw [hf.2 j e1] at hj
      rw [hg.2 j e1] at hcj
      obtain ⟨e',m,r⟩:=h.opn j c hj hcj
      exact ⟨e',hh.mem_iff.2 (List.mem_cons_of_mem _ m),r⟩
  · intro j c hcj
    by_cases e1:j=i
    · subst e1
      rw [hg.1] at hcj
      obtain rfl:=Option.some.inj hcj
      omega
    · rw [hg.2 j e1] at hcj;exact h.bound j c hcj
  · intro j s' hj hs'
    obtain ⟨hne,hj⟩:=hfin' j hj
    rw [hL.2 j hne] at hs'
    exact h.nogoal j s' hj hs'
  · intro j s' q' hj hs' hq hD
    obtain ⟨hne,hj⟩:=hfin' j hj
    rw [hL.2 j hne] at hs'
    obtain ⟨k,o',i',c,c',a1,a2,a3,a4,a5,a6⟩:=h.rel j s' q' hj hs' hq hD
    by_cases e1:i'=i
    · subst e1
      rcases hi with hn|⟨hn1,_,hn⟩
      · rw [hn] at a3;cases a3
      · rw [hn1] at a3
        have:=hn c' a5
        exact ⟨k,o',i',c,x,a1,a2,by rw [hL.1];exact a3,by rw [hg.2 j hne];exact a4,hg.1,by omega⟩
    · exact ⟨k,o',i',c,c',a1,a2,by rw [hL.2 i' e1];exact a3,by rw [hg.2 j hne];exact a4,by rw [hg.2 i' e1];exact a5,a6⟩
  · intro j s' hs'
    by_cases e1:j=i
    · subst e1
      rw [hL.1] at hs'
      obtain rfl:=Option.some.inj hs'
      rw [← hs]
      exact (h.rch p sp hsp).step ho hpre
    · rw [hL.2 j e1] at hs';exact h.rch j s' hs'
  · intro hE
    rw [hf.2 0 h0];exact h.first hE
theorem SrI.drop (h:SrI t sel D L lk g fn hp ord E) {e:QEn} (hh:hp.Perm (e :: hp')) {i:Nat} (hi:e.item=(i:Int)) (hd:fn[i]?=some true∨g[i]?≠some e.key):SrI t sel D L lk g fn hp' ord E :=
  { h with
    lower:=fun j c hj hc e' he'=>h.lower j c hj hc e' (hh.mem_iff.2 (List.mem_cons_of_mem _ he'))
    ent:=fun e' he'=>h.ent e' (hh.mem_iff.2 (List.mem_cons_of_mem _ he'))
    opn := fun j c hj hc=>by
      obtain ⟨e',m,k1,k2⟩:=h.opn j c hj hc
      rcases List.mem_cons.1 (hh.mem_iff.1 m) with rfl|hm
      · exfalso
        have e1:i=j:=by omega
        subst e1
        rcases hd with hd|hd
        · rw [hj] at hd;cases hd
        · exact hd (by rw [k1];exact hc)
      · exact ⟨e',hm,k1,k2⟩ }
theorem SrI.mark (h:SrI t sel (fun _ _=>True) L lk g fn hp ord E) {e:QEn} (hh:hp.Perm (e :: hp')) (hmin:∀ x∈hp,nb x e) {i:Nat} {s:List Int} (hi:e.item=(i:Int)) (hf:fn[i]?=some false) (hc:g[i]?=some e.key) (hs:L[i]?=some s) (hg:holdsB t.goal s=false) :
    SrI t sel (fun j _=>j≠i) L lk g (fn.set i true) hp' (fun j=>if j=i then E else ord j) (E + 1):=by
  have hil:=AJ hf
  have hset:∀ j:Nat,(fn.set i true)[j]?=some true→j=i∨(j≠i∧fn[j]?=some true):=fun j hj=>by
    by_cases e1:j=i
    · exact .inl e1
    · rw [List.getElem?_set_ne (by omega)] at hj;exact .inr ⟨e1,hj⟩
  have hkeep:∀ j:Nat,fn[j]?=some true→j≠i∧(fn.set i true)[j]?=some true:=fun j hj=>by
    have hne:j≠i:=fun e1=>by subst e1;rw [hf] at hj;cases hj
    exact ⟨hne,by rw [List.getElem?_set_ne (by omega)];exact hj⟩
  refine ⟨h.root,h.root0,h.lenk,h.leng,by simp [h.lenf],?_,?_,?_,?_,?_,?_,?_,?_,by rw [LV hf,h.num],h.rch,?_⟩
  · intro j s' k c hs' hk' hc'
    rcases h.link j s' k c hs' hk' hc' with hh|⟨p',q',o',sp',c',a1,a2,a3,a4,a5,a6,a7,a8,a9,a10⟩
    · exact .inl hh
    · obtain ⟨hne,hp2⟩:=hkeep p' a5
      refine .inr ⟨p',q',o',sp',c',a1,a2,a3,a4,hp2,a6,a7,a8,a9,fun hj=>?_⟩
      rw [if_neg hne]
      rcases hset j hj with rfl|⟨hne2,hj2⟩
      · rw [if_pos rfl];exact h.ordl p' a5
      · rw [if_neg hne2];exact a10 hj2
  · intro j hj
    rcases hset j hj with rfl|⟨hne2,hj2⟩
    · rw [if_pos rfl];omega
    · rw [if_neg hne2];have:=h.ordl j hj2;omega
  · intro j c hj hcj e' he'
    have hm:e'∈hp:=hh.mem_iff.2 (List.mem_cons_of_mem _ he')
    rcases hset j hj with rfl|⟨_,hj2⟩
    · rw [hc] at hcj
      obtain rfl:=Option.some.inj hcj
      exact KQ (hmin e' hm)
    · exact h.lower j c hj2 hcj e' hm
  · exact fun e' he'=>h.ent e' (hh.mem_iff.2 (List.mem_cons_of_mem _ he'))
  · intro j c hj hcj
    have hne:j≠i:=fun e1=>by subst e1;rw [List.getElem?_set_self hil] at hj;cases hj
    rw [List.getElem?_set_ne (by omega)] at hj
    obtain ⟨e',m,k1,k2⟩:=h.opn j c hj hcj
    rcases List.mem_cons.1 (hh.mem_iff.1 m) with rfl|hm
    · omega
    · exact ⟨e',hm,k1,k2⟩
  · intro j c hcj
    have:=h.bound j c hcj
    omega
  · intro j s' hj hs'
    rcases hset j hj with rfl|⟨_,hj2⟩
    · rw [hs] at hs';obtain rfl:=Option.some.inj hs';exact hg
    · exact h.nogoal j s' hj2 hs'
  · intro j s' q hj hs' hq hD
    rcases hset j hj with rfl|⟨_,hj2⟩
    · exact absurd rfl hD
    · exact h.rel j s' q hj2 hs' hq trivial
  · intro _
    by_cases h0:i=0
    · subst h0;exact List.getElem?_set_self hil
    · have hE:0 < E:=by
        obtain ⟨k,hk⟩:=AH (l:=lk) (k:=i) (by rw [h.lenk,← h.lenf];exact hil)
        rcases h.link i s k _ hs hk hc with ⟨hh,_⟩|⟨p',_,_,_,_,_,_,_,_,a5,_⟩
        · exact absurd hh h0
        · rw [← h.num];exact LW a5
      exact (hkeep 0 (h.first hE)).2
theorem SrI.front (h:SrI t sel (fun _ _=>True) L lk g fn hp ord E) (hok:TaskOk t) {s:List Int} {C:Int} (hw:WalkS t sel s C):∀ (i:Nat) c,L[i]?=some s→g[i]?=some c→∃ e∈hp,e.key≤c + C:=by
  induction hw with
  | @goal s hg =>
    intro i c hi hc
    obtain ⟨b,hb⟩:=AH (l:=fn) (k:=i) (by rw [h.lenf];exact AJ hi)
    cases b with
    | false=>obtain ⟨e,m,k1,_⟩:=h.opn i c hb hc;exact ⟨e,m,by omega⟩
    | true=>have:=h.nogoal i s hb hi;rw [hg] at this;cases this
  | @step s k o C ho hk hw ih =>
    intro i c hi hc
    have h1:=Nd hok hw
    have h2:=(hok.2.2.2.2.2 k o ho).1
    obtain ⟨b,hb⟩:=AH (l:=fn) (k:=i) (by rw [h.lenf];exact AJ hi)
    cases b with
    | false=>obtain ⟨e,m,k1,_⟩:=h.opn i c hb hc;exact ⟨e,m,by omega⟩
    | true =>
      obtain ⟨k',o',i',c0,c',a1,a2,a3,a4,a5,a6⟩:=h.rel i s _ hb hi hk trivial
      have e1:k=k':=by omega
      subst e1
      rw [ho] at a2
      obtain rfl:=Option.some.inj a2
      rw [hc] at a4
      obtain rfl:=Option.some.inj a4
      obtain ⟨e,m,k1⟩:=ih i' c' a3 a5
      exact ⟨e,m,by omega⟩
theorem SrI.pathF (h:SrI t sel D L lk g fn hp ord E):∀ (n i:Nat) s c,ord i < n→fn[i]?=some true→L[i]?=some s→g[i]?=some c→∃ p,PathL lk i p∧PlanR t t.init p s c∧p.length≤ord i:=by
  intro n
  induction n with
  | zero=>intro i s c hn;omega
  | succ n ih =>
    intro i s c hn hf hi hc
    obtain ⟨k,hk⟩:=AH (l:=lk) (k:=i) (by rw [h.lenk];exact AJ hi)
    rcases h.link i s k c hi hk hc with ⟨rfl,h1,rfl⟩|⟨p',q',o',sp',c',a1,a2,a3,a4,a5,a6,a7,a8,a9,a10⟩
    · rw [h.root] at hi
      obtain rfl:=Option.some.inj hi
      exact ⟨[],.root hk (by omega),.nil,by simp⟩
    · have ho:=a10 hf
      obtain ⟨p,b1,b2,b3⟩:=ih p' sp' c' (by omega) a5 a4 a8
      refine ⟨p ++ [k.op],.step hk a1 b1,?_,by simp;omega⟩
      rw [a2,a9,← a7]
      exact b2.snoc a3 a6
theorem SrI.path (h:SrI t sel D L lk g fn hp ord E) {i:Nat} {s:List Int} {c:Int} (hi:L[i]?=some s) (hc:g[i]?=some c):∃ p,PathL lk i p∧PlanR t t.init p s c∧p.length≤E:=by
  obtain ⟨k,hk⟩:=AH (l:=lk) (k:=i) (by rw [h.lenk];exact AJ hi)
  rcases h.link i s k c hi hk hc with ⟨rfl,h1,rfl⟩|⟨p',q',o',sp',c',a1,a2,a3,a4,a5,a6,a7,a8,a9,a10⟩
  · rw [h.root] at hi
    obtain rfl:=Option.some.inj hi
    exact ⟨[],.root hk (by omega),.nil,by simp⟩
  · have ho:=h.ordl p' a5
    obtain ⟨p,b1,b2,b3⟩:=h.pathF (ord p' + 1) p' sp' c' (by omega) a5 a4 a8
    refine ⟨p ++ [k.op],.step hk a1 b1,?_,by simp;omega⟩
    rw [a2,a9,← a7]
    exact b2.snoc a3 a6
theorem SrI.more (h:SrI t sel D L lk g fn hp ord E) {D':Nat→Int→Prop} {j₀:Nat} {q₀:Int} (hD:∀ j q,D' j q→D j q∨(j=j₀∧q=q₀)) {s:List Int} (hs:L[j₀]?=some s) {k:Nat} {o:Opr} {i:Nat} {c c':Int} (h1:q₀=(k:Int)) (h2:t.ops[k]?=some o) (h3:L[i]?=some (succ o s)) (h4:g[j₀]?=some c) (h5:g[i]?=some c') (h6:c'≤c + o.cost):SrI t sel D' L lk g fn hp ord E :=
  { h with
    rel := fun j s' q hj hs' hq hd=>by
      rcases hD j q hd with hd|⟨rfl,rfl⟩
      · exact h.rel j s' q hj hs' hq hd
      · rw [hs] at hs'
        obtain rfl:=Option.some.inj hs'
        exact ⟨k,o,i,c,c',h1,h2,h3,h4,h5,h6⟩ }
end
end
end Go.Proofs.YtafdmfhdjfkooaaGreat

/- Own text: what the proof of breadthCounters_holds uses, part 4: rules, models and their proofs, plain laws. -/
import Derived.Test.YthomfnkaicjmbaaPCouC
set_option linter.unusedVariables false
set_option linter.unusedSimpArgs false
namespace Go.Proofs.Ythomfnkaicjmbaa
open Go Go.RowKit
section
open Go Go.RowKit
section
attribute [local irreducible] ewp owp hwp hwq hws Ev Evg Fn retPost loud loudS Res1
noncomputable def AS (x0:Option Gnr) (x1:List Int):Option (List Suc) :=
  bnd (BL x0 x1) fun q7=>bnd (rng (ρ:=(List Suc)) (fun (k23:Nat) (a24:Int) (s21:(List Suc))=>bnd (Cm x1) fun q46=>bnd (x0) fun o56=>bnd (atI o56.t.ops a24) fun a88=>bnd (rng (ρ:=Ctl (List Suc) (List Suc)) (fun (k115:Nat) (a116:Eff) (s113:(List Int))=>bnd (Cq a116.cond x1) fun q150=>if q150=true then bnd (atI s113 a116.var) fun a157=>some (.next (s113.set (a116.var:Int).toNat a116.val)) else some (.next s113)) a88.effs 0 q46) fun res111=>fin res111 fun (s175:(List Int))=>bnd (appI 32 s21 [(⟨a24,s175⟩:Suc)]) fun u179=>some (.next u179)) q7 0 ([]:List Suc)) fun res19=>fin res19 fun (s195:(List Suc))=>some s195
theorem Cx {w:World} {A:Nat→Prop} (hA:∀ k,A k→k < w.heap.size) {vx0:Value} {x0:Option Gnr} (hx0:Vb w A vx0 x0) {vx1:Value} {x1:List Int} (hx1:Vb w A vx1 x1) {r:(List Suc)} (hm:AS x0 x1=some r) :
    Fn Try.prog 40 [vx0,vx1] w fun v w'=>Ext w w'∧Vb w' (upA A w w') v r:=by
 obtain ⟨O,hB,hA0⟩:=enter hA
 replace hx0:=hx0.mono hA0
 obtain ⟨p3,rfl,hq4⟩:=hx0.ptr
 replace hx1:=hx1.mono hA0
 obtain ⟨A5,c6,rfl⟩:=hx1.form
 refine AN Try.func40 rfl Try.ntmps40 rfl ?_
 unfold AS at hm
 refine Ah (Ae (o_as rfl rfl (o_z ?_)))
 refine Ah (Ae (o_as rfl rfl (o_z ?_)))
 refine Ah (Ah (Ae (o_mv rfl rfl (o_mv rfl rfl ?_))))
 obtain ⟨q7,e8,hm⟩:=bs hm
 refine Ha 2 (by decide) (O:=O) (EA Fr.lt hx0 hx1 e8) rfl rfl fun A14 c15 w9 O10 S11 h12=>?_
 refine o_ln rfl rfl ?_
 have l18:q7.length≤9223372036854775807:=Nat.le_trans h12.len.2.1 h12.len.2.2
 have r17:inI64 (q7.length:Int):=rngNat l18
 refine o_mv rfl rfl (o_z ?_)
 obtain ⟨res19,hL20,hm⟩:=bs hm
 refine AT (aft res19 (fun (s21:(List Suc)) (x22:(Option Addr×Nat))=>[(5,(.slice x22.1 s21.length x22.2))]) (fun s21 x22 w'=>∃ O':Lab,Bs w A w' O'∧Rw 5 w' O' 83 (.slice x22.1 s21.length x22.2) s21)) ?_ ?_
 ·
  refine Al ?_
  replace hB:=hB.st S11
  replace hx0:=hx0.st S11
  replace hx1:=hx1.st S11
  refine CC (σ:=(List Suc)) (X:=(Option Addr×Nat)) (q7.length) hL20 rfl l18 (fun (s21:(List Suc)) (x22:(Option Addr×Nat))=>[(0,(.pointer p3)),(1,(.slice A5 x1.length c6)),(5,(.slice x22.1 s21.length x22.2)),(13,(.slice A14 q7.length c15))]) _ (fun s21 x22 w'=>∃ O':Lab,Bs w A w' O'∧Vb w' (Fr 0 w' O') (.pointer p3) x0∧Vb w' (Fr 0 w' O') (.slice A5 x1.length c6) x1∧Rw 5 w' O' 83 (.slice x22.1 s21.length x22.2) s21∧Rw 2 w' O' 3 (.slice A14 q7.length c15) q7) _ (none,0) ⟨O10,hB,hx0,hx1,(Rw.nil 5 (by decide)),h12⟩ ⟨rfl,rfl,rfl,rfl,rfl,rfl,trivial⟩ (fun _ _=>⟨rfl,rfl⟩) (fun _ _=>⟨rfl,trivial⟩) (fun _ _ _ ⟨O',hB,hx0,hx1,h36,h12⟩=>⟨O',hB,h36⟩) ⟨rfl,rfl,rfl⟩ ⟨rfl,rfl⟩ ?_
  rintro k23 a24 s21 x22 w25 cc27 hx28 ⟨O26,hB,hx0,hx1,h36,h12⟩ hf29 hret30 hbrk31
  have rk23:inI64 (k23:Int):=rngK hx28 l18
  refine Ah (Ae ?_)
  obtain ⟨b38,o39,ce40,hA41,hl42,hd43,rfl,r45⟩:=h12.elem hx28
  refine o_iaE (hA:=hA41) (hj:=rfl) (hlt:=hl42) rfl rfl rfl ?_
  refine o_ld (hc:=cat0 hd43) rfl rfl ?_
  refine o_as rfl rfl (o_z ?_)
  refine Ah (Ae (o_mv rfl rfl ?_))
  obtain ⟨q46,e47,hf29⟩:=bs hf29
  refine Ha 3 (by decide) (O:=O26) (FE Fr.lt hx1 e47) rfl rfl fun A53 c54 w48 O49 S50 h51=>?_
  refine o_as rfl rfl (o_z ?_)
  refine Ah (Ah (Ae (o_mv rfl rfl ?_)))
  obtain ⟨o56,e57,hf29⟩:=bs hf29
  obtain ⟨ad59,hp58⟩:=Iz (hq4.trans (by rw [e57];rfl))
  refine o_ncE (hA:=hp58) rfl rfl ?_
  replace hx0:=hx0.st S50
  obtain ⟨b84,v67,v71,v75,v79,v83,hA85,hF86,hd87,h68,h72,h76,h80⟩:=Md hx0 e57
  obtain ⟨A69,c70,rfl⟩:=h68.form
  obtain ⟨A73,c74,rfl⟩:=h72.form
  obtain ⟨A77,c78,rfl⟩:=h76.form
  obtain ⟨A81,c82,rfl⟩:=h80.form
  refine o_faE (hA:=hA85) rfl rfl ?_
  refine o_fa rfl rfl (o_ld (hc:=cat3 hd87) rfl rfl ?_)
  refine o_mv rfl rfl ?_
  obtain ⟨a88,e89,hf29⟩:=bs hf29
  obtain ⟨p91,x90⟩:=AX e89
  obtain ⟨b92,o93,ce94,hA95,hl96,hd97,v99,v100,rfl,h101,h104,r107,z108⟩:=h80.elem' x90
  obtain ⟨A102,c103,rfl⟩:=h101.form
  obtain ⟨A105,c106,rfl⟩:=h104.form
  refine o_iaE (hA:=hA95) (hj:=(Int.toNat_of_nonneg p91).symm) (hlt:=hl96) rfl rfl rfl ?_
  refine o_fa rfl rfl (o_ld (hc:=cat3 hd97) rfl rfl ?_)
  refine o_ln rfl rfl ?_
  have l110:a88.effs.length≤9223372036854775807:=Nat.le_trans h104.len.2.1 h104.len.2.2
  have r109:inI64 (a88.effs.length:Int):=rngNat l110
  refine o_mv rfl rfl (o_z ?_)
  obtain ⟨res111,hL112,hf29⟩:=bs hf29
  refine AT (aft res111 (fun (s113:(List Int)) (x114:Unit)=>[(0,(.pointer p3)),(1,(.slice A5 x1.length c6)),(5,(.slice x22.1 s21.length x22.2)),(7,(.int .i64 a24)),(8,(.slice A53 q46.length c54)),(13,(.slice A14 q7.length c15)),(14,(.int .i64 (q7.length:Int))),(15,(.int .i64 (k23:Int)))]) (fun s113 x114 w'=>∃ O':Lab,Bs w A w' O'∧Vb w' (Fr 0 w' O') (.pointer p3) x0∧Vb w' (Fr 0 w' O') (.slice A5 x1.length c6) x1∧Rw 5 w' O' 83 (.slice x22.1 s21.length x22.2) s21∧Rw 3 w' O' 3 (.slice A53 q46.length c54) s113∧Rw 2 w' O' 3 (.slice A14 q7.length c15) q7)) ?_ ?_
  ·
   refine Al ?_
   replace hB:=hB.st S50
   replace hx1:=hx1.st S50
   replace h12:=h12.st S50
   replace h36:=h36.st S50
   refine CC (σ:=(List Int)) (X:=Unit) (a88.effs.length) hL112 rfl l110 (fun (s113:(List Int)) (x114:Unit)=>[(0,(.pointer p3)),(1,(.slice A5 x1.length c6)),(5,(.slice x22.1 s21.length x22.2)),(7,(.int .i64 a24)),(8,(.slice A53 q46.length c54)),(13,(.slice A14 q7.length c15)),(14,(.int .i64 (q7.length:Int))),(15,(.int .i64 (k23:Int))),(29,(.slice A105 a88.effs.length c106))]) _ (fun s113 x114 w'=>∃ O':Lab,Bs w A w' O'∧Vb w' (Fr 0 w' O') (.pointer p3) x0∧Vb w' (Fr 0 w' O') (.slice A5 x1.length c6) x1∧Rw 5 w' O' 83 (.slice x22.1 s21.length x22.2) s21∧Rw 3 w' O' 3 (.slice A53 q46.length c54) s113∧Rw 2 w' O' 3 (.slice A14 q7.length c15) q7∧Vb w' (Fr 0 w' O') (.slice A105 a88.effs.length c106) a88.effs) _ () ⟨O49,hB,hx0,hx1,h36,h51,h12,h104⟩ ⟨rfl,rfl,rfl,rfl,rfl,rfl,rfl,rfl,rfl,rfl,rfl,trivial⟩ (fun _ _=>⟨rfl,rfl⟩) (fun _ _=>⟨rfl,rfl,rfl,rfl,rfl,rfl,rfl,rfl,trivial⟩) (fun _ _ _ ⟨O',hB,hx0,hx1,h36,h128,h12,h104⟩=>⟨O',hB,hx0,hx1,h36,h128,h12⟩) ⟨rfl,rfl,rfl⟩ ⟨rfl,rfl⟩ ?_
   rintro k115 a116 s113 x114 w117 cc119 hx120 ⟨O118,hB,hx0,hx1,h36,h128,h12,h104⟩ hf121 hret122 hbrk123
   have rk115:inI64 (k115:Int):=rngK hx120 l110
   refine Ah (Ae ?_)
   obtain ⟨b130,o131,ce132,hA133,hl134,hd135,v137,rfl,h138,r141,r142⟩:=h104.elem' hx120
   obtain ⟨A139,c140,rfl⟩:=h138.form
   refine o_iaE (hA:=hA133) (hj:=rfl) (hlt:=hl134) rfl rfl rfl ?_
   refine o_la (hl:=rfl) (hc:=hd135) rfl rfl ?_
   refine BR 4 O118 rfl fun g143 w144 O145 S146 h147=>?_
   refine AL h147 rfl rfl rfl (Nat.le_of_ble_eq_true rfl) (by first|exact allOne rfl|simp [Value.cells,Value.oneCell',AJ]) fun w148 S149 h147=>?_
   replace h147:Lc 4 w148 O145 g143 59 [(.slice A139 a116.cond.length c140),(.int .i64 a116.var),(.int .i64 a116.val)]:=h147
   refine o_z ?_
   refine Ah (Ae (o_fa rfl rfl (o_ld (hc:=Blk.cell (i:=0) (h147.1) rfl) rfl rfl ?_)))
   refine o_mv rfl rfl ?_
   obtain ⟨q150,e151,hf121⟩:=bs hf121
   replace hx1:=(hx1.st S146).st S149
   replace h138:=(h138.st S146).st S149
   refine Cf (O:=O145) (A:=All w148) (R:=fun w' F v=>Vb w' F v q150) (Fy (fun _ h=>h) (Vb.mono (F:=Fr 0 w148 O145) h138 Fr.lt) (Vb.mono (F:=Fr 0 w148 O145) hx1 Fr.lt) e151) rfl rfl fun v156 w152 O153 S154 h155=>?_
   obtain rfl:=h155.bool
   cases q150
   case false =>
    replace hf121:=iF hf121
    refine o_z ?_
    refine Aj rfl (Am ?_)
    obtain rfl:=sm hf121
    refine (?_:Exists _)
    replace hx0:=((hx0.st S146).st S149).st S154
    replace hB:=((hB.st S146).st S149).st S154
    replace hx1:=hx1.st S154
    replace h12:=((h12.st S146).st S149).st S154
    replace h36:=((h36.st S146).st S149).st S154
    replace h104:=((h104.st S146).st S149).st S154
    replace h128:=((h128.st S146).st S149).st S154
    exact ⟨_,(),rfl,⟨rfl,rfl,rfl,rfl,rfl,rfl,rfl,rfl,rfl,rfl,rfl,trivial⟩,_,hB,hx0,hx1,h36,h128,h12,h104⟩
   replace hf121:=iT hf121
   refine o_z ?_
   refine Ar rfl (Ae (o_mv rfl rfl (o_fa rfl rfl ?_)))
   replace h147:=h147.st S154
   refine o_ld (hc:=Blk.cell (i:=1) (h147.1) rfl) rfl rfl ?_
   refine o_fa rfl rfl (o_ld (hc:=Blk.cell (i:=2) (h147.1) rfl) rfl rfl ?_)
   obtain ⟨a157,e158,hf121⟩:=bs hf121
   obtain ⟨p160,x159⟩:=AX e158
   replace h128:=((h128.st S146).st S149).st S154
   obtain ⟨b161,o162,ce163,hA164,hl165,hd166,rfl,r168⟩:=h128.elem x159
   refine o_iaE (hA:=hA164) (hj:=(Int.toNat_of_nonneg p160).symm) (hlt:=hl165) rfl rfl rfl ?_
   refine DN rfl h128 (a:=a116.val) (vInt r142) hA164 rfl rfl (AK x159) fun w169 S170 h128=>?_
   refine o_z ?_
   obtain rfl:=sm hf121
   refine (?_:Exists _)
   replace hx0:=(((hx0.st S146).st S149).st S154).st S170
   replace hB:=(((hB.st S146).st S149).st S154).st S170
   replace hx1:=(hx1.st S154).st S170
   replace h12:=(((h12.st S146).st S149).st S154).st S170
   replace h36:=(((h36.st S146).st S149).st S154).st S170
   replace h104:=(((h104.st S146).st S149).st S154).st S170
   exact ⟨_,(),rfl,⟨rfl,rfl,rfl,rfl,rfl,rfl,rfl,rfl,rfl,rfl,rfl,trivial⟩,_,hB,hx0,hx1,h36,h128,h12,h104⟩
  replace hB:=hB.st S50
  replace hx1:=hx1.st S50
  replace h12:=h12.st S50
  replace h36:=h36.st S50
  rintro l171 w172 ⟨s175,x176,rfl,hs174,O173,hB,hx0,hx1,h36,h128,h12⟩
  replace hf29:=Br hf29
  refine AW _ hs174 ?_
  refine Ae (o_mv rfl rfl (o_mv rfl rfl (o_mv rfl rfl (o_bd rfl rfl rfl ?_))))
  obtain ⟨O177,S178,h128⟩:=h128.freeze
  obtain ⟨u179,e180,hf29⟩:=bs hf29
  obtain ⟨e180,e181,e182⟩:=AO e180
  replace h36:=h36.st S178
  refine Ds rfl (a:=(⟨a24,s175⟩:Suc)) h36 (Vb.ofAgg (cs:=[(.int .i64 a24),(.slice A53 q46.length c54)]) (x:=(⟨a24,s175⟩:Suc)) rfl ⟨_,rfl,h128,r45⟩) (fun _=>rfl) rfl (by decide) (by decide) e181 e182 ⟨rfl,rfl⟩ fun g183 A184 c185 w186 O187 S188 h189=>?_
  rw [← e180] at h189 ⊢
  refine o_as rfl rfl (o_z ?_)
  obtain rfl:=sm hf29
  refine (?_:Exists _)
  replace hB:=(hB.st S178).st S188
  replace hx0:=(hx0.st S178).st S188
  replace hx1:=(hx1.st S178).st S188
  replace h12:=(h12.st S178).st S188
  exact ⟨_,(A184,c185),rfl,⟨rfl,rfl,rfl,rfl,rfl,rfl,trivial⟩,_,hB,hx0,hx1,h189,h12⟩
 replace hB:=hB.st S11
 rintro l191 w192 ⟨s195,x196,rfl,hs194,O193,hB,h36⟩
 replace hm:=Br hm
 refine AW _ hs194 ?_
 refine Ah (Ae (o_mv rfl rfl (o_as rfl rfl (o_z ?_))))
 refine At ?_
 obtain ⟨O197,S198,h36⟩:=h36.freeze
 obtain rfl:=sm hm
 replace hB:=hB.st S198
 exact ret1v rfl (AF rfl) ⟨hB.ext,(Vb.mono (F:=Fr 0 w192 O197) h36 hB.out)⟩
end
theorem Me {s:List Int} (hl:s.length≤1000000):Cm s=some s:=if_pos ⟨by omega,by omega⟩
theorem IF {t:Tsk} {s:List Int} (hok:TaskOk t) (hl:s.length≤1000000):AS (some ⟨t⟩) s=some ((appS t s).map (sucOf t s)):=by
  have ha:BL (some ⟨t⟩) s=some (appS t s):=if_pos hl
  have hol:=hok.2.1
  have hal:=Mc t s
  unfold AS
  rw [ha,Az]
  rw [JC (fun k=>((appS t s).take k).map (sucOf t s)) ?_ ?_,Az,fin_d,List.take_length]
  · rfl
  intro k x hk
  have hkl:=AK hk
  obtain ⟨hst,hmem⟩:=Mb (List.mem_of_getElem? hk)
  obtain ⟨j,o,rfl,hj,hp⟩:=JO hmem
  rw [Me hl,Az,Az,BH,hj,Az,LU (hok.effs hst j o hj) Cq (fun _ _=>rfl) s rfl,Az,fin_d,Cs (by simp;omega) (by simp;omega),Az,List.take_add_one,hk,List.map_append]
  simp [sucOf,hj,succ]
theorem LG {t:Tsk} (h:TaskOk t):DE t=some (some ⟨t⟩,⟨0⟩):=by unfold DE;rw [bof_t h,if_t,Gs.2 h]
end
section
open Go Go.RowKit
structure Few (t:Tsk):Prop where
  ok:TaskOk t
  many:(statesL t.vars).length≤512
  ops:t.ops.length≤20
abbrev LP:=List (List Int)×List (List Int)
def appB (t:Tsk) (s:List Int) (k:Nat):Bool:=match t.ops[k]? with|some o=>holdsB o.pre s|none=>false
def appN (t:Tsk) (s:List Int) (m:Nat):List Nat:=(List.range m).filter (appB t s)
def sucN (t:Tsk) (s:List Int) (k:Nat):List Int:=match t.ops[k]? with|some o=>succ o s|none=>s
theorem JQ (t:Tsk) (s:List Int):appl t s=(appN t s t.ops.length).map fun k:Nat=>(k:Int):=rfl
theorem MM (t:Tsk) (s:List Int) (k:Nat):sucOf t s (k:Int)=⟨(k:Int),sucN t s k⟩:=rfl
theorem FO {t:Tsk} {s:List Int} {k:Nat} (h:appB t s k=true):∃ o,t.ops[k]?=some o∧holdsB o.pre s=true∧sucN t s k=succ o s:=by
  unfold appB at h
  cases ho:t.ops[k]? with
  | none=>rw [ho] at h;cases h
  | some o=>rw [ho] at h;exact ⟨o,rfl,h,by unfold sucN;rw [ho]⟩
theorem IG {t:Tsk} {s:List Int} {k:Nat} {o:Opr} (ho:t.ops[k]?=some o):appB t s k=holdsB o.pre s∧sucN t s k=succ o s:=by unfold appB sucN;rw [ho];exact ⟨rfl,rfl⟩
def addK (t:Tsk) (s:List Int) (i:Nat) (lp:LP) (k:Nat):LP:=if sucN t s k∈lp.1 then lp else (lp.1 ++ [sucN t s k],lp.2 ++ [(lp.2[i]?).getD [] ++ [(k:Int)]])
def expN (t:Tsk) (s:List Int) (i m:Nat) (lp:LP):LP:=(appN t s m).foldl (addK t s i) lp
theorem LH (t:Tsk) (s:List Int) (i m:Nat) (lp:LP):expN t s i (m + 1) lp=if appB t s m=true then addK t s i (expN t s i m lp) m else expN t s i m lp:=by
  unfold expN appN
  rw [List.range_succ,List.filter_append,List.foldl_append]
  by_cases h:appB t s m=true
  · rw [if_pos h];simp [h]
  · rw [if_neg h];simp [h]
def lexL:List Int→List Int→Prop
  | a :: p,b :: q=>a < b∨(a=b∧lexL p q)
  | _,_=>False
def slt (p q:List Int):Prop:=p.length < q.length∨(p.length=q.length∧lexL p q)
def sle (p q:List Int):Prop:=p=q∨slt p q
theorem It:∀ {p q r:List Int},lexL p q→lexL q r→lexL p r
  | a :: p,b :: q,c :: r,h1,h2=>by
    rcases h1 with h1|⟨rfl,h1⟩
    · rcases h2 with h2|⟨rfl,h2⟩
      · exact .inl (by omega)
      · exact .inl h1
    · rcases h2 with h2|⟨rfl,h2⟩
      · exact .inl h2
      · exact .inr ⟨rfl,It h1 h2⟩
  | [],_,_,h1,_=>by simp [lexL] at h1
  | _ :: _,[],_,h1,_=>by simp [lexL] at h1
  | _ :: _,_ :: _,[],_,h2=>by simp [lexL] at h2
theorem JR:∀ {p q:List Int} (u v:List Int),lexL p q→lexL (p ++ u) (q ++ v)
  | a :: p,b :: q,u,v,h=>by
    rcases h with h|⟨rfl,h⟩
    · exact .inl h
    · exact .inr ⟨rfl,JR u v h⟩
  | [],_,_,_,h=>by simp [lexL] at h
  | _ :: _,[],_,_,h=>by simp [lexL] at h
theorem JS:∀ (p:List Int) {u v:List Int},lexL u v→lexL (p ++ u) (p ++ v)
  | [],_,_,h=>h
  | _ :: p,_,_,h=>.inr ⟨rfl,JS p h⟩
theorem LI {p q r:List Int} (h1:slt p q) (h2:slt q r):slt p r:=by
  rcases h1 with h1|⟨e1,h1⟩<;>rcases h2 with h2|⟨e2,h2⟩
  · exact .inl (by omega)
  · exact .inl (by omega)
  · exact .inl (by omega)
  · exact .inr ⟨e1.trans e2,It h1 h2⟩
theorem FP {p q r:List Int} (h1:sle p q) (h2:sle q r):sle p r:=by
  rcases h1 with rfl|h1
  · exact h2
  · rcases h2 with rfl|h2
    · exact .inr h1
    · exact .inr (LI h1 h2)
theorem JT {p q:List Int} (h:slt p q) (a b:Int):slt (p ++ [a]) (q ++ [b]):=by
  rcases h with h|⟨e,h⟩
  · exact .inl (by simp;exact h)
  · exact .inr ⟨by simp [e],JR _ _ h⟩
theorem Mf (p:List Int) {a b:Int} (h:a < b):slt (p ++ [a]) (p ++ [b]):=.inr ⟨by simp,JS p (.inl h)⟩
theorem Mg {p q:List Int} (h:sle p q) (a:Int):sle (p ++ [a]) (q ++ [a]):=by
  rcases h with rfl|h
  · exact .inl rfl
  · exact .inr (JT h a a)
theorem MN (p u:List Int):sle p (p ++ u):=by
  cases u with
  | nil=>exact .inl (by simp)
  | cons a u=>exact .inr (.inl (by simp))
theorem PlanR.rch {t:Tsk} {s p s':List Int} {C:Int} (h:PlanR t s p s' C) (hs:Rch t s):Rch t s':=by
  induction h with
  | nil=>exact hs
  | cons ho hp _ ih=>exact ih (hs.step ho hp)
structure BI (t:Tsk) (i:Nat) (lp:LP):Prop where
  len:lp.2.length=lp.1.length
  root:lp.1[0]?=some t.init
  rootp:lp.2[0]?=some []
  pl:∀ (j:Nat) s p,lp.1[j]?=some s→lp.2[j]?=some p→(∃ C,PlanR t t.init p s C)∧p.length≤j
  nodup:lp.1.Nodup
  clo:∀ (j:Nat) s p (k:Nat),j < i→lp.1[j]?=some s→lp.2[j]?=some p→appB t s k=true→∃ (j':Nat) (p':List Int),lp.1[j']?=some (sucN t s k)∧lp.2[j']?=some p'∧sle p' (p ++ [(k:Int)])
  par:∀ (j:Nat) p,lp.2[j]?=some p→p=[]∨∃ (j':Nat) (p':List Int) (k:Nat),j' < i∧lp.2[j']?=some p'∧p=p' ++ [(k:Int)]
  srt:∀ (j j':Nat) p p',j < j'→lp.2[j]?=some p→lp.2[j']?=some p'→slt p p'
section
variable {t : Tsk} {i : Nat} {lp : LP}
theorem BI.rch (h:BI t i lp) {j:Nat} {s:List Int} (hj:lp.1[j]?=some s):Rch t s:=by
  obtain ⟨p,hp⟩:=AH (l:=lp.2) (k:=j) (by rw [h.len];exact AK hj)
  obtain ⟨⟨C,hC⟩,_⟩:=h.pl j s p hj hp
  exact hC.rch .init
theorem BI.few (h:BI t i lp) (hs:Few t):lp.1.length≤512:=by
  refine Nat.le_trans (Db h.nodup fun s hm=>?_) hs.many
  obtain ⟨j,hj⟩:=List.getElem?_of_mem hm
  exact ER.2 ((h.rch hj).ok hs.ok)
theorem Gg (t:Tsk):BI t 0 ([t.init],[[]]):=by
  have one:∀ {α:Type} {a b:α} {i:Nat},[a][i]?=some b→i=0∧b=a:=fun {α a b i} h=>by
    cases i with
    | zero=>simp at h;exact ⟨rfl,h.symm⟩
    | succ i=>simp at h
  refine ⟨rfl,rfl,rfl,fun j s p hs hp=>?_,by simp,fun j s p k hj=>by omega,fun j p hp=>.inl (one hp).2,fun j j' p p' hj h1 h2=>?_⟩
  · obtain ⟨rfl,rfl⟩:=one hs
    obtain ⟨_,rfl⟩:=one hp
    exact ⟨⟨0,.nil⟩,by simp⟩
  · have:=(one h1).1;have:=(one h2).1;omega
structure BJ (t:Tsk) (i:Nat) (lp0:LP) (s:List Int) (p:List Int) (m:Nat) (lp:LP):Prop where
  pre1:∃ A,lp.1=lp0.1 ++ A
  pre2:∃ B,lp.2=lp0.2 ++ B
  len:lp.2.length=lp.1.length
  pl:∀ (j:Nat) s p,lp.1[j]?=some s→lp.2[j]?=some p→(∃ C,PlanR t t.init p s C)∧p.length≤j
  nodup:lp.1.Nodup
  clo:∀ (k:Nat),k < m→appB t s k=true→∃ (j':Nat) (p':List Int),lp.1[j']?=some (sucN t s k)∧lp.2[j']?=some p'∧sle p' (p ++ [(k:Int)])
  par:∀ (j:Nat) q,lp.2[j]?=some q→q=[]∨(∃ (j':Nat) (p':List Int) (k:Nat),j' < i∧lp.2[j']?=some p'∧q=p' ++ [(k:Int)])∨∃ k:Nat,k < m∧q=p ++ [(k:Int)]
  srt:∀ (j j':Nat) p p',j < j'→lp.2[j]?=some p→lp.2[j']?=some p'→slt p p'
theorem Cg {α:Type} {l l':List α} (h:∃ A,l'=l ++ A) {j:Nat} {x:α} (hj:l[j]?=some x):l'[j]?=some x:=by
  obtain ⟨A,rfl⟩:=h
  rw [List.getElem?_append_left (AK hj)];exact hj
theorem BJ.below {s p:List Int} {m:Nat} {lp0:LP} (h:BJ t i lp0 s p m lp) (hip:lp0.2[i]?=some p) {j:Nat} {q:List Int} (hj:lp.2[j]?=some q):slt q (p ++ [(m:Int)]):=by
  rcases h.par j q hj with rfl|⟨j',p',k,h1,h2,rfl⟩|⟨k,h1,rfl⟩
  · exact .inl (by simp)
  · exact JT (h.srt j' i p' p h1 h2 (Cg h.pre2 hip)) _ _
  · exact Mf p (by omega)
theorem BJ.step {s p:List Int} {m:Nat} {lp0:LP} (h:BJ t i lp0 s p m lp) (his:lp0.1[i]?=some s) (hip:lp0.2[i]?=some p):BJ t i lp0 s p (m + 1) (if appB t s m=true then addK t s i lp m else lp):=by
  have hi2:=Cg h.pre2 hip
  have hi1:=Cg h.pre1 his
  have par':∀ (j:Nat) q,lp.2[j]?=some q→q=[]∨(∃ (j':Nat) (p':List Int) (k:Nat),j' < i∧lp.2[j']?=some p'∧q=p' ++ [(k:Int)])∨∃ k:Nat,k < m + 1∧q=p ++ [(k:Int)]:=fun j q hq=>by
    rcases h.par j q hq with h1|h1|⟨k,h1,h2⟩
    · exact .inl h1
    · exact .inr (.inl h1)
    · exact .inr (.inr ⟨k,by omega,h2⟩)
  by_cases ha:appB t s m=true
  · rw [if_pos ha]
    obtain ⟨o,ho,hpre,hsuc⟩:=FO ha
    unfold addK
    by_cases hin:sucN t s m∈lp.1
    · rw [if_pos hin]
      obtain ⟨j,hj⟩:=List.getElem?_of_mem hin
      obtain ⟨q,hq⟩:=AH (l:=lp.2) (k:=j) (by rw [h.len];exact AK hj)
      exact { h with
        clo:=fun k hk hak=>by
          by_cases e:k=m
          · subst e;exact ⟨j,q,hj,hq,.inr (h.below hip hq)⟩
          · exact h.clo k (by omega) hak
        par:=par' }
    · rw [if_neg hin,hi2,Option.getD_some]
      obtain ⟨⟨C,hC⟩,hpl⟩:=h.pl i s p hi1 hi2
      have hil:=AK hi1
      refine ⟨?_,?_,by simp [h.len],?_,?_,?_,?_,?_⟩
      · obtain ⟨A,hA⟩:=h.pre1;exact ⟨A ++ [sucN t s m],by rw [hA];simp⟩
      · obtain ⟨B,hB⟩:=h.pre2;exact ⟨B ++ [p ++ [(m:Int)]],by rw [hB];simp⟩
      · intro j s' p' hs' hp'
        rcases Ca hs' with hs'|⟨rfl,rfl⟩
        · rcases Ca hp' with hp'|⟨e,_⟩
          · exact h.pl j s' p' hs' hp'
          · have:=AK hs';have:=h.len;omega
        · rcases Ca hp' with hp'|⟨_,rfl⟩
          · have:=AK hp';have:=h.len;omega
          · refine ⟨⟨C + o.cost,by rw [hsuc];exact hC.snoc ho hpre⟩,by simp;omega⟩
      · show (lp.1 ++ [sucN t s m]).Nodup
        rw [List.nodup_append]
        refine ⟨h.nodup,by simp,fun a ha' b hb=>?_⟩
        have hb':b=sucN t s m:=by simpa using hb
        subst hb'
        exact fun e=>hin (e ▸ ha')
      · intro k hk hak
        by_cases e:k=m
        · subst e
          refine ⟨lp.1.length,p ++ [(k:Int)],by simp,?_,.inl rfl⟩
          show (lp.2 ++ [p ++ [(k:Int)]])[lp.1.length]?=_
          rw [← h.len];simp
        · obtain ⟨j',p',h1,h2,h3⟩:=h.clo k (by omega) hak
          exact ⟨j',p',Cg ⟨_,rfl⟩ h1,Cg ⟨_,rfl⟩ h2,h3⟩
      · intro j q hq
        rcases Ca hq with hq|⟨_,rfl⟩
        · rcases par' j q hq with h1|⟨j',p',k,h1,h2,h3⟩|h1
          · exact .inl h1
          · exact .inr (.inl ⟨j',p',k,h1,Cg ⟨_,rfl⟩ h2,h3⟩)
          · exact .inr (.inr h1)
        · exact .inr (.inr ⟨m,by omega,rfl⟩)
      · intro j j' q q' hjj hq hq'
        rcases Ca hq' with hq'|⟨rfl,rfl⟩
        · rcases Ca hq with hq|⟨rfl,_⟩
          · exact h.srt j j' q q' hjj hq hq'
          · have:=AK hq';omega
        · rcases Ca hq with hq|⟨rfl,_⟩
          · exact h.below hip hq
          · omega
  · rw [if_neg ha]
    exact { h with
      clo:=fun k hk hak=>by
        by_cases e:k=m
        · subst e;exact absurd hak ha
        · exact h.clo k (by omega) hak
      par:=par' }
theorem BI.begin (h:BI t i lp) {s p:List Int} (his:lp.1[i]?=some s) (hip:lp.2[i]?=some p):BJ t i lp s p 0 lp :=
  ⟨⟨[],by simp⟩,⟨[],by simp⟩,h.len,h.pl,h.nodup,fun k hk=>by omega,fun j q hq=>(h.par j q hq).imp id .inl,h.srt⟩
theorem BI.part (h:BI t i lp) {s p:List Int} (his:lp.1[i]?=some s) (hip:lp.2[i]?=some p):∀ m,BJ t i lp s p m (expN t s i m lp)
  | 0=>h.begin his hip
  | m + 1=>by rw [LH];exact (BI.part h his hip m).step his hip
theorem BJ.done {s p:List Int} {lp0:LP} (h0:BI t i lp0) (his:lp0.1[i]?=some s) (hip:lp0.2[i]?=some p) (h:BJ t i lp0 s p t.ops.length lp):BI t (i + 1) lp:=by
  have hi1:=Cg h.pre1 his
  have hi2:=Cg h.pre2 hip
  refine ⟨h.len,Cg h.pre1 h0.root,Cg h.pre2 h0.rootp,h.pl,h.nodup,fun j s' p' k hj hs' hp' hk=>?_,fun j q hq=>?_,h.srt⟩
  · by_cases e:j=i
    · subst e
      rw [hi1] at hs'
      rw [hi2] at hp'
      obtain rfl:=Option.some.inj hs'
      obtain rfl:=Option.some.inj hp'
      obtain ⟨o,ho,_⟩:=FO hk
      exact h.clo k (AK ho) hk
    · have hj':j < i:=by omega
      have hjl:j < lp0.1.length:=by have:=AK his;omega
      obtain ⟨s0,hs0⟩:=AH (l:=lp0.1) (k:=j) hjl
      obtain ⟨p0,hp0⟩:=AH (l:=lp0.2) (k:=j) (by rw [h0.len];exact hjl)
      rw [Cg h.pre1 hs0] at hs'
      rw [Cg h.pre2 hp0] at hp'
      obtain rfl:=Option.some.inj hs'
      obtain rfl:=Option.some.inj hp'
      obtain ⟨j',q,q1,q2,q3⟩:=h0.clo j s0 p0 k hj' hs0 hp0 hk
      exact ⟨j',q,Cg h.pre1 q1,Cg h.pre2 q2,q3⟩
  · rcases h.par j q hq with h1|⟨j',p',k,h1,h2,h3⟩|⟨k,h1,h2⟩
    · exact .inl h1
    · exact .inr ⟨j',p',k,by omega,h2,h3⟩
    · exact .inr ⟨i,p,k,by omega,hi2,h2⟩
theorem BI.next (h:BI t i lp) {s p:List Int} (his:lp.1[i]?=some s) (hip:lp.2[i]?=some p):BI t (i + 1) (expN t s i t.ops.length lp):=BJ.done h his hip (h.part his hip _)
theorem BI.ways (h:BI t i lp) {s0 p' s:List Int} {C:Int} (hw:PlanR t s0 p' s C):∀ q,(∃ j:Nat,∃ p,lp.1[j]?=some s0∧lp.2[j]?=some p∧sle p q)→(∃ (j:Nat) (p:List Int),lp.1[j]?=some s∧lp.2[j]?=some p∧sle p (q ++ p'))∨∃ (j:Nat) (p u:List Int),i≤j∧lp.2[j]?=some p∧sle p (q ++ u)∧∃ v,p'=u ++ v:=by
  induction hw with
  | nil=>rintro q ⟨j,p,h1,h2,h3⟩;exact .inl ⟨j,p,h1,h2,by simpa using h3⟩
  | @cons s0 rest s' k o C ho hp _ ih =>
    rintro q ⟨j,p,h1,h2,h3⟩
    by_cases hj:j < i
    · obtain ⟨e1,e2⟩:=IG (s:=s0) ho
      obtain ⟨j',p1,a1,a2,a3⟩:=h.clo j s0 p k hj h1 h2 (by rw [e1];exact hp)
      rw [e2] at a1
      rcases ih (q ++ [(k:Int)]) ⟨j',p1,a1,a2,FP a3 (Mg h3 _)⟩ with ⟨j2,p2,b1,b2,b3⟩|⟨j2,p2,u,b1,b2,b3,v,b4⟩
      · exact .inl ⟨j2,p2,b1,b2,by simpa using b3⟩
      · exact .inr ⟨j2,p2,(k:Int) :: u,b1,b2,by simpa using b3,v,by rw [b4];rfl⟩
    · exact .inr ⟨j,p,[],by omega,h2,by simpa using h3,_,rfl⟩
theorem BI.first (h:BI t i lp) {p:List Int} (hip:lp.2[i]?=some p) (hno:∀ (j:Nat) s,j < i→lp.1[j]?=some s→holdsB t.goal s=false) {p' s:List Int} {C:Int} (hw:PlanR t t.init p' s C) (hg:holdsB t.goal s=true):sle p p':=by
  have up:∀ (j:Nat) q,i≤j→lp.2[j]?=some q→sle p q:=fun j q hj hq=>by
    by_cases e:i=j
    · subst e;rw [hip] at hq;exact .inl (Option.some.inj hq)
    · exact .inr (h.srt i j p q (by omega) hip hq)
  rcases h.ways hw [] ⟨0,[],h.root,h.rootp,.inl rfl⟩ with ⟨j,q,h1,h2,h3⟩|⟨j,q,u,h1,h2,h3,v,rfl⟩
  · have hj:i≤j:=by
      rcases Nat.lt_or_ge j i with hj|hj
      · have:=hno j s hj h1;rw [hg] at this;cases this
      · exact hj
    exact FP (up j q hj h2) (by simpa using h3)
  · exact FP (up j q h1 h2) (FP (by simpa using h3) (MN u v))
theorem BI.all (h:BI t lp.1.length lp) {p' s:List Int} {C:Int} (hw:PlanR t t.init p' s C):s∈lp.1:=by
  rcases h.ways hw [] ⟨0,[],h.root,h.rootp,.inl rfl⟩ with ⟨j,q,h1,_⟩|⟨j,q,u,h1,h2,_⟩
  · exact List.mem_of_getElem? h1
  · have:=AK h2;rw [h.len] at this;omega
end
inductive Bfs (t:Tsk) (lim:Int):Nat→LP→Rsl→Prop
  | none {i:Nat} {lp:LP}:i=lp.1.length→Bfs t lim i lp ⟨2,[],0,(lp.1.length:Int)⟩
  | goal {i:Nat} {lp:LP} {s p:List Int} {C:Int}:lp.1[i]?=some s→lp.2[i]?=some p→holdsB t.goal s=true→PlanR t t.init p s C→Bfs t lim i lp ⟨1,p,C,(i:Int)⟩
  | full {i:Nat} {lp:LP} {s:List Int}:lp.1[i]?=some s→holdsB t.goal s=false→lim≤(i:Int)→Bfs t lim i lp ⟨3,[],0,(i:Int)⟩
  | step {i:Nat} {lp:LP} {s:List Int} {r:Rsl}:lp.1[i]?=some s→holdsB t.goal s=false→(i:Int) < lim→Bfs t lim (i + 1) (expN t s i t.ops.length lp) r→Bfs t lim i lp r
theorem Mh {t:Tsk} (hs:Few t) (lim:Int):∀ (n i:Nat) (lp:LP),513 - i≤n→i≤lp.1.length→BI t i lp→∃ r,Bfs t lim i lp r:=by
  intro n
  induction n with
  | zero=>intro i lp hn hi h;have:=h.few hs;omega
  | succ n ih =>
    intro i lp hn hi h
    by_cases he:i=lp.1.length
    · exact ⟨_,.none he⟩
    obtain ⟨s,hsi⟩:=AH (l:=lp.1) (k:=i) (by omega)
    obtain ⟨p,hpi⟩:=AH (l:=lp.2) (k:=i) (by rw [h.len];omega)
    cases hg:holdsB t.goal s with
    | true=>obtain ⟨⟨C,hC⟩,_⟩:=h.pl i s p hsi hpi;exact ⟨_,.goal hsi hpi hg hC⟩
    | false =>
      by_cases hl:lim≤(i:Int)
      · exact ⟨_,.full hsi hg hl⟩
      · have hf:=h.few hs
        have hJ:=h.part hsi hpi t.ops.length
        obtain ⟨A,hA⟩:=hJ.pre1
        obtain ⟨r,hr⟩:=ih (i + 1) (expN t s i t.ops.length lp) (by omega) (by rw [hA];simp;omega) (h.next hsi hpi)
        exact ⟨r,.step hsi hg (by omega) hr⟩
end
section
open Go Go.RowKit
class TCon (P:Program) (t:TypeId):Prop where eq:∃ d,P.underlying t=some d∧(match d with|.interface _=>false|_=>true)=true
instance {P:Program} {t e:TypeId} [h:TPtr P t e]:TCon P t:=⟨⟨_,h.eq,rfl⟩⟩
instance {P:Program} {t:TypeId} [h:TAgg P t]:TCon P t:=⟨by obtain ⟨d,h1,h2⟩:=h.eq;exact ⟨d,h1,by cases d<;>first|rfl|cases h2⟩⟩
class TMth (P:Program) (t:TypeId) (name:String) (f:outParam FuncId) (b:outParam Bool):Prop where
  eq:((P.info? t).bind fun i=>i.methods.find? (·.name == name)).map (fun m=>(m.path.toList,m.func))=some ([],some (f,b))
def Mth (P:Program) (t:TypeId) (v:Value) (name:String) (w:World) (f:FuncId) (r:Value):Prop:=∀ d,(method (P.types.size + Made.depth) t v name).run P (dr w d)=.ok (f,r) (dr w d)
section
variable {P : Program} {t e : TypeId} {name : String} {f : FuncId} {w : World}
theorem TMth.row {b:Bool} (h:TMth P t name f b):∃ i m,P.info? t=some i∧i.methods.find? (·.name == name)=some m∧m.path.toList=[]∧m.func=some (f,b):=by
  obtain ⟨m,h1,h2⟩:=Option.map_eq_some_iff.1 h.eq
  obtain ⟨i,h3,h4⟩:=Option.bind_eq_some_iff.1 h1
  injection h2 with h5 h6
  exact ⟨i,m,h3,h4,h5,h6⟩
theorem KG {v:Value} [hm:TMth P t name f true] [hp:TPtr P t e]:Mth P t v name w f v:=fun d=>by
  obtain ⟨i,m,h1,h2,h3,h4⟩:=hm.row
  show (method ((P.types.size + 99) + 1) t v name).run P (dr w d)=_
  rw [method]
  simp [typeInfo,h1,h2,h3,h4,follow,receiverAt,run_underlying hp.eq,Place.get]
theorem Km (ts:Array TypeId) (a:Addr) (x y:String):(Builtin.ssaWrapNilChk_ ts t #[.pointer (some a),strVal x,strVal y]).run P w=.ok (.pointer (some a)) w:=rfl
theorem Et {ad:Addr} {u:Value} [hm:TMth P t name f false] [hp:TPtr P t e] [TOne P e] (hc:w.cell? ad=some u):Mth P t (.pointer (some ad)) name w f u:=fun d=>by
  obtain ⟨i,m,h1,h2,h3,h4⟩:=hm.row
  have h5:m.path=#[]:=by cases hm':m.path;rw [hm'] at h3;simp at h3;rw [h3]
  have hl:(load ad).run P (dr w d)=.ok u (dr w d):=by simp [load,Sem.run,Ix,hc]
  show (method ((P.types.size + 99) + 1) t _ name).run P (dr w d)=_
  rw [method]
  simp [typeInfo,h1,h2,h4,h5,follow,receiverAt,run_underlying hp.eq,Place.get,Km,asAddr,loadVar,GW,Ix,hc]
end
section
variable {P : Program} {n : Nat} {ops : Array Oper} {Q : Post} {rest : List Oper} {l : Env} {w : World} {d : Tmp} {ty : TypeId} {pos : String} {aft : Array Edge}
theorem KH {f:FuncId} [hf:Callable P f] {y:Operand} {name:String} {t:TypeId} {v r:Value} {xs:List Operand} {vs:List Value} {ts:Array TypeId} {R:Value→World→Prop} (hm:Mth P t v name w f r) (hy:opv l y=some (.iface t v)) (hx:opvs l xs=some vs) (hd:Nat.blt d n=true) (hc:Fn P f (r :: vs) w R)
    (h:∀ v w',R v w'→owp P n ops Q rest ((d,v) :: l) w'):owp P n ops Q (⟨some d,.call { callee:=.invoke y name,args:=xs.toArray,argTypes:=ts },ty,pos,aft,none⟩ :: rest) l w :=
  Ga fun a e ha K hK=>by
    obtain ⟨fn,h1,h2,h3⟩:=hf.eq
    have h2':¬ fn.body=none:=fun e=>by rw [e] at h2;simp at h2
    have h3' : ¬ fn.name = "runtime.NumGoroutine" := fun e => by rw [e] at h3; simp at h3
    unfold Oper.wp
    have:(execOp a.eval ⟨some d,.call { callee:=.invoke y name,args:=xs.toArray,argTypes:=ts },ty,pos,aft,none⟩).run P (dr w e)=.ok (.enter f (r :: vs).toArray) (dr w e):=by
      simp [execOp,resolve,ha.eval hy,invoke,callMethod,hm e,callFunc,h1,h2',h3',ha.evals hx]
    rw [this]
    exact (hc e).mono fun _ _ ⟨v,w₀,d',he,hw,hR⟩=>by subst he;subst hw;exact hK _ _ (h v w₀ hR _ _ (ha.put hd v))
theorem Hk {T:Nat→Prop} {f:FuncId} [Callable P f] {y:Operand} {name:String} {t:TypeId} {v r:Value} {xs:List Operand} {vs:List Value} {ts:Array TypeId} {O:Lab} {R:Value→World→Lab→Prop}
    (hc:Fn P f (r :: vs) w fun v w'=>∃ O',St T w O w' O'∧R v w' O') (hm:Mth P t v name w f r) (hy:opv l y=some (.iface t v)) (hx:opvs l xs=some vs) (hd:Nat.blt d n=true)
    (h:∀ v w' O',St T w O w' O'→R v w' O'→owp P n ops Q rest ((d,v) :: l) w'):owp P n ops Q (⟨some d,.call { callee:=.invoke y name,args:=xs.toArray,argTypes:=ts },ty,pos,aft,none⟩ :: rest) l w :=
  KH hm hy hx hd hc fun v w' ⟨O',hS,hR⟩=>h v w' O' hS hR
theorem Hl {f:FuncId} [Callable P f] {y:Operand} {name:String} {t:TypeId} {v r:Value} {xs:List Operand} {vs:List Value} {ts:Array TypeId} {O:Lab} {A:Nat→Prop} {R:World→(Nat→Prop)→Value→Prop} (hc:Fn P f (r :: vs) w fun v w'=>Ext w w'∧R w' (upA A w w') v) (hm:Mth P t v name w f r) (hy:opv l y=some (.iface t v)) (hx:opvs l xs=some vs) (hd:Nat.blt d n=true)
    (h:∀ v w' O',St nT w O w' O'→R w' (upA A w w') v→owp P n ops Q rest ((d,v) :: l) w'):owp P n ops Q (⟨some d,.call { callee:=.invoke y name,args:=xs.toArray,argTypes:=ts },ty,pos,aft,none⟩ :: rest) l w :=
  KH hm hy hx hd hc fun v w' ⟨hE,hR⟩=>h v w' (upO O w.heap.size fun _=>0) (hE.st O _) hR
end
def quoT (a b:Int):Option Int:=if 0 < b then some (if 0≤a then a / b else -((-a) / b)) else none
theorem KI {a b r:Int} (h:quoT a b=some r) (ha:inI64 a):inI64 r:=by
  unfold quoT at h
  split at h
  · rename_i hb
    rw [← sm h]
    unfold inI64 at *
    split
    · rename_i h0
      have:=Int.ediv_le_self b h0
      have:=Int.ediv_nonneg h0 (show 0≤b by omega)
      omega
    · have h0:0≤-a:=by omega
      have:=Int.ediv_le_self b h0
      have:=Int.ediv_nonneg h0 (show 0≤b by omega)
      omega
  · cases h
theorem NA {P:Program} {l:Env} {w:World} {dst:Option Tmp} {ty:TypeId} {pos:String} {aft:Array Edge} {t u:TypeId} {x y:Operand} {a b c:Int} (hx:opv l x=some (.int .i64 a)) (hy:opv l y=some (.int .i64 b)) (he:quoT a b=some c) (hr:inI64 a):Ev P ⟨dst,.binOp .quo t x y u,ty,pos,aft,none⟩ l w (.int .i64 c):=fun _ _ d ha=>by
  have hc:=KI he hr
  unfold quoT at he
  split at he
  · rename_i hb
    have hn:b≠0:=by omega
    have h1:a.tdiv b=c:=by
      rw [← sm he]
      split
      · rename_i h0;exact Int.tdiv_eq_ediv_of_nonneg h0
      · rw [← Int.tdiv_eq_ediv_of_nonneg (show 0≤-a by omega),Int.neg_tdiv,Int.neg_neg]
    simp [execOp,ha.eval hx,ha.eval hy,eqGuard,binOp,Op.intDiv,hn,h1,wrap_i64 hc.1 hc.2]
  · cases he
structure An (t:TypeId) (α:Type) where
  x:α
instance {t:TypeId} {α:Type} [Rp α]:Rp (An t α) where
  isAgg:=false
  size:=1
  R w F cs a:=∃ v,cs=[.iface t v]∧Vb w F v a.x
  len:=by rintro w F cs x ⟨v,rfl,_⟩;rfl
  one:=by
    rintro w F cs x ⟨v,rfl,_⟩ u hu
    have:u=.iface t v:=by simpa using hu
    subst this;rfl
  agree:=by rintro w w' F cs x ⟨v,rfl,h⟩ ha;exact ⟨v,rfl,h.agree ha⟩
  mono:=by rintro w F G cs x ⟨v,rfl,h⟩ ha;exact ⟨v,rfl,h.mono ha⟩
theorem Vb.any {w:World} {F:Nat→Prop} {v:Value} {t:TypeId} {α:Type} [Rp α] {x:An t α} (h:Vb w F v x):∃ u,v=.iface t u∧Vb w F u x.x:=by
  obtain ⟨u,hu,h'⟩:=h
  exact ⟨u,by simpa using hu,h'⟩
theorem vAny {w:World} {F:Nat→Prop} {v:Value} {t:TypeId} {α:Type} [Rp α] {x:α} (h:Vb w F v x):Vb w F (.iface t v) (⟨x⟩:An t α):=⟨v,rfl,h⟩
section
variable {P : Program} {l : Env} {w : World} {dst : Option Tmp} {ty : TypeId} {pos : String} {aft : Array Edge}
theorem NB {t:TypeId} [hk:TCon P t] {x:Operand} {v:Value} (hx:opv l x=some v):Ev P ⟨dst,.makeInterface t x,ty,pos,aft,none⟩ l w (.iface t v):=fun _ a d ha=>by
  obtain ⟨q,h1,h2⟩:=hk.eq
  cases q<;>first|(cases h2;done)|simp [execOp,ha.eval hx,Instr.makeInterface,run_underlying h1]
theorem NC {s t:TypeId} [hk:TCon P t] {x:Operand} {v:Value} (hx:opv l x=some (.iface t v)):Ev P ⟨dst,.typeAssert x s t true,ty,pos,aft,none⟩ l w (.tuple #[v,.bool true]):=fun _ a d ha=>by
  obtain ⟨q,h1,h2⟩:=hk.eq
  cases q<;>first|(cases h2;done)|simp [execOp,ha.eval hx,Instr.typeAssert,run_underlying h1]
end
section
variable {P : Program} {n : Nat} {ops : Array Oper} {Q : Post} {S : World → Prop} {rest : List Oper} {r : List (Nat × Bool)} {l : Env} {w : World} {d i : Nat} {ty : TypeId} {pos : String} {aft : Array Edge}
theorem o_qtE {t u:TypeId} {x y:Operand} {a b c:Int} (hx:opv l x=some (.int .i64 a)) (hy:opv l y=some (.int .i64 b)) (hd:Nat.blt d n=true) (h:owp P n ops Q rest ((d,.int .i64 c) :: l) w) (he:quoT a b=some c:=by assumption) (hr:inI64 a:=by assumption):owp P n ops Q (⟨some d,.binOp .quo t x y u,ty,pos,aft,none⟩ :: rest) l w:=AV (NA hx hy he hr) hd h
theorem o_miA {t:TypeId} [TCon P t] {x:Operand} {v:Value} (hx:opv l x=some v) (hd:Nat.blt d n=true) (h:owp P n ops Q rest ((d,.iface t v) :: l) w):owp P n ops Q (⟨some d,.makeInterface t x,ty,pos,aft,none⟩ :: rest) l w:=AV (NB hx) hd h
theorem o_taA {s t:TypeId} [TCon P t] {x:Operand} {v:Value} (hx:opv l x=some (.iface t v)) (hd:Nat.blt d n=true) (h:owp P n ops Q rest ((d,.tuple #[v,.bool true]) :: l) w):owp P n ops Q (⟨some d,.typeAssert x s t true,ty,pos,aft,none⟩ :: rest) l w:=AV (NC hx) hd h
end
end
section
open Go Go.RowKit
attribute [local irreducible] ewp owp hwp hwq hws Ev Evg Fn retPost loud loudS Res1
attribute [local irreducible] hwx loudX
structure Itm where
  cost:Int
  order:Int
  id:Int
instance:Rp Itm where
  isAgg:=true
  size:=3
  R w F cs x:=cs=[.int .i64 x.cost,.int .i64 x.order,.int .i64 x.id]∧inI64 x.cost∧inI64 x.order∧inI64 x.id
  len:=by rintro w F cs x ⟨rfl,h0,h1,h2⟩;rfl
  one:=by rintro w F cs x ⟨rfl,h0,h1,h2⟩ u hu;simp at hu;rcases hu with rfl|rfl|rfl<;>first|rfl|exact Vb.one rfl (by assumption)
  agree:=by rintro w w' F cs x ⟨rfl,h0,h1,h2⟩ ha;exact ⟨rfl,h0,h1,h2⟩
  mono:=by rintro w F G cs x ⟨rfl,h0,h1,h2⟩ ha;exact ⟨rfl,h0,h1,h2⟩
instance : TMth Try.prog 94 "Len" 47 false := ⟨by kernel_rfl⟩
instance : TMth Try.prog 94 "Less" 129 false := ⟨by kernel_rfl⟩
instance : TMth Try.prog 94 "Pop" 130 true := ⟨by kernel_rfl⟩
instance : TMth Try.prog 94 "Push" 131 true := ⟨by kernel_rfl⟩
instance : TMth Try.prog 94 "Swap" 132 false := ⟨by kernel_rfl⟩
noncomputable def Bh (x0:List Itm):Option Int :=
  some (x0.length:Int)
theorem DH {w:World} {A:Nat→Prop} (hA:∀ k,A k→k < w.heap.size) {vx0:Value} {x0:List Itm} (hx0:Vb w A vx0 x0) {r:Int} (hm:Bh x0=some r) :
    Fn Try.prog 47 [vx0] w fun v w'=>Ext w w'∧Vb w' (upA A w w') v r:=by
 obtain ⟨O,hB,hA0⟩:=enter hA
 replace hx0:=hx0.mono hA0
 obtain ⟨A2,c3,rfl⟩:=hx0.form
 refine AN Try.func47 rfl Try.ntmps47 rfl ?_
 unfold Bh at hm
 refine Ah (Ae (o_as rfl rfl (o_z ?_)))
 refine Ah (Ae (o_mv rfl rfl (o_ln rfl rfl ?_)))
 have l5:x0.length≤9223372036854775807:=Nat.le_trans hx0.len.2.1 hx0.len.2.2
 have r4:inI64 (x0.length:Int):=rngNat l5
 refine o_as rfl rfl (o_z ?_)
 refine At ?_
 obtain rfl:=sm hm
 exact ret1v rfl (AF rfl) ⟨hB.ext,(vInt r4)⟩
noncomputable def Bj (x0:List Itm) (x1:Int) (x2:Int):Option Bool :=
  bnd (bnd (atI x0 x1) fun a10=>bnd (atI x0 x2) fun a24=>if a10.cost < a24.cost then (some true) else (bnd (atI x0 x1) fun a39=>bnd (atI x0 x2) fun a53=>if a39.cost=a53.cost then (bnd (atI x0 x1) fun a68=>bnd (atI x0 x2) fun a82=>if a68.order < a82.order then (some true) else (some false)) else (some false)):Option Bool) fun y6=>some y6
theorem Dx {w:World} {A:Nat→Prop} (hA:∀ k,A k→k < w.heap.size) {vx0:Value} {x0:List Itm} (hx0:Vb w A vx0 x0) {x1:Int} (rx1:inI64 x1) {x2:Int} (rx2:inI64 x2) {r:Bool} (hm:Bj x0 x1 x2=some r) :
    Fn Try.prog 129 [vx0,(.int .i64 x1),(.int .i64 x2)] w fun v w'=>Ext w w'∧Vb w' (upA A w w') v r:=by
 obtain ⟨O,hB,hA0⟩:=enter hA
 replace hx0:=hx0.mono hA0
 obtain ⟨A4,c5,rfl⟩:=hx0.form
 refine AN Try.func129 rfl Try.ntmps129 rfl ?_
 unfold Bj at hm
 refine Ah (Ae (o_as rfl rfl (o_z ?_)))
 refine Ah ?_
 obtain ⟨y6,hy7,hm⟩:=bs hm
 refine AT (fun l' w'=>∃ (x9:Unit) (O':Lab),subs l' [(6,(.bool y6))]∧Bs w A w' O') ?_ ?_
 ·
  refine Ch (·=w) [(0,true),(1,true),(2,true),(3,true),(4,true),(5,true),(6,true),(7,true),(8,true),(9,true),(10,true),(11,true),(12,true),(13,true),(14,true),(15,true),(16,true),(17,true),(18,true),(19,true),(20,true),(21,true),(22,true),(23,true),(24,true),(25,true),(26,true),(27,true),(28,true),(29,true),(30,true),(31,true),(32,true),(33,true),(34,true),(35,true),(36,true),(37,true)] (by kernel_rfl) rfl (by kernel_rfl) rfl ?_
  refine h_mv rfl rfl rfl (h_mv rfl rfl rfl ?_)
  obtain ⟨a10,e11,hy7⟩:=bs hy7
  obtain ⟨p13,x12⟩:=AX e11
  obtain ⟨b14,o15,ce16,hA17,hl18,hd19,rfl,r21,r22,r23⟩:=hx0.elem' x12
  refine h_iaE (hA:=hA17) (hj:=(Int.toNat_of_nonneg p13).symm) (hlt:=hl18) rfl rfl rfl rfl ?_
  refine h_fa rfl rfl rfl (h_ldA (hc:=cat0 hd19) rfl rfl rfl ?_)
  refine h_mv rfl rfl rfl (h_mv rfl rfl rfl ?_)
  obtain ⟨a24,e25,hy7⟩:=bs hy7
  obtain ⟨p27,x26⟩:=AX e25
  obtain ⟨b28,o29,ce30,hA31,hl32,hd33,rfl,r35,r36,r37⟩:=hx0.elem' x26
  refine h_iaE (hA:=hA31) (hj:=(Int.toNat_of_nonneg p27).symm) (hlt:=hl32) rfl rfl rfl rfl ?_
  refine h_fa rfl rfl rfl (h_ldA (hc:=cat0 hd33) rfl rfl rfl ?_)
  refine h_ltS rfl rfl rfl rfl (fun c38=>?_) fun c38=>?_
  ·
   replace hy7:=ip hy7 c38
   refine h_mv rfl rfl rfl (h_no rfl rfl rfl rfl rfl (h_no rfl rfl rfl rfl rfl (h_no rfl rfl rfl rfl rfl (h_no rfl rfl rfl rfl rfl (h_no rfl rfl rfl rfl rfl (h_no rfl rfl rfl rfl rfl (h_no rfl rfl rfl rfl rfl (h_no rfl rfl rfl rfl rfl (h_no rfl rfl rfl rfl rfl (h_no rfl rfl rfl rfl rfl (h_no rfl rfl rfl rfl rfl (h_no rfl rfl rfl rfl rfl (h_no rfl rfl rfl rfl rfl (h_no rfl rfl rfl rfl rfl ?_))))))))))))))
   refine h_no rfl rfl rfl rfl rfl (h_no rfl rfl rfl rfl rfl (h_no rfl rfl rfl rfl rfl (h_no rfl rfl rfl rfl rfl (h_no rfl rfl rfl rfl rfl (h_no rfl rfl rfl rfl rfl (h_no rfl rfl rfl rfl rfl (h_no rfl rfl rfl rfl rfl (h_no rfl rfl rfl rfl rfl (h_no rfl rfl rfl rfl rfl (h_pt rfl rfl rfl rfl (h_as rfl rfl rfl (h_z ?_))))))))))))
   obtain rfl:=sm hy7
   exact ⟨(),_,⟨rfl,trivial⟩,hB⟩
  ·
   replace hy7:=im hy7 c38
   refine h_mv rfl rfl rfl (hwp_o rfl (AG rfl rfl (g_mv rfl rfl (hwp_o rfl (AG rfl rfl (g_mv rfl rfl (hwp_o rfl (AG rfl rfl ?_))))))))
   obtain ⟨a39,e40,hy7⟩:=bs hy7
   obtain ⟨p42,x41⟩:=AX e40
   obtain ⟨b43,o44,ce45,hA46,hl47,hd48,rfl,r50,r51,r52⟩:=hx0.elem' x41
   refine g_iaE (hA:=hA46) (hj:=(Int.toNat_of_nonneg p42).symm) (hlt:=hl47) rfl rfl rfl ?_
   refine hwp_o rfl (AG rfl rfl (g_fa rfl rfl (hwp_o rfl (AG rfl rfl (g_ldA (hc:=cat0 hd48) rfl rfl ?_)))))
   refine hwp_o rfl (AG rfl rfl (g_mv rfl rfl (hwp_o rfl (AG rfl rfl (g_mv rfl rfl (hwp_o rfl (AG rfl rfl ?_)))))))
   obtain ⟨a53,e54,hy7⟩:=bs hy7
   obtain ⟨p56,x55⟩:=AX e54
   obtain ⟨b57,o58,ce59,hA60,hl61,hd62,rfl,r64,r65,r66⟩:=hx0.elem' x55
   refine g_iaE (hA:=hA60) (hj:=(Int.toNat_of_nonneg p56).symm) (hlt:=hl61) rfl rfl rfl ?_
   refine hwp_o rfl (AG rfl rfl (g_fa rfl rfl (hwp_o rfl (AG rfl rfl (g_ldA (hc:=cat0 hd62) rfl rfl ?_)))))
   refine hwp_o rfl (AG rfl rfl (Bi (fun _ _=>DZ rfl rfl) rfl (fun c67=>?_) (fun c67=>?_)))
   ·
    replace hy7:=ip hy7 c67
    refine hwp_o rfl (AG rfl rfl (g_mv rfl rfl (hwp_o rfl (AG rfl rfl (g_mv rfl rfl (hwp_o rfl (AG rfl rfl (g_mv rfl rfl (hwp_o rfl (AG rfl rfl ?_))))))))))
    obtain ⟨a68,e69,hy7⟩:=bs hy7
    obtain ⟨p71,x70⟩:=AX e69
    obtain ⟨b72,o73,ce74,hA75,hl76,hd77,rfl,r79,r80,r81⟩:=hx0.elem' x70
    refine g_iaE (hA:=hA75) (hj:=(Int.toNat_of_nonneg p71).symm) (hlt:=hl76) rfl rfl rfl ?_
    refine hwp_o rfl (AG rfl rfl (g_fa rfl rfl (hwp_o rfl (AG rfl rfl (g_ldA (hc:=cat1 hd77) rfl rfl ?_)))))
    refine hwp_o rfl (AG rfl rfl (g_mv rfl rfl (hwp_o rfl (AG rfl rfl (g_mv rfl rfl (hwp_o rfl (AG rfl rfl ?_)))))))
    obtain ⟨a82,e83,hy7⟩:=bs hy7
    obtain ⟨p85,x84⟩:=AX e83
    obtain ⟨b86,o87,ce88,hA89,hl90,hd91,rfl,r93,r94,r95⟩:=hx0.elem' x84
    refine g_iaE (hA:=hA89) (hj:=(Int.toNat_of_nonneg p85).symm) (hlt:=hl90) rfl rfl rfl ?_
    refine hwp_o rfl (AG rfl rfl (g_fa rfl rfl (hwp_o rfl (AG rfl rfl (g_ldA (hc:=cat1 hd91) rfl rfl ?_)))))
    refine hwp_o rfl (AG rfl rfl (Bi (fun _ _=>CN rfl rfl) rfl (fun c96=>?_) (fun c96=>?_)))
    ·
     replace hy7:=ip hy7 c96
     refine hwp_o rfl (AG rfl rfl (g_pt rfl rfl rfl (h_pf rfl rfl rfl rfl (h_as rfl rfl rfl (h_z ?_)))))
     obtain rfl:=sm hy7
     exact ⟨(),_,⟨rfl,trivial⟩,hB⟩
    ·
     replace hy7:=im hy7 c96
     refine hwp_o rfl (AG rfl rfl (g_pt rfl rfl rfl (h_pf rfl rfl rfl rfl (h_as rfl rfl rfl (h_z ?_)))))
     obtain rfl:=sm hy7
     exact ⟨(),_,⟨rfl,trivial⟩,hB⟩
   ·
    replace hy7:=im hy7 c67
    refine hwp_o rfl (AG rfl rfl (g_mv rfl rfl (h_no rfl rfl rfl rfl rfl (h_no rfl rfl rfl rfl rfl (h_no rfl rfl rfl rfl rfl (h_no rfl rfl rfl rfl rfl (h_no rfl rfl rfl rfl rfl (h_no rfl rfl rfl rfl rfl (h_no rfl rfl rfl rfl rfl (h_no rfl rfl rfl rfl rfl (h_no rfl rfl rfl rfl rfl (h_no rfl rfl rfl rfl rfl (h_no rfl rfl rfl rfl rfl (hwp_o rfl ?_))))))))))))))
    refine AG rfl rfl (g_pf rfl rfl rfl (h_pf rfl rfl rfl rfl (h_as rfl rfl rfl (h_z ?_))))
    obtain rfl:=sm hy7
    exact ⟨(),_,⟨rfl,trivial⟩,hB⟩
 rintro l97 w98 ⟨x9,O99,hs100,hB⟩
 refine AW _ hs100 ?_
 refine At ?_
 obtain rfl:=sm hm
 exact ret1v rfl (AF rfl) ⟨hB.ext,vBool⟩
noncomputable def Bg (x0:List Itm) (x1:Int) (x2:Int):Option (List Itm) :=
  bnd (atI x0 x2) fun a4=>bnd (atI x0 x1) fun a18=>bnd (atI x0 x1) fun a32=>bnd (atI (x0.set (x1:Int).toNat a4) x2) fun a48=>some ((x0.set (x1:Int).toNat a4).set (x2:Int).toNat a18)
theorem Dy {w:World} {O:Lab} {A0:Option Addr} {m0 c0 i0:Nat} {x0:List Itm} (hx0:Rw i0 w O 96 (.slice A0 m0 c0) x0) {x1:Int} (rx1:inI64 x1) {x2:Int} (rx2:inI64 x2) {r:(List Itm)} (hm:Bg x0 x1 x2=some r) :
    Fn Try.prog 132 [(.slice A0 m0 c0),(.int .i64 x1),(.int .i64 x2)] w fun v w'=>∃ O',St (eT i0) w O w' O'∧Rw i0 w' O' 96 (.slice A0 m0 c0) r:=by
 obtain ⟨O0,hE,hz0,hl2⟩:=ent1 (w:=w) (O:=O) hx0.2.2
 obtain rfl:m0=x0.length:=hx0.len.1
 have hx0':=Rw.leave hx0 hz0 hl2 (j:=2) (by decide)
 have hB:Bm w O0 w O0:=Bm.refl
 refine AN Try.func132 rfl Try.ntmps132 rfl ?_
 unfold Bg at hm
 refine BK [(13,[2])] O0 ?_
 refine x_pre (fuel:=5) [] [(0,true),(1,true),(4,true),(5,true),(6,true),(7,true),(8,true),(9,true),(10,true),(11,true),(12,true)] (by kernel_rfl) rfl ?_
 refine h_mv rfl rfl rfl (h_mv rfl rfl rfl (h_mv rfl rfl rfl (h_mv rfl rfl rfl ?_)))
 obtain ⟨a4,e5,hm⟩:=bs hm
 obtain ⟨p7,x6⟩:=AX e5
 obtain ⟨b8,o9,ce10,hA11,hF14,hl12,hd13,rfl,r15,r16,r17⟩:=hx0'.elemF x6
 refine h_iaE (hA:=hA11) (hj:=(Int.toNat_of_nonneg p7).symm) (hlt:=hl12) rfl rfl rfl rfl ?_
 refine h_laB (hl:=rfl) (hb:=fun w' ⟨O',hq⟩=>(BA (hq.agree (i:=2) (by decide)) hF14 hd13)) rfl rfl rfl ?_
 refine h_mv rfl rfl rfl (h_mv rfl rfl rfl ?_)
 obtain ⟨a18,e19,hm⟩:=bs hm
 obtain ⟨p21,x20⟩:=AX e19
 obtain ⟨b22,o23,ce24,hA25,hF28,hl26,hd27,rfl,r29,r30,r31⟩:=hx0'.elemF x20
 refine h_iaE (hA:=hA25) (hj:=(Int.toNat_of_nonneg p21).symm) (hlt:=hl26) rfl rfl rfl rfl ?_
 refine h_laB (hl:=rfl) (hb:=fun w' ⟨O',hq⟩=>(BA (hq.agree (i:=2) (by decide)) hF28 hd27)) rfl rfl rfl ?_
 obtain ⟨a32,e33,hm⟩:=bs hm
 obtain ⟨p35,x34⟩:=AX e33
 obtain ⟨b36,o37,ce38,hA39,hF42,hl40,hd41,rfl,r43,r44,r45⟩:=hx0'.elemF x34
 refine h_iaE (hA:=hA39) (hj:=(Int.toNat_of_nonneg p35).symm) (hlt:=hl40) rfl rfl rfl rfl ?_
 refine AE ?_
 refine x_pre (fuel:=3) [2] [(2,true),(3,true)] (by kernel_rfl) rfl ?_
 refine h_mv rfl rfl rfl (h_mv rfl rfl rfl (AE ?_))
 refine x_one (i:=13) (by kernel_rfl) rfl ?_
 refine DN rfl hx0' (a:=a4) (Vb.ofAgg (cs:=[(.int .i64 a4.cost),(.int .i64 a4.order),(.int .i64 a4.id)]) (x:=a4) rfl ⟨rfl,r15,r16,r17⟩) hA39 rfl rfl (AK x34) fun w46 S47 hx0'=>?_
 have hZ:=S47.lst [2] (fun _ h=>by cases h;decide)
 refine x_go [] hZ (by kernel_rfl) ?_
 refine x_pre (fuel:=1) [] [(14,true)] (by kernel_rfl) rfl ?_
 obtain ⟨a48,e49,hm⟩:=bs hm
 obtain ⟨p51,x50⟩:=AX e49
 obtain ⟨b52,o53,ce54,hA55,hF58,hl56,hd57,rfl,r59,r60,r61⟩:=hx0'.elemF x50
 refine h_iaE (hA:=hA55) (hj:=(Int.toNat_of_nonneg p51).symm) (hlt:=hl56) rfl rfl rfl rfl ?_
 refine AE ?_
 refine x_one (i:=15) (by kernel_rfl) rfl ?_
 refine DN rfl hx0' (a:=a18) (Vb.ofAgg (cs:=[(.int .i64 a18.cost),(.int .i64 a18.order),(.int .i64 a18.id)]) (x:=a18) rfl ⟨rfl,r29,r30,r31⟩) hA55 rfl rfl (AK x50) fun w62 S63 hx0'=>?_
 refine x_end (by kernel_rfl) ?_
 refine x_nil (by kernel_rfl) ?_
 obtain rfl:=sm hm
 replace hB:=(hB.st S47).st S63
 obtain ⟨O',hS',hz,hl⟩:=hE.leave (fun q=>if q=2 then i0 else 0) rfl hB
 exact ret0n rfl  ⟨O',hS',(Rw.leave hx0' hz (hl 2 (by decide) (by decide)) hx0.2.2)⟩
noncomputable def Cl (x0:BxR 98 96 Itm) (x1:An 96 Itm):Option (BxR 98 96 Itm) :=
  bnd (appI 24 x0.l [x1.x]) fun u31=>some (⟨u31⟩:BxR 98 96 Itm)
theorem GA {w:World} {O:Lab} {p0 i0:Nat} {x0:BxR 98 96 Itm} (hx0:Ob i0 w O (.pointer (some ⟨p0,0,none⟩)) x0) {vx1:Value} {x1:An 96 Itm} (hx1:Vb w (Fr 0 w O) vx1 x1) {r:(BxR 98 96 Itm)} (hm:Cl x0 x1=some r) :
    Fn Try.prog 131 [(.pointer (some ⟨p0,0,none⟩)),vx1] w fun v w'=>∃ O',St (eT i0) w O w' O'∧Ob i0 w' O' (.pointer (some ⟨p0,0,none⟩)) r:=by
 obtain ⟨O0,hE,hz0,hl2⟩:=ent1 (w:=w) (O:=O) hx0.2
 have hx0':=Ob.leave hx0 hz0 hl2 (j:=2) (by decide)
 have hB:Bm w O0 w O0:=Bm.refl
 replace hx1:=hx1.mono hz0
 obtain ⟨v3,rfl,h4⟩:=hx1.any
 obtain ⟨cs5,rfl,rfl,r6,r7,r8⟩:=h4
 refine AN Try.func131 rfl Try.ntmps131 rfl ?_
 unfold Cl at hm
 refine Ah (Ae (o_mv rfl rfl (o_taA rfl rfl ?_)))
 refine o_mv rfl rfl (o_ex rfl rfl rfl (o_ex rfl rfl rfl (BR 3 O0 rfl fun g9 w10 O11 S12 h13=>?_)))
 refine AL h13 rfl rfl rfl (Nat.le_of_ble_eq_true rfl) (by first|exact allOne rfl|simp [Value.cells,Value.oneCell',AJ]) fun w14 S15 h13=>?_
 replace h13:Lc 3 w14 O11 g9 96 [(.int .i64 x1.x.cost),(.int .i64 x1.x.order),(.int .i64 x1.x.id)]:=h13
 refine o_as rfl rfl (o_z ?_)
 refine Ah (Ae (o_mv rfl rfl (o_z ?_)))
 refine Ar rfl ?_
 replace hx0':=(hx0'.st S12).st S15
 obtain ⟨O16,v20,S17,ha19,h18,h21⟩:=BxR.opn hx0' 2 4 (by decide)
 obtain ⟨A22,c23,rfl⟩:=h21.form
 refine BK [(5,[]),(6,[4])] O16 ?_
 refine x_pre (fuel:=5) [] [(1,true),(2,true),(3,true),(4,true)] (by kernel_rfl) rfl ?_
 refine h_mv rfl rfl rfl (h_nc rfl rfl rfl (h_ldC (hc:=fun w' ⟨O',hq⟩=>Blk.cell (i:=0) ((h18.st hq (by decide)).1) rfl) rfl rfl rfl ?_))
 replace h13:=h13.st S17
 refine h_laB (hl:=rfl) (hb:=fun w' ⟨O',hq⟩=>((h13.st hq (by decide)).1).cellsAt) rfl rfl rfl ?_
 refine AE ?_
 refine x_pre (fuel:=4) [4] [(0,true)] (by kernel_rfl) rfl ?_
 refine h_mv rfl rfl rfl (AE ?_)
 refine x_one (i:=5) (by kernel_rfl) rfl ?_
 refine AR 5 (by decide) O16 (xs:=([x1.x]:List Itm)) rfl rfl rfl rfl ⟨(Vb.ofAgg (cs:=[(.int .i64 x1.x.cost),(.int .i64 x1.x.order),(.int .i64 x1.x.id)]) (x:=x1.x) rfl ⟨rfl,r6,r7,r8⟩),trivial⟩ (by decide) (by decide) rfl fun g25 w26 O27 S28 h29=>?_
 have hZ:=S28.lst [] (fun _ h=>h.elim)
 refine x_go [(6,[4])] hZ (by kernel_rfl) ?_
 refine x_one (i:=6) (by kernel_rfl) rfl ?_
 obtain ⟨u31,e32,hm⟩:=bs hm
 obtain ⟨e32,e33,e34⟩:=AO e32
 replace h21:=h21.st S28
 refine AQ rfl h21 (h29.rd) rfl rfl (by decide) e33 e34 rfl fun A35 c36 w37 O38 S39 h40=>?_
 rw [← e32] at h40 ⊢
 have hZ:=S39.lst [4] (fun _ h=>by cases h;decide)
 refine x_go [] hZ (by kernel_rfl) ?_
 refine x_pre (fuel:=1) [] [(7,true)] (by kernel_rfl) rfl ?_
 refine h_nc rfl rfl rfl (AE ?_)
 refine x_one (i:=8) (by kernel_rfl) rfl ?_
 replace h18:=(h18.st S28).st S39
 refine AL h18 rfl rfl rfl (Nat.le_of_ble_eq_true rfl) (by first|exact allOne rfl|simp [Value.cells,Value.oneCell',AJ]) fun w42 S43 h18=>?_
 replace h18:Lc 2 w42 O38 p0 98 [(.slice A35 u31.length c36)]:=h18
 refine x_end (by kernel_rfl) ?_
 refine x_nil (by kernel_rfl) ?_
 replace h40:=h40.st S43
 obtain ⟨O44,S45,hz47,ha48,h46⟩:=BxR.shut (x:=(⟨u31⟩:BxR 98 96 Itm)) (l0:=2) (l1:=4) (by decide) h18 h40
 obtain rfl:=sm hm
 replace hB:=((((((hB.st S12).st S15).st S17).st S28).st S39).st S43).st S45
 obtain ⟨O',hS',hz,hl⟩:=hE.leave (fun q=>if q=2 then i0 else 0) rfl hB
 exact ret0n rfl  ⟨O',hS',(Ob.leave h46 hz (hl 2 (by decide) (by decide)) hx0.2)⟩
noncomputable def Cp (x0:BxR 98 96 Itm):Option ((An 96 Itm)×(BxR 98 96 Itm)) :=
  bnd (chkI ((x0.l.length:Int) - 1)) fun n13=>bnd (atI x0.l n13) fun a16=>bnd (cutI x0.l 0 n13) fun u37=>some ((⟨a16⟩:An 96 Itm),(⟨u37⟩:BxR 98 96 Itm))
theorem GR {w:World} {O:Lab} {p0 i0:Nat} {x0:BxR 98 96 Itm} (hx0:Ob i0 w O (.pointer (some ⟨p0,0,none⟩)) x0) {r:(An 96 Itm)×(BxR 98 96 Itm)} (hm:Cp x0=some r) :
    Fn Try.prog 130 [(.pointer (some ⟨p0,0,none⟩))] w fun v w'=>∃ O',St (eT i0) w O w' O'∧Ob i0 w' O' (.pointer (some ⟨p0,0,none⟩)) r.2∧Vb w' (Fr 0 w' O') v r.1:=by
 obtain ⟨O0,hE,hz0,hl2⟩:=ent1 (w:=w) (O:=O) hx0.2
 have hx0':=Ob.leave hx0 hz0 hl2 (j:=2) (by decide)
 have hB:Bm w O0 w O0:=Bm.refl
 refine AN Try.func130 rfl Try.ntmps130 rfl ?_
 unfold Cp at hm
 refine Ah (Ae (o_as rfl rfl (o_z ?_)))
 refine Ah (Ae (o_mv rfl rfl (o_nc rfl rfl ?_)))
 obtain ⟨O2,v6,S3,ha5,h4,h7⟩:=BxR.opn hx0' 2 3 (by decide)
 obtain ⟨A8,c9,rfl⟩:=h7.form
 refine o_ld (hc:=Blk.cell (i:=0) (h4.1) rfl) rfl rfl ?_
 refine o_ln rfl rfl ?_
 have l12:x0.l.length≤9223372036854775807:=Nat.le_trans h7.len.2.1 h7.len.2.2
 have r11:inI64 (x0.l.length:Int):=rngNat l12
 obtain ⟨n13,e14,hm⟩:=bs hm
 have r15:=(Bl e14)
 refine o_sbE (he:=e14) rfl rfl rfl ?_
 refine o_as rfl rfl (o_z ?_)
 refine Ah (Ae (o_mv rfl rfl (o_nc rfl rfl (o_ld (hc:=Blk.cell (i:=0) (h4.1) rfl) rfl rfl ?_))))
 refine o_mv rfl rfl ?_
 obtain ⟨a16,e17,hm⟩:=bs hm
 obtain ⟨p19,x18⟩:=AX e17
 obtain ⟨b20,o21,ce22,hA23,hl24,hd25,rfl,r27,r28,r29⟩:=h7.elem x18
 refine o_iaE (hA:=hA23) (hj:=(Int.toNat_of_nonneg p19).symm) (hlt:=hl24) rfl rfl rfl ?_
 refine o_la (hl:=rfl) (hc:=hd25) rfl rfl ?_
 refine BR 4 O2 rfl fun g30 w31 O32 S33 h34=>?_
 refine AL h34 rfl rfl rfl (Nat.le_of_ble_eq_true rfl) (by first|exact allOne rfl|simp [Value.cells,Value.oneCell',AJ]) fun w35 S36 h34=>?_
 replace h34:Lc 4 w35 O32 g30 96 [(.int .i64 a16.cost),(.int .i64 a16.order),(.int .i64 a16.id)]:=h34
 refine o_z ?_
 refine Ah (Ae (o_mv rfl rfl (o_mv rfl rfl (o_nc rfl rfl ?_))))
 replace h4:=(h4.st S33).st S36
 refine o_ld (hc:=Blk.cell (i:=0) (h4.1) rfl) rfl rfl ?_
 refine o_mv rfl rfl ?_
 obtain ⟨u37,e38,hm⟩:=bs hm
 replace h7:=(h7.st S33).st S36
 obtain ⟨h39,e40⟩:=cutRw h7 e38
 refine Nk (hc:=e40) rfl rfl rfl ?_
 refine o_nc rfl rfl (AL h4 rfl rfl rfl (Nat.le_of_ble_eq_true rfl) (by first|exact allOne rfl|simp [Value.cells,Value.oneCell',AJ]) fun w42 S43 h4=>?_)
 replace h4:Lc 2 w42 O32 p0 98 [(.slice A8 u37.length c9)]:=h4
 refine o_z ?_
 refine Ah (Ae ?_)
 replace h34:=h34.st S43
 refine o_la (hl:=rfl) (hc:=(h34.1).cellsAt) rfl rfl ?_
 refine o_miA rfl rfl ?_
 refine o_as rfl rfl (o_z ?_)
 refine At ?_
 replace h39:=h39.st S43
 obtain ⟨O44,S45,hz47,ha48,h46⟩:=BxR.shut (x:=(⟨u37⟩:BxR 98 96 Itm)) (l0:=2) (l1:=3) (by decide) h4 h39
 obtain rfl:=sm hm
 replace hB:=((((hB.st S3).st S33).st S36).st S43).st S45
 obtain ⟨O',hS',hz,hl⟩:=hE.leave (fun q=>if q=2 then i0 else 0) rfl hB
 exact ret1v rfl (AF rfl) ⟨O',hS',(Ob.leave h46 hz (hl 2 (by decide) (by decide)) hx0.2),(vAny (Vb.ofAgg (cs:=[(.int .i64 a16.cost),(.int .i64 a16.order),(.int .i64 a16.id)]) (x:=a16) rfl ⟨rfl,r27,r28,r29⟩))⟩
noncomputable def Cc (x0:BxR 98 96 Itm) (x1:Int):Option (BxR 98 96 Itm) :=
  bnd (lop (ρ:=(BxR 98 96 Itm)) (fun (s5:Int×(BxR 98 96 Itm))=>bnd (chkI (s5.1 - 1)) fun n22=>bnd (quoT n22 2) fun n25=>bnd (if n25=s5.1 then (some true) else (bnd (Bj s5.2.l s5.1 n25) fun q42=>if q42=true then some false else some true):Option Bool) fun y28=>if y28=true then (some (.brk (s5.1,s5.2))) else (bnd (Bg s5.2.l n25 s5.1) fun q73=>some (.next (n25,(⟨q73⟩:BxR 98 96 Itm))))) (x1,x0)) fun res3=>fin res3 fun (s90:Int×(BxR 98 96 Itm))=>some s90.2
theorem GS {w:World} {O:Lab} {p0 i0:Nat} {x0:BxR 98 96 Itm} (hx0:Ob i0 w O (.pointer (some ⟨p0,0,none⟩)) x0) {x1:Int} (rx1:inI64 x1) {r:(BxR 98 96 Itm)} (hm:Cc x0 x1=some r) :
    Fn Try.prog 68 [(.iface 94 (.pointer (some ⟨p0,0,none⟩))),(.int .i64 x1)] w fun v w'=>∃ O',St (eT i0) w O w' O'∧Ob i0 w' O' (.pointer (some ⟨p0,0,none⟩)) r:=by
 obtain ⟨O0,hE,hz0,hl2⟩:=ent1 (w:=w) (O:=O) hx0.2
 have hx0':=Ob.leave hx0 hz0 hl2 (j:=2) (by decide)
 have hB:Bm w O0 w O0:=Bm.refl
 refine AN Try.func68 rfl Try.ntmps68 rfl ?_
 unfold Cc at hm
 obtain ⟨res3,hL4,hm⟩:=bs hm
 refine AT (aft res3 (fun (s5:Int×(BxR 98 96 Itm)) (x6:Unit)=>[]) (fun s5 x6 w'=>∃ O':Lab,Bm w O0 w' O'∧Ob 2 w' O' (.pointer (some ⟨p0,0,none⟩)) s5.2∧inI64 s5.1)) ?_ ?_
 ·
  refine Al (Er (σ:=Int×(BxR 98 96 Itm)) (X:=Unit) hL4 (fun (s5:Int×(BxR 98 96 Itm)) (x6:Unit)=>[(0,(.iface 94 (.pointer (some ⟨p0,0,none⟩)))),(1,(.int .i64 s5.1))]) _ (fun s5 x6 w'=>∃ O':Lab,Bm w O0 w' O'∧Ob 2 w' O' (.pointer (some ⟨p0,0,none⟩)) s5.2∧inI64 s5.1) _ () ⟨O0,hB,hx0',rx1⟩ ⟨rfl,rfl,trivial⟩ ?_)
  rintro s5 x6 w9 cc11 ⟨O10,hB,h21,r20⟩ hf13 hret14 hbrk15
  refine Al (Ah (Ae (o_mv rfl rfl ?_)))
  obtain ⟨n22,e23,hf13⟩:=bs hf13
  have r24:=(Bl e23)
  refine o_sbE (he:=e23) rfl rfl rfl ?_
  obtain ⟨n25,e26,hf13⟩:=bs hf13
  have r27:=KI e26 r24
  refine o_qtE (he:=e26) (hr:=r24) rfl rfl rfl ?_
  refine o_as rfl rfl (o_z ?_)
  refine Ah (Ah ?_)
  obtain ⟨y28,hy29,hf13⟩:=bs hf13
  refine AT (fun l' w'=>∃ (x31:Unit) (O':Lab),subs l' [(0,(.iface 94 (.pointer (some ⟨p0,0,none⟩)))),(1,(.int .i64 s5.1)),(4,(.int .i64 n25)),(17,(.bool y28))]∧Bm w O0 w' O'∧Ob 2 w' O' (.pointer (some ⟨p0,0,none⟩)) s5.2) ?_ ?_
  ·
   refine Ae (o_mv rfl rfl (o_mv rfl rfl (o_eeS rfl rfl rfl (fun c32=>?_) fun c32=>?_)))
   ·
    replace hy29:=ip hy29 c32
    refine o_mv rfl rfl (AC rfl rfl rfl rfl (AC rfl rfl rfl rfl (AC rfl rfl rfl rfl (AC rfl rfl rfl rfl (AC rfl rfl rfl rfl (o_pt rfl rfl rfl (o_z ?_)))))))
    obtain rfl:=sm hy29
    exact ⟨(),_,⟨rfl,rfl,rfl,rfl,trivial⟩,hB,h21⟩
   ·
    replace hy29:=im hy29 c32
    refine o_mv rfl rfl (AD rfl rfl (o_mv rfl rfl (AD rfl rfl (o_mv rfl rfl (AD rfl rfl (o_mv rfl rfl (AD rfl rfl ?_)))))))
    obtain ⟨O33,v37,S34,ha36,h35,h38⟩:=BxR.opn h21 2 3 (by decide)
    obtain ⟨A39,c40,rfl⟩:=h38.form
    obtain ⟨q42,e43,hy29⟩:=bs hy29
    refine Hl (O:=O33) (A:=All w9) (R:=fun w' F v=>Vb w' F v q42) (Dx (fun _ h=>h) (h38).all r20 r27 e43) (Et (Blk.cell (i:=0) h35.1 rfl)) rfl rfl rfl fun v48 w44 O45 S46 h47=>?_
    obtain rfl:=h47.bool
    cases q42
    case false =>
     replace hy29:=iF hy29
     refine AD rfl rfl (o_nf rfl rfl (o_pf rfl rfl rfl (o_z ?_)))
     replace h35:=h35.st S46
     replace h38:=h38.st S46
     obtain ⟨O49,S50,hz52,ha53,h51⟩:=BxR.shut (x:=s5.2) (l0:=2) (l1:=3) (by decide) h35 h38
     obtain rfl:=sm hy29
     replace hB:=((hB.st S34).st S46).st S50
     exact ⟨(),_,⟨rfl,rfl,rfl,rfl,trivial⟩,hB,h51⟩
    replace hy29:=iT hy29
    refine AD rfl rfl (o_nt rfl rfl (o_pf rfl rfl rfl (o_z ?_)))
    replace h35:=h35.st S46
    replace h38:=h38.st S46
    obtain ⟨O54,S55,hz57,ha58,h56⟩:=BxR.shut (x:=s5.2) (l0:=2) (l1:=3) (by decide) h35 h38
    obtain rfl:=sm hy29
    replace hB:=((hB.st S34).st S46).st S55
    exact ⟨(),_,⟨rfl,rfl,rfl,rfl,trivial⟩,hB,h56⟩
  rintro l59 w60 ⟨x31,O61,hs62,hB,h21⟩
  refine AW _ hs62 ?_
  refine Cu rfl (fun c63=>?_) (fun c63=>?_)
  ·
   replace hf13:=ip hf13 c63
   refine Au ?_
   obtain rfl:=sm hf13
   refine (?_:Exists _)
   exact ⟨_,(),hbrk15 _ rfl,trivial,_,hB,h21,r20⟩
  ·
   replace hf13:=im' hf13 c63
   refine Am (Ah (Ae (o_mv rfl rfl (o_mv rfl rfl (o_mv rfl rfl ?_)))))
   obtain ⟨O64,v68,S65,ha67,h66,h69⟩:=BxR.opn h21 2 3 (by decide)
   obtain ⟨A70,c71,rfl⟩:=h69.form
   obtain ⟨q73,e74,hf13⟩:=bs hf13
   refine Hk (O:=O64) (Dy h69 r27 r20 e74) (Et (Blk.cell (i:=0) h66.1 rfl)) rfl rfl rfl fun v79 w75 O76 S77 h80=>?_
   refine o_z ?_
   refine Ae (o_mv rfl rfl (o_as rfl rfl (o_z ?_)))
   replace h66:=h66.st S77
   obtain ⟨O81,S82,hz84,ha85,h83⟩:=BxR.shut (x:=(⟨q73⟩:BxR 98 96 Itm)) (l0:=2) (l1:=3) (by decide) (by have q:=h66;rw [← h80.len.1.symm] at q;exact q) h80.relen
   obtain rfl:=sm hf13
   refine (?_:Exists _)
   replace hB:=((hB.st S65).st S77).st S82
   exact ⟨_,(),rfl,⟨rfl,rfl,trivial⟩,_,hB,h83,r27⟩
 rintro l86 w87 ⟨s90,x91,rfl,hs89,O88,hB,h21,r20⟩
 replace hm:=Br hm
 obtain rfl:=sm hm
 obtain ⟨O',hS',hz,hl⟩:=hE.leave (fun q=>if q=2 then i0 else 0) rfl hB
 exact ret0n rfl  ⟨O',hS',(Ob.leave h21 hz (hl 2 (by decide) (by decide)) hx0.2)⟩
noncomputable def BU (x0:BxR 98 96 Itm) (x1:Int) (x2:Int):Option (Bool×(BxR 98 96 Itm)) :=
  bnd (lop (ρ:=Bool×(BxR 98 96 Itm)) (fun (s6:Int×(BxR 98 96 Itm))=>bnd (chkI (2 * s6.1)) fun n23=>bnd (chkI (n23 + 1)) fun n26=>bnd (if x2≤n26 then (some true) else (if n26 < 0 then (some true) else (some false)):Option Bool) fun y29=>if y29=true then (some (.brk (s6.1,s6.2))) else (bnd (bnd (chkI (n26 + 1)) fun n45=>bnd (if n45 < x2 then (bnd (Bj s6.2.l n45 n26) fun q62=>if q62=true then some true else some false) else (some false):Option Bool) fun y48=>if y48=true then (some n45) else (some n26):Option Int) fun y40=>bnd (Bj s6.2.l y40 s6.1) fun q97=>if q97=true then bnd (Bg s6.2.l s6.1 y40) fun q109=>some (.next (y40,(⟨q109⟩:BxR 98 96 Itm))) else some (.brk (s6.1,s6.2)))) (x1,x0)) fun res4=>fin res4 fun (s126:Int×(BxR 98 96 Itm))=>bnd (if x1 < s126.1 then (some true) else (some false):Option Bool) fun y128=>some (y128,s126.2)
theorem Gh {w:World} {O:Lab} {p0 i0:Nat} {x0:BxR 98 96 Itm} (hx0:Ob i0 w O (.pointer (some ⟨p0,0,none⟩)) x0) {x1:Int} (rx1:inI64 x1) {x2:Int} (rx2:inI64 x2) {r:Bool×(BxR 98 96 Itm)} (hm:BU x0 x1 x2=some r) :
    Fn Try.prog 67 [(.iface 94 (.pointer (some ⟨p0,0,none⟩))),(.int .i64 x1),(.int .i64 x2)] w fun v w'=>∃ O',St (eT i0) w O w' O'∧Ob i0 w' O' (.pointer (some ⟨p0,0,none⟩)) r.2∧Vb w' (Fr 0 w' O') v r.1:=by
 obtain ⟨O0,hE,hz0,hl2⟩:=ent1 (w:=w) (O:=O) hx0.2
 have hx0':=Ob.leave hx0 hz0 hl2 (j:=2) (by decide)
 have hB:Bm w O0 w O0:=Bm.refl
 refine AN Try.func67 rfl Try.ntmps67 rfl ?_
 unfold BU at hm
 refine Ah (Ae (o_as rfl rfl (o_z ?_)))
 refine Ah (Ae (o_mv rfl rfl (o_as rfl rfl (o_z ?_))))
 refine Ah ?_
 obtain ⟨res4,hL5,hm⟩:=bs hm
 refine AT (aft res4 (fun (s6:Int×(BxR 98 96 Itm)) (x7:Unit)=>[(1,(.int .i64 x1)),(7,(.int .i64 s6.1))]) (fun s6 x7 w'=>∃ O':Lab,Bm w O0 w' O'∧Ob 2 w' O' (.pointer (some ⟨p0,0,none⟩)) s6.2∧inI64 s6.1)) ?_ ?_
 ·
  refine Al (Er (σ:=Int×(BxR 98 96 Itm)) (X:=Unit) hL5 (fun (s6:Int×(BxR 98 96 Itm)) (x7:Unit)=>[(0,(.iface 94 (.pointer (some ⟨p0,0,none⟩)))),(1,(.int .i64 x1)),(2,(.int .i64 x2)),(7,(.int .i64 s6.1))]) _ (fun s6 x7 w'=>∃ O':Lab,Bm w O0 w' O'∧Ob 2 w' O' (.pointer (some ⟨p0,0,none⟩)) s6.2∧inI64 s6.1) _ () ⟨O0,hB,hx0',rx1⟩ ⟨rfl,rfl,rfl,rfl,trivial⟩ ?_)
  rintro s6 x7 w10 cc12 ⟨O11,hB,h22,r21⟩ hf14 hret15 hbrk16
  refine Al (Ah (Ae (o_mv rfl rfl ?_)))
  obtain ⟨n23,e24,hf14⟩:=bs hf14
  have r25:=(Bl e24)
  refine o_mlE (he:=e24) rfl rfl rfl ?_
  obtain ⟨n26,e27,hf14⟩:=bs hf14
  have r28:=(Bl e27)
  refine o_adE (he:=e27) rfl rfl rfl ?_
  refine o_as rfl rfl (o_z ?_)
  refine Ah (Ah ?_)
  obtain ⟨y29,hy30,hf14⟩:=bs hf14
  refine AT (fun l' w'=>∃ (x32:Unit) (O':Lab),subs l' [(0,(.iface 94 (.pointer (some ⟨p0,0,none⟩)))),(1,(.int .i64 x1)),(2,(.int .i64 x2)),(7,(.int .i64 s6.1)),(8,(.int .i64 n26)),(21,(.bool y29))]∧Bm w O0 w' O'∧Ob 2 w' O' (.pointer (some ⟨p0,0,none⟩)) s6.2) ?_ ?_
  ·
   refine Ae (o_mv rfl rfl (o_mv rfl rfl (o_geS rfl rfl rfl (fun c33=>?_) fun c33=>?_)))
   ·
    replace hy30:=ip hy30 c33
    refine o_mv rfl rfl (AC rfl rfl rfl rfl (AC rfl rfl rfl rfl (o_pt rfl rfl rfl (o_z ?_))))
    obtain rfl:=sm hy30
    exact ⟨(),_,⟨rfl,rfl,rfl,rfl,rfl,rfl,trivial⟩,hB,h22⟩
   ·
    replace hy30:=im hy30 c33
    refine o_mv rfl rfl (AD rfl rfl (o_mv rfl rfl (AD rfl rfl (o_ltS rfl rfl rfl (fun c34=>?_) fun c34=>?_))))
    ·
     replace hy30:=ip hy30 c34
     refine o_pf rfl rfl rfl (o_z ?_)
     obtain rfl:=sm hy30
     exact ⟨(),_,⟨rfl,rfl,rfl,rfl,rfl,rfl,trivial⟩,hB,h22⟩
    ·
     replace hy30:=im hy30 c34
     refine o_pf rfl rfl rfl (o_z ?_)
     obtain rfl:=sm hy30
     exact ⟨(),_,⟨rfl,rfl,rfl,rfl,rfl,rfl,trivial⟩,hB,h22⟩
  rintro l35 w36 ⟨x32,O37,hs38,hB,h22⟩
  refine AW _ hs38 ?_
  refine Cu rfl (fun c39=>?_) (fun c39=>?_)
  ·
   replace hf14:=ip hf14 c39
   refine Au ?_
   obtain rfl:=sm hf14
   refine (?_:Exists _)
   exact ⟨_,(),hbrk16 _ rfl,⟨rfl,rfl,trivial⟩,_,hB,h22,r21⟩
  ·
   replace hf14:=im' hf14 c39
   refine Am (Ah (Ae (o_mv rfl rfl (o_as rfl rfl (o_z ?_)))))
   refine Ah ?_
   obtain ⟨y40,hy41,hf14⟩:=bs hf14
   refine AT (fun l' w'=>∃ (x43:Unit) (O':Lab),subs l' [(0,(.iface 94 (.pointer (some ⟨p0,0,none⟩)))),(1,(.int .i64 x1)),(2,(.int .i64 x2)),(7,(.int .i64 s6.1)),(9,(.int .i64 y40))]∧Bm w O0 w' O'∧Ob 2 w' O' (.pointer (some ⟨p0,0,none⟩)) s6.2∧inI64 y40) ?_ ?_
   ·
    refine Ah (Ae (o_mv rfl rfl ?_))
    obtain ⟨n45,e46,hy41⟩:=bs hy41
    have r47:=(Bl e46)
    refine o_adE (he:=e46) rfl rfl rfl ?_
    refine o_as rfl rfl (o_z ?_)
    refine Ah ?_
    obtain ⟨y48,hy49,hy41⟩:=bs hy41
    refine AT (fun l' w'=>∃ (x51:Unit) (O':Lab),subs l' [(0,(.iface 94 (.pointer (some ⟨p0,0,none⟩)))),(1,(.int .i64 x1)),(2,(.int .i64 x2)),(7,(.int .i64 s6.1)),(9,(.int .i64 n26)),(10,(.int .i64 n45)),(33,(.bool y48))]∧Bm w O0 w' O'∧Ob 2 w' O' (.pointer (some ⟨p0,0,none⟩)) s6.2) ?_ ?_
    ·
     refine Ae (o_mv rfl rfl (o_mv rfl rfl (o_ltS rfl rfl rfl (fun c52=>?_) fun c52=>?_)))
     ·
      replace hy49:=ip hy49 c52
      refine o_mv rfl rfl (AD rfl rfl (o_mv rfl rfl (AD rfl rfl (o_mv rfl rfl (AD rfl rfl (o_mv rfl rfl (AD rfl rfl ?_)))))))
      obtain ⟨O53,v57,S54,ha56,h55,h58⟩:=BxR.opn h22 2 3 (by decide)
      obtain ⟨A59,c60,rfl⟩:=h58.form
      obtain ⟨q62,e63,hy49⟩:=bs hy49
      refine Hl (O:=O53) (A:=All w36) (R:=fun w' F v=>Vb w' F v q62) (Dx (fun _ h=>h) (h58).all r47 r28 e63) (Et (Blk.cell (i:=0) h55.1 rfl)) rfl rfl rfl fun v68 w64 O65 S66 h67=>?_
      obtain rfl:=h67.bool
      cases q62
      case false =>
       replace hy49:=iF hy49
       refine o_pt rfl rfl rfl (o_z ?_)
       replace h55:=h55.st S66
       replace h58:=h58.st S66
       obtain ⟨O69,S70,hz72,ha73,h71⟩:=BxR.shut (x:=s6.2) (l0:=2) (l1:=3) (by decide) h55 h58
       obtain rfl:=sm hy49
       replace hB:=((hB.st S54).st S66).st S70
       exact ⟨(),_,⟨rfl,rfl,rfl,rfl,rfl,rfl,rfl,trivial⟩,hB,h71⟩
      replace hy49:=iT hy49
      refine o_pt rfl rfl rfl (o_z ?_)
      replace h55:=h55.st S66
      replace h58:=h58.st S66
      obtain ⟨O74,S75,hz77,ha78,h76⟩:=BxR.shut (x:=s6.2) (l0:=2) (l1:=3) (by decide) h55 h58
      obtain rfl:=sm hy49
      replace hB:=((hB.st S54).st S66).st S75
      exact ⟨(),_,⟨rfl,rfl,rfl,rfl,rfl,rfl,rfl,trivial⟩,hB,h76⟩
     ·
      replace hy49:=im hy49 c52
      refine o_mv rfl rfl (AC rfl rfl rfl rfl (AC rfl rfl rfl rfl (AC rfl rfl rfl rfl (AC rfl rfl rfl rfl (o_pf rfl rfl rfl (o_z ?_))))))
      obtain rfl:=sm hy49
      exact ⟨(),_,⟨rfl,rfl,rfl,rfl,rfl,rfl,rfl,trivial⟩,hB,h22⟩
    rintro l79 w80 ⟨x51,O81,hs82,hB,h67⟩
    refine AW _ hs82 ?_
    refine Cu rfl (fun c83=>?_) (fun c83=>?_)
    ·
     replace hy41:=ip hy41 c83
     refine Ae (o_mv rfl rfl (o_as rfl rfl (o_z ?_)))
     obtain rfl:=sm hy41
     exact ⟨(),_,⟨rfl,rfl,rfl,rfl,rfl,trivial⟩,hB,h67,r47⟩
    ·
     replace hy41:=im' hy41 c83
     refine Am ?_
     obtain rfl:=sm hy41
     exact ⟨(),_,⟨rfl,rfl,rfl,rfl,rfl,trivial⟩,hB,h67,r28⟩
   rintro l84 w85 ⟨x43,O86,hs87,hB,h62,r44⟩
   refine AW _ hs87 ?_
   refine Ah (Ah (Ae (o_mv rfl rfl (o_mv rfl rfl (o_mv rfl rfl ?_)))))
   obtain ⟨O88,v92,S89,ha91,h90,h93⟩:=BxR.opn h62 2 3 (by decide)
   obtain ⟨A94,c95,rfl⟩:=h93.form
   obtain ⟨q97,e98,hf14⟩:=bs hf14
   refine Hl (O:=O88) (A:=All w85) (R:=fun w' F v=>Vb w' F v q97) (Dx (fun _ h=>h) (h93).all r44 r21 e98) (Et (Blk.cell (i:=0) h90.1 rfl)) rfl rfl rfl fun v103 w99 O100 S101 h102=>?_
   obtain rfl:=h102.bool
   cases q97
   case false =>
    replace hf14:=iF hf14
    refine o_nf rfl rfl (o_z ?_)
    refine Ar rfl (Au ?_)
    replace h90:=h90.st S101
    replace h93:=h93.st S101
    obtain ⟨O104,S105,hz107,ha108,h106⟩:=BxR.shut (x:=s6.2) (l0:=2) (l1:=3) (by decide) h90 h93
    obtain rfl:=sm hf14
    refine (?_:Exists _)
    replace hB:=((hB.st S89).st S101).st S105
    exact ⟨_,(),hbrk16 _ rfl,⟨rfl,rfl,trivial⟩,_,hB,h106,r21⟩
   replace hf14:=iT hf14
   refine o_nt rfl rfl (o_z ?_)
   refine Aj rfl (Am (Ah (Ae (o_mv rfl rfl (o_mv rfl rfl (o_mv rfl rfl ?_))))))
   obtain ⟨q109,e110,hf14⟩:=bs hf14
   replace h90:=h90.st S101
   replace h93:=h93.st S101
   refine Hk (O:=O100) (Dy h93 r21 r44 e110) (Et (Blk.cell (i:=0) h90.1 rfl)) rfl rfl rfl fun v115 w111 O112 S113 h116=>?_
   refine o_z ?_
   refine Ae (o_mv rfl rfl (o_as rfl rfl (o_z ?_)))
   replace h90:=h90.st S113
   obtain ⟨O117,S118,hz120,ha121,h119⟩:=BxR.shut (x:=(⟨q109⟩:BxR 98 96 Itm)) (l0:=2) (l1:=3) (by decide) (by have q:=h90;rw [← h116.len.1.symm] at q;exact q) h116.relen
   obtain rfl:=sm hf14
   refine (?_:Exists _)
   replace hB:=(((hB.st S89).st S101).st S113).st S118
   exact ⟨_,(),rfl,⟨rfl,rfl,rfl,rfl,trivial⟩,_,hB,h119,r44⟩
 rintro l122 w123 ⟨s126,x127,rfl,hs125,O124,hB,h22,r21⟩
 replace hm:=Br hm
 refine AW _ hs125 ?_
 refine Ah ?_
 obtain ⟨y128,hy129,hm⟩:=bs hm
 refine AT (fun l' w'=>∃ (x131:Unit) (O':Lab),subs l' [(6,(.bool y128))]∧Bm w O0 w' O'∧Ob 2 w' O' (.pointer (some ⟨p0,0,none⟩)) s126.2) ?_ ?_
 ·
  refine Ae (o_mv rfl rfl (o_mv rfl rfl (o_gtS rfl rfl rfl (fun c132=>?_) fun c132=>?_)))
  ·
   replace hy129:=ip hy129 c132
   refine o_as rfl rfl (o_z ?_)
   obtain rfl:=sm hy129
   exact ⟨(),_,⟨rfl,trivial⟩,hB,h22⟩
  ·
   replace hy129:=im hy129 c132
   refine o_as rfl rfl (o_z ?_)
   obtain rfl:=sm hy129
   exact ⟨(),_,⟨rfl,trivial⟩,hB,h22⟩
 rintro l133 w134 ⟨x131,O135,hs136,hB,h22⟩
 refine AW _ hs136 ?_
 refine At ?_
 obtain rfl:=sm hm
 obtain ⟨O',hS',hz,hl⟩:=hE.leave (fun q=>if q=2 then i0 else 0) rfl hB
 exact ret1v rfl (AF rfl) ⟨O',hS',(Ob.leave h22 hz (hl 2 (by decide) (by decide)) hx0.2),vBool⟩
noncomputable def BD (x0:BxR 98 96 Itm) (x1:An 96 Itm):Option (BxR 98 96 Itm) :=
  bnd (Cl x0 (⟨x1.x⟩:An 96 Itm)) fun q9=>bnd (Bh q9.l) fun q26=>bnd (chkI (q26 - 1)) fun n34=>bnd (Cc q9 n34) fun q42=>some q42
theorem Gi {w:World} {O:Lab} {p0 i0:Nat} {x0:BxR 98 96 Itm} (hx0:Ob i0 w O (.pointer (some ⟨p0,0,none⟩)) x0) {vx1:Value} {x1:An 96 Itm} (hx1:Vb w (Fr 0 w O) vx1 x1) {r:(BxR 98 96 Itm)} (hm:BD x0 x1=some r) :
    Fn Try.prog 49 [(.iface 94 (.pointer (some ⟨p0,0,none⟩))),vx1] w fun v w'=>∃ O',St (eT i0) w O w' O'∧Ob i0 w' O' (.pointer (some ⟨p0,0,none⟩)) r:=by
 obtain ⟨O0,hE,hz0,hl2⟩:=ent1 (w:=w) (O:=O) hx0.2
 have hx0':=Ob.leave hx0 hz0 hl2 (j:=2) (by decide)
 have hB:Bm w O0 w O0:=Bm.refl
 replace hx1:=hx1.mono hz0
 obtain ⟨v3,rfl,h4⟩:=hx1.any
 obtain ⟨cs5,rfl,rfl,r6,r7,r8⟩:=h4
 refine AN Try.func49 rfl Try.ntmps49 rfl ?_
 unfold BD at hm
 refine Ah (Ae (o_mv rfl rfl (o_mv rfl rfl ?_)))
 obtain ⟨q9,e10,hm⟩:=bs hm
 refine Hk (O:=O0) (GA hx0' (vAny (Vb.ofAgg (cs:=[(.int .i64 x1.x.cost),(.int .i64 x1.x.order),(.int .i64 x1.x.id)]) (x:=x1.x) rfl ⟨rfl,r6,r7,r8⟩)) e10) KG rfl rfl rfl fun v15 w11 O12 S13 h16=>?_
 refine o_z ?_
 refine Ae (o_mv rfl rfl (o_mv rfl rfl ?_))
 obtain ⟨O17,v21,S18,ha20,h19,h22⟩:=BxR.opn h16 2 3 (by decide)
 obtain ⟨A23,c24,rfl⟩:=h22.form
 obtain ⟨q26,e27,hm⟩:=bs hm
 refine Hl (O:=O17) (A:=All w11) (R:=fun w' F v=>Vb w' F v q26) (DH (fun _ h=>h) (h22).all e27) (Et (Blk.cell (i:=0) h19.1 rfl)) rfl rfl rfl fun v32 w28 O29 S30 h31=>?_
 obtain ⟨rfl,r33⟩:=h31.int
 obtain ⟨n34,e35,hm⟩:=bs hm
 have r36:=(Bl e35)
 refine o_sbE (he:=e35) rfl rfl rfl ?_
 replace h19:=h19.st S30
 replace h22:=h22.st S30
 obtain ⟨O37,S38,hz40,ha41,h39⟩:=BxR.shut (x:=q9) (l0:=2) (l1:=3) (by decide) h19 h22
 obtain ⟨q42,e43,hm⟩:=bs hm
 refine Bk (O:=O37) (GS h39 r36 e43) rfl rfl fun v48 w44 O45 S46 h49=>?_
 refine o_z ?_
 obtain rfl:=sm hm
 replace hB:=((((hB.st S13).st S18).st S30).st S38).st S46
 obtain ⟨O',hS',hz,hl⟩:=hE.leave (fun q=>if q=2 then i0 else 0) rfl hB
 exact ret0n rfl  ⟨O',hS',(Ob.leave h49 hz (hl 2 (by decide) (by decide)) hx0.2)⟩
noncomputable def BM (x0:BxR 98 96 Itm):Option ((An 96 Itm)×(BxR 98 96 Itm)) :=
  bnd (Bh x0.l) fun q11=>bnd (chkI (q11 - 1)) fun n19=>bnd (Bg x0.l 0 n19) fun q22=>bnd (BU (⟨q22⟩:BxR 98 96 Itm) 0 n19) fun q35=>bnd (Cp q35.2) fun q44=>some ((⟨q44.1.x⟩:An 96 Itm),q44.2)
theorem GB {w:World} {O:Lab} {p0 i0:Nat} {x0:BxR 98 96 Itm} (hx0:Ob i0 w O (.pointer (some ⟨p0,0,none⟩)) x0) {r:(An 96 Itm)×(BxR 98 96 Itm)} (hm:BM x0=some r) :
    Fn Try.prog 48 [(.iface 94 (.pointer (some ⟨p0,0,none⟩)))] w fun v w'=>∃ O',St (eT i0) w O w' O'∧Ob i0 w' O' (.pointer (some ⟨p0,0,none⟩)) r.2∧Vb w' (Fr 0 w' O') v r.1:=by
 obtain ⟨O0,hE,hz0,hl2⟩:=ent1 (w:=w) (O:=O) hx0.2
 have hx0':=Ob.leave hx0 hz0 hl2 (j:=2) (by decide)
 have hB:Bm w O0 w O0:=Bm.refl
 refine AN Try.func48 rfl Try.ntmps48 rfl ?_
 unfold BM at hm
 refine Ah (Ae (o_as rfl rfl (o_z ?_)))
 refine Ah (Ae (o_mv rfl rfl ?_))
 obtain ⟨O2,v6,S3,ha5,h4,h7⟩:=BxR.opn hx0' 2 3 (by decide)
 obtain ⟨A8,c9,rfl⟩:=h7.form
 obtain ⟨q11,e12,hm⟩:=bs hm
 refine Hl (O:=O2) (A:=All w) (R:=fun w' F v=>Vb w' F v q11) (DH (fun _ h=>h) (h7).all e12) (Et (Blk.cell (i:=0) h4.1 rfl)) rfl rfl rfl fun v17 w13 O14 S15 h16=>?_
 obtain ⟨rfl,r18⟩:=h16.int
 obtain ⟨n19,e20,hm⟩:=bs hm
 have r21:=(Bl e20)
 refine o_sbE (he:=e20) rfl rfl rfl ?_
 refine o_as rfl rfl (o_z ?_)
 refine Ah (Ae (o_mv rfl rfl (o_mv rfl rfl ?_)))
 obtain ⟨q22,e23,hm⟩:=bs hm
 replace h4:=h4.st S15
 replace h7:=h7.st S15
 refine Hk (O:=O14) (Dy h7 (show inI64 (0) from by decide) r21 e23) (Et (Blk.cell (i:=0) h4.1 rfl)) rfl rfl rfl fun v28 w24 O25 S26 h29=>?_
 refine o_z ?_
 refine Ah (Ae (o_mv rfl rfl (o_mv rfl rfl ?_)))
 replace h4:=h4.st S26
 obtain ⟨O30,S31,hz33,ha34,h32⟩:=BxR.shut (x:=(⟨q22⟩:BxR 98 96 Itm)) (l0:=2) (l1:=3) (by decide) (by have q:=h4;rw [← h29.len.1.symm] at q;exact q) h29.relen
 obtain ⟨q35,e36,hm⟩:=bs hm
 refine Bk (O:=O30) (Gh h32 (show inI64 (0) from by decide) r21 e36) rfl rfl fun v41 w37 O38 S39 h40=>?_
 obtain ⟨h42,h43⟩:=h40
 obtain rfl:=h43.bool
 refine o_z ?_
 refine Ah (Ae (o_mv rfl rfl ?_))
 obtain ⟨q44,e45,hm⟩:=bs hm
 refine Hk (O:=O38) (GR h42 e45) KG rfl rfl rfl fun v50 w46 O47 S48 h49=>?_
 obtain ⟨h51,h52⟩:=h49
 obtain ⟨v53,rfl,h54⟩:=h52.any
 obtain ⟨cs55,rfl,rfl,r56,r57,r58⟩:=h54
 refine o_as rfl rfl (o_z ?_)
 refine At ?_
 obtain rfl:=sm hm
 replace hB:=(((((hB.st S3).st S15).st S26).st S31).st S39).st S48
 obtain ⟨O',hS',hz,hl⟩:=hE.leave (fun q=>if q=2 then i0 else 0) rfl hB
 exact ret1v rfl (AF rfl) ⟨O',hS',(Ob.leave h51 hz (hl 2 (by decide) (by decide)) hx0.2),(vAny (Vb.ofAgg (cs:=[(.int .i64 q44.1.x.cost),(.int .i64 q44.1.x.order),(.int .i64 q44.1.x.id)]) (x:=q44.1.x) rfl ⟨rfl,r56,r57,r58⟩))⟩
end
section
open Go Go.RowKit
attribute [local irreducible] ewp owp hwp hwq hws Ev Evg Fn retPost loud loudS Res1
attribute [local irreducible] hwx loudX
structure Spc where
  t:Tsk
  reg:Reg
  gen:Option Gnr
instance:Ow Spc where
  R w F M v x:=∃ (g:Nat) (L:Lab) (c0 c1 c2 c3 c4 c5:Value),v=.pointer (some ⟨g,0,none⟩)∧Blk w g 74 [c0,c1,c2,c3,c4,c5]∧M g∧L g=0∧Vb w F c0 x.t.vars∧Vb w F c1 x.t.init∧Vb w F c2 x.t.goal∧Vb w F c3 x.t.ops∧Ow.R w F (fun k=>M k∧L k=1) c4 x.reg∧Vb w F c5 x.gen
  agree:=by rintro w w' F M v x ⟨g,L,c0,c1,c2,c3,c4,c5,rfl,hb,hM,hL,h0,h1,h2,h3,h4,h5⟩ a1 a2;exact ⟨g,L,c0,c1,c2,c3,c4,c5,rfl,hb.keep (a2 g hM),hM,hL,h0.agree a1,h1.agree a1,h2.agree a1,h3.agree a1,Ow.agree h4 a1 fun k hk=>a2 k hk.1,h5.agree a1⟩
  mono:=by rintro w F M F' M' v x ⟨g,L,c0,c1,c2,c3,c4,c5,rfl,hb,hM,hL,h0,h1,h2,h3,h4,h5⟩ a1 a2 a3;exact ⟨g,L,c0,c1,c2,c3,c4,c5,rfl,hb,a2 g hM,hL,h0.mono a1,h1.mono a1,h2.mono a1,h3.mono a1,Ow.mono h4 a1 (fun k hk=>⟨a2 k hk.1,hk.2⟩) fun k hf hm=>a3 k hf hm.1,h5.mono a1⟩
instance:OwP Spc:=⟨by rintro w F M v x ⟨g,L,c0,c1,c2,c3,c4,c5,rfl,_⟩;exact ⟨g,rfl⟩⟩
theorem Spc.opn {i:Nat} {w:World} {O:Lab} {p:Nat} {x:Spc} (h:Ob i w O (.pointer (some ⟨p,0,none⟩)) x) (l0 l1:Nat) (hl:l0≠0∧l1≠0):∃ (O':Lab) (c0 c1 c2 c3 c4 c5:Value),St (eT i) w O w O'∧(∀ k,Fr i w O k→∃ q,q∈[l0,l1]∧Fr q w O' k)∧Lc l0 w O' p 74 [c0,c1,c2,c3,c4,c5]∧Vb w (Fr 0 w O') c0 x.t.vars∧Vb w (Fr 0 w O') c1 x.t.init∧Vb w (Fr 0 w O') c2 x.t.goal∧Vb w (Fr 0 w O') c3 x.t.ops∧Ob l1 w O' c4 x.reg∧Vb w (Fr 0 w O') c5 x.gen:=by
  obtain ⟨⟨g,L,c0,c1,c2,c3,c4,c5,hv,hb,hM,hL,h0,h1,h2,h3,h4,h5⟩,hi⟩:=h
  obtain rfl:p=g:=by injection hv with hv;injection hv with hv;injection hv
  exact ⟨part O i L [l0,l1],c0,c1,c2,c3,c4,c5,Hy hi,Gt (by simp),⟨hb,(DF (j:=0) rfl p ⟨hM,hL⟩).2⟩,h0.mono (CU hi),h1.mono (CU hi),h2.mono (CU hi),h3.mono (CU hi),⟨Ow.mono h4 (CU hi) (DF (j:=1) rfl) (frNe0 hl.2),hl.2⟩,h5.mono (CU hi)⟩
theorem Spc.shut {w:World} {O:Lab} {p:Nat} {x:Spc} {l0 l1:Nat} {c0 c1 c2 c3 c4 c5:Value} (hd:¬ 0∈[l0,l1]∧[l0,l1].idxOf l0=0∧[l0,l1].idxOf l1=1) (hb:Lc l0 w O p 74 [c0,c1,c2,c3,c4,c5]) (h0:Vb w (Fr 0 w O) c0 x.t.vars) (h1:Vb w (Fr 0 w O) c1 x.t.init) (h2:Vb w (Fr 0 w O) c2 x.t.goal) (h3:Vb w (Fr 0 w O) c3 x.t.ops) (h4:Ob l1 w O c4 x.reg) (h5:Vb w (Fr 0 w O) c5 x.gen):∃ O',St (·∈[l0,l1]) w O w O'∧(∀ k,Fr 0 w O k→Fr 0 w O' k)∧(∀ q,q∈[l0,l1]→∀ k,Fr q w O k→Fr l0 w O' k)∧Ob l0 w O' (.pointer (some ⟨p,0,none⟩)) x:=by
  have hb1:l0≠0:=fun e=>hd.1 (by simp [e])
  have hg:=Df (i:=l0) hd.2.1 (by simp) p ⟨hb.1.lt,hb.2⟩
  exact ⟨whole O l0 [l0,l1],Gu,Cj hd.1,FJ,⟨p,fun k=>[l0,l1].idxOf (O k),c0,c1,c2,c3,c4,c5,rfl,hb.1,hg.1,hg.2,h0.mono (Cj hd.1),h1.mono (Cj hd.1),h2.mono (Cj hd.1),h3.mono (Cj hd.1),Ow.mono h4.1 (Cj hd.1) (Df hd.2.2 (by simp)) (fun k a b=>frNe0 hb1 k a b.1),h5.mono (Cj hd.1)⟩,hb1⟩
noncomputable def BB (x0:Tsk):Option ((Option Spc)×Err) :=
  bnd (DE x0) fun q24=>if q24.2.n≠0 then (some (none,(⟨q24.2.n⟩:Err))) else (bnd (CK x0.vars) fun q39=>if q39.2.n≠0 then (some (none,(⟨q39.2.n⟩:Err))) else (bnd q39.1 fun o52=>bnd (AU o52 x0.init) fun q55=>if q55.2.2.1.n≠0 then (some (none,(⟨q55.2.2.1.n⟩:Err))) else (some ((some (⟨(⟨x0.vars,x0.init,x0.goal,x0.ops⟩:Tsk),q55.2.2.2,q24.1⟩:Spc)),(⟨0⟩:Err)))))
theorem EB {w:World} {O:Lab} {vx0:Value} {x0:Tsk} (hx0:Vb w (Fr 0 w O) vx0 x0) (j0:Nat) (hj0:j0≠0) {r:(Option Spc)×Err} (hm:BB x0=some r) :
    Fn Try.prog 34 [vx0] w fun v w'=>∃ O',St nT w O w' O'∧∃ v0 v1:Value,v=.tuple #[v0,v1]∧Obo j0 w' O' v0 r.1∧Vb w' (Fr 0 w' O') v1 r.2:=by
 obtain ⟨O0,hE,hz0⟩:=ent0 (w:=w) (O:=O)
 have hB:Bm w O0 w O0:=Bm.refl
 replace hx0:=hx0.mono hz0
 obtain ⟨cs2,rfl,v3,v4,v5,v6,rfl,h7,h10,h13,h16⟩:=hx0
 obtain ⟨A8,c9,rfl⟩:=h7.form
 obtain ⟨A11,c12,rfl⟩:=h10.form
 obtain ⟨A14,c15,rfl⟩:=h13.form
 obtain ⟨A17,c18,rfl⟩:=h16.form
 refine AN Try.func34 rfl Try.ntmps34 rfl ?_
 unfold BB at hm
 refine Ah (Ae (l_box 2 O0 rfl rfl fun g19 w20 O21 S22 h23=>?_))
 replace h23:Lc 2 w20 O21 g19 26 [(.slice A8 x0.vars.length c9),(.slice A11 x0.init.length c12),(.slice A14 x0.goal.length c15),(.slice A17 x0.ops.length c18)]:=h23
 refine o_as rfl rfl (o_as rfl rfl (o_z ?_))
 refine Ah (Ae (o_la (hl:=rfl) (hc:=(h23.1).cellsAt) rfl rfl ?_))
 obtain ⟨q24,e25,hm⟩:=bs hm
 replace h7:=h7.st S22
 replace h10:=h10.st S22
 replace h13:=h13.st S22
 replace h16:=h16.st S22
 refine Cv (O:=O21) (R:=fun w' F v=>T2 w' F v q24) (Jh Fr.lt (Vb.ofAgg (cs:=[(.slice A8 x0.vars.length c9),(.slice A11 x0.init.length c12),(.slice A14 x0.goal.length c15),(.slice A17 x0.ops.length c18)]) (x:=x0) rfl ⟨_,_,_,_,rfl,h7,h10,h13,h16⟩) e25) rfl rfl fun v30 w26 O27 S28 h29=>?_
 obtain ⟨v31,v32,rfl,h33,h34⟩:=h29
 obtain ⟨p35,rfl,hq36⟩:=h33.ptr
 obtain ⟨rfl,r37⟩:=h34.err
 refine o_mv rfl rfl (o_ex rfl rfl rfl (o_ex rfl rfl rfl (o_as rfl rfl (o_as rfl rfl (o_z ?_)))))
 refine Ah (Ah (Ae (o_mv rfl rfl (o_rnS rfl rfl (fun c38=>?_) fun c38=>?_))))
 ·
  replace hm:=ip hm c38
  refine o_z ?_
  refine Ar rfl (Ah (Ae (o_mv rfl rfl (o_as rfl rfl (o_as rfl rfl (o_z ?_))))))
  refine At ?_
  obtain rfl:=sm hm
  replace hB:=(hB.st S22).st S28
  obtain ⟨O',hS',hz,hl⟩:=hE.leave (fun _=>0) rfl hB
  exact ret2 rfl (AF rfl) (AF rfl) ⟨O',hS',_,_,rfl,rfl,(vErr r37)⟩
 ·
  replace hm:=im hm c38
  refine o_z ?_
  refine Aj rfl (Am (Ah (Ae (o_fa rfl rfl ?_))))
  replace h23:=h23.st S28
  refine o_ld (hc:=Blk.cell (i:=0) (h23.1) rfl) rfl rfl ?_
  obtain ⟨q39,e40,hm⟩:=bs hm
  replace h7:=h7.st S28
  refine Bk (O:=O27) (IC h7 3 (by decide) e40) rfl rfl fun v45 w41 O42 S43 h44=>?_
  obtain ⟨v46,v47,rfl,h48,h49⟩:=h44
  obtain ⟨rfl,r50⟩:=h49.err
  refine o_mv rfl rfl (o_ex rfl rfl rfl (o_ex rfl rfl rfl (o_as rfl rfl (o_as rfl rfl (o_z ?_)))))
  refine Ah (Ah (Ae (o_mv rfl rfl (o_rnS rfl rfl (fun c51=>?_) fun c51=>?_))))
  ·
   replace hm:=ip hm c51
   refine o_z ?_
   refine Ar rfl (Ah (Ae (o_mv rfl rfl (o_as rfl rfl (o_as rfl rfl (o_z ?_))))))
   refine At ?_
   obtain rfl:=sm hm
   replace hB:=((hB.st S22).st S28).st S43
   obtain ⟨O',hS',hz,hl⟩:=hE.leave (fun _=>0) rfl hB
   exact ret2 rfl (AF rfl) (AF rfl) ⟨O',hS',_,_,rfl,rfl,(vErr r50)⟩
  ·
   replace hm:=im hm c51
   refine o_z ?_
   refine Aj rfl (Am (Ah (Ah (Ae (o_mv rfl rfl (o_fa rfl rfl ?_))))))
   replace h23:=h23.st S43
   refine o_ld (hc:=Blk.cell (i:=1) (h23.1) rfl) rfl rfl ?_
   obtain ⟨o52,e53,hm⟩:=bs hm
   rw [e53] at h48
   obtain ⟨p54,rfl⟩:=Ob.ptr h48
   obtain ⟨q55,e56,hm⟩:=bs hm
   replace h10:=(h10.st S28).st S43
   refine Bk (O:=O42) (CE h48 h10 e56) rfl rfl fun v61 w57 O58 S59 h60=>?_
   obtain ⟨v63,v64,v65,h62,rfl,h66,h67,h68⟩:=h60
   obtain ⟨rfl,r69⟩:=h66.int
   obtain rfl:=h67.bool
   obtain ⟨rfl,r70⟩:=h68.err
   refine o_mv rfl rfl (o_ex rfl rfl rfl (o_ex rfl rfl rfl (o_ex rfl rfl rfl (o_as rfl rfl (o_as rfl rfl (o_as rfl rfl (o_z ?_)))))))
   refine Ah (Ae (o_mv rfl rfl (o_rnS rfl rfl (fun c71=>?_) fun c71=>?_)))
   ·
    replace hm:=ip hm c71
    refine o_z ?_
    refine Ar rfl (Ah (Ae (o_mv rfl rfl (o_as rfl rfl (o_as rfl rfl (o_z ?_))))))
    refine At ?_
    obtain rfl:=sm hm
    replace hB:=(((hB.st S22).st S28).st S43).st S59
    obtain ⟨O',hS',hz,hl⟩:=hE.leave (fun _=>0) rfl hB
    exact ret2 rfl (AF rfl) (AF rfl) ⟨O',hS',_,_,rfl,rfl,(vErr r70)⟩
   ·
    replace hm:=im hm c71
    refine o_z ?_
    refine Aj rfl (Am (Ah (Ae ?_)))
    replace h23:=h23.st S59
    refine o_la (hl:=rfl) (hc:=(h23.1).cellsAt) rfl rfl ?_
    refine o_mv rfl rfl (o_mv rfl rfl (o_bd rfl rfl rfl ?_))
    refine l_box 4 O58 rfl rfl fun g72 w73 O74 S75 h76=>?_
    replace h76:Lc 4 w73 O74 g72 74 [(.slice A8 x0.vars.length c9),(.slice A11 x0.init.length c12),(.slice A14 x0.goal.length c15),(.slice A17 x0.ops.length c18),(.pointer (some ⟨p54,0,none⟩)),(.pointer p35)]:=h76
    refine o_as rfl rfl (o_as rfl rfl (o_z ?_))
    refine At ?_
    replace h7:=((h7.st S43).st S59).st S75
    replace h10:=(h10.st S59).st S75
    replace h13:=(((h13.st S28).st S43).st S59).st S75
    replace h16:=(((h16.st S28).st S43).st S59).st S75
    replace h33:=((h33.st S43).st S59).st S75
    replace h62:=h62.st S75
    obtain ⟨O77,S78,hz80,ha81,h79⟩:=Spc.shut (x:=(⟨(⟨x0.vars,x0.init,x0.goal,x0.ops⟩:Tsk),q55.2.2.2,q24.1⟩:Spc)) (l0:=4) (l1:=3) (by decide) h76 h7 h10 h13 h16 h62 h33
    obtain rfl:=sm hm
    replace hB:=(((((hB.st S22).st S28).st S43).st S59).st S75).st S78
    obtain ⟨O',hS',hz,hl⟩:=hE.leave (fun q=>if q=4 then j0 else 0) rfl hB
    exact ret2 rfl (AF rfl) (AF rfl) ⟨O',hS',_,_,rfl,(Ob.leave h79 hz (hl 4 (by decide) (by decide)) hj0),(vErr (show inI64 0 from by decide))⟩
noncomputable def Bd (x0:Spc) (x1:Int) (x2:Int):Option (Rsl×Err) :=
  bnd (BC x0.reg x1) fun q36=>if q36.2.n≠0 then (some ((⟨0,([]:List Int),0,0⟩:Rsl),(⟨q36.2.n⟩:Err))) else (bnd (rng (ρ:=Rsl×Err) (fun (k77:Nat) (a78:Int) (s75:Int)=>bnd (atI x0.t.ops a78) fun a125=>bnd (chkI (s75 + a125.cost)) fun n146=>some (.next n146)) q36.1 0 0) fun res73=>fin res73 fun (s160:Int)=>some ((⟨1,q36.1,s160,x2⟩:Rsl),(⟨0⟩:Err)))
theorem Eg {w:World} {O:Lab} {p0 i0:Nat} {x0:Spc} (hx0:Ob i0 w O (.pointer (some ⟨p0,0,none⟩)) x0) {x1:Int} (rx1:inI64 x1) {x2:Int} (rx2:inI64 x2) {r:Rsl×Err} (hm:Bd x0 x1 x2=some r) :
    Fn Try.prog 38 [(.pointer (some ⟨p0,0,none⟩)),(.int .i64 x1),(.int .i64 x2)] w fun v w'=>∃ O',St (eT i0) w O w' O'∧∃ v0 v1:Value,Ob i0 w' O' (.pointer (some ⟨p0,0,none⟩)) x0∧v=.tuple #[v0,v1]∧Vb w' (Fr 0 w' O') v0 r.1∧Vb w' (Fr 0 w' O') v1 r.2:=by
 obtain ⟨O0,hE,hz0,hl2⟩:=ent1 (w:=w) (O:=O) hx0.2
 have hx0':=Ob.leave hx0 hz0 hl2 (j:=2) (by decide)
 have hB:Bm w O0 w O0:=Bm.refl
 refine AN Try.func38 rfl Try.ntmps38 rfl ?_
 unfold Bd at hm
 refine Ah (Ae (BR 3 O0 rfl fun g4 w5 O6 S7 h8=>?_))
 refine o_as rfl rfl (o_z ?_)
 refine Ah (Ae (o_mv rfl rfl (o_nc rfl rfl ?_)))
 replace hx0':=hx0'.st S7
 obtain ⟨O9,v13,v17,v21,v25,v29,v32,S10,ha12,h11,h14,h18,h22,h26,h30,h33⟩:=Spc.opn hx0' 2 4 (by decide)
 obtain ⟨A15,c16,rfl⟩:=h14.form
 obtain ⟨A19,c20,rfl⟩:=h18.form
 obtain ⟨A23,c24,rfl⟩:=h22.form
 obtain ⟨A27,c28,rfl⟩:=h26.form
 obtain ⟨p31,rfl⟩:=h30.ptr
 obtain ⟨p34,rfl,hq35⟩:=h33.ptr
 refine o_fa rfl rfl (o_ld (hc:=Blk.cell (i:=4) (h11.1) rfl) rfl rfl ?_)
 refine o_mv rfl rfl ?_
 obtain ⟨q36,e37,hm⟩:=bs hm
 refine Bk (O:=O9) (FA h30 rx1 e37) rfl rfl fun v42 w38 O39 S40 h41=>?_
 obtain ⟨v44,v45,h43,rfl,h46,h47⟩:=h41
 obtain ⟨A48,c49,rfl⟩:=h46.form
 obtain ⟨rfl,r50⟩:=h47.err
 refine o_mv rfl rfl (o_ex rfl rfl rfl (o_ex rfl rfl rfl (o_as rfl rfl (o_as rfl rfl (o_z ?_)))))
 refine Ah (Ah (Ae (o_mv rfl rfl (o_rnS rfl rfl (fun c51=>?_) fun c51=>?_))))
 ·
  replace hm:=ip hm c51
  refine o_z ?_
  refine Ar rfl (Ah (Ae (o_bd rfl rfl rfl ?_)))
  refine o_mv rfl rfl ?_
  replace h8:=(h8.st S10).st S40
  refine AL h8 rfl rfl rfl (Nat.le_of_ble_eq_true rfl) (by first|exact allOne rfl|simp [Value.cells,Value.oneCell',AJ]) fun w52 S53 h8=>?_
  replace h8:Lc 3 w52 O39 g4 30 [(.int .i64 0),(.slice none 0 0),(.int .i64 0),(.int .i64 0)]:=h8
  refine o_as rfl rfl (o_z ?_)
  refine At ?_
  replace h11:=(h11.st S40).st S53
  replace h14:=(h14.st S40).st S53
  replace h18:=(h18.st S40).st S53
  replace h22:=(h22.st S40).st S53
  replace h26:=(h26.st S40).st S53
  replace h33:=(h33.st S40).st S53
  replace h43:=h43.st S53
  obtain ⟨O54,S55,hz57,ha58,h56⟩:=Spc.shut (x:=x0) (l0:=2) (l1:=4) (by decide) h11 h14 h18 h22 h26 h43 h33
  obtain rfl:=sm hm
  replace hB:=((((hB.st S7).st S10).st S40).st S53).st S55
  obtain ⟨O',hS',hz,hl⟩:=hE.leave (fun q=>if q=2 then i0 else 0) rfl hB
  replace h8:=h8.st S55
  exact ret2 rfl (BO (cs:=[(.int .i64 0),(.slice none 0 0),(.int .i64 0),(.int .i64 0)]) rfl rfl h8.1.cellsAt) (AF rfl) ⟨O',hS',_,_,(Ob.leave h56 hz (hl 2 (by decide) (by decide)) hx0.2),rfl,(Vb.mono (Vb.ofAgg (cs:=[(.int .i64 0),(.slice none 0 0),(.int .i64 0),(.int .i64 0)]) (x:=(⟨0,([]:List Int),0,0⟩:Rsl)) rfl ⟨_,rfl,(Vb.nil _ _),(show inI64 0 from by decide),(show inI64 0 from by decide),(show inI64 0 from by decide)⟩) hz),(vErr r50)⟩
 ·
  replace hm:=im hm c51
  refine o_z ?_
  refine Aj rfl (Am (Ah (Ae (o_mv rfl rfl (o_mv rfl rfl (o_bd rfl rfl rfl ?_))))))
  refine BR 5 O39 rfl fun g59 w60 O61 S62 h63=>?_
  refine AL h63 rfl rfl rfl (Nat.le_of_ble_eq_true rfl) (by first|exact allOne rfl|simp [Value.cells,Value.oneCell',AJ]) fun w64 S65 h63=>?_
  replace h63:Lc 5 w64 O61 g59 30 [(.int .i64 1),(.slice A48 q36.1.length c49),(.int .i64 0),(.int .i64 x2)]:=h63
  refine o_z ?_
  refine Ah (Ah (Ae (o_mv rfl rfl (o_ln rfl rfl ?_))))
  replace h46:=(h46.st S62).st S65
  have l67:q36.1.length≤9223372036854775807:=Nat.le_trans h46.len.2.1 h46.len.2.2
  have r66:inI64 (q36.1.length:Int):=rngNat l67
  refine o_mv rfl rfl (o_z ?_)
  replace h11:=((h11.st S40).st S62).st S65
  replace h14:=((h14.st S40).st S62).st S65
  replace h18:=((h18.st S40).st S62).st S65
  replace h22:=((h22.st S40).st S62).st S65
  replace h26:=((h26.st S40).st S62).st S65
  replace h33:=((h33.st S40).st S62).st S65
  replace h43:=(h43.st S62).st S65
  obtain ⟨O68,S69,hz71,ha72,h70⟩:=Spc.shut (x:=x0) (l0:=2) (l1:=4) (by decide) h11 h14 h18 h22 h26 h43 h33
  obtain ⟨res73,hL74,hm⟩:=bs hm
  refine AT (aft res73 (fun (s75:Int) (x76:Unit)=>[(6,(.pointer (some ⟨g4,0,none⟩))),(10,(.pointer (some ⟨g59,0,none⟩)))]) (fun s75 x76 w'=>∃ O':Lab,Bm w O0 w' O'∧Lc 3 w' O' g4 30 [(.int .i64 0),(.slice none 0 0),(.int .i64 0),(.int .i64 0)]∧Lc 5 w' O' g59 30 [(.int .i64 1),(.slice A48 q36.1.length c49),(.int .i64 s75),(.int .i64 x2)]∧Vb w' (Fr 0 w' O') (.slice A48 q36.1.length c49) q36.1∧Ob 2 w' O' (.pointer (some ⟨p0,0,none⟩)) x0∧inI64 s75)) ?_ ?_
  ·
   refine Al ?_
   replace hB:=(((((hB.st S7).st S10).st S40).st S62).st S65).st S69
   replace h8:=((((h8.st S10).st S40).st S62).st S65).st S69
   replace h46:=h46.st S69
   replace h63:=h63.st S69
   refine CC (σ:=Int) (X:=Unit) (q36.1.length) hL74 rfl l67 (fun (s75:Int) (x76:Unit)=>[(0,(.pointer (some ⟨p0,0,none⟩))),(6,(.pointer (some ⟨g4,0,none⟩))),(10,(.pointer (some ⟨g59,0,none⟩))),(29,(.slice A48 q36.1.length c49))]) _ (fun s75 x76 w'=>∃ O':Lab,Bm w O0 w' O'∧Ob 2 w' O' (.pointer (some ⟨p0,0,none⟩)) x0∧Lc 3 w' O' g4 30 [(.int .i64 0),(.slice none 0 0),(.int .i64 0),(.int .i64 0)]∧Lc 5 w' O' g59 30 [(.int .i64 1),(.slice A48 q36.1.length c49),(.int .i64 s75),(.int .i64 x2)]∧Vb w' (Fr 0 w' O') (.slice A48 q36.1.length c49) q36.1∧inI64 s75) _ () ⟨O68,hB,h70,h8,h63,h46,(show inI64 0 from by decide)⟩ ⟨rfl,rfl,rfl,rfl,rfl,rfl,trivial⟩ (fun _ _=>⟨rfl,rfl⟩) (fun _ _=>⟨rfl,rfl,trivial⟩) (fun _ _ _ ⟨O',hB,h70,h8,h63,h46,r89⟩=>⟨O',hB,h8,h63,h46,h70,r89⟩) ⟨rfl,rfl,rfl⟩ ⟨rfl,rfl⟩ ?_
   rintro k77 a78 s75 x76 w79 cc81 hx82 ⟨O80,hB,h70,h8,h63,h46,r89⟩ hf83 hret84 hbrk85
   have rk77:inI64 (k77:Int):=rngK hx82 l67
   refine Ah (Ae ?_)
   obtain ⟨b90,o91,ce92,hA93,hl94,hd95,rfl,r97⟩:=h46.elem' hx82
   refine o_iaE (hA:=hA93) (hj:=rfl) (hlt:=hl94) rfl rfl rfl ?_
   refine o_ld (hc:=cat0 hd95) rfl rfl ?_
   refine o_as rfl rfl (o_z ?_)
   obtain ⟨O98,v102,v106,v110,v114,v118,v121,S99,ha101,h100,h103,h107,h111,h115,h119,h122⟩:=Spc.opn h70 2 4 (by decide)
   obtain ⟨A104,c105,rfl⟩:=h103.form
   obtain ⟨A108,c109,rfl⟩:=h107.form
   obtain ⟨A112,c113,rfl⟩:=h111.form
   obtain ⟨A116,c117,rfl⟩:=h115.form
   obtain ⟨p120,rfl⟩:=h119.ptr
   obtain ⟨p123,rfl,hq124⟩:=h122.ptr
   refine BK [] O98 ?_
   refine x_pre (fuel:=1) [] [(0,true),(1,true),(2,true),(3,true),(4,true),(5,true),(6,true),(7,true),(8,true),(9,true),(10,true),(11,true),(12,true)] (by kernel_rfl) rfl ?_
   refine h_fa rfl rfl rfl ?_
   replace h63:=h63.st S99
   refine h_ldC (hc:=fun w' ⟨O',hq⟩=>Blk.cell (i:=2) ((h63.st hq (by decide)).1) rfl) rfl rfl rfl ?_
   refine h_mv rfl rfl rfl (h_nc rfl rfl rfl (h_fa rfl rfl rfl (h_fa rfl rfl rfl (h_ldC (hc:=fun w' ⟨O',hq⟩=>Blk.cell (i:=3) ((h100.st hq (by decide)).1) rfl) rfl rfl rfl ?_))))
   refine h_mv rfl rfl rfl ?_
   obtain ⟨a125,e126,hf83⟩:=bs hf83
   obtain ⟨p128,x127⟩:=AX e126
   obtain ⟨b129,o130,ce131,hA132,hF135,hl133,hd134,v136,v137,rfl,h138,h141,r144,z145⟩:=h115.elem x127
   obtain ⟨A139,c140,rfl⟩:=h138.form
   obtain ⟨A142,c143,rfl⟩:=h141.form
   refine h_iaE (hA:=hA132) (hj:=(Int.toNat_of_nonneg p128).symm) (hlt:=hl133) rfl rfl rfl rfl ?_
   refine h_fa rfl rfl rfl (h_ldC (hc:=fun w' ⟨O',hq⟩=>cat1 (BA (hq.agree (i:=0) (by decide)) hF135 hd134)) rfl rfl rfl ?_)
   obtain ⟨n146,e147,hf83⟩:=bs hf83
   have r148:=(Bl e147)
   refine h_adE (he:=e147) rfl rfl rfl rfl ?_
   refine h_fa rfl rfl rfl (AE ?_)
   refine x_one (i:=13) (by kernel_rfl) rfl ?_
   refine AL h63 rfl rfl rfl (Nat.le_of_ble_eq_true rfl) (by first|exact allOne rfl|simp [Value.cells,Value.oneCell',AJ]) fun w149 S150 h63=>?_
   replace h63:Lc 5 w149 O98 g59 30 [(.int .i64 1),(.slice A48 q36.1.length c49),(.int .i64 n146),(.int .i64 x2)]:=h63
   refine x_end (by kernel_rfl) ?_
   refine x_nil (by kernel_rfl) ?_
   replace h100:=h100.st S150
   replace h103:=h103.st S150
   replace h107:=h107.st S150
   replace h111:=h111.st S150
   replace h115:=h115.st S150
   replace h119:=h119.st S150
   replace h122:=h122.st S150
   obtain ⟨O151,S152,hz154,ha155,h153⟩:=Spc.shut (x:=x0) (l0:=2) (l1:=4) (by decide) h100 h103 h107 h111 h115 h119 h122
   obtain rfl:=sm hf83
   refine (?_:Exists _)
   replace hB:=((hB.st S99).st S150).st S152
   replace h8:=((h8.st S99).st S150).st S152
   replace h46:=((h46.st S99).st S150).st S152
   replace h63:=h63.st S152
   exact ⟨_,(),rfl,⟨rfl,rfl,rfl,rfl,rfl,rfl,trivial⟩,_,hB,h153,h8,h63,h46,r148⟩
  replace hB:=(((((hB.st S7).st S10).st S40).st S62).st S65).st S69
  replace h8:=((((h8.st S10).st S40).st S62).st S65).st S69
  replace h46:=h46.st S69
  replace h63:=h63.st S69
  rintro l156 w157 ⟨s160,x161,rfl,hs159,O158,hB,h8,h63,h46,h70,r89⟩
  replace hm:=Br hm
  refine AW _ hs159 ?_
  refine Ah (Ae (o_la (hl:=rfl) (hc:=(h63.1).cellsAt) rfl rfl ?_))
  refine AL h8 rfl rfl rfl (Nat.le_of_ble_eq_true rfl) (by first|exact allOne rfl|simp [Value.cells,Value.oneCell',AJ]) fun w162 S163 h8=>?_
  replace h8:Lc 3 w162 O158 g4 30 [(.int .i64 1),(.slice A48 q36.1.length c49),(.int .i64 s160),(.int .i64 x2)]:=h8
  refine o_as rfl rfl (o_z ?_)
  refine At ?_
  obtain rfl:=sm hm
  replace hB:=hB.st S163
  obtain ⟨O',hS',hz,hl⟩:=hE.leave (fun q=>if q=2 then i0 else 0) rfl hB
  replace h46:=h46.st S163
  replace h70:=h70.st S163
  exact ret2 rfl (BO (cs:=[(.int .i64 1),(.slice A48 q36.1.length c49),(.int .i64 s160),(.int .i64 x2)]) rfl rfl h8.1.cellsAt) (AF rfl) ⟨O',hS',_,_,(Ob.leave h70 hz (hl 2 (by decide) (by decide)) hx0.2),rfl,(Vb.mono (Vb.ofAgg (cs:=[(.int .i64 1),(.slice A48 q36.1.length c49),(.int .i64 s160),(.int .i64 x2)]) (x:=(⟨1,q36.1,s160,x2⟩:Rsl)) rfl ⟨_,rfl,h46,(show inI64 (1) from by decide),r89,rx2⟩) hz),(vErr (show inI64 0 from by decide))⟩
noncomputable def AZ (x0:Int) (x1:Int):Option (Rsl×Err) :=
  some ((⟨x0,([]:List Int),0,x1⟩:Rsl),(⟨0⟩:Err))
theorem CL {w:World} {A:Nat→Prop} (hA:∀ k,A k→k < w.heap.size) {x0:Int} (rx0:inI64 x0) {x1:Int} (rx1:inI64 x1) {r:Rsl×Err} (hm:AZ x0 x1=some r) :
    Fn Try.prog 39 [(.int .i64 x0),(.int .i64 x1)] w fun v w'=>Ext w w'∧T2 w' (upA A w w') v r:=by
 obtain ⟨O,hB,hA0⟩:=enter hA
 refine AN Try.func39 rfl Try.ntmps39 rfl ?_
 unfold AZ at hm
 refine Ah (Ae (BR 2 O rfl fun g3 w4 O5 S6 h7=>?_))
 refine o_as rfl rfl (o_z ?_)
 refine Ah (Ae (o_mv rfl rfl (o_mv rfl rfl (o_bd rfl rfl rfl ?_))))
 refine AL h7 rfl rfl rfl (Nat.le_of_ble_eq_true rfl) (by first|exact allOne rfl|simp [Value.cells,Value.oneCell',AJ]) fun w8 S9 h7=>?_
 replace h7:Lc 2 w8 O5 g3 30 [(.int .i64 x0),(.slice none 0 0),(.int .i64 0),(.int .i64 x1)]:=h7
 refine o_as rfl rfl (o_z ?_)
 refine At ?_
 obtain rfl:=sm hm
 replace hB:=(hB.st S6).st S9
 exact ret2 rfl (BO (cs:=[(.int .i64 x0),(.slice none 0 0),(.int .i64 0),(.int .i64 x1)]) rfl rfl h7.1.cellsAt) (AF rfl) ⟨hB.ext,_,_,rfl,(Vb.mono (F:=Fr 0 w8 O5) (Vb.ofAgg (cs:=[(.int .i64 x0),(.slice none 0 0),(.int .i64 0),(.int .i64 x1)]) (x:=(⟨x0,([]:List Int),0,x1⟩:Rsl)) rfl ⟨_,rfl,(Vb.nil _ _),rx0,(show inI64 0 from by decide),rx1⟩) hB.out),(vErr (show inI64 0 from by decide))⟩
noncomputable def BP (x0:Tsk) (x1:Int):Option (Rsl×Err) :=
  bnd (BB x0) fun q30=>if q30.2.n≠0 then (some ((⟨0,([]:List Int),0,0⟩:Rsl),(⟨q30.2.n⟩:Err))) else (bnd q30.1 fun o45=>bnd (lop (ρ:=Rsl×Err) (fun (s50:Int×Spc)=>bnd (AM s50.2.reg) fun q94=>if s50.1 < q94 then (bnd (AY s50.2.reg s50.1) fun q105=>if q105.2.n≠0 then (some (.ret ((⟨0,([]:List Int),0,0⟩:Rsl),(⟨q105.2.n⟩:Err)))) else (bnd (Cq x0.goal q105.1) fun q123=>if q123=true then bnd (Bd s50.2 s50.1 s50.1) fun q312=>some (.ret (q312.1,(⟨q312.2.n⟩:Err))) else if x1≤s50.1 then (bnd (AZ 3 s50.1) fun q131=>some (.ret (q131.1,(⟨q131.2.n⟩:Err)))) else (bnd (AS s50.2.gen q105.1) fun q153=>bnd (rng (ρ:=Ctl (Int×Spc) (Rsl×Err)) (fun (k173:Nat) (a174:Suc) (s171:Spc)=>bnd (AU s171.reg a174.state) fun q232=>if q232.2.2.1.n≠0 then (bnd (chkI (s50.1 + 1)) fun n249=>bnd (AZ 3 n249) fun q252=>some (.ret (.ret (q252.1,(⟨q252.2.n⟩:Err))))) else (if q232.2.1=true then (bnd (Bc q232.2.2.2 q232.1 s50.1 a174.op 0) fun q275=>if q275.1.n≠0 then (some (.ret (.ret ((⟨0,([]:List Int),0,0⟩:Rsl),(⟨q275.1.n⟩:Err))))) else (some (.next (⟨(⟨s171.t.vars,s171.t.init,s171.t.goal,s171.t.ops⟩:Tsk),q275.2,s171.gen⟩:Spc)))) else (some (.next (⟨(⟨s171.t.vars,s171.t.init,s171.t.goal,s171.t.ops⟩:Tsk),q232.2.2.2,s171.gen⟩:Spc))))) q153 0 s50.2) fun res169=>fin res169 fun (s302:Spc)=>bnd (chkI (s50.1 + 1)) fun n304=>some (.next (n304,s302))))) else (some (.brk (s50.1,s50.2)))) (0,o45)) fun res48=>fin res48 fun (s344:Int×Spc)=>bnd (AM s344.2.reg) fun q373=>bnd (AZ 2 q373) fun q383=>some (q383.1,(⟨q383.2.n⟩:Err)))
theorem FB {w:World} {A:Nat→Prop} (hA:∀ k,A k→k < w.heap.size) {vx0:Value} {x0:Tsk} (hx0:Vb w A vx0 x0) {x1:Int} (rx1:inI64 x1) {r:Rsl×Err} (hm:BP x0 x1=some r) :
    Fn Try.prog 13 [vx0,(.int .i64 x1)] w fun v w'=>Ext w w'∧T2 w' (upA A w w') v r:=by
 obtain ⟨O,hB,hA0⟩:=enter hA
 replace hx0:=hx0.mono hA0
 obtain ⟨cs3,rfl,v4,v5,v6,v7,rfl,h8,h11,h14,h17⟩:=hx0
 obtain ⟨A9,c10,rfl⟩:=h8.form
 obtain ⟨A12,c13,rfl⟩:=h11.form
 obtain ⟨A15,c16,rfl⟩:=h14.form
 obtain ⟨A18,c19,rfl⟩:=h17.form
 refine AN Try.func13 rfl Try.ntmps13 rfl ?_
 unfold BP at hm
 refine Ah (Ae (l_box 2 O rfl rfl fun g20 w21 O22 S23 h24=>?_))
 replace h24:Lc 2 w21 O22 g20 26 [(.slice A9 x0.vars.length c10),(.slice A12 x0.init.length c13),(.slice A15 x0.goal.length c16),(.slice A18 x0.ops.length c19)]:=h24
 refine BR 3 O22 rfl fun g25 w26 O27 S28 h29=>?_
 refine o_as rfl rfl (o_z ?_)
 refine Ah (Ae ?_)
 replace h24:=h24.st S28
 refine o_la (hl:=rfl) (hc:=(h24.1).cellsAt) rfl rfl ?_
 obtain ⟨q30,e31,hm⟩:=bs hm
 replace h8:=(h8.st S23).st S28
 replace h11:=(h11.st S23).st S28
 replace h14:=(h14.st S23).st S28
 replace h17:=(h17.st S23).st S28
 refine Bk (O:=O27) (EB (Vb.ofAgg (cs:=[(.slice A9 x0.vars.length c10),(.slice A12 x0.init.length c13),(.slice A15 x0.goal.length c16),(.slice A18 x0.ops.length c19)]) (x:=x0) rfl ⟨_,_,_,_,rfl,h8,h11,h14,h17⟩) 4 (by decide) e31) rfl rfl fun v36 w32 O33 S34 h35=>?_
 obtain ⟨v37,v38,rfl,h39,h40⟩:=h35
 obtain ⟨rfl,r41⟩:=h40.err
 refine o_mv rfl rfl (o_ex rfl rfl rfl (o_ex rfl rfl rfl (o_as rfl rfl (o_as rfl rfl (o_z ?_)))))
 refine Ah (Ah (Ae (o_mv rfl rfl (o_rnS rfl rfl (fun c42=>?_) fun c42=>?_))))
 ·
  replace hm:=ip hm c42
  refine o_z ?_
  refine Ar rfl (Ah (Ae (o_bd rfl rfl rfl ?_)))
  refine o_mv rfl rfl ?_
  replace h29:=h29.st S34
  refine AL h29 rfl rfl rfl (Nat.le_of_ble_eq_true rfl) (by first|exact allOne rfl|simp [Value.cells,Value.oneCell',AJ]) fun w43 S44 h29=>?_
  replace h29:Lc 3 w43 O33 g25 30 [(.int .i64 0),(.slice none 0 0),(.int .i64 0),(.int .i64 0)]:=h29
  refine o_as rfl rfl (o_z ?_)
  refine At ?_
  obtain rfl:=sm hm
  replace hB:=(((hB.st S23).st S28).st S34).st S44
  exact ret2 rfl (BO (cs:=[(.int .i64 0),(.slice none 0 0),(.int .i64 0),(.int .i64 0)]) rfl rfl h29.1.cellsAt) (AF rfl) ⟨hB.ext,_,_,rfl,(Vb.mono (F:=Fr 0 w43 O33) (Vb.ofAgg (cs:=[(.int .i64 0),(.slice none 0 0),(.int .i64 0),(.int .i64 0)]) (x:=(⟨0,([]:List Int),0,0⟩:Rsl)) rfl ⟨_,rfl,(Vb.nil _ _),(show inI64 0 from by decide),(show inI64 0 from by decide),(show inI64 0 from by decide)⟩) hB.out),(vErr r41)⟩
 ·
  replace hm:=im hm c42
  refine o_z ?_
  refine Aj rfl (Am (Ah (Ah (Ae (o_as rfl rfl (o_z ?_))))))
  obtain ⟨o45,e46,hm⟩:=bs hm
  rw [e46] at h39
  obtain ⟨p47,rfl⟩:=Ob.ptr h39
  obtain ⟨res48,hL49,hm⟩:=bs hm
  refine AT (aft res48 (fun (s50:Int×Spc) (x51:Unit)=>[(4,(.pointer (some ⟨g25,0,none⟩))),(6,(.pointer (some ⟨p47,0,none⟩)))]) (fun s50 x51 w'=>∃ O':Lab,Bs w A w' O'∧Lc 3 w' O' g25 30 [(.int .i64 0),(.slice none 0 0),(.int .i64 0),(.int .i64 0)]∧Ob 4 w' O' (.pointer (some ⟨p47,0,none⟩)) s50.2∧inI64 s50.1)) ?_ ?_
  ·
   refine Al ?_
   replace hB:=((hB.st S23).st S28).st S34
   replace h8:=h8.st S34
   replace h11:=h11.st S34
   replace h14:=h14.st S34
   replace h17:=h17.st S34
   replace h24:=h24.st S34
   replace h29:=h29.st S34
   refine Er (σ:=Int×Spc) (X:=Unit) hL49 (fun (s50:Int×Spc) (x51:Unit)=>[(1,(.int .i64 x1)),(2,(.pointer (some ⟨g20,0,none⟩))),(4,(.pointer (some ⟨g25,0,none⟩))),(6,(.pointer (some ⟨p47,0,none⟩))),(8,(.int .i64 s50.1))]) _ (fun s50 x51 w'=>∃ O':Lab,Bs w A w' O'∧Lc 2 w' O' g20 26 [(.slice A9 x0.vars.length c10),(.slice A12 x0.init.length c13),(.slice A15 x0.goal.length c16),(.slice A18 x0.ops.length c19)]∧Vb w' (Fr 0 w' O') (.slice A9 x0.vars.length c10) x0.vars∧Vb w' (Fr 0 w' O') (.slice A12 x0.init.length c13) x0.init∧Vb w' (Fr 0 w' O') (.slice A15 x0.goal.length c16) x0.goal∧Vb w' (Fr 0 w' O') (.slice A18 x0.ops.length c19) x0.ops∧Lc 3 w' O' g25 30 [(.int .i64 0),(.slice none 0 0),(.int .i64 0),(.int .i64 0)]∧Ob 4 w' O' (.pointer (some ⟨p47,0,none⟩)) s50.2∧inI64 s50.1) _ () ⟨O33,hB,h24,h8,h11,h14,h17,h29,h39,(show inI64 (0) from by decide)⟩ ⟨rfl,rfl,rfl,rfl,rfl,trivial⟩ ?_
   rintro s50 x51 w54 cc56 ⟨O55,hB,h24,h8,h11,h14,h17,h29,h66,r65⟩ hf58 hret59 hbrk60
   refine Ah (Ah (Ae (o_mv rfl rfl (o_mv rfl rfl (o_nc rfl rfl ?_)))))
   obtain ⟨O67,v71,v75,v79,v83,v87,v90,S68,ha70,h69,h72,h76,h80,h84,h88,h91⟩:=Spc.opn h66 4 5 (by decide)
   obtain ⟨A73,c74,rfl⟩:=h72.form
   obtain ⟨A77,c78,rfl⟩:=h76.form
   obtain ⟨A81,c82,rfl⟩:=h80.form
   obtain ⟨A85,c86,rfl⟩:=h84.form
   obtain ⟨p89,rfl⟩:=h88.ptr
   obtain ⟨p92,rfl,hq93⟩:=h91.ptr
   refine o_fa rfl rfl (o_ld (hc:=Blk.cell (i:=4) (h69.1) rfl) rfl rfl ?_)
   obtain ⟨q94,e95,hf58⟩:=bs hf58
   refine Bk (O:=O67) (BW h88 e95) rfl rfl fun v100 w96 O97 S98 h99=>?_
   obtain ⟨h101,h102⟩:=h99
   obtain ⟨rfl,r103⟩:=h102.int
   refine o_ltS rfl rfl rfl (fun c104=>?_) fun c104=>?_
   ·
    replace hf58:=ip hf58 c104
    refine o_z ?_
    refine Ar rfl (Am (Ah (Al (Ah (Ae (o_mv rfl rfl (o_nc rfl rfl (o_fa rfl rfl ?_))))))))
    replace h69:=h69.st S98
    refine o_ld (hc:=Blk.cell (i:=4) (h69.1) rfl) rfl rfl ?_
    refine o_mv rfl rfl ?_
    obtain ⟨q105,e106,hf58⟩:=bs hf58
    refine Bk (O:=O97) (CQ h101 r65 e106) rfl rfl fun v111 w107 O108 S109 h110=>?_
    obtain ⟨v113,v114,h112,rfl,h115,h116⟩:=h110
    obtain ⟨A117,c118,rfl⟩:=h115.form
    obtain ⟨rfl,r119⟩:=h116.err
    refine o_mv rfl rfl (o_ex rfl rfl rfl (o_ex rfl rfl rfl (o_as rfl rfl (o_as rfl rfl (o_z ?_)))))
    refine Ah (Ah (Ae (o_mv rfl rfl (o_rnS rfl rfl (fun c120=>?_) fun c120=>?_))))
    ·
     replace hf58:=ip hf58 c120
     refine o_z ?_
     refine Ar rfl (Ah (Ae (o_bd rfl rfl rfl ?_)))
     refine o_mv rfl rfl ?_
     replace h29:=((h29.st S68).st S98).st S109
     refine AL h29 rfl rfl rfl (Nat.le_of_ble_eq_true rfl) (by first|exact allOne rfl|simp [Value.cells,Value.oneCell',AJ]) fun w121 S122 h29=>?_
     replace h29:Lc 3 w121 O108 g25 30 [(.int .i64 0),(.slice none 0 0),(.int .i64 0),(.int .i64 0)]:=h29
     refine o_as rfl rfl (o_z ?_)
     refine At ?_
     obtain rfl:=sm hf58
     obtain rfl:=hret59 _ rfl
     obtain rfl:=sm (Bx hm)
     replace hB:=(((hB.st S68).st S98).st S109).st S122
     exact ret2 rfl (BO (cs:=[(.int .i64 0),(.slice none 0 0),(.int .i64 0),(.int .i64 0)]) rfl rfl h29.1.cellsAt) (AF rfl) ⟨hB.ext,_,_,rfl,(Vb.mono (F:=Fr 0 w121 O108) (Vb.ofAgg (cs:=[(.int .i64 0),(.slice none 0 0),(.int .i64 0),(.int .i64 0)]) (x:=(⟨0,([]:List Int),0,0⟩:Rsl)) rfl ⟨_,rfl,(Vb.nil _ _),(show inI64 0 from by decide),(show inI64 0 from by decide),(show inI64 0 from by decide)⟩) hB.out),(vErr r119)⟩
    ·
     replace hf58:=im hf58 c120
     refine o_z ?_
     refine Aj rfl (Am (Ah (Ah (Ae (o_fa rfl rfl ?_)))))
     replace h24:=((h24.st S68).st S98).st S109
     refine o_ld (hc:=Blk.cell (i:=2) (h24.1) rfl) rfl rfl ?_
     refine o_mv rfl rfl ?_
     obtain ⟨q123,e124,hf58⟩:=bs hf58
     replace h14:=((h14.st S68).st S98).st S109
     refine Cf (O:=O108) (A:=All w107) (R:=fun w' F v=>Vb w' F v q123) (Fy (fun _ h=>h) (Vb.mono (F:=Fr 0 w107 O108) h14 Fr.lt) (Vb.mono (F:=Fr 0 w107 O108) h115 Fr.lt) e124) rfl rfl fun v129 w125 O126 S127 h128=>?_
     obtain rfl:=h128.bool
     cases q123
     case false =>
      replace hf58:=iF hf58
      refine o_z ?_
      refine Aj rfl (Am (Ah (Ah (Ae (o_mv rfl rfl (o_mv rfl rfl (o_geS rfl rfl rfl (fun c130=>?_) fun c130=>?_)))))))
      ·
       replace hf58:=ip hf58 c130
       refine o_z ?_
       refine Ar rfl (Ah (Ae (o_mv rfl rfl ?_)))
       obtain ⟨q131,e132,hf58⟩:=bs hf58
       refine Cv (O:=O126) (R:=fun w' F v=>T2 w' F v q131) (CL Fr.lt (show inI64 (3) from by decide) r65 e132) rfl rfl fun v137 w133 O134 S135 h136=>?_
       obtain ⟨v138,v139,rfl,h140,h141⟩:=h136
       obtain ⟨cs142,rfl,v143,rfl,h144,r147,r148,r149⟩:=h140
       obtain ⟨A145,c146,rfl⟩:=h144.form
       obtain ⟨rfl,r150⟩:=h141.err
       refine o_ex rfl rfl rfl (o_ex rfl rfl rfl ?_)
       replace h29:=((((h29.st S68).st S98).st S109).st S127).st S135
       refine AL h29 rfl rfl rfl (Nat.le_of_ble_eq_true rfl) (by first|exact allOne rfl|simp [Value.cells,Value.oneCell',AJ]) fun w151 S152 h29=>?_
       replace h29:Lc 3 w151 O134 g25 30 [(.int .i64 q131.1.verdict),(.slice A145 q131.1.plan.length c146),(.int .i64 q131.1.cost),(.int .i64 q131.1.expanded)]:=h29
       refine o_as rfl rfl (o_z ?_)
       refine At ?_
       obtain rfl:=sm hf58
       obtain rfl:=hret59 _ rfl
       obtain rfl:=sm (Bx hm)
       replace hB:=(((((hB.st S68).st S98).st S109).st S127).st S135).st S152
       replace h144:=h144.st S152
       exact ret2 rfl (BO (cs:=[(.int .i64 q131.1.verdict),(.slice A145 q131.1.plan.length c146),(.int .i64 q131.1.cost),(.int .i64 q131.1.expanded)]) rfl rfl h29.1.cellsAt) (AF rfl) ⟨hB.ext,_,_,rfl,(Vb.mono (F:=Fr 0 w151 O134) (Vb.ofAgg (cs:=[(.int .i64 q131.1.verdict),(.slice A145 q131.1.plan.length c146),(.int .i64 q131.1.cost),(.int .i64 q131.1.expanded)]) (x:=q131.1) rfl ⟨_,rfl,h144,r147,r148,r149⟩) hB.out),(vErr r150)⟩
      ·
       replace hf58:=im hf58 c130
       refine o_z ?_
       refine Aj rfl (Am (Ah (Ae (o_mv rfl rfl (o_nc rfl rfl (o_fa rfl rfl ?_))))))
       replace h69:=(h69.st S109).st S127
       refine o_ld (hc:=Blk.cell (i:=5) (h69.1) rfl) rfl rfl ?_
       refine o_mv rfl rfl ?_
       obtain ⟨q153,e154,hf58⟩:=bs hf58
       replace h91:=((h91.st S98).st S109).st S127
       replace h115:=h115.st S127
       refine Cv (O:=O126) (R:=fun w' F v=>Vb w' F v q153) (Cx Fr.lt h91 h115 e154) rfl rfl fun v159 w155 O156 S157 h158=>?_
       obtain ⟨A160,c161,rfl⟩:=h158.form
       refine o_ln rfl rfl ?_
       have l163:q153.length≤9223372036854775807:=Nat.le_trans h158.len.2.1 h158.len.2.2
       have r162:inI64 (q153.length:Int):=rngNat l163
       refine o_mv rfl rfl (o_z ?_)
       replace h69:=h69.st S157
       replace h72:=(((h72.st S98).st S109).st S127).st S157
       replace h76:=(((h76.st S98).st S109).st S127).st S157
       replace h80:=(((h80.st S98).st S109).st S127).st S157
       replace h84:=(((h84.st S98).st S109).st S127).st S157
       replace h91:=h91.st S157
       replace h112:=(h112.st S127).st S157
       obtain ⟨O164,S165,hz167,ha168,h166⟩:=Spc.shut (x:=s50.2) (l0:=4) (l1:=5) (by decide) h69 h72 h76 h80 h84 h112 h91
       obtain ⟨res169,hL170,hf58⟩:=bs hf58
       refine AT (aft res169 (fun (s171:Spc) (x172:Unit)=>[(1,(.int .i64 x1)),(2,(.pointer (some ⟨g20,0,none⟩))),(4,(.pointer (some ⟨g25,0,none⟩))),(6,(.pointer (some ⟨p47,0,none⟩))),(8,(.int .i64 s50.1))]) (fun s171 x172 w'=>∃ O':Lab,Bs w A w' O'∧Lc 2 w' O' g20 26 [(.slice A9 x0.vars.length c10),(.slice A12 x0.init.length c13),(.slice A15 x0.goal.length c16),(.slice A18 x0.ops.length c19)]∧Vb w' (Fr 0 w' O') (.slice A9 x0.vars.length c10) x0.vars∧Vb w' (Fr 0 w' O') (.slice A12 x0.init.length c13) x0.init∧Vb w' (Fr 0 w' O') (.slice A15 x0.goal.length c16) x0.goal∧Vb w' (Fr 0 w' O') (.slice A18 x0.ops.length c19) x0.ops∧Lc 3 w' O' g25 30 [(.int .i64 0),(.slice none 0 0),(.int .i64 0),(.int .i64 0)]∧Ob 4 w' O' (.pointer (some ⟨p47,0,none⟩)) s171)) ?_ ?_
       ·
        refine Al ?_
        replace hB:=(((((hB.st S68).st S98).st S109).st S127).st S157).st S165
        replace h8:=(((((h8.st S68).st S98).st S109).st S127).st S157).st S165
        replace h11:=(((((h11.st S68).st S98).st S109).st S127).st S157).st S165
        replace h14:=((h14.st S127).st S157).st S165
        replace h17:=(((((h17.st S68).st S98).st S109).st S127).st S157).st S165
        replace h24:=((h24.st S127).st S157).st S165
        replace h29:=(((((h29.st S68).st S98).st S109).st S127).st S157).st S165
        replace h158:=h158.st S165
        refine CC (σ:=Spc) (X:=Unit) (q153.length) hL170 rfl l163 (fun (s171:Spc) (x172:Unit)=>[(1,(.int .i64 x1)),(2,(.pointer (some ⟨g20,0,none⟩))),(4,(.pointer (some ⟨g25,0,none⟩))),(6,(.pointer (some ⟨p47,0,none⟩))),(8,(.int .i64 s50.1)),(70,(.slice A160 q153.length c161))]) _ (fun s171 x172 w'=>∃ O':Lab,Bs w A w' O'∧Lc 2 w' O' g20 26 [(.slice A9 x0.vars.length c10),(.slice A12 x0.init.length c13),(.slice A15 x0.goal.length c16),(.slice A18 x0.ops.length c19)]∧Vb w' (Fr 0 w' O') (.slice A9 x0.vars.length c10) x0.vars∧Vb w' (Fr 0 w' O') (.slice A12 x0.init.length c13) x0.init∧Vb w' (Fr 0 w' O') (.slice A15 x0.goal.length c16) x0.goal∧Vb w' (Fr 0 w' O') (.slice A18 x0.ops.length c19) x0.ops∧Lc 3 w' O' g25 30 [(.int .i64 0),(.slice none 0 0),(.int .i64 0),(.int .i64 0)]∧Ob 4 w' O' (.pointer (some ⟨p47,0,none⟩)) s171∧Vb w' (Fr 0 w' O') (.slice A160 q153.length c161) q153) _ () ⟨O164,hB,h24,h8,h11,h14,h17,h29,h166,h158⟩ ⟨rfl,rfl,rfl,rfl,rfl,rfl,rfl,rfl,trivial⟩ (fun _ _=>⟨rfl,rfl⟩) (fun _ _=>⟨rfl,rfl,rfl,rfl,rfl,trivial⟩) (fun _ _ _ ⟨O',hB,h24,h8,h11,h14,h17,h29,h185,h158⟩=>⟨O',hB,h24,h8,h11,h14,h17,h29,h185⟩) ⟨rfl,rfl,rfl⟩ ⟨rfl,rfl⟩ ?_
        rintro k173 a174 s171 x172 w175 cc177 hx178 ⟨O176,hB,h24,h8,h11,h14,h17,h29,h185,h158⟩ hf179 hret180 hbrk181
        have rk173:inI64 (k173:Int):=rngK hx178 l163
        refine Ah (Ae ?_)
        obtain ⟨b186,o187,ce188,hA189,hl190,hd191,v193,rfl,h194,r197⟩:=h158.elem' hx178
        obtain ⟨A195,c196,rfl⟩:=h194.form
        refine o_iaE (hA:=hA189) (hj:=rfl) (hlt:=hl190) rfl rfl rfl ?_
        refine o_la (hl:=rfl) (hc:=hd191) rfl rfl ?_
        refine BR 6 O176 rfl fun g198 w199 O200 S201 h202=>?_
        refine AL h202 rfl rfl rfl (Nat.le_of_ble_eq_true rfl) (by first|exact allOne rfl|simp [Value.cells,Value.oneCell',AJ]) fun w203 S204 h202=>?_
        replace h202:Lc 6 w203 O200 g198 83 [(.int .i64 a174.op),(.slice A195 a174.state.length c196)]:=h202
        refine o_z ?_
        refine Ah ?_
        replace h185:=(h185.st S201).st S204
        obtain ⟨O205,v209,v213,v217,v221,v225,v228,S206,ha208,h207,h210,h214,h218,h222,h226,h229⟩:=Spc.opn h185 4 5 (by decide)
        obtain ⟨A211,c212,rfl⟩:=h210.form
        obtain ⟨A215,c216,rfl⟩:=h214.form
        obtain ⟨A219,c220,rfl⟩:=h218.form
        obtain ⟨A223,c224,rfl⟩:=h222.form
        obtain ⟨p227,rfl⟩:=h226.ptr
        obtain ⟨p230,rfl,hq231⟩:=h229.ptr
        refine BK [(6,[5])] O205 ?_
        refine x_pre (fuel:=8) [] [(0,true),(1,true),(2,true),(3,true),(4,true),(5,true)] (by kernel_rfl) rfl ?_
        refine h_mv rfl rfl rfl (h_nc rfl rfl rfl (h_fa rfl rfl rfl (h_ldC (hc:=fun w' ⟨O',hq⟩=>Blk.cell (i:=4) ((h207.st hq (by decide)).1) rfl) rfl rfl rfl ?_)))
        refine h_fa rfl rfl rfl ?_
        replace h202:=h202.st S206
        refine h_ldC (hc:=fun w' ⟨O',hq⟩=>Blk.cell (i:=1) ((h202.st hq (by decide)).1) rfl) rfl rfl rfl ?_
        refine AE ?_
        refine x_one (i:=6) (by kernel_rfl) rfl ?_
        obtain ⟨q232,e233,hf179⟩:=bs hf179
        replace h194:=((h194.st S201).st S204).st S206
        refine Bk (O:=O205) (CE h226 h194 e233) rfl rfl fun v238 w234 O235 S236 h237=>?_
        obtain ⟨v240,v241,v242,h239,rfl,h243,h244,h245⟩:=h237
        obtain ⟨rfl,r246⟩:=h243.int
        obtain rfl:=h244.bool
        obtain ⟨rfl,r247⟩:=h245.err
        have hZ:=S236.lst [5] (fun _ h=>by cases h;decide)
        refine x_go [] hZ (by kernel_rfl) ?_
        refine x_pre (fuel:=0) [] [(7,true),(8,true),(9,true),(10,true),(11,true),(12,true),(13,true)] (by kernel_rfl) rfl ?_
        refine h_mv rfl rfl rfl (h_ex rfl rfl rfl rfl (h_ex rfl rfl rfl rfl (h_ex rfl rfl rfl rfl (h_as rfl rfl rfl (h_as rfl rfl rfl (h_as rfl rfl rfl (AE ?_)))))))
        refine x_nil (by kernel_rfl) ?_
        refine Ah (Ah (Ae (o_mv rfl rfl (o_rnS rfl rfl (fun c248=>?_) fun c248=>?_))))
        ·
         replace hf179:=ip hf179 c248
         refine o_z ?_
         refine Ar rfl (Ah (Ae (o_mv rfl rfl ?_)))
         obtain ⟨n249,e250,hf179⟩:=bs hf179
         have r251:=(Bl e250)
         refine o_adE (he:=e250) rfl rfl rfl ?_
         obtain ⟨q252,e253,hf179⟩:=bs hf179
         refine Cv (O:=O235) (R:=fun w' F v=>T2 w' F v q252) (CL Fr.lt (show inI64 (3) from by decide) r251 e253) rfl rfl fun v258 w254 O255 S256 h257=>?_
         obtain ⟨v259,v260,rfl,h261,h262⟩:=h257
         obtain ⟨cs263,rfl,v264,rfl,h265,r268,r269,r270⟩:=h261
         obtain ⟨A266,c267,rfl⟩:=h265.form
         obtain ⟨rfl,r271⟩:=h262.err
         refine o_ex rfl rfl rfl (o_ex rfl rfl rfl ?_)
         replace h29:=((((h29.st S201).st S204).st S206).st S236).st S256
         refine AL h29 rfl rfl rfl (Nat.le_of_ble_eq_true rfl) (by first|exact allOne rfl|simp [Value.cells,Value.oneCell',AJ]) fun w272 S273 h29=>?_
         replace h29:Lc 3 w272 O255 g25 30 [(.int .i64 q252.1.verdict),(.slice A266 q252.1.plan.length c267),(.int .i64 q252.1.cost),(.int .i64 q252.1.expanded)]:=h29
         refine o_as rfl rfl (o_z ?_)
         refine At ?_
         obtain rfl:=sm hf179
         obtain rfl:=hret180 _ rfl
         obtain rfl:=sm (Bx hf58)
         obtain rfl:=hret59 _ rfl
         obtain rfl:=sm (Bx hm)
         replace hB:=(((((hB.st S201).st S204).st S206).st S236).st S256).st S273
         replace h265:=h265.st S273
         exact ret2 rfl (BO (cs:=[(.int .i64 q252.1.verdict),(.slice A266 q252.1.plan.length c267),(.int .i64 q252.1.cost),(.int .i64 q252.1.expanded)]) rfl rfl h29.1.cellsAt) (AF rfl) ⟨hB.ext,_,_,rfl,(Vb.mono (F:=Fr 0 w272 O255) (Vb.ofAgg (cs:=[(.int .i64 q252.1.verdict),(.slice A266 q252.1.plan.length c267),(.int .i64 q252.1.cost),(.int .i64 q252.1.expanded)]) (x:=q252.1) rfl ⟨_,rfl,h265,r268,r269,r270⟩) hB.out),(vErr r271)⟩
        ·
         replace hf179:=im hf179 c248
         refine o_z ?_
         refine Aj rfl (Am (Ah (Ae (o_mv rfl rfl (o_z ?_)))))
         refine Cu rfl (fun c274=>?_) (fun c274=>?_)
         ·
          replace hf179:=ip hf179 c274
          refine Ah (BK [(8,[5])] O235 ?_)
          refine x_pre (fuel:=2) [] [(0,true),(1,true),(2,true),(3,true),(4,true),(5,true),(6,true),(7,true)] (by kernel_rfl) rfl ?_
          refine h_mv rfl rfl rfl (h_nc rfl rfl rfl (h_fa rfl rfl rfl ?_))
          replace h207:=h207.st S236
          refine h_ldC (hc:=fun w' ⟨O',hq⟩=>Blk.cell (i:=4) ((h207.st hq (by decide)).1) rfl) rfl rfl rfl ?_
          refine h_mv rfl rfl rfl (h_mv rfl rfl rfl (h_fa rfl rfl rfl ?_))
          replace h202:=h202.st S236
          refine h_ldC (hc:=fun w' ⟨O',hq⟩=>Blk.cell (i:=0) ((h202.st hq (by decide)).1) rfl) rfl rfl rfl ?_
          refine AE ?_
          refine x_one (i:=8) (by kernel_rfl) rfl ?_
          obtain ⟨q275,e276,hf179⟩:=bs hf179
          refine Bk (O:=O235) (Du h239 r246 r65 r197 (show inI64 (0) from by decide) e276) rfl rfl fun v281 w277 O278 S279 h280=>?_
          obtain ⟨h282,h283⟩:=h280
          obtain ⟨rfl,r284⟩:=h283.err
          have hZ:=S279.lst [5] (fun _ h=>by cases h;decide)
          refine x_go [] hZ (by kernel_rfl) ?_
          refine x_pre (fuel:=0) [] [(9,true)] (by kernel_rfl) rfl ?_
          refine h_as rfl rfl rfl (AE ?_)
          refine x_nil (by kernel_rfl) ?_
          refine Ah (Ae (o_mv rfl rfl (o_rnS rfl rfl (fun c285=>?_) fun c285=>?_)))
          ·
           replace hf179:=ip hf179 c285
           refine o_z ?_
           refine Ar rfl (Ah (Ae (o_bd rfl rfl rfl ?_)))
           refine o_mv rfl rfl ?_
           replace h29:=((((h29.st S201).st S204).st S206).st S236).st S279
           refine AL h29 rfl rfl rfl (Nat.le_of_ble_eq_true rfl) (by first|exact allOne rfl|simp [Value.cells,Value.oneCell',AJ]) fun w286 S287 h29=>?_
           replace h29:Lc 3 w286 O278 g25 30 [(.int .i64 0),(.slice none 0 0),(.int .i64 0),(.int .i64 0)]:=h29
           refine o_as rfl rfl (o_z ?_)
           refine At ?_
           obtain rfl:=sm hf179
           obtain rfl:=hret180 _ rfl
           obtain rfl:=sm (Bx hf58)
           obtain rfl:=hret59 _ rfl
           obtain rfl:=sm (Bx hm)
           replace hB:=(((((hB.st S201).st S204).st S206).st S236).st S279).st S287
           exact ret2 rfl (BO (cs:=[(.int .i64 0),(.slice none 0 0),(.int .i64 0),(.int .i64 0)]) rfl rfl h29.1.cellsAt) (AF rfl) ⟨hB.ext,_,_,rfl,(Vb.mono (F:=Fr 0 w286 O278) (Vb.ofAgg (cs:=[(.int .i64 0),(.slice none 0 0),(.int .i64 0),(.int .i64 0)]) (x:=(⟨0,([]:List Int),0,0⟩:Rsl)) rfl ⟨_,rfl,(Vb.nil _ _),(show inI64 0 from by decide),(show inI64 0 from by decide),(show inI64 0 from by decide)⟩) hB.out),(vErr r284)⟩
          ·
           replace hf179:=im hf179 c285
           refine o_z ?_
           refine Aj rfl (Am ?_)
           replace h207:=h207.st S279
           replace h210:=(h210.st S236).st S279
           replace h214:=(h214.st S236).st S279
           replace h218:=(h218.st S236).st S279
           replace h222:=(h222.st S236).st S279
           replace h229:=(h229.st S236).st S279
           obtain ⟨O288,S289,hz291,ha292,h290⟩:=Spc.shut (x:=(⟨(⟨s171.t.vars,s171.t.init,s171.t.goal,s171.t.ops⟩:Tsk),q275.2,s171.gen⟩:Spc)) (l0:=4) (l1:=5) (by decide) h207 h210 h214 h218 h222 h282 h229
           obtain rfl:=sm hf179
           refine (?_:Exists _)
           replace hB:=(((((hB.st S201).st S204).st S206).st S236).st S279).st S289
           replace h8:=(((((h8.st S201).st S204).st S206).st S236).st S279).st S289
           replace h11:=(((((h11.st S201).st S204).st S206).st S236).st S279).st S289
           replace h14:=(((((h14.st S201).st S204).st S206).st S236).st S279).st S289
           replace h17:=(((((h17.st S201).st S204).st S206).st S236).st S279).st S289
           replace h24:=(((((h24.st S201).st S204).st S206).st S236).st S279).st S289
           replace h29:=(((((h29.st S201).st S204).st S206).st S236).st S279).st S289
           replace h158:=(((((h158.st S201).st S204).st S206).st S236).st S279).st S289
           exact ⟨_,(),rfl,⟨rfl,rfl,rfl,rfl,rfl,rfl,rfl,rfl,trivial⟩,_,hB,h24,h8,h11,h14,h17,h29,h290,h158⟩
         ·
          replace hf179:=im' hf179 c274
          refine Am ?_
          replace h207:=h207.st S236
          replace h210:=h210.st S236
          replace h214:=h214.st S236
          replace h218:=h218.st S236
          replace h222:=h222.st S236
          replace h229:=h229.st S236
          obtain ⟨O293,S294,hz296,ha297,h295⟩:=Spc.shut (x:=(⟨(⟨s171.t.vars,s171.t.init,s171.t.goal,s171.t.ops⟩:Tsk),q232.2.2.2,s171.gen⟩:Spc)) (l0:=4) (l1:=5) (by decide) h207 h210 h214 h218 h222 h239 h229
          obtain rfl:=sm hf179
          refine (?_:Exists _)
          replace hB:=((((hB.st S201).st S204).st S206).st S236).st S294
          replace h8:=((((h8.st S201).st S204).st S206).st S236).st S294
          replace h11:=((((h11.st S201).st S204).st S206).st S236).st S294
          replace h14:=((((h14.st S201).st S204).st S206).st S236).st S294
          replace h17:=((((h17.st S201).st S204).st S206).st S236).st S294
          replace h24:=((((h24.st S201).st S204).st S206).st S236).st S294
          replace h29:=((((h29.st S201).st S204).st S206).st S236).st S294
          replace h158:=((((h158.st S201).st S204).st S206).st S236).st S294
          exact ⟨_,(),rfl,⟨rfl,rfl,rfl,rfl,rfl,rfl,rfl,rfl,trivial⟩,_,hB,h24,h8,h11,h14,h17,h29,h295,h158⟩
       replace hB:=(((((hB.st S68).st S98).st S109).st S127).st S157).st S165
       replace h8:=(((((h8.st S68).st S98).st S109).st S127).st S157).st S165
       replace h11:=(((((h11.st S68).st S98).st S109).st S127).st S157).st S165
       replace h14:=((h14.st S127).st S157).st S165
       replace h17:=(((((h17.st S68).st S98).st S109).st S127).st S157).st S165
       replace h24:=((h24.st S127).st S157).st S165
       replace h29:=(((((h29.st S68).st S98).st S109).st S127).st S157).st S165
       rintro l298 w299 ⟨s302,x303,rfl,hs301,O300,hB,h24,h8,h11,h14,h17,h29,h185⟩
       replace hf58:=Br hf58
       refine AW _ hs301 ?_
       refine Ae (o_mv rfl rfl ?_)
       obtain ⟨n304,e305,hf58⟩:=bs hf58
       have r306:=(Bl e305)
       refine o_adE (he:=e305) rfl rfl rfl ?_
       refine o_as rfl rfl (o_z ?_)
       obtain rfl:=sm hf58
       refine (?_:Exists _)
       exact ⟨_,(),rfl,⟨rfl,rfl,rfl,rfl,rfl,trivial⟩,_,hB,h24,h8,h11,h14,h17,h29,h185,r306⟩
     replace hf58:=iT hf58
     refine o_z ?_
     refine Ar rfl (Ah (Ae (o_mv rfl rfl (o_mv rfl rfl (o_mv rfl rfl ?_)))))
     replace h69:=(h69.st S109).st S127
     replace h72:=((h72.st S98).st S109).st S127
     replace h76:=((h76.st S98).st S109).st S127
     replace h80:=((h80.st S98).st S109).st S127
     replace h84:=((h84.st S98).st S109).st S127
     replace h91:=((h91.st S98).st S109).st S127
     replace h112:=h112.st S127
     obtain ⟨O307,S308,hz310,ha311,h309⟩:=Spc.shut (x:=s50.2) (l0:=4) (l1:=5) (by decide) h69 h72 h76 h80 h84 h112 h91
     obtain ⟨q312,e313,hf58⟩:=bs hf58
     refine Bk (O:=O307) (Eg h309 r65 r65 e313) rfl rfl fun v318 w314 O315 S316 h317=>?_
     obtain ⟨v320,v321,h319,rfl,h322,h323⟩:=h317
     obtain ⟨cs324,rfl,v325,rfl,h326,r329,r330,r331⟩:=h322
     obtain ⟨A327,c328,rfl⟩:=h326.form
     obtain ⟨rfl,r332⟩:=h323.err
     refine o_ex rfl rfl rfl (o_ex rfl rfl rfl ?_)
     replace h29:=(((((h29.st S68).st S98).st S109).st S127).st S308).st S316
     refine AL h29 rfl rfl rfl (Nat.le_of_ble_eq_true rfl) (by first|exact allOne rfl|simp [Value.cells,Value.oneCell',AJ]) fun w333 S334 h29=>?_
     replace h29:Lc 3 w333 O315 g25 30 [(.int .i64 q312.1.verdict),(.slice A327 q312.1.plan.length c328),(.int .i64 q312.1.cost),(.int .i64 q312.1.expanded)]:=h29
     refine o_as rfl rfl (o_z ?_)
     refine At ?_
     obtain rfl:=sm hf58
     obtain rfl:=hret59 _ rfl
     obtain rfl:=sm (Bx hm)
     replace hB:=((((((hB.st S68).st S98).st S109).st S127).st S308).st S316).st S334
     replace h326:=h326.st S334
     exact ret2 rfl (BO (cs:=[(.int .i64 q312.1.verdict),(.slice A327 q312.1.plan.length c328),(.int .i64 q312.1.cost),(.int .i64 q312.1.expanded)]) rfl rfl h29.1.cellsAt) (AF rfl) ⟨hB.ext,_,_,rfl,(Vb.mono (F:=Fr 0 w333 O315) (Vb.ofAgg (cs:=[(.int .i64 q312.1.verdict),(.slice A327 q312.1.plan.length c328),(.int .i64 q312.1.cost),(.int .i64 q312.1.expanded)]) (x:=q312.1) rfl ⟨_,rfl,h326,r329,r330,r331⟩) hB.out),(vErr r332)⟩
   ·
    replace hf58:=im hf58 c104
    refine o_z ?_
    refine Aj rfl (Au ?_)
    replace h69:=h69.st S98
    replace h72:=h72.st S98
    replace h76:=h76.st S98
    replace h80:=h80.st S98
    replace h84:=h84.st S98
    replace h91:=h91.st S98
    obtain ⟨O335,S336,hz338,ha339,h337⟩:=Spc.shut (x:=s50.2) (l0:=4) (l1:=5) (by decide) h69 h72 h76 h80 h84 h101 h91
    obtain rfl:=sm hf58
    refine (?_:Exists _)
    replace hB:=((hB.st S68).st S98).st S336
    replace h29:=((h29.st S68).st S98).st S336
    exact ⟨_,(),hbrk60 _ rfl,⟨rfl,rfl,trivial⟩,_,hB,h29,h337,r65⟩
  replace hB:=((hB.st S23).st S28).st S34
  replace h29:=h29.st S34
  rintro l340 w341 ⟨s344,x345,rfl,hs343,O342,hB,h29,h66,r65⟩
  replace hm:=Br hm
  refine AW _ hs343 ?_
  refine Ah (Ae (o_mv rfl rfl (o_nc rfl rfl ?_)))
  obtain ⟨O346,v350,v354,v358,v362,v366,v369,S347,ha349,h348,h351,h355,h359,h363,h367,h370⟩:=Spc.opn h66 4 5 (by decide)
  obtain ⟨A352,c353,rfl⟩:=h351.form
  obtain ⟨A356,c357,rfl⟩:=h355.form
  obtain ⟨A360,c361,rfl⟩:=h359.form
  obtain ⟨A364,c365,rfl⟩:=h363.form
  obtain ⟨p368,rfl⟩:=h367.ptr
  obtain ⟨p371,rfl,hq372⟩:=h370.ptr
  refine o_fa rfl rfl (o_ld (hc:=Blk.cell (i:=4) (h348.1) rfl) rfl rfl ?_)
  obtain ⟨q373,e374,hm⟩:=bs hm
  refine Bk (O:=O346) (BW h367 e374) rfl rfl fun v379 w375 O376 S377 h378=>?_
  obtain ⟨h380,h381⟩:=h378
  obtain ⟨rfl,r382⟩:=h381.int
  obtain ⟨q383,e384,hm⟩:=bs hm
  refine Cv (O:=O376) (R:=fun w' F v=>T2 w' F v q383) (CL Fr.lt (show inI64 (2) from by decide) r382 e384) rfl rfl fun v389 w385 O386 S387 h388=>?_
  obtain ⟨v390,v391,rfl,h392,h393⟩:=h388
  obtain ⟨cs394,rfl,v395,rfl,h396,r399,r400,r401⟩:=h392
  obtain ⟨A397,c398,rfl⟩:=h396.form
  obtain ⟨rfl,r402⟩:=h393.err
  refine o_ex rfl rfl rfl (o_ex rfl rfl rfl ?_)
  replace h29:=((h29.st S347).st S377).st S387
  refine AL h29 rfl rfl rfl (Nat.le_of_ble_eq_true rfl) (by first|exact allOne rfl|simp [Value.cells,Value.oneCell',AJ]) fun w403 S404 h29=>?_
  replace h29:Lc 3 w403 O386 g25 30 [(.int .i64 q383.1.verdict),(.slice A397 q383.1.plan.length c398),(.int .i64 q383.1.cost),(.int .i64 q383.1.expanded)]:=h29
  refine o_as rfl rfl (o_z ?_)
  refine At ?_
  obtain rfl:=sm hm
  replace hB:=(((hB.st S347).st S377).st S387).st S404
  replace h396:=h396.st S404
  exact ret2 rfl (BO (cs:=[(.int .i64 q383.1.verdict),(.slice A397 q383.1.plan.length c398),(.int .i64 q383.1.cost),(.int .i64 q383.1.expanded)]) rfl rfl h29.1.cellsAt) (AF rfl) ⟨hB.ext,_,_,rfl,(Vb.mono (F:=Fr 0 w403 O386) (Vb.ofAgg (cs:=[(.int .i64 q383.1.verdict),(.slice A397 q383.1.plan.length c398),(.int .i64 q383.1.cost),(.int .i64 q383.1.expanded)]) (x:=q383.1) rfl ⟨_,rfl,h396,r399,r400,r401⟩) hB.out),(vErr r402)⟩
noncomputable def Bq (x0:Tsk) (x1:Int):Option (Rsl×Err) :=
  bnd (BB x0) fun q30=>if q30.2.n≠0 then (some ((⟨0,([]:List Int),0,0⟩:Rsl),(⟨q30.2.n⟩:Err))) else (bnd q30.1 fun o68=>bnd (lop (ρ:=Rsl×Err) (fun (s78:(List Int)×(List Bool)×Int×Int×Spc×(BxR 98 96 Itm))=>bnd (Bh s78.2.2.2.2.2.l) fun q116=>if 0 < q116 then (bnd (BM s78.2.2.2.2.2) fun q130=>bnd (atI s78.2.1 q130.1.x.id) fun a152=>if a152=true then (some (.next (s78.1,s78.2.1,s78.2.2.1,s78.2.2.2.1,s78.2.2.2.2.1,q130.2))) else (bnd (AY s78.2.2.2.2.1.reg q130.1.x.id) fun q191=>if q191.2.n≠0 then (some (.ret ((⟨0,([]:List Int),0,0⟩:Rsl),(⟨q191.2.n⟩:Err)))) else (bnd (Cq x0.goal q191.1) fun q209=>if q209=true then bnd (Bd s78.2.2.2.2.1 q130.1.x.id s78.2.2.2.1) fun q581=>some (.ret (q581.1,(⟨q581.2.n⟩:Err))) else if x1≤s78.2.2.2.1 then (bnd (AZ 3 s78.2.2.2.1) fun q217=>some (.ret (q217.1,(⟨q217.2.n⟩:Err)))) else (bnd (atI s78.2.1 q130.1.x.id) fun a239=>bnd (chkI (s78.2.2.2.1 + 1)) fun n252=>bnd (AS s78.2.2.2.2.1.gen q191.1) fun q255=>bnd (rng (ρ:=Ctl ((List Int)×(List Bool)×Int×Int×Spc×(BxR 98 96 Itm)) (Rsl×Err)) (fun (k275:Nat) (a276:Suc) (s273:(List Int)×(List Bool)×Int×Spc×(BxR 98 96 Itm))=>bnd (AU s273.2.2.2.1.reg a276.state) fun q346=>if q346.2.2.1.n≠0 then (bnd (AZ 3 n252) fun q363=>some (.ret (.ret (q363.1,(⟨q363.2.n⟩:Err))))) else (bnd (atI x0.ops a276.op) fun a385=>bnd (chkI (q130.1.x.cost + a385.cost)) fun n406=>bnd (if q346.2.1=true then (bnd (appI 8 s273.1 [n406]) fun u418=>bnd (appI 1 s273.2.1 [false]) fun u430=>some (.done (u418,u430))) else (bnd (bnd (atI s273.2.1 q346.1) fun a451=>if a451=true then (some true) else (bnd (atI s273.1 q346.1) fun a468=>if a468≤n406 then (some true) else (some false)):Option Bool) fun y447=>if y447=true then (some (.ret (.next (s273.1,s273.2.1,s273.2.2.1,(⟨(⟨s273.2.2.2.1.t.vars,s273.2.2.2.1.t.init,s273.2.2.2.1.t.goal,s273.2.2.2.1.t.ops⟩:Tsk),q346.2.2.2,s273.2.2.2.1.gen⟩:Spc),s273.2.2.2.2)))) else (some (.done (s273.1,s273.2.1)))):Option (Fin ((List Int)×(List Bool)) (Ctl ((List Int)×(List Bool)×Int×Spc×(BxR 98 96 Itm)) (Ctl ((List Int)×(List Bool)×Int×Int×Spc×(BxR 98 96 Itm)) (Rsl×Err))))) fun y409=>fin y409 fun (s411:(List Int)×(List Bool))=>bnd (atI s411.1 q346.1) fun a500=>bnd (Bc ((⟨(⟨s273.2.2.2.1.t.vars,s273.2.2.2.1.t.init,s273.2.2.2.1.t.goal,s273.2.2.2.1.t.ops⟩:Tsk),q346.2.2.2,s273.2.2.2.1.gen⟩:Spc).reg) q346.1 q130.1.x.id a276.op n406) fun q541=>if q541.1.n≠0 then (some (.ret (.ret ((⟨0,([]:List Int),0,0⟩:Rsl),(⟨q541.1.n⟩:Err))))) else (bnd (BD s273.2.2.2.2 (⟨(⟨n406,s273.2.2.1,q346.1⟩:Itm)⟩:An 96 Itm)) fun q554=>bnd (chkI (s273.2.2.1 + 1)) fun n562=>some (.next ((s411.1.set (q346.1:Int).toNat n406),s411.2,n562,(⟨(⟨(⟨(⟨s273.2.2.2.1.t.vars,s273.2.2.2.1.t.init,s273.2.2.2.1.t.goal,s273.2.2.2.1.t.ops⟩:Tsk),q346.2.2.2,s273.2.2.2.1.gen⟩:Spc).t.vars,(⟨(⟨s273.2.2.2.1.t.vars,s273.2.2.2.1.t.init,s273.2.2.2.1.t.goal,s273.2.2.2.1.t.ops⟩:Tsk),q346.2.2.2,s273.2.2.2.1.gen⟩:Spc).t.init,(⟨(⟨s273.2.2.2.1.t.vars,s273.2.2.2.1.t.init,s273.2.2.2.1.t.goal,s273.2.2.2.1.t.ops⟩:Tsk),q346.2.2.2,s273.2.2.2.1.gen⟩:Spc).t.goal,(⟨(⟨s273.2.2.2.1.t.vars,s273.2.2.2.1.t.init,s273.2.2.2.1.t.goal,s273.2.2.2.1.t.ops⟩:Tsk),q346.2.2.2,s273.2.2.2.1.gen⟩:Spc).t.ops⟩:Tsk),q541.2,(⟨(⟨s273.2.2.2.1.t.vars,s273.2.2.2.1.t.init,s273.2.2.2.1.t.goal,s273.2.2.2.1.t.ops⟩:Tsk),q346.2.2.2,s273.2.2.2.1.gen⟩:Spc).gen⟩:Spc),q554))))) q255 0 (s78.1,(s78.2.1.set (q130.1.x.id:Int).toNat true),s78.2.2.1,s78.2.2.2.2.1,q130.2)) fun res271=>fin res271 fun (s574:(List Int)×(List Bool)×Int×Spc×(BxR 98 96 Itm))=>some (.next (s574.1,s574.2.1,s574.2.2.1,n252,s574.2.2.2.1,s574.2.2.2.2)))))) else (some (.brk (s78.1,s78.2.1,s78.2.2.1,s78.2.2.2.1,s78.2.2.2.2.1,s78.2.2.2.2.2)))) (([0]:List Int),[false],1,0,o68,(⟨[(⟨0,0,0⟩:Itm)]⟩:BxR 98 96 Itm))) fun res76=>fin res76 fun (s613:(List Int)×(List Bool)×Int×Int×Spc×(BxR 98 96 Itm))=>bnd (AZ 2 s613.2.2.2.1) fun q615=>some (q615.1,(⟨q615.2.n⟩:Err)))
theorem Fj {w:World} {A:Nat→Prop} (hA:∀ k,A k→k < w.heap.size) {vx0:Value} {x0:Tsk} (hx0:Vb w A vx0 x0) {x1:Int} (rx1:inI64 x1) {r:Rsl×Err} (hm:Bq x0 x1=some r) :
    Fn Try.prog 20 [vx0,(.int .i64 x1)] w fun v w'=>Ext w w'∧T2 w' (upA A w w') v r:=by
 obtain ⟨O,hB,hA0⟩:=enter hA
 replace hx0:=hx0.mono hA0
 obtain ⟨cs3,rfl,v4,v5,v6,v7,rfl,h8,h11,h14,h17⟩:=hx0
 obtain ⟨A9,c10,rfl⟩:=h8.form
 obtain ⟨A12,c13,rfl⟩:=h11.form
 obtain ⟨A15,c16,rfl⟩:=h14.form
 obtain ⟨A18,c19,rfl⟩:=h17.form
 refine AN Try.func20 rfl Try.ntmps20 rfl ?_
 unfold Bq at hm
 refine Ah (Ae (l_box 2 O rfl rfl fun g20 w21 O22 S23 h24=>?_))
 replace h24:Lc 2 w21 O22 g20 26 [(.slice A9 x0.vars.length c10),(.slice A12 x0.init.length c13),(.slice A15 x0.goal.length c16),(.slice A18 x0.ops.length c19)]:=h24
 refine BR 3 O22 rfl fun g25 w26 O27 S28 h29=>?_
 refine o_as rfl rfl (o_z ?_)
 refine Ah (Ae ?_)
 replace h24:=h24.st S28
 refine o_la (hl:=rfl) (hc:=(h24.1).cellsAt) rfl rfl ?_
 obtain ⟨q30,e31,hm⟩:=bs hm
 replace h8:=(h8.st S23).st S28
 replace h11:=(h11.st S23).st S28
 replace h14:=(h14.st S23).st S28
 replace h17:=(h17.st S23).st S28
 refine Bk (O:=O27) (EB (Vb.ofAgg (cs:=[(.slice A9 x0.vars.length c10),(.slice A12 x0.init.length c13),(.slice A15 x0.goal.length c16),(.slice A18 x0.ops.length c19)]) (x:=x0) rfl ⟨_,_,_,_,rfl,h8,h11,h14,h17⟩) 4 (by decide) e31) rfl rfl fun v36 w32 O33 S34 h35=>?_
 obtain ⟨v37,v38,rfl,h39,h40⟩:=h35
 obtain ⟨rfl,r41⟩:=h40.err
 refine o_mv rfl rfl (o_ex rfl rfl rfl (o_ex rfl rfl rfl (o_as rfl rfl (o_as rfl rfl (o_z ?_)))))
 refine Ah (Ah (Ae (o_mv rfl rfl (o_rnS rfl rfl (fun c42=>?_) fun c42=>?_))))
 ·
  replace hm:=ip hm c42
  refine o_z ?_
  refine Ar rfl (Ah (Ae (o_bd rfl rfl rfl ?_)))
  refine o_mv rfl rfl ?_
  replace h29:=h29.st S34
  refine AL h29 rfl rfl rfl (Nat.le_of_ble_eq_true rfl) (by first|exact allOne rfl|simp [Value.cells,Value.oneCell',AJ]) fun w43 S44 h29=>?_
  replace h29:Lc 3 w43 O33 g25 30 [(.int .i64 0),(.slice none 0 0),(.int .i64 0),(.int .i64 0)]:=h29
  refine o_as rfl rfl (o_z ?_)
  refine At ?_
  obtain rfl:=sm hm
  replace hB:=(((hB.st S23).st S28).st S34).st S44
  exact ret2 rfl (BO (cs:=[(.int .i64 0),(.slice none 0 0),(.int .i64 0),(.int .i64 0)]) rfl rfl h29.1.cellsAt) (AF rfl) ⟨hB.ext,_,_,rfl,(Vb.mono (F:=Fr 0 w43 O33) (Vb.ofAgg (cs:=[(.int .i64 0),(.slice none 0 0),(.int .i64 0),(.int .i64 0)]) (x:=(⟨0,([]:List Int),0,0⟩:Rsl)) rfl ⟨_,rfl,(Vb.nil _ _),(show inI64 0 from by decide),(show inI64 0 from by decide),(show inI64 0 from by decide)⟩) hB.out),(vErr r41)⟩
 ·
  replace hm:=im hm c42
  refine o_z ?_
  refine Aj rfl (Am (Ah (Ae (AR 5 (by decide) O33 (xs:=(([0]:List Int):List Int)) rfl rfl rfl rfl ⟨(vInt (show inI64 (0) from by decide)),trivial⟩ (by decide) (by decide) rfl fun g45 w46 O47 S48 h49=>?_))))
  refine AR 6 (by decide) O47 (xs:=([false]:List Bool)) rfl rfl rfl rfl ⟨vBool,trivial⟩ (by decide) (by decide) rfl fun g51 w52 O53 S54 h55=>?_
  refine o_as rfl rfl (o_as rfl rfl (o_z ?_))
  refine Ah (Ae (o_bd rfl rfl rfl ?_))
  refine AR 7 (by decide) O53 (xs:=([(⟨0,0,0⟩:Itm)]:List Itm)) rfl rfl rfl rfl ⟨(Vb.ofAgg (cs:=[(.int .i64 0),(.int .i64 0),(.int .i64 0)]) (x:=(⟨0,0,0⟩:Itm)) rfl ⟨rfl,(show inI64 0 from by decide),(show inI64 0 from by decide),(show inI64 0 from by decide)⟩),trivial⟩ (by decide) (by decide) rfl fun g57 w58 O59 S60 h61=>?_
  refine l_box 8 O59 rfl rfl fun g63 w64 O65 S66 h67=>?_
  refine o_as rfl rfl (o_z ?_)
  refine Ah (Ae (o_as rfl rfl (o_as rfl rfl (o_z ?_))))
  refine Ah ?_
  obtain ⟨o68,e69,hm⟩:=bs hm
  replace h39:=(((h39.st S48).st S54).st S60).st S66
  rw [e69] at h39
  obtain ⟨p70,rfl⟩:=Ob.ptr h39
  replace h61:=h61.st S66
  obtain ⟨O71,S72,hz74,ha75,h73⟩:=BxR.shut (x:=(⟨[(⟨0,0,0⟩:Itm)]⟩:BxR 98 96 Itm)) (l0:=8) (l1:=7) (by decide) h67 h61
  obtain ⟨res76,hL77,hm⟩:=bs hm
  refine AT (aft res76 (fun (s78:(List Int)×(List Bool)×Int×Int×Spc×(BxR 98 96 Itm)) (x79:(Option Addr×Nat)×(Option Addr×Nat))=>[(4,(.pointer (some ⟨g25,0,none⟩))),(12,(.int .i64 s78.2.2.2.1))]) (fun s78 x79 w'=>∃ O':Lab,Bs w A w' O'∧Lc 3 w' O' g25 30 [(.int .i64 0),(.slice none 0 0),(.int .i64 0),(.int .i64 0)]∧inI64 s78.2.2.1∧inI64 s78.2.2.2.1)) ?_ ?_
  ·
   refine Al ?_
   replace hB:=(((((((hB.st S23).st S28).st S34).st S48).st S54).st S60).st S66).st S72
   replace h8:=(((((h8.st S34).st S48).st S54).st S60).st S66).st S72
   replace h11:=(((((h11.st S34).st S48).st S54).st S60).st S66).st S72
   replace h14:=(((((h14.st S34).st S48).st S54).st S60).st S66).st S72
   replace h17:=(((((h17.st S34).st S48).st S54).st S60).st S66).st S72
   replace h24:=(((((h24.st S34).st S48).st S54).st S60).st S66).st S72
   replace h29:=(((((h29.st S34).st S48).st S54).st S60).st S66).st S72
   replace h39:=h39.st S72
   replace h49:=(((h49.st S54).st S60).st S66).st S72
   replace h55:=((h55.st S60).st S66).st S72
   refine Er (σ:=(List Int)×(List Bool)×Int×Int×Spc×(BxR 98 96 Itm)) (X:=(Option Addr×Nat)×(Option Addr×Nat)) hL77 (fun (s78:(List Int)×(List Bool)×Int×Int×Spc×(BxR 98 96 Itm)) (x79:(Option Addr×Nat)×(Option Addr×Nat))=>[(1,(.int .i64 x1)),(2,(.pointer (some ⟨g20,0,none⟩))),(4,(.pointer (some ⟨g25,0,none⟩))),(6,(.pointer (some ⟨p70,0,none⟩))),(8,(.slice x79.1.1 s78.1.length x79.1.2)),(9,(.slice x79.2.1 s78.2.1.length x79.2.2)),(10,(.pointer (some ⟨g63,0,none⟩))),(11,(.int .i64 s78.2.2.1)),(12,(.int .i64 s78.2.2.2.1))]) _ (fun s78 x79 w'=>∃ O':Lab,Bs w A w' O'∧Lc 2 w' O' g20 26 [(.slice A9 x0.vars.length c10),(.slice A12 x0.init.length c13),(.slice A15 x0.goal.length c16),(.slice A18 x0.ops.length c19)]∧Vb w' (Fr 0 w' O') (.slice A9 x0.vars.length c10) x0.vars∧Vb w' (Fr 0 w' O') (.slice A12 x0.init.length c13) x0.init∧Vb w' (Fr 0 w' O') (.slice A15 x0.goal.length c16) x0.goal∧Vb w' (Fr 0 w' O') (.slice A18 x0.ops.length c19) x0.ops∧Lc 3 w' O' g25 30 [(.int .i64 0),(.slice none 0 0),(.int .i64 0),(.int .i64 0)]∧Ob 4 w' O' (.pointer (some ⟨p70,0,none⟩)) s78.2.2.2.2.1∧Rw 5 w' O' 3 (.slice x79.1.1 s78.1.length x79.1.2) s78.1∧Rw 6 w' O' 4 (.slice x79.2.1 s78.2.1.length x79.2.2) s78.2.1∧Ob 8 w' O' (.pointer (some ⟨g63,0,none⟩)) s78.2.2.2.2.2∧inI64 s78.2.2.1∧inI64 s78.2.2.2.1) _ (((some ⟨g45,0,none⟩),1),((some ⟨g51,0,none⟩),1)) ⟨O71,hB,h24,h8,h11,h14,h17,h29,h39,h49,h55,h73,(show inI64 (1) from by decide),(show inI64 (0) from by decide)⟩ ⟨rfl,rfl,rfl,rfl,rfl,rfl,rfl,rfl,rfl,trivial⟩ ?_
   rintro s78 x79 w82 cc84 ⟨O83,hB,h24,h8,h11,h14,h17,h29,h105,h99,h101,h106,r103,r104⟩ hf86 hret87 hbrk88
   refine Ah (Ah (Ae (o_mv rfl rfl (o_nc rfl rfl ?_))))
   obtain ⟨O107,v111,S108,ha110,h109,h112⟩:=BxR.opn h106 8 9 (by decide)
   obtain ⟨A113,c114,rfl⟩:=h112.form
   refine o_ld (hc:=Blk.cell (i:=0) (h109.1) rfl) rfl rfl ?_
   obtain ⟨q116,e117,hf86⟩:=bs hf86
   refine Cf (O:=O107) (A:=All w82) (R:=fun w' F v=>Vb w' F v q116) (DH (fun _ h=>h) (h112).all e117) rfl rfl fun v122 w118 O119 S120 h121=>?_
   obtain ⟨rfl,r123⟩:=h121.int
   refine o_gtS rfl rfl rfl (fun c124=>?_) fun c124=>?_
   ·
    replace hf86:=ip hf86 c124
    refine o_z ?_
    refine Ar rfl (Am (Al (Ah (Ae (o_mv rfl rfl (o_miA rfl rfl ?_))))))
    replace h109:=h109.st S120
    replace h112:=h112.st S120
    obtain ⟨O125,S126,hz128,ha129,h127⟩:=BxR.shut (x:=s78.2.2.2.2.2) (l0:=8) (l1:=9) (by decide) h109 h112
    obtain ⟨q130,e131,hf86⟩:=bs hf86
    refine Bk (O:=O125) (GB h127 e131) rfl rfl fun v136 w132 O133 S134 h135=>?_
    obtain ⟨h137,h138⟩:=h135
    obtain ⟨v139,rfl,h140⟩:=h138.any
    obtain ⟨cs141,rfl,rfl,r142,r143,r144⟩:=h140
    refine o_taA rfl rfl ?_
    refine o_mv rfl rfl (o_ex rfl rfl rfl (o_ex rfl rfl rfl (BR 10 O133 rfl fun g145 w146 O147 S148 h149=>?_)))
    refine AL h149 rfl rfl rfl (Nat.le_of_ble_eq_true rfl) (by first|exact allOne rfl|simp [Value.cells,Value.oneCell',AJ]) fun w150 S151 h149=>?_
    replace h149:Lc 10 w150 O147 g145 96 [(.int .i64 q130.1.x.cost),(.int .i64 q130.1.x.order),(.int .i64 q130.1.x.id)]:=h149
    refine o_as rfl rfl (o_z ?_)
    refine Ah (Ah (Ae (o_mv rfl rfl (o_fa rfl rfl (o_ld (hc:=Blk.cell (i:=2) (h149.1) rfl) rfl rfl ?_)))))
    obtain ⟨a152,e153,hf86⟩:=bs hf86
    obtain ⟨p155,x154⟩:=AX e153
    replace h101:=(((((h101.st S108).st S120).st S126).st S134).st S148).st S151
    obtain ⟨b156,o157,ce158,hA159,hl160,hd161,rfl⟩:=h101.elem x154
    refine o_iaE (hA:=hA159) (hj:=(Int.toNat_of_nonneg p155).symm) (hlt:=hl160) rfl rfl rfl ?_
    refine o_ld (hc:=cat0 hd161) rfl rfl ?_
    refine o_z ?_
    refine Cu rfl (fun c163=>?_) (fun c163=>?_)
    ·
     replace hf86:=ip hf86 c163
     refine Au ?_
     obtain rfl:=sm hf86
     refine (?_:Exists _)
     replace hB:=(((((hB.st S108).st S120).st S126).st S134).st S148).st S151
     replace h8:=(((((h8.st S108).st S120).st S126).st S134).st S148).st S151
     replace h11:=(((((h11.st S108).st S120).st S126).st S134).st S148).st S151
     replace h14:=(((((h14.st S108).st S120).st S126).st S134).st S148).st S151
     replace h17:=(((((h17.st S108).st S120).st S126).st S134).st S148).st S151
     replace h24:=(((((h24.st S108).st S120).st S126).st S134).st S148).st S151
     replace h29:=(((((h29.st S108).st S120).st S126).st S134).st S148).st S151
     replace h99:=(((((h99.st S108).st S120).st S126).st S134).st S148).st S151
     replace h105:=(((((h105.st S108).st S120).st S126).st S134).st S148).st S151
     replace h137:=(h137.st S148).st S151
     exact ⟨_,((x79.1.1,x79.1.2),(x79.2.1,x79.2.2)),rfl,⟨rfl,rfl,rfl,rfl,rfl,rfl,rfl,rfl,rfl,trivial⟩,_,hB,h24,h8,h11,h14,h17,h29,h105,h99,h101,h137,r103,r104⟩
    ·
     replace hf86:=im' hf86 c163
     refine Am (Ah ?_)
     replace h105:=(((((h105.st S108).st S120).st S126).st S134).st S148).st S151
     obtain ⟨O164,v168,v172,v176,v180,v184,v187,S165,ha167,h166,h169,h173,h177,h181,h185,h188⟩:=Spc.opn h105 4 11 (by decide)
     obtain ⟨A170,c171,rfl⟩:=h169.form
     obtain ⟨A174,c175,rfl⟩:=h173.form
     obtain ⟨A178,c179,rfl⟩:=h177.form
     obtain ⟨A182,c183,rfl⟩:=h181.form
     obtain ⟨p186,rfl⟩:=h185.ptr
     obtain ⟨p189,rfl,hq190⟩:=h188.ptr
     refine BK [(6,[11])] O164 ?_
     refine x_pre (fuel:=6) [] [(0,true),(1,true),(2,true),(3,true),(4,true),(5,true)] (by kernel_rfl) rfl ?_
     refine h_mv rfl rfl rfl (h_nc rfl rfl rfl (h_fa rfl rfl rfl (h_ldC (hc:=fun w' ⟨O',hq⟩=>Blk.cell (i:=4) ((h166.st hq (by decide)).1) rfl) rfl rfl rfl ?_)))
     refine h_fa rfl rfl rfl ?_
     replace h149:=h149.st S165
     refine h_ldC (hc:=fun w' ⟨O',hq⟩=>Blk.cell (i:=2) ((h149.st hq (by decide)).1) rfl) rfl rfl rfl ?_
     refine AE ?_
     refine x_one (i:=6) (by kernel_rfl) rfl ?_
     obtain ⟨q191,e192,hf86⟩:=bs hf86
     refine Bk (O:=O164) (CQ h185 r144 e192) rfl rfl fun v197 w193 O194 S195 h196=>?_
     obtain ⟨v199,v200,h198,rfl,h201,h202⟩:=h196
     obtain ⟨A203,c204,rfl⟩:=h201.form
     obtain ⟨rfl,r205⟩:=h202.err
     have hZ:=S195.lst [11] (fun _ h=>by cases h;decide)
     refine x_go [] hZ (by kernel_rfl) ?_
     refine x_pre (fuel:=0) [] [(7,true),(8,true),(9,true),(10,true),(11,true)] (by kernel_rfl) rfl ?_
     refine h_mv rfl rfl rfl (h_ex rfl rfl rfl rfl (h_ex rfl rfl rfl rfl (h_as rfl rfl rfl (h_as rfl rfl rfl (AE ?_)))))
     refine x_nil (by kernel_rfl) ?_
     refine Ah (Ah (Ae (o_mv rfl rfl (o_rnS rfl rfl (fun c206=>?_) fun c206=>?_))))
     ·
      replace hf86:=ip hf86 c206
      refine o_z ?_
      refine Ar rfl (Ah (Ae (o_bd rfl rfl rfl ?_)))
      refine o_mv rfl rfl ?_
      replace h29:=(((((((h29.st S108).st S120).st S126).st S134).st S148).st S151).st S165).st S195
      refine AL h29 rfl rfl rfl (Nat.le_of_ble_eq_true rfl) (by first|exact allOne rfl|simp [Value.cells,Value.oneCell',AJ]) fun w207 S208 h29=>?_
      replace h29:Lc 3 w207 O194 g25 30 [(.int .i64 0),(.slice none 0 0),(.int .i64 0),(.int .i64 0)]:=h29
      refine o_as rfl rfl (o_z ?_)
      refine At ?_
      obtain rfl:=sm hf86
      obtain rfl:=hret87 _ rfl
      obtain rfl:=sm (Bx hm)
      replace hB:=((((((((hB.st S108).st S120).st S126).st S134).st S148).st S151).st S165).st S195).st S208
      exact ret2 rfl (BO (cs:=[(.int .i64 0),(.slice none 0 0),(.int .i64 0),(.int .i64 0)]) rfl rfl h29.1.cellsAt) (AF rfl) ⟨hB.ext,_,_,rfl,(Vb.mono (F:=Fr 0 w207 O194) (Vb.ofAgg (cs:=[(.int .i64 0),(.slice none 0 0),(.int .i64 0),(.int .i64 0)]) (x:=(⟨0,([]:List Int),0,0⟩:Rsl)) rfl ⟨_,rfl,(Vb.nil _ _),(show inI64 0 from by decide),(show inI64 0 from by decide),(show inI64 0 from by decide)⟩) hB.out),(vErr r205)⟩
     ·
      replace hf86:=im hf86 c206
      refine o_z ?_
      refine Aj rfl (Am (Ah (Ah (Ae (o_fa rfl rfl ?_)))))
      replace h24:=(((((((h24.st S108).st S120).st S126).st S134).st S148).st S151).st S165).st S195
      refine o_ld (hc:=Blk.cell (i:=2) (h24.1) rfl) rfl rfl ?_
      refine o_mv rfl rfl ?_
      obtain ⟨q209,e210,hf86⟩:=bs hf86
      replace h14:=(((((((h14.st S108).st S120).st S126).st S134).st S148).st S151).st S165).st S195
      refine Cf (O:=O194) (A:=All w193) (R:=fun w' F v=>Vb w' F v q209) (Fy (fun _ h=>h) (Vb.mono (F:=Fr 0 w193 O194) h14 Fr.lt) (Vb.mono (F:=Fr 0 w193 O194) h201 Fr.lt) e210) rfl rfl fun v215 w211 O212 S213 h214=>?_
      obtain rfl:=h214.bool
      cases q209
      case false =>
       replace hf86:=iF hf86
       refine o_z ?_
       refine Aj rfl (Am (Ah (Ah (Ae (o_mv rfl rfl (o_mv rfl rfl (o_geS rfl rfl rfl (fun c216=>?_) fun c216=>?_)))))))
       ·
        replace hf86:=ip hf86 c216
        refine o_z ?_
        refine Ar rfl (Ah (Ae (o_mv rfl rfl ?_)))
        obtain ⟨q217,e218,hf86⟩:=bs hf86
        refine Cv (O:=O212) (R:=fun w' F v=>T2 w' F v q217) (CL Fr.lt (show inI64 (3) from by decide) r104 e218) rfl rfl fun v223 w219 O220 S221 h222=>?_
        obtain ⟨v224,v225,rfl,h226,h227⟩:=h222
        obtain ⟨cs228,rfl,v229,rfl,h230,r233,r234,r235⟩:=h226
        obtain ⟨A231,c232,rfl⟩:=h230.form
        obtain ⟨rfl,r236⟩:=h227.err
        refine o_ex rfl rfl rfl (o_ex rfl rfl rfl ?_)
        replace h29:=(((((((((h29.st S108).st S120).st S126).st S134).st S148).st S151).st S165).st S195).st S213).st S221
        refine AL h29 rfl rfl rfl (Nat.le_of_ble_eq_true rfl) (by first|exact allOne rfl|simp [Value.cells,Value.oneCell',AJ]) fun w237 S238 h29=>?_
        replace h29:Lc 3 w237 O220 g25 30 [(.int .i64 q217.1.verdict),(.slice A231 q217.1.plan.length c232),(.int .i64 q217.1.cost),(.int .i64 q217.1.expanded)]:=h29
        refine o_as rfl rfl (o_z ?_)
        refine At ?_
        obtain rfl:=sm hf86
        obtain rfl:=hret87 _ rfl
        obtain rfl:=sm (Bx hm)
        replace hB:=((((((((((hB.st S108).st S120).st S126).st S134).st S148).st S151).st S165).st S195).st S213).st S221).st S238
        replace h230:=h230.st S238
        exact ret2 rfl (BO (cs:=[(.int .i64 q217.1.verdict),(.slice A231 q217.1.plan.length c232),(.int .i64 q217.1.cost),(.int .i64 q217.1.expanded)]) rfl rfl h29.1.cellsAt) (AF rfl) ⟨hB.ext,_,_,rfl,(Vb.mono (F:=Fr 0 w237 O220) (Vb.ofAgg (cs:=[(.int .i64 q217.1.verdict),(.slice A231 q217.1.plan.length c232),(.int .i64 q217.1.cost),(.int .i64 q217.1.expanded)]) (x:=q217.1) rfl ⟨_,rfl,h230,r233,r234,r235⟩) hB.out),(vErr r236)⟩
       ·
        replace hf86:=im hf86 c216
        refine o_z ?_
        refine Aj rfl (Am (Ah (Ae (o_mv rfl rfl (o_fa rfl rfl ?_)))))
        replace h149:=(h149.st S195).st S213
        refine o_ld (hc:=Blk.cell (i:=2) (h149.1) rfl) rfl rfl ?_
        obtain ⟨a239,e240,hf86⟩:=bs hf86
        obtain ⟨p242,x241⟩:=AX e240
        replace h101:=((h101.st S165).st S195).st S213
        obtain ⟨b243,o244,ce245,hA246,hl247,hd248,rfl⟩:=h101.elem x241
        refine o_iaE (hA:=hA246) (hj:=(Int.toNat_of_nonneg p242).symm) (hlt:=hl247) rfl rfl rfl ?_
        refine DN rfl h101 (a:=true) vBool hA246 rfl rfl (AK x241) fun w250 S251 h101=>?_
        refine o_z ?_
        refine Ah (Ae (o_mv rfl rfl ?_))
        obtain ⟨n252,e253,hf86⟩:=bs hf86
        have r254:=(Bl e253)
        refine o_adE (he:=e253) rfl rfl rfl ?_
        refine o_as rfl rfl (o_z ?_)
        refine Ah (Ae (o_mv rfl rfl (o_nc rfl rfl (o_fa rfl rfl ?_))))
        replace h166:=((h166.st S195).st S213).st S251
        refine o_ld (hc:=Blk.cell (i:=5) (h166.1) rfl) rfl rfl ?_
        refine o_mv rfl rfl ?_
        obtain ⟨q255,e256,hf86⟩:=bs hf86
        replace h188:=((h188.st S195).st S213).st S251
        replace h201:=(h201.st S213).st S251
        refine Cv (O:=O212) (R:=fun w' F v=>Vb w' F v q255) (Cx Fr.lt h188 h201 e256) rfl rfl fun v261 w257 O258 S259 h260=>?_
        obtain ⟨A262,c263,rfl⟩:=h260.form
        refine o_ln rfl rfl ?_
        have l265:q255.length≤9223372036854775807:=Nat.le_trans h260.len.2.1 h260.len.2.2
        have r264:inI64 (q255.length:Int):=rngNat l265
        refine o_mv rfl rfl (o_z ?_)
        replace h166:=h166.st S259
        replace h169:=(((h169.st S195).st S213).st S251).st S259
        replace h173:=(((h173.st S195).st S213).st S251).st S259
        replace h177:=(((h177.st S195).st S213).st S251).st S259
        replace h181:=(((h181.st S195).st S213).st S251).st S259
        replace h188:=h188.st S259
        replace h198:=((h198.st S213).st S251).st S259
        obtain ⟨O266,S267,hz269,ha270,h268⟩:=Spc.shut (x:=s78.2.2.2.2.1) (l0:=4) (l1:=11) (by decide) h166 h169 h173 h177 h181 h198 h188
        obtain ⟨res271,hL272,hf86⟩:=bs hf86
        refine AT (aft res271 (fun (s273:(List Int)×(List Bool)×Int×Spc×(BxR 98 96 Itm)) (x274:(Option Addr×Nat)×(Option Addr×Nat))=>[(1,(.int .i64 x1)),(2,(.pointer (some ⟨g20,0,none⟩))),(4,(.pointer (some ⟨g25,0,none⟩))),(6,(.pointer (some ⟨p70,0,none⟩))),(8,(.slice x274.1.1 s273.1.length x274.1.2)),(9,(.slice x274.2.1 s273.2.1.length x274.2.2)),(10,(.pointer (some ⟨g63,0,none⟩))),(11,(.int .i64 s273.2.2.1)),(12,(.int .i64 n252))]) (fun s273 x274 w'=>∃ O':Lab,Bs w A w' O'∧Lc 2 w' O' g20 26 [(.slice A9 x0.vars.length c10),(.slice A12 x0.init.length c13),(.slice A15 x0.goal.length c16),(.slice A18 x0.ops.length c19)]∧Vb w' (Fr 0 w' O') (.slice A9 x0.vars.length c10) x0.vars∧Vb w' (Fr 0 w' O') (.slice A12 x0.init.length c13) x0.init∧Vb w' (Fr 0 w' O') (.slice A15 x0.goal.length c16) x0.goal∧Vb w' (Fr 0 w' O') (.slice A18 x0.ops.length c19) x0.ops∧Lc 3 w' O' g25 30 [(.int .i64 0),(.slice none 0 0),(.int .i64 0),(.int .i64 0)]∧Ob 4 w' O' (.pointer (some ⟨p70,0,none⟩)) s273.2.2.2.1∧Rw 5 w' O' 3 (.slice x274.1.1 s273.1.length x274.1.2) s273.1∧Rw 6 w' O' 4 (.slice x274.2.1 s273.2.1.length x274.2.2) s273.2.1∧Ob 8 w' O' (.pointer (some ⟨g63,0,none⟩)) s273.2.2.2.2∧inI64 s273.2.2.1)) ?_ ?_
        ·
         refine Al ?_
         replace hB:=(((((((((((hB.st S108).st S120).st S126).st S134).st S148).st S151).st S165).st S195).st S213).st S251).st S259).st S267
         replace h8:=(((((((((((h8.st S108).st S120).st S126).st S134).st S148).st S151).st S165).st S195).st S213).st S251).st S259).st S267
         replace h11:=(((((((((((h11.st S108).st S120).st S126).st S134).st S148).st S151).st S165).st S195).st S213).st S251).st S259).st S267
         replace h14:=(((h14.st S213).st S251).st S259).st S267
         replace h17:=(((((((((((h17.st S108).st S120).st S126).st S134).st S148).st S151).st S165).st S195).st S213).st S251).st S259).st S267
         replace h24:=(((h24.st S213).st S251).st S259).st S267
         replace h29:=(((((((((((h29.st S108).st S120).st S126).st S134).st S148).st S151).st S165).st S195).st S213).st S251).st S259).st S267
         replace h99:=(((((((((((h99.st S108).st S120).st S126).st S134).st S148).st S151).st S165).st S195).st S213).st S251).st S259).st S267
         replace h101:=(h101.st S259).st S267
         replace h137:=(((((((h137.st S148).st S151).st S165).st S195).st S213).st S251).st S259).st S267
         replace h149:=((h149.st S251).st S259).st S267
         replace h260:=h260.st S267
         refine CC (σ:=(List Int)×(List Bool)×Int×Spc×(BxR 98 96 Itm)) (X:=(Option Addr×Nat)×(Option Addr×Nat)) (q255.length) hL272 rfl l265 (fun (s273:(List Int)×(List Bool)×Int×Spc×(BxR 98 96 Itm)) (x274:(Option Addr×Nat)×(Option Addr×Nat))=>[(1,(.int .i64 x1)),(2,(.pointer (some ⟨g20,0,none⟩))),(4,(.pointer (some ⟨g25,0,none⟩))),(6,(.pointer (some ⟨p70,0,none⟩))),(8,(.slice x274.1.1 s273.1.length x274.1.2)),(9,(.slice x274.2.1 s273.2.1.length x274.2.2)),(10,(.pointer (some ⟨g63,0,none⟩))),(11,(.int .i64 s273.2.2.1)),(12,(.int .i64 n252)),(13,(.pointer (some ⟨g145,0,none⟩))),(98,(.slice A262 q255.length c263))]) _ (fun s273 x274 w'=>∃ O':Lab,Bs w A w' O'∧Lc 2 w' O' g20 26 [(.slice A9 x0.vars.length c10),(.slice A12 x0.init.length c13),(.slice A15 x0.goal.length c16),(.slice A18 x0.ops.length c19)]∧Vb w' (Fr 0 w' O') (.slice A9 x0.vars.length c10) x0.vars∧Vb w' (Fr 0 w' O') (.slice A12 x0.init.length c13) x0.init∧Vb w' (Fr 0 w' O') (.slice A15 x0.goal.length c16) x0.goal∧Vb w' (Fr 0 w' O') (.slice A18 x0.ops.length c19) x0.ops∧Lc 3 w' O' g25 30 [(.int .i64 0),(.slice none 0 0),(.int .i64 0),(.int .i64 0)]∧Ob 4 w' O' (.pointer (some ⟨p70,0,none⟩)) s273.2.2.2.1∧Rw 5 w' O' 3 (.slice x274.1.1 s273.1.length x274.1.2) s273.1∧Rw 6 w' O' 4 (.slice x274.2.1 s273.2.1.length x274.2.2) s273.2.1∧Ob 8 w' O' (.pointer (some ⟨g63,0,none⟩)) s273.2.2.2.2∧Lc 10 w' O' g145 96 [(.int .i64 q130.1.x.cost),(.int .i64 q130.1.x.order),(.int .i64 q130.1.x.id)]∧Vb w' (Fr 0 w' O') (.slice A262 q255.length c263) q255∧inI64 s273.2.2.1) _ ((x79.1.1,x79.1.2),(x79.2.1,x79.2.2)) ⟨O266,hB,h24,h8,h11,h14,h17,h29,h268,h99,h101.relen,h137,h149,h260,r103⟩ ⟨rfl,rfl,rfl,rfl,rfl,rfl,rfl,(congrArg (fun n=>some (Value.slice _ n _)) ((by simp:(s78.2.1.set (q130.1.x.id:Int).toNat true).length=s78.2.1.length).trans rfl).symm),rfl,rfl,rfl,rfl,rfl,trivial⟩ (fun _ _=>⟨rfl,rfl⟩) (fun _ _=>⟨rfl,rfl,rfl,rfl,rfl,rfl,rfl,rfl,rfl,trivial⟩) (fun _ _ _ ⟨O',hB,h24,h8,h11,h14,h17,h29,h298,h293,h295,h299,h149,h260,r297⟩=>⟨O',hB,h24,h8,h11,h14,h17,h29,h298,h293,h295,h299,r297⟩) ⟨rfl,rfl,rfl⟩ ⟨rfl,rfl⟩ ?_
         rintro k275 a276 s273 x274 w277 cc279 hx280 ⟨O278,hB,h24,h8,h11,h14,h17,h29,h298,h293,h295,h299,h149,h260,r297⟩ hf281 hret282 hbrk283
         have rk275:inI64 (k275:Int):=rngK hx280 l265
         refine Ah (Ae ?_)
         obtain ⟨b300,o301,ce302,hA303,hl304,hd305,v307,rfl,h308,r311⟩:=h260.elem' hx280
         obtain ⟨A309,c310,rfl⟩:=h308.form
         refine o_iaE (hA:=hA303) (hj:=rfl) (hlt:=hl304) rfl rfl rfl ?_
         refine o_la (hl:=rfl) (hc:=hd305) rfl rfl ?_
         refine BR 12 O278 rfl fun g312 w313 O314 S315 h316=>?_
         refine AL h316 rfl rfl rfl (Nat.le_of_ble_eq_true rfl) (by first|exact allOne rfl|simp [Value.cells,Value.oneCell',AJ]) fun w317 S318 h316=>?_
         replace h316:Lc 12 w317 O314 g312 83 [(.int .i64 a276.op),(.slice A309 a276.state.length c310)]:=h316
         refine o_z ?_
         refine Ah ?_
         replace h298:=(h298.st S315).st S318
         obtain ⟨O319,v323,v327,v331,v335,v339,v342,S320,ha322,h321,h324,h328,h332,h336,h340,h343⟩:=Spc.opn h298 4 11 (by decide)
         obtain ⟨A325,c326,rfl⟩:=h324.form
         obtain ⟨A329,c330,rfl⟩:=h328.form
         obtain ⟨A333,c334,rfl⟩:=h332.form
         obtain ⟨A337,c338,rfl⟩:=h336.form
         obtain ⟨p341,rfl⟩:=h340.ptr
         obtain ⟨p344,rfl,hq345⟩:=h343.ptr
         refine BK [(6,[11])] O319 ?_
         refine x_pre (fuel:=8) [] [(0,true),(1,true),(2,true),(3,true),(4,true),(5,true)] (by kernel_rfl) rfl ?_
         refine h_mv rfl rfl rfl (h_nc rfl rfl rfl (h_fa rfl rfl rfl (h_ldC (hc:=fun w' ⟨O',hq⟩=>Blk.cell (i:=4) ((h321.st hq (by decide)).1) rfl) rfl rfl rfl ?_)))
         refine h_fa rfl rfl rfl ?_
         replace h316:=h316.st S320
         refine h_ldC (hc:=fun w' ⟨O',hq⟩=>Blk.cell (i:=1) ((h316.st hq (by decide)).1) rfl) rfl rfl rfl ?_
         refine AE ?_
         refine x_one (i:=6) (by kernel_rfl) rfl ?_
         obtain ⟨q346,e347,hf281⟩:=bs hf281
         replace h308:=((h308.st S315).st S318).st S320
         refine Bk (O:=O319) (CE h340 h308 e347) rfl rfl fun v352 w348 O349 S350 h351=>?_
         obtain ⟨v354,v355,v356,h353,rfl,h357,h358,h359⟩:=h351
         obtain ⟨rfl,r360⟩:=h357.int
         obtain rfl:=h358.bool
         obtain ⟨rfl,r361⟩:=h359.err
         have hZ:=S350.lst [11] (fun _ h=>by cases h;decide)
         refine x_go [] hZ (by kernel_rfl) ?_
         refine x_pre (fuel:=0) [] [(7,true),(8,true),(9,true),(10,true),(11,true),(12,true),(13,true)] (by kernel_rfl) rfl ?_
         refine h_mv rfl rfl rfl (h_ex rfl rfl rfl rfl (h_ex rfl rfl rfl rfl (h_ex rfl rfl rfl rfl (h_as rfl rfl rfl (h_as rfl rfl rfl (h_as rfl rfl rfl (AE ?_)))))))
         refine x_nil (by kernel_rfl) ?_
         refine Ah (Ah (Ae (o_mv rfl rfl (o_rnS rfl rfl (fun c362=>?_) fun c362=>?_))))
         ·
          replace hf281:=ip hf281 c362
          refine o_z ?_
          refine Ar rfl (Ah (Ae (o_mv rfl rfl ?_)))
          obtain ⟨q363,e364,hf281⟩:=bs hf281
          refine Cv (O:=O349) (R:=fun w' F v=>T2 w' F v q363) (CL Fr.lt (show inI64 (3) from by decide) r254 e364) rfl rfl fun v369 w365 O366 S367 h368=>?_
          obtain ⟨v370,v371,rfl,h372,h373⟩:=h368
          obtain ⟨cs374,rfl,v375,rfl,h376,r379,r380,r381⟩:=h372
          obtain ⟨A377,c378,rfl⟩:=h376.form
          obtain ⟨rfl,r382⟩:=h373.err
          refine o_ex rfl rfl rfl (o_ex rfl rfl rfl ?_)
          replace h29:=((((h29.st S315).st S318).st S320).st S350).st S367
          refine AL h29 rfl rfl rfl (Nat.le_of_ble_eq_true rfl) (by first|exact allOne rfl|simp [Value.cells,Value.oneCell',AJ]) fun w383 S384 h29=>?_
          replace h29:Lc 3 w383 O366 g25 30 [(.int .i64 q363.1.verdict),(.slice A377 q363.1.plan.length c378),(.int .i64 q363.1.cost),(.int .i64 q363.1.expanded)]:=h29
          refine o_as rfl rfl (o_z ?_)
          refine At ?_
          obtain rfl:=sm hf281
          obtain rfl:=hret282 _ rfl
          obtain rfl:=sm (Bx hf86)
          obtain rfl:=hret87 _ rfl
          obtain rfl:=sm (Bx hm)
          replace hB:=(((((hB.st S315).st S318).st S320).st S350).st S367).st S384
          replace h376:=h376.st S384
          exact ret2 rfl (BO (cs:=[(.int .i64 q363.1.verdict),(.slice A377 q363.1.plan.length c378),(.int .i64 q363.1.cost),(.int .i64 q363.1.expanded)]) rfl rfl h29.1.cellsAt) (AF rfl) ⟨hB.ext,_,_,rfl,(Vb.mono (F:=Fr 0 w383 O366) (Vb.ofAgg (cs:=[(.int .i64 q363.1.verdict),(.slice A377 q363.1.plan.length c378),(.int .i64 q363.1.cost),(.int .i64 q363.1.expanded)]) (x:=q363.1) rfl ⟨_,rfl,h376,r379,r380,r381⟩) hB.out),(vErr r382)⟩
         ·
          replace hf281:=im hf281 c362
          refine o_z ?_
          refine Aj rfl (Am (Ah (Ch (·=w348) [(0,true),(1,true),(2,true),(3,true),(4,true),(5,true),(6,true),(7,true),(8,true),(9,true),(10,true)] (by kernel_rfl) rfl (by kernel_rfl) rfl ?_)))
          refine h_fa rfl rfl rfl ?_
          replace h149:=(((h149.st S315).st S318).st S320).st S350
          refine h_ldA (hc:=Blk.cell (i:=0) (h149.1) rfl) rfl rfl rfl ?_
          refine h_fa rfl rfl rfl ?_
          replace h24:=(((h24.st S315).st S318).st S320).st S350
          refine h_ldA (hc:=Blk.cell (i:=3) (h24.1) rfl) rfl rfl rfl ?_
          refine h_fa rfl rfl rfl ?_
          replace h316:=h316.st S350
          refine h_ldA (hc:=Blk.cell (i:=0) (h316.1) rfl) rfl rfl rfl ?_
          obtain ⟨a385,e386,hf281⟩:=bs hf281
          obtain ⟨p388,x387⟩:=AX e386
          replace h17:=(((h17.st S315).st S318).st S320).st S350
          obtain ⟨b389,o390,ce391,hA392,hl393,hd394,v396,v397,rfl,h398,h401,r404,z405⟩:=h17.elem' x387
          obtain ⟨A399,c400,rfl⟩:=h398.form
          obtain ⟨A402,c403,rfl⟩:=h401.form
          refine h_iaE (hA:=hA392) (hj:=(Int.toNat_of_nonneg p388).symm) (hlt:=hl393) rfl rfl rfl rfl ?_
          refine h_fa rfl rfl rfl (h_ldA (hc:=cat1 hd394) rfl rfl rfl ?_)
          obtain ⟨n406,e407,hf281⟩:=bs hf281
          have r408:=(Bl e407)
          refine h_adE (he:=e407) rfl rfl rfl rfl ?_
          refine h_as rfl rfl rfl (h_z ?_)
          refine Ah ?_
          obtain ⟨y409,hy410,hf281⟩:=bs hf281
          refine AT (fun l' w'=>∃ (s411:(List Int)×(List Bool)) (x412:(Option Addr×Nat)×(Option Addr×Nat)) (O':Lab),y409=.done s411∧subs l' [(1,(.int .i64 x1)),(2,(.pointer (some ⟨g20,0,none⟩))),(4,(.pointer (some ⟨g25,0,none⟩))),(6,(.pointer (some ⟨p70,0,none⟩))),(8,(.slice x412.1.1 s411.1.length x412.1.2)),(9,(.slice x412.2.1 s411.2.length x412.2.2)),(10,(.pointer (some ⟨g63,0,none⟩))),(11,(.int .i64 s273.2.2.1)),(12,(.int .i64 n252)),(13,(.pointer (some ⟨g145,0,none⟩))),(18,(.pointer (some ⟨g312,0,none⟩))),(19,(.int .i64 q346.1)),(22,(.int .i64 n406)),(98,(.slice A262 q255.length c263)),(99,(.int .i64 (q255.length:Int))),(100,(.int .i64 (k275:Int)))]∧Bs w A w' O'∧Lc 2 w' O' g20 26 [(.slice A9 x0.vars.length c10),(.slice A12 x0.init.length c13),(.slice A15 x0.goal.length c16),(.slice A18 x0.ops.length c19)]∧Vb w' (Fr 0 w' O') (.slice A9 x0.vars.length c10) x0.vars∧Vb w' (Fr 0 w' O') (.slice A12 x0.init.length c13) x0.init∧Vb w' (Fr 0 w' O') (.slice A15 x0.goal.length c16) x0.goal∧Vb w' (Fr 0 w' O') (.slice A18 x0.ops.length c19) x0.ops∧Lc 3 w' O' g25 30 [(.int .i64 0),(.slice none 0 0),(.int .i64 0),(.int .i64 0)]∧Ob 4 w' O' (.pointer (some ⟨p70,0,none⟩)) (⟨(⟨s273.2.2.2.1.t.vars,s273.2.2.2.1.t.init,s273.2.2.2.1.t.goal,s273.2.2.2.1.t.ops⟩:Tsk),q346.2.2.2,s273.2.2.2.1.gen⟩:Spc)∧Rw 5 w' O' 3 (.slice x412.1.1 s411.1.length x412.1.2) s411.1∧Rw 6 w' O' 4 (.slice x412.2.1 s411.2.length x412.2.2) s411.2∧Ob 8 w' O' (.pointer (some ⟨g63,0,none⟩)) s273.2.2.2.2∧Lc 10 w' O' g145 96 [(.int .i64 q130.1.x.cost),(.int .i64 q130.1.x.order),(.int .i64 q130.1.x.id)]∧Lc 12 w' O' g312 83 [(.int .i64 a276.op),(.slice A309 a276.state.length c310)]∧Vb w' (Fr 0 w' O') (.slice A309 a276.state.length c310) a276.state∧Vb w' (Fr 0 w' O') (.slice A262 q255.length c263) q255) ?_ ?_
          ·
           refine Ah (Ae (o_mv rfl rfl (o_z ?_)))
           refine Cu rfl (fun c417=>?_) (fun c417=>?_)
           ·
            replace hy410:=ip hy410 c417
            refine Ae (o_mv rfl rfl (o_mv rfl rfl ?_))
            obtain ⟨u418,e419,hy410⟩:=bs hy410
            obtain ⟨e419,e420,e421⟩:=AO e419
            replace h293:=(((h293.st S315).st S318).st S320).st S350
            refine Ds rfl (a:=n406) h293 (vInt r408) (fun _=>rfl) rfl (by decide) (by decide) e420 e421 ⟨rfl,rfl⟩ fun g422 A423 c424 w425 O426 S427 h428=>?_
            rw [← e419] at h428 ⊢
            refine o_mv rfl rfl ?_
            obtain ⟨u430,e431,hy410⟩:=bs hy410
            obtain ⟨e431,e432,e433⟩:=AO e431
            replace h295:=((((h295.st S315).st S318).st S320).st S350).st S427
            refine Ds rfl (a:=false) h295 vBool (fun _=>rfl) rfl (by decide) (by decide) e432 e433 ⟨rfl,rfl⟩ fun g434 A435 c436 w437 O438 S439 h440=>?_
            rw [← e431] at h440 ⊢
            refine o_as rfl rfl (o_as rfl rfl (o_z ?_))
            replace h321:=((h321.st S350).st S427).st S439
            replace h324:=((h324.st S350).st S427).st S439
            replace h328:=((h328.st S350).st S427).st S439
            replace h332:=((h332.st S350).st S427).st S439
            replace h336:=((h336.st S350).st S427).st S439
            replace h343:=((h343.st S350).st S427).st S439
            replace h353:=(h353.st S427).st S439
            obtain ⟨O442,S443,hz445,ha446,h444⟩:=Spc.shut (x:=(⟨(⟨s273.2.2.2.1.t.vars,s273.2.2.2.1.t.init,s273.2.2.2.1.t.goal,s273.2.2.2.1.t.ops⟩:Tsk),q346.2.2.2,s273.2.2.2.1.gen⟩:Spc)) (l0:=4) (l1:=11) (by decide) h321 h324 h328 h332 h336 h353 h343
            obtain rfl:=sm hy410
            replace hB:=((((((hB.st S315).st S318).st S320).st S350).st S427).st S439).st S443
            replace h8:=((((((h8.st S315).st S318).st S320).st S350).st S427).st S439).st S443
            replace h11:=((((((h11.st S315).st S318).st S320).st S350).st S427).st S439).st S443
            replace h14:=((((((h14.st S315).st S318).st S320).st S350).st S427).st S439).st S443
            replace h17:=((h17.st S427).st S439).st S443
            replace h24:=((h24.st S427).st S439).st S443
            replace h29:=((((((h29.st S315).st S318).st S320).st S350).st S427).st S439).st S443
            replace h149:=((h149.st S427).st S439).st S443
            replace h260:=((((((h260.st S315).st S318).st S320).st S350).st S427).st S439).st S443
            replace h299:=((((((h299.st S315).st S318).st S320).st S350).st S427).st S439).st S443
            replace h308:=(((h308.st S350).st S427).st S439).st S443
            replace h316:=((h316.st S427).st S439).st S443
            replace h428:=(h428.st S439).st S443
            replace h440:=h440.st S443
            exact ⟨_,((A423,c424),(A435,c436)),_,rfl,⟨rfl,rfl,rfl,rfl,rfl,rfl,rfl,rfl,rfl,rfl,rfl,rfl,rfl,rfl,rfl,rfl,trivial⟩,hB,h24,h8,h11,h14,h17,h29,h444,h428,h440,h299,h149,h316,h308,h260⟩
           ·
            replace hy410:=im' hy410 c417
            refine Ah ?_
            obtain ⟨y447,hy448,hy410⟩:=bs hy410
            refine AT (fun l' w'=>∃ (x450:Unit) (O':Lab),subs l' [(1,(.int .i64 x1)),(2,(.pointer (some ⟨g20,0,none⟩))),(4,(.pointer (some ⟨g25,0,none⟩))),(6,(.pointer (some ⟨p70,0,none⟩))),(8,(.slice x274.1.1 s273.1.length x274.1.2)),(9,(.slice x274.2.1 s273.2.1.length x274.2.2)),(10,(.pointer (some ⟨g63,0,none⟩))),(11,(.int .i64 s273.2.2.1)),(12,(.int .i64 n252)),(13,(.pointer (some ⟨g145,0,none⟩))),(18,(.pointer (some ⟨g312,0,none⟩))),(19,(.int .i64 q346.1)),(22,(.int .i64 n406)),(98,(.slice A262 q255.length c263)),(99,(.int .i64 (q255.length:Int))),(100,(.int .i64 (k275:Int))),(150,(.bool y447))]∧Bs w A w' O'∧Lc 2 w' O' g20 26 [(.slice A9 x0.vars.length c10),(.slice A12 x0.init.length c13),(.slice A15 x0.goal.length c16),(.slice A18 x0.ops.length c19)]∧Vb w' (Fr 0 w' O') (.slice A9 x0.vars.length c10) x0.vars∧Vb w' (Fr 0 w' O') (.slice A12 x0.init.length c13) x0.init∧Vb w' (Fr 0 w' O') (.slice A15 x0.goal.length c16) x0.goal∧Vb w' (Fr 0 w' O') (.slice A18 x0.ops.length c19) x0.ops∧Lc 3 w' O' g25 30 [(.int .i64 0),(.slice none 0 0),(.int .i64 0),(.int .i64 0)]∧Ob 4 w' O' (.pointer (some ⟨p70,0,none⟩)) (⟨(⟨s273.2.2.2.1.t.vars,s273.2.2.2.1.t.init,s273.2.2.2.1.t.goal,s273.2.2.2.1.t.ops⟩:Tsk),q346.2.2.2,s273.2.2.2.1.gen⟩:Spc)∧Rw 5 w' O' 3 (.slice x274.1.1 s273.1.length x274.1.2) s273.1∧Rw 6 w' O' 4 (.slice x274.2.1 s273.2.1.length x274.2.2) s273.2.1∧Ob 8 w' O' (.pointer (some ⟨g63,0,none⟩)) s273.2.2.2.2∧Lc 10 w' O' g145 96 [(.int .i64 q130.1.x.cost),(.int .i64 q130.1.x.order),(.int .i64 q130.1.x.id)]∧Lc 12 w' O' g312 83 [(.int .i64 a276.op),(.slice A309 a276.state.length c310)]∧Vb w' (Fr 0 w' O') (.slice A309 a276.state.length c310) a276.state∧Vb w' (Fr 0 w' O') (.slice A262 q255.length c263) q255) ?_ ?_
            ·
             refine Ae (o_mv rfl rfl (o_mv rfl rfl ?_))
             obtain ⟨a451,e452,hy448⟩:=bs hy448
             obtain ⟨p454,x453⟩:=AX e452
             replace h295:=(((h295.st S315).st S318).st S320).st S350
             obtain ⟨b455,o456,ce457,hA458,hl459,hd460,rfl⟩:=h295.elem x453
             refine o_iaE (hA:=hA458) (hj:=(Int.toNat_of_nonneg p454).symm) (hlt:=hl459) rfl rfl rfl ?_
             refine o_ld (hc:=cat0 hd460) rfl rfl ?_
             refine o_mv rfl rfl ?_
             rcases Bool.eq_false_or_eq_true a451 with c462|c462
             ·
              try rw [c462]
              replace hy448:=ip hy448 c462
              refine AC rfl rfl rfl rfl (AC rfl rfl rfl rfl (AC rfl rfl rfl rfl (AC rfl rfl rfl rfl (AC rfl rfl rfl rfl (AC rfl rfl rfl rfl (o_pt rfl rfl rfl (o_z ?_)))))))
              replace h321:=h321.st S350
              replace h324:=h324.st S350
              replace h328:=h328.st S350
              replace h332:=h332.st S350
              replace h336:=h336.st S350
              replace h343:=h343.st S350
              obtain ⟨O463,S464,hz466,ha467,h465⟩:=Spc.shut (x:=(⟨(⟨s273.2.2.2.1.t.vars,s273.2.2.2.1.t.init,s273.2.2.2.1.t.goal,s273.2.2.2.1.t.ops⟩:Tsk),q346.2.2.2,s273.2.2.2.1.gen⟩:Spc)) (l0:=4) (l1:=11) (by decide) h321 h324 h328 h332 h336 h353 h343
              obtain rfl:=sm hy448
              replace hB:=((((hB.st S315).st S318).st S320).st S350).st S464
              replace h8:=((((h8.st S315).st S318).st S320).st S350).st S464
              replace h11:=((((h11.st S315).st S318).st S320).st S350).st S464
              replace h14:=((((h14.st S315).st S318).st S320).st S350).st S464
              replace h17:=h17.st S464
              replace h24:=h24.st S464
              replace h29:=((((h29.st S315).st S318).st S320).st S350).st S464
              replace h149:=h149.st S464
              replace h260:=((((h260.st S315).st S318).st S320).st S350).st S464
              replace h293:=((((h293.st S315).st S318).st S320).st S350).st S464
              replace h295:=h295.st S464
              replace h299:=((((h299.st S315).st S318).st S320).st S350).st S464
              replace h308:=(h308.st S350).st S464
              replace h316:=h316.st S464
              exact ⟨(),_,⟨rfl,rfl,rfl,rfl,rfl,rfl,rfl,rfl,rfl,rfl,rfl,rfl,rfl,rfl,rfl,rfl,rfl,trivial⟩,hB,h24,h8,h11,h14,h17,h29,h465,h293,h295,h299,h149,h316,h308,h260⟩
             ·
              try rw [c462]
              replace hy448:=im' hy448 c462
              refine AD rfl rfl (o_mv rfl rfl (AD rfl rfl (o_mv rfl rfl (AD rfl rfl (o_mv rfl rfl (AD rfl rfl ?_))))))
              obtain ⟨a468,e469,hy448⟩:=bs hy448
              obtain ⟨p471,x470⟩:=AX e469
              replace h293:=(((h293.st S315).st S318).st S320).st S350
              obtain ⟨b472,o473,ce474,hA475,hl476,hd477,rfl,r479⟩:=h293.elem x470
              refine o_iaE (hA:=hA475) (hj:=(Int.toNat_of_nonneg p471).symm) (hlt:=hl476) rfl rfl rfl ?_
              refine AD rfl rfl (o_ld (hc:=cat0 hd477) rfl rfl ?_)
              refine AD rfl rfl (o_geS rfl rfl rfl (fun c480=>?_) fun c480=>?_)
              ·
               replace hy448:=ip hy448 c480
               refine o_pf rfl rfl rfl (o_z ?_)
               replace h321:=h321.st S350
               replace h324:=h324.st S350
               replace h328:=h328.st S350
               replace h332:=h332.st S350
               replace h336:=h336.st S350
               replace h343:=h343.st S350
               obtain ⟨O481,S482,hz484,ha485,h483⟩:=Spc.shut (x:=(⟨(⟨s273.2.2.2.1.t.vars,s273.2.2.2.1.t.init,s273.2.2.2.1.t.goal,s273.2.2.2.1.t.ops⟩:Tsk),q346.2.2.2,s273.2.2.2.1.gen⟩:Spc)) (l0:=4) (l1:=11) (by decide) h321 h324 h328 h332 h336 h353 h343
               obtain rfl:=sm hy448
               replace hB:=((((hB.st S315).st S318).st S320).st S350).st S482
               replace h8:=((((h8.st S315).st S318).st S320).st S350).st S482
               replace h11:=((((h11.st S315).st S318).st S320).st S350).st S482
               replace h14:=((((h14.st S315).st S318).st S320).st S350).st S482
               replace h17:=h17.st S482
               replace h24:=h24.st S482
               replace h29:=((((h29.st S315).st S318).st S320).st S350).st S482
               replace h149:=h149.st S482
               replace h260:=((((h260.st S315).st S318).st S320).st S350).st S482
               replace h293:=h293.st S482
               replace h295:=h295.st S482
               replace h299:=((((h299.st S315).st S318).st S320).st S350).st S482
               replace h308:=(h308.st S350).st S482
               replace h316:=h316.st S482
               exact ⟨(),_,⟨rfl,rfl,rfl,rfl,rfl,rfl,rfl,rfl,rfl,rfl,rfl,rfl,rfl,rfl,rfl,rfl,rfl,trivial⟩,hB,h24,h8,h11,h14,h17,h29,h483,h293,h295,h299,h149,h316,h308,h260⟩
              ·
               replace hy448:=im hy448 c480
               refine o_pf rfl rfl rfl (o_z ?_)
               replace h321:=h321.st S350
               replace h324:=h324.st S350
               replace h328:=h328.st S350
               replace h332:=h332.st S350
               replace h336:=h336.st S350
               replace h343:=h343.st S350
               obtain ⟨O486,S487,hz489,ha490,h488⟩:=Spc.shut (x:=(⟨(⟨s273.2.2.2.1.t.vars,s273.2.2.2.1.t.init,s273.2.2.2.1.t.goal,s273.2.2.2.1.t.ops⟩:Tsk),q346.2.2.2,s273.2.2.2.1.gen⟩:Spc)) (l0:=4) (l1:=11) (by decide) h321 h324 h328 h332 h336 h353 h343
               obtain rfl:=sm hy448
               replace hB:=((((hB.st S315).st S318).st S320).st S350).st S487
               replace h8:=((((h8.st S315).st S318).st S320).st S350).st S487
               replace h11:=((((h11.st S315).st S318).st S320).st S350).st S487
               replace h14:=((((h14.st S315).st S318).st S320).st S350).st S487
               replace h17:=h17.st S487
               replace h24:=h24.st S487
               replace h29:=((((h29.st S315).st S318).st S320).st S350).st S487
               replace h149:=h149.st S487
               replace h260:=((((h260.st S315).st S318).st S320).st S350).st S487
               replace h293:=h293.st S487
               replace h295:=h295.st S487
               replace h299:=((((h299.st S315).st S318).st S320).st S350).st S487
               replace h308:=(h308.st S350).st S487
               replace h316:=h316.st S487
               exact ⟨(),_,⟨rfl,rfl,rfl,rfl,rfl,rfl,rfl,rfl,rfl,rfl,rfl,rfl,rfl,rfl,rfl,rfl,rfl,trivial⟩,hB,h24,h8,h11,h14,h17,h29,h488,h293,h295,h299,h149,h316,h308,h260⟩
            replace hB:=(((hB.st S315).st S318).st S320).st S350
            replace h8:=(((h8.st S315).st S318).st S320).st S350
            replace h11:=(((h11.st S315).st S318).st S320).st S350
            replace h14:=(((h14.st S315).st S318).st S320).st S350
            replace h29:=(((h29.st S315).st S318).st S320).st S350
            replace h260:=(((h260.st S315).st S318).st S320).st S350
            replace h293:=(((h293.st S315).st S318).st S320).st S350
            replace h295:=(((h295.st S315).st S318).st S320).st S350
            replace h299:=(((h299.st S315).st S318).st S320).st S350
            replace h308:=h308.st S350
            rintro l491 w492 ⟨x450,O493,hs494,hB,h24,h8,h11,h14,h17,h29,h461,h293,h295,h299,h149,h316,h308,h260⟩
            refine AW _ hs494 ?_
            refine Cu rfl (fun c495=>?_) (fun c495=>?_)
            ·
             replace hy410:=ip hy410 c495
             refine Au ?_
             obtain rfl:=sm hy410
             obtain rfl:=sm (Bx hf281)
             refine (?_:Exists _)
             exact ⟨_,((x274.1.1,x274.1.2),(x274.2.1,x274.2.2)),rfl,⟨rfl,rfl,rfl,rfl,rfl,rfl,rfl,rfl,rfl,rfl,rfl,rfl,rfl,trivial⟩,_,hB,h24,h8,h11,h14,h17,h29,h461,h293,h295,h299,h149,h260,r297⟩
            ·
             replace hy410:=im' hy410 c495
             refine Am ?_
             obtain rfl:=sm hy410
             exact ⟨_,((x274.1.1,x274.1.2),(x274.2.1,x274.2.2)),_,rfl,⟨rfl,rfl,rfl,rfl,rfl,rfl,rfl,rfl,rfl,rfl,rfl,rfl,rfl,rfl,rfl,rfl,trivial⟩,hB,h24,h8,h11,h14,h17,h29,h461,h293,h295,h299,h149,h316,h308,h260⟩
          replace hB:=(((hB.st S315).st S318).st S320).st S350
          replace h8:=(((h8.st S315).st S318).st S320).st S350
          replace h11:=(((h11.st S315).st S318).st S320).st S350
          replace h14:=(((h14.st S315).st S318).st S320).st S350
          replace h29:=(((h29.st S315).st S318).st S320).st S350
          replace h260:=(((h260.st S315).st S318).st S320).st S350
          replace h299:=(((h299.st S315).st S318).st S320).st S350
          replace h308:=h308.st S350
          rintro l496 w497 ⟨s411,x412,O498,rfl,hs499,hB,h24,h8,h11,h14,h17,h29,h436,h413,h415,h299,h149,h316,h308,h260⟩
          replace hf281:=Br hf281
          refine AW _ hs499 ?_
          refine Ah (Ae (o_mv rfl rfl (o_mv rfl rfl (o_mv rfl rfl ?_))))
          obtain ⟨a500,e501,hf281⟩:=bs hf281
          obtain ⟨p503,x502⟩:=AX e501
          obtain ⟨b504,o505,ce506,hA507,hl508,hd509,rfl,r511⟩:=h413.elem x502
          refine o_iaE (hA:=hA507) (hj:=(Int.toNat_of_nonneg p503).symm) (hlt:=hl508) rfl rfl rfl ?_
          refine DN rfl h413 (a:=n406) (vInt r408) hA507 rfl rfl (AK x502) fun w512 S513 h413=>?_
          refine o_z ?_
          refine Ah (Ah ?_)
          replace h436:=h436.st S513
          obtain ⟨O514,v518,v522,v526,v530,v534,v537,S515,ha517,h516,h519,h523,h527,h531,h535,h538⟩:=Spc.opn h436 4 11 (by decide)
          obtain ⟨A520,c521,rfl⟩:=h519.form
          obtain ⟨A524,c525,rfl⟩:=h523.form
          obtain ⟨A528,c529,rfl⟩:=h527.form
          obtain ⟨A532,c533,rfl⟩:=h531.form
          obtain ⟨p536,rfl⟩:=h535.ptr
          obtain ⟨p539,rfl,hq540⟩:=h538.ptr
          refine BK [(10,[11])] O514 ?_
          refine x_pre (fuel:=2) [] [(0,true),(1,true),(2,true),(3,true),(4,true),(5,true),(6,true),(7,true),(8,true),(9,true)] (by kernel_rfl) rfl ?_
          refine h_mv rfl rfl rfl (h_nc rfl rfl rfl (h_fa rfl rfl rfl (h_ldC (hc:=fun w' ⟨O',hq⟩=>Blk.cell (i:=4) ((h516.st hq (by decide)).1) rfl) rfl rfl rfl ?_)))
          refine h_mv rfl rfl rfl (h_fa rfl rfl rfl ?_)
          replace h149:=(h149.st S513).st S515
          refine h_ldC (hc:=fun w' ⟨O',hq⟩=>Blk.cell (i:=2) ((h149.st hq (by decide)).1) rfl) rfl rfl rfl ?_
          refine h_fa rfl rfl rfl ?_
          replace h316:=(h316.st S513).st S515
          refine h_ldC (hc:=fun w' ⟨O',hq⟩=>Blk.cell (i:=0) ((h316.st hq (by decide)).1) rfl) rfl rfl rfl ?_
          refine h_mv rfl rfl rfl (AE ?_)
          refine x_one (i:=10) (by kernel_rfl) rfl ?_
          obtain ⟨q541,e542,hf281⟩:=bs hf281
          refine Bk (O:=O514) (Du h535 r360 r144 r311 r408 e542) rfl rfl fun v547 w543 O544 S545 h546=>?_
          obtain ⟨h548,h549⟩:=h546
          obtain ⟨rfl,r550⟩:=h549.err
          have hZ:=S545.lst [11] (fun _ h=>by cases h;decide)
          refine x_go [] hZ (by kernel_rfl) ?_
          refine x_pre (fuel:=0) [] [(11,true)] (by kernel_rfl) rfl ?_
          refine h_as rfl rfl rfl (AE ?_)
          refine x_nil (by kernel_rfl) ?_
          refine Ah (Ae (o_mv rfl rfl (o_rnS rfl rfl (fun c551=>?_) fun c551=>?_)))
          ·
           replace hf281:=ip hf281 c551
           refine o_z ?_
           refine Ar rfl (Ah (Ae (o_bd rfl rfl rfl ?_)))
           refine o_mv rfl rfl ?_
           replace h29:=((h29.st S513).st S515).st S545
           refine AL h29 rfl rfl rfl (Nat.le_of_ble_eq_true rfl) (by first|exact allOne rfl|simp [Value.cells,Value.oneCell',AJ]) fun w552 S553 h29=>?_
           replace h29:Lc 3 w552 O544 g25 30 [(.int .i64 0),(.slice none 0 0),(.int .i64 0),(.int .i64 0)]:=h29
           refine o_as rfl rfl (o_z ?_)
           refine At ?_
           obtain rfl:=sm hf281
           obtain rfl:=hret282 _ rfl
           obtain rfl:=sm (Bx hf86)
           obtain rfl:=hret87 _ rfl
           obtain rfl:=sm (Bx hm)
           replace hB:=(((hB.st S513).st S515).st S545).st S553
           exact ret2 rfl (BO (cs:=[(.int .i64 0),(.slice none 0 0),(.int .i64 0),(.int .i64 0)]) rfl rfl h29.1.cellsAt) (AF rfl) ⟨hB.ext,_,_,rfl,(Vb.mono (F:=Fr 0 w552 O544) (Vb.ofAgg (cs:=[(.int .i64 0),(.slice none 0 0),(.int .i64 0),(.int .i64 0)]) (x:=(⟨0,([]:List Int),0,0⟩:Rsl)) rfl ⟨_,rfl,(Vb.nil _ _),(show inI64 0 from by decide),(show inI64 0 from by decide),(show inI64 0 from by decide)⟩) hB.out),(vErr r550)⟩
          ·
           replace hf281:=im hf281 c551
           refine o_z ?_
           refine Aj rfl (Am (Ah (Ae (o_mv rfl rfl (o_miA rfl rfl ?_)))))
           refine o_mv rfl rfl (o_mv rfl rfl (o_mv rfl rfl (o_bd rfl rfl rfl ?_)))
           refine o_miA rfl rfl ?_
           obtain ⟨q554,e555,hf281⟩:=bs hf281
           replace h299:=((h299.st S513).st S515).st S545
           refine Bk (O:=O544) (Gi h299 (vAny (Vb.ofAgg (cs:=[(.int .i64 n406),(.int .i64 s273.2.2.1),(.int .i64 q346.1)]) (x:=(⟨n406,s273.2.2.1,q346.1⟩:Itm)) rfl ⟨rfl,r408,r297,r360⟩)) e555) rfl rfl fun v560 w556 O557 S558 h561=>?_
           refine o_z ?_
           refine Ae (o_mv rfl rfl ?_)
           obtain ⟨n562,e563,hf281⟩:=bs hf281
           have r564:=(Bl e563)
           refine o_adE (he:=e563) rfl rfl rfl ?_
           refine o_as rfl rfl (o_z ?_)
           replace h516:=(h516.st S545).st S558
           replace h519:=(h519.st S545).st S558
           replace h523:=(h523.st S545).st S558
           replace h527:=(h527.st S545).st S558
           replace h531:=(h531.st S545).st S558
           replace h538:=(h538.st S545).st S558
           replace h548:=h548.st S558
           obtain ⟨O565,S566,hz568,ha569,h567⟩:=Spc.shut (x:=(⟨(⟨(⟨(⟨s273.2.2.2.1.t.vars,s273.2.2.2.1.t.init,s273.2.2.2.1.t.goal,s273.2.2.2.1.t.ops⟩:Tsk),q346.2.2.2,s273.2.2.2.1.gen⟩:Spc).t.vars,(⟨(⟨s273.2.2.2.1.t.vars,s273.2.2.2.1.t.init,s273.2.2.2.1.t.goal,s273.2.2.2.1.t.ops⟩:Tsk),q346.2.2.2,s273.2.2.2.1.gen⟩:Spc).t.init,(⟨(⟨s273.2.2.2.1.t.vars,s273.2.2.2.1.t.init,s273.2.2.2.1.t.goal,s273.2.2.2.1.t.ops⟩:Tsk),q346.2.2.2,s273.2.2.2.1.gen⟩:Spc).t.goal,(⟨(⟨s273.2.2.2.1.t.vars,s273.2.2.2.1.t.init,s273.2.2.2.1.t.goal,s273.2.2.2.1.t.ops⟩:Tsk),q346.2.2.2,s273.2.2.2.1.gen⟩:Spc).t.ops⟩:Tsk),q541.2,(⟨(⟨s273.2.2.2.1.t.vars,s273.2.2.2.1.t.init,s273.2.2.2.1.t.goal,s273.2.2.2.1.t.ops⟩:Tsk),q346.2.2.2,s273.2.2.2.1.gen⟩:Spc).gen⟩:Spc)) (l0:=4) (l1:=11) (by decide) h516 h519 h523 h527 h531 h548 h538
           obtain rfl:=sm hf281
           refine (?_:Exists _)
           replace hB:=((((hB.st S513).st S515).st S545).st S558).st S566
           replace h8:=((((h8.st S513).st S515).st S545).st S558).st S566
           replace h11:=((((h11.st S513).st S515).st S545).st S558).st S566
           replace h14:=((((h14.st S513).st S515).st S545).st S558).st S566
           replace h17:=((((h17.st S513).st S515).st S545).st S558).st S566
           replace h24:=((((h24.st S513).st S515).st S545).st S558).st S566
           replace h29:=((((h29.st S513).st S515).st S545).st S558).st S566
           replace h149:=((h149.st S545).st S558).st S566
           replace h260:=((((h260.st S513).st S515).st S545).st S558).st S566
           replace h413:=(((h413.st S515).st S545).st S558).st S566
           replace h415:=((((h415.st S513).st S515).st S545).st S558).st S566
           replace h561:=h561.st S566
           exact ⟨_,((x412.1.1,x412.1.2),(x412.2.1,x412.2.2)),rfl,⟨rfl,rfl,rfl,rfl,rfl,rfl,(congrArg (fun n=>some (Value.slice _ n _)) ((by simp:(s411.1.set (q346.1:Int).toNat n406).length=s411.1.length).trans rfl).symm),rfl,rfl,rfl,rfl,rfl,rfl,trivial⟩,_,hB,h24,h8,h11,h14,h17,h29,h567,h413.relen,h415,h561,h149,h260,r564⟩
        replace hB:=(((((((((((hB.st S108).st S120).st S126).st S134).st S148).st S151).st S165).st S195).st S213).st S251).st S259).st S267
        replace h8:=(((((((((((h8.st S108).st S120).st S126).st S134).st S148).st S151).st S165).st S195).st S213).st S251).st S259).st S267
        replace h11:=(((((((((((h11.st S108).st S120).st S126).st S134).st S148).st S151).st S165).st S195).st S213).st S251).st S259).st S267
        replace h14:=(((h14.st S213).st S251).st S259).st S267
        replace h17:=(((((((((((h17.st S108).st S120).st S126).st S134).st S148).st S151).st S165).st S195).st S213).st S251).st S259).st S267
        replace h24:=(((h24.st S213).st S251).st S259).st S267
        replace h29:=(((((((((((h29.st S108).st S120).st S126).st S134).st S148).st S151).st S165).st S195).st S213).st S251).st S259).st S267
        rintro l570 w571 ⟨s574,x575,rfl,hs573,O572,hB,h24,h8,h11,h14,h17,h29,h298,h293,h295,h299,r297⟩
        replace hf86:=Br hf86
        obtain rfl:=sm hf86
        refine (?_:Exists _)
        exact ⟨_,((x575.1.1,x575.1.2),(x575.2.1,x575.2.2)),rfl,⟨(Di hs573 _ _ rfl),(Di hs573 _ _ rfl),(Di hs573 _ _ rfl),(Di hs573 _ _ rfl),(Di hs573 _ _ rfl),(Di hs573 _ _ rfl),(Di hs573 _ _ rfl),(Di hs573 _ _ rfl),(Di hs573 _ _ rfl),trivial⟩,_,hB,h24,h8,h11,h14,h17,h29,h298,h293,h295,h299,r297,r254⟩
      replace hf86:=iT hf86
      refine o_z ?_
      refine Ar rfl (Ah (Ae (o_mv rfl rfl (o_fa rfl rfl ?_))))
      replace h149:=(h149.st S195).st S213
      refine o_ld (hc:=Blk.cell (i:=2) (h149.1) rfl) rfl rfl ?_
      refine o_mv rfl rfl ?_
      replace h166:=(h166.st S195).st S213
      replace h169:=(h169.st S195).st S213
      replace h173:=(h173.st S195).st S213
      replace h177:=(h177.st S195).st S213
      replace h181:=(h181.st S195).st S213
      replace h188:=(h188.st S195).st S213
      replace h198:=h198.st S213
      obtain ⟨O576,S577,hz579,ha580,h578⟩:=Spc.shut (x:=s78.2.2.2.2.1) (l0:=4) (l1:=11) (by decide) h166 h169 h173 h177 h181 h198 h188
      obtain ⟨q581,e582,hf86⟩:=bs hf86
      refine Bk (O:=O576) (Eg h578 r144 r104 e582) rfl rfl fun v587 w583 O584 S585 h586=>?_
      obtain ⟨v589,v590,h588,rfl,h591,h592⟩:=h586
      obtain ⟨cs593,rfl,v594,rfl,h595,r598,r599,r600⟩:=h591
      obtain ⟨A596,c597,rfl⟩:=h595.form
      obtain ⟨rfl,r601⟩:=h592.err
      refine o_ex rfl rfl rfl (o_ex rfl rfl rfl ?_)
      replace h29:=((((((((((h29.st S108).st S120).st S126).st S134).st S148).st S151).st S165).st S195).st S213).st S577).st S585
      refine AL h29 rfl rfl rfl (Nat.le_of_ble_eq_true rfl) (by first|exact allOne rfl|simp [Value.cells,Value.oneCell',AJ]) fun w602 S603 h29=>?_
      replace h29:Lc 3 w602 O584 g25 30 [(.int .i64 q581.1.verdict),(.slice A596 q581.1.plan.length c597),(.int .i64 q581.1.cost),(.int .i64 q581.1.expanded)]:=h29
      refine o_as rfl rfl (o_z ?_)
      refine At ?_
      obtain rfl:=sm hf86
      obtain rfl:=hret87 _ rfl
      obtain rfl:=sm (Bx hm)
      replace hB:=(((((((((((hB.st S108).st S120).st S126).st S134).st S148).st S151).st S165).st S195).st S213).st S577).st S585).st S603
      replace h595:=h595.st S603
      exact ret2 rfl (BO (cs:=[(.int .i64 q581.1.verdict),(.slice A596 q581.1.plan.length c597),(.int .i64 q581.1.cost),(.int .i64 q581.1.expanded)]) rfl rfl h29.1.cellsAt) (AF rfl) ⟨hB.ext,_,_,rfl,(Vb.mono (F:=Fr 0 w602 O584) (Vb.ofAgg (cs:=[(.int .i64 q581.1.verdict),(.slice A596 q581.1.plan.length c597),(.int .i64 q581.1.cost),(.int .i64 q581.1.expanded)]) (x:=q581.1) rfl ⟨_,rfl,h595,r598,r599,r600⟩) hB.out),(vErr r601)⟩
   ·
    replace hf86:=im hf86 c124
    refine o_z ?_
    refine Aj rfl (Au ?_)
    replace h109:=h109.st S120
    replace h112:=h112.st S120
    obtain ⟨O604,S605,hz607,ha608,h606⟩:=BxR.shut (x:=s78.2.2.2.2.2) (l0:=8) (l1:=9) (by decide) h109 h112
    obtain rfl:=sm hf86
    refine (?_:Exists _)
    replace hB:=((hB.st S108).st S120).st S605
    replace h29:=((h29.st S108).st S120).st S605
    exact ⟨_,((x79.1.1,x79.1.2),(x79.2.1,x79.2.2)),hbrk88 _ rfl,⟨rfl,rfl,trivial⟩,_,hB,h29,r103,r104⟩
  replace hB:=(((((((hB.st S23).st S28).st S34).st S48).st S54).st S60).st S66).st S72
  replace h29:=(((((h29.st S34).st S48).st S54).st S60).st S66).st S72
  rintro l609 w610 ⟨s613,x614,rfl,hs612,O611,hB,h29,r103,r104⟩
  replace hm:=Br hm
  refine AW _ hs612 ?_
  refine Ah (Ae (o_mv rfl rfl ?_))
  obtain ⟨q615,e616,hm⟩:=bs hm
  refine Cv (O:=O611) (R:=fun w' F v=>T2 w' F v q615) (CL Fr.lt (show inI64 (2) from by decide) r104 e616) rfl rfl fun v621 w617 O618 S619 h620=>?_
  obtain ⟨v622,v623,rfl,h624,h625⟩:=h620
  obtain ⟨cs626,rfl,v627,rfl,h628,r631,r632,r633⟩:=h624
  obtain ⟨A629,c630,rfl⟩:=h628.form
  obtain ⟨rfl,r634⟩:=h625.err
  refine o_ex rfl rfl rfl (o_ex rfl rfl rfl ?_)
  replace h29:=h29.st S619
  refine AL h29 rfl rfl rfl (Nat.le_of_ble_eq_true rfl) (by first|exact allOne rfl|simp [Value.cells,Value.oneCell',AJ]) fun w635 S636 h29=>?_
  replace h29:Lc 3 w635 O618 g25 30 [(.int .i64 q615.1.verdict),(.slice A629 q615.1.plan.length c630),(.int .i64 q615.1.cost),(.int .i64 q615.1.expanded)]:=h29
  refine o_as rfl rfl (o_z ?_)
  refine At ?_
  obtain rfl:=sm hm
  replace hB:=(hB.st S619).st S636
  replace h628:=h628.st S636
  exact ret2 rfl (BO (cs:=[(.int .i64 q615.1.verdict),(.slice A629 q615.1.plan.length c630),(.int .i64 q615.1.cost),(.int .i64 q615.1.expanded)]) rfl rfl h29.1.cellsAt) (AF rfl) ⟨hB.ext,_,_,rfl,(Vb.mono (F:=Fr 0 w635 O618) (Vb.ofAgg (cs:=[(.int .i64 q615.1.verdict),(.slice A629 q615.1.plan.length c630),(.int .i64 q615.1.cost),(.int .i64 q615.1.expanded)]) (x:=q615.1) rfl ⟨_,rfl,h628,r631,r632,r633⟩) hB.out),(vErr r634)⟩
noncomputable def Be (x0:Tsk) (x1:Int):Option (Int×Err) :=
  bnd (BB x0) fun q25=>if q25.2.n≠0 then (some (0,(⟨q25.2.n⟩:Err))) else (bnd q25.1 fun o38=>bnd (lop (ρ:=Int×Err) (fun (s43:Int×Spc)=>bnd (AM s43.2.reg) fun q87=>if s43.1 < q87 then (bnd (AM s43.2.reg) fun q98=>if x1 < q98 then (some (.ret (0,(⟨10⟩:Err)))) else (bnd (AY s43.2.reg s43.1) fun q109=>if q109.2.n≠0 then (some (.ret (0,(⟨q109.2.n⟩:Err)))) else (bnd (AS s43.2.gen q109.1) fun q125=>bnd (rng (ρ:=Ctl (Int×Spc) (Int×Err)) (fun (k145:Nat) (a146:Suc) (s143:Spc)=>bnd (AU s143.reg a146.state) fun q204=>if q204.2.2.1.n≠0 then (some (.ret (.ret (0,(⟨10⟩:Err))))) else (some (.next (⟨(⟨s143.t.vars,s143.t.init,s143.t.goal,s143.t.ops⟩:Tsk),q204.2.2.2,s143.gen⟩:Spc)))) q125 0 s43.2) fun res141=>fin res141 fun (s230:Spc)=>bnd (chkI (s43.1 + 1)) fun n232=>some (.next (n232,s230))))) else (some (.brk (s43.1,s43.2)))) (0,o38)) fun res41=>fin res41 fun (s244:Int×Spc)=>bnd (AM s244.2.reg) fun q273=>if x1 < q273 then (some (0,(⟨10⟩:Err))) else (bnd (AM s244.2.reg) fun q284=>some (q284,(⟨0⟩:Err))))
theorem EI {w:World} {A:Nat→Prop} (hA:∀ k,A k→k < w.heap.size) {vx0:Value} {x0:Tsk} (hx0:Vb w A vx0 x0) {x1:Int} (rx1:inI64 x1) {r:Int×Err} (hm:Be x0 x1=some r) :
    Fn Try.prog 25 [vx0,(.int .i64 x1)] w fun v w'=>Ext w w'∧T2 w' (upA A w w') v r:=by
 obtain ⟨O,hB,hA0⟩:=enter hA
 replace hx0:=hx0.mono hA0
 obtain ⟨cs3,rfl,v4,v5,v6,v7,rfl,h8,h11,h14,h17⟩:=hx0
 obtain ⟨A9,c10,rfl⟩:=h8.form
 obtain ⟨A12,c13,rfl⟩:=h11.form
 obtain ⟨A15,c16,rfl⟩:=h14.form
 obtain ⟨A18,c19,rfl⟩:=h17.form
 refine AN Try.func25 rfl Try.ntmps25 rfl ?_
 unfold Be at hm
 refine Ah (Ae (l_box 2 O rfl rfl fun g20 w21 O22 S23 h24=>?_))
 replace h24:Lc 2 w21 O22 g20 26 [(.slice A9 x0.vars.length c10),(.slice A12 x0.init.length c13),(.slice A15 x0.goal.length c16),(.slice A18 x0.ops.length c19)]:=h24
 refine o_as rfl rfl (o_as rfl rfl (o_z ?_))
 refine Ah (Ae (o_la (hl:=rfl) (hc:=(h24.1).cellsAt) rfl rfl ?_))
 obtain ⟨q25,e26,hm⟩:=bs hm
 replace h8:=h8.st S23
 replace h11:=h11.st S23
 replace h14:=h14.st S23
 replace h17:=h17.st S23
 refine Bk (O:=O22) (EB (Vb.ofAgg (cs:=[(.slice A9 x0.vars.length c10),(.slice A12 x0.init.length c13),(.slice A15 x0.goal.length c16),(.slice A18 x0.ops.length c19)]) (x:=x0) rfl ⟨_,_,_,_,rfl,h8,h11,h14,h17⟩) 3 (by decide) e26) rfl rfl fun v31 w27 O28 S29 h30=>?_
 obtain ⟨v32,v33,rfl,h34,h35⟩:=h30
 obtain ⟨rfl,r36⟩:=h35.err
 refine o_mv rfl rfl (o_ex rfl rfl rfl (o_ex rfl rfl rfl (o_as rfl rfl (o_as rfl rfl (o_z ?_)))))
 refine Ah (Ah (Ae (o_mv rfl rfl (o_rnS rfl rfl (fun c37=>?_) fun c37=>?_))))
 ·
  replace hm:=ip hm c37
  refine o_z ?_
  refine Ar rfl (Ah (Ae (o_mv rfl rfl (o_as rfl rfl (o_as rfl rfl (o_z ?_))))))
  refine At ?_
  obtain rfl:=sm hm
  replace hB:=(hB.st S23).st S29
  exact ret2 rfl (AF rfl) (AF rfl) ⟨hB.ext,_,_,rfl,(vInt (show inI64 (0) from by decide)),(vErr r36)⟩
 ·
  replace hm:=im hm c37
  refine o_z ?_
  refine Aj rfl (Am (Ah (Ah (Ae (o_as rfl rfl (o_z ?_))))))
  obtain ⟨o38,e39,hm⟩:=bs hm
  rw [e39] at h34
  obtain ⟨p40,rfl⟩:=Ob.ptr h34
  obtain ⟨res41,hL42,hm⟩:=bs hm
  refine AT (aft res41 (fun (s43:Int×Spc) (x44:Unit)=>[(1,(.int .i64 x1)),(6,(.pointer (some ⟨p40,0,none⟩)))]) (fun s43 x44 w'=>∃ O':Lab,Bs w A w' O'∧Ob 3 w' O' (.pointer (some ⟨p40,0,none⟩)) s43.2∧inI64 s43.1)) ?_ ?_
  ·
   refine Al ?_
   replace hB:=(hB.st S23).st S29
   refine Er (σ:=Int×Spc) (X:=Unit) hL42 (fun (s43:Int×Spc) (x44:Unit)=>[(1,(.int .i64 x1)),(6,(.pointer (some ⟨p40,0,none⟩))),(8,(.int .i64 s43.1))]) _ (fun s43 x44 w'=>∃ O':Lab,Bs w A w' O'∧Ob 3 w' O' (.pointer (some ⟨p40,0,none⟩)) s43.2∧inI64 s43.1) _ () ⟨O28,hB,h34,(show inI64 (0) from by decide)⟩ ⟨rfl,rfl,rfl,trivial⟩ ?_
   rintro s43 x44 w47 cc49 ⟨O48,hB,h59,r58⟩ hf51 hret52 hbrk53
   refine Ah (Ah (Ae (o_mv rfl rfl (o_mv rfl rfl (o_nc rfl rfl ?_)))))
   obtain ⟨O60,v64,v68,v72,v76,v80,v83,S61,ha63,h62,h65,h69,h73,h77,h81,h84⟩:=Spc.opn h59 3 4 (by decide)
   obtain ⟨A66,c67,rfl⟩:=h65.form
   obtain ⟨A70,c71,rfl⟩:=h69.form
   obtain ⟨A74,c75,rfl⟩:=h73.form
   obtain ⟨A78,c79,rfl⟩:=h77.form
   obtain ⟨p82,rfl⟩:=h81.ptr
   obtain ⟨p85,rfl,hq86⟩:=h84.ptr
   refine o_fa rfl rfl (o_ld (hc:=Blk.cell (i:=4) (h62.1) rfl) rfl rfl ?_)
   obtain ⟨q87,e88,hf51⟩:=bs hf51
   refine Bk (O:=O60) (BW h81 e88) rfl rfl fun v93 w89 O90 S91 h92=>?_
   obtain ⟨h94,h95⟩:=h92
   obtain ⟨rfl,r96⟩:=h95.int
   refine o_ltS rfl rfl rfl (fun c97=>?_) fun c97=>?_
   ·
    replace hf51:=ip hf51 c97
    refine o_z ?_
    refine Ar rfl (Am (Ah (Al (Ah (Ah (Ae (o_mv rfl rfl (o_nc rfl rfl (o_fa rfl rfl ?_)))))))))
    replace h62:=h62.st S91
    refine o_ld (hc:=Blk.cell (i:=4) (h62.1) rfl) rfl rfl ?_
    obtain ⟨q98,e99,hf51⟩:=bs hf51
    refine Bk (O:=O90) (BW h94 e99) rfl rfl fun v104 w100 O101 S102 h103=>?_
    obtain ⟨h105,h106⟩:=h103
    obtain ⟨rfl,r107⟩:=h106.int
    refine o_mv rfl rfl (o_gtS rfl rfl rfl (fun c108=>?_) fun c108=>?_)
    ·
     replace hf51:=ip hf51 c108
     refine o_z ?_
     refine Ar rfl (Ah (Ae (o_miE rfl rfl ?_)))
     refine o_as rfl rfl (o_as rfl rfl (o_z ?_))
     refine At ?_
     obtain rfl:=sm hf51
     obtain rfl:=hret52 _ rfl
     obtain rfl:=sm (Bx hm)
     replace hB:=((hB.st S61).st S91).st S102
     exact ret2 rfl (AF rfl) (AF rfl) ⟨hB.ext,_,_,rfl,(vInt (show inI64 (0) from by decide)),(vErr (by decide))⟩
    ·
     replace hf51:=im hf51 c108
     refine o_z ?_
     refine Aj rfl (Am (Ah (Ae (o_mv rfl rfl (o_nc rfl rfl (o_fa rfl rfl ?_))))))
     replace h62:=h62.st S102
     refine o_ld (hc:=Blk.cell (i:=4) (h62.1) rfl) rfl rfl ?_
     refine o_mv rfl rfl ?_
     obtain ⟨q109,e110,hf51⟩:=bs hf51
     refine Bk (O:=O101) (CQ h105 r58 e110) rfl rfl fun v115 w111 O112 S113 h114=>?_
     obtain ⟨v117,v118,h116,rfl,h119,h120⟩:=h114
     obtain ⟨A121,c122,rfl⟩:=h119.form
     obtain ⟨rfl,r123⟩:=h120.err
     refine o_mv rfl rfl (o_ex rfl rfl rfl (o_ex rfl rfl rfl (o_as rfl rfl (o_as rfl rfl (o_z ?_)))))
     refine Ah (Ah (Ae (o_mv rfl rfl (o_rnS rfl rfl (fun c124=>?_) fun c124=>?_))))
     ·
      replace hf51:=ip hf51 c124
      refine o_z ?_
      refine Ar rfl (Ah (Ae (o_mv rfl rfl (o_as rfl rfl (o_as rfl rfl (o_z ?_))))))
      refine At ?_
      obtain rfl:=sm hf51
      obtain rfl:=hret52 _ rfl
      obtain rfl:=sm (Bx hm)
      replace hB:=(((hB.st S61).st S91).st S102).st S113
      exact ret2 rfl (AF rfl) (AF rfl) ⟨hB.ext,_,_,rfl,(vInt (show inI64 (0) from by decide)),(vErr r123)⟩
     ·
      replace hf51:=im hf51 c124
      refine o_z ?_
      refine Aj rfl (Am (Ah (Ae (o_mv rfl rfl (o_nc rfl rfl (o_fa rfl rfl ?_))))))
      replace h62:=h62.st S113
      refine o_ld (hc:=Blk.cell (i:=5) (h62.1) rfl) rfl rfl ?_
      refine o_mv rfl rfl ?_
      obtain ⟨q125,e126,hf51⟩:=bs hf51
      replace h84:=((h84.st S91).st S102).st S113
      refine Cv (O:=O112) (R:=fun w' F v=>Vb w' F v q125) (Cx Fr.lt h84 h119 e126) rfl rfl fun v131 w127 O128 S129 h130=>?_
      obtain ⟨A132,c133,rfl⟩:=h130.form
      refine o_ln rfl rfl ?_
      have l135:q125.length≤9223372036854775807:=Nat.le_trans h130.len.2.1 h130.len.2.2
      have r134:inI64 (q125.length:Int):=rngNat l135
      refine o_mv rfl rfl (o_z ?_)
      replace h62:=h62.st S129
      replace h65:=(((h65.st S91).st S102).st S113).st S129
      replace h69:=(((h69.st S91).st S102).st S113).st S129
      replace h73:=(((h73.st S91).st S102).st S113).st S129
      replace h77:=(((h77.st S91).st S102).st S113).st S129
      replace h84:=h84.st S129
      replace h116:=h116.st S129
      obtain ⟨O136,S137,hz139,ha140,h138⟩:=Spc.shut (x:=s43.2) (l0:=3) (l1:=4) (by decide) h62 h65 h69 h73 h77 h116 h84
      obtain ⟨res141,hL142,hf51⟩:=bs hf51
      refine AT (aft res141 (fun (s143:Spc) (x144:Unit)=>[(1,(.int .i64 x1)),(6,(.pointer (some ⟨p40,0,none⟩))),(8,(.int .i64 s43.1))]) (fun s143 x144 w'=>∃ O':Lab,Bs w A w' O'∧Ob 3 w' O' (.pointer (some ⟨p40,0,none⟩)) s143)) ?_ ?_
      ·
       refine Al ?_
       replace hB:=(((((hB.st S61).st S91).st S102).st S113).st S129).st S137
       replace h130:=h130.st S137
       refine CC (σ:=Spc) (X:=Unit) (q125.length) hL142 rfl l135 (fun (s143:Spc) (x144:Unit)=>[(1,(.int .i64 x1)),(6,(.pointer (some ⟨p40,0,none⟩))),(8,(.int .i64 s43.1)),(58,(.slice A132 q125.length c133))]) _ (fun s143 x144 w'=>∃ O':Lab,Bs w A w' O'∧Ob 3 w' O' (.pointer (some ⟨p40,0,none⟩)) s143∧Vb w' (Fr 0 w' O') (.slice A132 q125.length c133) q125) _ () ⟨O136,hB,h138,h130⟩ ⟨rfl,rfl,rfl,rfl,rfl,rfl,trivial⟩ (fun _ _=>⟨rfl,rfl⟩) (fun _ _=>⟨rfl,rfl,rfl,trivial⟩) (fun _ _ _ ⟨O',hB,h157,h130⟩=>⟨O',hB,h157⟩) ⟨rfl,rfl,rfl⟩ ⟨rfl,rfl⟩ ?_
       rintro k145 a146 s143 x144 w147 cc149 hx150 ⟨O148,hB,h157,h130⟩ hf151 hret152 hbrk153
       have rk145:inI64 (k145:Int):=rngK hx150 l135
       refine Ah (Ae ?_)
       obtain ⟨b158,o159,ce160,hA161,hl162,hd163,v165,rfl,h166,r169⟩:=h130.elem' hx150
       obtain ⟨A167,c168,rfl⟩:=h166.form
       refine o_iaE (hA:=hA161) (hj:=rfl) (hlt:=hl162) rfl rfl rfl ?_
       refine o_la (hl:=rfl) (hc:=hd163) rfl rfl ?_
       refine BR 5 O148 rfl fun g170 w171 O172 S173 h174=>?_
       refine AL h174 rfl rfl rfl (Nat.le_of_ble_eq_true rfl) (by first|exact allOne rfl|simp [Value.cells,Value.oneCell',AJ]) fun w175 S176 h174=>?_
       replace h174:Lc 5 w175 O172 g170 83 [(.int .i64 a146.op),(.slice A167 a146.state.length c168)]:=h174
       refine o_z ?_
       refine Ah ?_
       replace h157:=(h157.st S173).st S176
       obtain ⟨O177,v181,v185,v189,v193,v197,v200,S178,ha180,h179,h182,h186,h190,h194,h198,h201⟩:=Spc.opn h157 3 4 (by decide)
       obtain ⟨A183,c184,rfl⟩:=h182.form
       obtain ⟨A187,c188,rfl⟩:=h186.form
       obtain ⟨A191,c192,rfl⟩:=h190.form
       obtain ⟨A195,c196,rfl⟩:=h194.form
       obtain ⟨p199,rfl⟩:=h198.ptr
       obtain ⟨p202,rfl,hq203⟩:=h201.ptr
       refine BK [(6,[4])] O177 ?_
       refine x_pre (fuel:=8) [] [(0,true),(1,true),(2,true),(3,true),(4,true),(5,true)] (by kernel_rfl) rfl ?_
       refine h_mv rfl rfl rfl (h_nc rfl rfl rfl (h_fa rfl rfl rfl (h_ldC (hc:=fun w' ⟨O',hq⟩=>Blk.cell (i:=4) ((h179.st hq (by decide)).1) rfl) rfl rfl rfl ?_)))
       refine h_fa rfl rfl rfl ?_
       replace h174:=h174.st S178
       refine h_ldC (hc:=fun w' ⟨O',hq⟩=>Blk.cell (i:=1) ((h174.st hq (by decide)).1) rfl) rfl rfl rfl ?_
       refine AE ?_
       refine x_one (i:=6) (by kernel_rfl) rfl ?_
       obtain ⟨q204,e205,hf151⟩:=bs hf151
       replace h166:=((h166.st S173).st S176).st S178
       refine Bk (O:=O177) (CE h198 h166 e205) rfl rfl fun v210 w206 O207 S208 h209=>?_
       obtain ⟨v212,v213,v214,h211,rfl,h215,h216,h217⟩:=h209
       obtain ⟨rfl,r218⟩:=h215.int
       obtain rfl:=h216.bool
       obtain ⟨rfl,r219⟩:=h217.err
       have hZ:=S208.lst [4] (fun _ h=>by cases h;decide)
       refine x_go [] hZ (by kernel_rfl) ?_
       refine x_pre (fuel:=0) [] [(7,true),(8,true),(9,true),(10,true),(11,true),(12,true),(13,true)] (by kernel_rfl) rfl ?_
       refine h_mv rfl rfl rfl (h_ex rfl rfl rfl rfl (h_ex rfl rfl rfl rfl (h_ex rfl rfl rfl rfl (h_as rfl rfl rfl (h_as rfl rfl rfl (h_as rfl rfl rfl (AE ?_)))))))
       refine x_nil (by kernel_rfl) ?_
       refine Ah (Ae (o_mv rfl rfl (o_rnS rfl rfl (fun c220=>?_) fun c220=>?_)))
       ·
        replace hf151:=ip hf151 c220
        refine o_z ?_
        refine Ar rfl (Ah (Ae (o_miE rfl rfl ?_)))
        refine o_as rfl rfl (o_as rfl rfl (o_z ?_))
        refine At ?_
        obtain rfl:=sm hf151
        obtain rfl:=hret152 _ rfl
        obtain rfl:=sm (Bx hf51)
        obtain rfl:=hret52 _ rfl
        obtain rfl:=sm (Bx hm)
        replace hB:=(((hB.st S173).st S176).st S178).st S208
        exact ret2 rfl (AF rfl) (AF rfl) ⟨hB.ext,_,_,rfl,(vInt (show inI64 (0) from by decide)),(vErr (by decide))⟩
       ·
        replace hf151:=im hf151 c220
        refine o_z ?_
        refine Aj rfl (Am ?_)
        replace h179:=h179.st S208
        replace h182:=h182.st S208
        replace h186:=h186.st S208
        replace h190:=h190.st S208
        replace h194:=h194.st S208
        replace h201:=h201.st S208
        obtain ⟨O221,S222,hz224,ha225,h223⟩:=Spc.shut (x:=(⟨(⟨s143.t.vars,s143.t.init,s143.t.goal,s143.t.ops⟩:Tsk),q204.2.2.2,s143.gen⟩:Spc)) (l0:=3) (l1:=4) (by decide) h179 h182 h186 h190 h194 h211 h201
        obtain rfl:=sm hf151
        refine (?_:Exists _)
        replace hB:=((((hB.st S173).st S176).st S178).st S208).st S222
        replace h130:=((((h130.st S173).st S176).st S178).st S208).st S222
        exact ⟨_,(),rfl,⟨rfl,rfl,rfl,rfl,rfl,rfl,trivial⟩,_,hB,h223,h130⟩
      replace hB:=(((((hB.st S61).st S91).st S102).st S113).st S129).st S137
      rintro l226 w227 ⟨s230,x231,rfl,hs229,O228,hB,h157⟩
      replace hf51:=Br hf51
      refine AW _ hs229 ?_
      refine Ae (o_mv rfl rfl ?_)
      obtain ⟨n232,e233,hf51⟩:=bs hf51
      have r234:=(Bl e233)
      refine o_adE (he:=e233) rfl rfl rfl ?_
      refine o_as rfl rfl (o_z ?_)
      obtain rfl:=sm hf51
      refine (?_:Exists _)
      exact ⟨_,(),rfl,⟨rfl,rfl,rfl,trivial⟩,_,hB,h157,r234⟩
   ·
    replace hf51:=im hf51 c97
    refine o_z ?_
    refine Aj rfl (Au ?_)
    replace h62:=h62.st S91
    replace h65:=h65.st S91
    replace h69:=h69.st S91
    replace h73:=h73.st S91
    replace h77:=h77.st S91
    replace h84:=h84.st S91
    obtain ⟨O235,S236,hz238,ha239,h237⟩:=Spc.shut (x:=s43.2) (l0:=3) (l1:=4) (by decide) h62 h65 h69 h73 h77 h94 h84
    obtain rfl:=sm hf51
    refine (?_:Exists _)
    replace hB:=((hB.st S61).st S91).st S236
    exact ⟨_,(),hbrk53 _ rfl,⟨rfl,rfl,trivial⟩,_,hB,h237,r58⟩
  replace hB:=(hB.st S23).st S29
  rintro l240 w241 ⟨s244,x245,rfl,hs243,O242,hB,h59,r58⟩
  replace hm:=Br hm
  refine AW _ hs243 ?_
  refine Ah (Ah (Ae (o_mv rfl rfl (o_nc rfl rfl ?_))))
  obtain ⟨O246,v250,v254,v258,v262,v266,v269,S247,ha249,h248,h251,h255,h259,h263,h267,h270⟩:=Spc.opn h59 3 4 (by decide)
  obtain ⟨A252,c253,rfl⟩:=h251.form
  obtain ⟨A256,c257,rfl⟩:=h255.form
  obtain ⟨A260,c261,rfl⟩:=h259.form
  obtain ⟨A264,c265,rfl⟩:=h263.form
  obtain ⟨p268,rfl⟩:=h267.ptr
  obtain ⟨p271,rfl,hq272⟩:=h270.ptr
  refine o_fa rfl rfl (o_ld (hc:=Blk.cell (i:=4) (h248.1) rfl) rfl rfl ?_)
  obtain ⟨q273,e274,hm⟩:=bs hm
  refine Bk (O:=O246) (BW h267 e274) rfl rfl fun v279 w275 O276 S277 h278=>?_
  obtain ⟨h280,h281⟩:=h278
  obtain ⟨rfl,r282⟩:=h281.int
  refine o_mv rfl rfl (o_gtS rfl rfl rfl (fun c283=>?_) fun c283=>?_)
  ·
   replace hm:=ip hm c283
   refine o_z ?_
   refine Ar rfl (Ah (Ae (o_miE rfl rfl ?_)))
   refine o_as rfl rfl (o_as rfl rfl (o_z ?_))
   refine At ?_
   obtain rfl:=sm hm
   replace hB:=(hB.st S247).st S277
   exact ret2 rfl (AF rfl) (AF rfl) ⟨hB.ext,_,_,rfl,(vInt (show inI64 (0) from by decide)),(vErr (by decide))⟩
  ·
   replace hm:=im hm c283
   refine o_z ?_
   refine Aj rfl (Am (Ah (Ae (o_mv rfl rfl (o_nc rfl rfl (o_fa rfl rfl ?_))))))
   replace h248:=h248.st S277
   refine o_ld (hc:=Blk.cell (i:=4) (h248.1) rfl) rfl rfl ?_
   obtain ⟨q284,e285,hm⟩:=bs hm
   refine Bk (O:=O276) (BW h280 e285) rfl rfl fun v290 w286 O287 S288 h289=>?_
   obtain ⟨h291,h292⟩:=h289
   obtain ⟨rfl,r293⟩:=h292.int
   refine o_as rfl rfl (o_as rfl rfl (o_z ?_))
   refine At ?_
   obtain rfl:=sm hm
   replace hB:=((hB.st S247).st S277).st S288
   exact ret2 rfl (AF rfl) (AF rfl) ⟨hB.ext,_,_,rfl,(vInt r293),(vErr (show inI64 0 from by decide))⟩
end
section
open Go Go.RowKit
attribute [local irreducible] ewp owp hwp hwq hws Ev Evg Fn retPost loud loudS Res1
attribute [local irreducible] hwx loudX
noncomputable def Cn  : Option Tsk :=
  bnd (rngN (ρ:=Tsk) (fun (k35:Nat) (s33:(List Opr))=>bnd (chkI ((k35:Int) + 1)) fun n56=>bnd (appI 72 s33 [(⟨(⟨#[]⟩:ByteArray),1,[(⟨0,(k35:Int)⟩:Fct)],[(⟨([]:List Fct),0,n56⟩:Eff)]⟩:Opr)]) fun u69=>some (.next u69)) 3 ([]:List Opr)) fun res31=>fin res31 fun (s87:(List Opr))=>bnd (appI 72 s87 [(⟨(⟨#[]⟩:ByteArray),5,[(⟨0,0⟩:Fct)],[(⟨([]:List Fct),0,3⟩:Eff)]⟩:Opr)]) fun u105=>some (⟨([4]:List Int),([0]:List Int),[(⟨0,3⟩:Fct)],u105⟩:Tsk)
theorem DL {w:World} {A:Nat→Prop} (hA:∀ k,A k→k < w.heap.size)  {r:Tsk} (hm:Cn  = some r) :
    Fn Try.prog 32 [] w fun v w'=>Ext w w'∧Vb w' (upA A w w') v r:=by
 obtain ⟨O,hB,hA0⟩:=enter hA
 refine AN Try.func32 rfl Try.ntmps32 rfl ?_
 unfold Cn at hm
 refine Ah (Ae (BR 2 O rfl fun g1 w2 O3 S4 h5=>?_))
 refine o_z ?_
 refine Ah (Ae (AR 3 (by decide) O3 (xs:=(([4]:List Int):List Int)) rfl rfl rfl rfl ⟨(vInt (show inI64 (4) from by decide)),trivial⟩ (by decide) (by decide) rfl fun g6 w7 O8 S9 h10=>?_))
 refine AR 4 (by decide) O8 (xs:=(([0]:List Int):List Int)) rfl rfl rfl rfl ⟨(vInt (show inI64 (0) from by decide)),trivial⟩ (by decide) (by decide) rfl fun g12 w13 O14 S15 h16=>?_
 refine o_bd rfl rfl rfl ?_
 refine AR 5 (by decide) O14 (xs:=([(⟨0,3⟩:Fct)]:List Fct)) rfl rfl rfl rfl ⟨(Vb.ofAgg (cs:=[(.int .i64 0),(.int .i64 3)]) (x:=(⟨0,3⟩:Fct)) rfl ⟨rfl,(show inI64 (0) from by decide),(show inI64 (3) from by decide)⟩),trivial⟩ (by decide) (by decide) rfl fun g18 w19 O20 S21 h22=>?_
 refine o_bd rfl rfl rfl ?_
 refine BR 6 O20 rfl fun g24 w25 O26 S27 h28=>?_
 refine AL h28 rfl rfl rfl (Nat.le_of_ble_eq_true rfl) (by first|exact allOne rfl|simp [Value.cells,Value.oneCell',AJ]) fun w29 S30 h28=>?_
 replace h28:Lc 6 w29 O26 g24 26 [(.slice (some ⟨g6,0,none⟩) ([4]:List Int).length 1),(.slice (some ⟨g12,0,none⟩) ([0]:List Int).length 1),(.slice (some ⟨g18,0,none⟩) [(⟨0,3⟩:Fct)].length 1),(.slice none 0 0)]:=h28
 refine o_z ?_
 refine Ah (Ah (Ae (o_mv rfl rfl (o_z ?_))))
 obtain ⟨res31,hL32,hm⟩:=bs hm
 refine AT (aft res31 (fun (s33:(List Opr)) (x34:(Option Addr×Nat))=>[(0,(.pointer (some ⟨g1,0,none⟩))),(1,(.pointer (some ⟨g24,0,none⟩)))]) (fun s33 x34 w'=>∃ O':Lab,Bs w A w' O'∧Lc 2 w' O' g1 26 [(.slice none 0 0),(.slice none 0 0),(.slice none 0 0),(.slice none 0 0)]∧Lc 6 w' O' g24 26 [(.slice (some ⟨g6,0,none⟩) ([4]:List Int).length 1),(.slice (some ⟨g12,0,none⟩) ([0]:List Int).length 1),(.slice (some ⟨g18,0,none⟩) [(⟨0,3⟩:Fct)].length 1),(.slice x34.1 s33.length x34.2)]∧Rw 3 w' O' 3 (.slice (some ⟨g6,0,none⟩) ([4]:List Int).length 1) ([4]:List Int)∧Rw 4 w' O' 3 (.slice (some ⟨g12,0,none⟩) ([0]:List Int).length 1) ([0]:List Int)∧Rw 5 w' O' 57 (.slice (some ⟨g18,0,none⟩) [(⟨0,3⟩:Fct)].length 1) [(⟨0,3⟩:Fct)]∧Rw 9 w' O' 55 (.slice x34.1 s33.length x34.2) s33)) ?_ ?_
 ·
  refine Al ?_
  replace hB:=(((((hB.st S4).st S9).st S15).st S21).st S27).st S30
  replace h5:=((((h5.st S9).st S15).st S21).st S27).st S30
  replace h10:=(((h10.st S15).st S21).st S27).st S30
  replace h16:=((h16.st S21).st S27).st S30
  replace h22:=(h22.st S27).st S30
  refine Jw (σ:=(List Opr)) (X:=(Option Addr×Nat)) (N:=3) rfl hL32 (by decide) (fun (s33:(List Opr)) (x34:(Option Addr×Nat))=>[(0,(.pointer (some ⟨g1,0,none⟩))),(1,(.pointer (some ⟨g24,0,none⟩)))]) _ (fun s33 x34 w'=>∃ O':Lab,Bs w A w' O'∧Lc 2 w' O' g1 26 [(.slice none 0 0),(.slice none 0 0),(.slice none 0 0),(.slice none 0 0)]∧Lc 6 w' O' g24 26 [(.slice (some ⟨g6,0,none⟩) ([4]:List Int).length 1),(.slice (some ⟨g12,0,none⟩) ([0]:List Int).length 1),(.slice (some ⟨g18,0,none⟩) [(⟨0,3⟩:Fct)].length 1),(.slice x34.1 s33.length x34.2)]∧Rw 3 w' O' 3 (.slice (some ⟨g6,0,none⟩) ([4]:List Int).length 1) ([4]:List Int)∧Rw 4 w' O' 3 (.slice (some ⟨g12,0,none⟩) ([0]:List Int).length 1) ([0]:List Int)∧Rw 5 w' O' 57 (.slice (some ⟨g18,0,none⟩) [(⟨0,3⟩:Fct)].length 1) [(⟨0,3⟩:Fct)]∧Rw 9 w' O' 55 (.slice x34.1 s33.length x34.2) s33) _ (none,0) ⟨O26,hB,h5,h28,h10,h16,h22,(Rw.nil 9 (by decide))⟩ ⟨rfl,rfl,rfl,trivial⟩ (fun _ _=>⟨rfl,rfl⟩) (fun _ _=>⟨rfl,rfl,trivial⟩) (fun _ _ _ ⟨O',hB,h5,h28,h10,h16,h22,h48⟩=>⟨O',hB,h5,h28,h10,h16,h22,h48⟩) ⟨rfl,rfl,rfl⟩ ?_
  rintro k35 s33 x34 w37 cc39 hx40 ⟨O38,hB,h5,h28,h10,h16,h22,h48⟩ hf41 hret42 hbrk43
  have rk35:inI64 (k35:Int):=rngKN hx40 (by decide)
  refine Ah (Ae (o_mv rfl rfl (o_as rfl rfl (o_z ?_))))
  refine Ae (o_fa rfl rfl (o_ld (hc:=Blk.cell (i:=3) (h28.1) rfl) rfl rfl ?_))
  refine o_mv rfl rfl (o_bd rfl rfl rfl ?_)
  refine AR 7 (by decide) O38 (xs:=([(⟨0,(k35:Int)⟩:Fct)]:List Fct)) rfl rfl rfl rfl ⟨(Vb.ofAgg (cs:=[(.int .i64 0),(.int .i64 (k35:Int))]) (x:=(⟨0,(k35:Int)⟩:Fct)) rfl ⟨rfl,(show inI64 (0) from by decide),rk35⟩),trivial⟩ (by decide) (by decide) rfl fun g50 w51 O52 S53 h54=>?_
  refine o_mv rfl rfl ?_
  obtain ⟨n56,e57,hf41⟩:=bs hf41
  have r58:=(Bl e57)
  refine o_adE (he:=e57) rfl rfl rfl ?_
  refine o_bd rfl rfl rfl ?_
  refine AR 8 (by decide) O52 (xs:=([(⟨([]:List Fct),0,n56⟩:Eff)]:List Eff)) rfl rfl rfl rfl ⟨(Vb.ofAgg (cs:=[(.slice none 0 0),(.int .i64 0),(.int .i64 n56)]) (x:=(⟨([]:List Fct),0,n56⟩:Eff)) rfl ⟨_,rfl,(Vb.nil _ _),(show inI64 (0) from by decide),r58⟩),trivial⟩ (by decide) (by decide) rfl fun g59 w60 O61 S62 h63=>?_
  refine o_bd rfl rfl rfl ?_
  replace h54:=h54.st S62
  obtain ⟨O65,S66,h54⟩:=h54.freeze
  replace h63:=h63.st S66
  obtain ⟨O67,S68,h63⟩:=h63.freeze
  obtain ⟨u69,e70,hf41⟩:=bs hf41
  obtain ⟨e70,e71,e72⟩:=AO e70
  replace h48:=(((h48.st S53).st S62).st S66).st S68
  replace h54:=h54.st S68
  refine Ds rfl (a:=(⟨(⟨#[]⟩:ByteArray),1,[(⟨0,(k35:Int)⟩:Fct)],[(⟨([]:List Fct),0,n56⟩:Eff)]⟩:Opr)) h48 (Vb.ofAgg (cs:=[(.string (⟨#[]⟩:ByteArray)),(.int .i64 1),(.slice (some ⟨g50,0,none⟩) [(⟨0,(k35:Int)⟩:Fct)].length 1),(.slice (some ⟨g59,0,none⟩) [(⟨([]:List Fct),0,n56⟩:Eff)].length 1)]) (x:=(⟨(⟨#[]⟩:ByteArray),1,[(⟨0,(k35:Int)⟩:Fct)],[(⟨([]:List Fct),0,n56⟩:Eff)]⟩:Opr)) rfl ⟨_,_,rfl,h54,h63,(show inI64 (1) from by decide),(show (⟨#[]⟩:ByteArray).size≤9223372036854775807 from by decide)⟩) (fun _=>rfl) rfl (by decide) (by decide) e71 e72 ⟨rfl,rfl⟩ fun g73 A74 c75 w76 O77 S78 h79=>?_
  rw [← e70] at h79 ⊢
  refine o_fa rfl rfl ?_
  replace h28:=((((h28.st S53).st S62).st S66).st S68).st S78
  refine AL h28 rfl rfl rfl (Nat.le_of_ble_eq_true rfl) (by first|exact allOne rfl|simp [Value.cells,Value.oneCell',AJ]) fun w81 S82 h28=>?_
  replace h28:Lc 6 w81 O77 g24 26 [(.slice (some ⟨g6,0,none⟩) ([4]:List Int).length 1),(.slice (some ⟨g12,0,none⟩) ([0]:List Int).length 1),(.slice (some ⟨g18,0,none⟩) [(⟨0,3⟩:Fct)].length 1),(.slice A74 u69.length c75)]:=h28
  refine o_z ?_
  obtain rfl:=sm hf41
  refine (?_:Exists _)
  replace hB:=(((((hB.st S53).st S62).st S66).st S68).st S78).st S82
  replace h5:=(((((h5.st S53).st S62).st S66).st S68).st S78).st S82
  replace h10:=(((((h10.st S53).st S62).st S66).st S68).st S78).st S82
  replace h16:=(((((h16.st S53).st S62).st S66).st S68).st S78).st S82
  replace h22:=(((((h22.st S53).st S62).st S66).st S68).st S78).st S82
  replace h79:=h79.st S82
  exact ⟨_,(A74,c75),rfl,⟨rfl,rfl,rfl,trivial⟩,_,hB,h5,h28,h10,h16,h22,h79⟩
 replace hB:=(((((hB.st S4).st S9).st S15).st S21).st S27).st S30
 replace h5:=((((h5.st S9).st S15).st S21).st S27).st S30
 replace h10:=(((h10.st S15).st S21).st S27).st S30
 replace h16:=((h16.st S21).st S27).st S30
 replace h22:=(h22.st S27).st S30
 rintro l83 w84 ⟨s87,x88,rfl,hs86,O85,hB,h5,h28,h10,h16,h22,h48⟩
 replace hm:=Br hm
 refine AW _ hs86 ?_
 refine Ah (Ae (o_fa rfl rfl (o_ld (hc:=Blk.cell (i:=3) (h28.1) rfl) rfl rfl ?_)))
 refine o_bd rfl rfl rfl ?_
 refine AR 10 (by decide) O85 (xs:=([(⟨0,0⟩:Fct)]:List Fct)) rfl rfl rfl rfl ⟨(Vb.ofAgg (cs:=[(.int .i64 0),(.int .i64 0)]) (x:=(⟨0,0⟩:Fct)) rfl ⟨rfl,(show inI64 (0) from by decide),(show inI64 (0) from by decide)⟩),trivial⟩ (by decide) (by decide) rfl fun g89 w90 O91 S92 h93=>?_
 refine o_bd rfl rfl rfl ?_
 refine AR 11 (by decide) O91 (xs:=([(⟨([]:List Fct),0,3⟩:Eff)]:List Eff)) rfl rfl rfl rfl ⟨(Vb.ofAgg (cs:=[(.slice none 0 0),(.int .i64 0),(.int .i64 3)]) (x:=(⟨([]:List Fct),0,3⟩:Eff)) rfl ⟨_,rfl,(Vb.nil _ _),(show inI64 (0) from by decide),(show inI64 (3) from by decide)⟩),trivial⟩ (by decide) (by decide) rfl fun g95 w96 O97 S98 h99=>?_
 refine o_bd rfl rfl rfl ?_
 replace h93:=h93.st S98
 obtain ⟨O101,S102,h93⟩:=h93.freeze
 replace h99:=h99.st S102
 obtain ⟨O103,S104,h99⟩:=h99.freeze
 obtain ⟨u105,e106,hm⟩:=bs hm
 obtain ⟨e106,e107,e108⟩:=AO e106
 replace h48:=(((h48.st S92).st S98).st S102).st S104
 replace h93:=h93.st S104
 refine Ds rfl (a:=(⟨(⟨#[]⟩:ByteArray),5,[(⟨0,0⟩:Fct)],[(⟨([]:List Fct),0,3⟩:Eff)]⟩:Opr)) h48 (Vb.ofAgg (cs:=[(.string (⟨#[]⟩:ByteArray)),(.int .i64 5),(.slice (some ⟨g89,0,none⟩) [(⟨0,0⟩:Fct)].length 1),(.slice (some ⟨g95,0,none⟩) [(⟨([]:List Fct),0,3⟩:Eff)].length 1)]) (x:=(⟨(⟨#[]⟩:ByteArray),5,[(⟨0,0⟩:Fct)],[(⟨([]:List Fct),0,3⟩:Eff)]⟩:Opr)) rfl ⟨_,_,rfl,h93,h99,(show inI64 (5) from by decide),(show (⟨#[]⟩:ByteArray).size≤9223372036854775807 from by decide)⟩) (fun _=>rfl) rfl (by decide) (by decide) e107 e108 ⟨rfl,rfl⟩ fun g109 A110 c111 w112 O113 S114 h115=>?_
 rw [← e106] at h115 ⊢
 refine o_fa rfl rfl ?_
 replace h28:=((((h28.st S92).st S98).st S102).st S104).st S114
 refine AL h28 rfl rfl rfl (Nat.le_of_ble_eq_true rfl) (by first|exact allOne rfl|simp [Value.cells,Value.oneCell',AJ]) fun w117 S118 h28=>?_
 replace h28:Lc 6 w117 O113 g24 26 [(.slice (some ⟨g6,0,none⟩) ([4]:List Int).length 1),(.slice (some ⟨g12,0,none⟩) ([0]:List Int).length 1),(.slice (some ⟨g18,0,none⟩) [(⟨0,3⟩:Fct)].length 1),(.slice A110 u105.length c111)]:=h28
 refine o_z ?_
 refine Ah (Ae (o_la (hl:=rfl) (hc:=(h28.1).cellsAt) rfl rfl ?_))
 replace h5:=(((((h5.st S92).st S98).st S102).st S104).st S114).st S118
 refine AL h5 rfl rfl rfl (Nat.le_of_ble_eq_true rfl) (by first|exact allOne rfl|simp [Value.cells,Value.oneCell',AJ]) fun w119 S120 h5=>?_
 replace h5:Lc 2 w119 O113 g1 26 [(.slice (some ⟨g6,0,none⟩) ([4]:List Int).length 1),(.slice (some ⟨g12,0,none⟩) ([0]:List Int).length 1),(.slice (some ⟨g18,0,none⟩) [(⟨0,3⟩:Fct)].length 1),(.slice A110 u105.length c111)]:=h5
 refine o_z ?_
 refine At ?_
 replace h10:=((((((h10.st S92).st S98).st S102).st S104).st S114).st S118).st S120
 obtain ⟨O121,S122,h10⟩:=h10.freeze
 replace h16:=(((((((h16.st S92).st S98).st S102).st S104).st S114).st S118).st S120).st S122
 obtain ⟨O123,S124,h16⟩:=h16.freeze
 replace h22:=((((((((h22.st S92).st S98).st S102).st S104).st S114).st S118).st S120).st S122).st S124
 obtain ⟨O125,S126,h22⟩:=h22.freeze
 replace h115:=((((h115.st S118).st S120).st S122).st S124).st S126
 obtain ⟨O127,S128,h115⟩:=h115.freeze
 obtain rfl:=sm hm
 replace hB:=((((((((((hB.st S92).st S98).st S102).st S104).st S114).st S118).st S120).st S122).st S124).st S126).st S128
 replace h5:=(((h5.st S122).st S124).st S126).st S128
 replace h10:=((h10.st S124).st S126).st S128
 replace h16:=(h16.st S126).st S128
 replace h22:=h22.st S128
 exact ret1v rfl (BO (cs:=[(.slice (some ⟨g6,0,none⟩) ([4]:List Int).length 1),(.slice (some ⟨g12,0,none⟩) ([0]:List Int).length 1),(.slice (some ⟨g18,0,none⟩) [(⟨0,3⟩:Fct)].length 1),(.slice A110 u105.length c111)]) rfl rfl h5.1.cellsAt) ⟨hB.ext,(Vb.mono (F:=Fr 0 w119 O127) (Vb.ofAgg (cs:=[(.slice (some ⟨g6,0,none⟩) ([4]:List Int).length 1),(.slice (some ⟨g12,0,none⟩) ([0]:List Int).length 1),(.slice (some ⟨g18,0,none⟩) [(⟨0,3⟩:Fct)].length 1),(.slice A110 u105.length c111)]) (x:=(⟨([4]:List Int),([0]:List Int),[(⟨0,3⟩:Fct)],u105⟩:Tsk)) rfl ⟨_,_,_,_,rfl,h10,h16,h22,h115⟩) hB.out)⟩
noncomputable def CZ  : Option Bool :=
  bnd (Cn) fun q1=>bnd (BP q1 100) fun q25=>bnd (Cn) fun q52=>bnd (Bq q52 100) fun q76=>bnd (Cn) fun q103=>bnd (Be q103 100) fun q127=>bnd (if q25.2.n=0 then (if q76.2.n=0 then (if q127.2.n=0 then (bnd (EQ q25.1.plan ([3]:List Int)) fun q153=>if q153=true then if q25.1.cost=5 then (if q25.1.expanded=2 then (bnd (Cn) fun q162=>bnd (DD q162 q76.1 3) fun q186=>if q186=true then if q127.1=4 then (some true) else (some false) else some false) else (some false)) else (some false) else some false) else (some false)) else (some false)) else (some false):Option Bool) fun y140=>some y140
theorem Ji {w:World} {A:Nat→Prop} (hA:∀ k,A k→k < w.heap.size)  {r:Bool} (hm:CZ  = some r) :
    Fn Try.prog 12 [] w fun v w'=>Ext w w'∧Vb w' (upA A w w') v r:=by
 obtain ⟨O,hB,hA0⟩:=enter hA
 refine AN Try.func12 rfl Try.ntmps12 rfl ?_
 unfold CZ at hm
 refine Ah (Ae (o_as rfl rfl (o_z ?_)))
 refine Ah (Ae ?_)
 obtain ⟨q1,e2,hm⟩:=bs hm
 refine Cv (O:=O) (R:=fun w' F v=>Vb w' F v q1) (DL Fr.lt  e2) rfl rfl fun v7 w3 O4 S5 h6=>?_
 obtain ⟨cs8,rfl,v9,v10,v11,v12,rfl,h13,h16,h19,h22⟩:=h6
 obtain ⟨A14,c15,rfl⟩:=h13.form
 obtain ⟨A17,c18,rfl⟩:=h16.form
 obtain ⟨A20,c21,rfl⟩:=h19.form
 obtain ⟨A23,c24,rfl⟩:=h22.form
 obtain ⟨q25,e26,hm⟩:=bs hm
 refine Cv (O:=O4) (R:=fun w' F v=>T2 w' F v q25) (FB Fr.lt (Vb.ofAgg (cs:=[(.slice A14 q1.vars.length c15),(.slice A17 q1.init.length c18),(.slice A20 q1.goal.length c21),(.slice A23 q1.ops.length c24)]) (x:=q1) rfl ⟨_,_,_,_,rfl,h13,h16,h19,h22⟩) (show inI64 (100) from by decide) e26) rfl rfl fun v31 w27 O28 S29 h30=>?_
 obtain ⟨v32,v33,rfl,h34,h35⟩:=h30
 obtain ⟨cs36,rfl,v37,rfl,h38,r41,r42,r43⟩:=h34
 obtain ⟨A39,c40,rfl⟩:=h38.form
 obtain ⟨rfl,r44⟩:=h35.err
 refine o_mv rfl rfl (o_ex rfl rfl rfl (o_ex rfl rfl rfl (BR 2 O28 rfl fun g45 w46 O47 S48 h49=>?_)))
 refine AL h49 rfl rfl rfl (Nat.le_of_ble_eq_true rfl) (by first|exact allOne rfl|simp [Value.cells,Value.oneCell',AJ]) fun w50 S51 h49=>?_
 replace h49:Lc 2 w50 O47 g45 30 [(.int .i64 q25.1.verdict),(.slice A39 q25.1.plan.length c40),(.int .i64 q25.1.cost),(.int .i64 q25.1.expanded)]:=h49
 refine o_as rfl rfl (o_z ?_)
 refine Ah (Ae ?_)
 obtain ⟨q52,e53,hm⟩:=bs hm
 refine Cv (O:=O47) (R:=fun w' F v=>Vb w' F v q52) (DL Fr.lt  e53) rfl rfl fun v58 w54 O55 S56 h57=>?_
 obtain ⟨cs59,rfl,v60,v61,v62,v63,rfl,h64,h67,h70,h73⟩:=h57
 obtain ⟨A65,c66,rfl⟩:=h64.form
 obtain ⟨A68,c69,rfl⟩:=h67.form
 obtain ⟨A71,c72,rfl⟩:=h70.form
 obtain ⟨A74,c75,rfl⟩:=h73.form
 obtain ⟨q76,e77,hm⟩:=bs hm
 refine Cv (O:=O55) (R:=fun w' F v=>T2 w' F v q76) (Fj Fr.lt (Vb.ofAgg (cs:=[(.slice A65 q52.vars.length c66),(.slice A68 q52.init.length c69),(.slice A71 q52.goal.length c72),(.slice A74 q52.ops.length c75)]) (x:=q52) rfl ⟨_,_,_,_,rfl,h64,h67,h70,h73⟩) (show inI64 (100) from by decide) e77) rfl rfl fun v82 w78 O79 S80 h81=>?_
 obtain ⟨v83,v84,rfl,h85,h86⟩:=h81
 obtain ⟨cs87,rfl,v88,rfl,h89,r92,r93,r94⟩:=h85
 obtain ⟨A90,c91,rfl⟩:=h89.form
 obtain ⟨rfl,r95⟩:=h86.err
 refine o_mv rfl rfl (o_ex rfl rfl rfl (o_ex rfl rfl rfl (BR 3 O79 rfl fun g96 w97 O98 S99 h100=>?_)))
 refine AL h100 rfl rfl rfl (Nat.le_of_ble_eq_true rfl) (by first|exact allOne rfl|simp [Value.cells,Value.oneCell',AJ]) fun w101 S102 h100=>?_
 replace h100:Lc 3 w101 O98 g96 30 [(.int .i64 q76.1.verdict),(.slice A90 q76.1.plan.length c91),(.int .i64 q76.1.cost),(.int .i64 q76.1.expanded)]:=h100
 refine o_as rfl rfl (o_z ?_)
 refine Ah (Ae ?_)
 obtain ⟨q103,e104,hm⟩:=bs hm
 refine Cv (O:=O98) (R:=fun w' F v=>Vb w' F v q103) (DL Fr.lt  e104) rfl rfl fun v109 w105 O106 S107 h108=>?_
 obtain ⟨cs110,rfl,v111,v112,v113,v114,rfl,h115,h118,h121,h124⟩:=h108
 obtain ⟨A116,c117,rfl⟩:=h115.form
 obtain ⟨A119,c120,rfl⟩:=h118.form
 obtain ⟨A122,c123,rfl⟩:=h121.form
 obtain ⟨A125,c126,rfl⟩:=h124.form
 obtain ⟨q127,e128,hm⟩:=bs hm
 refine Cf (O:=O106) (A:=All w105) (R:=fun w' F v=>T2 w' F v q127) (EI (fun _ h=>h) (Vb.mono (F:=Fr 0 w105 O106) (Vb.ofAgg (cs:=[(.slice A116 q103.vars.length c117),(.slice A119 q103.init.length c120),(.slice A122 q103.goal.length c123),(.slice A125 q103.ops.length c126)]) (x:=q103) rfl ⟨_,_,_,_,rfl,h115,h118,h121,h124⟩) Fr.lt) (show inI64 (100) from by decide) e128) rfl rfl fun v133 w129 O130 S131 h132=>?_
 obtain ⟨v134,v135,rfl,h136,h137⟩:=h132
 obtain ⟨rfl,r138⟩:=h136.int
 obtain ⟨rfl,r139⟩:=h137.err
 refine o_mv rfl rfl (o_ex rfl rfl rfl (o_ex rfl rfl rfl (o_as rfl rfl (o_as rfl rfl (o_z ?_)))))
 refine Ah ?_
 obtain ⟨y140,hy141,hm⟩:=bs hm
 refine AT (fun l' w'=>∃ (x143:Unit) (O':Lab),subs l' [(0,(.bool y140))]∧Bs w A w' O') ?_ ?_
 ·
  refine BK [(13,[]),(14,[]),(27,[]),(29,[])] O130 ?_
  refine x_pre (fuel:=23) [] [(0,true),(1,true),(2,true),(3,true),(4,true),(5,true),(6,true),(7,true),(8,true),(9,true),(10,true),(11,true),(12,true)] (by kernel_rfl) rfl ?_
  refine h_mv rfl rfl rfl (hwp_o rfl (Bi (fun _ _=>IB rfl) rfl (fun c144=>?_) (fun c144=>?_)))
  ·
   replace hy141:=ip hy141 c144
   refine h_mv rfl rfl rfl (hwp_o rfl (AG rfl rfl (g_mv rfl rfl (hwp_o rfl (AG rfl rfl (Bi (fun _ _=>IB rfl) rfl (fun c145=>?_) (fun c145=>?_)))))))
   ·
    replace hy141:=ip hy141 c145
    refine h_pt rfl rfl rfl rfl (h_mv rfl rfl rfl (hwp_o rfl (AG rfl rfl (g_mv rfl rfl (hwp_o rfl (AG rfl rfl (Bi (fun _ _=>IB rfl) rfl (fun c146=>?_) (fun c146=>?_))))))))
    ·
     replace hy141:=ip hy141 c146
     refine h_pt rfl rfl rfl rfl (h_mv rfl rfl rfl (hwp_o rfl (AG rfl rfl (g_fa rfl rfl (hwp_o rfl (AG rfl rfl ?_))))))
     replace h49:=(((((h49.st S56).st S80).st S99).st S102).st S107).st S131
     refine g_ldC (hc:=fun w' ⟨O',hq⟩=>Blk.cell (i:=1) ((h49.st hq (by decide)).1) rfl) rfl rfl ?_
     refine AE ?_
     refine x_one (i:=13) (by kernel_rfl) rfl ?_
     refine AD rfl rfl (AR 4 (by decide) O130 (xs:=(([3]:List Int):List Int)) rfl rfl rfl rfl ⟨(vInt (show inI64 (3) from by decide)),trivial⟩ (by decide) (by decide) rfl fun g147 w148 O149 S150 h151=>?_)
     have hZ:=S150.lst [] (fun _ h=>h.elim)
     refine x_go [(14,[]),(27,[]),(29,[])] hZ (by kernel_rfl) ?_
     refine x_one (i:=14) (by kernel_rfl) rfl ?_
     refine AD rfl rfl ?_
     obtain ⟨q153,e154,hy141⟩:=bs hy141
     replace h38:=((((((((h38.st S48).st S51).st S56).st S80).st S99).st S102).st S107).st S131).st S150
     refine Cf (O:=O149) (A:=All w148) (R:=fun w' F v=>Vb w' F v q153) (Ke (fun _ h=>h) (Vb.mono (F:=Fr 0 w148 O149) h38 Fr.lt) (h151).all e154) rfl rfl fun v159 w155 O156 S157 h158=>?_
     obtain rfl:=h158.bool
     have hZ:=S157.lst [] (fun _ h=>h.elim)
     cases q153
     case false =>
      replace hy141:=iF hy141
      refine x_go [(27,[]),(29,[])] hZ (by kernel_rfl) ?_
      refine x_pre (fuel:=8) [] [(15,true),(16,true),(17,true),(18,true),(19,true),(20,true),(21,true),(22,true),(23,true),(24,true),(25,true),(26,true),(28,true)] (by kernel_rfl) rfl ?_
      refine h_pt rfl rfl rfl rfl (h_mv rfl rfl rfl (h_no rfl rfl rfl rfl rfl (h_no rfl rfl rfl rfl rfl (h_no rfl rfl rfl rfl rfl (h_pf rfl rfl rfl rfl (h_mv rfl rfl rfl (h_no rfl rfl rfl rfl rfl (h_no rfl rfl rfl rfl rfl (h_no rfl rfl rfl rfl rfl (h_pf rfl rfl rfl rfl (h_mv rfl rfl rfl (h_no rfl rfl rfl rfl rfl (AE ?_)))))))))))))
      refine x_one (i:=27) (by kernel_rfl) rfl ?_
      refine AC rfl rfl rfl rfl (x_go [(29,[])] ((St.refl nT _ _).lst [] (fun _ h=>h.elim)) (by kernel_rfl) ?_)
      refine x_one (i:=29) (by kernel_rfl) rfl ?_
      refine AC rfl rfl rfl rfl (x_go [] ((St.refl nT _ _).lst [] (fun _ h=>h.elim)) (by kernel_rfl) ?_)
      refine x_pre (fuel:=0) [] [(30,true),(31,true),(32,true),(33,true),(34,true),(35,true)] (by kernel_rfl) rfl ?_
      refine h_pf rfl rfl rfl rfl (h_mv rfl rfl rfl (h_no rfl rfl rfl rfl rfl (h_no rfl rfl rfl rfl rfl (h_pf rfl rfl rfl rfl (h_as rfl rfl rfl (AE ?_))))))
      refine x_nil (by kernel_rfl) ?_
      obtain rfl:=sm hy141
      replace hB:=(((((((((((hB.st S5).st S29).st S48).st S51).st S56).st S80).st S99).st S102).st S107).st S131).st S150).st S157
      exact ⟨(),_,⟨rfl,trivial⟩,hB⟩
     replace hy141:=iT hy141
     refine x_go [(27,[]),(29,[])] hZ (by kernel_rfl) ?_
     refine x_pre (fuel:=8) [] [(15,true),(16,true),(17,true),(18,true),(19,true),(20,true),(21,true),(22,true),(23,true),(24,true),(25,true),(26,true),(28,true)] (by kernel_rfl) rfl ?_
     refine h_pt rfl rfl rfl rfl (h_mv rfl rfl rfl (hwp_o rfl (AG rfl rfl (g_fa rfl rfl (hwp_o rfl (AG rfl rfl ?_))))))
     replace h49:=(h49.st S150).st S157
     refine g_ldC (hc:=fun w' ⟨O',hq⟩=>Blk.cell (i:=2) ((h49.st hq (by decide)).1) rfl) rfl rfl ?_
     refine hwp_o rfl (AG rfl rfl (Bi (fun _ _=>DZ rfl rfl) rfl (fun c160=>?_) (fun c160=>?_)))
     ·
      replace hy141:=ip hy141 c160
      refine h_pt rfl rfl rfl rfl (h_mv rfl rfl rfl (hwp_o rfl (AG rfl rfl (g_fa rfl rfl (hwp_o rfl (AG rfl rfl (g_ldC (hc:=fun w' ⟨O',hq⟩=>Blk.cell (i:=3) ((h49.st hq (by decide)).1) rfl) rfl rfl ?_)))))))
      refine hwp_o rfl (AG rfl rfl (Bi (fun _ _=>DZ rfl rfl) rfl (fun c161=>?_) (fun c161=>?_)))
      ·
       replace hy141:=ip hy141 c161
       refine h_pt rfl rfl rfl rfl (h_mv rfl rfl rfl (hwp_o rfl (AG rfl rfl ?_)))
       replace h100:=(((h100.st S107).st S131).st S150).st S157
       refine g_laB (hl:=rfl) (hb:=fun w' ⟨O',hq⟩=>((h100.st hq (by decide)).1).cellsAt) rfl rfl ?_
       refine AE ?_
       refine x_one (i:=27) (by kernel_rfl) rfl ?_
       refine AD rfl rfl ?_
       obtain ⟨q162,e163,hy141⟩:=bs hy141
       refine Cv (O:=O156) (R:=fun w' F v=>Vb w' F v q162) (DL Fr.lt  e163) rfl rfl fun v168 w164 O165 S166 h167=>?_
       obtain ⟨cs169,rfl,v170,v171,v172,v173,rfl,h174,h177,h180,h183⟩:=h167
       obtain ⟨A175,c176,rfl⟩:=h174.form
       obtain ⟨A178,c179,rfl⟩:=h177.form
       obtain ⟨A181,c182,rfl⟩:=h180.form
       obtain ⟨A184,c185,rfl⟩:=h183.form
       have hZ:=S166.lst [] (fun _ h=>h.elim)
       refine x_go [(29,[])] hZ (by kernel_rfl) ?_
       refine x_one (i:=29) (by kernel_rfl) rfl ?_
       refine AD rfl rfl ?_
       obtain ⟨q186,e187,hy141⟩:=bs hy141
       replace h89:=((((((h89.st S99).st S102).st S107).st S131).st S150).st S157).st S166
       refine Cf (O:=O165) (A:=All w164) (R:=fun w' F v=>Vb w' F v q186) (Jg (fun _ h=>h) (Vb.mono (F:=Fr 0 w164 O165) (Vb.ofAgg (cs:=[(.slice A175 q162.vars.length c176),(.slice A178 q162.init.length c179),(.slice A181 q162.goal.length c182),(.slice A184 q162.ops.length c185)]) (x:=q162) rfl ⟨_,_,_,_,rfl,h174,h177,h180,h183⟩) Fr.lt) (Vb.mono (F:=Fr 0 w164 O165) (Vb.ofAgg (cs:=[(.int .i64 q76.1.verdict),(.slice A90 q76.1.plan.length c91),(.int .i64 q76.1.cost),(.int .i64 q76.1.expanded)]) (x:=q76.1) rfl ⟨_,rfl,h89,r92,r93,r94⟩) Fr.lt) (show inI64 (3) from by decide) e187) rfl rfl fun v192 w188 O189 S190 h191=>?_
       obtain rfl:=h191.bool
       have hZ:=S190.lst [] (fun _ h=>h.elim)
       cases q186
       case false =>
        replace hy141:=iF hy141
        refine x_go [] hZ (by kernel_rfl) ?_
        refine x_pre (fuel:=0) [] [(30,true),(31,true),(32,true),(33,true),(34,true),(35,true)] (by kernel_rfl) rfl ?_
        refine h_pt rfl rfl rfl rfl (h_mv rfl rfl rfl (h_no rfl rfl rfl rfl rfl (h_no rfl rfl rfl rfl rfl (h_pf rfl rfl rfl rfl (h_as rfl rfl rfl (AE ?_))))))
        refine x_nil (by kernel_rfl) ?_
        obtain rfl:=sm hy141
        replace hB:=(((((((((((((hB.st S5).st S29).st S48).st S51).st S56).st S80).st S99).st S102).st S107).st S131).st S150).st S157).st S166).st S190
        exact ⟨(),_,⟨rfl,trivial⟩,hB⟩
       replace hy141:=iT hy141
       refine x_go [] hZ (by kernel_rfl) ?_
       refine x_pre (fuel:=0) [] [(30,true),(31,true),(32,true),(33,true),(34,true),(35,true)] (by kernel_rfl) rfl ?_
       refine h_pt rfl rfl rfl rfl (h_mv rfl rfl rfl (hwp_o rfl (AG rfl rfl (g_mv rfl rfl (hwp_o rfl (AG rfl rfl (Bi (fun _ _=>DZ rfl rfl) rfl (fun c193=>?_) (fun c193=>?_))))))))
       ·
        replace hy141:=ip hy141 c193
        refine h_pt rfl rfl rfl rfl (h_as rfl rfl rfl (AE ?_))
        refine x_nil (by kernel_rfl) ?_
        obtain rfl:=sm hy141
        replace hB:=(((((((((((((hB.st S5).st S29).st S48).st S51).st S56).st S80).st S99).st S102).st S107).st S131).st S150).st S157).st S166).st S190
        exact ⟨(),_,⟨rfl,trivial⟩,hB⟩
       ·
        replace hy141:=im hy141 c193
        refine h_pt rfl rfl rfl rfl (h_as rfl rfl rfl (AE ?_))
        refine x_nil (by kernel_rfl) ?_
        obtain rfl:=sm hy141
        replace hB:=(((((((((((((hB.st S5).st S29).st S48).st S51).st S56).st S80).st S99).st S102).st S107).st S131).st S150).st S157).st S166).st S190
        exact ⟨(),_,⟨rfl,trivial⟩,hB⟩
      ·
       replace hy141:=im hy141 c161
       refine h_pt rfl rfl rfl rfl (h_mv rfl rfl rfl (h_no rfl rfl rfl rfl rfl (AE ?_)))
       refine x_one (i:=27) (by kernel_rfl) rfl ?_
       refine AC rfl rfl rfl rfl (x_go [(29,[])] ((St.refl nT _ _).lst [] (fun _ h=>h.elim)) (by kernel_rfl) ?_)
       refine x_one (i:=29) (by kernel_rfl) rfl ?_
       refine AC rfl rfl rfl rfl (x_go [] ((St.refl nT _ _).lst [] (fun _ h=>h.elim)) (by kernel_rfl) ?_)
       refine x_pre (fuel:=0) [] [(30,true),(31,true),(32,true),(33,true),(34,true),(35,true)] (by kernel_rfl) rfl ?_
       refine h_pf rfl rfl rfl rfl (h_mv rfl rfl rfl (h_no rfl rfl rfl rfl rfl (h_no rfl rfl rfl rfl rfl (h_pf rfl rfl rfl rfl (h_as rfl rfl rfl (AE ?_))))))
       refine x_nil (by kernel_rfl) ?_
       obtain rfl:=sm hy141
       replace hB:=(((((((((((hB.st S5).st S29).st S48).st S51).st S56).st S80).st S99).st S102).st S107).st S131).st S150).st S157
       exact ⟨(),_,⟨rfl,trivial⟩,hB⟩
     ·
      replace hy141:=im hy141 c160
      refine h_pt rfl rfl rfl rfl (h_mv rfl rfl rfl (h_no rfl rfl rfl rfl rfl (h_no rfl rfl rfl rfl rfl (h_no rfl rfl rfl rfl rfl (h_pf rfl rfl rfl rfl (h_mv rfl rfl rfl (h_no rfl rfl rfl rfl rfl (AE ?_))))))))
      refine x_one (i:=27) (by kernel_rfl) rfl ?_
      refine AC rfl rfl rfl rfl (x_go [(29,[])] ((St.refl nT _ _).lst [] (fun _ h=>h.elim)) (by kernel_rfl) ?_)
      refine x_one (i:=29) (by kernel_rfl) rfl ?_
      refine AC rfl rfl rfl rfl (x_go [] ((St.refl nT _ _).lst [] (fun _ h=>h.elim)) (by kernel_rfl) ?_)
      refine x_pre (fuel:=0) [] [(30,true),(31,true),(32,true),(33,true),(34,true),(35,true)] (by kernel_rfl) rfl ?_
      refine h_pf rfl rfl rfl rfl (h_mv rfl rfl rfl (h_no rfl rfl rfl rfl rfl (h_no rfl rfl rfl rfl rfl (h_pf rfl rfl rfl rfl (h_as rfl rfl rfl (AE ?_))))))
      refine x_nil (by kernel_rfl) ?_
      obtain rfl:=sm hy141
      replace hB:=(((((((((((hB.st S5).st S29).st S48).st S51).st S56).st S80).st S99).st S102).st S107).st S131).st S150).st S157
      exact ⟨(),_,⟨rfl,trivial⟩,hB⟩
    ·
     replace hy141:=im hy141 c146
     refine h_pt rfl rfl rfl rfl (h_mv rfl rfl rfl (h_no rfl rfl rfl rfl rfl (h_no rfl rfl rfl rfl rfl (AE ?_))))
     refine x_one (i:=13) (by kernel_rfl) rfl ?_
     refine AC rfl rfl rfl rfl (x_go [(14,[]),(27,[]),(29,[])] ((St.refl nT _ _).lst [] (fun _ h=>h.elim)) (by kernel_rfl) ?_)
     refine x_one (i:=14) (by kernel_rfl) rfl ?_
     refine AC rfl rfl rfl rfl (x_go [(27,[]),(29,[])] ((St.refl nT _ _).lst [] (fun _ h=>h.elim)) (by kernel_rfl) ?_)
     refine x_pre (fuel:=8) [] [(15,true),(16,true),(17,true),(18,true),(19,true),(20,true),(21,true),(22,true),(23,true),(24,true),(25,true),(26,true),(28,true)] (by kernel_rfl) rfl ?_
     refine h_pf rfl rfl rfl rfl (h_mv rfl rfl rfl (h_no rfl rfl rfl rfl rfl (h_no rfl rfl rfl rfl rfl (h_no rfl rfl rfl rfl rfl (h_pf rfl rfl rfl rfl (h_mv rfl rfl rfl (h_no rfl rfl rfl rfl rfl (h_no rfl rfl rfl rfl rfl (h_no rfl rfl rfl rfl rfl (h_pf rfl rfl rfl rfl (h_mv rfl rfl rfl (h_no rfl rfl rfl rfl rfl (AE ?_)))))))))))))
     refine x_one (i:=27) (by kernel_rfl) rfl ?_
     refine AC rfl rfl rfl rfl (x_go [(29,[])] ((St.refl nT _ _).lst [] (fun _ h=>h.elim)) (by kernel_rfl) ?_)
     refine x_one (i:=29) (by kernel_rfl) rfl ?_
     refine AC rfl rfl rfl rfl (x_go [] ((St.refl nT _ _).lst [] (fun _ h=>h.elim)) (by kernel_rfl) ?_)
     refine x_pre (fuel:=0) [] [(30,true),(31,true),(32,true),(33,true),(34,true),(35,true)] (by kernel_rfl) rfl ?_
     refine h_pf rfl rfl rfl rfl (h_mv rfl rfl rfl (h_no rfl rfl rfl rfl rfl (h_no rfl rfl rfl rfl rfl (h_pf rfl rfl rfl rfl (h_as rfl rfl rfl (AE ?_))))))
     refine x_nil (by kernel_rfl) ?_
     obtain rfl:=sm hy141
     replace hB:=(((((((((hB.st S5).st S29).st S48).st S51).st S56).st S80).st S99).st S102).st S107).st S131
     exact ⟨(),_,⟨rfl,trivial⟩,hB⟩
   ·
    replace hy141:=im hy141 c145
    refine h_pt rfl rfl rfl rfl (h_mv rfl rfl rfl (h_no rfl rfl rfl rfl rfl (h_no rfl rfl rfl rfl rfl (h_pf rfl rfl rfl rfl (h_mv rfl rfl rfl (h_no rfl rfl rfl rfl rfl (h_no rfl rfl rfl rfl rfl (AE ?_))))))))
    refine x_one (i:=13) (by kernel_rfl) rfl ?_
    refine AC rfl rfl rfl rfl (x_go [(14,[]),(27,[]),(29,[])] ((St.refl nT _ _).lst [] (fun _ h=>h.elim)) (by kernel_rfl) ?_)
    refine x_one (i:=14) (by kernel_rfl) rfl ?_
    refine AC rfl rfl rfl rfl (x_go [(27,[]),(29,[])] ((St.refl nT _ _).lst [] (fun _ h=>h.elim)) (by kernel_rfl) ?_)
    refine x_pre (fuel:=8) [] [(15,true),(16,true),(17,true),(18,true),(19,true),(20,true),(21,true),(22,true),(23,true),(24,true),(25,true),(26,true),(28,true)] (by kernel_rfl) rfl ?_
    refine h_pf rfl rfl rfl rfl (h_mv rfl rfl rfl (h_no rfl rfl rfl rfl rfl (h_no rfl rfl rfl rfl rfl (h_no rfl rfl rfl rfl rfl (h_pf rfl rfl rfl rfl (h_mv rfl rfl rfl (h_no rfl rfl rfl rfl rfl (h_no rfl rfl rfl rfl rfl (h_no rfl rfl rfl rfl rfl (h_pf rfl rfl rfl rfl (h_mv rfl rfl rfl (h_no rfl rfl rfl rfl rfl (AE ?_)))))))))))))
    refine x_one (i:=27) (by kernel_rfl) rfl ?_
    refine AC rfl rfl rfl rfl (x_go [(29,[])] ((St.refl nT _ _).lst [] (fun _ h=>h.elim)) (by kernel_rfl) ?_)
    refine x_one (i:=29) (by kernel_rfl) rfl ?_
    refine AC rfl rfl rfl rfl (x_go [] ((St.refl nT _ _).lst [] (fun _ h=>h.elim)) (by kernel_rfl) ?_)
    refine x_pre (fuel:=0) [] [(30,true),(31,true),(32,true),(33,true),(34,true),(35,true)] (by kernel_rfl) rfl ?_
    refine h_pf rfl rfl rfl rfl (h_mv rfl rfl rfl (h_no rfl rfl rfl rfl rfl (h_no rfl rfl rfl rfl rfl (h_pf rfl rfl rfl rfl (h_as rfl rfl rfl (AE ?_))))))
    refine x_nil (by kernel_rfl) ?_
    obtain rfl:=sm hy141
    replace hB:=(((((((((hB.st S5).st S29).st S48).st S51).st S56).st S80).st S99).st S102).st S107).st S131
    exact ⟨(),_,⟨rfl,trivial⟩,hB⟩
  ·
   replace hy141:=im hy141 c144
   refine h_mv rfl rfl rfl (h_no rfl rfl rfl rfl rfl (h_no rfl rfl rfl rfl rfl (h_pf rfl rfl rfl rfl (h_mv rfl rfl rfl (h_no rfl rfl rfl rfl rfl (h_no rfl rfl rfl rfl rfl (h_pf rfl rfl rfl rfl (h_mv rfl rfl rfl (h_no rfl rfl rfl rfl rfl (h_no rfl rfl rfl rfl rfl (AE ?_)))))))))))
   refine x_one (i:=13) (by kernel_rfl) rfl ?_
   refine AC rfl rfl rfl rfl (x_go [(14,[]),(27,[]),(29,[])] ((St.refl nT _ _).lst [] (fun _ h=>h.elim)) (by kernel_rfl) ?_)
   refine x_one (i:=14) (by kernel_rfl) rfl ?_
   refine AC rfl rfl rfl rfl (x_go [(27,[]),(29,[])] ((St.refl nT _ _).lst [] (fun _ h=>h.elim)) (by kernel_rfl) ?_)
   refine x_pre (fuel:=8) [] [(15,true),(16,true),(17,true),(18,true),(19,true),(20,true),(21,true),(22,true),(23,true),(24,true),(25,true),(26,true),(28,true)] (by kernel_rfl) rfl ?_
   refine h_pf rfl rfl rfl rfl (h_mv rfl rfl rfl (h_no rfl rfl rfl rfl rfl (h_no rfl rfl rfl rfl rfl (h_no rfl rfl rfl rfl rfl (h_pf rfl rfl rfl rfl (h_mv rfl rfl rfl (h_no rfl rfl rfl rfl rfl (h_no rfl rfl rfl rfl rfl (h_no rfl rfl rfl rfl rfl (h_pf rfl rfl rfl rfl (h_mv rfl rfl rfl (h_no rfl rfl rfl rfl rfl (AE ?_)))))))))))))
   refine x_one (i:=27) (by kernel_rfl) rfl ?_
   refine AC rfl rfl rfl rfl (x_go [(29,[])] ((St.refl nT _ _).lst [] (fun _ h=>h.elim)) (by kernel_rfl) ?_)
   refine x_one (i:=29) (by kernel_rfl) rfl ?_
   refine AC rfl rfl rfl rfl (x_go [] ((St.refl nT _ _).lst [] (fun _ h=>h.elim)) (by kernel_rfl) ?_)
   refine x_pre (fuel:=0) [] [(30,true),(31,true),(32,true),(33,true),(34,true),(35,true)] (by kernel_rfl) rfl ?_
   refine h_pf rfl rfl rfl rfl (h_mv rfl rfl rfl (h_no rfl rfl rfl rfl rfl (h_no rfl rfl rfl rfl rfl (h_pf rfl rfl rfl rfl (h_as rfl rfl rfl (AE ?_))))))
   refine x_nil (by kernel_rfl) ?_
   obtain rfl:=sm hy141
   replace hB:=(((((((((hB.st S5).st S29).st S48).st S51).st S56).st S80).st S99).st S102).st S107).st S131
   exact ⟨(),_,⟨rfl,trivial⟩,hB⟩
 replace hB:=(((((((((hB.st S5).st S29).st S48).st S51).st S56).st S80).st S99).st S102).st S107).st S131
 rintro l194 w195 ⟨x143,O196,hs197,hB⟩
 refine AW _ hs197 ?_
 refine At ?_
 obtain rfl:=sm hm
 exact ret1v rfl (AF rfl) ⟨hB.ext,vBool⟩
end
section
open Go Go.RowKit
theorem HS {t:Tsk} (hok:TaskOk t):∃ reg,BB t=some (some ⟨t,reg,some ⟨t⟩⟩,⟨0⟩)∧RegI t.vars reg [t.init]∧links reg=[⟨-1,-1,0⟩]:=by
  obtain ⟨rr,n1,reg,rfl,n2,n3⟩:=Lz hok.1 hok.2.2.1
  rcases FM hok.1 n2 hok.2.2.2.1 (by simp) with ⟨i,hi,_⟩|⟨_,r',hadd,hr',hlk⟩
  · simp at hi
  refine ⟨r',?_,hr',by rw [hlk,n3];rfl⟩
  unfold BB
  rw [LG hok,Az,if_neg (by simp),n1,Az,if_neg (by simp),Az,hadd,Az,if_neg (by simp)]
structure SR (t:Tsk) (lp:LP) (x:Spc):Prop where
  tt:x.t=t
  gen:x.gen=some ⟨t⟩
  reg:RegI t.vars x.reg lp.1
  path:∀ (j:Nat) p,lp.2[j]?=some p→PathL (links x.reg) j p
theorem PathL.pre {lk lk':List RLk} (hp:∃ A,lk'=lk ++ A) {j:Nat} {p:List Int} (h:PathL lk j p):PathL lk' j p:=by
  induction h with
  | root h1 h2=>exact .root (Cg hp h1) h2
  | step h1 h2 _ ih=>exact .step (Cg hp h1) h2 ih
theorem Hm {vars:List Int} {r:Reg} {L:List (List Int)} (h:RegI vars r L):(links r).length=L.length:=by unfold links;rw [List.length_map,h.len]
theorem Hn {t:Tsk} {s:List Int} {k:Nat}:∀ {n j:Nat},(appN t s n)[j]?=some k→(appN t s n).take j=appN t s k∧appB t s k=true
  | 0,j,h=>by simp [appN] at h
  | n + 1,j,h=>by
    have e:appN t s (n + 1)=appN t s n ++ if appB t s n=true then [n] else []:=by
      unfold appN
      rw [List.range_succ,List.filter_append]
      by_cases h:appB t s n=true<;>simp [h]
    rw [e] at h ⊢
    by_cases hj:j < (appN t s n).length
    · rw [List.getElem?_append_left hj] at h
      rw [List.take_append_of_le_length (by omega)]
      exact Hn h
    · rw [List.getElem?_append_right (by omega)] at h
      by_cases ha:appB t s n=true
      · rw [if_pos ha] at h ⊢
        have h0:j - (appN t s n).length=0:=by have:=AK h;simp at this;omega
        rw [h0] at h
        have hk:n=k:=by simpa using h
        subst hk
        have hj2:j=(appN t s n).length:=by omega
        rw [hj2]
        exact ⟨by simp,ha⟩
      · rw [if_neg ha] at h;simp at h
noncomputable def innF (id:Int) (s171:Spc) (a174:Suc):Option (Ctl Spc (Ctl (Int×Spc) (Rsl×Err))):=bnd (AU s171.reg a174.state) fun q232=>if q232.2.2.1.n≠0 then (bnd (chkI (id + 1)) fun n249=>bnd (AZ 3 n249) fun q252=>some (.ret (.ret (q252.1,(⟨q252.2.n⟩:Err))))) else (if q232.2.1=true then (bnd (Bc q232.2.2.2 q232.1 id a174.op 0) fun q275=>if q275.1.n≠0 then (some (.ret (.ret ((⟨0,([]:List Int),0,0⟩:Rsl),(⟨q275.1.n⟩:Err))))) else (some (.next (⟨(⟨s171.t.vars,s171.t.init,s171.t.goal,s171.t.ops⟩:Tsk),q275.2,s171.gen⟩:Spc)))) else (some (.next (⟨(⟨s171.t.vars,s171.t.init,s171.t.goal,s171.t.ops⟩:Tsk),q232.2.2.2,s171.gen⟩:Spc))))
theorem ND {t:Tsk} (hs:Few t) {i:Nat} {lp:LP} {s p:List Int} (h:BI t i lp) (his:lp.1[i]?=some s) (hip:lp.2[i]?=some p) {k:Nat} (hk:appB t s k=true) {x:Spc} (hx:SR t (expN t s i k lp) x):∃ x',innF (i:Int) x ⟨(k:Int),sucN t s k⟩=some (.next x')∧SR t (addK t s i (expN t s i k lp) k) x':=by
  have hJ:=h.part his hip k
  have hi1:=Cg hJ.pre1 his
  have hi2:=Cg hJ.pre2 hip
  obtain ⟨o,ho,hpre,hsuc⟩:=FO hk
  have hsok:StateOk t.vars (sucN t s k):=by rw [hsuc];exact Hz hs.ok ((h.rch his).ok hs.ok) ho
  have hfew:(expN t s i k lp).1.length≤512:=by
    refine Nat.le_trans (Db hJ.nodup fun s' hm=>?_) hs.many
    obtain ⟨j,hj⟩:=List.getElem?_of_mem hm
    exact ER.2 (hx.reg.st j s' hj)
  unfold innF
  dsimp only
  unfold addK
  rcases FM hs.ok.1 hx.reg hsok (by omega) with ⟨j,hj,hadd⟩|⟨hno,r',hadd,hr',hlk⟩
  · rw [if_pos (List.mem_of_getElem? hj),hadd,Az,if_neg (by simp)]
    dsimp only
    rw [if_f]
    exact ⟨_,rfl,hx⟩
  · have hnm:¬ sucN t s k∈(expN t s i k lp).1:=fun hm=>by
      obtain ⟨j,hj⟩:=List.getElem?_of_mem hm
      exact hno j hj
    have hil:=AK hi1
    obtain ⟨r'',s1,s2,s3⟩:=Gx hr' (i:=(expN t s i k lp).1.length) (by simp) (p:=(i:Int)) (o:=(k:Int)) (c:=0) (.inr ⟨i,rfl,by simp;omega⟩)
    rw [if_neg hnm,hadd,Az,if_neg (by simp)]
    dsimp only
    rw [if_t,s1,Az,if_neg (by simp)]
    have hl2:links r''=links x.reg ++ [⟨(i:Int),(k:Int),0⟩]:=by
      rw [s3,hlk,← Hm hx.reg];simp
    refine ⟨_,rfl,hx.tt,hx.gen,s2,fun j q hq=>?_⟩
    dsimp only at hq ⊢
    rw [hl2]
    rcases Ca hq with hq|⟨rfl,rfl⟩
    · exact (hx.path j q hq).pre ⟨_,rfl⟩
    · rw [hi2,Option.getD_some]
      refine PathL.step (j:=i) (k:=⟨(i:Int),(k:Int),0⟩) ?_ rfl ((hx.path i p hi2).pre ⟨_,rfl⟩)
      rw [hJ.len,← Hm hx.reg];simp
theorem LJ {t:Tsk} (h:TaskOk t) {s p s':List Int} {C:Int} (hr:PlanR t s p s' C):∀ (j:Nat) (c:Int),0≤c→c + p.length * 1048576≤1000000000000000 →
    rng (ρ:=Rsl×Err) (fun (_:Nat) (a78:Int) (s75:Int)=>bnd (atI t.ops a78) fun a125=>bnd (chkI (s75 + a125.cost)) fun n146=>some (.next n146)) p j c=some (.done (c + C)):=by
  induction hr with
  | nil=>intro j c _ _;simp [rng]
  | @cons s rest s' k o C ho hp hr ih =>
    intro j c hc hb
    simp only [List.length_cons] at hb
    have hoo:=h.2.2.2.2.2 k o ho
    have h1:=hoo.1
    have h2:=hoo.2.1
    have e2:(bnd (atI t.ops (k:Int)) fun a125=>bnd (chkI (c + a125.cost)) fun n146=>some (Ctl.next (ρ:=Rsl×Err) n146))=some (.next (c + o.cost)):=by
      rw [BH,ho,Az,Bw (by unfold inI64;omega),Az]
    simp only [rng,e2]
    rw [ih (j + 1) (c + o.cost) (by omega) (by omega),Int.add_assoc]
theorem LK {t:Tsk} (hs:Few t) {lp:LP} {x:Spc} (hx:SR t lp x) (hl:lp.1.length≤512) {i:Nat} {s p:List Int} {C e:Int} (hp:lp.2[i]?=some p) (hpl:p.length≤lp.1.length) (hC:PlanR t t.init p s C):Bd x (i:Int) e=some (⟨1,p,C,e⟩,⟨0⟩):=by
  unfold Bd
  rw [KA hx.reg (by omega) (hx.path i p hp) hpl,Az,if_neg (by simp),hx.tt,LJ hs.ok hC 0 0 (by omega) (by omega),Az,fin_d,Int.zero_add]
noncomputable def schF (x0:Tsk) (x1:Int):Int×Spc→Option (Ctl (Int×Spc) (Rsl×Err)):=fun s50=>bnd (AM s50.2.reg) fun q94=>if s50.1 < q94 then (bnd (AY s50.2.reg s50.1) fun q105=>if q105.2.n≠0 then (some (.ret ((⟨0,([]:List Int),0,0⟩:Rsl),(⟨q105.2.n⟩:Err)))) else (bnd (Cq x0.goal q105.1) fun q123=>if q123=true then bnd (Bd s50.2 s50.1 s50.1) fun q312=>some (.ret (q312.1,(⟨q312.2.n⟩:Err))) else if x1≤s50.1 then (bnd (AZ 3 s50.1) fun q131=>some (.ret (q131.1,(⟨q131.2.n⟩:Err)))) else (bnd (AS s50.2.gen q105.1) fun q153=>bnd (rng (ρ:=Ctl (Int×Spc) (Rsl×Err)) (fun (_:Nat) (a174:Suc) (s171:Spc)=>innF s50.1 s171 a174) q153 0 s50.2) fun res169=>fin res169 fun (s302:Spc)=>bnd (chkI (s50.1 + 1)) fun n304=>some (.next (n304,s302))))) else (some (.brk (s50.1,s50.2)))
noncomputable def schE:Fin (Int×Spc) (Rsl×Err)→Option (Rsl×Err):=fun res48=>fin res48 fun (s344:Int×Spc)=>bnd (AM s344.2.reg) fun q373=>bnd (AZ 2 q373) fun q383=>some (q383.1,(⟨q383.2.n⟩:Err))
theorem MO (t:Tsk) (lim:Int):BP t lim=bnd (BB t) fun q30=>if q30.2.n≠0 then (some ((⟨0,([]:List Int),0,0⟩:Rsl),(⟨q30.2.n⟩:Err))) else (bnd q30.1 fun o45=>bnd (lop (schF t lim) (0,o45)) schE):=rfl
theorem Ho {t:Tsk} {s:List Int} (h:TaskOk t) (hs:StateOk t.vars s):s.length≤1000000:=by have:=hs.1;have:=h.1;omega
theorem NE {t:Tsk} (hs:Few t) {i:Nat} {lp:LP} {s p:List Int} (h:BI t i lp) (his:lp.1[i]?=some s) (hip:lp.2[i]?=some p) {x:Spc} (hx:SR t lp x):∃ x',rng (ρ:=Ctl (Int×Spc) (Rsl×Err)) (fun (_:Nat) (a174:Suc) (s171:Spc)=>innF (i:Int) s171 a174) ((appS t s).map (sucOf t s)) 0 x=some (.done x')∧SR t (expN t s i t.ops.length lp) x':=by
  have hsok:=(h.rch his).ok hs.ok
  have hap:(appS t s).map (sucOf t s)=(appN t s t.ops.length).map fun k:Nat=>(⟨(k:Int),sucN t s k⟩:Suc):=by
    rw [EN hsok,JQ,List.map_map];rfl
  rw [hap]
  obtain ⟨x',h1,h2⟩:=Ge (ρ:=Ctl (Int×Spc) (Rsl×Err)) (f:=fun (_:Nat) (a174:Suc) (s171:Spc)=>innF (i:Int) s171 a174) (xs:=(appN t s t.ops.length).map fun k:Nat=>(⟨(k:Int),sucN t s k⟩:Suc)) (s₀:=x) (fun j y=>SR t (((appN t s t.ops.length).take j).foldl (addK t s i) lp) y) (by simpa using hx) (fun j a y hj hy=>by
    rw [List.getElem?_map] at hj
    obtain ⟨k,hk,rfl⟩:=Option.map_eq_some_iff.1 hj
    obtain ⟨t1,t2⟩:=Hn hk
    rw [t1] at hy
    obtain ⟨y',e1,e2⟩:=ND hs h his hip t2 (x:=y) hy
    refine ⟨y',e1,?_⟩
    rw [List.take_add_one,hk,List.foldl_append,t1]
    exact e2)
  refine ⟨x',h1,?_⟩
  rw [List.length_map,List.take_length] at h2
  exact h2
theorem Mi {t:Tsk} (hs:Few t) {lim:Int} {i:Nat} {lp:LP} {r:Rsl} (hb:Bfs t lim i lp r):∀ x,BI t i lp→SR t lp x→bnd (lop (schF t lim) ((i:Int),x)) schE=some (r,⟨0⟩):=by
  have hok:=hs.ok
  induction hb with
  | @none i lp he =>
    intro x h hx
    have:schF t lim ((i:Int),x)=some (.brk ((i:Int),x)):=by
      unfold schF AM
      dsimp only
      rw [Az,hx.reg.len,if_neg (by omega)]
    rw [Cw,this,Az]
    unfold schE AM AZ
    rw [fin_d,Az,Az,hx.reg.len]
  | @goal i lp s p C hsi hpi hg hC =>
    intro x h hx
    have hf:=h.few hs
    have hil:=AK hsi
    have:schF t lim ((i:Int),x)=some (.ret (⟨1,p,C,(i:Int)⟩,⟨0⟩)):=by
      unfold schF AM
      dsimp only
      rw [Az,hx.reg.len,if_pos (by omega),Ef hok.1 hx.reg hsi,Az,if_neg (by simp),FL,Az,if_pos hg,LK hs hx hf hpi (by have:=(h.pl i s p hsi hpi).2;omega) hC,Az]
    rw [Cw,this,Az]
    rfl
  | @full i lp s hsi hg hl =>
    intro x h hx
    have hil:=AK hsi
    have:schF t lim ((i:Int),x)=some (.ret (⟨3,[],0,(i:Int)⟩,⟨0⟩)):=by
      unfold schF AM AZ
      dsimp only
      rw [Az,hx.reg.len,if_pos (by omega),Ef hok.1 hx.reg hsi,Az,if_neg (by simp),FL,Az,hg,if_f,if_pos hl,Az]
    rw [Cw,this,Az]
    rfl
  | @step i lp s r hsi hg hl hb ih =>
    intro x h hx
    have hf:=h.few hs
    have hil:=AK hsi
    obtain ⟨p,hpi⟩:=AH (l:=lp.2) (k:=i) (by rw [h.len];exact hil)
    obtain ⟨x',e1,e2⟩:=NE hs h hsi hpi hx
    have:schF t lim ((i:Int),x)=some (.next (((i + 1:Nat):Int),x')):=by
      unfold schF AM
      dsimp only
      rw [Az,hx.reg.len,if_pos (by omega),Ef hok.1 hx.reg hsi,Az,if_neg (by simp),FL,Az,hg,if_f,if_neg (by omega),hx.gen,IF hok (Ho hok ((h.rch hsi).ok hok)),Az,e1,Az,fin_d,Bw (by unfold inI64;omega),Az]
      rfl
    rw [Cw,this]
    exact ih x' (h.next hsi hpi) e2
theorem Lg {t:Tsk} (hs:Few t) (lim:Int):∃ r,BP t lim=some (r,⟨0⟩)∧Bfs t lim 0 ([t.init],[[]]) r:=by
  obtain ⟨r,hr⟩:=Mh hs lim 513 0 ([t.init],[[]]) (by omega) (by simp) (Gg t)
  obtain ⟨reg,b1,b2,b3⟩:=HS hs.ok
  refine ⟨r,?_,hr⟩
  rw [MO,b1,Az,if_neg (by simp),Az]
  refine Mi hs hr _ (Gg t) ⟨rfl,rfl,b2,fun j p hj=>?_⟩
  have:j=0∧p=[]:=by
    cases j with
    | zero=>simp at hj;exact ⟨rfl,hj⟩
    | succ j=>simp at hj
  obtain ⟨rfl,rfl⟩:=this
  dsimp only
  rw [b3]
  exact .root rfl (by decide)
end
section
open Go Go.RowKit
theorem Rch.plan {t:Tsk} {s:List Int} (h:Rch t s):∃ p C,PlanR t t.init p s C:=by
  induction h with
  | init=>exact ⟨[],0,.nil⟩
  | step _ ho hp ih=>obtain ⟨p,C,h⟩:=ih;exact ⟨_,_,h.snoc ho hp⟩
structure SQ (t:Tsk) (L:List (List Int)) (x:Spc):Prop where
  tt:x.t=t
  gen:x.gen=some ⟨t⟩
  reg:RegI t.vars x.reg L
theorem Iu:∀ (l:List (List Int)) (bs:List Bool),(marked l bs).Sublist l
  | [],bs=>by simp [marked]
  | s :: l,[]=>by simp [marked]
  | s :: l,b :: bs=>by
    have ih:=Iu l bs
    simp only [marked]
    split
    · exact ih.cons_cons s
    · exact ih.cons s
theorem Fo:∀ {l:List (List Int)} {bs:List Bool} {s:List Int},s∈marked l bs→∃ i:Nat,l[i]?=some s∧bs[i]?=some true
  | [],bs,s,h=>by simp [marked] at h
  | s :: l,[],s',h=>by simp [marked] at h
  | s :: l,b :: bs,s',h=>by
    simp only [marked] at h
    by_cases hb:b=true
    · rw [if_pos hb] at h
      rcases List.mem_cons.1 h with rfl|h
      · exact ⟨0,rfl,by simp [hb]⟩
      · obtain ⟨i,h1,h2⟩:=Fo h;exact ⟨i + 1,by simpa using h1,by simpa using h2⟩
    · rw [if_neg hb] at h
      obtain ⟨i,h1,h2⟩:=Fo h;exact ⟨i + 1,by simpa using h1,by simpa using h2⟩
end
section
open Go Go.RowKit
def Le {α:Type} (x y:Option α):Prop:=∀ r,x=some r→y=some r
theorem Le.rf {α:Type} {x:Option α}:Le x x:=fun _ h=>h
theorem Le.bnd {α β:Type} {x x':Option α} {f f':α→Option β} (h:Le x x') (hf:∀ a,Le (f a) (f' a)):Le (bnd x f) (bnd x' f'):=fun r hr=>by
  obtain ⟨a,ha,hb⟩:=bs hr
  rw [h a ha,Az]
  exact hf a r hb
theorem Le.ite {α:Type} {p:Prop} [Decidable p] {x x' y y':Option α} (h:Le x x') (k:Le y y'):Le (if p then x else y) (if p then x' else y'):=by
  by_cases hp:p
  · rw [if_pos hp,if_pos hp];exact h
  · rw [if_neg hp,if_neg hp];exact k
theorem Le.fin {σ κ:Type} {y:Fin σ κ} {f f':σ→Option κ} (hf:∀ a,Le (f a) (f' a)):Le (fin y f) (fin y f'):=by
  cases y with
  | done s=>exact hf s
  | ret c=>exact Le.rf
theorem Le.rng {α σ ρ:Type} {f f':Nat→α→σ→Option (Ctl σ ρ)} (hf:∀ k a s,Le (f k a s) (f' k a s)):∀ {xs:List α} {k:Nat} {s:σ},Le (rng f xs k s) (rng f' xs k s)
  | [],_,_=>Le.rf
  | x :: xs,k,s=>fun r hr=>by
    simp only [Proofs.Ythomfnkaicjmbaa.rng] at hr ⊢
    cases hc:f k x s with
    | none=>rw [hc] at hr;cases hr
    | some c =>
      rw [hc] at hr
      rw [hf k x s c hc]
      cases c with
      | next s'=>exact Le.rng hf r hr
      | brk s'=>exact hr
      | ret q=>exact hr
theorem Le.rngN {σ ρ:Type} {f f':Nat→σ→Option (Ctl σ ρ)} {n:Nat} {s:σ} (hf:∀ k s,Le (f k s) (f' k s)):Le (rngN f n s) (rngN f' n s):=Le.rng fun _ k s=>hf k s
theorem Le.itr {σ ρ:Type} {f f':σ→Option (Ctl σ ρ)} (hf:∀ s,Le (f s) (f' s)):∀ (n:Nat) (s:σ),Le (itr f n s) (itr f' n s)
  | 0,_=>Le.rf
  | n + 1,s=>fun r hr=>by
    simp only [Proofs.Ythomfnkaicjmbaa.itr] at hr ⊢
    cases hc:f s with
    | none=>rw [hc] at hr;cases hr
    | some c =>
      rw [hc] at hr
      rw [hf s c hc]
      cases c with
      | next s'=>exact Le.itr hf n s' r hr
      | brk s'=>exact hr
      | ret q=>exact hr
def lopE {σ ρ:Type} (f:σ→Option (Ctl σ ρ)) (s:σ):Option (Fin σ ρ):=itr f 600 s
theorem Le.lop {σ ρ:Type} {f f':σ→Option (Ctl σ ρ)} {s:σ} (hf:∀ s,Le (f s) (f' s)):Le (lopE f s) (lop f' s):=fun r hr=>Gq.2 ⟨600,Le.itr hf 600 s r hr⟩
end
section
open Go Go.RowKit
def factB (vars:List Int) (x:Fct):Bool:=decide (0≤x.var) && (decide (0≤x.val) && (match vars[x.var.toNat]? with|some y=>decide (x.val < y)|none=>false))
theorem JU {vars:List Int} {x:Fct} (h:factB vars x=true):FactOk vars x:=by
  unfold factB at h
  simp only [Bool.and_eq_true,decide_eq_true_eq] at h
  obtain ⟨h1,h2,h3⟩:=h
  cases hv:vars[x.var.toNat]? with
  | none=>rw [hv] at h3;cases h3
  | some y=>rw [hv] at h3;exact ⟨h1,h2,y,hv,by simpa using h3⟩
def ascB:List Fct→Bool
  | x :: y :: r=>decide (x.var < y.var) && ascB (y :: r)
  | _=>true
theorem KJ:∀ {f:List Fct},ascB f=true→∀ (i:Nat) x y,f[i]?=some x→f[i + 1]?=some y→x.var < y.var
  | [],_,i,x,y,h,_=>by simp at h
  | [_],_,i,x,y,_,h=>by simp at h
  | a :: b :: r,h,i,x,y,h1,h2=>by
    simp only [ascB,Bool.and_eq_true,decide_eq_true_eq] at h
    cases i with
    | zero=>simp at h1 h2;subst h1;subst h2;exact h.1
    | succ i=>exact KJ h.2 i x y (by simpa using h1) (by simpa using h2)
def factsB (vars:List Int) (f:List Fct):Bool:=f.all (factB vars) && ascB f
theorem Hp {vars:List Int} {f:List Fct} (h:factsB vars f=true):FactsOk vars f:=by
  unfold factsB at h
  rw [Bool.and_eq_true,List.all_eq_true] at h
  exact ⟨fun i x hx=>JU (h.1 x (List.mem_of_getElem? hx)),KJ h.2⟩
def stateB:List Int→List Int→Bool
  | [],[]=>true
  | y :: vars,x :: s=>decide (0≤x) && (decide (x < y) && stateB vars s)
  | _,_=>false
theorem Hq:∀ {vars s:List Int},stateB vars s=true→StateOk vars s
  | [],[],_=>⟨rfl,fun i x y h=>by simp at h⟩
  | y :: vars,x :: s,h=>by
    simp only [stateB,Bool.and_eq_true,decide_eq_true_eq] at h
    obtain ⟨h1,h2⟩:=Hq h.2.2
    refine ⟨by simp [h1],fun i a b ha hb=>?_⟩
    cases i with
    | zero=>simp at ha hb;subst ha;subst hb;exact ⟨h.1,h.2.1⟩
    | succ i=>exact h2 i a b (by simpa using ha) (by simpa using hb)
  | [],_ :: _,h=>by simp [stateB] at h
  | _ :: _,[],h=>by simp [stateB] at h
def nameB (s:ByteArray):Bool:=decide (s.size≤256) && s.data.toList.all fun c=>decide (32≤c.toNat) && decide (c.toNat≤126)
theorem Mj {s:ByteArray} (h:nameB s=true):NameOk s:=by
  unfold nameB at h
  simp only [Bool.and_eq_true,decide_eq_true_eq,List.all_eq_true] at h
  refine ⟨h.1,fun i hi=>h.2 _ ?_⟩
  show s.data[i]∈_
  simp
def opB (vars:List Int) (o:Opr):Bool:=decide (0≤o.cost) && (decide (o.cost≤1048576) && (decide (o.effs.length≤64) && (nameB o.name && (factsB vars o.pre && o.effs.all fun e=>factsB vars e.cond && factB vars ⟨e.var,e.val⟩))))
theorem NF {vars:List Int} {o:Opr} (h:opB vars o=true):OpOk vars o:=by
  unfold opB at h
  simp only [Bool.and_eq_true,decide_eq_true_eq,List.all_eq_true] at h
  obtain ⟨h1,h2,h3,h4,h5,h6⟩:=h
  exact ⟨h1,h2,h3,Mj h4,Hp h5,fun i e he=>⟨Hp (h6 e (List.mem_of_getElem? he)).1,JU (h6 e (List.mem_of_getElem? he)).2⟩⟩
def taskB (t:Tsk):Bool:=decide (t.vars.length≤64) && (decide (t.ops.length≤4096) && ((t.vars.all fun n=>decide (1≤n) && decide (n≤64)) && (stateB t.vars t.init && (factsB t.vars t.goal && t.ops.all (opB t.vars)))))
theorem JV {t:Tsk} (h:taskB t=true):TaskOk t:=by
  unfold taskB at h
  simp only [Bool.and_eq_true,decide_eq_true_eq,List.all_eq_true] at h
  obtain ⟨h1,h2,h3,h4,h5,h6⟩:=h
  exact ⟨h1,h2,fun i n hn=>h3 n (List.mem_of_getElem? hn),Hq h4,Hp h5,fun i o ho=>NF (h6 o (List.mem_of_getElem? ho))⟩
def FU (x y:List Int):Option Bool:=some (decide (x=y))
theorem JW (x y:List Int):Le (FU x y) (EQ x y):=fun r h=>by
  unfold FU at h
  unfold EQ
  rw [← h]
  by_cases hx:x=y
  · rw [bof_t hx];simp [hx]
  · rw [bof_f hx];simp [hx]
def EC (f:List Fct) (s:List Int):Option Bool:=Cq f s
theorem Ff (f:List Fct) (s:List Int):Le (EC f s) (Cq f s):=Le.rf
def ED (f:List Fct) (s:List Int):Option Bool:=Dm f s
theorem GO (f:List Fct) (s:List Int):Le (ED f s) (Dm f s):=Le.rf
def DV (x:List Int):Option (List Int):=Cm x
theorem FC (x:List Int):Le (DV x) (Cm x):=Le.rf
end
end Go.Proofs.Ythomfnkaicjmbaa

/- Own text: what the proof of breadthAgrees_holds uses, part 3: rules, models and their proofs, plain laws. -/
import Derived.Test.YthomfnkaicjmbaaPAgrB
set_option linter.unusedVariables false
set_option linter.unusedSimpArgs false
namespace Go.Proofs.Ythomfnkaicjmbaa
open Go Go.RowKit
section
open Go Go.RowKit
attribute [local irreducible] ewp owp hwp hwq hws Ev Evg Fn retPost loud loudS Res1
attribute [local irreducible] hwx loudX
def BU (xs:List U64):Option (List U64):=if xs.length * 8≤140737488355328∧xs.length≤9223372036854775807 then some xs else none
theorem EM {w:World} {A:Nat→Prop} (hA:∀ k,A k→k < w.heap.size) {v0:Value} {x0:List U64} (h0:Vb w A v0 x0) {r:List U64} (hm:BU x0=some r) :
    Fn Try.prog 75 [v0] w fun v w'=>Ext w w'∧RowR w w' (upA A w w') 150 v r:=by
  obtain ⟨⟨hl,hl2⟩,rfl⟩:=Fz hm
  obtain ⟨O,hB,hA0⟩:=enter hA
  replace h0:=h0.mono hA0
  obtain ⟨Ad,c,rfl⟩:=h0.form
  refine AL Try.func75 rfl Try.ntmps75 rfl ?_
  cases Ad with
  | none =>
    have hx:x0=[]:=by
      cases x0 with
      | nil=>rfl
      | cons x xs=>obtain ⟨_,_,_,h,_⟩:=h0.elem (k:=0) (x:=x) rfl;cases h
    subst hx
    ((repeat (first|refine Ah ?_|refine Al ?_|refine Ae ?_|refine Am ?_|refine At ?_|refine Au ?_|refine Ar rfl ?_|refine Aj rfl ?_))<;>(refine o_as rfl rfl ?_<;>(first|refine Ay ?_|refine Az ?_|refine Aw ?_|refine AA ?_))<;>(repeat (first|refine Ah ?_|refine Al ?_|refine Ae ?_|refine Am ?_|refine At ?_|refine Au ?_|refine Ar rfl ?_|refine Aj rfl ?_))<;>(refine o_mv rfl rfl ?_<;>refine o_sn rfl rfl ?_<;>(first|refine Ay ?_|refine Az ?_|refine Aw ?_|refine AA ?_))<;>(repeat (first|refine Ah ?_|refine Al ?_|refine Ae ?_|refine Am ?_|refine At ?_|refine Au ?_|refine Ar rfl ?_|refine Aj rfl ?_))<;>(refine o_as rfl rfl ?_<;>(first|refine Ay ?_|refine Az ?_|refine Aw ?_|refine AA ?_))<;>(repeat (first|refine Ah ?_|refine Al ?_|refine Ae ?_|refine Am ?_|refine At ?_|refine Au ?_|refine Ar rfl ?_|refine Aj rfl ?_)))
    exact ret1 rfl rfl ⟨Below.refl _ _,RowR.nil⟩
  | some ad =>
    ((repeat (first|refine Ah ?_|refine Al ?_|refine Ae ?_|refine Am ?_|refine At ?_|refine Au ?_|refine Ar rfl ?_|refine Aj rfl ?_))<;>(refine o_as rfl rfl ?_<;>(first|refine Ay ?_|refine Az ?_|refine Aw ?_|refine AA ?_))<;>(repeat (first|refine Ah ?_|refine Al ?_|refine Ae ?_|refine Am ?_|refine At ?_|refine Au ?_|refine Ar rfl ?_|refine Aj rfl ?_))<;>(refine o_mv rfl rfl ?_<;>refine o_sn rfl rfl ?_<;>(first|refine Ay ?_|refine Az ?_|refine Aw ?_|refine AA ?_))<;>(repeat (first|refine Ah ?_|refine Al ?_|refine Ae ?_|refine Am ?_|refine At ?_|refine Au ?_|refine Ar rfl ?_|refine Aj rfl ?_)))
    refine Ch 2 (by decide) O (xs:=([]:List U64)) rfl rfl rfl rfl trivial (by decide) (by decide) rfl fun g w1 O1 S1 h1=>?_
    replace hB:=hB.st S1 (fun h=>h) (fun h=>h)
    replace h0:=h0.st S1 (fun h=>h)
    (refine o_mv rfl rfl ?_)
    refine Es rfl h1 h0.rd rfl rfl (by decide) (by simpa using hl) (by simpa using hl2) rfl fun A2 c2 w2 O2 S2 h2=>?_
    replace hB:=hB.st S2 (by decide) (by decide)
    rw [List.nil_append] at h2 ⊢
    (refine o_as rfl rfl ?_<;>(first|refine Ay ?_|refine Az ?_|refine Aw ?_|refine AA ?_))
    repeat (first|refine Ah ?_|refine Al ?_|refine Ae ?_|refine Am ?_|refine At ?_|refine Au ?_|refine Ar rfl ?_|refine Aj rfl ?_)
    exact ret1 rfl rfl ⟨hB.ext,h2.out hB (by decide)⟩
structure PFd where
  word:Int
  bit:Int
  width:Int
  size:Int
instance:Rp PFd where
  isAgg:=true
  size:=4
  R w F cs x:=cs=[.int .i64 x.word,.int .i64 x.bit,.int .i64 x.width,.int .i64 x.size]∧inI64 x.word∧inI64 x.bit∧inI64 x.width∧inI64 x.size
  len:=by rintro w F cs x ⟨rfl,h0,h1,h2,h3⟩;rfl
  one:=by rintro w F cs x ⟨rfl,h0,h1,h2,h3⟩ u hu;simp at hu;rcases hu with rfl|rfl|rfl|rfl<;>first|rfl|exact Vb.one rfl (by assumption)
  agree:=by rintro w w' F cs x ⟨rfl,h0,h1,h2,h3⟩ ha;exact ⟨rfl,h0,h1,h2,h3⟩
  mono:=by rintro w F G cs x ⟨rfl,h0,h1,h2,h3⟩ ha;exact ⟨rfl,h0,h1,h2,h3⟩
structure Pkr where
  fields:List PFd
  words:Int
instance:Ow Pkr where
  R w F M v x:=∃ (g:Nat) (L:Lab) (c0:Value),v=.pointer (some ⟨g,0,none⟩)∧Blk w g 148 [c0,.int .i64 x.words]∧M g∧L g=0∧RwM w F (fun k=>M k∧L k=1) 152 c0 x.fields∧inI64 x.words
  agree:=by rintro w w' F M v x ⟨g,L,c0,rfl,hb,hM,hL,h0,h1⟩ a1 a2;exact ⟨g,L,c0,rfl,hb.keep (a2 g hM),hM,hL,h0.agree a1 fun k hk=>a2 k hk.1,h1⟩
  mono:=by rintro w F M F' M' v x ⟨g,L,c0,rfl,hb,hM,hL,h0,h1⟩ a1 a2 a3;exact ⟨g,L,c0,rfl,hb,a2 g hM,hL,h0.mono a1 (fun k hk=>⟨a2 k hk.1,hk.2⟩) fun k hf hm=>a3 k hf hm.1,h1⟩
instance:OwP Pkr:=⟨by rintro w F M v x ⟨g,L,c0,rfl,_⟩;exact ⟨g,rfl⟩⟩
theorem Pkr.opn {i:Nat} {w:World} {O:Lab} {p:Nat} {x:Pkr} (h:Ob i w O (.pointer (some ⟨p,0,none⟩)) x) (l0 l1:Nat) (hl:l0≠0∧l1≠0):∃ (O':Lab) (c0:Value),St (eT i) w O w O'∧(∀ k,Fr i w O k→∃ q,q∈[l0,l1]∧Fr q w O' k)∧Lc l0 w O' p 148 [c0,.int .i64 x.words]∧Rw l1 w O' 152 c0 x.fields∧inI64 x.words:=by
  obtain ⟨⟨g,L,c0,hv,hb,hM,hL,h0,h1⟩,hi⟩:=h
  obtain rfl:p=g:=by injection hv with hv;injection hv with hv;injection hv
  exact ⟨part O i L [l0,l1],c0,HA hi,Gv (by simp),⟨hb,(DN (j:=0) rfl p ⟨hM,hL⟩).2⟩,h0.rw (CX hi) (DN (j:=1) rfl) hl.2,h1⟩
theorem Pkr.shut {w:World} {O:Lab} {p:Nat} {x:Pkr} {l0 l1:Nat} {c0:Value} (hd:¬ 0∈[l0,l1]∧[l0,l1].idxOf l0=0∧[l0,l1].idxOf l1=1) (hb:Lc l0 w O p 148 [c0,.int .i64 x.words]) (h0:Rw l1 w O 152 c0 x.fields) (h1:inI64 x.words):∃ O',St (·∈[l0,l1]) w O w O'∧(∀ k,Fr 0 w O k→Fr 0 w O' k)∧(∀ q,q∈[l0,l1]→∀ k,Fr q w O k→Fr l0 w O' k)∧Ob l0 w O' (.pointer (some ⟨p,0,none⟩)) x:=by
  have hb1:l0≠0:=fun e=>hd.1 (by simp [e])
  have hg:=Dj (i:=l0) hd.2.1 (by simp) p ⟨hb.1.lt,hb.2⟩
  exact ⟨whole O l0 [l0,l1],Gw,Cn hd.1,FN,⟨p,fun k=>[l0,l1].idxOf (O k),c0,rfl,hb.1,hg.1,hg.2,h0.m (Cn hd.1) (Dj hd.2.2 (by simp)) (fun k a b=>frNe0 hb1 k a b.1),h1⟩,hb1⟩
noncomputable def DA (x0:List Int):Option ((Option Pkr)×Err) :=
  if 64 < (x0.length:Int) then (some (none,(⟨5⟩:Err))) else (bnd (rng (ρ:=(Option Pkr)×Err) (fun (k25:Nat) (a26:Int) (s23:Int×Pkr)=>bnd (if a26 < 1 then (some true) else (if 64 < a26 then (some true) else (some false)):Option Bool) fun y48=>if y48=true then (some (.ret (none,(⟨1⟩:Err)))) else (bnd (lop (ρ:=Ctl (Int×Pkr) ((Option Pkr)×Err)) (fun (s61:Int)=>bnd (shlI 1 s61) fun n76=>if n76 < a26 then (bnd (chkI (s61 + 1)) fun n80=>some (.next n80)) else (some (.brk s61))) 0) fun res59=>fin res59 fun (s87:Int)=>bnd (bnd (chkI (s23.1 + s87)) fun n95=>if 64 < n95 then (bnd (chkI (s23.2.words + 1)) fun n109=>some (0,(⟨s23.2.fields,n109⟩:Pkr))) else (some (s23.1,s23.2)):Option (Int×Pkr)) fun y89=>bnd (chkI (y89.2.words - 1)) fun n133=>bnd (appI 32 y89.2.fields [(⟨n133,y89.1,s87,a26⟩:PFd)]) fun u142=>bnd (chkI (y89.1 + s87)) fun n155=>some (.next (n155,(⟨u142,y89.2.words⟩:Pkr))))) x0 0 (0,(⟨([]:List PFd),1⟩:Pkr))) fun res21=>fin res21 fun (s167:Int×Pkr)=>some ((some s167.2),(⟨0⟩:Err)))
theorem KA {w:World} {O:Lab} {vx0:Value} {x0:List Int} (hx0:Vb w (Fr 0 w O) vx0 x0) (j0:Nat) (hj0:j0≠0) {r:(Option Pkr)×Err} (hm:DA x0=some r) :
    Fn Try.prog 74 [vx0] w fun v w'=>∃ O',St nT w O w' O'∧∃ v0 v1:Value,v=.tuple #[v0,v1]∧Obo j0 w' O' v0 r.1∧Vb w' (Fr 0 w' O') v1 r.2:=by
 obtain ⟨O0,hE,hz0⟩:=ent0 (w:=w) (O:=O)
 have hB:Bm w O0 w O0:=Bm.refl
 replace hx0:=hx0.mono hz0
 obtain ⟨A2,c3,rfl⟩:=hx0.form
 refine AL Try.func74 rfl Try.ntmps74 rfl ?_
 unfold DA at hm
 refine Ah (Ae (o_as rfl rfl (o_as rfl rfl (o_z ?_))))
 refine Ah (Ah (Ae (o_mv rfl rfl (o_ln rfl rfl ?_))))
 have l5:x0.length≤9223372036854775807:=Nat.le_trans hx0.len.2.1 hx0.len.2.2
 have r4:inI64 (x0.length:Int):=rngNat l5
 refine o_gtS rfl rfl rfl (fun c6=>?_) fun c6=>?_
 ·
  replace hm:=ip hm c6
  refine o_z ?_
  refine Ar rfl (Ah (Ae (o_miE rfl rfl ?_)))
  refine o_as rfl rfl (o_as rfl rfl (o_z ?_))
  refine Au ?_
  obtain rfl:=sm hm
  obtain ⟨O',hS',hz,hl⟩:=hE.leave (fun _=>0) rfl hB
  exact ret2 rfl (AF rfl) (AF rfl) ⟨O',hS',_,_,rfl,rfl,(vErr (by decide))⟩
 ·
  replace hm:=im hm c6
  refine o_z ?_
  refine Aj rfl (Am (Ah (Ae (o_bd rfl rfl rfl ?_))))
  refine l_box 2 O0 rfl rfl fun g7 w8 O9 S10 h11=>?_
  replace h11:Lc 2 w8 O9 g7 148 [(.slice none 0 0),(.int .i64 1)]:=h11
  refine o_as rfl rfl (o_z ?_)
  refine Ah (Ae (o_as rfl rfl (o_z ?_)))
  refine Ah (Ah (Ae (o_mv rfl rfl (o_ln rfl rfl ?_))))
  replace hx0:=hx0.st S10
  have l13:x0.length≤9223372036854775807:=Nat.le_trans hx0.len.2.1 hx0.len.2.2
  have r12:inI64 (x0.length:Int):=rngNat l13
  refine o_mv rfl rfl (o_z ?_)
  have h14:Rw 3 w8 O9 152 (.slice none 0 0) ([]:List PFd):=Rw.nil 3 (by decide)
  obtain ⟨O16,S17,hz19,ha20,h18⟩:=Pkr.shut (x:=(⟨([]:List PFd),1⟩:Pkr)) (l0:=2) (l1:=3) (by decide) h11 h14 (show inI64 (1) from by decide)
  obtain ⟨res21,hL22,hm⟩:=bs hm
  refine AN (aft res21 (fun (s23:Int×Pkr) (x24:Unit)=>[(4,(.pointer (some ⟨g7,0,none⟩)))]) (fun s23 x24 w'=>∃ O':Lab,Bm w O0 w' O'∧Ob 2 w' O' (.pointer (some ⟨g7,0,none⟩)) s23.2∧inI64 s23.1)) ?_ ?_
  ·
   refine Al ?_
   replace hB:=(hB.st S10).st S17
   replace hx0:=hx0.st S17
   refine Ck (σ:=Int×Pkr) (X:=Unit) (x0.length) hL22 rfl l13 (fun (s23:Int×Pkr) (x24:Unit)=>[(4,(.pointer (some ⟨g7,0,none⟩))),(5,(.int .i64 s23.1)),(15,(.slice A2 x0.length c3))]) _ (fun s23 x24 w'=>∃ O':Lab,Bm w O0 w' O'∧Ob 2 w' O' (.pointer (some ⟨g7,0,none⟩)) s23.2∧Vb w' (Fr 0 w' O') (.slice A2 x0.length c3) x0∧inI64 s23.1) _ () ⟨O16,hB,h18,hx0,(show inI64 (0) from by decide)⟩ ⟨rfl,rfl,rfl,rfl,rfl,trivial⟩ (fun _ _=>⟨rfl,rfl⟩) (fun _ _=>⟨rfl,trivial⟩) (fun _ _ _ ⟨O',hB,h39,hx0,r38⟩=>⟨O',hB,h39,r38⟩) ⟨rfl,rfl,rfl⟩ ⟨rfl,rfl⟩ ?_
   rintro k25 a26 s23 x24 w27 cc29 hx30 ⟨O28,hB,h39,hx0,r38⟩ hf31 hret32 hbrk33
   have rk25:inI64 (k25:Int):=rngK hx30 l13
   refine Ah (Ae ?_)
   obtain ⟨b40,o41,ce42,hA43,hl44,hd45,rfl,r47⟩:=hx0.elem' hx30
   refine o_iaE (hA:=hA43) (hj:=rfl) (hlt:=hl44) rfl rfl rfl ?_
   refine o_ld (hc:=cat0 hd45) rfl rfl ?_
   refine o_as rfl rfl (o_z ?_)
   refine Ah (Ah ?_)
   obtain ⟨y48,hy49,hf31⟩:=bs hf31
   refine AN (fun l' w'=>∃ (x51:Unit) (O':Lab),subs l' [(4,(.pointer (some ⟨g7,0,none⟩))),(5,(.int .i64 s23.1)),(7,(.int .i64 a26)),(15,(.slice A2 x0.length c3)),(16,(.int .i64 (x0.length:Int))),(17,(.int .i64 (k25:Int))),(26,(.bool y48))]∧Bm w O0 w' O'∧Ob 2 w' O' (.pointer (some ⟨g7,0,none⟩)) s23.2∧Vb w' (Fr 0 w' O') (.slice A2 x0.length c3) x0) ?_ ?_
   ·
    refine Ae (o_mv rfl rfl (o_ltS rfl rfl rfl (fun c52=>?_) fun c52=>?_))
    ·
     replace hy49:=ip hy49 c52
     refine o_mv rfl rfl (AB rfl rfl rfl rfl (AB rfl rfl rfl rfl (o_pt rfl rfl rfl (o_z ?_))))
     obtain rfl:=sm hy49
     exact ⟨(),_,⟨rfl,rfl,rfl,rfl,rfl,rfl,rfl,trivial⟩,hB,h39,hx0⟩
    ·
     replace hy49:=im hy49 c52
     refine o_mv rfl rfl (AD rfl rfl (o_mv rfl rfl (AD rfl rfl (o_gtS rfl rfl rfl (fun c53=>?_) fun c53=>?_))))
     ·
      replace hy49:=ip hy49 c53
      refine o_pf rfl rfl rfl (o_z ?_)
      obtain rfl:=sm hy49
      exact ⟨(),_,⟨rfl,rfl,rfl,rfl,rfl,rfl,rfl,trivial⟩,hB,h39,hx0⟩
     ·
      replace hy49:=im hy49 c53
      refine o_pf rfl rfl rfl (o_z ?_)
      obtain rfl:=sm hy49
      exact ⟨(),_,⟨rfl,rfl,rfl,rfl,rfl,rfl,rfl,trivial⟩,hB,h39,hx0⟩
   rintro l54 w55 ⟨x51,O56,hs57,hB,h39,hx0⟩
   refine AT _ hs57 ?_
   refine Cl rfl (fun c58=>?_) (fun c58=>?_)
   ·
    replace hf31:=ip hf31 c58
    refine Ah (Ae (o_miE rfl rfl ?_))
    refine o_as rfl rfl (o_as rfl rfl (o_z ?_))
    refine Au ?_
    obtain rfl:=sm hf31
    obtain rfl:=hret32 _ rfl
    obtain rfl:=sm (Bw hm)
    obtain ⟨O',hS',hz,hl⟩:=hE.leave (fun _=>0) rfl hB
    exact ret2 rfl (AF rfl) (AF rfl) ⟨O',hS',_,_,rfl,rfl,(vErr (by decide))⟩
   ·
    replace hf31:=im' hf31 c58
    refine Am (Ah (Ae (o_as rfl rfl (o_z ?_))))
    refine Ah ?_
    obtain ⟨res59,hL60,hf31⟩:=bs hf31
    refine AN (aft res59 (fun (s61:Int) (x62:Unit)=>[(4,(.pointer (some ⟨g7,0,none⟩))),(5,(.int .i64 s23.1)),(7,(.int .i64 a26)),(8,(.int .i64 s61)),(15,(.slice A2 x0.length c3)),(16,(.int .i64 (x0.length:Int))),(17,(.int .i64 (k25:Int)))]) (fun s61 x62 w'=>∃ O':Lab,Bm w O0 w' O'∧Ob 2 w' O' (.pointer (some ⟨g7,0,none⟩)) s23.2∧Vb w' (Fr 0 w' O') (.slice A2 x0.length c3) x0∧inI64 s61)) ?_ ?_
    ·
     refine Al (Ez (σ:=Int) (X:=Unit) hL60 (fun (s61:Int) (x62:Unit)=>[(4,(.pointer (some ⟨g7,0,none⟩))),(5,(.int .i64 s23.1)),(7,(.int .i64 a26)),(8,(.int .i64 s61)),(15,(.slice A2 x0.length c3)),(16,(.int .i64 (x0.length:Int))),(17,(.int .i64 (k25:Int)))]) _ (fun s61 x62 w'=>∃ O':Lab,Bm w O0 w' O'∧Ob 2 w' O' (.pointer (some ⟨g7,0,none⟩)) s23.2∧Vb w' (Fr 0 w' O') (.slice A2 x0.length c3) x0∧inI64 s61) _ () ⟨O56,hB,h39,hx0,(show inI64 (0) from by decide)⟩ ⟨rfl,rfl,rfl,rfl,rfl,rfl,rfl,trivial⟩ ?_)
     rintro s61 x62 w65 cc67 ⟨O66,hB,h39,hx0,r75⟩ hf69 hret70 hbrk71
     refine Ah (Ah (Ae (o_mv rfl rfl ?_)))
     obtain ⟨n76,e77,hf69⟩:=bs hf69
     have r78:=LE e77
     refine o_ish (he:=e77) rfl rfl rfl ?_
     refine o_mv rfl rfl (o_ltS rfl rfl rfl (fun c79=>?_) fun c79=>?_)
     ·
      replace hf69:=ip hf69 c79
      refine o_z ?_
      refine Ar rfl (Am (Al (Ae (o_mv rfl rfl ?_))))
      obtain ⟨n80,e81,hf69⟩:=bs hf69
      have r82:=(Br e81)
      refine o_adE (he:=e81) rfl rfl rfl ?_
      refine o_as rfl rfl (o_z ?_)
      obtain rfl:=sm hf69
      refine (?_:Exists _)
      exact ⟨_,(),rfl,⟨rfl,rfl,rfl,rfl,rfl,rfl,rfl,trivial⟩,_,hB,h39,hx0,r82⟩
     ·
      replace hf69:=im hf69 c79
      refine o_z ?_
      refine Aj rfl (At ?_)
      obtain rfl:=sm hf69
      refine (?_:Exists _)
      exact ⟨_,(),hbrk71 _ rfl,⟨rfl,rfl,rfl,rfl,rfl,rfl,rfl,trivial⟩,_,hB,h39,hx0,r75⟩
    rintro l83 w84 ⟨s87,x88,rfl,hs86,O85,hB,h39,hx0,r75⟩
    replace hf31:=Bj hf31
    refine AT _ hs86 ?_
    refine Ah ?_
    obtain ⟨y89,hy90,hf31⟩:=bs hf31
    refine AN (fun l' w'=>∃ (x92:Unit) (O':Lab),subs l' [(4,(.pointer (some ⟨g7,0,none⟩))),(5,(.int .i64 y89.1)),(7,(.int .i64 a26)),(8,(.int .i64 s87)),(15,(.slice A2 x0.length c3)),(16,(.int .i64 (x0.length:Int))),(17,(.int .i64 (k25:Int)))]∧Bm w O0 w' O'∧Ob 2 w' O' (.pointer (some ⟨g7,0,none⟩)) y89.2∧Vb w' (Fr 0 w' O') (.slice A2 x0.length c3) x0∧inI64 y89.1) ?_ ?_
    ·
     refine Ah (Ae (o_mv rfl rfl (o_mv rfl rfl ?_)))
     obtain ⟨n95,e96,hy90⟩:=bs hy90
     have r97:=(Br e96)
     refine o_adE (he:=e96) rfl rfl rfl ?_
     refine o_gtS rfl rfl rfl (fun c98=>?_) fun c98=>?_
     ·
      replace hy90:=ip hy90 c98
      refine o_z ?_
      refine Ar rfl (Ah (Ae (o_mv rfl rfl (o_nc rfl rfl ?_))))
      obtain ⟨O99,v103,S100,ha102,h101,h104,r108⟩:=Pkr.opn h39 2 4 (by decide)
      obtain ⟨A105,c106,rfl⟩:=h104.form
      refine o_fa rfl rfl (o_ld (hc:=Blk.cell (i:=1) (h101.1) rfl) rfl rfl ?_)
      obtain ⟨n109,e110,hy90⟩:=bs hy90
      have r111:=(Br e110)
      refine o_adE (he:=e110) rfl rfl rfl ?_
      refine o_nc rfl rfl (o_fa rfl rfl (AR h101 rfl rfl rfl (Nat.le_of_ble_eq_true rfl) (by first|exact allOne rfl|simp [Value.cells,Value.oneCell',AM]) fun w112 S113 h101=>?_))
      replace h101:Lc 2 w112 O99 g7 148 [(.slice A105 s23.2.fields.length c106),(.int .i64 n109)]:=h101
      refine o_z ?_
      refine Ae (o_as rfl rfl (o_z ?_))
      replace h104:=h104.st S113
      obtain ⟨O114,S115,hz117,ha118,h116⟩:=Pkr.shut (x:=(⟨s23.2.fields,n109⟩:Pkr)) (l0:=2) (l1:=4) (by decide) h101 h104 r111
      obtain rfl:=sm hy90
      replace hB:=((hB.st S100).st S113).st S115
      replace hx0:=((hx0.st S100).st S113).st S115
      exact ⟨(),_,⟨rfl,rfl,rfl,rfl,rfl,rfl,rfl,trivial⟩,hB,h116,hx0,(show inI64 (0) from by decide)⟩
     ·
      replace hy90:=im hy90 c98
      refine o_z ?_
      refine Aj rfl (Am ?_)
      obtain rfl:=sm hy90
      exact ⟨(),_,⟨rfl,rfl,rfl,rfl,rfl,rfl,rfl,trivial⟩,hB,h39,hx0,r38⟩
    rintro l119 w120 ⟨x92,O121,hs122,hB,h94,hx0,r93⟩
    refine AT _ hs122 ?_
    refine Ah ?_
    obtain ⟨O123,v127,S124,ha126,h125,h128,r132⟩:=Pkr.opn h94 2 4 (by decide)
    obtain ⟨A129,c130,rfl⟩:=h128.form
    refine BZ [(14,[]),(15,[4])] O123 ?_
    refine x_pre (fuel:=6) [] [(1,true),(2,true),(3,true),(4,true),(5,true),(6,true),(7,true),(8,true),(9,true),(10,true),(11,true),(12,true),(13,true)] (by kernel_rfl) rfl ?_
    refine h_mv rfl rfl rfl (h_nc rfl rfl rfl (h_fa rfl rfl rfl (h_ldC (hc:=fun w' ⟨O',hq⟩=>Blk.cell (i:=0) ((h125.st hq (by decide)).1) rfl) rfl rfl rfl ?_)))
    refine h_mv rfl rfl rfl (h_nc rfl rfl rfl (h_fa rfl rfl rfl (h_ldC (hc:=fun w' ⟨O',hq⟩=>Blk.cell (i:=1) ((h125.st hq (by decide)).1) rfl) rfl rfl rfl ?_)))
    obtain ⟨n133,e134,hf31⟩:=bs hf31
    have r135:=(Br e134)
    refine h_sbE (he:=e134) rfl rfl rfl rfl ?_
    refine h_mv rfl rfl rfl (h_mv rfl rfl rfl (h_mv rfl rfl rfl (h_bd rfl rfl rfl rfl ?_)))
    refine AK ?_
    refine x_pre (fuel:=5) [4] [(0,true)] (by kernel_rfl) rfl ?_
    refine h_mv rfl rfl rfl (AK ?_)
    refine x_one (i:=14) (by kernel_rfl) rfl ?_
    refine Ch 5 (by decide) O123 (xs:=([(⟨n133,y89.1,s87,a26⟩:PFd)]:List PFd)) rfl rfl rfl rfl ⟨(Vb.ofAgg (cs:=[(.int .i64 n133),(.int .i64 y89.1),(.int .i64 s87),(.int .i64 a26)]) (x:=(⟨n133,y89.1,s87,a26⟩:PFd)) rfl ⟨rfl,r135,r93,r75,r47⟩),trivial⟩ (by decide) (by decide) rfl fun g136 w137 O138 S139 h140=>?_
    have hZ:=S139.lst [] (fun _ h=>h.elim)
    refine x_go [(15,[4])] hZ (by kernel_rfl) ?_
    refine x_one (i:=15) (by kernel_rfl) rfl ?_
    obtain ⟨u142,e143,hf31⟩:=bs hf31
    obtain ⟨e143,e144,e145⟩:=Cx e143
    replace h128:=h128.st S139
    refine Es rfl h128 (h140.rd) rfl rfl (by decide) e144 e145 rfl fun A146 c147 w148 O149 S150 h151=>?_
    rw [← e143] at h151 ⊢
    have hZ:=S150.lst [4] (fun _ h=>by cases h;decide)
    refine x_go [] hZ (by kernel_rfl) ?_
    refine x_pre (fuel:=1) [] [(16,true),(17,true)] (by kernel_rfl) rfl ?_
    refine h_nc rfl rfl rfl (h_fa rfl rfl rfl (AK ?_))
    refine x_one (i:=18) (by kernel_rfl) rfl ?_
    replace h125:=(h125.st S139).st S150
    refine AR h125 rfl rfl rfl (Nat.le_of_ble_eq_true rfl) (by first|exact allOne rfl|simp [Value.cells,Value.oneCell',AM]) fun w153 S154 h125=>?_
    replace h125:Lc 2 w153 O149 g7 148 [(.slice A146 u142.length c147),(.int .i64 y89.2.words)]:=h125
    refine x_end (by kernel_rfl) ?_
    refine x_nil (by kernel_rfl) ?_
    refine Ae (o_mv rfl rfl (o_mv rfl rfl ?_))
    obtain ⟨n155,e156,hf31⟩:=bs hf31
    have r157:=(Br e156)
    refine o_adE (he:=e156) rfl rfl rfl ?_
    refine o_as rfl rfl (o_z ?_)
    replace h151:=h151.st S154
    obtain ⟨O158,S159,hz161,ha162,h160⟩:=Pkr.shut (x:=(⟨u142,y89.2.words⟩:Pkr)) (l0:=2) (l1:=4) (by decide) h125 h151 r132
    obtain rfl:=sm hf31
    refine (?_:Exists _)
    replace hB:=((((hB.st S124).st S139).st S150).st S154).st S159
    replace hx0:=((((hx0.st S124).st S139).st S150).st S154).st S159
    exact ⟨_,(),rfl,⟨rfl,rfl,rfl,rfl,rfl,trivial⟩,_,hB,h160,hx0,r157⟩
  replace hB:=(hB.st S10).st S17
  rintro l163 w164 ⟨s167,x168,rfl,hs166,O165,hB,h39,r38⟩
  replace hm:=Bj hm
  refine AT _ hs166 ?_
  refine Ah (Ae (o_mv rfl rfl (o_as rfl rfl (o_as rfl rfl (o_z ?_)))))
  refine Au ?_
  obtain rfl:=sm hm
  obtain ⟨O',hS',hz,hl⟩:=hE.leave (fun q=>if q=2 then j0 else 0) rfl hB
  exact ret2 rfl (AF rfl) (AF rfl) ⟨O',hS',_,_,rfl,(Ob.leave h39 hz (hl 2 (by decide) (by decide)) hj0),(vErr (show inI64 0 from by decide))⟩
noncomputable def Cg (x0:PFd):Option U64 :=
  bnd (shlU (1:U64) x0.width) fun n12=>bnd (shlU (n12 - (1:U64)) x0.bit) fun n14=>some n14
theorem Fl {w:World} {A:Nat→Prop} (hA:∀ k,A k→k < w.heap.size) {vx0:Value} {x0:PFd} (hx0:Vb w A vx0 x0) {r:U64} (hm:Cg x0=some r) :
    Fn Try.prog 77 [vx0] w fun v w'=>Ext w w'∧Vb w' (upA A w w') v r:=by
 obtain ⟨O,hB,hA0⟩:=enter hA
 replace hx0:=hx0.mono hA0
 obtain ⟨cs2,rfl,rfl,r3,r4,r5,r6⟩:=hx0
 refine AL Try.func77 rfl Try.ntmps77 rfl ?_
 unfold Cg at hm
 refine Ah (Ae (l_box 2 O rfl rfl fun g7 w8 O9 S10 h11=>?_))
 replace h11:Lc 2 w8 O9 g7 152 [(.int .i64 x0.word),(.int .i64 x0.bit),(.int .i64 x0.width),(.int .i64 x0.size)]:=h11
 refine o_as rfl rfl (o_z ?_)
 refine Ah (BV (·=w8) [(0,true),(1,true),(2,true),(3,true),(4,true),(5,true),(6,true),(7,true)] (by kernel_rfl) rfl (by kernel_rfl) rfl ?_)
 refine h_fa rfl rfl rfl (h_ldA (hc:=Blk.cell (i:=2) (h11.1) rfl) rfl rfl rfl ?_)
 obtain ⟨n12,e13,hm⟩:=bs hm
 refine h_ush (a:=(1:U64)) (he:=e13) rfl rfl rfl rfl ?_
 refine h_usb (a:=n12) (b:=(1:U64)) rfl rfl rfl rfl ?_
 refine h_fa rfl rfl rfl (h_ldA (hc:=Blk.cell (i:=1) (h11.1) rfl) rfl rfl rfl ?_)
 obtain ⟨n14,e15,hm⟩:=bs hm
 refine h_ush (a:=(n12 - (1:U64))) (he:=e15) rfl rfl rfl rfl ?_
 refine h_as rfl rfl rfl (h_z ?_)
 refine Au ?_
 obtain rfl:=sm hm
 replace hB:=hB.st S10
 exact ret1v rfl (AF rfl) ⟨hB.ext,vU64⟩
noncomputable def Cw (x0:PFd) (x1:List U64):Option Int :=
  bnd (atI x1 x0.word) fun a15=>bnd (Cg x0) fun q26=>bnd (shrU (a15 &&& q26) x0.bit) fun n33=>some n33.toInt
theorem HT {w:World} {A:Nat→Prop} (hA:∀ k,A k→k < w.heap.size) {vx0:Value} {x0:PFd} (hx0:Vb w A vx0 x0) {vx1:Value} {x1:List U64} (hx1:Vb w A vx1 x1) {r:Int} (hm:Cw x0 x1=some r) :
    Fn Try.prog 76 [vx0,vx1] w fun v w'=>Ext w w'∧Vb w' (upA A w w') v r:=by
 obtain ⟨O,hB,hA0⟩:=enter hA
 replace hx0:=hx0.mono hA0
 obtain ⟨cs3,rfl,rfl,r4,r5,r6,r7⟩:=hx0
 replace hx1:=hx1.mono hA0
 obtain ⟨A8,c9,rfl⟩:=hx1.form
 refine AL Try.func76 rfl Try.ntmps76 rfl ?_
 unfold Cw at hm
 refine Ah (Ae (l_box 2 O rfl rfl fun g10 w11 O12 S13 h14=>?_))
 replace h14:Lc 2 w11 O12 g10 152 [(.int .i64 x0.word),(.int .i64 x0.bit),(.int .i64 x0.width),(.int .i64 x0.size)]:=h14
 refine o_as rfl rfl (o_z ?_)
 refine Ah (BZ [(6,[])] O12 ?_)
 refine x_pre (fuel:=5) [] [(0,true),(1,true),(2,true),(3,true),(4,true),(5,true),(8,true),(9,true)] (by kernel_rfl) rfl ?_
 refine h_mv rfl rfl rfl (h_fa rfl rfl rfl (h_ldC (hc:=fun w' ⟨O',hq⟩=>Blk.cell (i:=0) ((h14.st hq (by decide)).1) rfl) rfl rfl rfl ?_))
 obtain ⟨a15,e16,hm⟩:=bs hm
 obtain ⟨p18,x17⟩:=AS e16
 replace hx1:=hx1.st S13
 obtain ⟨b19,o20,ce21,hA22,hF25,hl23,hd24,rfl⟩:=hx1.elem x17
 refine h_iaE (hA:=hA22) (hj:=(Int.toNat_of_nonneg p18).symm) (hlt:=hl23) rfl rfl rfl rfl ?_
 refine h_ldC (hc:=fun w' ⟨O',hq⟩=>cat0 (BB (hq.agree (i:=0) (by decide)) hF25 hd24)) rfl rfl rfl ?_
 refine h_laB (hl:=rfl) (hb:=fun w' ⟨O',hq⟩=>((h14.st hq (by decide)).1).cellsAt) rfl rfl rfl ?_
 refine h_fa rfl rfl rfl (h_ldC (hc:=fun w' ⟨O',hq⟩=>Blk.cell (i:=1) ((h14.st hq (by decide)).1) rfl) rfl rfl rfl ?_)
 refine AK ?_
 refine x_one (i:=6) (by kernel_rfl) rfl ?_
 obtain ⟨q26,e27,hm⟩:=bs hm
 refine BG (O:=O12) (A:=All w11) (R:=fun w' F v=>Vb w' F v q26) (Fl (fun _ h=>h) (Vb.mono (F:=Fr 0 w11 O12) (Vb.ofAgg (cs:=[(.int .i64 x0.word),(.int .i64 x0.bit),(.int .i64 x0.width),(.int .i64 x0.size)]) (x:=x0) rfl ⟨rfl,r4,r5,r6,r7⟩) Fr.lt) e27) rfl rfl fun v32 w28 O29 S30 h31=>?_
 obtain rfl:=h31.u64
 have hZ:=S30.lst [] (fun _ h=>h.elim)
 refine x_go [] hZ (by kernel_rfl) ?_
 refine x_pre (fuel:=0) [] [(7,true),(10,true),(11,true),(12,true)] (by kernel_rfl) rfl ?_
 refine h_uan (a:=a15) (b:=q26) rfl rfl rfl rfl ?_
 obtain ⟨n33,e34,hm⟩:=bs hm
 refine h_usr (a:=(a15 &&& q26)) (he:=e34) rfl rfl rfl rfl ?_
 refine h_cvI (a:=n33) rfl rfl rfl ?_
 refine h_as rfl rfl rfl (AK ?_)
 refine x_nil (by kernel_rfl) ?_
 refine Au ?_
 obtain rfl:=sm hm
 replace hB:=(hB.st S13).st S30
 exact ret1v rfl (AF rfl) ⟨hB.ext,(vInt (toIntR _))⟩
noncomputable def Bt (x0:Pkr) (x1:List Int):Option ((List U64)×Err) :=
  if (x1.length:Int)≠(x0.fields.length:Int) then (some (([]:List U64),(⟨2⟩:Err))) else (bnd (mkI 8 ((0:U64):U64) x0.words) fun u25=>bnd (rng (ρ:=(List U64)×Err) (fun (k50:Nat) (a51:PFd) (s48:(List U64))=>bnd (bnd (x1[k50]?) fun a87=>if a87 < 0 then (some true) else (bnd (x1[k50]?) fun a98=>if a51.size≤a98 then (some true) else (some false)):Option Bool) fun y83=>if y83=true then (some (.ret (([]:List U64),(⟨2⟩:Err)))) else (bnd (atI s48 a51.word) fun a114=>bnd (x1[k50]?) fun a125=>bnd (shlU (BitVec.ofInt 64 a125) a51.bit) fun n135=>bnd (atI s48 a51.word) fun a137=>some (.next (s48.set (a51.word:Int).toNat (a114 ||| n135))))) x0.fields 0 u25) fun res46=>fin res46 fun (s154:(List U64))=>some (s154,(⟨0⟩:Err)))
theorem Hh {w:World} {O:Lab} {p0 i0:Nat} {x0:Pkr} (hx0:Ob i0 w O (.pointer (some ⟨p0,0,none⟩)) x0) {vx1:Value} {x1:List Int} (hx1:Vb w (Fr 0 w O) vx1 x1) {r:(List U64)×Err} (hm:Bt x0 x1=some r) :
    Fn Try.prog 80 [(.pointer (some ⟨p0,0,none⟩)),vx1] w fun v w'=>∃ O',St (eT i0) w O w' O'∧∃ v0 v1:Value,Ob i0 w' O' (.pointer (some ⟨p0,0,none⟩)) x0∧v=.tuple #[v0,v1]∧Vb w' (Fr 0 w' O') v0 r.1∧Vb w' (Fr 0 w' O') v1 r.2:=by
 obtain ⟨O0,hE,hz0,hl2⟩:=ent1 (w:=w) (O:=O) hx0.2
 have hx0':=Ob.leave hx0 hz0 hl2 (j:=2) (by decide)
 have hB:Bm w O0 w O0:=Bm.refl
 replace hx1:=hx1.mono hz0
 obtain ⟨A3,c4,rfl⟩:=hx1.form
 refine AL Try.func80 rfl Try.ntmps80 rfl ?_
 unfold Bt at hm
 refine Ah (Ae (o_as rfl rfl (o_as rfl rfl (o_z ?_))))
 refine Ah (Ah (Ae (o_mv rfl rfl (o_pn rfl rfl ?_))))
 refine o_z ?_
 refine Aj rfl (Am (Ah (Ah (Ae (o_mv rfl rfl (o_ln rfl rfl ?_))))))
 have l6:x1.length≤9223372036854775807:=Nat.le_trans hx1.len.2.1 hx1.len.2.2
 have r5:inI64 (x1.length:Int):=rngNat l6
 refine o_mv rfl rfl (o_nc rfl rfl ?_)
 obtain ⟨O7,v11,S8,ha10,h9,h12,r16⟩:=Pkr.opn hx0' 2 3 (by decide)
 obtain ⟨A13,c14,rfl⟩:=h12.form
 refine o_fa rfl rfl (o_ld (hc:=Blk.cell (i:=0) (h9.1) rfl) rfl rfl ?_)
 refine o_ln rfl rfl ?_
 have l18:x0.fields.length≤9223372036854775807:=Nat.le_trans h12.len.2.1 h12.len.2.2
 have r17:inI64 (x0.fields.length:Int):=rngNat l18
 refine o_neS rfl rfl rfl (fun c19=>?_) fun c19=>?_
 ·
  replace hm:=ip hm c19
  refine o_z ?_
  refine Ar rfl (Ah (Ae (o_miE rfl rfl ?_)))
  refine o_as rfl rfl (o_as rfl rfl (o_z ?_))
  refine Au ?_
  obtain ⟨O20,S21,hz23,ha24,h22⟩:=Pkr.shut (x:=x0) (l0:=2) (l1:=3) (by decide) h9 h12 r16
  obtain rfl:=sm hm
  replace hB:=(hB.st S8).st S21
  obtain ⟨O',hS',hz,hl⟩:=hE.leave (fun q=>if q=2 then i0 else 0) rfl hB
  exact ret2 rfl (AF rfl) (AF rfl) ⟨O',hS',_,_,(Ob.leave h22 hz (hl 2 (by decide) (by decide)) hx0.2),rfl,(Vb.mono (Vb.nil _ _) hz),(vErr (by decide))⟩
 ·
  replace hm:=im hm c19
  refine o_z ?_
  refine Aj rfl (Am (Ah (Ae (o_mv rfl rfl (o_nc rfl rfl (o_fa rfl rfl (o_ld (hc:=Blk.cell (i:=1) (h9.1) rfl) rfl rfl ?_)))))))
  obtain ⟨u25,e26,hm⟩:=bs hm
  obtain ⟨m27,e28,e29,e30,e31⟩:=Jn e26
  refine KX 4 (by decide) O7 (z0:=((0:U64):U64)) rfl rfl rfl rfl rfl e28 vU64 e29 e30 rfl fun g32 w33 O34 S35 h36=>?_
  rw [← e31] at h36 ⊢
  refine o_as rfl rfl (o_z ?_)
  refine Ah (Ah (Ae (o_mv rfl rfl (o_nc rfl rfl (o_fa rfl rfl ?_)))))
  replace h9:=h9.st S35
  refine o_ld (hc:=Blk.cell (i:=0) (h9.1) rfl) rfl rfl ?_
  refine o_ln rfl rfl ?_
  replace h12:=h12.st S35
  have l39:x0.fields.length≤9223372036854775807:=Nat.le_trans h12.len.2.1 h12.len.2.2
  have r38:inI64 (x0.fields.length:Int):=rngNat l39
  refine o_mv rfl rfl (o_z ?_)
  obtain ⟨O40,S41,hz43,ha44,h42⟩:=Pkr.shut (x:=x0) (l0:=2) (l1:=3) (by decide) h9 h12 r16
  have h45:=(h12.lend [3] (by decide)).shutS S41 hz43 ha44 [2] (by decide)
  obtain ⟨res46,hL47,hm⟩:=bs hm
  refine AN (aft res46 (fun (s48:(List U64)) (x49:Unit)=>[(6,(.slice (some ⟨g32,0,none⟩) u25.length m27))]) (fun s48 x49 w'=>∃ O':Lab,Bm w O0 w' O'∧Rw 4 w' O' 150 (.slice (some ⟨g32,0,none⟩) u25.length m27) s48∧Ob 2 w' O' (.pointer (some ⟨p0,0,none⟩)) x0)) ?_ ?_
  ·
   refine Al ?_
   replace hB:=((hB.st S8).st S35).st S41
   replace hx1:=((hx1.st S8).st S35).st S41
   replace h36:=h36.st S41
   refine Ck (σ:=(List U64)) (X:=Unit) (x0.fields.length) hL47 rfl l39 (fun (s48:(List U64)) (x49:Unit)=>[(1,(.slice A3 x1.length c4)),(6,(.slice (some ⟨g32,0,none⟩) u25.length m27)),(29,(.slice A13 x0.fields.length c14))]) _ (fun s48 x49 w'=>∃ O':Lab,Bm w O0 w' O'∧Vb w' (Fr 0 w' O') (.slice A3 x1.length c4) x1∧Rw 4 w' O' 150 (.slice (some ⟨g32,0,none⟩) u25.length m27) s48∧Vb w' (FrS [2] w' O') (.slice A13 x0.fields.length c14) x0.fields∧Ob 2 w' O' (.pointer (some ⟨p0,0,none⟩)) x0) _ () ⟨O40,hB,hx1,h36,h45,h42⟩ ⟨rfl,rfl,rfl,rfl,rfl,trivial⟩ (fun _ _=>⟨rfl,rfl⟩) (fun _ _=>⟨rfl,trivial⟩) (fun _ _ _ ⟨O',hB,hx1,h63,h45,h42⟩=>⟨O',hB,h63,h42⟩) ⟨rfl,rfl,rfl⟩ ⟨rfl,rfl⟩ ?_
   rintro k50 a51 s48 x49 w52 cc54 hx55 ⟨O53,hB,hx1,h63,h45,h42⟩ hf56 hret57 hbrk58
   have rk50:inI64 (k50:Int):=rngK hx55 l39
   refine Ah (Ae (o_mv rfl rfl ?_))
   obtain ⟨b65,o66,ce67,hA68,hl69,hd70,rfl,r72,r73,r74,r75⟩:=h45.elem' hx55
   refine o_iaE (hA:=hA68) (hj:=rfl) (hlt:=hl69) rfl rfl rfl ?_
   refine o_la (hl:=rfl) (hc:=hd70) rfl rfl ?_
   refine Bz 5 O53 rfl fun g76 w77 O78 S79 h80=>?_
   replace h45:=h45.stS S79 id (fun _ _=>id)
   refine o_as rfl rfl (AR h80 rfl rfl rfl (Nat.le_of_ble_eq_true rfl) (by first|exact allOne rfl|simp [Value.cells,Value.oneCell',AM]) fun w81 S82 h80=>?_)
   replace h80:Lc 5 w81 O78 g76 152 [(.int .i64 a51.word),(.int .i64 a51.bit),(.int .i64 a51.width),(.int .i64 a51.size)]:=h80
   replace h45:=h45.stS S82 (by decide) (by decide)
   refine o_z ?_
   refine Ah (Ah ?_)
   obtain ⟨y83,hy84,hf56⟩:=bs hf56
   refine AN (fun l' w'=>∃ (x86:Unit) (O':Lab),subs l' [(1,(.slice A3 x1.length c4)),(6,(.slice (some ⟨g32,0,none⟩) u25.length m27)),(7,(.int .i64 (k50:Int))),(8,(.pointer (some ⟨g76,0,none⟩))),(29,(.slice A13 x0.fields.length c14)),(30,(.int .i64 (x0.fields.length:Int))),(31,(.int .i64 (k50:Int))),(49,(.bool y83))]∧Bm w O0 w' O'∧Vb w' (Fr 0 w' O') (.slice A3 x1.length c4) x1∧Rw 4 w' O' 150 (.slice (some ⟨g32,0,none⟩) u25.length m27) s48∧Lc 5 w' O' g76 152 [(.int .i64 a51.word),(.int .i64 a51.bit),(.int .i64 a51.width),(.int .i64 a51.size)]∧Vb w' (FrS [2] w' O') (.slice A13 x0.fields.length c14) x0.fields∧Ob 2 w' O' (.pointer (some ⟨p0,0,none⟩)) x0) ?_ ?_
   ·
    refine BV (·=w81) [(0,true),(1,true),(2,true),(3,true),(4,true),(5,true),(6,true),(7,true),(8,true),(9,true),(10,true),(11,true),(12,true),(13,true)] (by kernel_rfl) rfl (by kernel_rfl) rfl ?_
    refine h_mv rfl rfl rfl (h_mv rfl rfl rfl ?_)
    obtain ⟨a87,e88,hy84⟩:=bs hy84
    replace hx1:=(hx1.st S79).st S82
    obtain ⟨b89,o90,ce91,hA92,hl93,hd94,rfl,r96⟩:=hx1.elem' e88
    refine h_iaE (hA:=hA92) (hj:=rfl) (hlt:=hl93) rfl rfl rfl rfl ?_
    refine h_ldA (hc:=cat0 hd94) rfl rfl rfl ?_
    refine h_ltS rfl rfl rfl rfl (fun c97=>?_) fun c97=>?_
    ·
     replace hy84:=ip hy84 c97
     refine h_mv rfl rfl rfl (h_no rfl rfl rfl rfl rfl (h_no rfl rfl rfl rfl rfl (h_no rfl rfl rfl rfl rfl (h_no rfl rfl rfl rfl rfl (h_no rfl rfl rfl rfl rfl (h_no rfl rfl rfl rfl rfl (h_no rfl rfl rfl rfl rfl (h_pt rfl rfl rfl rfl (h_z ?_)))))))))
     obtain rfl:=sm hy84
     replace hB:=(hB.st S79).st S82
     replace h42:=(h42.st S79).st S82
     replace h63:=(h63.st S79).st S82
     exact ⟨(),_,⟨rfl,rfl,rfl,rfl,rfl,rfl,rfl,rfl,trivial⟩,hB,hx1,h63,h80,h45,h42⟩
    ·
     replace hy84:=im hy84 c97
     refine h_mv rfl rfl rfl (hwp_o rfl (AE rfl rfl (g_mv rfl rfl (hwp_o rfl (AE rfl rfl (g_mv rfl rfl (hwp_o rfl (AE rfl rfl ?_))))))))
     obtain ⟨a98,e99,hy84⟩:=bs hy84
     obtain ⟨b100,o101,ce102,hA103,hl104,hd105,rfl,r107⟩:=hx1.elem' e99
     refine g_iaE (hA:=hA103) (hj:=rfl) (hlt:=hl104) rfl rfl rfl ?_
     refine hwp_o rfl (AE rfl rfl (g_ldA (hc:=cat0 hd105) rfl rfl ?_))
     refine hwp_o rfl (AE rfl rfl (g_fa rfl rfl (hwp_o rfl (AE rfl rfl (g_ldA (hc:=Blk.cell (i:=3) (h80.1) rfl) rfl rfl ?_)))))
     refine hwp_o rfl (AE rfl rfl (AP (fun _ _=>AU rfl rfl) rfl (fun c108=>?_) (fun c108=>?_)))
     ·
      replace hy84:=ip hy84 c108
      refine h_pf rfl rfl rfl rfl (h_z ?_)
      obtain rfl:=sm hy84
      replace hB:=(hB.st S79).st S82
      replace h42:=(h42.st S79).st S82
      replace h63:=(h63.st S79).st S82
      exact ⟨(),_,⟨rfl,rfl,rfl,rfl,rfl,rfl,rfl,rfl,trivial⟩,hB,hx1,h63,h80,h45,h42⟩
     ·
      replace hy84:=im hy84 c108
      refine h_pf rfl rfl rfl rfl (h_z ?_)
      obtain rfl:=sm hy84
      replace hB:=(hB.st S79).st S82
      replace h42:=(h42.st S79).st S82
      replace h63:=(h63.st S79).st S82
      exact ⟨(),_,⟨rfl,rfl,rfl,rfl,rfl,rfl,rfl,rfl,trivial⟩,hB,hx1,h63,h80,h45,h42⟩
   replace hB:=(hB.st S79).st S82
   replace hx1:=(hx1.st S79).st S82
   replace h42:=(h42.st S79).st S82
   replace h63:=(h63.st S79).st S82
   rintro l109 w110 ⟨x86,O111,hs112,hB,hx1,h63,h80,h45,h42⟩
   refine AT _ hs112 ?_
   refine Cl rfl (fun c113=>?_) (fun c113=>?_)
   ·
    replace hf56:=ip hf56 c113
    refine Ah (Ae (o_miE rfl rfl ?_))
    refine o_as rfl rfl (o_as rfl rfl (o_z ?_))
    refine Au ?_
    obtain rfl:=sm hf56
    obtain rfl:=hret57 _ rfl
    obtain rfl:=sm (Bw hm)
    obtain ⟨O',hS',hz,hl⟩:=hE.leave (fun q=>if q=2 then i0 else 0) rfl hB
    exact ret2 rfl (AF rfl) (AF rfl) ⟨O',hS',_,_,(Ob.leave h42 hz (hl 2 (by decide) (by decide)) hx0.2),rfl,(Vb.mono (Vb.nil _ _) hz),(vErr (by decide))⟩
   ·
    replace hf56:=im' hf56 c113
    refine Am (BZ [] O111 ?_)
    refine x_pre (fuel:=1) [] [(0,true),(1,true),(2,true),(3,true),(4,true),(5,true),(6,true),(7,true),(8,true),(9,true),(10,true),(11,true),(12,true),(13,true),(14,true)] (by kernel_rfl) rfl ?_
    refine h_mv rfl rfl rfl (h_fa rfl rfl rfl (h_ldC (hc:=fun w' ⟨O',hq⟩=>Blk.cell (i:=0) ((h80.st hq (by decide)).1) rfl) rfl rfl rfl ?_))
    obtain ⟨a114,e115,hf56⟩:=bs hf56
    obtain ⟨p117,x116⟩:=AS e115
    obtain ⟨b118,o119,ce120,hA121,hF124,hl122,hd123,rfl⟩:=h63.elemF x116
    refine h_iaE (hA:=hA121) (hj:=(Int.toNat_of_nonneg p117).symm) (hlt:=hl122) rfl rfl rfl rfl ?_
    refine h_ldC (hc:=fun w' ⟨O',hq⟩=>cat0 (BB (hq.agree (i:=4) (by decide)) hF124 hd123)) rfl rfl rfl ?_
    refine h_mv rfl rfl rfl (h_mv rfl rfl rfl ?_)
    obtain ⟨a125,e126,hf56⟩:=bs hf56
    obtain ⟨b127,o128,ce129,hA130,hF133,hl131,hd132,rfl,r134⟩:=hx1.elem e126
    refine h_iaE (hA:=hA130) (hj:=rfl) (hlt:=hl131) rfl rfl rfl rfl ?_
    refine h_ldC (hc:=fun w' ⟨O',hq⟩=>cat0 (BB (hq.agree (i:=0) (by decide)) hF133 hd132)) rfl rfl rfl ?_
    refine h_cvU rfl rfl rfl ?_
    refine h_fa rfl rfl rfl (h_ldC (hc:=fun w' ⟨O',hq⟩=>Blk.cell (i:=1) ((h80.st hq (by decide)).1) rfl) rfl rfl rfl ?_)
    obtain ⟨n135,e136,hf56⟩:=bs hf56
    refine h_ush (a:=(BitVec.ofInt 64 a125)) (he:=e136) rfl rfl rfl rfl ?_
    refine h_uor (a:=a114) (b:=n135) rfl rfl rfl rfl ?_
    obtain ⟨a137,e138,hf56⟩:=bs hf56
    obtain ⟨p140,x139⟩:=AS e138
    obtain ⟨b141,o142,ce143,hA144,hF147,hl145,hd146,rfl⟩:=h63.elemF x139
    refine h_iaE (hA:=hA144) (hj:=(Int.toNat_of_nonneg p140).symm) (hlt:=hl145) rfl rfl rfl rfl ?_
    refine AK ?_
    refine x_one (i:=15) (by kernel_rfl) rfl ?_
    refine DI rfl h63 (a:=(a114 ||| n135)) vU64 hA144 rfl rfl (AJ x139) fun w148 S149 h63=>?_
    replace h45:=h45.stS S149 (by decide) (by decide)
    refine x_end (by kernel_rfl) ?_
    refine x_nil (by kernel_rfl) ?_
    obtain rfl:=sm hf56
    refine (?_:Exists _)
    replace hB:=hB.st S149
    replace hx1:=hx1.st S149
    replace h42:=h42.st S149
    exact ⟨_,(),rfl,⟨rfl,rfl,rfl,rfl,rfl,trivial⟩,_,hB,hx1,h63,h45,h42⟩
  replace hB:=((hB.st S8).st S35).st S41
  rintro l150 w151 ⟨s154,x155,rfl,hs153,O152,hB,h63,h42⟩
  replace hm:=Bj hm
  refine AT _ hs153 ?_
  refine Ah (Ae (o_mv rfl rfl (o_as rfl rfl (o_as rfl rfl (o_z ?_)))))
  refine Au ?_
  obtain ⟨O156,S157,h63⟩:=h63.freeze
  obtain rfl:=sm hm
  replace hB:=hB.st S157
  obtain ⟨O',hS',hz,hl⟩:=hE.leave (fun q=>if q=2 then i0 else 0) rfl hB
  replace h42:=h42.st S157
  exact ret2 rfl (AF rfl) (AF rfl) ⟨O',hS',_,_,(Ob.leave h42 hz (hl 2 (by decide) (by decide)) hx0.2),rfl,(Vb.mono h63 hz),(vErr (show inI64 0 from by decide))⟩
noncomputable def Cd (x0:Pkr) (x1:List U64):Option ((List Int)×Err) :=
  if (x1.length:Int)≠x0.words then (some (([]:List Int),(⟨2⟩:Err))) else (bnd (mkI 8 (0:Int) (x0.fields.length:Int)) fun u25=>bnd (BU x1) fun q38=>bnd (rng (ρ:=(List Int)×Err) (fun (k60:Nat) (a61:PFd) (s58:(List Int)×(List U64))=>bnd (Cw a61 x1) fun q97=>bnd (s58.1[k60]?) fun a105=>bnd ((s58.1.set k60 q97)[k60]?) fun a117=>if a61.size≤a117 then (some (.ret (([]:List Int),(⟨2⟩:Err)))) else (bnd (atI s58.2 a61.word) fun a128=>bnd (Cg a61) fun q139=>bnd (atI s58.2 a61.word) fun a146=>some (.next ((s58.1.set k60 q97),(s58.2.set (a61.word:Int).toNat (a128 &&& ~~~q139)))))) x0.fields 0 (u25,q38)) fun res56=>fin res56 fun (s163:(List Int)×(List U64))=>bnd (rng (ρ:=(List Int)×Err) (fun (k171:Nat) (a172:U64) (s169:Unit)=>bnd (s163.2[k171]?) fun a182=>if (a182.toNat:Int)≠((0:U64).toNat:Int) then (some (.ret (([]:List Int),(⟨2⟩:Err)))) else (some (.next ()))) q38 0 ()) fun res167=>fin res167 fun (s196:Unit)=>some (s163.1,(⟨0⟩:Err)))
theorem Gy {w:World} {O:Lab} {p0 i0:Nat} {x0:Pkr} (hx0:Ob i0 w O (.pointer (some ⟨p0,0,none⟩)) x0) {vx1:Value} {x1:List U64} (hx1:Vb w (Fr 0 w O) vx1 x1) {r:(List Int)×Err} (hm:Cd x0 x1=some r) :
    Fn Try.prog 62 [(.pointer (some ⟨p0,0,none⟩)),vx1] w fun v w'=>∃ O',St (eT i0) w O w' O'∧∃ v0 v1:Value,Ob i0 w' O' (.pointer (some ⟨p0,0,none⟩)) x0∧v=.tuple #[v0,v1]∧Vb w' (Fr 0 w' O') v0 r.1∧Vb w' (Fr 0 w' O') v1 r.2:=by
 obtain ⟨O0,hE,hz0,hl2⟩:=ent1 (w:=w) (O:=O) hx0.2
 have hx0':=Ob.leave hx0 hz0 hl2 (j:=2) (by decide)
 have hB:Bm w O0 w O0:=Bm.refl
 replace hx1:=hx1.mono hz0
 obtain ⟨A3,c4,rfl⟩:=hx1.form
 refine AL Try.func62 rfl Try.ntmps62 rfl ?_
 unfold Cd at hm
 refine Ah (Ae (o_as rfl rfl (o_as rfl rfl (o_z ?_))))
 refine Ah (Ah (Ae (o_mv rfl rfl (o_pn rfl rfl ?_))))
 refine o_z ?_
 refine Aj rfl (Am (Ah (Ah (Ae (o_mv rfl rfl (o_ln rfl rfl ?_))))))
 have l6:x1.length≤9223372036854775807:=Nat.le_trans hx1.len.2.1 hx1.len.2.2
 have r5:inI64 (x1.length:Int):=rngNat l6
 refine o_mv rfl rfl (o_nc rfl rfl ?_)
 obtain ⟨O7,v11,S8,ha10,h9,h12,r16⟩:=Pkr.opn hx0' 2 3 (by decide)
 obtain ⟨A13,c14,rfl⟩:=h12.form
 refine o_fa rfl rfl (o_ld (hc:=Blk.cell (i:=1) (h9.1) rfl) rfl rfl ?_)
 refine o_neS rfl rfl rfl (fun c17=>?_) fun c17=>?_
 ·
  replace hm:=ip hm c17
  refine o_z ?_
  refine Ar rfl (Ah (Ae (o_miE rfl rfl ?_)))
  refine o_as rfl rfl (o_as rfl rfl (o_z ?_))
  refine Au ?_
  obtain ⟨O18,S19,hz21,ha22,h20⟩:=Pkr.shut (x:=x0) (l0:=2) (l1:=3) (by decide) h9 h12 r16
  obtain rfl:=sm hm
  replace hB:=(hB.st S8).st S19
  obtain ⟨O',hS',hz,hl⟩:=hE.leave (fun q=>if q=2 then i0 else 0) rfl hB
  exact ret2 rfl (AF rfl) (AF rfl) ⟨O',hS',_,_,(Ob.leave h20 hz (hl 2 (by decide) (by decide)) hx0.2),rfl,(Vb.mono (Vb.nil _ _) hz),(vErr (by decide))⟩
 ·
  replace hm:=im hm c17
  refine o_z ?_
  refine Aj rfl (Am (Ah (Ae (o_mv rfl rfl (o_nc rfl rfl (o_fa rfl rfl (o_ld (hc:=Blk.cell (i:=0) (h9.1) rfl) rfl rfl ?_)))))))
  refine o_ln rfl rfl ?_
  have l24:x0.fields.length≤9223372036854775807:=Nat.le_trans h12.len.2.1 h12.len.2.2
  have r23:inI64 (x0.fields.length:Int):=rngNat l24
  obtain ⟨u25,e26,hm⟩:=bs hm
  obtain ⟨m27,e28,e29,e30,e31⟩:=Jn e26
  refine KX 4 (by decide) O7 (z0:=(0:Int)) rfl rfl rfl rfl rfl e28 (vInt (show inI64 0 from by decide)) e29 e30 rfl fun g32 w33 O34 S35 h36=>?_
  rw [← e31] at h36 ⊢
  refine o_as rfl rfl (o_z ?_)
  refine Ah (Ae (o_mv rfl rfl ?_))
  obtain ⟨q38,e39,hm⟩:=bs hm
  replace hx1:=(hx1.st S8).st S35
  refine Fd 5 (by decide) (O:=O34) (EM Fr.lt hx1 e39) rfl rfl fun A45 c46 w40 O41 S42 h43=>?_
  refine o_as rfl rfl (o_z ?_)
  refine Ah (Ah (Ae (o_mv rfl rfl (o_nc rfl rfl (o_fa rfl rfl ?_)))))
  replace h9:=(h9.st S35).st S42
  refine o_ld (hc:=Blk.cell (i:=0) (h9.1) rfl) rfl rfl ?_
  refine o_ln rfl rfl ?_
  replace h12:=(h12.st S35).st S42
  have l49:x0.fields.length≤9223372036854775807:=Nat.le_trans h12.len.2.1 h12.len.2.2
  have r48:inI64 (x0.fields.length:Int):=rngNat l49
  refine o_mv rfl rfl (o_z ?_)
  obtain ⟨O50,S51,hz53,ha54,h52⟩:=Pkr.shut (x:=x0) (l0:=2) (l1:=3) (by decide) h9 h12 r16
  have h55:=(h12.lend [3] (by decide)).shutS S51 hz53 ha54 [2] (by decide)
  obtain ⟨res56,hL57,hm⟩:=bs hm
  refine AN (aft res56 (fun (s58:(List Int)×(List U64)) (x59:Unit)=>[(6,(.slice (some ⟨g32,0,none⟩) u25.length m27)),(7,(.slice A45 q38.length c46))]) (fun s58 x59 w'=>∃ O':Lab,Bm w O0 w' O'∧Rw 4 w' O' 3 (.slice (some ⟨g32,0,none⟩) u25.length m27) s58.1∧Rw 5 w' O' 150 (.slice A45 q38.length c46) s58.2∧Ob 2 w' O' (.pointer (some ⟨p0,0,none⟩)) x0)) ?_ ?_
  ·
   refine Al ?_
   replace hB:=(((hB.st S8).st S35).st S42).st S51
   replace hx1:=(hx1.st S42).st S51
   replace h36:=(h36.st S42).st S51
   replace h43:=h43.st S51
   refine Ck (σ:=(List Int)×(List U64)) (X:=Unit) (x0.fields.length) hL57 rfl l49 (fun (s58:(List Int)×(List U64)) (x59:Unit)=>[(1,(.slice A3 x1.length c4)),(6,(.slice (some ⟨g32,0,none⟩) u25.length m27)),(7,(.slice A45 q38.length c46)),(34,(.slice A13 x0.fields.length c14))]) _ (fun s58 x59 w'=>∃ O':Lab,Bm w O0 w' O'∧Vb w' (Fr 0 w' O') (.slice A3 x1.length c4) x1∧Rw 4 w' O' 3 (.slice (some ⟨g32,0,none⟩) u25.length m27) s58.1∧Rw 5 w' O' 150 (.slice A45 q38.length c46) s58.2∧Vb w' (FrS [2] w' O') (.slice A13 x0.fields.length c14) x0.fields∧Ob 2 w' O' (.pointer (some ⟨p0,0,none⟩)) x0) _ () ⟨O50,hB,hx1,h36,h43,h55,h52⟩ ⟨rfl,rfl,rfl,rfl,rfl,rfl,trivial⟩ (fun _ _=>⟨rfl,rfl⟩) (fun _ _=>⟨rfl,rfl,trivial⟩) (fun _ _ _ ⟨O',hB,hx1,h75,h77,h55,h52⟩=>⟨O',hB,h75,h77,h52⟩) ⟨rfl,rfl,rfl⟩ ⟨rfl,rfl⟩ ?_
   rintro k60 a61 s58 x59 w62 cc64 hx65 ⟨O63,hB,hx1,h75,h77,h55,h52⟩ hf66 hret67 hbrk68
   have rk60:inI64 (k60:Int):=rngK hx65 l49
   refine Ah (Ae (o_mv rfl rfl ?_))
   obtain ⟨b79,o80,ce81,hA82,hl83,hd84,rfl,r86,r87,r88,r89⟩:=h55.elem' hx65
   refine o_iaE (hA:=hA82) (hj:=rfl) (hlt:=hl83) rfl rfl rfl ?_
   refine o_la (hl:=rfl) (hc:=hd84) rfl rfl ?_
   refine Bz 6 O63 rfl fun g90 w91 O92 S93 h94=>?_
   replace h55:=h55.stS S93 id (fun _ _=>id)
   refine o_as rfl rfl (AR h94 rfl rfl rfl (Nat.le_of_ble_eq_true rfl) (by first|exact allOne rfl|simp [Value.cells,Value.oneCell',AM]) fun w95 S96 h94=>?_)
   replace h94:Lc 6 w95 O92 g90 152 [(.int .i64 a61.word),(.int .i64 a61.bit),(.int .i64 a61.width),(.int .i64 a61.size)]:=h94
   replace h55:=h55.stS S96 (by decide) (by decide)
   refine o_z ?_
   refine Ah (Ae (o_mv rfl rfl (o_mv rfl rfl (o_la (hl:=rfl) (hc:=(h94.1).cellsAt) rfl rfl ?_))))
   refine o_mv rfl rfl ?_
   obtain ⟨q97,e98,hf66⟩:=bs hf66
   replace hx1:=(hx1.st S93).st S96
   refine BG (O:=O92) (A:=All w95) (R:=fun w' F v=>Vb w' F v q97) (HT (fun _ h=>h) (Vb.mono (F:=Fr 0 w95 O92) (Vb.ofAgg (cs:=[(.int .i64 a61.word),(.int .i64 a61.bit),(.int .i64 a61.width),(.int .i64 a61.size)]) (x:=a61) rfl ⟨rfl,r86,r87,r88,r89⟩) Fr.lt) (Vb.mono (F:=Fr 0 w95 O92) hx1 Fr.lt) e98) rfl rfl fun v103 w99 O100 S101 h102=>?_
   obtain ⟨rfl,r104⟩:=h102.int
   replace h55:=h55.stS S101 id (fun _ _=>id)
   obtain ⟨a105,e106,hf66⟩:=bs hf66
   replace h75:=((h75.st S93).st S96).st S101
   obtain ⟨b107,o108,ce109,hA110,hl111,hd112,rfl,r114⟩:=h75.elem e106
   refine o_iaE (hA:=hA110) (hj:=rfl) (hlt:=hl111) rfl rfl rfl ?_
   refine DI rfl h75 (a:=q97) (vInt r104) hA110 rfl rfl (AJ e106) fun w115 S116 h75=>?_
   replace h55:=h55.stS S116 (by decide) (by decide)
   refine o_z ?_
   refine Ah (Ah (BV (·=w115) [(0,true),(1,true),(2,true),(3,true),(4,true),(5,true),(6,true)] (by kernel_rfl) rfl (by kernel_rfl) rfl ?_))
   refine h_mv rfl rfl rfl (h_mv rfl rfl rfl ?_)
   obtain ⟨a117,e118,hf66⟩:=bs hf66
   obtain ⟨b119,o120,ce121,hA122,hl123,hd124,rfl,r126⟩:=h75.elem e118
   refine h_iaE (hA:=hA122) (hj:=rfl) (hlt:=hl123) rfl rfl rfl rfl ?_
   refine h_ldA (hc:=cat0 hd124) rfl rfl rfl ?_
   refine h_fa rfl rfl rfl ?_
   replace h94:=(h94.st S101).st S116
   refine h_ldA (hc:=Blk.cell (i:=3) (h94.1) rfl) rfl rfl rfl ?_
   refine h_geS rfl rfl rfl rfl (fun c127=>?_) fun c127=>?_
   ·
    replace hf66:=ip hf66 c127
    refine h_z ?_
    refine Ar rfl (Ah (Ae (o_miE rfl rfl ?_)))
    refine o_as rfl rfl (o_as rfl rfl (o_z ?_))
    refine Au ?_
    obtain rfl:=sm hf66
    obtain rfl:=hret67 _ rfl
    obtain rfl:=sm (Bw hm)
    replace hB:=(((hB.st S93).st S96).st S101).st S116
    obtain ⟨O',hS',hz,hl⟩:=hE.leave (fun q=>if q=2 then i0 else 0) rfl hB
    replace h52:=(((h52.st S93).st S96).st S101).st S116
    exact ret2 rfl (AF rfl) (AF rfl) ⟨O',hS',_,_,(Ob.leave h52 hz (hl 2 (by decide) (by decide)) hx0.2),rfl,(Vb.mono (Vb.nil _ _) hz),(vErr (by decide))⟩
   ·
    replace hf66:=im hf66 c127
    refine h_z ?_
    refine Aj rfl (Am (BZ [(6,[])] O100 ?_))
    refine x_pre (fuel:=4) [] [(0,true),(1,true),(2,true),(3,true),(4,true),(5,true)] (by kernel_rfl) rfl ?_
    refine h_mv rfl rfl rfl (h_fa rfl rfl rfl (h_ldC (hc:=fun w' ⟨O',hq⟩=>Blk.cell (i:=0) ((h94.st hq (by decide)).1) rfl) rfl rfl rfl ?_))
    obtain ⟨a128,e129,hf66⟩:=bs hf66
    obtain ⟨p131,x130⟩:=AS e129
    replace h77:=(((h77.st S93).st S96).st S101).st S116
    obtain ⟨b132,o133,ce134,hA135,hF138,hl136,hd137,rfl⟩:=h77.elemF x130
    refine h_iaE (hA:=hA135) (hj:=(Int.toNat_of_nonneg p131).symm) (hlt:=hl136) rfl rfl rfl rfl ?_
    refine h_ldC (hc:=fun w' ⟨O',hq⟩=>cat0 (BB (hq.agree (i:=5) (by decide)) hF138 hd137)) rfl rfl rfl ?_
    refine h_laB (hl:=rfl) (hb:=fun w' ⟨O',hq⟩=>((h94.st hq (by decide)).1).cellsAt) rfl rfl rfl ?_
    refine AK ?_
    refine x_one (i:=6) (by kernel_rfl) rfl ?_
    obtain ⟨q139,e140,hf66⟩:=bs hf66
    refine BG (O:=O100) (A:=All w115) (R:=fun w' F v=>Vb w' F v q139) (Fl (fun _ h=>h) (Vb.mono (F:=Fr 0 w115 O100) (Vb.ofAgg (cs:=[(.int .i64 a61.word),(.int .i64 a61.bit),(.int .i64 a61.width),(.int .i64 a61.size)]) (x:=a61) rfl ⟨rfl,r86,r87,r88,r89⟩) Fr.lt) e140) rfl rfl fun v145 w141 O142 S143 h144=>?_
    obtain rfl:=h144.u64
    have hZ:=S143.lst [] (fun _ h=>h.elim)
    replace h55:=h55.stS S143 id (fun _ _=>id)
    refine x_go [] hZ (by kernel_rfl) ?_
    refine x_pre (fuel:=1) [] [(7,true),(8,true)] (by kernel_rfl) rfl ?_
    refine h_uns (a:=a128) (b:=q139) rfl rfl rfl rfl ?_
    obtain ⟨a146,e147,hf66⟩:=bs hf66
    obtain ⟨p149,x148⟩:=AS e147
    replace h77:=h77.st S143
    obtain ⟨b150,o151,ce152,hA153,hF156,hl154,hd155,rfl⟩:=h77.elemF x148
    refine h_iaE (hA:=hA153) (hj:=(Int.toNat_of_nonneg p149).symm) (hlt:=hl154) rfl rfl rfl rfl ?_
    refine AK ?_
    refine x_one (i:=9) (by kernel_rfl) rfl ?_
    refine DI rfl h77 (a:=(a128 &&& ~~~q139)) vU64 hA153 rfl rfl (AJ x148) fun w157 S158 h77=>?_
    replace h55:=h55.stS S158 (by decide) (by decide)
    refine x_end (by kernel_rfl) ?_
    refine x_nil (by kernel_rfl) ?_
    obtain rfl:=sm hf66
    refine (?_:Exists _)
    replace hB:=(((((hB.st S93).st S96).st S101).st S116).st S143).st S158
    replace hx1:=(((hx1.st S101).st S116).st S143).st S158
    replace h52:=(((((h52.st S93).st S96).st S101).st S116).st S143).st S158
    replace h75:=(h75.st S143).st S158
    exact ⟨_,(),rfl,⟨rfl,rfl,rfl,rfl,rfl,rfl,trivial⟩,_,hB,hx1,h75,h77,h55,h52⟩
  replace hB:=(((hB.st S8).st S35).st S42).st S51
  rintro l159 w160 ⟨s163,x164,rfl,hs162,O161,hB,h75,h77,h52⟩
  replace hm:=Bj hm
  refine AT _ hs162 ?_
  refine Ah (Ah (Ae (o_mv rfl rfl (o_ln rfl rfl ?_))))
  have l166:q38.length≤9223372036854775807:=Nat.le_trans h77.len.2.1 h77.len.2.2
  have r165:inI64 (q38.length:Int):=rngNat l166
  refine o_mv rfl rfl (o_z ?_)
  obtain ⟨res167,hL168,hm⟩:=bs hm
  refine AN (aft res167 (fun (s169:Unit) (x170:Unit)=>[(6,(.slice (some ⟨g32,0,none⟩) u25.length m27))]) (fun s169 x170 w'=>∃ O':Lab,Bm w O0 w' O'∧Rw 4 w' O' 3 (.slice (some ⟨g32,0,none⟩) u25.length m27) s163.1∧Ob 2 w' O' (.pointer (some ⟨p0,0,none⟩)) x0)) ?_ ?_
  ·
   refine Al (Ck (σ:=Unit) (X:=Unit) (q38.length) hL168 rfl l166 (fun (s169:Unit) (x170:Unit)=>[(6,(.slice (some ⟨g32,0,none⟩) u25.length m27)),(65,(.slice A45 q38.length c46))]) _ (fun s169 x170 w'=>∃ O':Lab,Bm w O0 w' O'∧Rw 4 w' O' 3 (.slice (some ⟨g32,0,none⟩) u25.length m27) s163.1∧Rw 5 w' O' 150 (.slice A45 q38.length c46) s163.2∧Ob 2 w' O' (.pointer (some ⟨p0,0,none⟩)) x0) _ () ⟨O161,hB,h75,h77,h52⟩ ⟨rfl,rfl,rfl,rfl,trivial⟩ (fun _ _=>⟨rfl,rfl⟩) (fun _ _=>⟨rfl,trivial⟩) (fun _ _ _ ⟨O',hB,h75,h77,h52⟩=>⟨O',hB,h75,h52⟩) ⟨rfl,rfl,rfl⟩ ⟨rfl,rfl⟩ ?_)
   rintro k171 a172 s169 x170 w173 cc175 hx176 ⟨O174,hB,h75,h77,h52⟩ hf177 hret178 hbrk179
   have rk171:inI64 (k171:Int):=rngK hx176 l166
   refine Ah (Ae ?_)
   obtain ⟨a182,e183,hf177⟩:=bs hf177
   obtain ⟨b184,o185,ce186,hA187,hl188,hd189,rfl⟩:=h77.elem e183
   refine o_iaE (hA:=hA187) (hj:=rfl) (hlt:=hl188) rfl rfl rfl ?_
   refine o_ld (hc:=cat0 hd189) rfl rfl ?_
   refine o_as rfl rfl (o_z ?_)
   refine Ah (Ae (o_mv rfl rfl (o_neS rfl rfl rfl (fun c191=>?_) fun c191=>?_)))
   ·
    replace hf177:=ip hf177 c191
    refine o_z ?_
    refine Ar rfl (Ah (Ae (o_miE rfl rfl ?_)))
    refine o_as rfl rfl (o_as rfl rfl (o_z ?_))
    refine Au ?_
    obtain rfl:=sm hf177
    obtain rfl:=hret178 _ rfl
    obtain rfl:=sm (Bw hm)
    obtain ⟨O',hS',hz,hl⟩:=hE.leave (fun q=>if q=2 then i0 else 0) rfl hB
    exact ret2 rfl (AF rfl) (AF rfl) ⟨O',hS',_,_,(Ob.leave h52 hz (hl 2 (by decide) (by decide)) hx0.2),rfl,(Vb.mono (Vb.nil _ _) hz),(vErr (by decide))⟩
   ·
    replace hf177:=im hf177 c191
    refine o_z ?_
    refine Aj rfl (Am ?_)
    obtain rfl:=sm hf177
    refine (?_:Exists _)
    exact ⟨_,(),rfl,⟨rfl,rfl,rfl,rfl,trivial⟩,_,hB,h75,h77,h52⟩
  rintro l192 w193 ⟨s196,x197,rfl,hs195,O194,hB,h75,h52⟩
  replace hm:=Bj hm
  refine AT _ hs195 ?_
  refine Ah (Ae (o_mv rfl rfl (o_as rfl rfl (o_as rfl rfl (o_z ?_)))))
  refine Au ?_
  obtain ⟨O198,S199,h75⟩:=h75.freeze
  obtain rfl:=sm hm
  replace hB:=hB.st S199
  obtain ⟨O',hS',hz,hl⟩:=hE.leave (fun q=>if q=2 then i0 else 0) rfl hB
  replace h52:=h52.st S199
  exact ret2 rfl (AF rfl) (AF rfl) ⟨O',hS',_,_,(Ob.leave h52 hz (hl 2 (by decide) (by decide)) hx0.2),rfl,(Vb.mono h75 hz),(vErr (show inI64 0 from by decide))⟩
noncomputable def BA (x0:Pkr) (x1:List U64):Option Int :=
  bnd (rng (ρ:=Int) (fun (k13:Nat) (a14:U64) (s11:U64)=>bnd (shrU ((s11 ^^^ a14) * (13787848793156543929:U64)) 29) fun n31=>some (.next (((s11 ^^^ a14) * (13787848793156543929:U64)) ^^^ n31))) x1 0 ((BitVec.ofInt 64 (x1.length:Int)) + (11400714819323198485:U64))) fun res9=>fin res9 fun (s37:U64)=>bnd (shrU s37 2) fun n39=>some n39.toInt
theorem Hi {w:World} {O:Lab} {p0 i0:Nat} {x0:Pkr} (hx0:Ob i0 w O (.pointer (some ⟨p0,0,none⟩)) x0) {vx1:Value} {x1:List U64} (hx1:Vb w (Fr 0 w O) vx1 x1) {r:Int} (hm:BA x0 x1=some r) :
    Fn Try.prog 81 [(.pointer (some ⟨p0,0,none⟩)),vx1] w fun v w'=>∃ O',St (eT i0) w O w' O'∧Ob i0 w' O' (.pointer (some ⟨p0,0,none⟩)) x0∧Vb w' (Fr 0 w' O') v r:=by
 obtain ⟨O0,hE,hz0,hl2⟩:=ent1 (w:=w) (O:=O) hx0.2
 have hx0':=Ob.leave hx0 hz0 hl2 (j:=2) (by decide)
 have hB:Bm w O0 w O0:=Bm.refl
 replace hx1:=hx1.mono hz0
 obtain ⟨A3,c4,rfl⟩:=hx1.form
 refine AL Try.func81 rfl Try.ntmps81 rfl ?_
 unfold BA at hm
 refine Ah (Ae (o_as rfl rfl (o_z ?_)))
 refine Ah (Ah (Ae (o_mv rfl rfl (o_pn rfl rfl ?_))))
 refine o_z ?_
 refine Aj rfl (Am (Ah (Ae (o_mv rfl rfl (o_ln rfl rfl ?_)))))
 have l6:x1.length≤9223372036854775807:=Nat.le_trans hx1.len.2.1 hx1.len.2.2
 have r5:inI64 (x1.length:Int):=rngNat l6
 refine o_cvU rfl rfl ?_
 refine o_uad (a:=(BitVec.ofInt 64 (x1.length:Int))) (b:=(11400714819323198485:U64)) rfl rfl rfl ?_
 refine o_as rfl rfl (o_z ?_)
 refine Ah (Ah (Ae (o_mv rfl rfl (o_ln rfl rfl ?_))))
 have l8:x1.length≤9223372036854775807:=Nat.le_trans hx1.len.2.1 hx1.len.2.2
 have r7:inI64 (x1.length:Int):=rngNat l8
 refine o_mv rfl rfl (o_z ?_)
 obtain ⟨res9,hL10,hm⟩:=bs hm
 refine AN (aft res9 (fun (s11:U64) (x12:Unit)=>[(5,(.int .u64 s11.toNat))]) (fun s11 x12 w'=>∃ O':Lab,Bm w O0 w' O'∧Ob 2 w' O' (.pointer (some ⟨p0,0,none⟩)) x0)) ?_ ?_
 ·
  refine Al (Ck (σ:=U64) (X:=Unit) (x1.length) hL10 rfl l8 (fun (s11:U64) (x12:Unit)=>[(5,(.int .u64 s11.toNat)),(14,(.slice A3 x1.length c4))]) _ (fun s11 x12 w'=>∃ O':Lab,Bm w O0 w' O'∧Vb w' (Fr 0 w' O') (.slice A3 x1.length c4) x1∧Ob 2 w' O' (.pointer (some ⟨p0,0,none⟩)) x0) _ () ⟨O0,hB,hx1,hx0'⟩ ⟨rfl,rfl,rfl,rfl,trivial⟩ (fun _ _=>⟨rfl,rfl⟩) (fun _ _=>⟨rfl,trivial⟩) (fun _ _ _ ⟨O',hB,hx1,hx0'⟩=>⟨O',hB,hx0'⟩) ⟨rfl,rfl,rfl⟩ ⟨rfl,rfl⟩ ?_)
  rintro k13 a14 s11 x12 w15 cc17 hx18 ⟨O16,hB,hx1,hx0'⟩ hf19 hret20 hbrk21
  have rk13:inI64 (k13:Int):=rngK hx18 l8
  refine Ah (Ae ?_)
  obtain ⟨b24,o25,ce26,hA27,hl28,hd29,rfl⟩:=hx1.elem' hx18
  refine o_iaE (hA:=hA27) (hj:=rfl) (hlt:=hl28) rfl rfl rfl ?_
  refine o_ld (hc:=cat0 hd29) rfl rfl ?_
  refine o_as rfl rfl (o_z ?_)
  refine Ah (Ae (o_mv rfl rfl (o_mv rfl rfl (o_uxo (a:=s11) (b:=a14) rfl rfl rfl ?_))))
  refine o_as rfl rfl (o_z ?_)
  refine Ah (Ae (o_mv rfl rfl (o_uml (a:=(s11 ^^^ a14)) (b:=(13787848793156543929:U64)) rfl rfl rfl ?_)))
  refine o_as rfl rfl (o_z ?_)
  refine Ae (o_mv rfl rfl (o_mv rfl rfl ?_))
  obtain ⟨n31,e32,hf19⟩:=bs hf19
  refine o_usr (a:=((s11 ^^^ a14) * (13787848793156543929:U64))) (he:=e32) rfl rfl rfl ?_
  refine o_uxo (a:=((s11 ^^^ a14) * (13787848793156543929:U64))) (b:=n31) rfl rfl rfl ?_
  refine o_as rfl rfl (o_z ?_)
  obtain rfl:=sm hf19
  refine (?_:Exists _)
  exact ⟨_,(),rfl,⟨rfl,rfl,rfl,rfl,trivial⟩,_,hB,hx1,hx0'⟩
 rintro l33 w34 ⟨s37,x38,rfl,hs36,O35,hB,hx0'⟩
 replace hm:=Bj hm
 refine AT _ hs36 ?_
 refine Ah (Ae (o_mv rfl rfl ?_))
 obtain ⟨n39,e40,hm⟩:=bs hm
 refine o_usr (a:=s37) (he:=e40) rfl rfl rfl ?_
 refine o_cvI (a:=n39) rfl rfl ?_
 refine o_as rfl rfl (o_z ?_)
 refine Au ?_
 obtain rfl:=sm hm
 obtain ⟨O',hS',hz,hl⟩:=hE.leave (fun q=>if q=2 then i0 else 0) rfl hB
 exact ret1v rfl (AF rfl) ⟨O',hS',(Ob.leave hx0' hz (hl 2 (by decide) (by decide)) hx0.2),(vInt (toIntR _))⟩
noncomputable def Bo (x0:List U64) (x1:List U64):Option Bool :=
  if (x0.length:Int)≠(x1.length:Int) then (some false) else (bnd (rng (ρ:=Bool) (fun (k18:Nat) (a19:U64) (s16:Unit)=>bnd (x1[k18]?) fun a36=>if (a19.toNat:Int)≠(a36.toNat:Int) then (some (.ret false)) else (some (.next ()))) x0 0 ()) fun res14=>fin res14 fun (s50:Unit)=>some true)
theorem EN {w:World} {A:Nat→Prop} (hA:∀ k,A k→k < w.heap.size) {vx0:Value} {x0:List U64} (hx0:Vb w A vx0 x0) {vx1:Value} {x1:List U64} (hx1:Vb w A vx1 x1) {r:Bool} (hm:Bo x0 x1=some r) :
    Fn Try.prog 82 [vx0,vx1] w fun v w'=>Ext w w'∧Vb w' (upA A w w') v r:=by
 obtain ⟨O,hB,hA0⟩:=enter hA
 replace hx0:=hx0.mono hA0
 obtain ⟨A3,c4,rfl⟩:=hx0.form
 replace hx1:=hx1.mono hA0
 obtain ⟨A5,c6,rfl⟩:=hx1.form
 refine AL Try.func82 rfl Try.ntmps82 rfl ?_
 unfold Bo at hm
 refine Ah (Ae (o_as rfl rfl (o_z ?_)))
 refine Ah (Ah (Ae (o_mv rfl rfl (o_ln rfl rfl ?_))))
 have l8:x0.length≤9223372036854775807:=Nat.le_trans hx0.len.2.1 hx0.len.2.2
 have r7:inI64 (x0.length:Int):=rngNat l8
 refine o_mv rfl rfl (o_ln rfl rfl ?_)
 have l10:x1.length≤9223372036854775807:=Nat.le_trans hx1.len.2.1 hx1.len.2.2
 have r9:inI64 (x1.length:Int):=rngNat l10
 refine o_neS rfl rfl rfl (fun c11=>?_) fun c11=>?_
 ·
  replace hm:=ip hm c11
  refine o_z ?_
  refine Ar rfl (Ah (Ae (o_as rfl rfl (o_z ?_))))
  refine Au ?_
  obtain rfl:=sm hm
  exact ret1v rfl (AF rfl) ⟨hB.ext,vBool⟩
 ·
  replace hm:=im hm c11
  refine o_z ?_
  refine Aj rfl (Am (Ah (Ah (Ae (o_mv rfl rfl (o_ln rfl rfl ?_))))))
  have l13:x0.length≤9223372036854775807:=Nat.le_trans hx0.len.2.1 hx0.len.2.2
  have r12:inI64 (x0.length:Int):=rngNat l13
  refine o_mv rfl rfl (o_z ?_)
  obtain ⟨res14,hL15,hm⟩:=bs hm
  refine AN (aft res14 (fun (s16:Unit) (x17:Unit)=>[]) (fun s16 x17 w'=>∃ O':Lab,Bs w A w' O')) ?_ ?_
  ·
   refine Al (Ck (σ:=Unit) (X:=Unit) (x0.length) hL15 rfl l13 (fun (s16:Unit) (x17:Unit)=>[(0,(.slice A3 x0.length c4)),(1,(.slice A5 x1.length c6))]) _ (fun s16 x17 w'=>∃ O':Lab,Bs w A w' O'∧Vb w' (Fr 0 w' O') (.slice A3 x0.length c4) x0∧Vb w' (Fr 0 w' O') (.slice A5 x1.length c6) x1) _ () ⟨O,hB,hx0,hx1⟩ ⟨rfl,rfl,rfl,rfl,trivial⟩ (fun _ _=>⟨rfl,rfl⟩) (fun _ _=>trivial) (fun _ _ _ ⟨O',hB,hx0,hx1⟩=>⟨O',hB⟩) ⟨rfl,rfl,rfl⟩ ⟨rfl,rfl⟩ ?_)
   rintro k18 a19 s16 x17 w20 cc22 hx23 ⟨O21,hB,hx0,hx1⟩ hf24 hret25 hbrk26
   have rk18:inI64 (k18:Int):=rngK hx23 l13
   refine Ah (Ae (o_mv rfl rfl (o_as rfl rfl (o_z ?_))))
   refine Ah (BV (·=w20) [(0,true),(1,true),(2,true),(3,true),(4,true),(5,true),(6,true),(7,true),(8,true)] (by kernel_rfl) rfl (by kernel_rfl) rfl ?_)
   refine h_mv rfl rfl rfl (h_mv rfl rfl rfl ?_)
   obtain ⟨b29,o30,ce31,hA32,hl33,hd34,rfl⟩:=hx0.elem' hx23
   refine h_iaE (hA:=hA32) (hj:=rfl) (hlt:=hl33) rfl rfl rfl rfl ?_
   refine h_ldA (hc:=cat0 hd34) rfl rfl rfl ?_
   refine h_mv rfl rfl rfl (h_mv rfl rfl rfl ?_)
   obtain ⟨a36,e37,hf24⟩:=bs hf24
   obtain ⟨b38,o39,ce40,hA41,hl42,hd43,rfl⟩:=hx1.elem' e37
   refine h_iaE (hA:=hA41) (hj:=rfl) (hlt:=hl42) rfl rfl rfl rfl ?_
   refine h_ldA (hc:=cat0 hd43) rfl rfl rfl ?_
   refine h_neS rfl rfl rfl rfl (fun c45=>?_) fun c45=>?_
   ·
    replace hf24:=ip hf24 c45
    refine h_z ?_
    refine Ar rfl (Ah (Ae (o_as rfl rfl (o_z ?_))))
    refine Au ?_
    obtain rfl:=sm hf24
    obtain rfl:=hret25 _ rfl
    obtain rfl:=sm (Bw hm)
    exact ret1v rfl (AF rfl) ⟨hB.ext,vBool⟩
   ·
    replace hf24:=im hf24 c45
    refine h_z ?_
    refine Aj rfl (Am ?_)
    obtain rfl:=sm hf24
    refine (?_:Exists _)
    exact ⟨_,(),rfl,⟨rfl,rfl,rfl,rfl,trivial⟩,_,hB,hx0,hx1⟩
  rintro l46 w47 ⟨s50,x51,rfl,hs49,O48,hB⟩
  replace hm:=Bj hm
  refine AT _ hs49 ?_
  refine Ah (Ae (o_as rfl rfl (o_z ?_)))
  refine Au ?_
  obtain rfl:=sm hm
  exact ret1v rfl (AF rfl) ⟨hB.ext,vBool⟩
end
section
open Go Go.RowKit
class TMap (P:Program) (t:TypeId) (k e:outParam TypeId):Prop where eq:P.underlying t=some (.map k e)
class MKey (K:Type) where
  dec:DecidableEq K
  enc:K→Value
  desc:TypeDesc
  key:∀ a,MapKept.IsKey desc (enc a)
  inj:∀ a b,enc a=enc b→a=b
class TKey (P:Program) (t:TypeId) (K:Type) [MKey K]:Prop where eq:P.underlying t=some (MKey.desc K)
instance:MKey Int where
  dec:=inferInstance
  enc a:=.int .i64 a
  desc:=.int .i64
  key _:=rfl
  inj _ _ h:=by injection h
section
variable {K V : Type} [MKey K]
instance keyDec:DecidableEq K:=MKey.dec
def mhas:List (K×V)→K→Bool
  | [],_=>false
  | p :: r,k=>if p.1=k then true else mhas r k
def mget (z:V):List (K×V)→K→V
  | [],_=>z
  | p :: r,k=>if p.1=k then p.2 else mget z r k
def mput:List (K×V)→K→V→List (K×V)
  | [],k,v=>[(k,v)]
  | p :: r,k,v=>if p.1=k then (k,v) :: r else p :: mput r k v
def midx:List (K×V)→K→Option Nat
  | [],_=>none
  | p :: r,k=>if p.1=k then some 0 else (midx r k).map (· + 1)
theorem EA (a:K):∀ (es:List MapEntry) (x:List (K×V)) (i:Nat),es.map (·.key)=x.map (fun p=>MKey.enc p.1) →
    (midx x a=none∧Instr.findNow (MKey.desc K) (MKey.enc a) es i=some none∧mhas x a=false∧(∀ z,mget z x a=z)∧∀ v,mput x a v=x ++ [(a,v)]) ∨
    ∃ j e p,midx x a=some j∧es[j]?=some e∧x[j]?=some p∧Instr.findNow (MKey.desc K) (MKey.enc a) es i=some (some (i + j,e.val))∧e.key=MKey.enc a∧mhas x a=true∧(∀ z,mget z x a=p.2)∧∀ v,mput x a v=x.set j (a,v)
  | [],[],_,_=>.inl ⟨rfl,rfl,rfl,fun _=>rfl,fun _=>rfl⟩
  | [],_ :: _,_,h=>by simp at h
  | _ :: _,[],_,h=>by simp at h
  | e :: es,p :: x,i,h=>by
    rw [List.map_cons,List.map_cons] at h
    injection h with h1 h2
    obtain ⟨r,hr,hiff⟩:=MapKept.sameNow_of_keys (MKey.key a) (MKey.key p.1)
    by_cases hp:p.1=a
    · have:r=true:=hiff.2 (by rw [hp])
      subst this
      refine .inr ⟨0,e,p,by simp [midx,hp],rfl,rfl,?_,by rw [h1,hp],by simp [mhas,hp],fun z=>by simp [mget,hp],fun v=>by simp [mput,hp]⟩
      simp [Instr.findNow,h1,hr]
    · have:r=false:=by
        cases r with
        | false=>rfl
        | true=>exact absurd (MKey.inj _ _ (hiff.1 rfl)).symm hp
      subst this
      rcases EA a es x (i + 1) h2 with ⟨g0,g1,g2,g3,g4⟩|⟨j,e',p',g0,g1,g2,g3,g4,g5,g6,g7⟩
      · exact .inl ⟨by simp [midx,hp,g0],by simp [Instr.findNow,h1,hr,g1],by simp [mhas,hp,g2],fun z=>by simp [mget,hp,g3],fun v=>by simp [mput,hp,g4]⟩
      · refine .inr ⟨j + 1,e',p',by simp [midx,hp,g0],by simpa using g1,by simpa using g2,?_,g4,by simp [mhas,hp,g5],fun z=>by simp [mget,hp,g6],fun v=>by simp [mput,hp,g7]⟩
        simp [Instr.findNow,h1,hr,g3];omega
end
def LkV (d:TypeDesc) (z:Value) (w:World) (r:Nat) (key v:Value) (b:Bool):Prop:=∃ es ck a,w.heap[r]?=some (.map es ck)∧Instr.findNow d key es.toList 0=some a∧v=(match a with|some p=>p.2|none=>z)∧b=a.isSome
theorem LkV.keep {d:TypeDesc} {z:Value} {w w':World} {r:Nat} {key v:Value} {b:Bool} (h:LkV d z w r key v b) (e:w'.heap[r]?=w.heap[r]?):LkV d z w' r key v b:=by
  obtain ⟨es,ck,a,h1,h2⟩:=h
  exact ⟨es,ck,a,e.trans h1,h2⟩
section
variable {P : Program} {l : Env} {w : World} {dst : Option Tmp} {ty : TypeId} {pos : String} {aft : Array Edge}
theorem ev_lk {K:Type} [MKey K] {t k e:TypeId} [ht:TMap P t k e] [hk:TKey P k K] {z:Value} {size bytes:Nat} [TInfo P e z size bytes] {x y:Operand} {r:Nat} {a:K} {v:Value} {b:Bool} (hx:opv l x=some (.map (some r))) (hy:opv l y=some (MKey.enc a)) (hv:LkV (MKey.desc K) z w r (MKey.enc a) v b) :
    Ev P ⟨dst,.lookup t x y false,ty,pos,aft,none⟩ l w v:=fun _ _ d ha=>by
  obtain ⟨es,ck,q,h1,h2,h3,h4⟩:=hv
  have hb:(dr w d).heap[r]?=some (.map es ck):=h1
  subst h3
  cases q with
  | none=>simp [execOp,ha.eval hx,ha.eval hy,Instr.lookup,run_underlying ht.eq,MapKept.run_getObj_map hb,MapKept.run_checkKey hk.eq (MKey.key a),MapKept.run_findKey hk.eq h2,Result.andThen,Gp (P:=P) (t:=e)]
  | some p=>simp [execOp,ha.eval hx,ha.eval hy,Instr.lookup,run_underlying ht.eq,MapKept.run_getObj_map hb,MapKept.run_checkKey hk.eq (MKey.key a),MapKept.run_findKey hk.eq h2,Result.andThen]
end
def putEs (es:List MapEntry) (ck:Nat) (key v:Value):Option Nat→List MapEntry
  | none=>es ++ [{ key:=key,val:=v,born:=ck }]
  | some j=>es.modify j fun e=>{ e with key:=key,val:=v }
section
variable {P : Program} {n : Nat} {ops : Array Oper} {Q : Post} {rest : List Oper} {l : Env} {w : World} {d : Tmp} {ty : TypeId} {pos : String} {aft : Array Edge}
theorem LF {K V:Type} [MKey K] {t k e:TypeId} [ht:TMap P t k e] [hk:TKey P k K] {x y u:Operand} {r ck:Nat} {a:K} {v:Value} {es:List MapEntry} {xs:List (K×V)} (hb:w.heap[r]?=some (.map es.toArray ck)) (hks:es.map (·.key)=xs.map (fun p=>MKey.enc p.1)) (hx:opv l x=some (.map (some r))) (hy:opv l y=some (MKey.enc a)) (hu:opv l u=some v)
    (h:∀ w' ck',w'.os=w.os→w'.tape=w.tape→w'.output=w.output→w'.heap.size=w.heap.size→w'.heap[r]?=some (.map (putEs es ck (MKey.enc a) v (midx xs a)).toArray ck')→(∀ q,q≠r→w'.heap[q]?=w.heap[q]?)→owp P n ops Q rest l w'):owp P n ops Q (⟨none,.mapUpdate t x y u,ty,pos,aft,none⟩ :: rest) l w:=fun ac d ha=>by
  refine wpList_plain rfl fun K' hK=>?_
  have hbd:(dr w d).heap[r]?=some (.map es.toArray ck):=hb
  unfold Oper.wp
  rcases EA a es xs 0 hks with ⟨g0,g1,_⟩|⟨j,e',p,g0,g1,g2,g3,g4,_⟩
  · have hr:(execOp ac.eval ⟨none,.mapUpdate t x y u,ty,pos,aft,none⟩).run P (dr w d)=.ok .skip { (dr w d) with heap:=(dr w d).heap.setIfInBounds r (.map (es.toArray.push { key:=MKey.enc a,val:=v,born:=ck }) (ck + 1)) }:=by
      simp [execOp,ha.eval hx,ha.eval hy,ha.eval hu,Instr.mapUpdate,run_underlying ht.eq,MapKept.run_getObj_map hbd,MapKept.run_checkKey hk.eq (MKey.key a),MapKept.run_findKey hk.eq g1,MapKept.run_setObj_map _ hbd,Result.andThen]
    rw [hr]
    refine hK _ _ (h { w with heap:=w.heap.setIfInBounds r (.map (es.toArray.push { key:=MKey.enc a,val:=v,born:=ck }) (ck + 1)) } (ck + 1) rfl rfl rfl (by simp) ?_ (fun q hq=>(MapKept.heap_set hb).2 q hq) _ d ha)
    rw [g0]
    simpa [putEs] using (MapKept.heap_set hb).1
  · have hj:es.toArray[j]?=some e':=by simpa using g1
    have hj':es[j]?=some e':=g1
    rw [Nat.zero_add] at g3
    have hr:(execOp ac.eval ⟨none,.mapUpdate t x y u,ty,pos,aft,none⟩).run P (dr w d)=.ok .skip { (dr w d) with heap:=(dr w d).heap.setIfInBounds r (.map (es.toArray.modify j fun e=>{ e with key:=MKey.enc a,val:=v }) ck) }:=by
      simp [execOp,ha.eval hx,ha.eval hy,ha.eval hu,Instr.mapUpdate,run_underlying ht.eq,MapKept.run_getObj_map hbd,MapKept.run_checkKey hk.eq (MKey.key a),MapKept.run_findKey hk.eq g3,hj',g4,MapKept.run_keyThatStays (MKey.key a),MapKept.run_setObj_map _ hbd,Result.andThen]
    rw [hr]
    refine hK _ _ (h { w with heap:=w.heap.setIfInBounds r (.map (es.toArray.modify j fun e=>{ e with key:=MKey.enc a,val:=v }) ck) } ck rfl rfl rfl (by simp) ?_ (fun q hq=>(MapKept.heap_set hb).2 q hq) _ d ha)
    rw [g0]
    have:=(MapKept.heap_set (o':=.map (es.toArray.modify j fun e=>{ e with key:=MKey.enc a,val:=v }) ck) hb).1
    simpa [putEs] using this
theorem Lh {t:TypeId} (hd:Nat.blt d n=true) (h:∀ w',Ext w w'→w'.heap.size=w.heap.size + 1→w'.heap[w.heap.size]?=some (.map #[] 0)→owp P n ops Q rest ((d,.map (some w.heap.size)) :: l) w'):owp P n ops Q (⟨some d,.makeMap t none,ty,pos,aft,none⟩ :: rest) l w :=
  Gb (w':=w.alloc (.map #[] 0)) (fun a e ha=>.inl ⟨.map (some w.heap.size),e,by simp [execOp,Instr.makeMap];exact ⟨rfl,rfl⟩,ha.put hd _⟩)
    (h _ ((Below.refl _ _).alloc (Nat.le_refl _) _) (by simp) (by show (w.heap.push _)[_]?=_;simp))
end
theorem KB {K V:Type} [MKey K] {es:List MapEntry} {xs:List (K×V)} (ck:Nat) (a:K) (v:Value) (y:V) (h:es.map (·.key)=xs.map (fun p=>MKey.enc p.1)):(putEs es ck (MKey.enc a) v (midx xs a)).map (·.key)=(mput xs a y).map (fun p=>MKey.enc p.1):=by
  rcases EA a es xs 0 h with ⟨g0,_,_,_,g4⟩|⟨j,e',p,g0,g1,g2,g3,g4,_,_,g7⟩
  · rw [g0,g4];simp [putEs,h]
  · rw [g0,g7]
    simp only [putEs,List.map_set,← h]
    apply List.ext_getElem?
    intro q
    rw [List.getElem?_map,List.getElem?_modify,List.getElem?_set]
    by_cases hq:j=q
    · subst hq
      have hlt:j < es.length:=AJ g1
      simp [g1,hlt]
    · simp [hq]
class OwM (α:Type) [Ow α]:Prop where
  mptr:∀ {w:World} {F M:Nat→Prop} {v:Value} {x:α},Ow.R w F M v x→∃ r,v=.map (some r)
theorem Ob.mptr {α:Type} [Ow α] [OwM α] {i:Nat} {w:World} {O:Lab} {v:Value} {x:α} (h:Ob i w O v x):∃ r,v=.map (some r):=OwM.mptr h.1
structure MapR (e:TypeId) (K V:Type) where
  l:List (K×List V)
def RA {K V:Type} [Rp V] (w:World) (F M:Nat→Prop) (L:Lab) (e:TypeId) (es:List MapEntry) (xs:List (K×List V)) (skip:Option Nat):Prop:=∀ (j:Nat) (en:MapEntry) (p:K×List V),es[j]?=some en→xs[j]?=some p→skip≠some j→RwM w F (fun k=>M k∧L k=j + 1) e en.val p.2
instance {e:TypeId} {K V:Type} [MKey K] [Rp V]:Ow (MapR e K V) where
  R w F M v x:=∃ (r:Nat) (L:Lab) (es:List MapEntry) (ck:Nat),v=.map (some r)∧w.heap[r]?=some (.map es.toArray ck)∧M r∧L r=0∧es.map (·.key)=x.l.map (fun p=>MKey.enc p.1)∧RA w F M L e es x.l none
  agree:=by rintro w w' F M v x ⟨r,L,es,ck,rfl,hb,hM,hL,hk,hv⟩ a1 a2;exact ⟨r,L,es,ck,rfl,(a2 r hM).trans hb,hM,hL,hk,fun j en p h1 h2 h3=>(hv j en p h1 h2 h3).agree a1 fun k hk=>a2 k hk.1⟩
  mono:=by rintro w F M F' M' v x ⟨r,L,es,ck,rfl,hb,hM,hL,hk,hv⟩ a1 a2 a3;exact ⟨r,L,es,ck,rfl,hb,a2 r hM,hL,hk,fun j en p h1 h2 h3=>(hv j en p h1 h2 h3).mono a1 (fun k hk=>⟨a2 k hk.1,hk.2⟩) fun k hf hm=>a3 k hf hm.1⟩
instance {e:TypeId} {K V:Type} [MKey K] [Rp V]:OwM (MapR e K V):=⟨by rintro w F M v x ⟨r,L,es,ck,rfl,_⟩;exact ⟨r,rfl⟩⟩
def MapH {K V:Type} [MKey K] [Rp V] (i:Nat) (w:World) (O:Lab) (r:Nat) (e:TypeId) (x:MapR e K V) (a:K):Prop :=
  (∃ (L:Lab) (es:List MapEntry) (ck:Nat),w.heap[r]?=some (.map es.toArray ck)∧Fr i w O r∧es.map (·.key)=x.l.map (fun p=>MKey.enc p.1)∧RA w (Fr 0 w O) (Fr i w O) L e es x.l (midx x.l a))∧i≠0
section
variable {e : TypeId} {K V : Type} [MKey K] [Rp V] {i j : Nat} {T : Nat → Prop} {w w' : World} {O O' : Lab} {r : Nat} {x : MapR e K V} {a : K}
theorem MapH.st (h:MapH i w O r e x a) (hS:St T w O w' O') (h0:¬ T 0:=by decide) (hi:¬ T i:=by decide):MapH i w' O' r e x a:=by
  obtain ⟨⟨L,es,ck,hb,hM,hk,hr⟩,h1⟩:=h
  refine ⟨⟨L,es,ck,(hS.agree hi r hM).trans hb,hS.fr hi r hM,hk,fun q en p g1 g2 g3=>?_⟩,h1⟩
  exact ((hr q en p g1 g2 g3).agree (hS.agree h0) fun k hk=>hS.agree hi k hk.1).mono (hS.fr h0) (fun k hk=>⟨hS.fr hi k hk.1,hk.2⟩) fun k hf hm=>frNe0 h1 k hf hm.1
theorem MapR.at (h:Ob i w O (.map (some r)) x):Fr i w O r:=by
  obtain ⟨⟨r',L,es,ck,hv,hb,hM,_⟩,_⟩:=h
  injection hv with hv
  injection hv with hv
  subst hv
  exact hM
theorem MapR.get (h:Ob i w O (.map (some r)) x) (a:K):∃ A c,LkV (MKey.desc K) (.slice none 0 0) w r (MKey.enc a) (.slice A (mget ([]:List V) x.l a).length c) (mhas x.l a)∧Vb w (FrS [i] w O) (.slice A (mget ([]:List V) x.l a).length c) (mget ([]:List V) x.l a):=by
  obtain ⟨⟨r',L,es,ck,hv,hb,hM,hL,hk,hra⟩,hi⟩:=h
  injection hv with hv
  injection hv with hv
  subst hv
  rcases EA a es x.l 0 hk with ⟨g0,g1,g2,g3,g4⟩|⟨q,e',p,g0,g1,g2,g3,g4,g5,g6,g7⟩
  · rw [g3,g2]
    exact ⟨none,0,⟨_,ck,none,hb,by simpa using g1,rfl,rfl⟩,Vb.nil _ _⟩
  · rw [g6,g5]
    have h1:=hra q e' p g1 g2 (by simp)
    have h2:Rw i w O e e'.val p.2:=h1.rw (fun _ h=>h) (fun _ h=>h.1) hi
    obtain ⟨A,c,hA⟩:=h2.form
    refine ⟨A,c,⟨_,ck,some (0 + q,e'.val),hb,by simpa using g3,hA.symm,rfl⟩,?_⟩
    rw [← hA]
    exact h2.lend [i] (by simp)
theorem MapR.take (h:Ob i w O (.map (some r)) x) {v:Value} {b:Bool} (hl:LkV (MKey.desc K) (.slice none 0 0) w r (MKey.enc a) v b) (j:Nat) (hj:j≠0) (hij:j≠i):∃ O',St (eT i) w O w O'∧MapH i w O' r e x a∧Rw j w O' e v (mget ([]:List V) x.l a):=by
  obtain ⟨⟨r',L,es,ck,hv,hb,hM,hL,hk,hra⟩,hi⟩:=h
  injection hv with hv
  injection hv with hv
  subst hv
  obtain ⟨es',ck',q,h1,h2,h3,h4⟩:=hl
  rw [hb] at h1
  injection h1 with h1
  injection h1 with h1 h1'
  subst h1
  rw [List.toList_toArray] at h2
  rcases EA a es x.l 0 hk with ⟨g0,g1,g2,g3,g4⟩|⟨n,e',p,g0,g1,g2,g3,g4,g5,g6,g7⟩
  · rw [g1] at h2
    have:=sm h2
    subst this
    rw [g3,h3]
    exact ⟨O,St.refl _ _ _,⟨⟨L,es,ck,hb,hM,hk,fun q en p a1 a2 _=>hra q en p a1 a2 (by simp)⟩,hi⟩,Rw.nil j hj⟩
  · rw [g3] at h2
    have:=sm h2
    subst this
    rw [g6,h3]
    have hrow:=hra n e' p g1 g2 (by simp)
    refine ⟨fun k=>if O k=i∧L k=n + 1 then j else O k,⟨rfl,rfl,rfl,Nat.le_refl _,fun k _ hk=>⟨rfl,if_neg fun h=>hk h.1⟩⟩,⟨⟨L,es,ck,hb,⟨hM.1,?_⟩,hk,fun q en p' a1 a2 a3=>?_⟩,hi⟩,hrow.rw (fun k hk=>⟨hk.1,?_⟩) (fun k hk=>⟨hk.1.1,if_pos ⟨hk.1.2,hk.2⟩⟩) hj⟩
    · show (if _ then _ else _)=_
      rw [if_neg (by rw [hL];omega)];exact hM.2
    · rw [g0] at a3
      have hne:n≠q:=fun e=>a3 (by rw [e])
      refine (hra q en p' a1 a2 (by simp)).mono (fun k hk=>⟨hk.1,?_⟩) (fun k hk=>⟨⟨hk.1.1,?_⟩,hk.2⟩) (fun k hf hm=>frNe0 hi k hf hm.1)
      · show (if _ then _ else _)=_
        rw [if_neg (by rw [hk.2];exact fun h=>hi h.1.symm)];exact hk.2
      · show (if _ then _ else _)=_
        rw [if_neg (by rw [hk.2];omega)];exact hk.1.2
    · show (if _ then _ else _)=_
      rw [if_neg (by rw [hk.2];exact fun h=>hi h.1.symm)];exact hk.2
end
section
variable {P : Program} {n : Nat} {ops : Array Oper} {Q : Post} {rest : List Oper} {l : Env} {w : World} {d : Tmp} {ty : TypeId} {pos : String} {aft : Array Edge} {K V : Type} [MKey K] [Rp V] {i j : Nat} {O : Lab} {r : Nat}
theorem Mh {e':TypeId} {x:MapR e' K V} {t k e:TypeId} [TMap P t k e] [TKey P k K] {m y u:Operand} {a:K} {v:Value} {ys:List V} (hM:MapH i w O r e' x a) (hv:Rw j w O e' v ys) (hij:j≠i) (hx:opv l m=some (.map (some r))) (hy:opv l y=some (MKey.enc a)) (hu:opv l u=some v)
    (h:∀ w' O',St (fun q=>q=i∨q=j) w O w' O'→Ob i w' O' (.map (some r)) (⟨mput x.l a ys⟩:MapR e' K V)→owp P n ops Q rest l w'):owp P n ops Q (⟨none,.mapUpdate t m y u,ty,pos,aft,none⟩ :: rest) l w:=by
  obtain ⟨⟨L,es,ck,hb,hM',hk,hra⟩,hi⟩:=hM
  refine LF hb hk hx hy hu fun w' ck' e1 e2 e3 e4 e5 e6=>?_
  have hlen:es.length=x.l.length:=by have:=congrArg List.length hk;simpa using this
  have hj0:j≠0:=hv.2.2
  have hrj:O r≠j:=by rw [hM'.2];exact Ne.symm hij
  let n0:Nat:=match midx x.l a with|some q=>q|none=>es.length
  have hS:St (fun q=>q=i∨q=j) w O w' (fun k=>if O k=j then i else O k):=⟨e1,e2,e3,by omega,fun q hq hT=>⟨e6 q fun e=>hT (by rw [e];exact .inl hM'.2),if_neg fun e=>hT (.inr e)⟩⟩
  have hF:∀ k,Fr 0 w O k→Fr 0 w' (fun k=>if O k=j then i else O k) k:=fun k hk=>⟨by rw [e4];exact hk.1,by show (if _ then _ else _)=_;rw [if_neg (by rw [hk.2];exact Ne.symm hj0)];exact hk.2⟩
  have hA0:Agree (Fr 0 w O) w w':=fun k hk=>e6 k fun e=>by rw [e] at hk;exact hi (hM'.2.symm.trans hk.2)
  have hdis:∀ m:Nat,∀ k,Fr 0 w' (fun k=>if O k=j then i else O k) k→¬ (Fr i w' (fun k=>if O k=j then i else O k) k∧(if O k=j then n0 + 1 else if k=r then 0 else L k)=m):=fun m k hf hm=>frNe0 hi k hf hm.1
  have hnew:RwM w' (Fr 0 w' (fun k=>if O k=j then i else O k)) (fun k=>Fr i w' (fun k=>if O k=j then i else O k) k∧(if O k=j then n0 + 1 else if k=r then 0 else L k)=n0 + 1) e' v ys:=by
    have h1:RwM w (Fr 0 w O) (Fr j w O) e' v ys:=hv.m (fun _ h=>h) (fun _ h=>h) (frNe0 hj0)
    have h2:=h1.agree hA0 (fun k hk=>e6 k fun e=>by rw [e] at hk;exact hrj hk.2)
    exact h2.mono hF (fun k hk=>⟨⟨by rw [e4];exact hk.1,if_pos hk.2⟩,if_pos hk.2⟩) (hdis _)
  have hkeep:∀ q en (p:K×List V),es[q]?=some en→x.l[q]?=some p→midx x.l a≠some q→RwM w' (Fr 0 w' (fun k=>if O k=j then i else O k)) (fun k=>Fr i w' (fun k=>if O k=j then i else O k) k∧(if O k=j then n0 + 1 else if k=r then 0 else L k)=q + 1) e' en.val p.2:=fun q en p g1 g2 g3=>by
    have h1:=hra q en p g1 g2 g3
    have hnr:∀ g,en.val.ownBlock=some g→g≠r:=fun g hg e=>by
      subst e
      have h2:=h1.1
      obtain ⟨cells,o1,o2,o3⟩:=h2
      rcases o1.2 with ⟨hv0,_⟩|⟨g',cap,cur,hv0,_,hh,_⟩
      · rw [hv0] at hg;simp [Value.ownBlock] at hg
      · rw [hv0] at hg
        have:g'=g:=by simpa [Value.ownBlock] using hg
        subst this
        rw [hb] at hh;cases hh
    have h2:RwM w (Fr 0 w O) (fun k=>(Fr i w O k∧L k=q + 1)∧k≠r) e' en.val p.2:=⟨h1.1,fun g hg=>⟨h1.2 g hg,hnr g hg⟩⟩
    have h3:=h2.agree hA0 (fun k hk=>e6 k hk.2)
    refine h3.mono hF (fun k hk=>?_) (hdis _)
    have hkj:O k≠j:=by rw [hk.1.1.2];exact Ne.symm hij
    exact ⟨⟨by rw [e4];exact hk.1.1.1,by show (if _ then _ else _)=_;rw [if_neg hkj];exact hk.1.1.2⟩,by rw [if_neg hkj,if_neg hk.2];exact hk.1.2⟩
  refine h w' _ hS ⟨⟨r,fun k=>if O k=j then n0 + 1 else if k=r then 0 else L k,_,ck',rfl,e5,⟨by rw [e4];exact hM'.1,by show (if _ then _ else _)=_;rw [if_neg hrj];exact hM'.2⟩,by show (if _ then _ else _)=_;rw [if_neg hrj,if_pos rfl],KB ck a v ys hk,?_⟩,hi⟩
  intro q en p h1 h2 _
  rcases EA a es x.l 0 hk with ⟨g0,_,_,_,g4⟩|⟨m,e'',p',g0,g1,g2,g3,g4,_,_,g7⟩
  · have hn0:n0=es.length:=by show (match midx x.l a with|some q=>q|none=>es.length)=_;rw [g0]
    rw [g0] at h1
    rw [g4] at h2
    simp only [putEs] at h1
    by_cases hq:q < es.length
    · rw [List.getElem?_append_left hq] at h1
      rw [List.getElem?_append_left (by omega)] at h2
      exact hkeep q en p h1 h2 (by rw [g0];simp)
    · rw [List.getElem?_append_right (by omega)] at h1
      rw [List.getElem?_append_right (by omega)] at h2
      cases hz:q - es.length with
      | zero =>
        rw [hz] at h1
        rw [show q - x.l.length=0 from by omega] at h2
        simp at h1 h2
        subst h1;subst h2
        have hqe:q=n0:=by rw [hn0];omega
        rw [hqe]
        exact hnew
      | succ m=>rw [hz] at h1;simp at h1
  · have hn0:n0=m:=by show (match midx x.l a with|some q=>q|none=>es.length)=_;rw [g0]
    rw [g0] at h1
    rw [g7] at h2
    simp only [putEs] at h1
    rw [List.getElem?_modify] at h1
    rw [List.getElem?_set] at h2
    by_cases hq:m=q
    · subst hq
      have hlt:=AJ g2
      rw [g1] at h1
      simp [hlt] at h1 h2
      subst h1;subst h2
      rw [← hn0]
      exact hnew
    · simp [hq] at h1 h2
      exact hkeep q en p h1 h2 (by rw [g0];simpa using hq)
theorem LG {t:TypeId} (e:TypeId) (i:Nat) (hi:i≠0) (O:Lab) (hd:Nat.blt d n=true) (h:∀ g w' O',St nT w O w' O'→Ob i w' O' (.map (some g)) (⟨[]⟩:MapR e K V)→owp P n ops Q rest ((d,.map (some g)) :: l) w'):owp P n ops Q (⟨some d,.makeMap t none,ty,pos,aft,none⟩ :: rest) l w :=
  Lh hd fun w' hE hs hb=>h _ w' _ (hE.st O fun _=>i) ⟨⟨w.heap.size,fun _=>0,[],0,rfl,hb,⟨by omega,Eb (Nat.le_refl _)⟩,rfl,rfl,fun j e p h1 _=>by simp at h1⟩,hi⟩
end
section
variable {P : Program} {n : Nat} {ops : Array Oper} {Q : Post} {rest : List Oper} {l : Env} {w : World} {d : Tmp} {ty : TypeId} {pos : String} {aft : Array Edge} {S : World → Prop} {rr : List (Nat × Bool)} {i' : Nat}
theorem o_lk {K:Type} [MKey K] {t k e:TypeId} [TMap P t k e] [TKey P k K] {z:Value} {size bytes:Nat} [TInfo P e z size bytes] {x y:Operand} {r:Nat} {v:Value} {b:Bool} (a:K) (hv:LkV (MKey.desc K) z w r (MKey.enc a) v b) (hx:opv l x=some (.map (some r))) (hy:opv l y=some (MKey.enc a)) (hd:Nat.blt d n=true) (h:owp P n ops Q rest ((d,v) :: l) w):owp P n ops Q (⟨some d,.lookup t x y false,ty,pos,aft,none⟩ :: rest) l w:=AV (ev_lk hx hy hv) hd h
theorem h_lk {K:Type} [MKey K] {t k e:TypeId} [TMap P t k e] [TKey P k K] {z:Value} {size bytes:Nat} [TInfo P e z size bytes] {x y:Operand} {r:Nat} {v:Value} {b:Bool} (a:K) (hv:∀ w',S w'→LkV (MKey.desc K) z w' r (MKey.enc a) v b) (hi:ops[i']?=some ⟨some d,.lookup t x y false,ty,pos,aft,none⟩) (hx:opv l x=some (.map (some r))) (hy:opv l y=some (MKey.enc a)) (hd:Nat.blt d n=true) (h:hwp P n ops Q S rr ((d,v) :: l) w):hwp P n ops Q S ((i',true) :: rr) l w:=hwp_o hi (AY (fun w' hS=>ev_lk hx hy (hv w' hS)) hd h)
end
end
section
open Go Go.RowKit
attribute [local irreducible] ewp owp hwp hwq hws Ev Evg Fn retPost loud loudS Res1
attribute [local irreducible] hwx loudX
instance:TMap Try.prog 116 3 22:=⟨Try.underlying116⟩
instance:TKey Try.prog 3 Int:=⟨Try.underlying3⟩
structure RLk where
  parent:Int
  op:Int
  cost:Int
structure REn where
  words:List U64
  link:RLk
instance:Rp REn where
  isAgg:=true
  size:=4
  R w F cs x:=∃ v0,cs=[v0,.int .i64 x.link.parent,.int .i64 x.link.op,.int .i64 x.link.cost]∧Vb w F v0 x.words∧inI64 x.link.parent∧inI64 x.link.op∧inI64 x.link.cost
  len:=by rintro w F cs x ⟨v0,rfl,h0,h1,h2,h3⟩;rfl
  one:=by rintro w F cs x ⟨v0,rfl,h0,h1,h2,h3⟩ u hu;simp at hu;rcases hu with rfl|rfl|rfl|rfl<;>first|rfl|exact Vb.one rfl (by assumption)
  agree:=by rintro w w' F cs x ⟨v0,rfl,h0,h1,h2,h3⟩ ha;exact ⟨v0,rfl,h0.agree ha,h1,h2,h3⟩
  mono:=by rintro w F G cs x ⟨v0,rfl,h0,h1,h2,h3⟩ ha;exact ⟨v0,rfl,h0.mono ha,h1,h2,h3⟩
structure Reg where
  packer:Pkr
  entries:List REn
  table:MapR 3 Int Int
instance:Ow Reg where
  R w F M v x:=∃ (g:Nat) (L:Lab) (c0 c1 c2:Value),v=.pointer (some ⟨g,0,none⟩)∧Blk w g 118 [c0,c1,c2]∧M g∧L g=0∧Ow.R w F (fun k=>M k∧L k=1) c0 x.packer∧RwM w F (fun k=>M k∧L k=2) 125 c1 x.entries∧Ow.R w F (fun k=>M k∧L k=3) c2 x.table
  agree:=by rintro w w' F M v x ⟨g,L,c0,c1,c2,rfl,hb,hM,hL,h0,h1,h2⟩ a1 a2;exact ⟨g,L,c0,c1,c2,rfl,hb.keep (a2 g hM),hM,hL,Ow.agree h0 a1 fun k hk=>a2 k hk.1,h1.agree a1 fun k hk=>a2 k hk.1,Ow.agree h2 a1 fun k hk=>a2 k hk.1⟩
  mono:=by rintro w F M F' M' v x ⟨g,L,c0,c1,c2,rfl,hb,hM,hL,h0,h1,h2⟩ a1 a2 a3;exact ⟨g,L,c0,c1,c2,rfl,hb,a2 g hM,hL,Ow.mono h0 a1 (fun k hk=>⟨a2 k hk.1,hk.2⟩) fun k hf hm=>a3 k hf hm.1,h1.mono a1 (fun k hk=>⟨a2 k hk.1,hk.2⟩) fun k hf hm=>a3 k hf hm.1,Ow.mono h2 a1 (fun k hk=>⟨a2 k hk.1,hk.2⟩) fun k hf hm=>a3 k hf hm.1⟩
instance:OwP Reg:=⟨by rintro w F M v x ⟨g,L,c0,c1,c2,rfl,_⟩;exact ⟨g,rfl⟩⟩
theorem Reg.opn {i:Nat} {w:World} {O:Lab} {p:Nat} {x:Reg} (h:Ob i w O (.pointer (some ⟨p,0,none⟩)) x) (l0 l1 l2 l3:Nat) (hl:l0≠0∧l1≠0∧l2≠0∧l3≠0):∃ (O':Lab) (c0 c1 c2:Value),St (eT i) w O w O'∧(∀ k,Fr i w O k→∃ q,q∈[l0,l1,l2,l3]∧Fr q w O' k)∧Lc l0 w O' p 118 [c0,c1,c2]∧Ob l1 w O' c0 x.packer∧Rw l2 w O' 125 c1 x.entries∧Ob l3 w O' c2 x.table:=by
  obtain ⟨⟨g,L,c0,c1,c2,hv,hb,hM,hL,h0,h1,h2⟩,hi⟩:=h
  obtain rfl:p=g:=by injection hv with hv;injection hv with hv;injection hv
  exact ⟨part O i L [l0,l1,l2,l3],c0,c1,c2,HA hi,Gv (by simp),⟨hb,(DN (j:=0) rfl p ⟨hM,hL⟩).2⟩,⟨Ow.mono h0 (CX hi) (DN (j:=1) rfl) (frNe0 hl.2.1),hl.2.1⟩,h1.rw (CX hi) (DN (j:=2) rfl) hl.2.2.1,⟨Ow.mono h2 (CX hi) (DN (j:=3) rfl) (frNe0 hl.2.2.2),hl.2.2.2⟩⟩
theorem Reg.shut {w:World} {O:Lab} {p:Nat} {x:Reg} {l0 l1 l2 l3:Nat} {c0 c1 c2:Value} (hd:¬ 0∈[l0,l1,l2,l3]∧[l0,l1,l2,l3].idxOf l0=0∧[l0,l1,l2,l3].idxOf l1=1∧[l0,l1,l2,l3].idxOf l2=2∧[l0,l1,l2,l3].idxOf l3=3) (hb:Lc l0 w O p 118 [c0,c1,c2]) (h0:Ob l1 w O c0 x.packer) (h1:Rw l2 w O 125 c1 x.entries) (h2:Ob l3 w O c2 x.table):∃ O',St (·∈[l0,l1,l2,l3]) w O w O'∧(∀ k,Fr 0 w O k→Fr 0 w O' k)∧(∀ q,q∈[l0,l1,l2,l3]→∀ k,Fr q w O k→Fr l0 w O' k)∧Ob l0 w O' (.pointer (some ⟨p,0,none⟩)) x:=by
  have hb1:l0≠0:=fun e=>hd.1 (by simp [e])
  have hg:=Dj (i:=l0) hd.2.1 (by simp) p ⟨hb.1.lt,hb.2⟩
  exact ⟨whole O l0 [l0,l1,l2,l3],Gw,Cn hd.1,FN,⟨p,fun k=>[l0,l1,l2,l3].idxOf (O k),c0,c1,c2,rfl,hb.1,hg.1,hg.2,Ow.mono h0.1 (Cn hd.1) (Dj hd.2.2.1 (by simp)) (fun k a b=>frNe0 hb1 k a b.1),h1.m (Cn hd.1) (Dj hd.2.2.2.1 (by simp)) (fun k a b=>frNe0 hb1 k a b.1),Ow.mono h2.1 (Cn hd.1) (Dj hd.2.2.2.2 (by simp)) (fun k a b=>frNe0 hb1 k a b.1)⟩,hb1⟩
noncomputable def CK (x0:List Int):Option ((Option Reg)×Err) :=
  bnd (DA x0) fun q4=>if q4.2.n≠0 then (some (none,(⟨q4.2.n⟩:Err))) else (bnd q4.1 fun o22=>some ((some (⟨o22,([]:List REn),(⟨[]⟩:MapR 3 Int Int)⟩:Reg)),(⟨0⟩:Err)))
theorem IB {w:World} {O:Lab} {vx0:Value} {x0:List Int} (hx0:Vb w (Fr 0 w O) vx0 x0) (j0:Nat) (hj0:j0≠0) {r:(Option Reg)×Err} (hm:CK x0=some r) :
    Fn Try.prog 60 [vx0] w fun v w'=>∃ O',St nT w O w' O'∧∃ v0 v1:Value,v=.tuple #[v0,v1]∧Obo j0 w' O' v0 r.1∧Vb w' (Fr 0 w' O') v1 r.2:=by
 obtain ⟨O0,hE,hz0⟩:=ent0 (w:=w) (O:=O)
 have hB:Bm w O0 w O0:=Bm.refl
 replace hx0:=hx0.mono hz0
 obtain ⟨A2,c3,rfl⟩:=hx0.form
 refine AL Try.func60 rfl Try.ntmps60 rfl ?_
 unfold CK at hm
 refine Ah (Ae (o_as rfl rfl (o_as rfl rfl (o_z ?_))))
 refine Ah (Ae (o_mv rfl rfl ?_))
 obtain ⟨q4,e5,hm⟩:=bs hm
 refine Bi (O:=O0) (KA hx0 2 (by decide) e5) rfl rfl fun v10 w6 O7 S8 h9=>?_
 obtain ⟨v11,v12,rfl,h13,h14⟩:=h9
 obtain ⟨rfl,r15⟩:=h14.err
 refine o_mv rfl rfl (o_ex rfl rfl rfl (o_ex rfl rfl rfl (o_as rfl rfl (o_as rfl rfl (o_z ?_)))))
 refine Ah (Ah (Ae (o_mv rfl rfl (o_rnS rfl rfl (fun c16=>?_) fun c16=>?_))))
 ·
  replace hm:=ip hm c16
  refine o_z ?_
  refine Ar rfl (Ah (Ae (o_mv rfl rfl (o_as rfl rfl (o_as rfl rfl (o_z ?_))))))
  refine Au ?_
  obtain rfl:=sm hm
  replace hB:=hB.st S8
  obtain ⟨O',hS',hz,hl⟩:=hE.leave (fun _=>0) rfl hB
  exact ret2 rfl (AF rfl) (AF rfl) ⟨O',hS',_,_,rfl,rfl,(vErr r15)⟩
 ·
  replace hm:=im hm c16
  refine o_z ?_
  refine Aj rfl (Am (Ah (Ae (o_mv rfl rfl (LG (K:=Int) (V:=Int) 3 3 (by decide) O7 rfl fun p17 w18 O19 S20 h21=>?_)))))
  obtain ⟨o22,e23,hm⟩:=bs hm
  replace h13:=h13.st S20
  rw [e23] at h13
  obtain ⟨p24,rfl⟩:=Ob.ptr h13
  refine o_bd rfl rfl rfl ?_
  refine l_box 4 O19 rfl rfl fun g25 w26 O27 S28 h29=>?_
  replace h29:Lc 4 w26 O27 g25 118 [(.pointer (some ⟨p24,0,none⟩)),(.slice none 0 0),(.map (some p17))]:=h29
  refine o_as rfl rfl (o_as rfl rfl (o_z ?_))
  refine Au ?_
  have h30:Rw 5 w26 O27 125 (.slice none 0 0) ([]:List REn):=Rw.nil 5 (by decide)
  replace h13:=h13.st S28
  replace h21:=h21.st S28
  obtain ⟨O32,S33,hz35,ha36,h34⟩:=Reg.shut (x:=(⟨o22,([]:List REn),(⟨[]⟩:MapR 3 Int Int)⟩:Reg)) (l0:=4) (l1:=2) (l2:=5) (l3:=3) (by decide) h29 h13 h30 h21
  obtain rfl:=sm hm
  replace hB:=(((hB.st S8).st S20).st S28).st S33
  obtain ⟨O',hS',hz,hl⟩:=hE.leave (fun q=>if q=4 then j0 else 0) rfl hB
  exact ret2 rfl (AF rfl) (AF rfl) ⟨O',hS',_,_,rfl,(Ob.leave h34 hz (hl 4 (by decide) (by decide)) hj0),(vErr (show inI64 0 from by decide))⟩
noncomputable def Bk (x0:Reg) (x1:List Int):Option ((List U64)×Int×Int×Err) :=
  bnd (Bt x0.packer x1) fun q20=>if q20.2.n≠0 then (some (([]:List U64),0,(-1),(⟨2⟩:Err))) else (bnd (BA x0.packer q20.1) fun q41=>bnd (rng (ρ:=(List U64)×Int×Int×Err) (fun (k66:Nat) (a67:Int) (s64:Unit)=>bnd (atI x0.entries a67) fun a100=>bnd (Bo a100.words q20.1) fun q118=>if q118=true then some (.ret (q20.1,q41,a67,(⟨0⟩:Err))) else some (.next ())) (mget ([]:List Int) x0.table.l q41) 0 ()) fun res62=>fin res62 fun (s139:Unit)=>some (q20.1,q41,(-1),(⟨0⟩:Err)))
theorem FE {w:World} {O:Lab} {p0 i0:Nat} {x0:Reg} (hx0:Ob i0 w O (.pointer (some ⟨p0,0,none⟩)) x0) {vx1:Value} {x1:List Int} (hx1:Vb w (Fr 0 w O) vx1 x1) {r:(List U64)×Int×Int×Err} (hm:Bk x0 x1=some r) :
    Fn Try.prog 66 [(.pointer (some ⟨p0,0,none⟩)),vx1] w fun v w'=>∃ O',St (eT i0) w O w' O'∧∃ v0 v1 v2 v3:Value,Ob i0 w' O' (.pointer (some ⟨p0,0,none⟩)) x0∧v=.tuple #[v0,v1,v2,v3]∧Vb w' (Fr 0 w' O') v0 r.1∧Vb w' (Fr 0 w' O') v1 r.2.1∧Vb w' (Fr 0 w' O') v2 r.2.2.1∧Vb w' (Fr 0 w' O') v3 r.2.2.2:=by
 obtain ⟨O0,hE,hz0,hl2⟩:=ent1 (w:=w) (O:=O) hx0.2
 have hx0':=Ob.leave hx0 hz0 hl2 (j:=2) (by decide)
 have hB:Bm w O0 w O0:=Bm.refl
 replace hx1:=hx1.mono hz0
 obtain ⟨A3,c4,rfl⟩:=hx1.form
 refine AL Try.func66 rfl Try.ntmps66 rfl ?_
 unfold Bk at hm
 refine Ah (Ae (o_as rfl rfl (o_as rfl rfl (o_as rfl rfl (o_as rfl rfl (o_z ?_))))))
 refine Ah (Ae (o_mv rfl rfl (o_nc rfl rfl ?_)))
 obtain ⟨O5,v9,v12,v17,S6,ha8,h7,h10,h13,h18⟩:=Reg.opn hx0' 2 3 4 5 (by decide)
 obtain ⟨p11,rfl⟩:=h10.ptr
 obtain ⟨A14,c15,rfl⟩:=h13.form
 obtain ⟨p19,rfl⟩:=h18.mptr
 refine o_fa rfl rfl (o_ld (hc:=Blk.cell (i:=0) (h7.1) rfl) rfl rfl ?_)
 refine o_mv rfl rfl ?_
 obtain ⟨q20,e21,hm⟩:=bs hm
 replace hx1:=hx1.st S6
 refine Bi (O:=O5) (Hh h10 hx1 e21) rfl rfl fun v26 w22 O23 S24 h25=>?_
 obtain ⟨v28,v29,h27,rfl,h30,h31⟩:=h25
 obtain ⟨A32,c33,rfl⟩:=h30.form
 obtain ⟨rfl,r34⟩:=h31.err
 refine o_mv rfl rfl (o_ex rfl rfl rfl (o_ex rfl rfl rfl (o_as rfl rfl (o_as rfl rfl (o_z ?_)))))
 refine Ah (Ah (Ae (o_mv rfl rfl (o_rnS rfl rfl (fun c35=>?_) fun c35=>?_))))
 ·
  replace hm:=ip hm c35
  refine o_z ?_
  refine Ar rfl (Ah (Ae (o_miE rfl rfl ?_)))
  refine o_as rfl rfl (o_as rfl rfl (o_as rfl rfl (o_as rfl rfl (o_z ?_))))
  refine Au ?_
  replace h7:=h7.st S24
  replace h13:=h13.st S24
  replace h18:=h18.st S24
  obtain ⟨O36,S37,hz39,ha40,h38⟩:=Reg.shut (x:=x0) (l0:=2) (l1:=3) (l2:=4) (l3:=5) (by decide) h7 h27 h13 h18
  obtain rfl:=sm hm
  replace hB:=((hB.st S6).st S24).st S37
  obtain ⟨O',hS',hz,hl⟩:=hE.leave (fun q=>if q=2 then i0 else 0) rfl hB
  exact ret4 rfl (AF rfl) (AF rfl) (AF rfl) (AF rfl) ⟨O',hS',_,_,_,_,(Ob.leave h38 hz (hl 2 (by decide) (by decide)) hx0.2),rfl,(Vb.mono (Vb.nil _ _) hz),(vInt (show inI64 (0) from by decide)),(vInt (show inI64 (-1) from by decide)),(vErr (by decide))⟩
 ·
  replace hm:=im hm c35
  refine o_z ?_
  refine Aj rfl (Am (Ah (Ae (o_mv rfl rfl (o_nc rfl rfl (o_fa rfl rfl ?_))))))
  replace h7:=h7.st S24
  refine o_ld (hc:=Blk.cell (i:=0) (h7.1) rfl) rfl rfl ?_
  refine o_mv rfl rfl ?_
  obtain ⟨q41,e42,hm⟩:=bs hm
  refine Bi (O:=O23) (Hi h27 h30 e42) rfl rfl fun v47 w43 O44 S45 h46=>?_
  obtain ⟨h48,h49⟩:=h46
  obtain ⟨rfl,r50⟩:=h49.int
  refine o_as rfl rfl (o_z ?_)
  refine Ah (Ah (Ae (o_mv rfl rfl (o_nc rfl rfl (o_fa rfl rfl ?_)))))
  replace h7:=h7.st S45
  refine o_ld (hc:=Blk.cell (i:=2) (h7.1) rfl) rfl rfl ?_
  refine o_mv rfl rfl ?_
  replace h18:=(h18.st S24).st S45
  obtain ⟨A53,c54,hl51,h52⟩:=MapR.get h18 q41
  refine o_lk q41 hl51 rfl rfl rfl ?_
  refine o_ln rfl rfl ?_
  have l56:(mget ([]:List Int) x0.table.l q41).length≤9223372036854775807:=Nat.le_trans h52.len.2.1 h52.len.2.2
  have r55:inI64 ((mget ([]:List Int) x0.table.l q41).length:Int):=rngNat l56
  refine o_mv rfl rfl (o_z ?_)
  replace h13:=(h13.st S24).st S45
  obtain ⟨O57,S58,hz60,ha61,h59⟩:=Reg.shut (x:=x0) (l0:=2) (l1:=3) (l2:=4) (l3:=5) (by decide) h7 h48 h13 h18
  replace h52:=h52.shutS S58 hz60 ha61 [2] (by decide)
  obtain ⟨res62,hL63,hm⟩:=bs hm
  refine AN (aft res62 (fun (s64:Unit) (x65:Unit)=>[(8,(.slice A32 q20.1.length c33)),(10,(.int .i64 q41))]) (fun s64 x65 w'=>∃ O':Lab,Bm w O0 w' O'∧Vb w' (Fr 0 w' O') (.slice A32 q20.1.length c33) q20.1∧Ob 2 w' O' (.pointer (some ⟨p0,0,none⟩)) x0)) ?_ ?_
  ·
   refine Al ?_
   replace hB:=(((hB.st S6).st S24).st S45).st S58
   replace h30:=(h30.st S45).st S58
   refine Ck (σ:=Unit) (X:=Unit) ((mget ([]:List Int) x0.table.l q41).length) hL63 rfl l56 (fun (s64:Unit) (x65:Unit)=>[(0,(.pointer (some ⟨p0,0,none⟩))),(8,(.slice A32 q20.1.length c33)),(10,(.int .i64 q41)),(36,(.slice A53 (mget ([]:List Int) x0.table.l q41).length c54))]) _ (fun s64 x65 w'=>∃ O':Lab,Bm w O0 w' O'∧Ob 2 w' O' (.pointer (some ⟨p0,0,none⟩)) x0∧Vb w' (Fr 0 w' O') (.slice A32 q20.1.length c33) q20.1∧Vb w' (FrS [2] w' O') (.slice A53 (mget ([]:List Int) x0.table.l q41).length c54) (mget ([]:List Int) x0.table.l q41)) _ () ⟨O57,hB,h59,h30,h52⟩ ⟨rfl,rfl,rfl,rfl,rfl,rfl,trivial⟩ (fun _ _=>⟨rfl,rfl⟩) (fun _ _=>⟨rfl,rfl,trivial⟩) (fun _ _ _ ⟨O',hB,h59,h30,h52⟩=>⟨O',hB,h30,h59⟩) ⟨rfl,rfl,rfl⟩ ⟨rfl,rfl⟩ ?_
   rintro k66 a67 s64 x65 w68 cc70 hx71 ⟨O69,hB,h59,h30,h52⟩ hf72 hret73 hbrk74
   have rk66:inI64 (k66:Int):=rngK hx71 l56
   refine Ah (Ae ?_)
   obtain ⟨b77,o78,ce79,hA80,hl81,hd82,rfl,r84⟩:=h52.elem' hx71
   refine o_iaE (hA:=hA80) (hj:=rfl) (hlt:=hl81) rfl rfl rfl ?_
   refine o_ld (hc:=cat0 hd82) rfl rfl ?_
   refine o_as rfl rfl (o_z ?_)
   refine Ah (Ae (o_mv rfl rfl (o_nc rfl rfl ?_)))
   obtain ⟨O85,v89,v92,v97,S86,ha88,h87,h90,h93,h98⟩:=Reg.opn h59 2 3 4 5 (by decide)
   obtain ⟨p91,rfl⟩:=h90.ptr
   obtain ⟨A94,c95,rfl⟩:=h93.form
   obtain ⟨p99,rfl⟩:=h98.mptr
   replace h52:=h52.opnS S86 (by decide) ha88 [2,3,4,5] (by decide)
   refine o_fa rfl rfl (o_ld (hc:=Blk.cell (i:=1) (h87.1) rfl) rfl rfl ?_)
   refine o_mv rfl rfl ?_
   obtain ⟨a100,e101,hf72⟩:=bs hf72
   obtain ⟨p103,x102⟩:=AS e101
   obtain ⟨b104,o105,ce106,hA107,hl108,hd109,v111,rfl,h112,r115,r116,r117⟩:=h93.elem x102
   obtain ⟨A113,c114,rfl⟩:=h112.form
   refine o_iaE (hA:=hA107) (hj:=(Int.toNat_of_nonneg p103).symm) (hlt:=hl108) rfl rfl rfl ?_
   refine o_fa rfl rfl (o_ld (hc:=cat0 hd109) rfl rfl ?_)
   refine o_mv rfl rfl ?_
   obtain ⟨q118,e119,hf72⟩:=bs hf72
   replace h30:=h30.st S86
   refine BG (O:=O85) (A:=All w68) (R:=fun w' F v=>Vb w' F v q118) (EN (fun _ h=>h) (Vb.mono (F:=Fr 0 w68 O85) h112 Fr.lt) (Vb.mono (F:=Fr 0 w68 O85) h30 Fr.lt) e119) rfl rfl fun v124 w120 O121 S122 h123=>?_
   obtain rfl:=h123.bool
   replace h52:=h52.stS S122 id (fun _ _=>id)
   cases q118
   case false =>
    replace hf72:=iF hf72
    refine o_z ?_
    refine Aj rfl (Am ?_)
    replace h87:=h87.st S122
    replace h90:=h90.st S122
    replace h93:=h93.st S122
    replace h98:=h98.st S122
    obtain ⟨O125,S126,hz128,ha129,h127⟩:=Reg.shut (x:=x0) (l0:=2) (l1:=3) (l2:=4) (l3:=5) (by decide) h87 h90 h93 h98
    replace h52:=h52.shutS S126 hz128 ha129 [2] (by decide)
    obtain rfl:=sm hf72
    refine (?_:Exists _)
    replace hB:=((hB.st S86).st S122).st S126
    replace h30:=(h30.st S122).st S126
    exact ⟨_,(),rfl,⟨rfl,rfl,rfl,rfl,rfl,rfl,trivial⟩,_,hB,h127,h30,h52⟩
   replace hf72:=iT hf72
   refine o_z ?_
   refine Ar rfl (Ah (Ae (o_mv rfl rfl (o_mv rfl rfl (o_mv rfl rfl (o_as rfl rfl (o_as rfl rfl (o_as rfl rfl (o_as rfl rfl (o_z ?_))))))))))
   refine Au ?_
   replace h87:=h87.st S122
   replace h90:=h90.st S122
   replace h93:=h93.st S122
   replace h98:=h98.st S122
   obtain ⟨O130,S131,hz133,ha134,h132⟩:=Reg.shut (x:=x0) (l0:=2) (l1:=3) (l2:=4) (l3:=5) (by decide) h87 h90 h93 h98
   obtain rfl:=sm hf72
   obtain rfl:=hret73 _ rfl
   obtain rfl:=sm (Bw hm)
   replace hB:=((hB.st S86).st S122).st S131
   obtain ⟨O',hS',hz,hl⟩:=hE.leave (fun q=>if q=2 then i0 else 0) rfl hB
   replace h30:=(h30.st S122).st S131
   exact ret4 rfl (AF rfl) (AF rfl) (AF rfl) (AF rfl) ⟨O',hS',_,_,_,_,(Ob.leave h132 hz (hl 2 (by decide) (by decide)) hx0.2),rfl,(Vb.mono h30 hz),(vInt r50),(vInt r84),(vErr (show inI64 0 from by decide))⟩
  replace hB:=(((hB.st S6).st S24).st S45).st S58
  replace h30:=(h30.st S45).st S58
  rintro l135 w136 ⟨s139,x140,rfl,hs138,O137,hB,h30,h59⟩
  replace hm:=Bj hm
  refine AT _ hs138 ?_
  refine Ah (Ae (o_mv rfl rfl (o_mv rfl rfl (o_as rfl rfl (o_as rfl rfl (o_as rfl rfl (o_as rfl rfl (o_z ?_))))))))
  refine Au ?_
  obtain rfl:=sm hm
  obtain ⟨O',hS',hz,hl⟩:=hE.leave (fun q=>if q=2 then i0 else 0) rfl hB
  exact ret4 rfl (AF rfl) (AF rfl) (AF rfl) (AF rfl) ⟨O',hS',_,_,_,_,(Ob.leave h59 hz (hl 2 (by decide) (by decide)) hx0.2),rfl,(Vb.mono h30 hz),(vInt r50),(vInt (show inI64 (-1) from by decide)),(vErr (show inI64 0 from by decide))⟩
noncomputable def AW (x0:Reg) (x1:List Int):Option (Int×Bool×Err×Reg) :=
  bnd (Bk x0 x1) fun q5=>if q5.2.2.2.n≠0 then (some (0,false,(⟨q5.2.2.2.n⟩:Err),x0)) else (if 0≤q5.2.2.1 then (some (q5.2.2.1,false,(⟨0⟩:Err),x0)) else (if 65536≤(x0.entries.length:Int) then (some (0,false,(⟨10⟩:Err),x0)) else (bnd (appI 48 x0.entries [(⟨q5.1,(⟨(-1),(-1),0⟩:RLk)⟩:REn)]) fun u53=>bnd (appI 8 (mget ([]:List Int) x0.table.l q5.2.1) ([(x0.entries.length:Int)]:List Int)) fun u82=>some ((x0.entries.length:Int),true,(⟨0⟩:Err),(⟨x0.packer,u53,(⟨mput x0.table.l q5.2.1 u82⟩:MapR 3 Int Int)⟩:Reg)))))
theorem CG {w:World} {O:Lab} {p0 i0:Nat} {x0:Reg} (hx0:Ob i0 w O (.pointer (some ⟨p0,0,none⟩)) x0) {vx1:Value} {x1:List Int} (hx1:Vb w (Fr 0 w O) vx1 x1) {r:Int×Bool×Err×Reg} (hm:AW x0 x1=some r) :
    Fn Try.prog 41 [(.pointer (some ⟨p0,0,none⟩)),vx1] w fun v w'=>∃ O',St (eT i0) w O w' O'∧∃ v0 v1 v2:Value,Ob i0 w' O' (.pointer (some ⟨p0,0,none⟩)) r.2.2.2∧v=.tuple #[v0,v1,v2]∧Vb w' (Fr 0 w' O') v0 r.1∧Vb w' (Fr 0 w' O') v1 r.2.1∧Vb w' (Fr 0 w' O') v2 r.2.2.1:=by
 obtain ⟨O0,hE,hz0,hl2⟩:=ent1 (w:=w) (O:=O) hx0.2
 have hx0':=Ob.leave hx0 hz0 hl2 (j:=2) (by decide)
 have hB:Bm w O0 w O0:=Bm.refl
 replace hx1:=hx1.mono hz0
 obtain ⟨A3,c4,rfl⟩:=hx1.form
 refine AL Try.func41 rfl Try.ntmps41 rfl ?_
 unfold AW at hm
 refine Ah (Ae (o_as rfl rfl (o_as rfl rfl (o_as rfl rfl (o_z ?_)))))
 refine Ah (Ah (Ae (o_mv rfl rfl (o_pn rfl rfl ?_))))
 refine o_z ?_
 refine Aj rfl (Am (Ah (Ae (o_mv rfl rfl (o_mv rfl rfl ?_)))))
 obtain ⟨q5,e6,hm⟩:=bs hm
 refine Bi (O:=O0) (FE hx0' hx1 e6) rfl rfl fun v11 w7 O8 S9 h10=>?_
 obtain ⟨v13,v14,v15,v16,h12,rfl,h17,h18,h19,h20⟩:=h10
 obtain ⟨A21,c22,rfl⟩:=h17.form
 obtain ⟨rfl,r23⟩:=h18.int
 obtain ⟨rfl,r24⟩:=h19.int
 obtain ⟨rfl,r25⟩:=h20.err
 refine o_mv rfl rfl (o_ex rfl rfl rfl (o_ex rfl rfl rfl (o_ex rfl rfl rfl (o_ex rfl rfl rfl (o_as rfl rfl (o_as rfl rfl (o_as rfl rfl (o_as rfl rfl (o_z ?_)))))))))
 refine Ah (Al (Ah (Ae (o_mv rfl rfl (o_rnS rfl rfl (fun c26=>?_) fun c26=>?_)))))
 ·
  replace hm:=ip hm c26
  refine o_as rfl rfl (o_z ?_)
  refine Ar rfl (Ah (Ae (o_mv rfl rfl (o_as rfl rfl (o_as rfl rfl (o_as rfl rfl (o_z ?_)))))))
  refine Au ?_
  obtain rfl:=sm hm
  replace hB:=hB.st S9
  obtain ⟨O',hS',hz,hl⟩:=hE.leave (fun q=>if q=2 then i0 else 0) rfl hB
  exact ret3 rfl (AF rfl) (AF rfl) (AF rfl) ⟨O',hS',_,_,_,(Ob.leave h12 hz (hl 2 (by decide) (by decide)) hx0.2),rfl,(vInt (show inI64 (0) from by decide)),vBool,(vErr r25)⟩
 ·
  replace hm:=im hm c26
  refine o_as rfl rfl (o_z ?_)
  refine Aj rfl (Ah (Ae (o_mv rfl rfl (o_geS rfl rfl rfl (fun c27=>?_) fun c27=>?_))))
  ·
   replace hm:=ip hm c27
   refine o_as rfl rfl (o_z ?_)
   refine Ar rfl (Ah (Ae (o_mv rfl rfl (o_as rfl rfl (o_as rfl rfl (o_as rfl rfl (o_z ?_)))))))
   refine Au ?_
   obtain rfl:=sm hm
   replace hB:=hB.st S9
   obtain ⟨O',hS',hz,hl⟩:=hE.leave (fun q=>if q=2 then i0 else 0) rfl hB
   exact ret3 rfl (AF rfl) (AF rfl) (AF rfl) ⟨O',hS',_,_,_,(Ob.leave h12 hz (hl 2 (by decide) (by decide)) hx0.2),rfl,(vInt r24),vBool,(vErr (show inI64 0 from by decide))⟩
  ·
   replace hm:=im hm c27
   refine o_as rfl rfl (o_z ?_)
   refine Aj rfl (Ah (Ae (o_mv rfl rfl (o_nc rfl rfl ?_))))
   obtain ⟨O28,v32,v35,v40,S29,ha31,h30,h33,h36,h41⟩:=Reg.opn h12 2 3 4 5 (by decide)
   obtain ⟨p34,rfl⟩:=h33.ptr
   obtain ⟨A37,c38,rfl⟩:=h36.form
   obtain ⟨p42,rfl⟩:=h41.mptr
   refine o_fa rfl rfl (o_ld (hc:=Blk.cell (i:=1) (h30.1) rfl) rfl rfl ?_)
   refine o_ln rfl rfl ?_
   have l44:x0.entries.length≤9223372036854775807:=Nat.le_trans h36.len.2.1 h36.len.2.2
   have r43:inI64 (x0.entries.length:Int):=rngNat l44
   refine o_geS rfl rfl rfl (fun c45=>?_) fun c45=>?_
   ·
    replace hm:=ip hm c45
    refine o_as rfl rfl (o_z ?_)
    refine Ar rfl (Ah (Ae (o_miE rfl rfl ?_)))
    refine o_as rfl rfl (o_as rfl rfl (o_as rfl rfl (o_z ?_)))
    refine Au ?_
    obtain ⟨O46,S47,hz49,ha50,h48⟩:=Reg.shut (x:=x0) (l0:=2) (l1:=3) (l2:=4) (l3:=5) (by decide) h30 h33 h36 h41
    obtain rfl:=sm hm
    replace hB:=((hB.st S9).st S29).st S47
    obtain ⟨O',hS',hz,hl⟩:=hE.leave (fun q=>if q=2 then i0 else 0) rfl hB
    exact ret3 rfl (AF rfl) (AF rfl) (AF rfl) ⟨O',hS',_,_,_,(Ob.leave h48 hz (hl 2 (by decide) (by decide)) hx0.2),rfl,(vInt (show inI64 (0) from by decide)),vBool,(vErr (by decide))⟩
   ·
    replace hm:=im hm c45
    refine o_as rfl rfl (o_z ?_)
    refine Aj rfl (Am (Ah (Ae (o_mv rfl rfl (o_nc rfl rfl (o_fa rfl rfl (o_ld (hc:=Blk.cell (i:=1) (h30.1) rfl) rfl rfl ?_)))))))
    refine o_ln rfl rfl ?_
    have l52:x0.entries.length≤9223372036854775807:=Nat.le_trans h36.len.2.1 h36.len.2.2
    have r51:inI64 (x0.entries.length:Int):=rngNat l52
    refine o_as rfl rfl (o_z ?_)
    refine Ah (Ae (o_mv rfl rfl (o_mv rfl rfl (o_nc rfl rfl (o_fa rfl rfl (o_ld (hc:=Blk.cell (i:=1) (h30.1) rfl) rfl rfl ?_))))))
    refine o_mv rfl rfl (o_bd rfl rfl rfl ?_)
    refine o_bd rfl rfl rfl ?_
    obtain ⟨u53,e54,hm⟩:=bs hm
    obtain ⟨e54,e55,e56⟩:=Cx e54
    replace h17:=h17.st S29
    refine Df rfl (a:=(⟨q5.1,(⟨(-1),(-1),0⟩:RLk)⟩:REn)) h36 (Vb.ofAgg (cs:=[(.slice A21 q5.1.length c22),(.int .i64 (-1)),(.int .i64 (-1)),(.int .i64 0)]) (x:=(⟨q5.1,(⟨(-1),(-1),0⟩:RLk)⟩:REn)) rfl ⟨_,rfl,h17,(show inI64 (-1) from by decide),(show inI64 (-1) from by decide),(show inI64 (0) from by decide)⟩) (fun _=>rfl) rfl (by decide) (by decide) e55 e56 ⟨rfl,rfl⟩ fun g57 A58 c59 w60 O61 S62 h63=>?_
    rw [← e54] at h63 ⊢
    refine o_nc rfl rfl (o_fa rfl rfl ?_)
    replace h30:=h30.st S62
    refine AR h30 rfl rfl rfl (Nat.le_of_ble_eq_true rfl) (by first|exact allOne rfl|simp [Value.cells,Value.oneCell',AM]) fun w65 S66 h30=>?_
    replace h30:Lc 2 w65 O61 p0 118 [(.pointer (some ⟨p34,0,none⟩)),(.slice A58 u53.length c59),(.map (some p42))]:=h30
    refine o_z ?_
    refine Ah (BZ [(12,[]),(13,[5,7])] O61 ?_)
    refine x_pre (fuel:=8) [] [(5,true),(6,true),(7,true),(8,true),(9,true),(10,true),(11,true)] (by kernel_rfl) rfl ?_
    refine h_mv rfl rfl rfl (h_nc rfl rfl rfl (h_fa rfl rfl rfl (h_ldC (hc:=fun w' ⟨O',hq⟩=>Blk.cell (i:=2) ((h30.st hq (by decide)).1) rfl) rfl rfl rfl ?_)))
    refine h_mv rfl rfl rfl ?_
    replace h41:=(h41.st S62).st S66
    obtain ⟨A69,c70,hl67,h68⟩:=MapR.get h41 q5.2.1
    refine h_lk q5.2.1 (fun w' ⟨O',hq⟩=>hl67.keep (hq.agree (i:=5) (by decide) _ (MapR.at h41))) rfl rfl rfl rfl ?_
    refine h_mv rfl rfl rfl (AK ?_)
    refine x_pre (fuel:=3) [5,7] [(0,true),(1,true),(2,true),(3,true),(4,true)] (by kernel_rfl) rfl ?_
    refine h_mv rfl rfl rfl (h_nc rfl rfl rfl (h_fa rfl rfl rfl (h_ldC (hc:=fun w' ⟨O',hq⟩=>Blk.cell (i:=2) ((h30.st hq (by decide)).1) rfl) rfl rfl rfl ?_)))
    refine h_mv rfl rfl rfl (AK ?_)
    refine x_one (i:=12) (by kernel_rfl) rfl ?_
    refine Ch 6 (by decide) O61 (xs:=(([(x0.entries.length:Int)]:List Int):List Int)) rfl rfl rfl rfl ⟨(vInt r51),trivial⟩ (by decide) (by decide) rfl fun g71 w72 O73 S74 h75=>?_
    have hZ:=S74.lst [] (fun _ h=>h.elim)
    replace hl67:=hl67.keep (S74.agree (i:=5) id _ (MapR.at h41))
    replace h68:=h68.stS S74 id (fun _ _=>id)
    refine x_go [(13,[5,7])] hZ (by kernel_rfl) ?_
    refine x_one (i:=13) (by kernel_rfl) rfl ?_
    replace h41:=h41.st S74
    obtain ⟨O77,S78,h79,h80⟩:=MapR.take h41 hl67 7 (by decide) (by decide)
    have hZ:=S78.lst [5] (fun _ h=>by cases h;decide)
    obtain ⟨u82,e83,hm⟩:=bs hm
    obtain ⟨e83,e84,e85⟩:=Cx e83
    replace h75:=h75.st S78
    refine Es rfl h80 (h75.rd) rfl rfl (by decide) e84 e85 rfl fun A86 c87 w88 O89 S90 h91=>?_
    rw [← e83] at h91 ⊢
    replace hZ:=hZ.cmp S90 [5,7] (fun _ h=>by cases h;decide) rfl
    refine x_go [] hZ (by kernel_rfl) ?_
    refine x_one (i:=14) (by kernel_rfl) rfl ?_
    replace h79:=h79.st S90
    refine Mh h79 h91 (by decide) rfl rfl rfl fun w93 O94 S95 h96=>?_
    refine x_end (by kernel_rfl) ?_
    refine x_nil (by kernel_rfl) ?_
    refine Ah (Ae (o_mv rfl rfl (o_as rfl rfl (o_as rfl rfl (o_as rfl rfl (o_z ?_))))))
    refine Au ?_
    replace h30:=(((h30.st S74).st S78).st S90).st S95
    replace h33:=(((((h33.st S62).st S66).st S74).st S78).st S90).st S95
    replace h63:=((((h63.st S66).st S74).st S78).st S90).st S95
    obtain ⟨O97,S98,hz100,ha101,h99⟩:=Reg.shut (x:=(⟨x0.packer,u53,(⟨mput x0.table.l q5.2.1 u82⟩:MapR 3 Int Int)⟩:Reg)) (l0:=2) (l1:=3) (l2:=4) (l3:=5) (by decide) h30 h33 h63 h96
    obtain rfl:=sm hm
    replace hB:=((((((((hB.st S9).st S29).st S62).st S66).st S74).st S78).st S90).st S95).st S98
    obtain ⟨O',hS',hz,hl⟩:=hE.leave (fun q=>if q=2 then i0 else 0) rfl hB
    exact ret3 rfl (AF rfl) (AF rfl) (AF rfl) ⟨O',hS',_,_,_,(Ob.leave h99 hz (hl 2 (by decide) (by decide)) hx0.2),rfl,(vInt r51),vBool,(vErr (show inI64 0 from by decide))⟩
noncomputable def AO (x0:Reg):Option Int :=
  some (x0.entries.length:Int)
theorem Ca {w:World} {O:Lab} {p0 i0:Nat} {x0:Reg} (hx0:Ob i0 w O (.pointer (some ⟨p0,0,none⟩)) x0) {r:Int} (hm:AO x0=some r) :
    Fn Try.prog 35 [(.pointer (some ⟨p0,0,none⟩))] w fun v w'=>∃ O',St (eT i0) w O w' O'∧Ob i0 w' O' (.pointer (some ⟨p0,0,none⟩)) x0∧Vb w' (Fr 0 w' O') v r:=by
 obtain ⟨O0,hE,hz0,hl2⟩:=ent1 (w:=w) (O:=O) hx0.2
 have hx0':=Ob.leave hx0 hz0 hl2 (j:=2) (by decide)
 have hB:Bm w O0 w O0:=Bm.refl
 refine AL Try.func35 rfl Try.ntmps35 rfl ?_
 unfold AO at hm
 refine Ah (Ae (o_as rfl rfl (o_z ?_)))
 refine Ah (Ah (Ae (o_mv rfl rfl (o_pn rfl rfl ?_))))
 refine o_z ?_
 refine Aj rfl (Am (Ah (Ae (o_mv rfl rfl (o_nc rfl rfl ?_)))))
 obtain ⟨O2,v6,v9,v14,S3,ha5,h4,h7,h10,h15⟩:=Reg.opn hx0' 2 3 4 5 (by decide)
 obtain ⟨p8,rfl⟩:=h7.ptr
 obtain ⟨A11,c12,rfl⟩:=h10.form
 obtain ⟨p16,rfl⟩:=h15.mptr
 refine o_fa rfl rfl (o_ld (hc:=Blk.cell (i:=1) (h4.1) rfl) rfl rfl ?_)
 refine o_ln rfl rfl ?_
 have l18:x0.entries.length≤9223372036854775807:=Nat.le_trans h10.len.2.1 h10.len.2.2
 have r17:inI64 (x0.entries.length:Int):=rngNat l18
 refine o_as rfl rfl (o_z ?_)
 refine Au ?_
 obtain ⟨O19,S20,hz22,ha23,h21⟩:=Reg.shut (x:=x0) (l0:=2) (l1:=3) (l2:=4) (l3:=5) (by decide) h4 h7 h10 h15
 obtain rfl:=sm hm
 replace hB:=(hB.st S3).st S20
 obtain ⟨O',hS',hz,hl⟩:=hE.leave (fun q=>if q=2 then i0 else 0) rfl hB
 exact ret1v rfl (AF rfl) ⟨O',hS',(Ob.leave h21 hz (hl 2 (by decide) (by decide)) hx0.2),(vInt r17)⟩
noncomputable def Ba (x0:Reg) (x1:Int):Option Bool :=
  bnd (if 0≤x1 then (if x1 < (x0.entries.length:Int) then (some true) else (some false)) else (some false):Option Bool) fun y3=>some y3
theorem CH {w:World} {O:Lab} {p0 i0:Nat} {x0:Reg} (hx0:Ob i0 w O (.pointer (some ⟨p0,0,none⟩)) x0) {x1:Int} (rx1:inI64 x1) {r:Bool} (hm:Ba x0 x1=some r) :
    Fn Try.prog 61 [(.pointer (some ⟨p0,0,none⟩)),(.int .i64 x1)] w fun v w'=>∃ O',St (eT i0) w O w' O'∧Ob i0 w' O' (.pointer (some ⟨p0,0,none⟩)) x0∧Vb w' (Fr 0 w' O') v r:=by
 obtain ⟨O0,hE,hz0,hl2⟩:=ent1 (w:=w) (O:=O) hx0.2
 have hx0':=Ob.leave hx0 hz0 hl2 (j:=2) (by decide)
 have hB:Bm w O0 w O0:=Bm.refl
 refine AL Try.func61 rfl Try.ntmps61 rfl ?_
 unfold Ba at hm
 refine Ah (Ae (o_as rfl rfl (o_z ?_)))
 refine Ah ?_
 obtain ⟨y3,hy4,hm⟩:=bs hm
 refine AN (fun l' w'=>∃ (x6:Unit) (O':Lab),subs l' [(4,(.bool y3))]∧Bm w O0 w' O'∧Ob 2 w' O' (.pointer (some ⟨p0,0,none⟩)) x0) ?_ ?_
 ·
  refine Ae (o_mv rfl rfl (o_geS rfl rfl rfl (fun c7=>?_) fun c7=>?_))
  ·
   replace hy4:=ip hy4 c7
   refine o_mv rfl rfl (AD rfl rfl (o_mv rfl rfl (AD rfl rfl (o_mv rfl rfl (AD rfl rfl (o_nc rfl rfl (AD rfl rfl ?_)))))))
   obtain ⟨O8,v12,v15,v20,S9,ha11,h10,h13,h16,h21⟩:=Reg.opn hx0' 2 3 4 5 (by decide)
   obtain ⟨p14,rfl⟩:=h13.ptr
   obtain ⟨A17,c18,rfl⟩:=h16.form
   obtain ⟨p22,rfl⟩:=h21.mptr
   refine o_fa rfl rfl (AD rfl rfl (o_ld (hc:=Blk.cell (i:=1) (h10.1) rfl) rfl rfl ?_))
   refine AD rfl rfl (o_ln rfl rfl ?_)
   have l24:x0.entries.length≤9223372036854775807:=Nat.le_trans h16.len.2.1 h16.len.2.2
   have r23:inI64 (x0.entries.length:Int):=rngNat l24
   refine AD rfl rfl (o_ltS rfl rfl rfl (fun c25=>?_) fun c25=>?_)
   ·
    replace hy4:=ip hy4 c25
    refine o_pt rfl rfl rfl (o_as rfl rfl (o_z ?_))
    obtain ⟨O26,S27,hz29,ha30,h28⟩:=Reg.shut (x:=x0) (l0:=2) (l1:=3) (l2:=4) (l3:=5) (by decide) h10 h13 h16 h21
    obtain rfl:=sm hy4
    replace hB:=(hB.st S9).st S27
    exact ⟨(),_,⟨rfl,trivial⟩,hB,h28⟩
   ·
    replace hy4:=im hy4 c25
    refine o_pt rfl rfl rfl (o_as rfl rfl (o_z ?_))
    obtain ⟨O31,S32,hz34,ha35,h33⟩:=Reg.shut (x:=x0) (l0:=2) (l1:=3) (l2:=4) (l3:=5) (by decide) h10 h13 h16 h21
    obtain rfl:=sm hy4
    replace hB:=(hB.st S9).st S32
    exact ⟨(),_,⟨rfl,trivial⟩,hB,h33⟩
  ·
   replace hy4:=im hy4 c7
   refine o_mv rfl rfl (AB rfl rfl rfl rfl (AB rfl rfl rfl rfl (AB rfl rfl rfl rfl (AB rfl rfl rfl rfl (AB rfl rfl rfl rfl (AB rfl rfl rfl rfl (AB rfl rfl rfl rfl (o_pf rfl rfl rfl (o_as rfl rfl (o_z ?_))))))))))
   obtain rfl:=sm hy4
   exact ⟨(),_,⟨rfl,trivial⟩,hB,hx0'⟩
 rintro l36 w37 ⟨x6,O38,hs39,hB,h24⟩
 refine AT _ hs39 ?_
 refine Au ?_
 obtain rfl:=sm hm
 obtain ⟨O',hS',hz,hl⟩:=hE.leave (fun q=>if q=2 then i0 else 0) rfl hB
 exact ret1v rfl (AF rfl) ⟨O',hS',(Ob.leave h24 hz (hl 2 (by decide) (by decide)) hx0.2),vBool⟩
noncomputable def AZ (x0:Reg) (x1:Int):Option ((List Int)×Err) :=
  bnd (Ba x0 x1) fun q3=>if q3=true then bnd (atI x0.entries x1) fun a27=>bnd (Cd x0.packer a27.words) fun q45=>some (q45.1,(⟨q45.2.n⟩:Err)) else some (([]:List Int),(⟨1⟩:Err))
theorem CT {w:World} {O:Lab} {p0 i0:Nat} {x0:Reg} (hx0:Ob i0 w O (.pointer (some ⟨p0,0,none⟩)) x0) {x1:Int} (rx1:inI64 x1) {r:(List Int)×Err} (hm:AZ x0 x1=some r) :
    Fn Try.prog 36 [(.pointer (some ⟨p0,0,none⟩)),(.int .i64 x1)] w fun v w'=>∃ O',St (eT i0) w O w' O'∧∃ v0 v1:Value,Ob i0 w' O' (.pointer (some ⟨p0,0,none⟩)) x0∧v=.tuple #[v0,v1]∧Vb w' (Fr 0 w' O') v0 r.1∧Vb w' (Fr 0 w' O') v1 r.2:=by
 obtain ⟨O0,hE,hz0,hl2⟩:=ent1 (w:=w) (O:=O) hx0.2
 have hx0':=Ob.leave hx0 hz0 hl2 (j:=2) (by decide)
 have hB:Bm w O0 w O0:=Bm.refl
 refine AL Try.func36 rfl Try.ntmps36 rfl ?_
 unfold AZ at hm
 refine Ah (Ae (o_as rfl rfl (o_as rfl rfl (o_z ?_))))
 refine Ah (Al (Ah (Ae (o_mv rfl rfl (o_pn rfl rfl ?_)))))
 refine o_as rfl rfl (o_z ?_)
 refine Aj rfl (Ah (Ae (o_mv rfl rfl (o_mv rfl rfl ?_))))
 obtain ⟨q3,e4,hm⟩:=bs hm
 refine Bi (O:=O0) (CH hx0' rx1 e4) rfl rfl fun v9 w5 O6 S7 h8=>?_
 obtain ⟨h10,h11⟩:=h8
 obtain rfl:=h11.bool
 cases q3
 case false =>
  replace hm:=iF hm
  refine o_nf rfl rfl (o_as rfl rfl (o_z ?_))
  refine Ar rfl (Ah (Ae (o_miE rfl rfl ?_)))
  refine o_as rfl rfl (o_as rfl rfl (o_z ?_))
  refine Au ?_
  obtain rfl:=sm hm
  replace hB:=hB.st S7
  obtain ⟨O',hS',hz,hl⟩:=hE.leave (fun q=>if q=2 then i0 else 0) rfl hB
  exact ret2 rfl (AF rfl) (AF rfl) ⟨O',hS',_,_,(Ob.leave h10 hz (hl 2 (by decide) (by decide)) hx0.2),rfl,(Vb.mono (Vb.nil _ _) hz),(vErr (by decide))⟩
 replace hm:=iT hm
 refine o_nt rfl rfl (o_as rfl rfl (o_z ?_))
 refine Aj rfl (Am (Ah ?_))
 obtain ⟨O12,v16,v19,v24,S13,ha15,h14,h17,h20,h25⟩:=Reg.opn h10 2 3 4 5 (by decide)
 obtain ⟨p18,rfl⟩:=h17.ptr
 obtain ⟨A21,c22,rfl⟩:=h20.form
 obtain ⟨p26,rfl⟩:=h25.mptr
 refine BZ [(12,[3])] O12 ?_
 refine x_pre (fuel:=5) [] [(0,true),(1,true),(2,true),(3,true),(4,true),(5,true),(6,true),(7,true),(8,true),(9,true),(10,true),(11,true)] (by kernel_rfl) rfl ?_
 refine h_mv rfl rfl rfl (h_nc rfl rfl rfl (h_fa rfl rfl rfl (h_ldC (hc:=fun w' ⟨O',hq⟩=>Blk.cell (i:=0) ((h14.st hq (by decide)).1) rfl) rfl rfl rfl ?_)))
 refine h_mv rfl rfl rfl (h_nc rfl rfl rfl (h_fa rfl rfl rfl (h_ldC (hc:=fun w' ⟨O',hq⟩=>Blk.cell (i:=1) ((h14.st hq (by decide)).1) rfl) rfl rfl rfl ?_)))
 refine h_mv rfl rfl rfl ?_
 obtain ⟨a27,e28,hm⟩:=bs hm
 obtain ⟨p30,x29⟩:=AS e28
 obtain ⟨b31,o32,ce33,hA34,hF37,hl35,hd36,v38,rfl,h39,r42,r43,r44⟩:=h20.elemF x29
 obtain ⟨A40,c41,rfl⟩:=h39.form
 refine h_iaE (hA:=hA34) (hj:=(Int.toNat_of_nonneg p30).symm) (hlt:=hl35) rfl rfl rfl rfl ?_
 refine h_fa rfl rfl rfl (h_ldC (hc:=fun w' ⟨O',hq⟩=>cat0 (BB (hq.agree (i:=4) (by decide)) hF37 hd36)) rfl rfl rfl ?_)
 refine AK ?_
 refine x_one (i:=12) (by kernel_rfl) rfl ?_
 obtain ⟨q45,e46,hm⟩:=bs hm
 refine Bi (O:=O12) (Gy h17 h39 e46) rfl rfl fun v51 w47 O48 S49 h50=>?_
 obtain ⟨v53,v54,h52,rfl,h55,h56⟩:=h50
 obtain ⟨A57,c58,rfl⟩:=h55.form
 obtain ⟨rfl,r59⟩:=h56.err
 have hZ:=S49.lst [3] (fun _ h=>by cases h;decide)
 refine x_go [] hZ (by kernel_rfl) ?_
 refine x_pre (fuel:=0) [] [(13,true),(14,true),(15,true),(16,true)] (by kernel_rfl) rfl ?_
 refine h_ex rfl rfl rfl rfl (h_ex rfl rfl rfl rfl (h_as rfl rfl rfl (h_as rfl rfl rfl (AK ?_))))
 refine x_nil (by kernel_rfl) ?_
 refine Au ?_
 replace h14:=h14.st S49
 replace h20:=h20.st S49
 replace h25:=h25.st S49
 obtain ⟨O60,S61,hz63,ha64,h62⟩:=Reg.shut (x:=x0) (l0:=2) (l1:=3) (l2:=4) (l3:=5) (by decide) h14 h52 h20 h25
 obtain rfl:=sm hm
 replace hB:=(((hB.st S7).st S13).st S49).st S61
 obtain ⟨O',hS',hz,hl⟩:=hE.leave (fun q=>if q=2 then i0 else 0) rfl hB
 replace h55:=h55.st S61
 exact ret2 rfl (AF rfl) (AF rfl) ⟨O',hS',_,_,(Ob.leave h62 hz (hl 2 (by decide) (by decide)) hx0.2),rfl,(Vb.mono h55 hz),(vErr r59)⟩
noncomputable def Bb (x0:Reg) (x1:Int) (x2:Int) (x3:Int) (x4:Int):Option (Err×Reg) :=
  bnd (bnd (Ba x0 x1) fun q10=>if q10=true then if x2≠(-1) then (bnd (Ba x0 x2) fun q20=>if q20=true then some false else some true) else (some false) else some true:Option Bool) fun y6=>if y6=true then (some ((⟨1⟩:Err),x0)) else (bnd (atI x0.entries x1) fun a49=>some ((⟨0⟩:Err),(⟨x0.packer,(x0.entries.set (x1:Int).toNat ({ a49 with link:=(⟨x2,x3,x4⟩:RLk) }:REn)),x0.table⟩:Reg)))
theorem Dy {w:World} {O:Lab} {p0 i0:Nat} {x0:Reg} (hx0:Ob i0 w O (.pointer (some ⟨p0,0,none⟩)) x0) {x1:Int} (rx1:inI64 x1) {x2:Int} (rx2:inI64 x2) {x3:Int} (rx3:inI64 x3) {x4:Int} (rx4:inI64 x4) {r:Err×Reg} (hm:Bb x0 x1 x2 x3 x4=some r) :
    Fn Try.prog 42 [(.pointer (some ⟨p0,0,none⟩)),(.int .i64 x1),(.int .i64 x2),(.int .i64 x3),(.int .i64 x4)] w fun v w'=>∃ O',St (eT i0) w O w' O'∧Ob i0 w' O' (.pointer (some ⟨p0,0,none⟩)) r.2∧Vb w' (Fr 0 w' O') v r.1:=by
 obtain ⟨O0,hE,hz0,hl2⟩:=ent1 (w:=w) (O:=O) hx0.2
 have hx0':=Ob.leave hx0 hz0 hl2 (j:=2) (by decide)
 have hB:Bm w O0 w O0:=Bm.refl
 refine AL Try.func42 rfl Try.ntmps42 rfl ?_
 unfold Bb at hm
 refine Ah (Ae (o_as rfl rfl (o_z ?_)))
 refine Ah (Al (Ah (Ae (o_mv rfl rfl (o_pn rfl rfl ?_)))))
 refine o_as rfl rfl (o_z ?_)
 refine Aj rfl (Ah ?_)
 obtain ⟨y6,hy7,hm⟩:=bs hm
 refine AN (fun l' w'=>∃ (x9:Unit) (O':Lab),subs l' [(0,(.pointer (some ⟨p0,0,none⟩))),(1,(.int .i64 x1)),(2,(.int .i64 x2)),(3,(.int .i64 x3)),(4,(.int .i64 x4)),(15,(.bool y6))]∧Bm w O0 w' O'∧Ob 2 w' O' (.pointer (some ⟨p0,0,none⟩)) x0) ?_ ?_
 ·
  refine Ae (o_mv rfl rfl (o_mv rfl rfl ?_))
  obtain ⟨q10,e11,hy7⟩:=bs hy7
  refine Bi (O:=O0) (CH hx0' rx1 e11) rfl rfl fun v16 w12 O13 S14 h15=>?_
  obtain ⟨h17,h18⟩:=h15
  obtain rfl:=h18.bool
  cases q10
  case false =>
   replace hy7:=iF hy7
   refine o_nf rfl rfl (o_mv rfl rfl (AB rfl rfl rfl rfl (AB rfl rfl rfl rfl (AB rfl rfl rfl rfl (AB rfl rfl rfl rfl (AB rfl rfl rfl rfl (AB rfl rfl rfl rfl (AB rfl rfl rfl rfl (AB rfl rfl rfl rfl (o_pt rfl rfl rfl (o_as rfl rfl (o_z ?_))))))))))))
   obtain rfl:=sm hy7
   replace hB:=hB.st S14
   exact ⟨(),_,⟨rfl,rfl,rfl,rfl,rfl,rfl,trivial⟩,hB,h17⟩
  replace hy7:=iT hy7
  refine o_nt rfl rfl (o_mv rfl rfl (AD rfl rfl (o_mv rfl rfl (AD rfl rfl (o_neS rfl rfl rfl (fun c19=>?_) fun c19=>?_)))))
  ·
   replace hy7:=ip hy7 c19
   refine AD rfl rfl (o_mv rfl rfl (AD rfl rfl (o_mv rfl rfl (AD rfl rfl (o_mv rfl rfl (AD rfl rfl ?_))))))
   obtain ⟨q20,e21,hy7⟩:=bs hy7
   refine Bi (O:=O13) (CH h17 rx2 e21) rfl rfl fun v26 w22 O23 S24 h25=>?_
   obtain ⟨h27,h28⟩:=h25
   obtain rfl:=h28.bool
   cases q20
   case false =>
    replace hy7:=iF hy7
    refine AD rfl rfl (o_nf rfl rfl (AD rfl rfl (o_pt rfl rfl rfl (o_pf rfl rfl rfl (o_as rfl rfl (o_z ?_))))))
    obtain rfl:=sm hy7
    replace hB:=(hB.st S14).st S24
    exact ⟨(),_,⟨rfl,rfl,rfl,rfl,rfl,rfl,trivial⟩,hB,h27⟩
   replace hy7:=iT hy7
   refine AD rfl rfl (o_nt rfl rfl (AD rfl rfl (o_pt rfl rfl rfl (o_pf rfl rfl rfl (o_as rfl rfl (o_z ?_))))))
   obtain rfl:=sm hy7
   replace hB:=(hB.st S14).st S24
   exact ⟨(),_,⟨rfl,rfl,rfl,rfl,rfl,rfl,trivial⟩,hB,h27⟩
  ·
   replace hy7:=im hy7 c19
   refine AD rfl rfl (o_mv rfl rfl (AB rfl rfl rfl rfl (AB rfl rfl rfl rfl (AB rfl rfl rfl rfl (AB rfl rfl rfl rfl (AD rfl rfl (o_pf rfl rfl rfl (o_pf rfl rfl rfl (o_as rfl rfl (o_z ?_))))))))))
   obtain rfl:=sm hy7
   replace hB:=hB.st S14
   exact ⟨(),_,⟨rfl,rfl,rfl,rfl,rfl,rfl,trivial⟩,hB,h17⟩
 rintro l29 w30 ⟨x9,O31,hs32,hB,h13⟩
 refine AT _ hs32 ?_
 refine Cl rfl (fun c33=>?_) (fun c33=>?_)
 ·
  replace hm:=ip hm c33
  refine Ah (Ae (o_miE rfl rfl ?_))
  refine o_as rfl rfl (o_z ?_)
  refine Au ?_
  obtain rfl:=sm hm
  obtain ⟨O',hS',hz,hl⟩:=hE.leave (fun q=>if q=2 then i0 else 0) rfl hB
  exact ret1v rfl (AF rfl) ⟨O',hS',(Ob.leave h13 hz (hl 2 (by decide) (by decide)) hx0.2),(vErr (by decide))⟩
 ·
  replace hm:=im' hm c33
  refine Am (Ah (Ae (o_mv rfl rfl (o_nc rfl rfl ?_))))
  obtain ⟨O34,v38,v41,v46,S35,ha37,h36,h39,h42,h47⟩:=Reg.opn h13 2 3 4 5 (by decide)
  obtain ⟨p40,rfl⟩:=h39.ptr
  obtain ⟨A43,c44,rfl⟩:=h42.form
  obtain ⟨p48,rfl⟩:=h47.mptr
  refine o_fa rfl rfl (o_ld (hc:=Blk.cell (i:=1) (h36.1) rfl) rfl rfl ?_)
  refine o_mv rfl rfl (o_mv rfl rfl (o_mv rfl rfl (o_mv rfl rfl (o_bd rfl rfl rfl ?_))))
  obtain ⟨a49,e50,hm⟩:=bs hm
  obtain ⟨p52,x51⟩:=AS e50
  obtain ⟨b53,o54,ce55,hA56,hl57,hd58,v60,rfl,h61,r64,r65,r66⟩:=h42.elem x51
  obtain ⟨A62,c63,rfl⟩:=h61.form
  refine o_iaE (hA:=hA56) (hj:=(Int.toNat_of_nonneg p52).symm) (hlt:=hl57) rfl rfl rfl ?_
  refine o_fa rfl rfl (KY (a:=a49) (a':=({ a49 with link:=(⟨x2,x3,x4⟩:RLk) }:REn)) (off:=1) h42 hA56 x51 rfl rfl rfl (Nat.le_of_ble_eq_true rfl) (by first|exact allOne rfl|simp [Value.cells,Value.oneCell',AM]) (by rintro ce ⟨v69,rfl,h70,r73,r74,r75⟩;exact ⟨_,rfl,h70,rx2,rx3,rx4⟩) fun w67 S68 h42=>?_)
  refine o_z ?_
  refine Ah (Ae (o_as rfl rfl (o_z ?_)))
  refine Au ?_
  replace h36:=h36.st S68
  replace h39:=h39.st S68
  replace h47:=h47.st S68
  obtain ⟨O76,S77,hz79,ha80,h78⟩:=Reg.shut (x:=(⟨x0.packer,(x0.entries.set (x1:Int).toNat ({ a49 with link:=(⟨x2,x3,x4⟩:RLk) }:REn)),x0.table⟩:Reg)) (l0:=2) (l1:=3) (l2:=4) (l3:=5) (by decide) (by have q:=h36;rw [← ((by simp:(x0.entries.set (x1:Int).toNat ({ a49 with link:=(⟨x2,x3,x4⟩:RLk) }:REn)).length=x0.entries.length).trans rfl)] at q;exact q) h39 h42.relen h47
  obtain rfl:=sm hm
  replace hB:=((hB.st S35).st S68).st S77
  obtain ⟨O',hS',hz,hl⟩:=hE.leave (fun q=>if q=2 then i0 else 0) rfl hB
  exact ret1v rfl (AF rfl) ⟨O',hS',(Ob.leave h78 hz (hl 2 (by decide) (by decide)) hx0.2),(vErr (show inI64 0 from by decide))⟩
noncomputable def Bq (x0:List Int):Option (List Int) :=
  bnd (chkI ((x0.length:Int) - 1)) fun n4=>bnd (lop (ρ:=(List Int)) (fun (s9:(List Int)×Int×Int)=>if s9.2.1 < s9.2.2 then (bnd (atI s9.1 s9.2.2) fun a31=>bnd (atI s9.1 s9.2.1) fun a43=>bnd (atI s9.1 s9.2.1) fun a55=>bnd (atI (s9.1.set (s9.2.1:Int).toNat a31) s9.2.2) fun a69=>bnd (chkI (s9.2.1 + 1)) fun n83=>bnd (chkI (s9.2.2 - 1)) fun n86=>some (.next (((s9.1.set (s9.2.1:Int).toNat a31).set (s9.2.2:Int).toNat a43),n83,n86))) else (some (.brk (s9.1,s9.2.1,s9.2.2)))) (x0,0,n4)) fun res7=>fin res7 fun (s93:(List Int)×Int×Int)=>some s93.1
theorem Fp {w:World} {O:Lab} {A0:Option Addr} {m0 c0 i0:Nat} {x0:List Int} (hx0:Rw i0 w O 3 (.slice A0 m0 c0) x0) {r:(List Int)} (hm:Bq x0=some r) :
    Fn Try.prog 78 [(.slice A0 m0 c0)] w fun v w'=>∃ O',St (eT i0) w O w' O'∧Rw i0 w' O' 3 (.slice A0 m0 c0) r:=by
 obtain ⟨O0,hE,hz0,hl2⟩:=ent1 (w:=w) (O:=O) hx0.2.2
 obtain rfl:m0=x0.length:=hx0.len.1
 have hx0':=Rw.leave hx0 hz0 hl2 (j:=2) (by decide)
 have hB:Bm w O0 w O0:=Bm.refl
 refine AL Try.func78 rfl Try.ntmps78 rfl ?_
 unfold Bq at hm
 refine Ah (Ae (o_mv rfl rfl (o_ln rfl rfl ?_)))
 have l3:x0.length≤9223372036854775807:=Nat.le_trans hx0'.len.2.1 hx0'.len.2.2
 have r2:inI64 (x0.length:Int):=rngNat l3
 obtain ⟨n4,e5,hm⟩:=bs hm
 have r6:=(Br e5)
 refine o_sbE (he:=e5) rfl rfl rfl ?_
 refine o_as rfl rfl (o_as rfl rfl (o_z ?_))
 obtain ⟨res7,hL8,hm⟩:=bs hm
 refine AN (aft res7 (fun (s9:(List Int)×Int×Int) (x10:Unit)=>[(0,(.slice A0 x0.length c0))]) (fun s9 x10 w'=>∃ O':Lab,Bm w O0 w' O'∧Rw 2 w' O' 3 (.slice A0 x0.length c0) s9.1∧inI64 s9.2.1∧inI64 s9.2.2)) ?_ ?_
 ·
  refine Al (Ez (σ:=(List Int)×Int×Int) (X:=Unit) hL8 (fun (s9:(List Int)×Int×Int) (x10:Unit)=>[(0,(.slice A0 x0.length c0)),(2,(.int .i64 s9.2.1)),(3,(.int .i64 s9.2.2))]) _ (fun s9 x10 w'=>∃ O':Lab,Bm w O0 w' O'∧Rw 2 w' O' 3 (.slice A0 x0.length c0) s9.1∧inI64 s9.2.1∧inI64 s9.2.2) _ () ⟨O0,hB,hx0',(show inI64 (0) from by decide),r6⟩ ⟨rfl,rfl,rfl,trivial⟩ ?_)
  rintro s9 x10 w13 cc15 ⟨O14,hB,h26,r28,r29⟩ hf17 hret18 hbrk19
  refine Ah (Ah (Ae (o_mv rfl rfl (o_mv rfl rfl (o_ltS rfl rfl rfl (fun c30=>?_) fun c30=>?_)))))
  ·
   replace hf17:=ip hf17 c30
   refine o_z ?_
   refine Ar rfl (Am (Ah (Al (BZ [(13,[2])] O14 ?_))))
   refine x_pre (fuel:=5) [] [(0,true),(1,true),(4,true),(5,true),(6,true),(7,true),(8,true),(9,true),(10,true),(11,true),(12,true)] (by kernel_rfl) rfl ?_
   refine h_mv rfl rfl rfl (h_mv rfl rfl rfl (h_mv rfl rfl rfl (h_mv rfl rfl rfl ?_)))
   obtain ⟨a31,e32,hf17⟩:=bs hf17
   obtain ⟨p34,x33⟩:=AS e32
   obtain ⟨b35,o36,ce37,hA38,hF41,hl39,hd40,rfl,r42⟩:=h26.elemF x33
   refine h_iaE (hA:=hA38) (hj:=(Int.toNat_of_nonneg p34).symm) (hlt:=hl39) rfl rfl rfl rfl ?_
   refine h_ldC (hc:=fun w' ⟨O',hq⟩=>cat0 (BB (hq.agree (i:=2) (by decide)) hF41 hd40)) rfl rfl rfl ?_
   refine h_mv rfl rfl rfl (h_mv rfl rfl rfl ?_)
   obtain ⟨a43,e44,hf17⟩:=bs hf17
   obtain ⟨p46,x45⟩:=AS e44
   obtain ⟨b47,o48,ce49,hA50,hF53,hl51,hd52,rfl,r54⟩:=h26.elemF x45
   refine h_iaE (hA:=hA50) (hj:=(Int.toNat_of_nonneg p46).symm) (hlt:=hl51) rfl rfl rfl rfl ?_
   refine h_ldC (hc:=fun w' ⟨O',hq⟩=>cat0 (BB (hq.agree (i:=2) (by decide)) hF53 hd52)) rfl rfl rfl ?_
   obtain ⟨a55,e56,hf17⟩:=bs hf17
   obtain ⟨p58,x57⟩:=AS e56
   obtain ⟨b59,o60,ce61,hA62,hF65,hl63,hd64,rfl,r66⟩:=h26.elemF x57
   refine h_iaE (hA:=hA62) (hj:=(Int.toNat_of_nonneg p58).symm) (hlt:=hl63) rfl rfl rfl rfl ?_
   refine AK ?_
   refine x_pre (fuel:=3) [2] [(2,true),(3,true)] (by kernel_rfl) rfl ?_
   refine h_mv rfl rfl rfl (h_mv rfl rfl rfl (AK ?_))
   refine x_one (i:=13) (by kernel_rfl) rfl ?_
   refine DI rfl h26 (a:=a31) (vInt r42) hA62 rfl rfl (AJ x57) fun w67 S68 h26=>?_
   have hZ:=S68.lst [2] (fun _ h=>by cases h;decide)
   refine x_go [] hZ (by kernel_rfl) ?_
   refine x_pre (fuel:=1) [] [(14,true)] (by kernel_rfl) rfl ?_
   obtain ⟨a69,e70,hf17⟩:=bs hf17
   obtain ⟨p72,x71⟩:=AS e70
   obtain ⟨b73,o74,ce75,hA76,hF79,hl77,hd78,rfl,r80⟩:=h26.elemF x71
   refine h_iaE (hA:=hA76) (hj:=(Int.toNat_of_nonneg p72).symm) (hlt:=hl77) rfl rfl rfl rfl ?_
   refine AK ?_
   refine x_one (i:=15) (by kernel_rfl) rfl ?_
   refine DI rfl h26 (a:=a43) (vInt r54) hA76 rfl rfl (AJ x71) fun w81 S82 h26=>?_
   refine x_end (by kernel_rfl) ?_
   refine x_nil (by kernel_rfl) ?_
   refine Ae (o_mv rfl rfl ?_)
   obtain ⟨n83,e84,hf17⟩:=bs hf17
   have r85:=(Br e84)
   refine o_adE (he:=e84) rfl rfl rfl ?_
   refine o_mv rfl rfl ?_
   obtain ⟨n86,e87,hf17⟩:=bs hf17
   have r88:=(Br e87)
   refine o_sbE (he:=e87) rfl rfl rfl ?_
   refine o_as rfl rfl (o_as rfl rfl (o_z ?_))
   obtain rfl:=sm hf17
   refine (?_:Exists _)
   replace hB:=(hB.st S68).st S82
   exact ⟨_,(),rfl,⟨rfl,rfl,rfl,trivial⟩,_,hB,h26,r85,r88⟩
  ·
   replace hf17:=im hf17 c30
   refine o_z ?_
   refine Aj rfl (At ?_)
   obtain rfl:=sm hf17
   refine (?_:Exists _)
   exact ⟨_,(),hbrk19 _ rfl,⟨rfl,trivial⟩,_,hB,h26,r28,r29⟩
 rintro l89 w90 ⟨s93,x94,rfl,hs92,O91,hB,h26,r28,r29⟩
 replace hm:=Bj hm
 obtain rfl:=sm hm
 obtain ⟨O',hS',hz,hl⟩:=hE.leave (fun q=>if q=2 then i0 else 0) rfl hB
 exact ret0n rfl  ⟨O',hS',(Rw.leave h26 hz (hl 2 (by decide) (by decide)) hx0.2.2)⟩
noncomputable def BD (x0:Reg) (x1:Int):Option ((List Int)×Err) :=
  bnd (Ba x0 x1) fun q3=>if q3=true then bnd (lop (ρ:=(List Int)×Err) (fun (s14:Int×(List Int))=>bnd (atI x0.entries s14.1) fun a48=>if a48.link.parent < 0 then (bnd (Bq s14.2) fun q74=>some (.ret (q74,(⟨0⟩:Err)))) else (bnd (appI 8 s14.2 [a48.link.op]) fun u89=>if (x0.entries.length:Int) < (u89.length:Int) then (some (.ret (([]:List Int),(⟨21⟩:Err)))) else (some (.next (a48.link.parent,u89))))) (x1,([]:List Int))) fun res12=>fin res12 fun (_:Int×(List Int))=>none else some (([]:List Int),(⟨1⟩:Err))
theorem FF {w:World} {O:Lab} {p0 i0:Nat} {x0:Reg} (hx0:Ob i0 w O (.pointer (some ⟨p0,0,none⟩)) x0) {x1:Int} (rx1:inI64 x1) {r:(List Int)×Err} (hm:BD x0 x1=some r) :
    Fn Try.prog 63 [(.pointer (some ⟨p0,0,none⟩)),(.int .i64 x1)] w fun v w'=>∃ O',St (eT i0) w O w' O'∧∃ v0 v1:Value,Ob i0 w' O' (.pointer (some ⟨p0,0,none⟩)) x0∧v=.tuple #[v0,v1]∧Vb w' (Fr 0 w' O') v0 r.1∧Vb w' (Fr 0 w' O') v1 r.2:=by
 obtain ⟨O0,hE,hz0,hl2⟩:=ent1 (w:=w) (O:=O) hx0.2
 have hx0':=Ob.leave hx0 hz0 hl2 (j:=2) (by decide)
 have hB:Bm w O0 w O0:=Bm.refl
 refine AL Try.func63 rfl Try.ntmps63 rfl ?_
 unfold BD at hm
 refine Ah (Ae (o_as rfl rfl (o_as rfl rfl (o_z ?_))))
 refine Ah (Al (Ah (Ae (o_mv rfl rfl (o_pn rfl rfl ?_)))))
 refine o_as rfl rfl (o_z ?_)
 refine Aj rfl (Ah (Ae (o_mv rfl rfl (o_mv rfl rfl ?_))))
 obtain ⟨q3,e4,hm⟩:=bs hm
 refine Bi (O:=O0) (CH hx0' rx1 e4) rfl rfl fun v9 w5 O6 S7 h8=>?_
 obtain ⟨h10,h11⟩:=h8
 obtain rfl:=h11.bool
 cases q3
 case false =>
  replace hm:=iF hm
  refine o_nf rfl rfl (o_as rfl rfl (o_z ?_))
  refine Ar rfl (Ah (Ae (o_miE rfl rfl ?_)))
  refine o_as rfl rfl (o_as rfl rfl (o_z ?_))
  refine Au ?_
  obtain rfl:=sm hm
  replace hB:=hB.st S7
  obtain ⟨O',hS',hz,hl⟩:=hE.leave (fun q=>if q=2 then i0 else 0) rfl hB
  exact ret2 rfl (AF rfl) (AF rfl) ⟨O',hS',_,_,(Ob.leave h10 hz (hl 2 (by decide) (by decide)) hx0.2),rfl,(Vb.mono (Vb.nil _ _) hz),(vErr (by decide))⟩
 replace hm:=iT hm
 refine o_nt rfl rfl (o_as rfl rfl (o_z ?_))
 refine Aj rfl (Am (Ah (Ae (o_as rfl rfl (o_z ?_)))))
 obtain ⟨res12,hL13,hm⟩:=bs hm
 refine AN (aft res12 (fun (s14:Int×(List Int)) (x15:(Option Addr×Nat))=>[]) (fun s14 x15 w'=>False)) ?_ ?_
 ·
  refine Al ?_
  replace hB:=hB.st S7
  refine Ez (σ:=Int×(List Int)) (X:=(Option Addr×Nat)) hL13 (fun (s14:Int×(List Int)) (x15:(Option Addr×Nat))=>[(0,(.pointer (some ⟨p0,0,none⟩))),(1,(.int .i64 s14.1)),(6,(.slice x15.1 s14.2.length x15.2))]) _ (fun s14 x15 w'=>∃ O':Lab,Bm w O0 w' O'∧Ob 2 w' O' (.pointer (some ⟨p0,0,none⟩)) x0∧Rw 8 w' O' 3 (.slice x15.1 s14.2.length x15.2) s14.2∧inI64 s14.1) _ (none,0) ⟨O6,hB,h10,(Rw.nil 8 (by decide)),rx1⟩ ⟨rfl,rfl,rfl,trivial⟩ ?_
  rintro s14 x15 w18 cc20 ⟨O19,hB,h10,h31,r30⟩ hf22 hret23 hbrk24
  refine Al (Ah (Ae (o_mv rfl rfl (o_nc rfl rfl ?_))))
  obtain ⟨O33,v37,v40,v45,S34,ha36,h35,h38,h41,h46⟩:=Reg.opn h10 2 3 4 5 (by decide)
  obtain ⟨p39,rfl⟩:=h38.ptr
  obtain ⟨A42,c43,rfl⟩:=h41.form
  obtain ⟨p47,rfl⟩:=h46.mptr
  refine o_fa rfl rfl (o_ld (hc:=Blk.cell (i:=1) (h35.1) rfl) rfl rfl ?_)
  refine o_mv rfl rfl ?_
  obtain ⟨a48,e49,hf22⟩:=bs hf22
  obtain ⟨p51,x50⟩:=AS e49
  obtain ⟨b52,o53,ce54,hA55,hl56,hd57,v59,rfl,h60,r63,r64,r65⟩:=h41.elem x50
  obtain ⟨A61,c62,rfl⟩:=h60.form
  refine o_iaE (hA:=hA55) (hj:=(Int.toNat_of_nonneg p51).symm) (hlt:=hl56) rfl rfl rfl ?_
  refine o_fa rfl rfl (o_la (hl:=rfl) (hc:=(Jm 1 3 hd57)) rfl rfl ?_)
  refine Bz 6 O33 rfl fun g66 w67 O68 S69 h70=>?_
  refine AR h70 rfl rfl rfl (Nat.le_of_ble_eq_true rfl) (by first|exact allOne rfl|simp [Value.cells,Value.oneCell',AM]) fun w71 S72 h70=>?_
  replace h70:Lc 6 w71 O68 g66 123 [(.int .i64 a48.link.parent),(.int .i64 a48.link.op),(.int .i64 a48.link.cost)]:=h70
  refine o_z ?_
  refine Ah (Ah (Ae (o_fa rfl rfl (o_ld (hc:=Blk.cell (i:=0) (h70.1) rfl) rfl rfl ?_))))
  refine o_ltS rfl rfl rfl (fun c73=>?_) fun c73=>?_
  ·
   replace hf22:=ip hf22 c73
   refine o_z ?_
   refine Ar rfl (Ah (Ae (o_mv rfl rfl ?_)))
   obtain ⟨q74,e75,hf22⟩:=bs hf22
   replace h31:=((h31.st S34).st S69).st S72
   refine Bi (O:=O68) (Fp h31 e75) rfl rfl fun v80 w76 O77 S78 h81=>?_
   refine o_z ?_
   refine Ah (Ae (o_mv rfl rfl (o_as rfl rfl (o_as rfl rfl (o_z ?_)))))
   refine Au ?_
   obtain ⟨O82,S83,h81⟩:=h81.freeze
   replace h35:=(((h35.st S69).st S72).st S78).st S83
   replace h38:=(((h38.st S69).st S72).st S78).st S83
   replace h41:=(((h41.st S69).st S72).st S78).st S83
   replace h46:=(((h46.st S69).st S72).st S78).st S83
   obtain ⟨O84,S85,hz87,ha88,h86⟩:=Reg.shut (x:=x0) (l0:=2) (l1:=3) (l2:=4) (l3:=5) (by decide) h35 h38 h41 h46
   obtain rfl:=sm hf22
   obtain rfl:=hret23 _ rfl
   obtain rfl:=sm (Bw hm)
   replace hB:=(((((hB.st S34).st S69).st S72).st S78).st S83).st S85
   obtain ⟨O',hS',hz,hl⟩:=hE.leave (fun q=>if q=2 then i0 else 0) rfl hB
   replace h81:=h81.st S85
   exact ret2 rfl (AF rfl) (AF rfl) ⟨O',hS',_,_,(Ob.leave h86 hz (hl 2 (by decide) (by decide)) hx0.2),rfl,(Vb.mono h81 hz),(vErr (show inI64 0 from by decide))⟩
  ·
   replace hf22:=im hf22 c73
   refine o_z ?_
   refine Aj rfl (Am (Ah (Ae (o_mv rfl rfl (o_fa rfl rfl (o_ld (hc:=Blk.cell (i:=1) (h70.1) rfl) rfl rfl ?_))))))
   obtain ⟨u89,e90,hf22⟩:=bs hf22
   obtain ⟨e90,e91,e92⟩:=Cx e90
   replace h31:=((h31.st S34).st S69).st S72
   refine Df rfl (a:=a48.link.op) h31 (vInt r64) (fun _=>rfl) rfl (by decide) (by decide) e91 e92 ⟨rfl,rfl⟩ fun g93 A94 c95 w96 O97 S98 h99=>?_
   rw [← e90] at h99 ⊢
   refine o_as rfl rfl (o_z ?_)
   refine Ah (Ah (Ae (o_mv rfl rfl (o_ln rfl rfl ?_))))
   have l102:u89.length≤9223372036854775807:=Nat.le_trans h99.len.2.1 h99.len.2.2
   have r101:inI64 (u89.length:Int):=rngNat l102
   refine o_mv rfl rfl (o_nc rfl rfl (o_fa rfl rfl ?_))
   replace h35:=((h35.st S69).st S72).st S98
   refine o_ld (hc:=Blk.cell (i:=1) (h35.1) rfl) rfl rfl ?_
   refine o_ln rfl rfl ?_
   replace h41:=((h41.st S69).st S72).st S98
   have l104:x0.entries.length≤9223372036854775807:=Nat.le_trans h41.len.2.1 h41.len.2.2
   have r103:inI64 (x0.entries.length:Int):=rngNat l104
   refine o_gtS rfl rfl rfl (fun c105=>?_) fun c105=>?_
   ·
    replace hf22:=ip hf22 c105
    refine o_z ?_
    refine Ar rfl (Ah (Ae (o_miE rfl rfl ?_)))
    refine o_as rfl rfl (o_as rfl rfl (o_z ?_))
    refine Au ?_
    replace h38:=((h38.st S69).st S72).st S98
    replace h46:=((h46.st S69).st S72).st S98
    obtain ⟨O106,S107,hz109,ha110,h108⟩:=Reg.shut (x:=x0) (l0:=2) (l1:=3) (l2:=4) (l3:=5) (by decide) h35 h38 h41 h46
    obtain rfl:=sm hf22
    obtain rfl:=hret23 _ rfl
    obtain rfl:=sm (Bw hm)
    replace hB:=((((hB.st S34).st S69).st S72).st S98).st S107
    obtain ⟨O',hS',hz,hl⟩:=hE.leave (fun q=>if q=2 then i0 else 0) rfl hB
    exact ret2 rfl (AF rfl) (AF rfl) ⟨O',hS',_,_,(Ob.leave h108 hz (hl 2 (by decide) (by decide)) hx0.2),rfl,(Vb.mono (Vb.nil _ _) hz),(vErr (by decide))⟩
   ·
    replace hf22:=im hf22 c105
    refine o_z ?_
    refine Aj rfl (Am (Ae (o_fa rfl rfl ?_)))
    replace h70:=h70.st S98
    refine o_ld (hc:=Blk.cell (i:=0) (h70.1) rfl) rfl rfl ?_
    refine o_as rfl rfl (o_z ?_)
    replace h38:=((h38.st S69).st S72).st S98
    replace h46:=((h46.st S69).st S72).st S98
    obtain ⟨O111,S112,hz114,ha115,h113⟩:=Reg.shut (x:=x0) (l0:=2) (l1:=3) (l2:=4) (l3:=5) (by decide) h35 h38 h41 h46
    obtain rfl:=sm hf22
    refine (?_:Exists _)
    replace hB:=((((hB.st S34).st S69).st S72).st S98).st S112
    replace h99:=h99.st S112
    exact ⟨_,(A94,c95),rfl,⟨rfl,rfl,rfl,trivial⟩,_,hB,h113,h99,r63⟩
 rintro l116 w117 ⟨s120,x121,_,_,hE⟩
 exact hE.elim
end
section
open Go Go.RowKit
theorem Kj {σ ρ:Type} {x:Option (Ctl σ ρ)} {I:σ→Prop} (h:∃ r,x=some r∧∃ s',r=Ctl.next s'∧I s'):∃ s',x=some (.next s')∧I s':=by
  obtain ⟨_,h1,s',rfl,h2⟩:=h
  exact ⟨s',h1,h2⟩
def FldOk (W:Nat) (f:PFd) (n:Int):Prop:=∃ k b w:Nat,f=⟨k,b,w,n⟩∧k < W∧b + w≤64∧w≤6∧n≤2 ^ w
def PkOk (vars:List Int) (p:Pkr):Prop:=p.fields.length=vars.length∧(∃ W:Nat,p.words=(W:Int)∧1≤W∧W≤vars.length + 1∧∀ (i:Nat) f n,p.fields[i]?=some f→vars[i]?=some n→FldOk W f n) ∧
  ∀ (i j:Nat) f g,i < j→p.fields[i]?=some f→p.fields[j]?=some g→f.word < g.word∨(f.word=g.word∧f.bit + f.width≤g.bit)
theorem Mi:∀ {w:Nat},w≤6→shlI 1 (w:Int)=some ((2 ^ w:Nat):Int):=by
  intro w h
  have:w=0∨w=1∨w=2∨w=3∨w=4∨w=5∨w=6:=by omega
  rcases this with rfl|rfl|rfl|rfl|rfl|rfl|rfl<;>rfl
theorem Mj {w:Nat} {n:Int} (hw:w≤6) (h:((2 ^ w:Nat):Int) < n) (hn:n≤64):w < 6:=by
  rcases Nat.lt_or_ge w 6 with hh|hh
  · exact hh
  · obtain rfl:w=6:=by omega
    simp at h;omega
def PkI (vars:List Int) (B W:Nat) (fs:List PFd):Prop:=(∀ (i:Nat) f n,fs[i]?=some f→vars[i]?=some n→FldOk W f n) ∧
  (∀ (i j:Nat) f g,i < j→fs[i]?=some f→fs[j]?=some g→f.word < g.word∨(f.word=g.word∧f.bit + f.width≤g.bit))∧∀ (i:Nat) f,fs[i]?=some f→f.word + 1 < (W:Int)∨(f.word + 1=(W:Int)∧f.bit + f.width≤(B:Int))
theorem PkI.over {vars:List Int} {B W:Nat} {fs:List PFd} (h:PkI vars B W fs):PkI vars 0 (W + 1) fs :=
  ⟨fun i f n hf hn=>by obtain ⟨k,b,w,e,e1,e2⟩:=h.1 i f n hf hn;exact ⟨k,b,w,e,by omega,e2⟩,h.2.1,fun i f hf=>by have:=h.2.2 i f hf;omega⟩
theorem Cf {α:Type} {l:List α} {x y:α} {i:Nat} (h:(l ++ [x])[i]?=some y):l[i]?=some y∨(i=l.length∧y=x):=by
  rcases Nat.lt_trichotomy i l.length with hi|hi|hi
  · rw [List.getElem?_append_left hi] at h;exact .inl h
  · subst hi;simp at h;exact .inr ⟨rfl,h.symm⟩
  · rw [List.getElem?_append_right (by omega)] at h
    rw [List.getElem?_eq_none (by simp;omega)] at h
    cases h
theorem PkI.add {vars:List Int} {B W w:Nat} {fs:List PFd} {n:Int} (h:PkI vars B W fs) (hW:1≤W) (hn:vars[fs.length]?=some n) (hB:B + w≤64) (hw:w≤6) (hnw:n≤2 ^ w):PkI vars (B + w) W (fs ++ [⟨(W:Int) - 1,(B:Int),(w:Int),n⟩]):=by
  refine ⟨fun i f n' hf hn'=>?_,fun i j f g hij hf hg=>?_,fun i f hf=>?_⟩
  · rcases Cf hf with hh|⟨rfl,rfl⟩
    · exact h.1 i f n' hh hn'
    · rw [hn] at hn'
      obtain rfl:=Option.some.inj hn'
      exact ⟨W - 1,B,w,by congr 1;omega,by omega,hB,hw,hnw⟩
  · rcases Cf hg with hh|⟨rfl,rfl⟩
    · rcases Cf hf with hk|⟨rfl,rfl⟩
      · exact h.2.1 i j f g hij hk hh
      · have:=AJ hh;omega
    · rcases Cf hf with hk|⟨rfl,rfl⟩
      · have:=h.2.2 i f hk
        dsimp only
        omega
      · omega
  · rcases Cf hf with hh|⟨rfl,rfl⟩
    · have:=h.2.2 i f hh;omega
    · dsimp only;omega
theorem KC {vars:List Int} (hl:vars.length≤64) (hv:∀ (i:Nat) n,vars[i]?=some n→1≤n∧n≤64):∃ r,DA vars=some r∧∃ p,r=(some p,⟨0⟩)∧PkOk vars p:=by
  unfold DA
  rw [if_neg (by omega)]
  refine Gg (fun m s=>∃ B W:Nat,s.1=(B:Int)∧B≤64∧s.2.words=(W:Int)∧1≤W∧W≤m + 1∧s.2.fields.length=m∧PkI vars B W s.2.fields) (fun _=>False)
    ⟨0,1,rfl,by omega,rfl,by omega,by omega,rfl,fun i f n h=>by simp at h,fun i j f g _ h=>by simp at h,fun i f h=>by simp at h⟩ ?_ ?_ (fun q hq=>hq.elim)
  · rintro m n ⟨s1,s2⟩ hm ⟨B,W,hs1,hB,hW,hW1,hWm,hlen,hI⟩
    dsimp only at hs1 hW hlen hI
    subst hs1
    obtain ⟨hn1,hn2⟩:=hv m n hm
    have hml:=AJ hm
    refine .inl (Kj ?_)
    rw [if_neg (by omega),if_neg (by omega),AC,if_f]
    refine Jx (fun c=>∃ w:Nat,c=(w:Int)∧w≤6) (fun c=>∃ w:Nat,c=(w:Int)∧w≤6∧n≤2 ^ w) (fun _=>False) (fun c=>7 - c.toNat) ⟨0,rfl,by omega⟩ ?_ ?_ (fun q hq=>hq.elim)
    · rintro c ⟨w,rfl,hw⟩
      rw [Mi hw,AC]
      by_cases hlt:((2 ^ w:Nat):Int) < n
      · have:=Mj hw hlt hn2
        rw [if_pos hlt,BT (by unfold inI64;omega),AC]
        exact .inl ⟨_,rfl,⟨w + 1,by omega,by omega⟩,by omega⟩
      · rw [if_neg hlt]
        refine .inr (.inl ⟨_,rfl,w,rfl,hw,?_⟩)
        have:((2 ^ w:Nat):Int)=(2:Int) ^ w:=by simp
        omega
    · rintro c ⟨w,rfl,hw,hnw⟩
      rw [fin_d,BT (by unfold inI64;omega),AC]
      have fin':∀ (B' W':Nat) (q:Pkr),B' + w≤64→1≤W'→W'≤m + 2→q.words=(W':Int)→q.fields=s2.fields→PkI vars B' W' s2.fields→∃ r,(bnd (chkI (q.words - 1)) fun n133=>bnd (appI 32 q.fields [(⟨n133,(B':Int),(w:Int),n⟩:PFd)]) fun u142=>bnd (chkI ((B':Int) + (w:Int))) fun n155=>some (Ctl.next (ρ:=(Option Pkr)×Err) (n155,(⟨u142,q.words⟩:Pkr))))=some r∧∃ s',r=Ctl.next s'∧∃ B W:Nat,s'.1=(B:Int)∧B≤64∧s'.2.words=(W:Int)∧1≤W∧W≤m + 1 + 1∧s'.2.fields.length=m + 1∧PkI vars B W s'.2.fields:=by
        intro B' W' q hB' hW' hWm' hq1 hq2 hI'
        rw [hq1,hq2,BT (by unfold inI64;omega),AC,DM (by simp;omega) (by simp;omega),AC,BT (by unfold inI64;omega),AC]
        exact ⟨_,rfl,_,rfl,B' + w,W',by simp,hB',rfl,hW',by omega,by simp [hlen],hI'.add hW' (by rw [hlen];exact hm) hB' hw hnw⟩
      by_cases hover:64 < (B:Int) + (w:Int)
      · rw [if_pos hover]
        dsimp only
        rw [hW,BT (by unfold inI64;omega),AC,AC]
        exact fin' 0 (W + 1) ⟨s2.fields,(W:Int) + 1⟩ (by omega) (by omega) (by omega) (by simp) rfl hI.over
      · rw [if_neg hover,AC]
        exact fin' B W s2 (by omega) hW1 (by omega) hW rfl hI
  · rintro ⟨s1,s2⟩ ⟨B,W,hs1,hB,hW,hW1,hWm,hlen,hI⟩
    exact ⟨_,rfl,s2,rfl,hlen,⟨W,hW,hW1,hWm,hI.1⟩,hI.2.1⟩
def InF (f:PFd) (x:Int) (k c:Nat):Prop:=f.word=(k:Int)∧f.bit≤(c:Int)∧(c:Int) < f.bit + f.width∧x.toNat.testBit (c - f.bit.toNat)=true
def Bits (fs:List PFd) (s:List Int) (p:Nat→Prop) (ws:List U64):Prop:=∀ (k c:Nat) a,ws[k]?=some a→c < 64→(a.getLsbD c=true↔∃ (i:Nat) (f:PFd) (x:Int),p i∧fs[i]?=some f∧s[i]?=some x∧InF f x k c)
theorem ones {w:Nat} (h:w≤6):((1:U64) <<< w) - (1:U64)=BitVec.ofNat 64 (2 ^ w - 1):=by
  have:w=0∨w=1∨w=2∨w=3∨w=4∨w=5∨w=6:=by omega
  rcases this with rfl|rfl|rfl|rfl|rfl|rfl|rfl<;>rfl
theorem JA {w b c:Nat} (hw:w≤6) (hc:c < 64):((((1:U64) <<< w) - (1:U64)) <<< b).getLsbD c=(decide (b≤c) && decide (c < b + w)):=by
  rw [ones hw,BitVec.getLsbD_shiftLeft,BitVec.getLsbD_ofNat,Nat.testBit_two_pow_sub_one]
  by_cases h1:b≤c<;>by_cases h2:c < b + w<;>simp [h1,h2,hc]<;>omega
theorem IC {x:Int} {w j:Nat} (h0:0≤x) (h1:x < 2 ^ w) (ht:x.toNat.testBit j=true):j < w:=by
  rcases Nat.lt_or_ge j w with h|h
  · exact h
  · have h2:x.toNat < 2 ^ w:=by
      have:((2 ^ w:Nat):Int)=(2:Int) ^ w:=by simp
      omega
    rw [Nat.testBit_lt_two_pow (Nat.lt_of_lt_of_le h2 (Nat.pow_le_pow_right (by omega) h))] at ht
    cases ht
theorem PkOk.field {vars:List Int} {p:Pkr} (h:PkOk vars p) {s:List Int} (hs:StateOk vars s) {i:Nat} {f:PFd} (hf:p.fields[i]?=some f):∃ (k b w:Nat) (n x:Int),f=⟨k,b,w,n⟩∧(k:Int) < p.words∧b + w≤64∧w≤6∧s[i]?=some x∧0≤x∧x < n∧x < 2 ^ w:=by
  obtain ⟨h1,⟨W,hW,_,_,h2⟩,h3⟩:=h
  have hi:=AJ hf
  obtain ⟨n,hn⟩:=AH (l:=vars) (k:=i) (by omega)
  obtain ⟨x,hx⟩:=AH (l:=s) (k:=i) (by have:=hs.1;omega)
  obtain ⟨k,b,w,e,e1,e2,e3,e4⟩:=h2 i f n hf hn
  have:=hs.2 i x n hx hn
  exact ⟨k,b,w,n,x,e,by omega,e2,e3,hx,this.1,this.2,by omega⟩
theorem PkOk.same {vars:List Int} {p:Pkr} (h:PkOk vars p) {i j:Nat} {f g:PFd} {k c:Nat} (hf:p.fields[i]?=some f) (hg:p.fields[j]?=some g) (h1:f.word=(k:Int)∧f.bit≤(c:Int)∧(c:Int) < f.bit + f.width) (h2:g.word=(k:Int)∧g.bit≤(c:Int)∧(c:Int) < g.bit + g.width):i=j:=by
  rcases Nat.lt_trichotomy i j with hh|hh|hh
  · have:=h.2.2 i j f g hh hf hg;omega
  · exact hh
  · have:=h.2.2 j i g f hh hg hf;omega
theorem HC {vars:List Int} {p:Pkr} (h:PkOk vars p) (hl:vars.length≤64) {s:List Int} (hs:StateOk vars s):∃ r,Bt p s=some r∧r.2=⟨0⟩∧(r.1.length:Int)=p.words∧Bits p.fields s (fun _=>True) r.1:=by
  obtain ⟨W,hW,hW1,hW2,_⟩:=h.2.1
  unfold Bt
  rw [if_neg (by have:=h.1;have:=hs.1;omega),hW,KZ (by omega) (by omega),AC]
  refine Gg (fun m ws=>(ws.length:Int)=(W:Int)∧Bits p.fields s (fun i=>i < m) ws) (fun _=>False) ⟨by simp,?_⟩ ?_ ?_ (fun q hq=>hq.elim)
  · intro k c a ha _
    have:=List.eq_of_mem_replicate (List.mem_of_getElem? ha)
    subst this
    constructor
    · intro hh;simp at hh
    · rintro ⟨i,_,_,hi,_⟩;omega
  · rintro m f ws hm ⟨hwl,hb⟩
    refine .inl (Kj ?_)
    obtain ⟨k,b,w,n,x,rfl,hk,hbw,hw,hx,hx0,hxn,hxw⟩:=h.field hs hm
    dsimp only
    obtain ⟨a,ha⟩:=AH (l:=ws) (k:=k) (by omega)
    rw [hx,AC,if_neg (by omega),AC,if_neg (by omega),AC,if_f,BC,ha,AC,AC]
    unfold shlU
    rw [if_pos (by omega),AC,AC]
    refine ⟨_,rfl,_,rfl,by simpa using hwl,?_⟩
    simp only [Int.toNat_natCast]
    have hxb:∀ c:Nat,c < 64→((a ||| (BitVec.ofInt 64 x <<< b)).getLsbD c=true↔a.getLsbD c=true∨(b≤c∧x.toNat.testBit (c - b)=true)):=by
      intro c hc
      have hofi:BitVec.ofInt 64 x=BitVec.ofNat 64 x.toNat:=by
        rw [← BitVec.ofInt_natCast,Int.toNat_of_nonneg hx0]
      rw [BitVec.getLsbD_or,BitVec.getLsbD_shiftLeft,hofi,BitVec.getLsbD_ofNat]
      by_cases h1:b≤c
      · have:c - b < 64:=by omega
        simp [hc,h1,this,Nat.not_lt.2 h1]
      · simp [hc,h1,Nat.lt_of_not_le h1]
    intro k' c a' ha' hc
    by_cases e:k=k'
    · subst e
      rw [List.getElem?_set_self (AJ ha)] at ha'
      obtain rfl:=Option.some.inj ha'
      rw [hxb c hc,hb k c a ha hc]
      constructor
      · rintro (⟨i,f,y,hi,hr⟩|⟨h1,h2⟩)
        · exact ⟨i,f,y,by omega,hr⟩
        · have:=IC hx0 hxw h2
          exact ⟨m,_,x,by omega,hm,hx,rfl,by dsimp only;omega,by dsimp only;omega,by simpa using h2⟩
      · rintro ⟨i,f,y,hi,hf,hy,hin⟩
        by_cases he:i=m
        · subst he
          rw [hm] at hf
          obtain rfl:=Option.some.inj hf
          rw [hx] at hy
          obtain rfl:=Option.some.inj hy
          obtain ⟨_,i2,i3,i4⟩:=hin
          dsimp only at i2 i3 i4
          exact .inr ⟨by omega,by simpa using i4⟩
        · exact .inl ⟨i,f,y,by omega,hf,hy,hin⟩
    · rw [List.getElem?_set_ne e] at ha'
      rw [hb k' c a' ha' hc]
      constructor
      · rintro ⟨i,f,y,hi,hr⟩;exact ⟨i,f,y,by omega,hr⟩
      · rintro ⟨i,f,y,hi,hf,hy,hin⟩
        by_cases he:i=m
        · subst he
          rw [hm] at hf
          obtain rfl:=Option.some.inj hf
          have:=hin.1
          dsimp only at this
          omega
        · exact ⟨i,f,y,by omega,hf,hy,hin⟩
  · rintro ws ⟨hwl,hb⟩
    refine ⟨_,rfl,rfl,hwl,fun k c a ha hc=>?_⟩
    rw [hb k c a ha hc]
    constructor
    · rintro ⟨i,f,x,_,hr⟩;exact ⟨i,f,x,trivial,hr⟩
    · rintro ⟨i,f,x,_,hf,hr⟩;exact ⟨i,f,x,AJ hf,hf,hr⟩
theorem Kk {k b w:Nat} {n:Int}:Cg ⟨k,b,w,n⟩=some ((((1:U64) <<< w) - (1:U64)) <<< b):=by
  unfold Cg shlU
  dsimp only
  rw [if_pos (by omega),AC,if_pos (by omega),AC]
  simp
theorem MV {vars:List Int} {p:Pkr} (h:PkOk vars p) {s:List Int} (hs:StateOk vars s) {ws:List U64} (hwl:(ws.length:Int)=p.words) (hb:Bits p.fields s (fun _=>True) ws) {i:Nat} {f:PFd} {x:Int} (hf:p.fields[i]?=some f) (hx:s[i]?=some x):Cw f ws=some x:=by
  obtain ⟨k,b,w,n,x',rfl,hk,hbw,hw,hx',hx0,hxn,hxw⟩:=h.field hs hf
  rw [hx] at hx'
  obtain rfl:=Option.some.inj hx'
  obtain ⟨a,ha⟩:=AH (l:=ws) (k:=k) (by omega)
  unfold Cw
  dsimp only
  rw [BC,ha,AC,Kk,AC]
  unfold shrU
  rw [if_pos (by omega),AC]
  have hval : (a &&& ((((1:U64) <<< w) - (1:U64)) <<< b)) >>> b=BitVec.ofNat 64 x.toNat:=by
    apply BitVec.eq_of_getLsbD_eq
    intro j hj
    rw [BitVec.getLsbD_ushiftRight,BitVec.getLsbD_and,BitVec.getLsbD_ofNat]
    by_cases hjb:b + j < 64
    · rw [JA hw hjb]
      by_cases hjw:j < w
      · have h1:=hb k (b + j) a ha hjb
        have h2:a.getLsbD (b + j)=x.toNat.testBit j:=by
          cases ht:x.toNat.testBit j with
          | true=>exact h1.2 ⟨i,_,x,trivial,hf,hx,rfl,by dsimp only;omega,by dsimp only;omega,by simpa using ht⟩
          | false =>
            cases hg:a.getLsbD (b + j) with
            | false=>rfl
            | true =>
              obtain ⟨i',f',x',_,hf',hx',hin⟩:=h1.1 hg
              have hii:=h.same (k:=k) (c:=b + j) hf hf' ⟨rfl,by dsimp only;omega,by dsimp only;omega⟩ ⟨hin.1,hin.2.1,hin.2.2.1⟩
              subst hii
              rw [hf] at hf'
              obtain rfl:=Option.some.inj hf'
              rw [hx] at hx'
              obtain rfl:=Option.some.inj hx'
              have:=hin.2.2.2
              simp at this
              rw [this] at ht
              cases ht
        rw [h2]
        simp [hj,hjw]
      · have hf0:x.toNat.testBit j=false:=by
          cases ht:x.toNat.testBit j with
          | false=>rfl
          | true=>exact absurd (IC hx0 hxw ht) hjw
        simp [hf0,hjw]
    · have hf0:x.toNat.testBit j=false:=by
        cases ht:x.toNat.testBit j with
        | false=>rfl
        | true=>have:=IC hx0 hxw ht;omega
      rw [BitVec.getLsbD_of_ge _ _ (by omega)]
      simp [hf0]
  have h64:(2:Int) ^ w≤64:=by
    have:w=0∨w=1∨w=2∨w=3∨w=4∨w=5∨w=6:=by omega
    rcases this with rfl|rfl|rfl|rfl|rfl|rfl|rfl<;>decide
  simp only [Int.toNat_natCast]
  rw [hval]
  congr 1
  rw [BitVec.toInt_eq_toNat_of_lt (by rw [BitVec.toNat_ofNat];omega),BitVec.toNat_ofNat]
  omega
theorem Hj {vars:List Int} {p:Pkr} (h:PkOk vars p) (hl:vars.length≤64) {s:List Int} (hs:StateOk vars s) {ws:List U64} (hwl:(ws.length:Int)=p.words) (hb:Bits p.fields s (fun _=>True) ws):Cd p ws=some (s,⟨0⟩):=by
  obtain ⟨W,hW,hW1,hW2,_⟩:=h.2.1
  have hsl:=hs.1
  have hfl:=h.1
  unfold Cd
  rw [if_neg (by omega),KZ (by omega) (by omega),AC]
  unfold BU
  rw [if_pos (by omega),AC]
  refine Ki (fun m st=>st.1.length=s.length∧(∀ (i:Nat) x,i < m→s[i]?=some x→st.1[i]?=some x)∧st.2.length=ws.length∧Bits p.fields s (fun i=>m≤i) st.2) ⟨by simp;omega,fun i x hi=>by omega,rfl,?_⟩ ?_ ?_
  · intro k c a ha hc
    rw [hb k c a ha hc]
    constructor
    · rintro ⟨i,f,x,_,hr⟩;exact ⟨i,f,x,by omega,hr⟩
    · rintro ⟨i,f,x,_,hr⟩;exact ⟨i,f,x,trivial,hr⟩
  · rintro m f ⟨out,rest⟩ hm ⟨i1,i2,i3,i4⟩
    dsimp only at i1 i2 i3 i4 ⊢
    obtain ⟨k,b,w,n,x,rfl,hk,hbw,hw,hx,hx0,hxn,hxw⟩:=h.field hs hm
    have hml:=AJ hx
    obtain ⟨u,hu⟩:=AH (l:=out) (k:=m) (by omega)
    obtain ⟨a,ha⟩:=AH (l:=rest) (k:=k) (by omega)
    rw [MV h hs hwl hb hm hx,AC,hu,AC,List.getElem?_set_self (by omega),AC]
    dsimp only
    rw [if_neg (by omega),BC,ha,AC,Kk,AC,AC]
    refine ⟨_,rfl,by simpa using i1,fun i y hi hy=>?_,by simpa using i3,?_⟩
    · by_cases e:i=m
      · subst e
        rw [hx] at hy
        obtain rfl:=Option.some.inj hy
        exact List.getElem?_set_self (by omega)
      · show (out.set m x)[i]?=_
        rw [List.getElem?_set_ne (by omega)]
        exact i2 i y (by omega) hy
    · show Bits p.fields s _ (rest.set ((k:Int)).toNat _)
      simp only [Int.toNat_natCast]
      intro k' c a' ha' hc
      by_cases e:k=k'
      · subst e
        rw [List.getElem?_set_self (AJ ha)] at ha'
        obtain rfl:=Option.some.inj ha'
        rw [BitVec.getLsbD_and,BitVec.getLsbD_not,JA hw hc]
        have h1:=i4 k c a ha hc
        constructor
        · intro hh
          simp only [Bool.and_eq_true,Bool.not_eq_true',decide_eq_true_eq] at hh
          obtain ⟨i,f,y,hi,hf,hy,hin⟩:=h1.1 hh.1
          refine ⟨i,f,y,?_,hf,hy,hin⟩
          rcases Nat.lt_or_ge m i with hlt|hge
          · exact hlt
          · exfalso
            obtain rfl:i=m:=by omega
            rw [hm] at hf
            obtain rfl:=Option.some.inj hf
            obtain ⟨_,j2,j3,_⟩:=hin
            dsimp only at j2 j3
            have h2:=hh.2.2
            rw [show decide (b≤c)=true from by simp;omega,show decide (c < b + w)=true from by simp;omega] at h2
            cases h2
        · rintro ⟨i,f,y,hi,hf,hy,hin⟩
          have hg:=h1.2 ⟨i,f,y,by omega,hf,hy,hin⟩
          have hno:¬ (b≤c∧c < b + w):=fun hh=>by
            have:=h.same (k:=k) (c:=c) hm hf ⟨rfl,by dsimp only;omega,by dsimp only;omega⟩ ⟨hin.1,hin.2.1,hin.2.2.1⟩
            omega
          rw [hg]
          by_cases q1:b≤c
          · have q2:¬ c < b + w:=fun hh=>hno ⟨q1,hh⟩
            simp [hc,q1,q2]
          · simp [hc,q1]
      · rw [List.getElem?_set_ne e] at ha'
        rw [i4 k' c a' ha' hc]
        constructor
        · rintro ⟨i,f,y,hi,hf,hy,hin⟩
          refine ⟨i,f,y,?_,hf,hy,hin⟩
          rcases Nat.lt_or_ge m i with hlt|hge
          · exact hlt
          · exfalso
            obtain rfl:i=m:=by omega
            rw [hm] at hf
            obtain rfl:=Option.some.inj hf
            have:=hin.1
            dsimp only at this
            omega
        · rintro ⟨i,f,y,hi,hr⟩;exact ⟨i,f,y,by omega,hr⟩
  · rintro ⟨out,rest⟩ ⟨i1,i2,i3,i4⟩
    dsimp only at i1 i2 i3 i4
    rw [fin_d]
    dsimp only
    have hout:out=s:=by
      apply List.ext_getElem?
      intro i
      rcases Nat.lt_or_ge i s.length with hi|hi
      · obtain ⟨x,hx⟩:=AH (l:=s) (k:=i) hi
        rw [hx];exact i2 i x (by omega) hx
      · rw [List.getElem?_eq_none hi,List.getElem?_eq_none (by omega)]
    subst hout
    refine Ki (fun _ _=>True) trivial (fun k a _ hk _=>⟨(),?_,trivial⟩) (fun _ _=>rfl)
    obtain ⟨a',ha'⟩:=AH (l:=rest) (k:=k) (by have:=AJ hk;omega)
    rw [ha',AC]
    have hz:a'=0:=by
      apply BitVec.eq_of_getLsbD_eq
      intro c hc
      cases hg:a'.getLsbD c with
      | false=>simp
      | true =>
        obtain ⟨i,f,x,hi,hf,_⟩:=(i4 k c a' ha' hc).1 hg
        have:=AJ hf
        omega
    subst hz
    rw [if_neg (by simp)]
theorem LH {vars:List Int} {p:Pkr} (h:PkOk vars p) (hl:vars.length≤64) {s s':List Int} (hs:StateOk vars s) (hs':StateOk vars s') {ws:List U64} (h1:Bt p s=some (ws,⟨0⟩)) (h2:Bt p s'=some (ws,⟨0⟩)):s=s':=by
  obtain ⟨r,r1,r2,r3,r4⟩:=HC h hl hs
  obtain ⟨q,q1,q2,q3,q4⟩:=HC h hl hs'
  rw [h1] at r1
  rw [h2] at q1
  obtain rfl:=Option.some.inj r1
  obtain rfl:=Option.some.inj q1
  have e1:=Hj h hl hs r3 r4
  have e2:=Hj h hl hs' q3 q4
  rw [e1] at e2
  have:=Option.some.inj e2
  exact congrArg Prod.fst this
end
section
open Go Go.RowKit
theorem IU {K V:Type} [MKey K] (z:V) (k k':K) (v:V):∀ l:List (K×V),mget z (mput l k v) k'=if k=k' then v else mget z l k'
  | []=>by simp only [mput,mget]
  | p :: r=>by
    have ih:=IU z k k' v r
    simp only [mput]
    by_cases h1:p.1=k
    · rw [if_pos h1]
      simp only [mget]
      by_cases h2:k=k'
      · rw [if_pos h2,if_pos h2]
      · rw [if_neg h2,if_neg h2,if_neg (by rw [h1];exact h2)]
    · rw [if_neg h1]
      simp only [mget,ih]
      by_cases h2:k=k'
      · rw [if_pos h2,if_pos h2,if_neg (by rw [← h2];exact h1)]
      · rw [if_neg h2,if_neg h2]
theorem Li (p:Pkr) (ws:List U64):∃ h,BA p ws=some h:=by
  have:∃ r,BA p ws=some r∧True:=by
    unfold BA
    refine Gg (fun _ _=>True) (fun _=>False) trivial (fun i x s _ _=>.inl ?_) (fun s _=>?_) (fun q hq=>hq.elim)
    · exact ⟨_,rfl,trivial⟩
    · exact ⟨_,rfl,trivial⟩
  obtain ⟨h,h1,_⟩:=this
  exact ⟨h,h1⟩
theorem MW (a b:List U64):Bo a b=some (decide (a=b)):=by
  unfold Bo
  by_cases hl:(a.length:Int)=(b.length:Int)
  · rw [if_neg (by omega)]
    have:∃ r,(bnd (rng (ρ:=Bool) (fun (k18:Nat) (a19:U64) (_:Unit)=>bnd (b[k18]?) fun a36=>if (a19.toNat:Int)≠(a36.toNat:Int) then (some (.ret false)) else (some (.next ()))) a 0 ()) fun res14=>fin res14 fun (_:Unit)=>some true)=some r∧r=decide (a=b):=by
      refine Gg (fun m _=>∀ (i:Nat),i < m→a[i]?=b[i]?) (fun r=>r=false∧a≠b) (fun i hi=>by omega) ?_ ?_ ?_
      · intro i x _ hx hI
        obtain ⟨y,hy⟩:=AH (l:=b) (k:=i) (by have:=AJ hx;omega)
        rw [hy,AC]
        by_cases he:x=y
        · subst he
          rw [if_neg (by simp)]
          refine .inl ⟨(),rfl,fun j hj=>?_⟩
          by_cases e:j=i
          · subst e;rw [hx,hy]
          · exact hI j (by omega)
        · rw [if_pos (fun h=>he (BitVec.eq_of_toNat_eq (by omega)))]
          refine .inr ⟨_,rfl,rfl,fun h=>he ?_⟩
          rw [h,hy] at hx
          exact (Option.some.inj hx).symm
      · intro _ hI
        refine ⟨_,rfl,?_⟩
        symm
        rw [decide_eq_true_eq]
        apply List.ext_getElem?
        intro i
        rcases Nat.lt_or_ge i a.length with h|h
        · exact hI i h
        · rw [List.getElem?_eq_none h,List.getElem?_eq_none (by omega)]
      · rintro q ⟨rfl,hne⟩
        exact ⟨_,rfl,by simp [hne]⟩
    obtain ⟨r,h1,h2⟩:=this
    rw [h1,h2]
  · rw [if_pos hl]
    congr 1
    symm
    rw [decide_eq_false_iff_not]
    exact fun h=>hl (by rw [h])
structure RegI (vars:List Int) (r:Reg) (L:List (List Int)):Prop where
  pk:PkOk vars r.packer
  len:r.entries.length=L.length
  st:∀ (i:Nat) s,L[i]?=some s→StateOk vars s
  words:∀ (i:Nat) s e,L[i]?=some s→r.entries[i]?=some e→Bt r.packer s=some (e.words,⟨0⟩)
  nodup:∀ (i j:Nat) s,L[i]?=some s→L[j]?=some s→i=j
  tab:∀ (i:Nat) e,r.entries[i]?=some e→∃ h,BA r.packer e.words=some h∧(i:Int)∈mget ([]:List Int) r.table.l h
  val:∀ h a,a∈mget ([]:List Int) r.table.l h→∃ i:Nat,a=(i:Int)∧i < L.length
  few:∀ h,(mget ([]:List Int) r.table.l h).length≤L.length
def links (r:Reg):List RLk:=r.entries.map (·.link)
theorem Lj {vars:List Int} (hl:vars.length≤64) (hv:∀ (i:Nat) n,vars[i]?=some n→1≤n∧n≤64):∃ r,CK vars=some r∧∃ q,r=(some q,⟨0⟩)∧RegI vars q []∧links q=[]:=by
  obtain ⟨r,h1,p,rfl,hp⟩:=KC hl hv
  unfold CK
  rw [h1,AC,if_neg (by simp),AC]
  exact ⟨_,rfl,_,rfl,⟨hp,rfl,fun i s h=>by simp at h,fun i s e h=>by simp at h,fun i j s h=>by simp at h,fun i e h=>by simp at h,fun h a ha=>by simp [mget] at ha,fun h=>by simp [mget]⟩,rfl⟩
theorem KD {vars:List Int} (hl:vars.length≤64) {r:Reg} {L:List (List Int)} (h:RegI vars r L) {s:List Int} (hs:StateOk vars s):∃ (ws:List U64) (hh:Int),Bt r.packer s=some (ws,⟨0⟩)∧BA r.packer ws=some hh ∧
    ((∃ i:Nat,L[i]?=some s∧Bk r s=some (ws,hh,(i:Int),⟨0⟩))∨((∀ i:Nat,L[i]?≠some s)∧Bk r s=some (ws,hh,-1,⟨0⟩))):=by
  obtain ⟨⟨ws,er⟩,p1,p2,p3,p4⟩:=HC h.pk hl hs
  dsimp only at p2 p3 p4
  subst p2
  obtain ⟨hh,hhe⟩:=Li r.packer ws
  refine ⟨ws,hh,p1,hhe,?_⟩
  have key:∃ res,Bk r s=some res∧((∃ i:Nat,L[i]?=some s∧res=(ws,hh,(i:Int),⟨0⟩))∨((∀ i:Nat,L[i]?≠some s)∧res=(ws,hh,-1,⟨0⟩))):=by
    unfold Bk
    rw [p1,AC,if_neg (by simp),hhe,AC]
    refine Gg (fun m _=>∀ (j:Nat) (i:Nat),j < m→(mget ([]:List Int) r.table.l hh)[j]?=some (i:Int)→L[i]?≠some s) (fun res=>∃ i:Nat,L[i]?=some s∧res=(ws,hh,(i:Int),⟨0⟩)) (fun j i hj=>by omega) ?_ ?_ ?_
    · intro m a _ hm hI
      obtain ⟨i,rfl,hi⟩:=h.val hh a (List.mem_of_getElem? hm)
      obtain ⟨e,he⟩:=AH (l:=r.entries) (k:=i) (by rw [h.len];exact hi)
      obtain ⟨s',hs'⟩:=AH (l:=L) (k:=i) hi
      have hw:=h.words i s' e hs' he
      rw [BC,he,AC,MW,AC]
      by_cases hew:e.words=ws
      · rw [decide_eq_true hew,if_t]
        rw [hew] at hw
        have:=LH h.pk hl (h.st i s' hs') hs hw p1
        subst this
        exact .inr ⟨_,rfl,i,hs',rfl⟩
      · rw [decide_eq_false hew,if_f]
        refine .inl ⟨(),rfl,fun j i' hj hi'=>?_⟩
        by_cases e1:j=m
        · subst e1
          rw [hm] at hi'
          have e2:i=i':=by have:=Option.some.inj hi';omega
          subst e2
          intro hL
          rw [hL] at hs'
          obtain rfl:=Option.some.inj hs'
          rw [p1] at hw
          exact hew (congrArg Prod.fst (Option.some.inj hw)).symm
        · exact hI j i' (by omega) hi'
    · intro _ hI
      refine ⟨_,rfl,.inr ⟨fun i hL=>?_,rfl⟩⟩
      obtain ⟨e,he⟩:=AH (l:=r.entries) (k:=i) (by rw [h.len];exact AJ hL)
      have hw:=h.words i s e hL he
      rw [p1] at hw
      have hwe:ws=e.words:=congrArg Prod.fst (Option.some.inj hw)
      obtain ⟨h',t1,t2⟩:=h.tab i e he
      rw [← hwe,hhe] at t1
      obtain rfl:=Option.some.inj t1
      obtain ⟨j,hj⟩:=List.getElem?_of_mem t2
      exact hI j i (AJ hj) hj hL
    · rintro q ⟨i,hi,rfl⟩
      exact ⟨_,rfl,.inl ⟨i,hi,rfl⟩⟩
  obtain ⟨res,k1,k2⟩:=key
  rcases k2 with ⟨i,hi,rfl⟩|⟨hn,rfl⟩
  · exact .inl ⟨i,hi,k1⟩
  · exact .inr ⟨hn,k1⟩
theorem Hk {vars:List Int} (hl:vars.length≤64) {r:Reg} {L:List (List Int)} (h:RegI vars r L) {s:List Int} (hs:StateOk vars s) (hL:L.length < 65536) :
    (∃ i:Nat,L[i]?=some s∧AW r s=some ((i:Int),false,⟨0⟩,r))∨((∀ i:Nat,L[i]?≠some s)∧∃ r',AW r s=some ((L.length:Int),true,⟨0⟩,r')∧RegI vars r' (L ++ [s])∧links r'=links r ++ [⟨-1,-1,0⟩]):=by
  obtain ⟨ws,hh,p1,p2,hf⟩:=KD hl h hs
  unfold AW
  have hlen:=h.len
  rcases hf with ⟨i,hi,hf⟩|⟨hno,hf⟩
  · refine .inl ⟨i,hi,?_⟩
    rw [hf,AC,if_neg (by simp),if_pos (by dsimp only;omega)]
  · refine .inr ⟨hno,?_⟩
    have hfew:=h.few hh
    rw [hf,AC,if_neg (by simp),if_neg (by dsimp only;omega),if_neg (by omega)]
    dsimp only
    rw [DM (by simp;omega) (by simp;omega),AC,DM (by simp;omega) (by simp;omega),AC,hlen]
    have hget:∀ k,mget ([]:List Int) (mput r.table.l hh (mget ([]:List Int) r.table.l hh ++ [(L.length:Int)])) k=if hh=k then mget ([]:List Int) r.table.l hh ++ [(L.length:Int)] else mget ([]:List Int) r.table.l k:=fun k=>IU _ _ _ _ _
    refine ⟨_,rfl,⟨h.pk,by simp [hlen],?_,?_,?_,?_,?_,?_⟩,by simp [links]⟩
    · intro i s' hi
      rcases Cf hi with hi|⟨_,rfl⟩
      · exact h.st i s' hi
      · exact hs
    · intro i s' e hi he
      rcases Cf hi with hi|⟨hi,rfl⟩
      · rcases Cf he with he|⟨he,_⟩
        · exact h.words i s' e hi he
        · have:=AJ hi;omega
      · rcases Cf he with he|⟨he,rfl⟩
        · have:=AJ he;omega
        · exact p1
    · intro i j s' hi hj
      rcases Cf hi with hi2|⟨hi2,hs2⟩
      · rcases Cf hj with hj2|⟨hj2,hs2⟩
        · exact h.nodup i j s' hi2 hj2
        · exact absurd (hs2 ▸ hi2) (hno i)
      · rcases Cf hj with hj2|⟨hj2,_⟩
        · exact absurd (hs2 ▸ hj2) (hno j)
        · omega
    · intro i e he
      rcases Cf he with he|⟨hi,rfl⟩
      · obtain ⟨k,k1,k2⟩:=h.tab i e he
        refine ⟨k,k1,?_⟩
        dsimp only
        rw [hget]
        by_cases e1:hh=k
        · subst e1;rw [if_pos rfl];exact List.mem_append_left _ k2
        · rw [if_neg e1];exact k2
      · refine ⟨hh,p2,?_⟩
        dsimp only
        rw [hget,if_pos rfl,hi,hlen]
        simp
    · intro k a ha
      dsimp only at ha
      rw [hget] at ha
      simp only [List.length_append,List.length_singleton]
      by_cases e1:hh=k
      · rw [if_pos e1] at ha
        rcases List.mem_append.1 ha with ha|ha
        · obtain ⟨i,h1,h2⟩:=h.val hh a ha;exact ⟨i,h1,by omega⟩
        · exact ⟨L.length,by simpa using ha,by omega⟩
      · rw [if_neg e1] at ha
        obtain ⟨i,h1,h2⟩:=h.val k a ha;exact ⟨i,h1,by omega⟩
    · intro k
      dsimp only
      rw [hget]
      have:=h.few k
      simp only [List.length_append,List.length_singleton]
      by_cases e1:hh=k
      · rw [if_pos e1];simp;omega
      · rw [if_neg e1];omega
theorem FQ {vars:List Int} {r:Reg} {L:List (List Int)} (h:RegI vars r L) {i:Nat} (hi:i < L.length):Ba r (i:Int)=some true:=by
  unfold Ba
  rw [if_pos (by omega),if_pos (by rw [h.len];omega)]
  rfl
theorem EW {vars:List Int} (hl:vars.length≤64) {r:Reg} {L:List (List Int)} (h:RegI vars r L) {i:Nat} {s:List Int} (hi:L[i]?=some s):AZ r (i:Int)=some (s,⟨0⟩):=by
  obtain ⟨e,he⟩:=AH (l:=r.entries) (k:=i) (by rw [h.len];exact AJ hi)
  have hs:=h.st i s hi
  obtain ⟨⟨ws,er⟩,p1,p2,p3,p4⟩:=HC h.pk hl hs
  have hw:=h.words i s e hi he
  rw [p1] at hw
  have hwe:ws=e.words:=congrArg Prod.fst (Option.some.inj hw)
  dsimp only at p3 p4
  rw [hwe] at p3 p4
  unfold AZ
  rw [FQ h (AJ hi),AC,if_t,BC,he,AC,Hj h.pk hl hs p3 p4,AC]
theorem Gz {vars:List Int} {r:Reg} {L:List (List Int)} (h:RegI vars r L) {i:Nat} (hi:i < L.length) {p o c:Int} (hp:p=-1∨∃ j:Nat,p=(j:Int)∧j < L.length):∃ r',Bb r (i:Int) p o c=some (⟨0⟩,r')∧RegI vars r' L∧links r'=(links r).set i ⟨p,o,c⟩:=by
  obtain ⟨e,he⟩:=AH (l:=r.entries) (k:=i) (by rw [h.len];exact hi)
  unfold Bb
  have hcond:(bnd (Ba r (i:Int)) fun q10=>if q10=true then if p≠(-1) then (bnd (Ba r p) fun q20=>if q20=true then some false else some true) else (some false) else some true:Option Bool)=some false:=by
    rw [FQ h hi,AC,if_t]
    rcases hp with rfl|⟨j,rfl,hj⟩
    · rfl
    · rw [if_pos (by omega),FQ h hj];rfl
  rw [hcond,AC,if_f,BC,he,AC]
  have hge:∀ (j:Nat) x,(r.entries.set ((i:Int)).toNat ({ e with link:=(⟨p,o,c⟩:RLk) }:REn))[j]?=some x→∃ y,r.entries[j]?=some y∧x.words=y.words:=by
    intro j x hx
    rw [Int.toNat_natCast] at hx
    by_cases e1:i=j
    · subst e1
      rw [List.getElem?_set_self (AJ he)] at hx
      obtain rfl:=Option.some.inj hx
      exact ⟨e,he,rfl⟩
    · rw [List.getElem?_set_ne e1] at hx
      exact ⟨x,hx,rfl⟩
  refine ⟨_,rfl,⟨h.pk,by simp [h.len],h.st,?_,h.nodup,?_,h.val,h.few⟩,?_⟩
  · intro j s x hj hx
    obtain ⟨y,hy,hxy⟩:=hge j x hx
    rw [hxy];exact h.words j s y hj hy
  · intro j x hx
    obtain ⟨y,hy,hxy⟩:=hge j x hx
    rw [hxy];exact h.tab j y hy
  · simp [links,List.map_set]
theorem MX {xs:List Int} (hl:xs.length≤1000000):Bq xs=some xs.reverse:=by
  unfold Bq
  rw [BT (by unfold inI64;omega),AC]
  refine Mg (fun s=>∃ i:Nat,s.2.1=(i:Int)∧s.2.1 + s.2.2=(xs.length:Int) - 1∧i≤xs.length∧s.1.length=xs.length∧∀ k:Nat,k < xs.length→s.1[k]?=if k < i∨xs.length - 1 - k < i then xs[xs.length - 1 - k]? else xs[k]?) (fun s=>s.1=xs.reverse) (fun s=>(s.2.2 - s.2.1 + 1).toNat) ⟨0,rfl,by dsimp only;omega,by omega,rfl,fun k hk=>by rw [if_neg (by omega)]⟩ ?_ (fun s hs=>by rw [fin_d,hs])
  rintro ⟨ys,i',j⟩ ⟨i,hi,hij,hil,hlen,hg⟩
  dsimp only at hi hij hlen hg ⊢
  subst hi
  by_cases hlt:(i:Int) < j
  · obtain ⟨jn,rfl⟩:∃ jn:Nat,j=(jn:Int):=⟨j.toNat,by omega⟩
    obtain ⟨a,ha⟩:=AH (l:=ys) (k:=jn) (by omega)
    obtain ⟨b,hb⟩:=AH (l:=ys) (k:=i) (by omega)
    rw [if_pos hlt,BC,ha,AC,BC,hb,AC,AC,Int.toNat_natCast,Int.toNat_natCast,BC,List.getElem?_set_ne (by omega),ha,AC,BT (by unfold inI64;omega),AC,BT (by unfold inI64;omega),AC]
    refine .inl ⟨_,rfl,⟨i + 1,by dsimp only;omega,by dsimp only;omega,by omega,by simp [hlen],fun k hk=>?_⟩,by dsimp only;omega⟩
    dsimp only
    have hga:=hg jn (by omega)
    rw [ha,if_neg (by omega)] at hga
    have hgb:=hg i (by omega)
    rw [hb,if_neg (by omega)] at hgb
    by_cases e1:k=jn
    · subst e1
      rw [List.getElem?_set_self (by simp;omega),if_pos (by omega),hgb]
      congr 1;omega
    · rw [List.getElem?_set_ne (by omega)]
      by_cases e2:k=i
      · subst e2
        rw [List.getElem?_set_self (by omega),if_pos (by omega),hga]
        congr 1;omega
      · rw [List.getElem?_set_ne (by omega),hg k hk]
        by_cases e3:k < i∨xs.length - 1 - k < i
        · rw [if_pos e3,if_pos (by omega)]
        · rw [if_neg e3,if_neg (by omega)]
  · rw [if_neg hlt]
    refine .inr ⟨_,rfl,?_⟩
    dsimp only
    apply List.ext_getElem?
    intro k
    rcases Nat.lt_or_ge k xs.length with hk|hk
    · rw [List.getElem?_reverse hk,hg k hk]
      by_cases e3:k < i∨xs.length - 1 - k < i
      · rw [if_pos e3]
      · rw [if_neg e3];congr 1;omega
    · rw [List.getElem?_eq_none (by omega),List.getElem?_eq_none (by simp;omega)]
inductive PathL (lk:List RLk):Nat→List Int→Prop
  | root {i:Nat} {k:RLk}:lk[i]?=some k→k.parent < 0→PathL lk i []
  | step {i j:Nat} {k:RLk} {p:List Int}:lk[i]?=some k→k.parent=(j:Int)→PathL lk j p→PathL lk i (p ++ [k.op])
theorem Kl {vars:List Int} {r:Reg} {L:List (List Int)} (h:RegI vars r L) (hL:L.length≤65536) {i:Nat} {p:List Int} (hp:PathL (links r) i p) (hl:p.length≤L.length):BD r (i:Int)=some (p,⟨0⟩):=by
  have hget:∀ {i:Nat} {k:RLk},(links r)[i]?=some k→∃ e:REn,r.entries[i]?=some e∧e.link=k:=by
    intro i k hk
    unfold links at hk
    rw [List.getElem?_map] at hk
    cases he:r.entries[i]? with
    | none=>rw [he] at hk;cases hk
    | some e=>rw [he] at hk;exact ⟨e,rfl,by simpa using hk⟩
  have hil:i < L.length:=by
    have:∃ k,(links r)[i]?=some k:=by cases hp with|root h1 _=>exact ⟨_,h1⟩|step h1 _ _=>exact ⟨_,h1⟩
    obtain ⟨k,hk⟩:=this
    obtain ⟨e,he,_⟩:=hget hk
    rw [← h.len];exact AJ he
  unfold BD
  rw [FQ h hil,AC,if_t]
  have key:∀ {i p},PathL (links r) i p→∀ acc:List Int,acc.length + p.length≤L.length→lop (ρ:=(List Int)×Err) (fun (s14:Int×(List Int))=>bnd (atI r.entries s14.1) fun a48=>if a48.link.parent < 0 then (bnd (Bq s14.2) fun q74=>some (.ret (q74,(⟨0⟩:Err)))) else (bnd (appI 8 s14.2 [a48.link.op]) fun u89=>if (r.entries.length:Int) < (u89.length:Int) then (some (.ret (([]:List Int),(⟨21⟩:Err)))) else (some (.next (a48.link.parent,u89))))) ((i:Int),acc)=some (.ret (p ++ acc.reverse,⟨0⟩)):=by
    intro i p hp
    induction hp with
    | root h1 h2 =>
      intro acc ha
      obtain ⟨e,he,rfl⟩:=hget h1
      rw [CS]
      dsimp only
      rw [BC,he,AC,if_pos h2,MX (by omega),AC]
      rfl
    | @step i j k p h1 h2 _ ih =>
      intro acc ha
      obtain ⟨e,he,rfl⟩:=hget h1
      simp at ha
      rw [CS]
      dsimp only
      rw [BC,he,AC,if_neg (by omega),DM (by simp;omega) (by simp;omega),AC,if_neg (by rw [h.len];simp;omega),h2]
      dsimp only
      rw [ih (acc ++ [e.link.op]) (by simp;omega)]
      simp
  rw [key hp [] (by simpa using hl),AC]
  simp [fin]
end
section
open Go Go.RowKit
inductive Rch (t:Tsk):List Int→Prop
  | init:Rch t t.init
  | step {s:List Int} {k:Nat} {o:Opr}:Rch t s→t.ops[k]?=some o→holdsB o.pre s=true→Rch t (succ o s)
theorem Rch.ok {t:Tsk} (h:TaskOk t) {s:List Int} (hr:Rch t s):StateOk t.vars s:=by
  induction hr with
  | init=>exact h.2.2.2.1
  | step _ ho _ ih=>exact HB h ih ho
theorem PlanR.snoc {t:Tsk} {s p s':List Int} {C:Int} (h:PlanR t s p s' C) {k:Nat} {o:Opr} (ho:t.ops[k]?=some o) (hp:holdsB o.pre s'=true):PlanR t s (p ++ [(k:Int)]) (succ o s') (C + o.cost):=by
  induction h with
  | nil=>have:=PlanR.cons ho hp (PlanR.nil (t:=t) (s:=succ o _));simpa [Int.add_comm] using this
  | cons ho' hp' _ ih=>have:=PlanR.cons ho' hp' (ih hp);rw [Int.add_assoc];exact this
theorem PlanR.walk {t:Tsk} {s p s':List Int} {C:Int} (h:PlanR t s p s' C) (hg:holdsB t.goal s'=true):Walk t s C:=by
  induction h with
  | nil=>exact .goal hg
  | cons ho hp _ ih=>have:=Walk.step ho hp (ih hg);rwa [Int.add_comm] at this
inductive WalkS (t:Tsk) (sel:List Int→List Int):List Int→Int→Prop
  | goal {s:List Int}:holdsB t.goal s=true→WalkS t sel s 0
  | step {s:List Int} {k:Nat} {o:Opr} {C:Int}:t.ops[k]?=some o→(k:Int)∈sel s→WalkS t sel (succ o s) C→WalkS t sel s (C + o.cost)
theorem Lk {t:Tsk} (h:TaskOk t) {sel:List Int→List Int} {s:List Int} {C:Int} (hw:WalkS t sel s C):0≤C:=by
  induction hw with
  | goal _=>omega
  | @step s k o C ho _ _ ih=>have:=(h.2.2.2.2.2 k o ho).1;omega
def UpL {α:Type} (i:Nat) (x:α) (l l':List α):Prop:=l'[i]?=some x∧∀ j,j≠i→l'[j]?=l[j]?
theorem Km {α:Type} {i:Nat} {x:α} {l:List α} (h:i < l.length):UpL i x l (l.set i x):=⟨List.getElem?_set_self h,fun j hj=>List.getElem?_set_ne (by omega)⟩
theorem JB {α:Type} {i:Nat} {x:α} {l:List α} (h:l[i]?=some x):UpL i x l l:=⟨h,fun _ _=>rfl⟩
theorem HD {α:Type} {x:α} {l:List α}:UpL l.length x l (l ++ [x]):=⟨by simp,fun j hj=>by
  rcases Nat.lt_or_ge j l.length with h|h
  · exact List.getElem?_append_left h
  · rw [List.getElem?_append_right h,List.getElem?_eq_none (l:=l) h,List.getElem?_eq_none (by simp;omega)]⟩
def cnt (l:List Bool):Nat:=(l.filter id).length
theorem Ll (l:List Bool):cnt l≤l.length:=List.length_filter_le _ _
theorem Mk (l:List Bool):cnt (l ++ [false])=cnt l:=by simp [cnt]
theorem Kn:∀ {l:List Bool} {i:Nat},l[i]?=some false→cnt (l.set i true)=cnt l + 1
  | [],i,h=>by simp at h
  | b :: l,0,h=>by simp at h;subst h;simp [cnt]
  | b :: l,i + 1,h=>by
    have:=Kn (l:=l) (i:=i) (by simpa using h)
    simp only [cnt] at this ⊢
    cases b<;>simp [this]
theorem Ko:∀ {l:List Bool} {i:Nat},l[i]?=some true→0 < cnt l
  | [],i,h=>by simp at h
  | b :: l,0,h=>by simp at h;subst h;simp [cnt]
  | b :: l,i + 1,h=>by
    have:=Ko (l:=l) (i:=i) (by simpa using h)
    unfold cnt at this ⊢
    rw [List.filter_cons]
    split
    · simp
    · exact this
structure SrI (t:Tsk) (sel:List Int→List Int) (D:Nat→Int→Prop) (L:List (List Int)) (lk:List RLk) (g:List Int) (fn:List Bool) (hp:List QEn) (ord:Nat→Nat) (E:Nat):Prop where
  root:L[0]?=some t.init
  root0:g[0]?=some 0
  lenk:lk.length=L.length
  leng:g.length=L.length
  lenf:fn.length=L.length
  link:∀ (i:Nat) s k c,L[i]?=some s→lk[i]?=some k→g[i]?=some c→(i=0∧k.parent=-1∧c=0)∨∃ (p q:Nat) (o:Opr) (s':List Int) (c':Int),k.parent=(p:Int)∧k.op=(q:Int)∧t.ops[q]?=some o∧L[p]?=some s'∧fn[p]?=some true∧holdsB o.pre s'=true∧succ o s'=s∧g[p]?=some c'∧c=c' + o.cost∧(fn[i]?=some true→ord p < ord i)
  ordl:∀ i:Nat,fn[i]?=some true→ord i < E
  lower:∀ (j:Nat) c,fn[j]?=some true→g[j]?=some c→∀ e∈hp,c≤e.key
  ent:∀ e∈hp,∃ i:Nat,e.item=(i:Int)∧i < L.length∧∀ c,g[i]?=some c→c≤e.key
  opn:∀ (i:Nat) c,fn[i]?=some false→g[i]?=some c→∃ e∈hp,e.key=c∧e.item=(i:Int)
  bound:∀ (i:Nat) c,g[i]?=some c→0≤c∧c≤(E:Int) * 1048576
  nogoal:∀ (j:Nat) s,fn[j]?=some true→L[j]?=some s→holdsB t.goal s=false
  rel:∀ (j:Nat) s q,fn[j]?=some true→L[j]?=some s→q∈sel s→D j q→∃ (k:Nat) (o:Opr) (i:Nat) (c c':Int),q=(k:Int)∧t.ops[k]?=some o∧L[i]?=some (succ o s)∧g[j]?=some c∧g[i]?=some c'∧c'≤c + o.cost
  num:cnt fn=E
  rch:∀ (i:Nat) s,L[i]?=some s→Rch t s
  first:0 < E→fn[0]?=some true
section
variable {t : Tsk} {sel : List Int → List Int} {D : Nat → Int → Prop} {L L' : List (List Int)} {lk lk' : List RLk} {g g' : List Int} {fn fn' : List Bool} {hp hp' : List QEn} {ord : Nat → Nat} {E : Nat}
theorem SrI.upd (h:SrI t sel D L lk g fn hp ord E) (hok:TaskOk t) {i p q:Nat} {o:Opr} {s sp:List Int} {x cp lc:Int} {e:QEn} (hL:UpL i s L L') (hk:UpL i ⟨(p:Int),(q:Int),lc⟩ lk lk') (hg:UpL i x g g') (hf:UpL i false fn fn') (hh:hp'.Perm (e :: hp)) (ek:e.key=x) (ei:e.item=(i:Int))
    (l1:lk'.length=L'.length) (l2:g'.length=L'.length) (l3:fn'.length=L'.length) (l4:L.length≤L'.length) (hc:cnt fn'=cnt fn) (hi:L[i]?=none∨(L[i]?=some s∧fn[i]?=some false∧∀ c,g[i]?=some c→x < c))
    (ho:t.ops[q]?=some o) (hsp:L[p]?=some sp) (hfp:fn[p]?=some true) (hpre:holdsB o.pre sp=true) (hs:succ o sp=s) (hgp:g[p]?=some cp) (hx:x=cp + o.cost) (hmax:∀ (j:Nat) c,fn[j]?=some true→g[j]?=some c→c≤cp) (hxE:x≤(E:Int) * 1048576) :
    SrI t sel D L' lk' g' fn' hp' ord E:=by
  have hoc:=(hok.2.2.2.2.2 q o ho).1
  have hcp:=(h.bound p cp hgp).1
  have hfin:∀ j:Nat,fn[j]?=some true→j≠i:=fun j hj e=>by
    subst e
    rcases hi with hn|⟨_,hn,_⟩
    · have:=AJ hj
      rw [h.lenf] at this
      rw [List.getElem?_eq_none_iff] at hn
      omega
    · rw [hj] at hn;cases hn
  have hfin':∀ j:Nat,fn'[j]?=some true→j≠i∧fn[j]?=some true:=fun j hj=>by
    have hne:j≠i:=fun e=>by subst e;rw [hf.1] at hj;cases hj
    exact ⟨hne,by rw [← hf.2 j hne];exact hj⟩
  have h0:(0:Nat)≠i:=fun e=>by
    subst e
    rcases hi with hn|⟨_,_,hn⟩
    · rw [h.root] at hn;cases hn
    · have:=hn 0 h.root0;omega
  have hpi:=hfin p hfp
  have hiL:i < L'.length:=AJ hL.1
  refine ⟨by rw [hL.2 0 h0];exact h.root,by rw [hg.2 0 h0];exact h.root0,l1,l2,l3,?_,?_,?_,?_,?_,?_,?_,?_,by rw [hc];exact h.num,?_,?_⟩
  · intro j s' k c hs' hk' hc'
    by_cases e1:j=i
    · subst e1
      rw [hL.1] at hs'
      rw [hk.1] at hk'
      rw [hg.1] at hc'
      obtain rfl:=Option.some.inj hs'
      obtain rfl:=Option.some.inj hk'
      obtain rfl:=Option.some.inj hc'
      exact .inr ⟨p,q,o,sp,cp,rfl,rfl,ho,by rw [hL.2 p hpi];exact hsp,by rw [hf.2 p hpi];exact hfp,hpre,hs,by rw [hg.2 p hpi];exact hgp,hx,fun hh=>by rw [hf.1] at hh;cases hh⟩
    · rw [hL.2 j e1] at hs'
      rw [hk.2 j e1] at hk'
      rw [hg.2 j e1] at hc'
      rcases h.link j s' k c hs' hk' hc' with hh|⟨p',q',o',sp',c',a1,a2,a3,a4,a5,a6,a7,a8,a9,a10⟩
      · exact .inl hh
      · have hne:=hfin p' a5
        exact .inr ⟨p',q',o',sp',c',a1,a2,a3,by rw [hL.2 p' hne];exact a4,by rw [hf.2 p' hne];exact a5,a6,a7,by rw [hg.2 p' hne];exact a8,a9,fun hh=>a10 (hfin' j hh).2⟩
  · exact fun j hj=>h.ordl j (hfin' j hj).2
  · intro j c hj hcj e' he'
    obtain ⟨hne,hj⟩:=hfin' j hj
    rw [hg.2 j hne] at hcj
    rcases List.mem_cons.1 (hh.mem_iff.1 he') with rfl|hm
    · have:=hmax j c hj hcj;omega
    · exact h.lower j c hj hcj e' hm
  · intro e' he'
    rcases List.mem_cons.1 (hh.mem_iff.1 he') with rfl|hm
    · exact ⟨i,ei,hiL,fun c hc=>by rw [hg.1] at hc;have:=Option.some.inj hc;omega⟩
    · obtain ⟨j,j1,j2,j3⟩:=h.ent e' hm
      refine ⟨j,j1,by omega,fun c hc=>?_⟩
      by_cases e1:j=i
      · subst e1
        rw [hg.1] at hc
        obtain rfl:=Option.some.inj hc
        rcases hi with hn|⟨_,_,hn⟩
        · rw [List.getElem?_eq_none_iff] at hn;omega
        · obtain ⟨c0,hc0⟩:=AH (l:=g) (k:=j) (by rw [h.leng];exact j2)
          have:=j3 c0 hc0
          have:=hn c0 hc0
          omega
      · rw [hg.2 j e1] at hc;exact j3 c hc
  · intro j c hj hcj
    by_cases e1:j=i
    · subst e1
      rw [hg.1] at hcj
      obtain rfl:=Option.some.inj hcj
      exact ⟨e,hh.mem_iff.2 List.mem_cons_self,ek,ei⟩
    · rw [hf.2 j e1] at hj
      rw [hg.2 j e1] at hcj
      obtain ⟨e',m,r⟩:=h.opn j c hj hcj
      exact ⟨e',hh.mem_iff.2 (List.mem_cons_of_mem _ m),r⟩
  · intro j c hcj
    by_cases e1:j=i
    · subst e1
      rw [hg.1] at hcj
      obtain rfl:=Option.some.inj hcj
      omega
    · rw [hg.2 j e1] at hcj;exact h.bound j c hcj
  · intro j s' hj hs'
    obtain ⟨hne,hj⟩:=hfin' j hj
    rw [hL.2 j hne] at hs'
    exact h.nogoal j s' hj hs'
  · intro j s' q' hj hs' hq hD
    obtain ⟨hne,hj⟩:=hfin' j hj
    rw [hL.2 j hne] at hs'
    obtain ⟨k,o',i',c,c',a1,a2,a3,a4,a5,a6⟩:=h.rel j s' q' hj hs' hq hD
    by_cases e1:i'=i
    · subst e1
      rcases hi with hn|⟨hn1,_,hn⟩
      · rw [hn] at a3;cases a3
      · rw [hn1] at a3
        have:=hn c' a5
        exact ⟨k,o',i',c,x,a1,a2,by rw [hL.1];exact a3,by rw [hg.2 j hne];exact a4,hg.1,by omega⟩
    · exact ⟨k,o',i',c,c',a1,a2,by rw [hL.2 i' e1];exact a3,by rw [hg.2 j hne];exact a4,by rw [hg.2 i' e1];exact a5,a6⟩
  · intro j s' hs'
    by_cases e1:j=i
    · subst e1
      rw [hL.1] at hs'
      obtain rfl:=Option.some.inj hs'
      rw [← hs]
      exact (h.rch p sp hsp).step ho hpre
    · rw [hL.2 j e1] at hs';exact h.rch j s' hs'
  · intro hE
    rw [hf.2 0 h0];exact h.first hE
theorem SrI.drop (h:SrI t sel D L lk g fn hp ord E) {e:QEn} (hh:hp.Perm (e :: hp')) {i:Nat} (hi:e.item=(i:Int)) (hd:fn[i]?=some true∨g[i]?≠some e.key):SrI t sel D L lk g fn hp' ord E :=
  { h with
    lower:=fun j c hj hc e' he'=>h.lower j c hj hc e' (hh.mem_iff.2 (List.mem_cons_of_mem _ he'))
    ent:=fun e' he'=>h.ent e' (hh.mem_iff.2 (List.mem_cons_of_mem _ he'))
    opn := fun j c hj hc=>by
      obtain ⟨e',m,k1,k2⟩:=h.opn j c hj hc
      rcases List.mem_cons.1 (hh.mem_iff.1 m) with rfl|hm
      · exfalso
        have e1:i=j:=by omega
        subst e1
        rcases hd with hd|hd
        · rw [hj] at hd;cases hd
        · exact hd (by rw [k1];exact hc)
      · exact ⟨e',hm,k1,k2⟩ }
theorem SrI.mark (h:SrI t sel (fun _ _=>True) L lk g fn hp ord E) {e:QEn} (hh:hp.Perm (e :: hp')) (hmin:∀ x∈hp,nb x e) {i:Nat} {s:List Int} (hi:e.item=(i:Int)) (hf:fn[i]?=some false) (hc:g[i]?=some e.key) (hs:L[i]?=some s) (hg:holdsB t.goal s=false) :
    SrI t sel (fun j _=>j≠i) L lk g (fn.set i true) hp' (fun j=>if j=i then E else ord j) (E + 1):=by
  have hil:=AJ hf
  have hset:∀ j:Nat,(fn.set i true)[j]?=some true→j=i∨(j≠i∧fn[j]?=some true):=fun j hj=>by
    by_cases e1:j=i
    · exact .inl e1
    · rw [List.getElem?_set_ne (by omega)] at hj;exact .inr ⟨e1,hj⟩
  have hkeep:∀ j:Nat,fn[j]?=some true→j≠i∧(fn.set i true)[j]?=some true:=fun j hj=>by
    have hne:j≠i:=fun e1=>by subst e1;rw [hf] at hj;cases hj
    exact ⟨hne,by rw [List.getElem?_set_ne (by omega)];exact hj⟩
  refine ⟨h.root,h.root0,h.lenk,h.leng,by simp [h.lenf],?_,?_,?_,?_,?_,?_,?_,?_,by rw [Kn hf,h.num],h.rch,?_⟩
  · intro j s' k c hs' hk' hc'
    rcases h.link j s' k c hs' hk' hc' with hh|⟨p',q',o',sp',c',a1,a2,a3,a4,a5,a6,a7,a8,a9,a10⟩
    · exact .inl hh
    · obtain ⟨hne,hp2⟩:=hkeep p' a5
      refine .inr ⟨p',q',o',sp',c',a1,a2,a3,a4,hp2,a6,a7,a8,a9,fun hj=>?_⟩
      rw [if_neg hne]
      rcases hset j hj with rfl|⟨hne2,hj2⟩
      · rw [if_pos rfl];exact h.ordl p' a5
      · rw [if_neg hne2];exact a10 hj2
  · intro j hj
    rcases hset j hj with rfl|⟨hne2,hj2⟩
    · rw [if_pos rfl];omega
    · rw [if_neg hne2];have:=h.ordl j hj2;omega
  · intro j c hj hcj e' he'
    have hm:e'∈hp:=hh.mem_iff.2 (List.mem_cons_of_mem _ he')
    rcases hset j hj with rfl|⟨_,hj2⟩
    · rw [hc] at hcj
      obtain rfl:=Option.some.inj hcj
      exact Jy (hmin e' hm)
    · exact h.lower j c hj2 hcj e' hm
  · exact fun e' he'=>h.ent e' (hh.mem_iff.2 (List.mem_cons_of_mem _ he'))
  · intro j c hj hcj
    have hne:j≠i:=fun e1=>by subst e1;rw [List.getElem?_set_self hil] at hj;cases hj
    rw [List.getElem?_set_ne (by omega)] at hj
    obtain ⟨e',m,k1,k2⟩:=h.opn j c hj hcj
    rcases List.mem_cons.1 (hh.mem_iff.1 m) with rfl|hm
    · omega
    · exact ⟨e',hm,k1,k2⟩
  · intro j c hcj
    have:=h.bound j c hcj
    omega
  · intro j s' hj hs'
    rcases hset j hj with rfl|⟨_,hj2⟩
    · rw [hs] at hs';obtain rfl:=Option.some.inj hs';exact hg
    · exact h.nogoal j s' hj2 hs'
  · intro j s' q hj hs' hq hD
    rcases hset j hj with rfl|⟨_,hj2⟩
    · exact absurd rfl hD
    · exact h.rel j s' q hj2 hs' hq trivial
  · intro _
    by_cases h0:i=0
    · subst h0;exact List.getElem?_set_self hil
    · have hE:0 < E:=by
        obtain ⟨k,hk⟩:=AH (l:=lk) (k:=i) (by rw [h.lenk,← h.lenf];exact hil)
        rcases h.link i s k _ hs hk hc with ⟨hh,_⟩|⟨p',_,_,_,_,_,_,_,_,a5,_⟩
        · exact absurd hh h0
        · rw [← h.num];exact Ko a5
      exact (hkeep 0 (h.first hE)).2
theorem SrI.front (h:SrI t sel (fun _ _=>True) L lk g fn hp ord E) (hok:TaskOk t) {s:List Int} {C:Int} (hw:WalkS t sel s C):∀ (i:Nat) c,L[i]?=some s→g[i]?=some c→∃ e∈hp,e.key≤c + C:=by
  induction hw with
  | @goal s hg =>
    intro i c hi hc
    obtain ⟨b,hb⟩:=AH (l:=fn) (k:=i) (by rw [h.lenf];exact AJ hi)
    cases b with
    | false=>obtain ⟨e,m,k1,_⟩:=h.opn i c hb hc;exact ⟨e,m,by omega⟩
    | true=>have:=h.nogoal i s hb hi;rw [hg] at this;cases this
  | @step s k o C ho hk hw ih =>
    intro i c hi hc
    have h1:=Lk hok hw
    have h2:=(hok.2.2.2.2.2 k o ho).1
    obtain ⟨b,hb⟩:=AH (l:=fn) (k:=i) (by rw [h.lenf];exact AJ hi)
    cases b with
    | false=>obtain ⟨e,m,k1,_⟩:=h.opn i c hb hc;exact ⟨e,m,by omega⟩
    | true =>
      obtain ⟨k',o',i',c0,c',a1,a2,a3,a4,a5,a6⟩:=h.rel i s _ hb hi hk trivial
      have e1:k=k':=by omega
      subst e1
      rw [ho] at a2
      obtain rfl:=Option.some.inj a2
      rw [hc] at a4
      obtain rfl:=Option.some.inj a4
      obtain ⟨e,m,k1⟩:=ih i' c' a3 a5
      exact ⟨e,m,by omega⟩
theorem SrI.pathF (h:SrI t sel D L lk g fn hp ord E):∀ (n i:Nat) s c,ord i < n→fn[i]?=some true→L[i]?=some s→g[i]?=some c→∃ p,PathL lk i p∧PlanR t t.init p s c∧p.length≤ord i:=by
  intro n
  induction n with
  | zero=>intro i s c hn;omega
  | succ n ih =>
    intro i s c hn hf hi hc
    obtain ⟨k,hk⟩:=AH (l:=lk) (k:=i) (by rw [h.lenk];exact AJ hi)
    rcases h.link i s k c hi hk hc with ⟨rfl,h1,rfl⟩|⟨p',q',o',sp',c',a1,a2,a3,a4,a5,a6,a7,a8,a9,a10⟩
    · rw [h.root] at hi
      obtain rfl:=Option.some.inj hi
      exact ⟨[],.root hk (by omega),.nil,by simp⟩
    · have ho:=a10 hf
      obtain ⟨p,b1,b2,b3⟩:=ih p' sp' c' (by omega) a5 a4 a8
      refine ⟨p ++ [k.op],.step hk a1 b1,?_,by simp;omega⟩
      rw [a2,a9,← a7]
      exact b2.snoc a3 a6
theorem SrI.path (h:SrI t sel D L lk g fn hp ord E) {i:Nat} {s:List Int} {c:Int} (hi:L[i]?=some s) (hc:g[i]?=some c):∃ p,PathL lk i p∧PlanR t t.init p s c∧p.length≤E:=by
  obtain ⟨k,hk⟩:=AH (l:=lk) (k:=i) (by rw [h.lenk];exact AJ hi)
  rcases h.link i s k c hi hk hc with ⟨rfl,h1,rfl⟩|⟨p',q',o',sp',c',a1,a2,a3,a4,a5,a6,a7,a8,a9,a10⟩
  · rw [h.root] at hi
    obtain rfl:=Option.some.inj hi
    exact ⟨[],.root hk (by omega),.nil,by simp⟩
  · have ho:=h.ordl p' a5
    obtain ⟨p,b1,b2,b3⟩:=h.pathF (ord p' + 1) p' sp' c' (by omega) a5 a4 a8
    refine ⟨p ++ [k.op],.step hk a1 b1,?_,by simp;omega⟩
    rw [a2,a9,← a7]
    exact b2.snoc a3 a6
theorem SrI.more (h:SrI t sel D L lk g fn hp ord E) {D':Nat→Int→Prop} {j₀:Nat} {q₀:Int} (hD:∀ j q,D' j q→D j q∨(j=j₀∧q=q₀)) {s:List Int} (hs:L[j₀]?=some s) {k:Nat} {o:Opr} {i:Nat} {c c':Int} (h1:q₀=(k:Int)) (h2:t.ops[k]?=some o) (h3:L[i]?=some (succ o s)) (h4:g[j₀]?=some c) (h5:g[i]?=some c') (h6:c'≤c + o.cost):SrI t sel D' L lk g fn hp ord E :=
  { h with
    rel := fun j s' q hj hs' hq hd=>by
      rcases hD j q hd with hd|⟨rfl,rfl⟩
      · exact h.rel j s' q hj hs' hq hd
      · rw [hs] at hs'
        obtain rfl:=Option.some.inj hs'
        exact ⟨k,o,i,c,c',h1,h2,h3,h4,h5,h6⟩ }
end
end
section
open Go Go.RowKit
attribute [local irreducible] ewp owp hwp hwq hws Ev Evg Fn retPost loud loudS Res1
noncomputable def DK (x0:Tsk) (x1:Rsl) (x2:Int):Option Bool :=
  if 1125899906842624≤x2 then (bnd (if x1.verdict=2 then (if (x1.plan.length:Int)=0 then (if x1.cost=0 then (some true) else (some false)) else (some false)) else (some false):Option Bool) fun y40=>some y40) else (bnd (Em x0 x0.init x1.plan) fun q53=>bnd (if x1.verdict=1 then (if q53.2=true then (if q53.1=x2 then (if x1.cost=x2 then (some true) else (some false)) else (some false)) else (some false)) else (some false):Option Bool) fun y65=>some y65)
theorem Ja {w:World} {A:Nat→Prop} (hA:∀ k,A k→k < w.heap.size) {vx0:Value} {x0:Tsk} (hx0:Vb w A vx0 x0) {vx1:Value} {x1:Rsl} (hx1:Vb w A vx1 x1) {x2:Int} (rx2:inI64 x2) {r:Bool} (hm:DK x0 x1 x2=some r) :
    Fn Try.prog 21 [vx0,vx1,(.int .i64 x2)] w fun v w'=>Ext w w'∧Vb w' (upA A w w') v r:=by
 obtain ⟨O,hB,hA0⟩:=enter hA
 replace hx0:=hx0.mono hA0
 obtain ⟨cs4,rfl,v5,v6,v7,v8,rfl,h9,h12,h15,h18⟩:=hx0
 obtain ⟨A10,c11,rfl⟩:=h9.form
 obtain ⟨A13,c14,rfl⟩:=h12.form
 obtain ⟨A16,c17,rfl⟩:=h15.form
 obtain ⟨A19,c20,rfl⟩:=h18.form
 replace hx1:=hx1.mono hA0
 obtain ⟨cs21,rfl,v22,rfl,h23,r26,r27,r28⟩:=hx1
 obtain ⟨A24,c25,rfl⟩:=h23.form
 refine AL Try.func21 rfl Try.ntmps21 rfl ?_
 unfold DK at hm
 refine Ah (Ae (l_box 2 O rfl rfl fun g29 w30 O31 S32 h33=>?_))
 replace h33:Lc 2 w30 O31 g29 26 [(.slice A10 x0.vars.length c11),(.slice A13 x0.init.length c14),(.slice A16 x0.goal.length c17),(.slice A19 x0.ops.length c20)]:=h33
 refine l_box 3 O31 rfl rfl fun g34 w35 O36 S37 h38=>?_
 replace h38:Lc 3 w35 O36 g34 30 [(.int .i64 x1.verdict),(.slice A24 x1.plan.length c25),(.int .i64 x1.cost),(.int .i64 x1.expanded)]:=h38
 refine o_as rfl rfl (o_z ?_)
 refine Ah (Ah (Ae (o_mv rfl rfl (o_geS rfl rfl rfl (fun c39=>?_) fun c39=>?_))))
 ·
  replace hm:=ip hm c39
  refine o_z ?_
  refine Ar rfl (Ah ?_)
  obtain ⟨y40,hy41,hm⟩:=bs hm
  refine AN (fun l' w'=>∃ (x43:Unit) (O':Lab),subs l' [(6,(.bool y40))]∧Bs w A w' O') ?_ ?_
  ·
   refine Ae (o_fa rfl rfl (o_ld (hc:=Blk.cell (i:=0) (h38.1) rfl) rfl rfl ?_))
   refine o_eeS rfl rfl rfl (fun c44=>?_) fun c44=>?_
   ·
    replace hy41:=ip hy41 c44
    refine o_mv rfl rfl (AD rfl rfl (o_fa rfl rfl (AD rfl rfl (o_ld (hc:=Blk.cell (i:=1) (h38.1) rfl) rfl rfl ?_))))
    refine AD rfl rfl (o_ln rfl rfl ?_)
    replace h23:=(h23.st S32).st S37
    have l46:x1.plan.length≤9223372036854775807:=Nat.le_trans h23.len.2.1 h23.len.2.2
    have r45:inI64 (x1.plan.length:Int):=rngNat l46
    refine AD rfl rfl (o_eeS rfl rfl rfl (fun c47=>?_) fun c47=>?_)
    ·
     replace hy41:=ip hy41 c47
     refine o_pt rfl rfl rfl (o_mv rfl rfl (AD rfl rfl (o_fa rfl rfl (AD rfl rfl (o_ld (hc:=Blk.cell (i:=2) (h38.1) rfl) rfl rfl ?_)))))
     refine AD rfl rfl (o_eeS rfl rfl rfl (fun c48=>?_) fun c48=>?_)
     ·
      replace hy41:=ip hy41 c48
      refine o_pt rfl rfl rfl (o_as rfl rfl (o_z ?_))
      obtain rfl:=sm hy41
      replace hB:=(hB.st S32).st S37
      exact ⟨(),_,⟨rfl,trivial⟩,hB⟩
     ·
      replace hy41:=im hy41 c48
      refine o_pt rfl rfl rfl (o_as rfl rfl (o_z ?_))
      obtain rfl:=sm hy41
      replace hB:=(hB.st S32).st S37
      exact ⟨(),_,⟨rfl,trivial⟩,hB⟩
    ·
     replace hy41:=im hy41 c47
     refine o_pt rfl rfl rfl (o_mv rfl rfl (AB rfl rfl rfl rfl (AB rfl rfl rfl rfl (AB rfl rfl rfl rfl (o_pf rfl rfl rfl (o_as rfl rfl (o_z ?_)))))))
     obtain rfl:=sm hy41
     replace hB:=(hB.st S32).st S37
     exact ⟨(),_,⟨rfl,trivial⟩,hB⟩
   ·
    replace hy41:=im hy41 c44
    refine o_mv rfl rfl (AB rfl rfl rfl rfl (AB rfl rfl rfl rfl (AB rfl rfl rfl rfl (AB rfl rfl rfl rfl (o_pf rfl rfl rfl (o_mv rfl rfl (AB rfl rfl rfl rfl (AB rfl rfl rfl rfl (AB rfl rfl rfl rfl (o_pf rfl rfl rfl (o_as rfl rfl (o_z ?_))))))))))))
    obtain rfl:=sm hy41
    replace hB:=(hB.st S32).st S37
    exact ⟨(),_,⟨rfl,trivial⟩,hB⟩
  replace hB:=(hB.st S32).st S37
  rintro l49 w50 ⟨x43,O51,hs52,hB⟩
  refine AT _ hs52 ?_
  refine Au ?_
  obtain rfl:=sm hm
  exact ret1v rfl (AF rfl) ⟨hB.ext,vBool⟩
 ·
  replace hm:=im hm c39
  refine o_z ?_
  refine Aj rfl (Am (Ah (Ae ?_)))
  replace h33:=h33.st S37
  refine o_la (hl:=rfl) (hc:=(h33.1).cellsAt) rfl rfl ?_
  refine o_fa rfl rfl (o_ld (hc:=Blk.cell (i:=1) (h33.1) rfl) rfl rfl ?_)
  refine o_fa rfl rfl (o_ld (hc:=Blk.cell (i:=1) (h38.1) rfl) rfl rfl ?_)
  obtain ⟨q53,e54,hm⟩:=bs hm
  replace h9:=(h9.st S32).st S37
  replace h12:=(h12.st S32).st S37
  replace h15:=(h15.st S32).st S37
  replace h18:=(h18.st S32).st S37
  replace h23:=(h23.st S32).st S37
  refine BG (O:=O36) (A:=All w35) (R:=fun w' F v=>T2 w' F v q53) (JU (fun _ h=>h) (Vb.mono (F:=Fr 0 w35 O36) (Vb.ofAgg (cs:=[(.slice A10 x0.vars.length c11),(.slice A13 x0.init.length c14),(.slice A16 x0.goal.length c17),(.slice A19 x0.ops.length c20)]) (x:=x0) rfl ⟨_,_,_,_,rfl,h9,h12,h15,h18⟩) Fr.lt) (Vb.mono (F:=Fr 0 w35 O36) h12 Fr.lt) (Vb.mono (F:=Fr 0 w35 O36) h23 Fr.lt) e54) rfl rfl fun v59 w55 O56 S57 h58=>?_
  obtain ⟨v60,v61,rfl,h62,h63⟩:=h58
  obtain ⟨rfl,r64⟩:=h62.int
  obtain rfl:=h63.bool
  refine o_mv rfl rfl (o_ex rfl rfl rfl (o_ex rfl rfl rfl (o_as rfl rfl (o_as rfl rfl (o_z ?_)))))
  refine Ah ?_
  obtain ⟨y65,hy66,hm⟩:=bs hm
  refine AN (fun l' w'=>∃ (x68:Unit) (O':Lab),subs l' [(6,(.bool y65))]∧Bs w A w' O') ?_ ?_
  ·
   refine Ae (o_fa rfl rfl ?_)
   replace h38:=h38.st S57
   refine o_ld (hc:=Blk.cell (i:=0) (h38.1) rfl) rfl rfl ?_
   refine o_eeS rfl rfl rfl (fun c69=>?_) fun c69=>?_
   ·
    replace hy66:=ip hy66 c69
    refine o_mv rfl rfl (AD rfl rfl (o_mv rfl rfl (o_pt rfl rfl rfl (o_mv rfl rfl ?_))))
    rcases Bool.eq_false_or_eq_true q53.2 with c70|c70
    ·
     try simp only [c70]
     replace hy66:=ip hy66 c70
     refine AD rfl rfl (o_mv rfl rfl (AD rfl rfl (o_mv rfl rfl (AD rfl rfl (o_eeS rfl rfl rfl (fun c71=>?_) fun c71=>?_)))))
     ·
      replace hy66:=ip hy66 c71
      refine o_pt rfl rfl rfl (o_mv rfl rfl (AD rfl rfl (o_fa rfl rfl (AD rfl rfl (o_ld (hc:=Blk.cell (i:=2) (h38.1) rfl) rfl rfl ?_)))))
      refine AD rfl rfl (o_mv rfl rfl (AD rfl rfl (o_eeS rfl rfl rfl (fun c72=>?_) fun c72=>?_)))
      ·
       replace hy66:=ip hy66 c72
       refine o_pt rfl rfl rfl (o_as rfl rfl (o_z ?_))
       obtain rfl:=sm hy66
       replace hB:=((hB.st S32).st S37).st S57
       exact ⟨(),_,⟨rfl,trivial⟩,hB⟩
      ·
       replace hy66:=im hy66 c72
       refine o_pt rfl rfl rfl (o_as rfl rfl (o_z ?_))
       obtain rfl:=sm hy66
       replace hB:=((hB.st S32).st S37).st S57
       exact ⟨(),_,⟨rfl,trivial⟩,hB⟩
     ·
      replace hy66:=im hy66 c71
      refine o_pt rfl rfl rfl (o_mv rfl rfl (AB rfl rfl rfl rfl (AB rfl rfl rfl rfl (AB rfl rfl rfl rfl (AB rfl rfl rfl rfl (o_pf rfl rfl rfl (o_as rfl rfl (o_z ?_))))))))
      obtain rfl:=sm hy66
      replace hB:=((hB.st S32).st S37).st S57
      exact ⟨(),_,⟨rfl,trivial⟩,hB⟩
    ·
     try simp only [c70]
     replace hy66:=im' hy66 c70
     refine AB rfl rfl rfl rfl (AB rfl rfl rfl rfl (AB rfl rfl rfl rfl (o_pf rfl rfl rfl (o_mv rfl rfl (AB rfl rfl rfl rfl (AB rfl rfl rfl rfl (AB rfl rfl rfl rfl (AB rfl rfl rfl rfl (o_pf rfl rfl rfl (o_as rfl rfl (o_z ?_)))))))))))
     obtain rfl:=sm hy66
     replace hB:=((hB.st S32).st S37).st S57
     exact ⟨(),_,⟨rfl,trivial⟩,hB⟩
   ·
    replace hy66:=im hy66 c69
    refine o_mv rfl rfl (AB rfl rfl rfl rfl (o_pf rfl rfl rfl (o_mv rfl rfl (AB rfl rfl rfl rfl (AB rfl rfl rfl rfl (AB rfl rfl rfl rfl (o_pf rfl rfl rfl (o_mv rfl rfl (AB rfl rfl rfl rfl (AB rfl rfl rfl rfl (AB rfl rfl rfl rfl (AB rfl rfl rfl rfl (o_pf rfl rfl rfl (o_as rfl rfl ?_))))))))))))))
    refine o_z ?_
    obtain rfl:=sm hy66
    replace hB:=((hB.st S32).st S37).st S57
    exact ⟨(),_,⟨rfl,trivial⟩,hB⟩
  replace hB:=((hB.st S32).st S37).st S57
  rintro l73 w74 ⟨x68,O75,hs76,hB⟩
  refine AT _ hs76 ?_
  refine Au ?_
  obtain rfl:=sm hm
  exact ret1v rfl (AF rfl) ⟨hB.ext,vBool⟩
end
section
open Go Go.RowKit
theorem PlanR.bound {t:Tsk} (h:TaskOk t) {s p s':List Int} {C:Int} (hr:PlanR t s p s' C):0≤C∧C≤(p.length:Int) * 1048576:=by
  induction hr with
  | nil=>simp
  | @cons s rest s' k o C ho _ _ ih =>
    have h1:=(h.2.2.2.2.2 k o ho).1
    have h2:=(h.2.2.2.2.2 k o ho).2.1
    simp only [List.length_cons]
    omega
theorem Fe {α:Type} [DecidableEq α]:∀ {a b:List α},a.Nodup→(∀ x∈a,x∈b)→a.length≤b.length
  | [],_,_,_=>Nat.zero_le _
  | x :: a,b,hn,hs=>by
    have hx:=hs x List.mem_cons_self
    have h1:=Fe (a:=a) (b:=b.erase x) (List.nodup_cons.1 hn).2 fun y hy=>(List.mem_erase_of_ne (fun e=>(List.nodup_cons.1 hn).1 (by rw [← e];exact hy))).2 (hs y (List.mem_cons_of_mem _ hy))
    have h2:=List.length_erase_of_mem hx
    have h3:=List.length_pos_of_mem hx
    simp only [List.length_cons]
    omega
def marked:List (List Int)→List Bool→List (List Int)
  | s :: l,b :: bs=>if b=true then s :: marked l bs else marked l bs
  | _,_=>[]
theorem Il:∀ (l:List (List Int)) (bs:List Bool),bs.length=l.length→(marked l bs).length=cnt bs
  | [],bs,h=>by have:bs=[]:=List.length_eq_zero_iff.1 h;subst this;rfl
  | s :: l,[],h=>by simp at h
  | s :: l,b :: bs,h=>by
    have:=Il l bs (by simpa using h)
    simp only [marked,cnt] at this ⊢
    cases b<;>simp [this]
theorem GA:∀ {l:List (List Int)} {bs:List Bool} {i:Nat} {s:List Int},l[i]?=some s→bs[i]?=some true→s∈marked l bs
  | [],bs,i,s,h,_=>by simp at h
  | s :: l,[],i,s',_,h=>by simp at h
  | s :: l,b :: bs,0,s',h1,h2=>by simp at h1 h2;subst h1 h2;simp [marked]
  | s :: l,b :: bs,i + 1,s',h1,h2=>by
    have:=GA (l:=l) (bs:=bs) (i:=i) (by simpa using h1) (by simpa using h2)
    simp only [marked]
    split
    · exact List.mem_cons_of_mem _ this
    · exact this
theorem JC {L:List (List Int)} (h:∀ (i j:Nat) s,L[i]?=some s→L[j]?=some s→i=j):L.Nodup:=by
  rw [List.nodup_iff_pairwise_ne,List.pairwise_iff_getElem]
  intro i j hi hj hij he
  have:=h i j L[i] (List.getElem?_eq_getElem hi) (by rw [he];exact List.getElem?_eq_getElem hj)
  omega
end
section
open Go Go.RowKit
attribute [local irreducible] ewp owp hwp hwq hws Ev Evg Fn retPost loud loudS Res1
theorem cloneInts {w:World} {sv:Value} {xs:List Int} (hs:V w sv xs) (hl:xs.length * 8≤140737488355328) :
    Fn Try.prog 65 [sv] w fun v w'=>Own w' w.heap.size (All w) 3 v xs∧Ext w w':=by
  obtain ⟨A,c,rfl⟩:=hs.form
  refine AL Try.func65 rfl Try.ntmps65 rfl ?_
  cases A with
  | none =>
    have hx:xs=[]:=by
      cases xs with
      | nil=>rfl
      | cons x xs=>obtain ⟨_,_,_,h,_⟩:=hs.elem (k:=0) (x:=x) rfl;cases h
    subst hx
    ((repeat (first|refine Ah ?_|refine Al ?_|refine Ae ?_|refine Am ?_|refine At ?_|refine Au ?_|refine Ar rfl ?_|refine Aj rfl ?_))<;>(refine o_as rfl rfl ?_<;>(first|refine Ay ?_|refine Az ?_|refine Aw ?_|refine AA ?_))<;>(repeat (first|refine Ah ?_|refine Al ?_|refine Ae ?_|refine Am ?_|refine At ?_|refine Au ?_|refine Ar rfl ?_|refine Aj rfl ?_))<;>(refine o_mv rfl rfl ?_<;>refine o_sn rfl rfl ?_<;>(first|refine Ay ?_|refine Az ?_|refine Aw ?_|refine AA ?_))<;>(repeat (first|refine Ah ?_|refine Al ?_|refine Ae ?_|refine Am ?_|refine At ?_|refine Au ?_|refine Ar rfl ?_|refine Aj rfl ?_))<;>(refine o_as rfl rfl ?_<;>(first|refine Ay ?_|refine Az ?_|refine Aw ?_|refine AA ?_))<;>(repeat (first|refine Ah ?_|refine Al ?_|refine Ae ?_|refine Am ?_|refine At ?_|refine Au ?_|refine Ar rfl ?_|refine Aj rfl ?_)))
    exact ret1 rfl rfl ⟨Own.nil _ _ _ _,Below.refl _ _⟩
  | some ad =>
    ((repeat (first|refine Ah ?_|refine Al ?_|refine Ae ?_|refine Am ?_|refine At ?_|refine Au ?_|refine Ar rfl ?_|refine Aj rfl ?_))<;>(refine o_as rfl rfl ?_<;>(first|refine Ay ?_|refine Az ?_|refine Aw ?_|refine AA ?_))<;>(repeat (first|refine Ah ?_|refine Al ?_|refine Ae ?_|refine Am ?_|refine At ?_|refine Au ?_|refine Ar rfl ?_|refine Aj rfl ?_))<;>(refine o_mv rfl rfl ?_<;>refine o_sn rfl rfl ?_<;>(first|refine Ay ?_|refine Az ?_|refine Aw ?_|refine AA ?_))<;>(repeat (first|refine Ah ?_|refine Al ?_|refine Ae ?_|refine Am ?_|refine At ?_|refine Au ?_|refine Ar rfl ?_|refine Aj rfl ?_)))
    refine CV rfl rfl rfl (by simp) (by decide) rfl fun w1 hN=>?_
    have hE:=hN.ext
    have hown:Own w1 w.heap.size (All w) 3 (.slice (some ⟨w.heap.size,0,none⟩) 0 0) ([]:List Int):=Own.made hN rfl rfl (Nat.lt_irrefl _) (by decide)
    (refine o_mv rfl rfl ?_)
    refine FS rfl rfl rfl hown (fun k hk=>Nat.lt_of_lt_of_le hk hE.size) hE.size (Vb.agree hs (hE.agree fun _ h=>h)) (by decide) (by simpa using hl) (by simp;omega) rfl fun v' w2 ho hK=>?_
    (refine o_as rfl rfl ?_<;>(first|refine Ay ?_|refine Az ?_|refine Aw ?_|refine AA ?_))
    repeat (first|refine Ah ?_|refine Al ?_|refine Ae ?_|refine Am ?_|refine At ?_|refine Au ?_|refine Ar rfl ?_|refine Aj rfl ?_)
    refine ret1 rfl rfl ⟨by simpa using ho,hE.trans (hown.fits (Nat.le_refl _) hE.size hK)⟩
theorem cloneFacts {w:World} {sv:Value} {xs:List Fct} (hs:V w sv xs) (hl:xs.length * 16≤140737488355328) :
    Fn Try.prog 84 [sv] w fun v w'=>Own w' w.heap.size (All w) 57 v xs∧Ext w w':=by
  obtain ⟨A,c,rfl⟩:=hs.form
  refine AL Try.func84 rfl Try.ntmps84 rfl ?_
  cases A with
  | none =>
    have hx:xs=[]:=by
      cases xs with
      | nil=>rfl
      | cons x xs=>obtain ⟨_,_,_,h,_⟩:=hs.elem (k:=0) (x:=x) rfl;cases h
    subst hx
    ((repeat (first|refine Ah ?_|refine Al ?_|refine Ae ?_|refine Am ?_|refine At ?_|refine Au ?_|refine Ar rfl ?_|refine Aj rfl ?_))<;>(refine o_as rfl rfl ?_<;>(first|refine Ay ?_|refine Az ?_|refine Aw ?_|refine AA ?_))<;>(repeat (first|refine Ah ?_|refine Al ?_|refine Ae ?_|refine Am ?_|refine At ?_|refine Au ?_|refine Ar rfl ?_|refine Aj rfl ?_))<;>(refine o_mv rfl rfl ?_<;>refine o_sn rfl rfl ?_<;>(first|refine Ay ?_|refine Az ?_|refine Aw ?_|refine AA ?_))<;>(repeat (first|refine Ah ?_|refine Al ?_|refine Ae ?_|refine Am ?_|refine At ?_|refine Au ?_|refine Ar rfl ?_|refine Aj rfl ?_))<;>(refine o_as rfl rfl ?_<;>(first|refine Ay ?_|refine Az ?_|refine Aw ?_|refine AA ?_))<;>(repeat (first|refine Ah ?_|refine Al ?_|refine Ae ?_|refine Am ?_|refine At ?_|refine Au ?_|refine Ar rfl ?_|refine Aj rfl ?_)))
    exact ret1 rfl rfl ⟨Own.nil _ _ _ _,Below.refl _ _⟩
  | some ad =>
    ((repeat (first|refine Ah ?_|refine Al ?_|refine Ae ?_|refine Am ?_|refine At ?_|refine Au ?_|refine Ar rfl ?_|refine Aj rfl ?_))<;>(refine o_as rfl rfl ?_<;>(first|refine Ay ?_|refine Az ?_|refine Aw ?_|refine AA ?_))<;>(repeat (first|refine Ah ?_|refine Al ?_|refine Ae ?_|refine Am ?_|refine At ?_|refine Au ?_|refine Ar rfl ?_|refine Aj rfl ?_))<;>(refine o_mv rfl rfl ?_<;>refine o_sn rfl rfl ?_<;>(first|refine Ay ?_|refine Az ?_|refine Aw ?_|refine AA ?_))<;>(repeat (first|refine Ah ?_|refine Al ?_|refine Ae ?_|refine Am ?_|refine At ?_|refine Au ?_|refine Ar rfl ?_|refine Aj rfl ?_)))
    refine CV rfl rfl rfl (by simp) (by decide) rfl fun w1 hN=>?_
    have hE:=hN.ext
    have hown:Own w1 w.heap.size (All w) 57 (.slice (some ⟨w.heap.size,0,none⟩) 0 0) ([]:List Fct):=Own.made hN rfl rfl (Nat.lt_irrefl _) (by decide)
    (refine o_mv rfl rfl ?_)
    refine FS rfl rfl rfl hown (fun k hk=>Nat.lt_of_lt_of_le hk hE.size) hE.size (Vb.agree hs (hE.agree fun _ h=>h)) (by decide) (by simpa using hl) (by simp;omega) rfl fun v' w2 ho hK=>?_
    (refine o_as rfl rfl ?_<;>(first|refine Ay ?_|refine Az ?_|refine Aw ?_|refine AA ?_))
    repeat (first|refine Ah ?_|refine Al ?_|refine Ae ?_|refine Am ?_|refine At ?_|refine Au ?_|refine Ar rfl ?_|refine Aj rfl ?_)
    refine ret1 rfl rfl ⟨by simpa using ho,hE.trans (hown.fits (Nat.le_refl _) hE.size hK)⟩
def applK (t:Tsk) (s:List Int) (k:Nat):List Int:=((List.range k).filter fun i=>match t.ops[i]? with|some o=>holdsB o.pre s|none=>false).map fun i:Nat=>(i:Int)
def appl (t:Tsk) (s:List Int):List Int:=applK t s t.ops.length
theorem Lm (t:Tsk) (s:List Int) (k:Nat):(applK t s k).length≤k:=by
  unfold applK
  rw [List.length_map]
  exact Nat.le_trans (List.length_filter_le _ _) (by simp)
end
section
open Go Go.RowKit
attribute [local irreducible] ewp owp hwp hwq hws Ev Evg Fn retPost loud loudS Res1
inductive Tr where
  | nil
  | leaf (ops:List Int)
  | node (nx many:Nat) (vals:Nat→Tr) (rest:Tr)
def TrR (w:World) (F:Nat→Prop):Tr→Value→Prop
  | .nil,p=>p=.pointer none
  | .leaf ops,p=>∃ g ov,p=.pointer (some ⟨g,0,none⟩)∧F g∧Blk w g 169 [ov,.bool true,.int .i64 0,.slice none 0 0,.pointer none]∧Vb w F ov ops
  | .node nx k vals rest,p=>∃ g A c rp,p=.pointer (some ⟨g,0,none⟩)∧F g∧Blk w g 169 [.slice none 0 0,.bool false,.int .i64 (nx:Int),.slice A k c,.pointer rp]∧TrR w F rest (.pointer rp) ∧
      ∀ i,i < k→∃ b o q,A=some ⟨b,o,none⟩∧F b∧w.cell? ⟨b,o + i,none⟩=some (.pointer q)∧TrR w F (vals i) (.pointer q)
theorem TrR.agree {w w':World} {F:Nat→Prop} (ha:Agree F w w'):∀ {T:Tr} {p:Value},TrR w F T p→TrR w' F T p
  | .nil,_,h=>h
  | .leaf ops,_,⟨g,ov,h1,h2,h3,h4⟩=>⟨g,ov,h1,h2,h3.keep (ha g h2),h4.agree ha⟩
  | .node nx k vals rest,_,⟨g,A,c,rp,h1,h2,h3,h4,h5⟩=>⟨g,A,c,rp,h1,h2,h3.keep (ha g h2),TrR.agree ha h4,fun i hi=>by
      obtain ⟨b,o,q,g1,g2,g3,g4⟩:=h5 i hi
      exact ⟨b,o,q,g1,g2,(ha.cell g2).trans g3,TrR.agree ha g4⟩⟩
theorem TrR.mono {w:World} {F G:Nat→Prop} (hk:∀ k,F k→G k):∀ {T:Tr} {p:Value},TrR w F T p→TrR w G T p
  | .nil,_,h=>h
  | .leaf ops,_,⟨g,ov,h1,h2,h3,h4⟩=>⟨g,ov,h1,hk _ h2,h3,h4.mono hk⟩
  | .node nx k vals rest,_,⟨g,A,c,rp,h1,h2,h3,h4,h5⟩=>⟨g,A,c,rp,h1,hk _ h2,h3,TrR.mono hk h4,fun i hi=>by
      obtain ⟨b,o,q,g1,g2,g3,g4⟩:=h5 i hi
      exact ⟨b,o,q,g1,hk _ g2,g3,TrR.mono hk g4⟩⟩
theorem TrR.form {w:World} {F:Nat→Prop}:∀ {T:Tr} {p:Value},TrR w F T p→∃ q,p=.pointer q
  | .nil,_,h=>⟨none,h⟩
  | .leaf _,_,⟨_,_,h,_⟩=>⟨_,h⟩
  | .node ..,_,⟨_,_,_,_,h,_⟩=>⟨_,h⟩
def atN (s:List Int) (i:Nat):Nat:=(s[i]?.getD 0).toNat
def coll (s:List Int):Tr→List Int
  | .nil=>[]
  | .leaf ops=>ops
  | .node nx _ vals rest=>coll s (vals (atN s nx)) ++ coll s rest
def look (s:List Int):Tr→List Bool→List Bool
  | .nil,l=>l
  | .leaf _,l=>l
  | .node nx _ vals rest,l=>look s rest (look s (vals (atN s nx)) (l.set nx true))
def Fits (s:List Int):Tr→Prop
  | .nil=>True
  | .leaf _=>True
  | .node nx k vals rest=>(∃ x:Nat,s[nx]?=some (x:Int)∧x < k)∧Fits s (vals (atN s nx))∧Fits s rest
theorem EX (s:List Int):∀ (T:Tr) (l:List Bool),(look s T l).length=l.length
  | .nil,_=>rfl
  | .leaf _,_=>rfl
  | .node nx k vals rest,l=>by rw [look,EX s rest,EX s (vals _)];simp
theorem Own.own_ne {α β:Type} [Rp α] [Rp β] {w:World} {b1 b2:Nat} {F G:Nat→Prop} {e1 e2:TypeId} {u v:Value} {xs:List α} {ys:List β} (h:Own w b1 F e1 u xs) (k:Own w b2 G e2 v ys) (hne:e1≠e2):∀ g,u.ownBlock=some g→v.ownBlock≠some g:=by
  intro g hg hv
  obtain ⟨c1,h1,_⟩:=h
  obtain ⟨c2,h2,_⟩:=k
  rcases h1.2 with ⟨rfl,_⟩|⟨g1,cap1,cur1,rfl,_,hh1,_⟩
  · simp [Value.ownBlock] at hg
  · rcases h2.2 with ⟨rfl,_⟩|⟨g2,cap2,cur2,rfl,_,hh2,_⟩
    · simp [Value.ownBlock] at hv
    · have e1':g1=g:=by simpa [Value.ownBlock] using hg
      have e2':g2=g:=by simpa [Value.ownBlock] using hv
      subst e1';subst e2'
      rw [hh1] at hh2
      injection hh2 with hh2
      injection hh2 with _ ht
      exact hne ht
theorem Own.kept {α:Type} [Rp α] {w w':World} {base:Nat} {F:Nat→Prop} {e:TypeId} {v u:Value} {xs:List α} (h:Own w base F e v xs) (hK:Kept w w' u) (hF:∀ k,F k→k < w.heap.size∧u.ownBlock≠some k) (hne:∀ g,v.ownBlock=some g→u.ownBlock≠some g):Own w' base F e v xs :=
  h.agree (fun k hk=>hK.block k (hF k hk).1 (hF k hk).2) fun g hg=>hK.block g (h.lt g hg).2 (hne g hg)
theorem collect (B:Nat) (s:List Int):∀ (T:Tr) (w:World) (p ov sv lv:Value) (out:List Int) (looked:List Bool),B≤w.heap.size→TrR w (· < B) T p→Vb w (· < B) sv s→Own w B (· < B) 3 ov out→Own w B (· < B) 4 lv looked →
    Fits s T→looked.length=s.length→out.length + (coll s T).length≤1000000 →
    Fn Try.prog 88 [p,ov,sv,lv] w fun v w'=>Own w' B (· < B) 3 v (out ++ coll s T)∧Own w' B (· < B) 4 lv (look s T looked)∧Below B w w':=by
  intro T
  induction T with
  | nil =>
    intro w p ov sv lv out looked hB hT hs ho hl _ _ hlen
    have hp:p=.pointer none:=hT
    subst hp
    refine AL Try.func88 rfl Try.ntmps88 rfl ?_
    ((repeat (first|refine Ah ?_|refine Al ?_|refine Ae ?_|refine Am ?_|refine At ?_|refine Au ?_|refine Ar rfl ?_|refine Aj rfl ?_))<;>(refine o_as rfl rfl ?_<;>(first|refine Ay ?_|refine Az ?_|refine Aw ?_|refine AA ?_))<;>(repeat (first|refine Ah ?_|refine Al ?_|refine Ae ?_|refine Am ?_|refine At ?_|refine Au ?_|refine Ar rfl ?_|refine Aj rfl ?_))<;>(refine o_mv rfl rfl ?_<;>refine o_pn rfl rfl ?_<;>(first|refine Ay ?_|refine Az ?_|refine Aw ?_|refine AA ?_))<;>(repeat (first|refine Ah ?_|refine Al ?_|refine Ae ?_|refine Am ?_|refine At ?_|refine Au ?_|refine Ar rfl ?_|refine Aj rfl ?_))<;>(refine o_mv rfl rfl ?_<;>refine o_as rfl rfl ?_<;>(first|refine Ay ?_|refine Az ?_|refine Aw ?_|refine AA ?_))<;>(repeat (first|refine Ah ?_|refine Al ?_|refine Ae ?_|refine Am ?_|refine At ?_|refine Au ?_|refine Ar rfl ?_|refine Aj rfl ?_)))
    exact ret1 rfl rfl ⟨by simpa [coll] using ho,hl,Below.refl _ _⟩
  | leaf ops =>
    intro w p ov sv lv out looked hB hT hs ho hl _ _ hlen
    obtain ⟨g,opv',rfl,hg,hb1,hops⟩:=hT
    refine AL Try.func88 rfl Try.ntmps88 rfl ?_
    ((repeat (first|refine Ah ?_|refine Al ?_|refine Ae ?_|refine Am ?_|refine At ?_|refine Au ?_|refine Ar rfl ?_|refine Aj rfl ?_))<;>(refine o_as rfl rfl ?_<;>(first|refine Ay ?_|refine Az ?_|refine Aw ?_|refine AA ?_))<;>(repeat (first|refine Ah ?_|refine Al ?_|refine Ae ?_|refine Am ?_|refine At ?_|refine Au ?_|refine Ar rfl ?_|refine Aj rfl ?_))<;>(refine o_mv rfl rfl ?_<;>refine o_pn rfl rfl ?_<;>(first|refine Ay ?_|refine Az ?_|refine Aw ?_|refine AA ?_))<;>(repeat (first|refine Ah ?_|refine Al ?_|refine Ae ?_|refine Am ?_|refine At ?_|refine Au ?_|refine Ar rfl ?_|refine Aj rfl ?_))<;>(refine o_mv rfl rfl ?_<;>refine o_nc rfl rfl ?_<;>refine o_fa rfl rfl ?_<;>refine o_ld rfl rfl ?_<;>(first|refine Ay ?_|refine Az ?_|refine Aw ?_|refine AA ?_))<;>(repeat (first|refine Ah ?_|refine Al ?_|refine Ae ?_|refine Am ?_|refine At ?_|refine Au ?_|refine Ar rfl ?_|refine Aj rfl ?_))<;>(refine o_mv rfl rfl ?_<;>refine o_mv rfl rfl ?_<;>refine o_nc rfl rfl ?_<;>refine o_fa rfl rfl ?_<;>refine o_ld rfl rfl ?_)<;>(repeat (first|refine Ah ?_|refine Al ?_|refine Ae ?_|refine Am ?_|refine At ?_|refine Au ?_|refine Ar rfl ?_|refine Aj rfl ?_)))
    simp only [coll] at hlen
    refine FS rfl rfl rfl ho (fun k hk=>Nat.lt_of_lt_of_le hk hB) hB hops (by decide) (by omega) (by omega) rfl fun v' w1 ho1 hK=>?_
    (refine o_as rfl rfl ?_<;>(first|refine Ay ?_|refine Az ?_|refine Aw ?_|refine AA ?_))
    repeat (first|refine Ah ?_|refine Al ?_|refine Ae ?_|refine Am ?_|refine At ?_|refine Au ?_|refine Ar rfl ?_|refine Aj rfl ?_)
    refine ret1 rfl rfl ⟨ho1,?_,ho.fits (Nat.le_refl _) hB hK⟩
    exact hl.kept hK (fun k hk=>⟨Nat.lt_of_lt_of_le hk hB,fun he=>by have:=(ho.lt k he).1;have:k < B:=hk;omega⟩) (fun g hg=>hl.own_ne ho (by decide) g hg)
  | node nx k vals rest ih1 ih2 =>
    intro w p ov sv lv out looked hB hT hs ho hl hfit hll hlen
    obtain ⟨g,A,c,rp,rfl,hg,hb1,hrest,hvals⟩:=hT
    obtain ⟨⟨x,hx,hxk⟩,hfit1,hfit2⟩:=hfit
    obtain ⟨bv,ovv,q,rfl,hbv,hcv,hq⟩:=hvals x hxk
    obtain ⟨As,cs,rfl⟩:=hs.form
    obtain ⟨bs,os,ce,rfl,hbs,_,hds,rfl,_⟩:=hs.elem hx
    have hnx:=Bg hx
    have hat:atN s nx=x:=by simp [atN,hx]
    obtain ⟨gl,capl,_,_,rfl,_⟩:=hl.open (by omega)
    refine AL Try.func88 rfl Try.ntmps88 rfl ?_
    have hll':nx < looked.length:=by omega
    ((repeat (first|refine Ah ?_|refine Al ?_|refine Ae ?_|refine Am ?_|refine At ?_|refine Au ?_|refine Ar rfl ?_|refine Aj rfl ?_))<;>(refine o_as rfl rfl ?_<;>(first|refine Ay ?_|refine Az ?_|refine Aw ?_|refine AA ?_))<;>(repeat (first|refine Ah ?_|refine Al ?_|refine Ae ?_|refine Am ?_|refine At ?_|refine Au ?_|refine Ar rfl ?_|refine Aj rfl ?_))<;>(refine o_mv rfl rfl ?_<;>refine o_pn rfl rfl ?_<;>(first|refine Ay ?_|refine Az ?_|refine Aw ?_|refine AA ?_))<;>(repeat (first|refine Ah ?_|refine Al ?_|refine Ae ?_|refine Am ?_|refine At ?_|refine Au ?_|refine Ar rfl ?_|refine Aj rfl ?_))<;>(refine o_mv rfl rfl ?_<;>refine o_nc rfl rfl ?_<;>refine o_fa rfl rfl ?_<;>refine o_ld rfl rfl ?_<;>(first|refine Ay ?_|refine Az ?_|refine Aw ?_|refine AA ?_))<;>(repeat (first|refine Ah ?_|refine Al ?_|refine Ae ?_|refine Am ?_|refine At ?_|refine Au ?_|refine Ar rfl ?_|refine Aj rfl ?_))<;>(refine o_mv rfl rfl ?_<;>refine o_mv rfl rfl ?_<;>refine o_nc rfl rfl ?_<;>refine o_fa rfl rfl ?_<;>refine o_ld rfl rfl ?_<;>refine o_ia rfl rfl rfl ?_)<;>(repeat (first|refine Ah ?_|refine Al ?_|refine Ae ?_|refine Am ?_|refine At ?_|refine Au ?_|refine Ar rfl ?_|refine Aj rfl ?_)))
    refine HH (i:=nx) (a:=true) rfl rfl rfl hl hll' (show Vb w (· < B) (.bool true) true from rfl) fun w1 hl1 hK1 hz1=>?_
    have hB1:Below B w w1:=hl.fits (Nat.le_refl _) hB hK1
    have ho1:Own w1 B (· < B) 3 ov out:=ho.kept hK1 (fun k hk=>⟨Nat.lt_of_lt_of_le hk hB,fun he=>by have:=(hl.lt k he).1;have:k < B:=hk;omega⟩) (fun g hg=>ho.own_ne hl (by decide) g hg)
    ((first|refine Ay ?_|refine Az ?_|refine Aw ?_|refine AA ?_))
    repeat (first|refine Ah ?_|refine Al ?_|refine Ae ?_|refine Am ?_|refine At ?_|refine Au ?_|refine Ar rfl ?_|refine Aj rfl ?_)
    have hag:∀ w',Below B w1 w'→Agree (· < B) w w':=fun w' h k hk=>(hB1.trans h).block k hk
    replace hb1:∀ w',Below B w1 w'→Blk w' g 169 [.slice none 0 0,.bool false,.int .i64 (nx:Int),.slice (some ⟨bv,ovv,none⟩) k c,.pointer rp]:=fun w' h=>hb1.keep (hag w' h g hg)
    have hd1:∀ w',Below B w1 w'→cellsAt w' bs (os + nx * 1) [.int .i64 (x:Int)]:=fun w' h=>BB (hag w' h) hbs hds
    have hc1:∀ w',Below B w1 w'→w'.cell? ⟨bv,ovv + x * 1,none⟩=some (.pointer q):=fun w' h=>by rw [Nat.mul_one];exact ((hag w' h).cell hbv).trans hcv
    refine BV (Below B w1) [(0,true),(1,true),(2,true),(3,true),(4,true),(5,true),(6,true),(7,true),(8,true),(9,true),(10,true),(11,true),(12,true),(13,true),(14,true),(15,true),(16,true),(17,true),(18,true),(19,true),(21,true),(22,true),(20,false),(23,false),(24,true)] (by kernel_rfl) rfl (by kernel_rfl) (Below.refl _ _) ?_
    (refine h_mv rfl rfl rfl ?_<;>refine h_nc rfl rfl rfl ?_<;>refine h_fa rfl rfl rfl ?_<;>(first|refine h_ldB rfl rfl rfl ?_|refine h_ldC rfl rfl rfl ?_)<;>refine h_mv rfl rfl rfl ?_<;>refine h_nc rfl rfl rfl ?_<;>refine h_fa rfl rfl rfl ?_<;>(first|refine h_ldB rfl rfl rfl ?_|refine h_ldC rfl rfl rfl ?_)<;>refine h_mv rfl rfl rfl ?_<;>refine h_mv rfl rfl rfl ?_<;>refine h_nc rfl rfl rfl ?_<;>refine h_fa rfl rfl rfl ?_<;>(first|refine h_ldB rfl rfl rfl ?_|refine h_ldC rfl rfl rfl ?_)<;>refine h_ia rfl rfl rfl rfl ?_<;>(first|refine h_ldB rfl rfl rfl ?_|refine h_ldC rfl rfl rfl ?_)<;>refine h_ia rfl rfl rfl rfl ?_<;>(first|refine h_ldB rfl rfl rfl ?_|refine h_ldC rfl rfl rfl ?_)<;>refine h_mv rfl rfl rfl ?_<;>refine h_mv rfl rfl rfl ?_<;>refine h_mv rfl rfl rfl ?_<;>refine h_mv rfl rfl rfl ?_<;>refine h_mv rfl rfl rfl ?_)
    refine Bx rfl ?_
    simp only [coll,hat,List.length_append] at hlen
    refine Bc rfl rfl (ih1 x w1 (.pointer q) ov _ _ out (looked.set nx true) (Nat.le_trans hB hB1.size) (TrR.agree (hag w1 (Below.refl _ _)) hq) (hs.agree (hag w1 (Below.refl _ _))) ho1 hl1 (hat ▸ hfit1) (by simpa using hll) (by omega)) ?_
    rintro v2 w2 ⟨ho2,hl2,hB2⟩
    refine BW hB2 ?_
    refine Bx rfl ?_
    refine Bc rfl rfl (ih2 w2 (.pointer rp) v2 _ _ (out ++ coll s (vals x)) (look s (vals x) (looked.set nx true)) (Nat.le_trans hB (hB1.trans hB2).size) (TrR.agree (hag w2 hB2) hrest) (hs.agree (hag w2 hB2)) ho2 hl2 hfit2 (by rw [EX];simpa using hll) (by rw [List.length_append];omega)) ?_
    rintro v3 w3 ⟨ho3,hl3,hB3⟩
    refine BW (hB2.trans hB3) ?_
    (refine h_as rfl rfl rfl ?_<;>(first|refine AK ?_|refine BR ?_|refine BS ?_))
    repeat (first|refine Ah ?_|refine Al ?_|refine Ae ?_|refine Am ?_|refine At ?_|refine Au ?_|refine Ar rfl ?_|refine Aj rfl ?_)
    exact ret1 rfl rfl ⟨by simpa [coll,hat] using ho3,by simpa [look,hat] using hl3,hB1.trans (hB2.trans hB3)⟩
end
section
open Go.Shelf
def Try.lays189_ren:Go.Shelf.Ren:=⟨fun|189=>89|125=>92|257=>91|128=>102|129=>103|294=>93|295=>94|296=>95|297=>96|298=>97|299=>98|216=>99|300=>100|301=>101|328=>104|329=>105|330=>106|331=>107|332=>108|215=>109|343=>110|n=>n,fun|28=>22|3=>3|46=>171|0=>0|51=>183|53=>150|4=>4|183=>177|182=>176|131=>40|5=>5|9=>9|218=>185|222=>188|228=>190|229=>191|n=>n,fun|n=>n⟩
theorem Try.lays189:Go.Proofs.Lays.n189 Try.prog Try.lays189_ren:={
  mixed:=by kernel_rfl
  f125:=Try.func92.trans (congrArg some (by kernel_rfl))
  f128:=Try.func102.trans (congrArg some (by kernel_rfl))
  f129:=Try.func103.trans (congrArg some (by kernel_rfl))
  f189:=Try.func89.trans (congrArg some (by kernel_rfl))
  f215:=Try.func109.trans (congrArg some (by kernel_rfl))
  f216:=Try.func99.trans (congrArg some (by kernel_rfl))
  f257:=Try.func91.trans (congrArg some (by kernel_rfl))
  f294:=Try.func93.trans (congrArg some (by kernel_rfl))
  f295:=Try.func94.trans (congrArg some (by kernel_rfl))
  f296:=Try.func95.trans (congrArg some (by kernel_rfl))
  f297:=Try.func96.trans (congrArg some (by kernel_rfl))
  f298:=Try.func97.trans (congrArg some (by kernel_rfl))
  f299:=Try.func98.trans (congrArg some (by kernel_rfl))
  f300:=Try.func100.trans (congrArg some (by kernel_rfl))
  f301:=Try.func101.trans (congrArg some (by kernel_rfl))
  f328:=Try.func104.trans (congrArg some (by kernel_rfl))
  f329:=Try.func105.trans (congrArg some (by kernel_rfl))
  f330:=Try.func106.trans (congrArg some (by kernel_rfl))
  f331:=Try.func107.trans (congrArg some (by kernel_rfl))
  f332:=Try.func108.trans (congrArg some (by kernel_rfl))
  f343:=Try.func110.trans (congrArg some (by kernel_rfl))
  t0:=Try.underlying0
  a0:=Try.isAgg0
  z0:=Try.sizeOf0
  v0:=Try.zeroValue0
  t3:=Try.underlying3
  a3:=Try.isAgg3
  z3:=Try.sizeOf3
  v3:=Try.zeroValue3
  t4:=Try.underlying4
  a4:=Try.isAgg4
  z4:=Try.sizeOf4
  v4:=Try.zeroValue4
  t5:=Try.underlying5
  a5:=Try.isAgg5
  z5:=Try.sizeOf5
  v5:=Try.zeroValue5
  t9:=Try.underlying9
  a9:=Try.isAgg9
  z9:=Try.sizeOf9
  v9:=Try.zeroValue9
  t28:=Try.underlying22
  a28:=Try.isAgg22
  z28:=Try.sizeOf22
  v28:=Try.zeroValue22
  t46:=Try.underlying171
  a46:=Try.isAgg171
  z46:=Try.sizeOf171
  v46:=Try.zeroValue171
  t51:=Try.underlying183
  a51:=Try.isAgg183
  z51:=Try.sizeOf183
  v51:=Try.zeroValue183
  t53:=Try.underlying150
  a53:=Try.isAgg150
  z53:=Try.sizeOf150
  v53:=Try.zeroValue150
  t131:=Try.underlying40
  a131:=Try.isAgg40
  z131:=Try.sizeOf40
  v131:=Try.zeroValue40
  t182:=Try.underlying176
  a182:=Try.isAgg176
  z182:=Try.sizeOf176
  v182:=Try.zeroValue176
  t183:=Try.underlying177
  a183:=Try.isAgg177
  z183:=Try.sizeOf177
  v183:=Try.zeroValue177
  t218:=Try.underlying185
  a218:=Try.isAgg185
  z218:=Try.sizeOf185
  v218:=Try.zeroValue185
  t222:=Try.underlying188
  a222:=Try.isAgg188
  z222:=Try.sizeOf188
  v222:=Try.zeroValue188
  t228:=Try.underlying190
  a228:=Try.isAgg190
  z228:=Try.sizeOf190
  v228:=Try.zeroValue190
  t229:=Try.underlying191
  a229:=Try.isAgg191
  z229:=Try.sizeOf191
  v229:=Try.zeroValue191 }
open Go.Sort Go.RowKit in
theorem Try.slices_Sort_int (blk off cap:Nat) (zs:List Int) (w:World) (hH:Holds (Value.int .i64) w blk off zs.toArray) (hblk:blk < w.heap.size) (hsz:zs.length < 4611686018427387904) :
    Calls Try.prog 89 #[.slice (some ⟨blk,off,none⟩) zs.length cap] w fun e w' =>
      e=.returned (.tuple #[])∧∃ n os,w'=grow (putRow (Value.int .i64) (Sort.ahead w n) blk off (zs.mergeSort fun x y=>decide (x≤y)).toArray) os:=Any.slices_Sort_int Try.lays189 blk off cap zs w hH hblk hsz
open Go.RowKit Go.Sort in
theorem Try.slices_Sort_int_none (p:Option Addr) (cap:Nat) (w:World) :
    Calls Try.prog 89 #[.slice p 0 cap] w fun e w'=>e=.returned (.tuple #[])∧w'=w:=Any.slices_Sort_int_none Try.lays189 p cap w
end
section
open Go Go.RowKit
def sortL (xs:List Int):List Int:=xs.mergeSort fun x y=>decide (x≤y)
theorem CZ (xs:List Int):(sortL xs).length=xs.length:=List.length_mergeSort xs
theorem GP {w:World} {F:Nat→Prop}:∀ {xs:List Int} {cells:List Value},Chunks w F cells xs→cells=xs.map (Value.int .i64)∧∀ x∈xs,inI64 x
  | [],_,h=>⟨h,fun _ hx=>by simp at hx⟩
  | x :: xs,cells,⟨cs,rest,he,hr,hc⟩=>by
    obtain ⟨h1,h2⟩:=GP hc
    obtain ⟨h3,h4⟩:=hr
    refine ⟨by rw [he,h3,h1];rfl,fun y hy=>?_⟩
    rcases List.mem_cons.1 hy with rfl|hy
    · exact h4
    · exact h2 y hy
theorem GQ {w:World} {F:Nat→Prop}:∀ {xs:List Int},(∀ x∈xs,inI64 x)→Chunks w F (xs.map (Value.int .i64)) xs
  | [],_=>rfl
  | x :: xs,h=>⟨[.int .i64 x],xs.map (Value.int .i64),rfl,⟨rfl,h x (by simp)⟩,GQ fun y hy=>h y (by simp [hy])⟩
theorem sortInts {w:World} {base:Nat} {F:Nat→Prop} {v:Value} {xs:List Int} (h:Own w base F 3 v xs) (hl:xs.length≤1000000) :
    Fn Try.prog 89 [v] w fun r w'=>r=.tuple #[]∧Own w' base F 3 v (sortL xs)∧Kept w w' v:=by
  intro d
  rcases Nat.eq_zero_or_pos xs.length with h0|h0
  · have hx:xs=[]:=List.eq_nil_of_length_eq_zero h0
    subst hx
    have hv:∃ p c,v=.slice p 0 c:=by
      obtain ⟨cells,h1,_⟩:=h
      rcases h1.2 with ⟨rfl,_⟩|⟨g,cap,cur,rfl,_⟩
      · exact ⟨_,_,rfl⟩
      · exact ⟨_,_,rfl⟩
    obtain ⟨p,c,rfl⟩:=hv
    refine (Try.slices_Sort_int_none p c (dr w d)).mono fun e w' ⟨he,hw⟩=>⟨_,w,d,he,hw,rfl,by simpa [sortL] using h,⟨rfl,rfl,rfl,Nat.le_refl _,fun _ _ _=>rfl⟩⟩
  · obtain ⟨g,cap,cells,sp,rfl,hg,hFg,hb,hc,hlen,hnc,hcm,htot⟩:=h.open h0
    obtain ⟨rfl,hin⟩:=GP hc
    have hH:Go.Sort.Holds (Value.int .i64) (dr w d) g 0 xs.toArray:=fun j hj=>by
      have hj':j < xs.length:=by simpa using hj
      refine ⟨?_,by rw [Nat.zero_add];exact hb.frozen j⟩
      rw [Nat.zero_add]
      refine hb.cell ?_
      rw [List.getElem?_append_left (by simpa using hj'),List.getElem?_map,List.getElem?_eq_getElem hj']
      simp [hj']
    refine (Try.slices_Sort_int g 0 cap xs (dr w d) hH hb.lt (by omega)).mono fun e w' ⟨he,n,os,hw⟩=>⟨_,w',w'.drawn,he,rfl,rfl,?_,?_⟩
    · have hblk:Blk w' g 3 ((sortL xs).map (Value.int .i64) ++ sp):=by
        subst hw
        unfold Blk at hb ⊢
        have hsz:g < w.heap.size:=Blk.lt hb
        show ((w.heap.modify g _) ++ os)[g]?=_
        rw [Array.getElem?_append_left (by simpa using hsz),Array.getElem?_modify,if_pos rfl,hb]
        simp only [Option.map_some,Go.Sort.onCells]
        congr 2
        apply Array.ext
        · simp [Go.Sort.putCells,CZ]
        · intro i h1 h2
          simp only [Go.Sort.putCells,Array.getElem_mapIdx,Nat.zero_add,Nat.sub_zero,Nat.zero_le,true_and]
          have e1:(List.mergeSort xs fun x y=>decide (x≤y)).length=xs.length:=List.length_mergeSort xs
          by_cases hi:i < xs.length
          · rw [if_pos (by simpa [e1] using hi)]
            simp only [List.getElem_toArray]
            rw [List.getElem_append_left (by simpa [CZ] using hi),List.getElem_map]
            congr 1
            rw [getElem!_pos _ _ (by simpa [e1] using hi)]
            simp [sortL]
          · rw [if_neg (by simpa [e1] using hi)]
            simp only [List.getElem_toArray]
            rw [List.getElem_append_right (by simp;omega),List.getElem_append_right (by simp [CZ];omega)]
            simp [CZ]
      have:=Own.close (w:=w') (base:=base) (cap:=cap) hg hFg hblk (GQ (F:=F) (w:=w') fun x hx=>hin x (by
        have:=(List.mergeSort_perm xs fun x y=>decide (x≤y)).mem_iff.1 hx
        exact this)) (by rw [CZ];exact hnc) hcm (by simpa [CZ] using htot)
      rwa [CZ] at this
    · subst hw
      refine ⟨rfl,rfl,rfl,?_,fun k hk hne=>?_⟩
      · show w.heap.size≤((w.heap.modify g _) ++ os).size
        simp
      · have hkg:g≠k:=fun e=>hne (by simp [Value.ownBlock,e])
        show ((w.heap.modify g _) ++ os)[k]?=_
        rw [Array.getElem?_append_left (by simpa using hk),Array.getElem?_modify,if_neg hkg]
end
section
open Go Go.RowKit
attribute [local irreducible] ewp owp hwp hwq hws Ev Evg Fn retPost loud loudS Res1
def GenR (w:World) (F:Nat→Prop) (gv:Value) (t:Tsk) (T:Tr):Prop :=
  ∃ gb a b c d r,gv=.pointer (some ⟨gb,0,none⟩)∧F gb∧Blk w gb 129 [a,b,c,d,r]∧Vb w F a t.vars∧Vb w F b t.init∧Vb w F c t.goal∧Vb w F d t.ops∧TrR w F T r
theorem JD (z:Value) (n:Nat) (hz:z.cells=#[z]):(madeCells z.cells (n * 1)).toList=List.replicate n z:=by
  rw [hz,Nat.mul_one]
  apply List.ext_getElem
  · simp [madeCells]
  · intro i h1 h2
    simp [madeCells,Nat.mod_one]
theorem Hl {w:World} {F:Nat→Prop}:∀ n,Chunks w F (List.replicate n (.bool false)) (List.replicate n false)
  | 0=>rfl
  | n + 1=>⟨[.bool false],List.replicate n (.bool false),rfl,rfl,Hl n⟩
noncomputable def findL (t:Tsk) (T:Tr) (s:List Int):List Int:=if bof (StateOk t.vars s)=true then sortL (coll s T) else []
noncomputable def findN (t:Tsk) (T:Tr) (s:List Int):Nat:=if bof (StateOk t.vars s)=true then (look s T (List.replicate s.length false)).count true else 0
theorem KE {l:List Bool} {k:Nat} {b:Bool} (h:l[k]?=some b):(l.take (k + 1)).count true=(l.take k).count true + if b=true then 1 else 0:=by
  rw [List.take_add_one,h,List.count_append]
  cases b<;>simp
theorem genFind {w:World} {gv sv:Value} {t:Tsk} {T:Tr} {s:List Int} (hg:GenR w (All w) gv t T) (hs:V w sv s) (hfit:StateOk t.vars s→Fits s T) (hlen:(coll s T).length≤1000000) (hsl:s.length≤1000000) :
    Fn Try.prog 79 [gv,sv] w fun v w'=>Ext w w'∧∃ u,v=.tuple #[u,.int .i64 (findN t T s:Int)]∧Own w' w.heap.size (All w) 3 u (findL t T s):=by
  obtain ⟨gb,a,b,c,d,r,rfl,hgb,hb1,hvars,hinit,hgoal,hops,hT⟩:=hg
  obtain ⟨Av,cv,rfl⟩:=hvars.form
  obtain ⟨As,cs,rfl⟩:=hs.form
  obtain ⟨rp,rfl⟩:=hT.form
  refine AL Try.func79 rfl Try.ntmps79 rfl ?_
  ((repeat (first|refine Ah ?_|refine Al ?_|refine Ae ?_|refine Am ?_|refine At ?_|refine Au ?_|refine Ar rfl ?_|refine Aj rfl ?_))<;>(refine o_as rfl rfl ?_<;>refine o_as rfl rfl ?_<;>(first|refine Ay ?_|refine Az ?_|refine Aw ?_|refine AA ?_))<;>(repeat (first|refine Ah ?_|refine Al ?_|refine Ae ?_|refine Am ?_|refine At ?_|refine Au ?_|refine Ar rfl ?_|refine Aj rfl ?_))<;>(refine o_mv rfl rfl ?_<;>refine o_pn rfl rfl ?_<;>refine o_mv rfl rfl ?_<;>(first|(refine AD rfl rfl ?_;refine o_mv rfl rfl ?_)|refine AB rfl rfl rfl rfl ?_)<;>(first|(refine AD rfl rfl ?_;refine o_nc rfl rfl ?_)|refine AB rfl rfl rfl rfl ?_)<;>(first|(refine AD rfl rfl ?_;refine o_fa rfl rfl ?_)|refine AB rfl rfl rfl rfl ?_)<;>(first|(refine AD rfl rfl ?_;refine o_fa rfl rfl ?_)|refine AB rfl rfl rfl rfl ?_)<;>(first|(refine AD rfl rfl ?_;refine o_ld rfl rfl ?_)|refine AB rfl rfl rfl rfl ?_)<;>(first|(refine AD rfl rfl ?_;refine o_mv rfl rfl ?_)|refine AB rfl rfl rfl rfl ?_))<;>(repeat (first|refine Ah ?_|refine Al ?_|refine Ae ?_|refine Am ?_|refine At ?_|refine Au ?_|refine Ar rfl ?_|refine Aj rfl ?_)))
  refine AD rfl rfl ?_
  refine Cs rfl rfl (taskProper hvars hs) ?_ ?_
  case refine_2 =>
    intro w1 hP hE1
    ((first|(refine AD rfl rfl ?_;(first|refine o_nt rfl rfl ?_|refine o_nf rfl rfl ?_|refine o_nn rfl rfl ?_))|refine AB rfl rfl rfl rfl ?_)<;>(first|refine o_pt rfl rfl rfl ?_|refine o_pf rfl rfl rfl ?_)<;>(first|refine Ay ?_|refine Az ?_|refine Aw ?_|refine AA ?_))
    repeat (first|refine Ah ?_|refine Al ?_|refine Ae ?_|refine Am ?_|refine At ?_|refine Au ?_|refine Ar rfl ?_|refine Aj rfl ?_)
    ((repeat (first|refine Ah ?_|refine Al ?_|refine Ae ?_|refine Am ?_|refine At ?_|refine Au ?_|refine Ar rfl ?_|refine Aj rfl ?_))<;>(refine o_as rfl rfl ?_<;>refine o_as rfl rfl ?_<;>(first|refine Ay ?_|refine Az ?_|refine Aw ?_|refine AA ?_))<;>(repeat (first|refine Ah ?_|refine Al ?_|refine Ae ?_|refine Am ?_|refine At ?_|refine Au ?_|refine Ar rfl ?_|refine Aj rfl ?_)))
    refine ret2 rfl (AF rfl) (AF rfl) ⟨hE1,.slice none 0 0,?_,?_⟩
    · rw [findN,bof_f hP];rfl
    · rw [findL,bof_f hP];exact Own.nil _ _ _ _
  intro w1 hok hE1
  replace hb1:=hb1.ext hE1
  ((first|(refine AD rfl rfl ?_;(first|refine o_nt rfl rfl ?_|refine o_nf rfl rfl ?_|refine o_nn rfl rfl ?_))|refine AB rfl rfl rfl rfl ?_)<;>(first|refine o_pt rfl rfl rfl ?_|refine o_pf rfl rfl rfl ?_)<;>(first|refine Ay ?_|refine Az ?_|refine Aw ?_|refine AA ?_))
  repeat (first|refine Ah ?_|refine Al ?_|refine Ae ?_|refine Am ?_|refine At ?_|refine Au ?_|refine Ar rfl ?_|refine Aj rfl ?_)
  (refine o_mv rfl rfl ?_<;>refine o_ln rfl rfl ?_)
  refine HQ rfl rfl (by omega) (by omega) rfl fun w2 hN2=>?_
  replace hb1:=hb1.ext hN2.ext
  have hE2:Ext w w2:=hE1.trans' hN2.ext
  have hl2:Own w2 w.heap.size (· < w.heap.size) 4 (.slice (some ⟨w1.heap.size,0,none⟩) s.length s.length) (List.replicate s.length false) :=
    (Own.made hN2 (by rw [JD _ _ rfl];exact Hl _) (by simp) (by have:=hE1.size;omega) (by omega)).lower hE1.size
  (refine o_as rfl rfl ?_<;>(first|refine Ay ?_|refine Az ?_|refine Aw ?_|refine AA ?_))
  repeat (first|refine Ah ?_|refine Al ?_|refine Ae ?_|refine Am ?_|refine At ?_|refine Au ?_|refine Ar rfl ?_|refine Aj rfl ?_)
  (refine o_mv rfl rfl ?_<;>refine o_nc rfl rfl ?_<;>refine o_fa rfl rfl ?_<;>refine o_ld rfl rfl ?_<;>refine o_mv rfl rfl ?_<;>refine o_mv rfl rfl ?_)
  refine Bc rfl rfl (collect w.heap.size s T w2 (.pointer rp) (.slice none 0 0) _ _ [] _ hE2.size (TrR.agree (hE2.agree fun _ h=>h) hT) (Vb.agree hs (hE2.agree fun _ h=>h)) (Own.nil _ _ _ _) hl2 (hfit hok) (by simp) (by simpa using hlen)) ?_
  rintro v3 w3 ⟨ho3,hl3,hB3⟩
  have hE3:Ext w w3:=hE2.trans hB3
  rw [List.nil_append] at ho3
  (refine o_as rfl rfl ?_<;>(first|refine Ay ?_|refine Az ?_|refine Aw ?_|refine AA ?_))
  repeat (first|refine Ah ?_|refine Al ?_|refine Ae ?_|refine Am ?_|refine At ?_|refine Au ?_|refine Ar rfl ?_|refine Aj rfl ?_)
  (refine o_mv rfl rfl ?_)
  refine Bc rfl rfl (sortInts ho3 hlen) ?_
  rintro _ w4 ⟨rfl,ho4,hK4⟩
  have hE4:Ext w w4:=hE3.trans (ho3.fits (Nat.le_refl _) hE3.size hK4)
  have hl4:=hl3.kept hK4 (fun k hk=>⟨Nat.lt_of_lt_of_le hk hE3.size,fun he=>by have:=(ho3.lt k he).1;have:k < w.heap.size:=hk;omega⟩) (fun g hg=>hl3.own_ne ho3 (by decide) g hg)
  have hlv:Vb w4 _ (.slice (some ⟨w1.heap.size,0,none⟩) s.length s.length) (look s T (List.replicate s.length false)):=hl4.vb
  have hll:(look s T (List.replicate s.length false)).length=s.length:=by rw [EX];simp
  ((first|refine Ay ?_|refine Az ?_|refine Aw ?_|refine AA ?_))
  repeat (first|refine Ah ?_|refine Al ?_|refine Ae ?_|refine Am ?_|refine At ?_|refine Au ?_|refine Ar rfl ?_|refine Aj rfl ?_)
  ((repeat (first|refine Ah ?_|refine Al ?_|refine Ae ?_|refine Am ?_|refine At ?_|refine Au ?_|refine Ar rfl ?_|refine Aj rfl ?_))<;>(refine o_as rfl rfl ?_<;>(first|refine Ay ?_|refine Az ?_|refine Aw ?_|refine AA ?_))<;>(repeat (first|refine Ah ?_|refine Al ?_|refine Ae ?_|refine Am ?_|refine At ?_|refine Au ?_|refine Ar rfl ?_|refine Aj rfl ?_))<;>(refine o_mv rfl rfl ?_<;>refine o_ln rfl rfl ?_<;>refine o_mv rfl rfl ?_<;>(first|refine Ay ?_|refine Az ?_|refine Aw ?_|refine AA ?_))<;>(repeat (first|refine Ah ?_|refine Al ?_|refine Ae ?_|refine Am ?_|refine At ?_|refine Au ?_|refine Ar rfl ?_|refine Aj rfl ?_)))
  refine Bn s.length (by omega) (fun n:Nat=>[(7,v3),(8,.int .i64 (n:Int)),(35,.slice (some ⟨w1.heap.size,0,none⟩) s.length s.length)]) (fun k n w'=>w'=w4∧n=((look s T (List.replicate s.length false)).take k).count true) 0
    ⟨rfl,by simp⟩ ⟨rfl,rfl,rfl,rfl,rfl,trivial⟩ (fun _=>⟨rfl,rfl⟩) ⟨rfl,rfl,rfl⟩ ⟨rfl,rfl⟩ ?_ ?_
  · rintro k n _ hk ⟨rfl,hn⟩
    obtain ⟨x,hx⟩:=AH (l:=look s T (List.replicate s.length false)) (k:=k) (by omega)
    obtain ⟨b2,o2,ce,he,_,_,hd1,rfl⟩:=hlv.elem hx
    injection he with he
    injection he with he1 he2
    subst he1;subst he2
    have hnl:n≤k:=by
      rw [hn]
      exact Nat.le_trans List.count_le_length (by rw [List.length_take];omega)
    have hst:=KE hx
    cases x
    · ((repeat (first|refine Ah ?_|refine Al ?_|refine Ae ?_|refine Am ?_|refine At ?_|refine Au ?_|refine Ar rfl ?_|refine Aj rfl ?_))<;>(refine o_ia rfl rfl rfl ?_<;>refine o_ld rfl rfl ?_<;>refine o_as rfl rfl ?_<;>(first|refine Ay ?_|refine Az ?_|refine Aw ?_|refine AA ?_))<;>(repeat (first|refine Ah ?_|refine Al ?_|refine Ae ?_|refine Am ?_|refine At ?_|refine Au ?_|refine Ar rfl ?_|refine Aj rfl ?_))<;>(refine o_mv rfl rfl ?_<;>(first|refine Ay ?_|refine Az ?_|refine Aw ?_|refine AA ?_))<;>(repeat (first|refine Ah ?_|refine Al ?_|refine Ae ?_|refine Am ?_|refine At ?_|refine Au ?_|refine Ar rfl ?_|refine Aj rfl ?_)))
      exact ⟨n,⟨rfl,rfl,rfl,rfl,rfl,trivial⟩,rfl,by rw [hst,hn];simp⟩
    · ((repeat (first|refine Ah ?_|refine Al ?_|refine Ae ?_|refine Am ?_|refine At ?_|refine Au ?_|refine Ar rfl ?_|refine Aj rfl ?_))<;>(refine o_ia rfl rfl rfl ?_<;>refine o_ld rfl rfl ?_<;>refine o_as rfl rfl ?_<;>(first|refine Ay ?_|refine Az ?_|refine Aw ?_|refine AA ?_))<;>(repeat (first|refine Ah ?_|refine Al ?_|refine Ae ?_|refine Am ?_|refine At ?_|refine Au ?_|refine Ar rfl ?_|refine Aj rfl ?_))<;>(refine o_mv rfl rfl ?_<;>(first|refine Ay ?_|refine Az ?_|refine Aw ?_|refine AA ?_))<;>(repeat (first|refine Ah ?_|refine Al ?_|refine Ae ?_|refine Am ?_|refine At ?_|refine Au ?_|refine Ar rfl ?_|refine Aj rfl ?_))<;>(refine o_mv rfl rfl ?_<;>(first|refine o_ic rfl rfl ?_|refine o_ad rfl rfl rfl ?_)<;>refine o_as rfl rfl ?_<;>(first|refine Ay ?_|refine Az ?_|refine Aw ?_|refine AA ?_))<;>(repeat (first|refine Ah ?_|refine Al ?_|refine Ae ?_|refine Am ?_|refine At ?_|refine Au ?_|refine Ar rfl ?_|refine Aj rfl ?_)))
      exact ⟨n + 1,⟨rfl,rfl,rfl,rfl,rfl,trivial⟩,rfl,by rw [hst,hn];simp⟩
  rintro n _ ⟨rfl,hn⟩
  repeat (first|refine Ah ?_|refine Al ?_|refine Ae ?_|refine Am ?_|refine At ?_|refine Au ?_|refine Ar rfl ?_|refine Aj rfl ?_)
  ((repeat (first|refine Ah ?_|refine Al ?_|refine Ae ?_|refine Am ?_|refine At ?_|refine Au ?_|refine Ar rfl ?_|refine Aj rfl ?_))<;>(refine o_mv rfl rfl ?_<;>refine o_mv rfl rfl ?_<;>refine o_as rfl rfl ?_<;>refine o_as rfl rfl ?_<;>(first|refine Ay ?_|refine Az ?_|refine Aw ?_|refine AA ?_))<;>(repeat (first|refine Ah ?_|refine Al ?_|refine Ae ?_|refine Am ?_|refine At ?_|refine Au ?_|refine Ar rfl ?_|refine Aj rfl ?_)))
  refine ret2 rfl (AF rfl) (AF rfl) ⟨hE4,v3,?_,?_⟩
  · rw [findN,bof_t hok,if_pos rfl,hn,List.take_of_length_le (by omega)]
  · rw [findL,bof_t hok,if_pos rfl]
    exact ho4
section
variable {w : World} {gv sv : Value} {t : Tsk} {T : Tr} {s : List Int}
theorem genApplicable (hg:GenR w (All w) gv t T) (hs:V w sv s) (hfit:StateOk t.vars s→Fits s T) (hlen:(coll s T).length≤1000000) (hsl:s.length≤1000000) :
    Fn Try.prog 64 [gv,sv] w fun v w'=>Ext w w'∧Own w' w.heap.size (All w) 3 v (findL t T s):=by
  refine AL Try.func64 rfl Try.ntmps64 rfl ?_
  ((repeat (first|refine Ah ?_|refine Al ?_|refine Ae ?_|refine Am ?_|refine At ?_|refine Au ?_|refine Ar rfl ?_|refine Aj rfl ?_))<;>(refine o_as rfl rfl ?_<;>(first|refine Ay ?_|refine Az ?_|refine Aw ?_|refine AA ?_))<;>(repeat (first|refine Ah ?_|refine Al ?_|refine Ae ?_|refine Am ?_|refine At ?_|refine Au ?_|refine Ar rfl ?_|refine Aj rfl ?_))<;>(refine o_mv rfl rfl ?_<;>refine o_mv rfl rfl ?_)<;>(repeat (first|refine Ah ?_|refine Al ?_|refine Ae ?_|refine Am ?_|refine At ?_|refine Au ?_|refine Ar rfl ?_|refine Aj rfl ?_)))
  refine Bc rfl rfl (genFind hg hs hfit hlen hsl) ?_
  rintro _ w1 ⟨hE,u,rfl,ho⟩
  (refine o_mv rfl rfl ?_<;>refine o_ex rfl rfl rfl ?_<;>refine o_ex rfl rfl rfl ?_<;>refine o_as rfl rfl ?_<;>refine o_as rfl rfl ?_<;>(first|refine Ay ?_|refine Az ?_|refine Aw ?_|refine AA ?_))
  repeat (first|refine Ah ?_|refine Al ?_|refine Ae ?_|refine Am ?_|refine At ?_|refine Au ?_|refine Ar rfl ?_|refine Aj rfl ?_)
  ((repeat (first|refine Ah ?_|refine Al ?_|refine Ae ?_|refine Am ?_|refine At ?_|refine Au ?_|refine Ar rfl ?_|refine Aj rfl ?_))<;>(refine o_mv rfl rfl ?_<;>refine o_as rfl rfl ?_<;>(first|refine Ay ?_|refine Az ?_|refine Aw ?_|refine AA ?_))<;>(repeat (first|refine Ah ?_|refine Al ?_|refine Ae ?_|refine Am ?_|refine At ?_|refine Au ?_|refine Ar rfl ?_|refine Aj rfl ?_)))
  exact ret1 rfl rfl ⟨hE,ho⟩
theorem Own.form {α:Type} [Rp α] {w:World} {base:Nat} {F:Nat→Prop} {e:TypeId} {v:Value} {xs:List α} (h:Own w base F e v xs):∃ A c,v=.slice A xs.length c:=h.vb.form
end
structure Suc where
  op:Int
  state:List Int
instance:Rp Suc where
  isAgg:=true
  size:=2
  R w F cs x:=∃ v,cs=[.int .i64 x.op,v]∧Vb w F v x.state∧inI64 x.op
  len:=by rintro w F cs x ⟨v,rfl,_⟩;rfl
  one:=by rintro w F cs x ⟨v,rfl,h,_⟩ u hu;simp at hu;rcases hu with rfl|rfl<;>first|rfl|exact Vb.one rfl (by assumption)
  agree:=by rintro w w' F cs x ⟨v,rfl,h,h2⟩ ha;exact ⟨v,rfl,h.agree ha,h2⟩
  mono:=by rintro w F G cs x ⟨v,rfl,h,h2⟩ ha;exact ⟨v,rfl,h.mono ha,h2⟩
def sucOf (t:Tsk) (s:List Int) (op:Int):Suc:=⟨op,match t.ops[op.toNat]? with|some o=>succ o s|none=>s⟩
end
section
open Go Go.RowKit
attribute [local irreducible] ewp owp hwp hwq hws Ev Evg Fn retPost loud loudS Res1
def GenB (w:World) (F:Nat→Prop) (gv:Value) (t:Tsk):Prop :=
  ∃ gb a b c d rp,gv=.pointer (some ⟨gb,0,none⟩)∧F gb∧Blk w gb 129 [a,b,c,d,.pointer rp]∧Vb w F a t.vars∧Vb w F b t.init∧Vb w F c t.goal∧Vb w F d t.ops
theorem GenB.agree {w w':World} {F:Nat→Prop} {gv:Value} {t:Tsk} (h:GenB w F gv t) (ha:Agree F w w'):GenB w' F gv t:=by
  obtain ⟨gb,a,b,c,d,r,h1,h2,h3,h4,h5,h6,h7⟩:=h
  exact ⟨gb,a,b,c,d,r,h1,h2,h3.keep (ha gb h2),h4.agree ha,h5.agree ha,h6.agree ha,h7.agree ha⟩
theorem GenB.mono {w:World} {F G:Nat→Prop} {gv:Value} {t:Tsk} (h:GenB w F gv t) (ha:∀ k,F k→G k):GenB w G gv t:=by
  obtain ⟨gb,a,b,c,d,r,h1,h2,h3,h4,h5,h6,h7⟩:=h
  exact ⟨gb,a,b,c,d,r,h1,ha _ h2,h3,h4.mono ha,h5.mono ha,h6.mono ha,h7.mono ha⟩
theorem GenB.ext {w w':World} {gv:Value} {t:Tsk} (h:GenB w (All w) gv t) (hE:Ext w w'):GenB w' (All w') gv t:=(h.agree (hE.agree fun _ h=>h)).mono fun k hk=>Nat.lt_of_lt_of_le hk hE.size
def factOn (l:List Fct) (v:Int):Option Fct:=l.find? fun f=>decide (f.var=v)
def factV:Option Fct→Value
  | some f=>.tuple #[.agg #[.int .i64 f.var,.int .i64 f.val],.bool true]
  | none=>.tuple #[.agg #[.int .i64 0,.int .i64 0],.bool false]
theorem IV {α:Type} (p:α→Bool):∀ {l:List α} {k:Nat} {x:α},l[k]?=some x→p x=true→(∀ i,i < k→∀ y,l[i]?=some y→p y=false)→l.find? p=some x
  | [],_,_,h,_,_=>by simp at h
  | y :: l,0,x,h,hp,_=>by
    have:y=x:=by simpa using h
    subst this;simp [hp]
  | y :: l,k + 1,x,h,hp,hn=>by
    have hy:=hn 0 (by omega) y rfl
    rw [List.find?_cons,hy]
    exact IV p (k:=k) (by simpa using h) hp fun i hi z hz=>hn (i + 1) (by omega) z (by simpa using hz)
theorem Ln {α:Type} (p:α→Bool) {l:List α} (hn:∀ i,i < l.length→∀ y,l[i]?=some y→p y=false):l.find? p=none:=by
  rw [List.find?_eq_none]
  intro x hx
  obtain ⟨i,hi⟩:=List.getElem?_of_mem hx
  simp [hn i (Bg hi) x hi]
theorem genFact {w:World} {gv:Value} {t:Tsk} {j:Nat} {o:Opr} {v:Int} (hg:GenB w (All w) gv t) (ho:t.ops[j]?=some o) :
    Fn Try.prog 87 [gv,.int .i64 (j:Int),.int .i64 v] w fun r w'=>r=factV (factOn o.pre v)∧Ext w w':=by
  obtain ⟨gb,a,b,c,d,rp,rfl,hgb,hb0,hvars,hinit,hgoal,hops⟩:=hg
  obtain ⟨Ao,co,rfl⟩:=hops.form
  obtain ⟨b2,o2,ce,rfl,hbl,hjl,hd0,p,q,rfl,hp,hq,hc,hnm⟩:=hops.elem ho
  obtain ⟨Ap,cp,rfl⟩:=hp.form
  have hpl:=hp.len
  refine AL Try.func87 rfl Try.ntmps87 rfl ?_
  repeat (first|refine Ah ?_|refine Al ?_|refine Ae ?_|refine Am ?_|refine At ?_|refine Au ?_|refine Ar rfl ?_|refine Aj rfl ?_)
  refine De rfl fun w1 hN1=>?_
  have hres:=hN1.blk
  have hE1:Ext w w1:=hN1.ext
  have hb1:=hb0.ext hE1
  have hd1:=Hd hd0 hbl hE1
  (refine o_as rfl rfl ?_<;>(first|refine Ay ?_|refine Az ?_|refine Aw ?_|refine AA ?_))
  repeat (first|refine Ah ?_|refine Al ?_|refine Ae ?_|refine Am ?_|refine At ?_|refine Au ?_|refine Ar rfl ?_|refine Aj rfl ?_)
  ((repeat (first|refine Ah ?_|refine Al ?_|refine Ae ?_|refine Am ?_|refine At ?_|refine Au ?_|refine Ar rfl ?_|refine Aj rfl ?_))<;>(refine o_mv rfl rfl ?_<;>refine o_nc rfl rfl ?_<;>refine o_fa rfl rfl ?_<;>refine o_fa rfl rfl ?_<;>refine o_ld rfl rfl ?_<;>refine o_mv rfl rfl ?_<;>refine o_ia rfl rfl rfl ?_<;>refine o_fa rfl rfl ?_<;>refine o_ld rfl rfl ?_<;>refine o_ln rfl rfl ?_<;>refine o_mv rfl rfl ?_<;>(first|refine Ay ?_|refine Az ?_|refine Aw ?_|refine AA ?_))<;>(repeat (first|refine Ah ?_|refine Al ?_|refine Ae ?_|refine Am ?_|refine At ?_|refine Au ?_|refine Ar rfl ?_|refine Aj rfl ?_)))
  refine Bn o.pre.length (by omega) (fun _:Unit=>[(2,.int .i64 v),(6,.pointer (some ⟨w.heap.size,0,none⟩)),(18,.slice Ap o.pre.length cp)]) (fun k _ w'=>Ext w1 w'∧∀ i,i < k→∀ f,o.pre[i]?=some f→decide (f.var=v)=false) ()
    ⟨Below.refl _ _,fun i hi=>by omega⟩ ⟨rfl,rfl,rfl,rfl,rfl,trivial⟩ (fun _=>⟨rfl,rfl⟩) ⟨rfl,rfl,rfl⟩ ⟨rfl,rfl⟩ ?_ ?_
  · rintro k _ w2 hk ⟨hE2,hh⟩
    obtain ⟨f,hf⟩:=AH hk
    obtain ⟨b3,o3,ce,rfl,_,_,hd1,rfl,hr1,hr2⟩:=(hp.ext (hE1.trans' hE2)).elem hf
    ((repeat (first|refine Ah ?_|refine Al ?_|refine Ae ?_|refine Am ?_|refine At ?_|refine Au ?_|refine Ar rfl ?_|refine Aj rfl ?_))<;>(refine o_ia rfl rfl rfl ?_<;>refine o_la rfl rfl ?_)<;>(repeat (first|refine Ah ?_|refine Al ?_|refine Ae ?_|refine Am ?_|refine At ?_|refine Au ?_|refine Ar rfl ?_|refine Aj rfl ?_)))
    refine BF rfl rfl rfl (by simp [Value.cells,Value.oneCell']) fun w3 hN3=>?_
    have hb2:=hN3.blk
    have hE3:Ext w1 w3:=hE2.trans' hN3.ext
    replace hres:=hres.ext hE3
    ((first|refine Ay ?_|refine Az ?_|refine Aw ?_|refine AA ?_))
    repeat (first|refine Ah ?_|refine Al ?_|refine Ae ?_|refine Am ?_|refine At ?_|refine Au ?_|refine Ar rfl ?_|refine Aj rfl ?_)
    ((repeat (first|refine Ah ?_|refine Al ?_|refine Ae ?_|refine Am ?_|refine At ?_|refine Au ?_|refine Ar rfl ?_|refine Aj rfl ?_))<;>(refine o_fa rfl rfl ?_<;>refine o_ld rfl rfl ?_<;>refine o_mv rfl rfl ?_<;>(first|refine o_eeT rfl rfl rfl ?_|refine o_eeF rfl rfl rfl ?_|refine o_eeS rfl rfl rfl (fun _=>?_) fun _=>?_)<;>(first|refine Ay ?_|refine Az ?_|refine Aw ?_|refine AA ?_))<;>(repeat (first|refine Ah ?_|refine Al ?_|refine Ae ?_|refine Am ?_|refine At ?_|refine Au ?_|refine Ar rfl ?_|refine Aj rfl ?_)))
    · (refine o_la rfl rfl ?_)
      refine BE rfl rfl hres rfl (Nat.le_refl _) (by simp [Value.cells,Value.oneCell']) fun w4 hU=>?_
      (refine o_as rfl rfl ?_<;>(first|refine Ay ?_|refine Az ?_|refine Aw ?_|refine AA ?_))
      repeat (first|refine Ah ?_|refine Al ?_|refine Ae ?_|refine Am ?_|refine At ?_|refine Au ?_|refine Ar rfl ?_|refine Aj rfl ?_)
      refine ret2 rfl (BP rfl rfl hU.blk.cellsAt) (AF rfl) ⟨?_,hE1.trans ((hE3.mono hE1.size).trans (hU.below (Nat.le_refl _)))⟩
      rw [factOn,IV _ hf (by simpa using ‹f.var=v›) hh]
      rfl
    · exact ⟨(),⟨rfl,rfl,rfl,rfl,rfl,trivial⟩,hE3,Cm hh fun f' hf'=>by rw [hf] at hf';injection hf' with hf';subst hf';simpa using ‹¬ f.var=v›⟩
  rintro _ w2 ⟨hE2,hh⟩
  replace hres:=hres.ext hE2
  repeat (first|refine Ah ?_|refine Al ?_|refine Ae ?_|refine Am ?_|refine At ?_|refine Au ?_|refine Ar rfl ?_|refine Aj rfl ?_)
  (refine o_bd rfl rfl rfl ?_)
  refine BE rfl rfl hres rfl (Nat.le_refl _) (by simp [Value.cells,Value.oneCell',setParts]) fun w4 hU=>?_
  (refine o_as rfl rfl ?_<;>(first|refine Ay ?_|refine Az ?_|refine Aw ?_|refine AA ?_))
  repeat (first|refine Ah ?_|refine Al ?_|refine Ae ?_|refine Am ?_|refine At ?_|refine Au ?_|refine Ar rfl ?_|refine Aj rfl ?_)
  refine ret2 rfl (BP rfl rfl hU.blk.cellsAt) (AF rfl) ⟨?_,hE1.trans ((hE2.mono hE1.size).trans (hU.below (Nat.le_refl _)))⟩
  rw [factOn,Ln _ hh]
  rfl
theorem genBuild1 {w:World} {gv:Value} {t:Tsk} {j:Nat} {o:Opr} {v:Int} {g1 g2:Nat} {r1 r2:TypeId} (hg:GenB w (All w) gv t) (ho:t.ops[j]?=some o) (h1:Blk w g1 r1 [gv]) (h2:Blk w g2 r2 [.int .i64 v]) :
    Fn Try.prog 86 ([.int .i64 (j:Int)] ++ [.pointer (some ⟨g1,0,none⟩),.pointer (some ⟨g2,0,none⟩)]) w fun r w'=>r=.bool (factOn o.pre v).isSome∧Ext w w':=by
  have hb1:=h1
  have hb2:=h2
  refine AL Try.func86 rfl Try.ntmps86 rfl ?_
  ((repeat (first|refine Ah ?_|refine Al ?_|refine Ae ?_|refine Am ?_|refine At ?_|refine Au ?_|refine Ar rfl ?_|refine Aj rfl ?_))<;>(refine o_as rfl rfl ?_<;>(first|refine Ay ?_|refine Az ?_|refine Aw ?_|refine AA ?_))<;>(repeat (first|refine Ah ?_|refine Al ?_|refine Ae ?_|refine Am ?_|refine At ?_|refine Au ?_|refine Ar rfl ?_|refine Aj rfl ?_))<;>(refine o_ld rfl rfl ?_<;>refine o_mv rfl rfl ?_<;>refine o_ld rfl rfl ?_)<;>(repeat (first|refine Ah ?_|refine Al ?_|refine Ae ?_|refine Am ?_|refine At ?_|refine Au ?_|refine Ar rfl ?_|refine Aj rfl ?_)))
  refine Bc rfl rfl (genFact hg ho) ?_
  rintro _ w1 ⟨rfl,hE1⟩
  cases hf:factOn o.pre v with
  | none =>
    simp only [factV]
    (refine o_mv rfl rfl ?_<;>refine o_ex rfl rfl rfl ?_<;>refine o_ex rfl rfl rfl ?_)
    refine BF rfl rfl rfl (by simp [Value.cells,Value.oneCell']) fun w2 hN2=>?_
    (refine o_as rfl rfl ?_<;>(first|refine Ay ?_|refine Az ?_|refine Aw ?_|refine AA ?_))
    repeat (first|refine Ah ?_|refine Al ?_|refine Ae ?_|refine Am ?_|refine At ?_|refine Au ?_|refine Ar rfl ?_|refine Aj rfl ?_)
    ((repeat (first|refine Ah ?_|refine Al ?_|refine Ae ?_|refine Am ?_|refine At ?_|refine Au ?_|refine Ar rfl ?_|refine Aj rfl ?_))<;>(refine o_mv rfl rfl ?_<;>refine o_as rfl rfl ?_<;>(first|refine Ay ?_|refine Az ?_|refine Aw ?_|refine AA ?_))<;>(repeat (first|refine Ah ?_|refine Al ?_|refine Ae ?_|refine Am ?_|refine At ?_|refine Au ?_|refine Ar rfl ?_|refine Aj rfl ?_)))
    exact ret1 rfl rfl ⟨rfl,hE1.trans' hN2.ext⟩
  | some f =>
    simp only [factV]
    (refine o_mv rfl rfl ?_<;>refine o_ex rfl rfl rfl ?_<;>refine o_ex rfl rfl rfl ?_)
    refine BF rfl rfl rfl (by simp [Value.cells,Value.oneCell']) fun w2 hN2=>?_
    (refine o_as rfl rfl ?_<;>(first|refine Ay ?_|refine Az ?_|refine Aw ?_|refine AA ?_))
    repeat (first|refine Ah ?_|refine Al ?_|refine Ae ?_|refine Am ?_|refine At ?_|refine Au ?_|refine Ar rfl ?_|refine Aj rfl ?_)
    ((repeat (first|refine Ah ?_|refine Al ?_|refine Ae ?_|refine Am ?_|refine At ?_|refine Au ?_|refine Ar rfl ?_|refine Aj rfl ?_))<;>(refine o_mv rfl rfl ?_<;>refine o_as rfl rfl ?_<;>(first|refine Ay ?_|refine Az ?_|refine Aw ?_|refine AA ?_))<;>(repeat (first|refine Ah ?_|refine Al ?_|refine Ae ?_|refine Am ?_|refine At ?_|refine Au ?_|refine Ar rfl ?_|refine Aj rfl ?_)))
    exact ret1 rfl rfl ⟨rfl,hE1.trans' hN2.ext⟩
end
section
open Go Go.RowKit
attribute [local irreducible] ewp owp hwp hwq hws Ev Evg Fn retPost loud loudS Res1
theorem indexFuncInts {w:World} {sv:Value} {xs:List (Int)} {g:FuncId} [Callable Try.prog g] {caps:List Value} {p:Int→Prop} (hs:V w sv xs)
    (hg:∀ v x w',x∈xs→Ext w w'→V w' v x→Fn Try.prog g ([v] ++ caps) w' fun r w''=>r=.bool (bof (p x))∧Ext w' w'') :
    Fn Try.prog 90 [sv,.func (.func g) #[] caps.toArray] w fun v w'=>((∃ k:Nat,v=.int .i64 (k:Int)∧∃ x∈xs,p x)∨(v=.int .i64 (-1)∧∀ x∈xs,¬ p x))∧Ext w w':=by
  obtain ⟨A,c,rfl⟩:=hs.form
  have hl:=hs.len
  refine AL Try.func90 rfl Try.ntmps90 rfl ?_
  ((repeat (first|refine Ah ?_|refine Al ?_|refine Ae ?_|refine Am ?_|refine At ?_|refine Au ?_|refine Ar rfl ?_|refine Aj rfl ?_))<;>(refine o_as rfl rfl ?_<;>(first|refine Ay ?_|refine Az ?_|refine Aw ?_|refine AA ?_))<;>(repeat (first|refine Ah ?_|refine Al ?_|refine Ae ?_|refine Am ?_|refine At ?_|refine Au ?_|refine Ar rfl ?_|refine Aj rfl ?_))<;>(refine o_mv rfl rfl ?_<;>refine o_ln rfl rfl ?_<;>refine o_mv rfl rfl ?_<;>(first|refine Ay ?_|refine Az ?_|refine Aw ?_|refine AA ?_))<;>(repeat (first|refine Ah ?_|refine Al ?_|refine Ae ?_|refine Am ?_|refine At ?_|refine Au ?_|refine Ar rfl ?_|refine Aj rfl ?_)))
  refine Bn xs.length (by omega) (fun _:Unit=>[(0,.slice A xs.length c),(1,.func (.func g) #[] caps.toArray)]) (fun k _ w'=>Ext w w'∧∀ i,i < k→∀ x,xs[i]?=some x→¬ p x) ()
    ⟨Below.refl _ _,fun i hi=>by omega⟩ ⟨rfl,rfl,rfl,rfl,trivial⟩ (fun _=>⟨rfl,rfl⟩) ⟨rfl,rfl,rfl⟩ ⟨rfl,rfl⟩ ?_ ?_
  · rintro k _ w1 hk ⟨hE,hh⟩
    obtain ⟨x,hx⟩:=AH hk
    obtain ⟨b,o,ce,rfl,_,_,hd1,hR⟩:=(hs.ext hE).elem hx
    obtain ⟨v,rfl⟩:=List.length_eq_one_iff.1 (Rp.len hR)
    ((repeat (first|refine Ah ?_|refine Al ?_|refine Ae ?_|refine Am ?_|refine At ?_|refine Au ?_|refine Ar rfl ?_|refine Aj rfl ?_))<;>(refine o_mv rfl rfl ?_<;>refine o_as rfl rfl ?_<;>(first|refine Ay ?_|refine Az ?_|refine Aw ?_|refine AA ?_))<;>(repeat (first|refine Ah ?_|refine Al ?_|refine Ae ?_|refine Am ?_|refine At ?_|refine Au ?_|refine Ar rfl ?_|refine Aj rfl ?_))<;>(refine o_mv rfl rfl ?_<;>refine o_mv rfl rfl ?_<;>refine o_mv rfl rfl ?_<;>refine o_ia rfl rfl rfl ?_<;>refine o_ld rfl rfl ?_)<;>(repeat (first|refine Ah ?_|refine Al ?_|refine Ae ?_|refine Am ?_|refine At ?_|refine Au ?_|refine Ar rfl ?_|refine Aj rfl ?_)))
    refine IK rfl rfl rfl (hg v x w1 (List.mem_of_getElem? hx) hE hR) ?_
    rintro _ w2 ⟨rfl,hE2⟩
    by_cases hp:p x
    · rw [bof_t hp]
      ((first|refine Ay ?_|refine Az ?_|refine Aw ?_|refine AA ?_))
      repeat (first|refine Ah ?_|refine Al ?_|refine Ae ?_|refine Am ?_|refine At ?_|refine Au ?_|refine Ar rfl ?_|refine Aj rfl ?_)
      ((repeat (first|refine Ah ?_|refine Al ?_|refine Ae ?_|refine Am ?_|refine At ?_|refine Au ?_|refine Ar rfl ?_|refine Aj rfl ?_))<;>(refine o_mv rfl rfl ?_<;>refine o_as rfl rfl ?_<;>(first|refine Ay ?_|refine Az ?_|refine Aw ?_|refine AA ?_))<;>(repeat (first|refine Ah ?_|refine Al ?_|refine Ae ?_|refine Am ?_|refine At ?_|refine Au ?_|refine Ar rfl ?_|refine Aj rfl ?_)))
      exact ret1 rfl rfl ⟨.inl ⟨k,rfl,x,List.mem_of_getElem? hx,hp⟩,hE.trans' hE2⟩
    · rw [bof_f hp]
      ((first|refine Ay ?_|refine Az ?_|refine Aw ?_|refine AA ?_))
      repeat (first|refine Ah ?_|refine Al ?_|refine Ae ?_|refine Am ?_|refine At ?_|refine Au ?_|refine Ar rfl ?_|refine Aj rfl ?_)
      exact ⟨(),⟨rfl,rfl,rfl,rfl,trivial⟩,hE.trans' hE2,Cm hh fun x' hx'=>by rw [hx] at hx';injection hx' with hx';exact hx' ▸ hp⟩
  rintro _ w1 ⟨hE,hh⟩
  repeat (first|refine Ah ?_|refine Al ?_|refine Ae ?_|refine Am ?_|refine At ?_|refine Au ?_|refine Ar rfl ?_|refine Aj rfl ?_)
  ((repeat (first|refine Ah ?_|refine Al ?_|refine Ae ?_|refine Am ?_|refine At ?_|refine Au ?_|refine Ar rfl ?_|refine Aj rfl ?_))<;>(refine o_as rfl rfl ?_<;>(first|refine Ay ?_|refine Az ?_|refine Aw ?_|refine AA ?_))<;>(repeat (first|refine Ah ?_|refine Al ?_|refine Ae ?_|refine Am ?_|refine At ?_|refine Au ?_|refine Ar rfl ?_|refine Aj rfl ?_)))
  refine ret1 rfl rfl ⟨.inr ⟨rfl,fun x hx=>?_⟩,hE⟩
  obtain ⟨i,hi⟩:=List.getElem?_of_mem hx
  exact hh i (Bg hi) x hi
theorem containsFuncInts {w:World} {sv:Value} {xs:List (Int)} {g:FuncId} [Callable Try.prog g] {caps:List Value} {p:Int→Prop} (hs:V w sv xs)
    (hg:∀ v x w',x∈xs→Ext w w'→V w' v x→Fn Try.prog g ([v] ++ caps) w' fun r w''=>r=.bool (bof (p x))∧Ext w' w'') :
    Fn Try.prog 85 [sv,.func (.func g) #[] caps.toArray] w fun v w'=>v=.bool (bof (∃ x∈xs,p x))∧Ext w w':=by
  refine AL Try.func85 rfl Try.ntmps85 rfl ?_
  ((repeat (first|refine Ah ?_|refine Al ?_|refine Ae ?_|refine Am ?_|refine At ?_|refine Au ?_|refine Ar rfl ?_|refine Aj rfl ?_))<;>(refine o_as rfl rfl ?_<;>(first|refine Ay ?_|refine Az ?_|refine Aw ?_|refine AA ?_))<;>(repeat (first|refine Ah ?_|refine Al ?_|refine Ae ?_|refine Am ?_|refine At ?_|refine Au ?_|refine Ar rfl ?_|refine Aj rfl ?_))<;>(refine o_mv rfl rfl ?_<;>refine o_mv rfl rfl ?_)<;>(repeat (first|refine Ah ?_|refine Al ?_|refine Ae ?_|refine Am ?_|refine At ?_|refine Au ?_|refine Ar rfl ?_|refine Aj rfl ?_)))
  refine Bc rfl rfl (indexFuncInts hs hg) ?_
  rintro v w1 ⟨h,hE⟩
  rcases h with ⟨k,rfl,h⟩|⟨rfl,h⟩
  · ((first|refine o_geT rfl rfl rfl ?_|refine o_geF rfl rfl rfl ?_)<;>refine o_as rfl rfl ?_<;>(first|refine Ay ?_|refine Az ?_|refine Aw ?_|refine AA ?_))
    repeat (first|refine Ah ?_|refine Al ?_|refine Ae ?_|refine Am ?_|refine At ?_|refine Au ?_|refine Ar rfl ?_|refine Aj rfl ?_)
    exact ret1 rfl rfl ⟨by rw [bof_t h],hE⟩
  · ((first|refine o_geT rfl rfl rfl ?_|refine o_geF rfl rfl rfl ?_)<;>refine o_as rfl rfl ?_<;>(first|refine Ay ?_|refine Az ?_|refine Aw ?_|refine AA ?_))
    repeat (first|refine Ah ?_|refine Al ?_|refine Ae ?_|refine Am ?_|refine At ?_|refine Au ?_|refine Ar rfl ?_|refine Aj rfl ?_)
    exact ret1 rfl rfl ⟨by rw [bof_f (fun ⟨x,hx,hp⟩=>h x hx hp)],hE⟩
end
end Go.Proofs.Ythomfnkaicjmbaa

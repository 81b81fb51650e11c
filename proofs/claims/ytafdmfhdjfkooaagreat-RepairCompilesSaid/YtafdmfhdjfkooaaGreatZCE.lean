/- Own text: what the proof of repairCompiles_holds uses, part 5: rules, models and their proofs, plain laws. -/
import Derived.Test.YtafdmfhdjfkooaaGreatZCD
set_option linter.unusedVariables false
set_option linter.unusedSimpArgs false
namespace Go.Proofs.YtafdmfhdjfkooaaGreat
open Go Go.RowKit
section
open Go Go.RowKit
attribute [local irreducible] ewp owp hwp hwq hws Ev Evg Fn retPost loud loudS Res1
noncomputable def DN (x0:Tsk):Option Bool :=
  bnd (if 64 < (x0.vars.length:Int) then (some true) else (if 4096 < (x0.ops.length:Int) then (some true) else (if 64 < (x0.goal.length:Int) then (some true) else (some false))):Option Bool) fun y24=>bnd (rng (ρ:=Bool) (fun (k47:Nat) (a48:Opr) (s45:Bool)=>bnd (if s45=true then (some true) else (if 64 < (a48.pre.length:Int) then (some true) else (if 64 < (a48.effs.length:Int) then (some true) else (some false))):Option Bool) fun y82=>bnd (rng (ρ:=Ctl Bool Bool) (fun (k103:Nat) (a104:Eff) (s101:Bool)=>if s101=true then (some (.next true)) else (if 64 < (a104.cond.length:Int) then (some (.next true)) else (some (.next false)))) a48.effs 0 y82) fun res99=>fin res99 fun (s142:Bool)=>some (.next s142)) x0.ops 0 y24) fun res43=>fin res43 fun (s148:Bool)=>some s148
theorem IY {w:World} {A:Nat→Prop} (hA:∀ k,A k→k < w.heap.size) {vx0:Value} {x0:Tsk} (hx0:Vb w A vx0 x0) {r:Bool} (hm:DN x0=some r) :
    Fn Tryz.prog 45 [vx0] w fun v w'=>Ext w w'∧Vb w' (upA A w w') v r:=by
 obtain ⟨O,hB,hA0⟩:=enter hA
 replace hx0:=hx0.mono hA0
 obtain ⟨cs2,rfl,v3,v4,v5,v6,rfl,h7,h10,h13,h16⟩:=hx0
 obtain ⟨A8,c9,rfl⟩:=h7.form
 obtain ⟨A11,c12,rfl⟩:=h10.form
 obtain ⟨A14,c15,rfl⟩:=h13.form
 obtain ⟨A17,c18,rfl⟩:=h16.form
 refine AJ Tryz.func45 rfl Tryz.ntmps45 rfl ?_
 unfold DN at hm
 refine Ah (Ae (l_box 2 O rfl rfl fun g19 w20 O21 S22 h23=>?_))
 replace h23:Lc 2 w20 O21 g19 26 [(.slice A8 x0.vars.length c9),(.slice A11 x0.init.length c12),(.slice A14 x0.goal.length c15),(.slice A17 x0.ops.length c18)]:=h23
 refine o_as rfl rfl (o_z ?_)
 refine Ah ?_
 obtain ⟨y24,hy25,hm⟩:=bs hm
 refine AL (fun l' w'=>∃ (x27:Unit) (O':Lab),subs l' [(1,(.pointer (some ⟨g19,0,none⟩))),(3,(.bool y24))]∧Bs w A w' O'∧Lc 2 w' O' g19 26 [(.slice A8 x0.vars.length c9),(.slice A11 x0.init.length c12),(.slice A14 x0.goal.length c15),(.slice A17 x0.ops.length c18)]∧Vb w' (Fr 0 w' O') (.slice A8 x0.vars.length c9) x0.vars∧Vb w' (Fr 0 w' O') (.slice A11 x0.init.length c12) x0.init∧Vb w' (Fr 0 w' O') (.slice A14 x0.goal.length c15) x0.goal∧Vb w' (Fr 0 w' O') (.slice A17 x0.ops.length c18) x0.ops) ?_ ?_
 ·
  refine Ae (o_fa rfl rfl (o_ld (hc:=Blk.cell (i:=0) (h23.1) rfl) rfl rfl ?_))
  refine o_ln rfl rfl ?_
  replace h7:=h7.st S22
  have l29:x0.vars.length≤9223372036854775807:=Nat.le_trans h7.len.2.1 h7.len.2.2
  have r28:inI64 (x0.vars.length:Int):=rngNat l29
  refine o_gtS rfl rfl rfl (fun c30=>?_) fun c30=>?_
  ·
   replace hy25:=ip hy25 c30
   refine o_mv rfl rfl (AB rfl rfl rfl rfl (AB rfl rfl rfl rfl (AB rfl rfl rfl rfl (AB rfl rfl rfl rfl (o_pt rfl rfl rfl (o_mv rfl rfl (AB rfl rfl rfl rfl (AB rfl rfl rfl rfl (AB rfl rfl rfl rfl (AB rfl rfl rfl rfl (o_pt rfl rfl rfl (o_as rfl rfl (o_z ?_)))))))))))))
   obtain rfl:=sm hy25
   replace hB:=hB.st S22
   replace h10:=h10.st S22
   replace h13:=h13.st S22
   replace h16:=h16.st S22
   exact ⟨(),_,⟨rfl,rfl,trivial⟩,hB,h23,h7,h10,h13,h16⟩
  ·
   replace hy25:=im hy25 c30
   refine o_mv rfl rfl (AC rfl rfl (o_fa rfl rfl (AC rfl rfl (o_ld (hc:=Blk.cell (i:=3) (h23.1) rfl) rfl rfl ?_))))
   refine AC rfl rfl (o_ln rfl rfl ?_)
   replace h16:=h16.st S22
   have l32:x0.ops.length≤9223372036854775807:=Nat.le_trans h16.len.2.1 h16.len.2.2
   have r31:inI64 (x0.ops.length:Int):=rngNat l32
   refine AC rfl rfl (o_gtS rfl rfl rfl (fun c33=>?_) fun c33=>?_)
   ·
    replace hy25:=ip hy25 c33
    refine o_pf rfl rfl rfl (o_mv rfl rfl (AB rfl rfl rfl rfl (AB rfl rfl rfl rfl (AB rfl rfl rfl rfl (AB rfl rfl rfl rfl (o_pt rfl rfl rfl (o_as rfl rfl (o_z ?_))))))))
    obtain rfl:=sm hy25
    replace hB:=hB.st S22
    replace h10:=h10.st S22
    replace h13:=h13.st S22
    exact ⟨(),_,⟨rfl,rfl,trivial⟩,hB,h23,h7,h10,h13,h16⟩
   ·
    replace hy25:=im hy25 c33
    refine o_pf rfl rfl rfl (o_mv rfl rfl (AC rfl rfl (o_fa rfl rfl (AC rfl rfl (o_ld (hc:=Blk.cell (i:=2) (h23.1) rfl) rfl rfl ?_)))))
    refine AC rfl rfl (o_ln rfl rfl ?_)
    replace h13:=h13.st S22
    have l35:x0.goal.length≤9223372036854775807:=Nat.le_trans h13.len.2.1 h13.len.2.2
    have r34:inI64 (x0.goal.length:Int):=rngNat l35
    refine AC rfl rfl (o_gtS rfl rfl rfl (fun c36=>?_) fun c36=>?_)
    ·
     replace hy25:=ip hy25 c36
     refine o_pf rfl rfl rfl (o_as rfl rfl (o_z ?_))
     obtain rfl:=sm hy25
     replace hB:=hB.st S22
     replace h10:=h10.st S22
     exact ⟨(),_,⟨rfl,rfl,trivial⟩,hB,h23,h7,h10,h13,h16⟩
    ·
     replace hy25:=im hy25 c36
     refine o_pf rfl rfl rfl (o_as rfl rfl (o_z ?_))
     obtain rfl:=sm hy25
     replace hB:=hB.st S22
     replace h10:=h10.st S22
     exact ⟨(),_,⟨rfl,rfl,trivial⟩,hB,h23,h7,h10,h13,h16⟩
 replace hB:=hB.st S22
 replace h7:=h7.st S22
 replace h10:=h10.st S22
 replace h13:=h13.st S22
 replace h16:=h16.st S22
 rintro l37 w38 ⟨x27,O39,hs40,hB,h23,h7,h10,h13,h16⟩
 refine AM _ hs40 ?_
 refine Ah (Ah (Ae (o_fa rfl rfl (o_ld (hc:=Blk.cell (i:=3) (h23.1) rfl) rfl rfl ?_))))
 refine o_ln rfl rfl ?_
 have l42:x0.ops.length≤9223372036854775807:=Nat.le_trans h16.len.2.1 h16.len.2.2
 have r41:inI64 (x0.ops.length:Int):=rngNat l42
 refine o_mv rfl rfl (o_z ?_)
 obtain ⟨res43,hL44,hm⟩:=bs hm
 refine AL (aft res43 (fun (s45:Bool) (x46:Unit)=>[(3,(.bool s45))]) (fun s45 x46 w'=>∃ O':Lab,Bs w A w' O')) ?_ ?_
 ·
  refine Al (Bh (σ:=Bool) (X:=Unit) (x0.ops.length) hL44 rfl l42 (fun (s45:Bool) (x46:Unit)=>[(3,(.bool s45)),(25,(.slice A17 x0.ops.length c18))]) _ (fun s45 x46 w'=>∃ O':Lab,Bs w A w' O'∧Vb w' (Fr 0 w' O') (.slice A17 x0.ops.length c18) x0.ops) _ () ⟨O39,hB,h16⟩ ⟨rfl,rfl,rfl,rfl,trivial⟩ (fun _ _=>⟨rfl,rfl⟩) (fun _ _=>⟨rfl,trivial⟩) (fun _ _ _ ⟨O',hB,h16⟩=>⟨O',hB⟩) ⟨rfl,rfl,rfl⟩ ⟨rfl,rfl⟩ ?_)
  rintro k47 a48 s45 x46 w49 cc51 hx52 ⟨O50,hB,h16⟩ hf53 hret54 hbrk55
  have rk47:inI64 (k47:Int):=rngK hx52 l42
  refine Ah (Ae ?_)
  obtain ⟨b58,o59,ce60,hA61,hl62,hd63,v65,v66,rfl,h67,h70,r73,z74⟩:=h16.elem' hx52
  obtain ⟨A68,c69,rfl⟩:=h67.form
  obtain ⟨A71,c72,rfl⟩:=h70.form
  refine o_iaE (hA:=hA61) (hj:=rfl) (hlt:=hl62) rfl rfl rfl ?_
  refine o_la (hl:=rfl) (hc:=hd63) rfl rfl ?_
  refine AX 3 O50 rfl fun g75 w76 O77 S78 h79=>?_
  refine AK h79 rfl rfl rfl (Nat.le_of_ble_eq_true rfl) (by first|exact allOne rfl|simp [Value.cells,Value.oneCell',AI]) fun w80 S81 h79=>?_
  replace h79:Lc 3 w80 O77 g75 67 [(.string a48.name),(.int .i64 a48.cost),(.slice A68 a48.pre.length c69),(.slice A71 a48.effs.length c72)]:=h79
  refine o_z ?_
  refine Ah ?_
  obtain ⟨y82,hy83,hf53⟩:=bs hf53
  refine AL (fun l' w'=>∃ (x85:Unit) (O':Lab),subs l' [(3,(.bool y82)),(5,(.pointer (some ⟨g75,0,none⟩))),(25,(.slice A17 x0.ops.length c18)),(26,(.int .i64 (x0.ops.length:Int))),(27,(.int .i64 (k47:Int)))]∧Bs w A w' O'∧Lc 3 w' O' g75 67 [(.string a48.name),(.int .i64 a48.cost),(.slice A68 a48.pre.length c69),(.slice A71 a48.effs.length c72)]∧Vb w' (Fr 0 w' O') (.slice A68 a48.pre.length c69) a48.pre∧Vb w' (Fr 0 w' O') (.slice A71 a48.effs.length c72) a48.effs∧Vb w' (Fr 0 w' O') (.slice A17 x0.ops.length c18) x0.ops) ?_ ?_
  ·
   refine Ae (o_mv rfl rfl (o_mv rfl rfl ?_))
   rcases Bool.eq_false_or_eq_true s45 with c86|c86
   ·
    try rw [c86]
    replace hy83:=ip hy83 c86
    refine AB rfl rfl rfl rfl (AB rfl rfl rfl rfl (AB rfl rfl rfl rfl (AB rfl rfl rfl rfl (o_pt rfl rfl rfl (o_mv rfl rfl (AB rfl rfl rfl rfl (AB rfl rfl rfl rfl (AB rfl rfl rfl rfl (AB rfl rfl rfl rfl (o_pt rfl rfl rfl (o_as rfl rfl (o_z ?_))))))))))))
    obtain rfl:=sm hy83
    replace hB:=(hB.st S78).st S81
    replace h16:=(h16.st S78).st S81
    replace h67:=(h67.st S78).st S81
    replace h70:=(h70.st S78).st S81
    exact ⟨(),_,⟨rfl,rfl,rfl,rfl,rfl,trivial⟩,hB,h79,h67,h70,h16⟩
   ·
    try rw [c86]
    replace hy83:=im' hy83 c86
    refine AC rfl rfl (o_fa rfl rfl (AC rfl rfl (o_ld (hc:=Blk.cell (i:=2) (h79.1) rfl) rfl rfl ?_)))
    refine AC rfl rfl (o_ln rfl rfl ?_)
    replace h67:=(h67.st S78).st S81
    have l88:a48.pre.length≤9223372036854775807:=Nat.le_trans h67.len.2.1 h67.len.2.2
    have r87:inI64 (a48.pre.length:Int):=rngNat l88
    refine AC rfl rfl (o_gtS rfl rfl rfl (fun c89=>?_) fun c89=>?_)
    ·
     replace hy83:=ip hy83 c89
     refine o_pf rfl rfl rfl (o_mv rfl rfl (AB rfl rfl rfl rfl (AB rfl rfl rfl rfl (AB rfl rfl rfl rfl (AB rfl rfl rfl rfl (o_pt rfl rfl rfl (o_as rfl rfl (o_z ?_))))))))
     obtain rfl:=sm hy83
     replace hB:=(hB.st S78).st S81
     replace h16:=(h16.st S78).st S81
     replace h70:=(h70.st S78).st S81
     exact ⟨(),_,⟨rfl,rfl,rfl,rfl,rfl,trivial⟩,hB,h79,h67,h70,h16⟩
    ·
     replace hy83:=im hy83 c89
     refine o_pf rfl rfl rfl (o_mv rfl rfl (AC rfl rfl (o_fa rfl rfl (AC rfl rfl (o_ld (hc:=Blk.cell (i:=3) (h79.1) rfl) rfl rfl ?_)))))
     refine AC rfl rfl (o_ln rfl rfl ?_)
     replace h70:=(h70.st S78).st S81
     have l91:a48.effs.length≤9223372036854775807:=Nat.le_trans h70.len.2.1 h70.len.2.2
     have r90:inI64 (a48.effs.length:Int):=rngNat l91
     refine AC rfl rfl (o_gtS rfl rfl rfl (fun c92=>?_) fun c92=>?_)
     ·
      replace hy83:=ip hy83 c92
      refine o_pf rfl rfl rfl (o_as rfl rfl (o_z ?_))
      obtain rfl:=sm hy83
      replace hB:=(hB.st S78).st S81
      replace h16:=(h16.st S78).st S81
      exact ⟨(),_,⟨rfl,rfl,rfl,rfl,rfl,trivial⟩,hB,h79,h67,h70,h16⟩
     ·
      replace hy83:=im hy83 c92
      refine o_pf rfl rfl rfl (o_as rfl rfl (o_z ?_))
      obtain rfl:=sm hy83
      replace hB:=(hB.st S78).st S81
      replace h16:=(h16.st S78).st S81
      exact ⟨(),_,⟨rfl,rfl,rfl,rfl,rfl,trivial⟩,hB,h79,h67,h70,h16⟩
  replace hB:=(hB.st S78).st S81
  replace h16:=(h16.st S78).st S81
  replace h67:=(h67.st S78).st S81
  replace h70:=(h70.st S78).st S81
  rintro l93 w94 ⟨x85,O95,hs96,hB,h79,h67,h70,h16⟩
  refine AM _ hs96 ?_
  refine Ah (Ae (o_fa rfl rfl (o_ld (hc:=Blk.cell (i:=3) (h79.1) rfl) rfl rfl ?_)))
  refine o_ln rfl rfl ?_
  have l98:a48.effs.length≤9223372036854775807:=Nat.le_trans h70.len.2.1 h70.len.2.2
  have r97:inI64 (a48.effs.length:Int):=rngNat l98
  refine o_mv rfl rfl (o_z ?_)
  obtain ⟨res99,hL100,hf53⟩:=bs hf53
  refine AL (aft res99 (fun (s101:Bool) (x102:Unit)=>[(3,(.bool s101)),(25,(.slice A17 x0.ops.length c18)),(26,(.int .i64 (x0.ops.length:Int))),(27,(.int .i64 (k47:Int)))]) (fun s101 x102 w'=>∃ O':Lab,Bs w A w' O'∧Vb w' (Fr 0 w' O') (.slice A17 x0.ops.length c18) x0.ops)) ?_ ?_
  ·
   refine Al (Bh (σ:=Bool) (X:=Unit) (a48.effs.length) hL100 rfl l98 (fun (s101:Bool) (x102:Unit)=>[(3,(.bool s101)),(25,(.slice A17 x0.ops.length c18)),(26,(.int .i64 (x0.ops.length:Int))),(27,(.int .i64 (k47:Int))),(45,(.slice A71 a48.effs.length c72))]) _ (fun s101 x102 w'=>∃ O':Lab,Bs w A w' O'∧Vb w' (Fr 0 w' O') (.slice A17 x0.ops.length c18) x0.ops∧Vb w' (Fr 0 w' O') (.slice A71 a48.effs.length c72) a48.effs) _ () ⟨O95,hB,h16,h70⟩ ⟨rfl,rfl,rfl,rfl,rfl,rfl,rfl,trivial⟩ (fun _ _=>⟨rfl,rfl⟩) (fun _ _=>⟨rfl,rfl,rfl,rfl,trivial⟩) (fun _ _ _ ⟨O',hB,h16,h70⟩=>⟨O',hB,h16⟩) ⟨rfl,rfl,rfl⟩ ⟨rfl,rfl⟩ ?_)
   rintro k103 a104 s101 x102 w105 cc107 hx108 ⟨O106,hB,h16,h70⟩ hf109 hret110 hbrk111
   have rk103:inI64 (k103:Int):=rngK hx108 l98
   refine Ah (Ae ?_)
   obtain ⟨b114,o115,ce116,hA117,hl118,hd119,v121,rfl,h122,r125,r126⟩:=h70.elem' hx108
   obtain ⟨A123,c124,rfl⟩:=h122.form
   refine o_iaE (hA:=hA117) (hj:=rfl) (hlt:=hl118) rfl rfl rfl ?_
   refine o_la (hl:=rfl) (hc:=hd119) rfl rfl ?_
   refine AX 4 O106 rfl fun g127 w128 O129 S130 h131=>?_
   refine AK h131 rfl rfl rfl (Nat.le_of_ble_eq_true rfl) (by first|exact allOne rfl|simp [Value.cells,Value.oneCell',AI]) fun w132 S133 h131=>?_
   replace h131:Lc 4 w132 O129 g127 64 [(.slice A123 a104.cond.length c124),(.int .i64 a104.var),(.int .i64 a104.val)]:=h131
   refine o_z ?_
   refine Ae (o_mv rfl rfl (o_mv rfl rfl ?_))
   rcases Bool.eq_false_or_eq_true s101 with c134|c134
   ·
    try rw [c134]
    replace hf109:=ip hf109 c134
    refine AB rfl rfl rfl rfl (AB rfl rfl rfl rfl (AB rfl rfl rfl rfl (AB rfl rfl rfl rfl (o_pt rfl rfl rfl (o_as rfl rfl (o_z ?_))))))
    obtain rfl:=sm hf109
    refine (?_:Exists _)
    replace hB:=(hB.st S130).st S133
    replace h16:=(h16.st S130).st S133
    replace h70:=(h70.st S130).st S133
    exact ⟨_,(),rfl,⟨rfl,rfl,rfl,rfl,rfl,rfl,rfl,trivial⟩,_,hB,h16,h70⟩
   ·
    try rw [c134]
    replace hf109:=im' hf109 c134
    refine AC rfl rfl (o_fa rfl rfl (AC rfl rfl (o_ld (hc:=Blk.cell (i:=0) (h131.1) rfl) rfl rfl ?_)))
    refine AC rfl rfl (o_ln rfl rfl ?_)
    replace h122:=(h122.st S130).st S133
    have l136:a104.cond.length≤9223372036854775807:=Nat.le_trans h122.len.2.1 h122.len.2.2
    have r135:inI64 (a104.cond.length:Int):=rngNat l136
    refine AC rfl rfl (o_gtS rfl rfl rfl (fun c137=>?_) fun c137=>?_)
    ·
     replace hf109:=ip hf109 c137
     refine o_pf rfl rfl rfl (o_as rfl rfl (o_z ?_))
     obtain rfl:=sm hf109
     refine (?_:Exists _)
     replace hB:=(hB.st S130).st S133
     replace h16:=(h16.st S130).st S133
     replace h70:=(h70.st S130).st S133
     exact ⟨_,(),rfl,⟨rfl,rfl,rfl,rfl,rfl,rfl,rfl,trivial⟩,_,hB,h16,h70⟩
    ·
     replace hf109:=im hf109 c137
     refine o_pf rfl rfl rfl (o_as rfl rfl (o_z ?_))
     obtain rfl:=sm hf109
     refine (?_:Exists _)
     replace hB:=(hB.st S130).st S133
     replace h16:=(h16.st S130).st S133
     replace h70:=(h70.st S130).st S133
     exact ⟨_,(),rfl,⟨rfl,rfl,rfl,rfl,rfl,rfl,rfl,trivial⟩,_,hB,h16,h70⟩
  rintro l138 w139 ⟨s142,x143,rfl,hs141,O140,hB,h16⟩
  replace hf53:=AR hf53
  obtain rfl:=sm hf53
  refine (?_:Exists _)
  exact ⟨_,(),rfl,⟨(Bt hs141 _ _ rfl),(Bt hs141 _ _ rfl),(Bt hs141 _ _ rfl),(Bt hs141 _ _ rfl),trivial⟩,_,hB,h16⟩
 rintro l144 w145 ⟨s148,x149,rfl,hs147,O146,hB⟩
 replace hm:=AR hm
 refine AM _ hs147 ?_
 refine Ah (Ae (o_mv rfl rfl (o_as rfl rfl (o_z ?_))))
 refine At ?_
 obtain rfl:=sm hm
 exact ret1v rfl (AF rfl) ⟨hB.ext,vBool⟩
noncomputable def Dk (x0:Tsk):Option Bool :=
  bnd (rng (ρ:=Bool) (fun (k30:Nat) (a31:Int) (s28:Bool)=>if s28=true then (some (.next true)) else (if a31 < 1 then (some (.next true)) else (if 64 < a31 then (some (.next true)) else (some (.next false))))) x0.vars 0 false) fun res26=>fin res26 fun (s56:Bool)=>bnd (rng (ρ:=Bool) (fun (k64:Nat) (a65:Opr) (s62:Bool)=>if s62=true then (some (.next true)) else (if a65.cost < 0 then (some (.next true)) else (if 1048576 < a65.cost then (some (.next true)) else (some (.next false))))) x0.ops 0 s56) fun res60=>fin res60 fun (s106:Bool)=>some s106
theorem Il {w:World} {A:Nat→Prop} (hA:∀ k,A k→k < w.heap.size) {vx0:Value} {x0:Tsk} (hx0:Vb w A vx0 x0) {r:Bool} (hm:Dk x0=some r) :
    Fn Tryz.prog 46 [vx0] w fun v w'=>Ext w w'∧Vb w' (upA A w w') v r:=by
 obtain ⟨O,hB,hA0⟩:=enter hA
 replace hx0:=hx0.mono hA0
 obtain ⟨cs2,rfl,v3,v4,v5,v6,rfl,h7,h10,h13,h16⟩:=hx0
 obtain ⟨A8,c9,rfl⟩:=h7.form
 obtain ⟨A11,c12,rfl⟩:=h10.form
 obtain ⟨A14,c15,rfl⟩:=h13.form
 obtain ⟨A17,c18,rfl⟩:=h16.form
 refine AJ Tryz.func46 rfl Tryz.ntmps46 rfl ?_
 unfold Dk at hm
 refine Ah (Ae (l_box 2 O rfl rfl fun g19 w20 O21 S22 h23=>?_))
 replace h23:Lc 2 w20 O21 g19 26 [(.slice A8 x0.vars.length c9),(.slice A11 x0.init.length c12),(.slice A14 x0.goal.length c15),(.slice A17 x0.ops.length c18)]:=h23
 refine o_as rfl rfl (o_z ?_)
 refine Ah (Ae (o_as rfl rfl (o_z ?_)))
 refine Ah (Ah (Ae (o_fa rfl rfl (o_ld (hc:=Blk.cell (i:=0) (h23.1) rfl) rfl rfl ?_))))
 refine o_ln rfl rfl ?_
 replace h7:=h7.st S22
 have l25:x0.vars.length≤9223372036854775807:=Nat.le_trans h7.len.2.1 h7.len.2.2
 have r24:inI64 (x0.vars.length:Int):=rngNat l25
 refine o_mv rfl rfl (o_z ?_)
 obtain ⟨res26,hL27,hm⟩:=bs hm
 refine AL (aft res26 (fun (s28:Bool) (x29:Unit)=>[(1,(.pointer (some ⟨g19,0,none⟩))),(3,(.bool s28))]) (fun s28 x29 w'=>∃ O':Lab,Bs w A w' O'∧Lc 2 w' O' g19 26 [(.slice A8 x0.vars.length c9),(.slice A11 x0.init.length c12),(.slice A14 x0.goal.length c15),(.slice A17 x0.ops.length c18)]∧Vb w' (Fr 0 w' O') (.slice A8 x0.vars.length c9) x0.vars∧Vb w' (Fr 0 w' O') (.slice A11 x0.init.length c12) x0.init∧Vb w' (Fr 0 w' O') (.slice A14 x0.goal.length c15) x0.goal∧Vb w' (Fr 0 w' O') (.slice A17 x0.ops.length c18) x0.ops)) ?_ ?_
 ·
  refine Al ?_
  replace hB:=hB.st S22
  replace h10:=h10.st S22
  replace h13:=h13.st S22
  replace h16:=h16.st S22
  refine Bh (σ:=Bool) (X:=Unit) (x0.vars.length) hL27 rfl l25 (fun (s28:Bool) (x29:Unit)=>[(1,(.pointer (some ⟨g19,0,none⟩))),(3,(.bool s28)),(9,(.slice A8 x0.vars.length c9))]) _ (fun s28 x29 w'=>∃ O':Lab,Bs w A w' O'∧Lc 2 w' O' g19 26 [(.slice A8 x0.vars.length c9),(.slice A11 x0.init.length c12),(.slice A14 x0.goal.length c15),(.slice A17 x0.ops.length c18)]∧Vb w' (Fr 0 w' O') (.slice A8 x0.vars.length c9) x0.vars∧Vb w' (Fr 0 w' O') (.slice A11 x0.init.length c12) x0.init∧Vb w' (Fr 0 w' O') (.slice A14 x0.goal.length c15) x0.goal∧Vb w' (Fr 0 w' O') (.slice A17 x0.ops.length c18) x0.ops) _ () ⟨O21,hB,h23,h7,h10,h13,h16⟩ ⟨rfl,rfl,rfl,rfl,rfl,trivial⟩ (fun _ _=>⟨rfl,rfl⟩) (fun _ _=>⟨rfl,rfl,trivial⟩) (fun _ _ _ ⟨O',hB,h23,h7,h10,h13,h16⟩=>⟨O',hB,h23,h7,h10,h13,h16⟩) ⟨rfl,rfl,rfl⟩ ⟨rfl,rfl⟩ ?_
  rintro k30 a31 s28 x29 w32 cc34 hx35 ⟨O33,hB,h23,h7,h10,h13,h16⟩ hf36 hret37 hbrk38
  have rk30:inI64 (k30:Int):=rngK hx35 l25
  refine Ah (Ae ?_)
  obtain ⟨b41,o42,ce43,hA44,hl45,hd46,rfl,r48⟩:=h7.elem' hx35
  refine o_iaE (hA:=hA44) (hj:=rfl) (hlt:=hl45) rfl rfl rfl ?_
  refine o_ld (hc:=cat0 hd46) rfl rfl ?_
  refine o_as rfl rfl (o_z ?_)
  refine Ae (o_mv rfl rfl (o_mv rfl rfl ?_))
  rcases Bool.eq_false_or_eq_true s28 with c49|c49
  ·
   try rw [c49]
   replace hf36:=ip hf36 c49
   refine AB rfl rfl rfl rfl (AB rfl rfl rfl rfl (o_pt rfl rfl rfl (o_mv rfl rfl (AB rfl rfl rfl rfl (AB rfl rfl rfl rfl (o_pt rfl rfl rfl (o_as rfl rfl (o_z ?_))))))))
   obtain rfl:=sm hf36
   refine (?_:Exists _)
   exact ⟨_,(),rfl,⟨rfl,rfl,rfl,rfl,rfl,trivial⟩,_,hB,h23,h7,h10,h13,h16⟩
  ·
   try rw [c49]
   replace hf36:=im' hf36 c49
   refine AC rfl rfl (o_mv rfl rfl (AC rfl rfl (o_ltS rfl rfl rfl (fun c50=>?_) fun c50=>?_)))
   ·
    replace hf36:=ip hf36 c50
    refine o_pf rfl rfl rfl (o_mv rfl rfl (AB rfl rfl rfl rfl (AB rfl rfl rfl rfl (o_pt rfl rfl rfl (o_as rfl rfl (o_z ?_))))))
    obtain rfl:=sm hf36
    refine (?_:Exists _)
    exact ⟨_,(),rfl,⟨rfl,rfl,rfl,rfl,rfl,trivial⟩,_,hB,h23,h7,h10,h13,h16⟩
   ·
    replace hf36:=im hf36 c50
    refine o_pf rfl rfl rfl (o_mv rfl rfl (AC rfl rfl (o_mv rfl rfl (AC rfl rfl (o_gtS rfl rfl rfl (fun c51=>?_) fun c51=>?_)))))
    ·
     replace hf36:=ip hf36 c51
     refine o_pf rfl rfl rfl (o_as rfl rfl (o_z ?_))
     obtain rfl:=sm hf36
     refine (?_:Exists _)
     exact ⟨_,(),rfl,⟨rfl,rfl,rfl,rfl,rfl,trivial⟩,_,hB,h23,h7,h10,h13,h16⟩
    ·
     replace hf36:=im hf36 c51
     refine o_pf rfl rfl rfl (o_as rfl rfl (o_z ?_))
     obtain rfl:=sm hf36
     refine (?_:Exists _)
     exact ⟨_,(),rfl,⟨rfl,rfl,rfl,rfl,rfl,trivial⟩,_,hB,h23,h7,h10,h13,h16⟩
 replace hB:=hB.st S22
 replace h10:=h10.st S22
 replace h13:=h13.st S22
 replace h16:=h16.st S22
 rintro l52 w53 ⟨s56,x57,rfl,hs55,O54,hB,h23,h7,h10,h13,h16⟩
 replace hm:=AR hm
 refine AM _ hs55 ?_
 refine Ah (Ah (Ae (o_fa rfl rfl (o_ld (hc:=Blk.cell (i:=3) (h23.1) rfl) rfl rfl ?_))))
 refine o_ln rfl rfl ?_
 have l59:x0.ops.length≤9223372036854775807:=Nat.le_trans h16.len.2.1 h16.len.2.2
 have r58:inI64 (x0.ops.length:Int):=rngNat l59
 refine o_mv rfl rfl (o_z ?_)
 obtain ⟨res60,hL61,hm⟩:=bs hm
 refine AL (aft res60 (fun (s62:Bool) (x63:Unit)=>[(3,(.bool s62))]) (fun s62 x63 w'=>∃ O':Lab,Bs w A w' O')) ?_ ?_
 ·
  refine Al (Bh (σ:=Bool) (X:=Unit) (x0.ops.length) hL61 rfl l59 (fun (s62:Bool) (x63:Unit)=>[(3,(.bool s62)),(26,(.slice A17 x0.ops.length c18))]) _ (fun s62 x63 w'=>∃ O':Lab,Bs w A w' O'∧Vb w' (Fr 0 w' O') (.slice A17 x0.ops.length c18) x0.ops) _ () ⟨O54,hB,h16⟩ ⟨rfl,rfl,rfl,rfl,trivial⟩ (fun _ _=>⟨rfl,rfl⟩) (fun _ _=>⟨rfl,trivial⟩) (fun _ _ _ ⟨O',hB,h16⟩=>⟨O',hB⟩) ⟨rfl,rfl,rfl⟩ ⟨rfl,rfl⟩ ?_)
  rintro k64 a65 s62 x63 w66 cc68 hx69 ⟨O67,hB,h16⟩ hf70 hret71 hbrk72
  have rk64:inI64 (k64:Int):=rngK hx69 l59
  refine Ah (Ae ?_)
  obtain ⟨b75,o76,ce77,hA78,hl79,hd80,v82,v83,rfl,h84,h87,r90,z91⟩:=h16.elem' hx69
  obtain ⟨A85,c86,rfl⟩:=h84.form
  obtain ⟨A88,c89,rfl⟩:=h87.form
  refine o_iaE (hA:=hA78) (hj:=rfl) (hlt:=hl79) rfl rfl rfl ?_
  refine o_la (hl:=rfl) (hc:=hd80) rfl rfl ?_
  refine AX 3 O67 rfl fun g92 w93 O94 S95 h96=>?_
  refine AK h96 rfl rfl rfl (Nat.le_of_ble_eq_true rfl) (by first|exact allOne rfl|simp [Value.cells,Value.oneCell',AI]) fun w97 S98 h96=>?_
  replace h96:Lc 3 w97 O94 g92 67 [(.string a65.name),(.int .i64 a65.cost),(.slice A85 a65.pre.length c86),(.slice A88 a65.effs.length c89)]:=h96
  refine o_z ?_
  refine Ae (o_mv rfl rfl (o_mv rfl rfl ?_))
  rcases Bool.eq_false_or_eq_true s62 with c99|c99
  ·
   try rw [c99]
   replace hf70:=ip hf70 c99
   refine AB rfl rfl rfl rfl (AB rfl rfl rfl rfl (AB rfl rfl rfl rfl (o_pt rfl rfl rfl (o_mv rfl rfl (AB rfl rfl rfl rfl (AB rfl rfl rfl rfl (AB rfl rfl rfl rfl (o_pt rfl rfl rfl (o_as rfl rfl (o_z ?_))))))))))
   obtain rfl:=sm hf70
   refine (?_:Exists _)
   replace hB:=(hB.st S95).st S98
   replace h16:=(h16.st S95).st S98
   exact ⟨_,(),rfl,⟨rfl,rfl,rfl,rfl,trivial⟩,_,hB,h16⟩
  ·
   try rw [c99]
   replace hf70:=im' hf70 c99
   refine AC rfl rfl (o_fa rfl rfl (AC rfl rfl (o_ld (hc:=Blk.cell (i:=1) (h96.1) rfl) rfl rfl ?_)))
   refine AC rfl rfl (o_ltS rfl rfl rfl (fun c100=>?_) fun c100=>?_)
   ·
    replace hf70:=ip hf70 c100
    refine o_pf rfl rfl rfl (o_mv rfl rfl (AB rfl rfl rfl rfl (AB rfl rfl rfl rfl (AB rfl rfl rfl rfl (o_pt rfl rfl rfl (o_as rfl rfl (o_z ?_)))))))
    obtain rfl:=sm hf70
    refine (?_:Exists _)
    replace hB:=(hB.st S95).st S98
    replace h16:=(h16.st S95).st S98
    exact ⟨_,(),rfl,⟨rfl,rfl,rfl,rfl,trivial⟩,_,hB,h16⟩
   ·
    replace hf70:=im hf70 c100
    refine o_pf rfl rfl rfl (o_mv rfl rfl (AC rfl rfl (o_fa rfl rfl (AC rfl rfl (o_ld (hc:=Blk.cell (i:=1) (h96.1) rfl) rfl rfl ?_)))))
    refine AC rfl rfl (o_gtS rfl rfl rfl (fun c101=>?_) fun c101=>?_)
    ·
     replace hf70:=ip hf70 c101
     refine o_pf rfl rfl rfl (o_as rfl rfl (o_z ?_))
     obtain rfl:=sm hf70
     refine (?_:Exists _)
     replace hB:=(hB.st S95).st S98
     replace h16:=(h16.st S95).st S98
     exact ⟨_,(),rfl,⟨rfl,rfl,rfl,rfl,trivial⟩,_,hB,h16⟩
    ·
     replace hf70:=im hf70 c101
     refine o_pf rfl rfl rfl (o_as rfl rfl (o_z ?_))
     obtain rfl:=sm hf70
     refine (?_:Exists _)
     replace hB:=(hB.st S95).st S98
     replace h16:=(h16.st S95).st S98
     exact ⟨_,(),rfl,⟨rfl,rfl,rfl,rfl,trivial⟩,_,hB,h16⟩
 rintro l102 w103 ⟨s106,x107,rfl,hs105,O104,hB⟩
 replace hm:=AR hm
 refine AM _ hs105 ?_
 refine Ah (Ae (o_mv rfl rfl (o_as rfl rfl (o_z ?_))))
 refine At ?_
 obtain rfl:=sm hm
 exact ret1v rfl (AF rfl) ⟨hB.ext,vBool⟩
noncomputable def CL (x0:Tsk):Option Bool :=
  bnd (bnd (FA x0.vars x0.init) fun q28=>if q28=true then bnd (Dd x0.vars x0.goal) fun q35=>if q35=true then some false else some true else some true:Option Bool) fun y24=>bnd (rng (ρ:=Bool) (fun (k52:Nat) (a53:Opr) (s50:Bool)=>bnd (if s50=true then (some true) else (bnd (Dd x0.vars a53.pre) fun q92=>if q92=true then some false else some true):Option Bool) fun y87=>bnd (rng (ρ:=Ctl Bool Bool) (fun (k109:Nat) (a110:Eff) (s107:Bool)=>if s107=true then (some (.next true)) else (bnd (Dd x0.vars a110.cond) fun q141=>if q141=true then bnd (Dd x0.vars [(⟨a110.var,a110.val⟩:Fct)]) fun q154=>if q154=true then some (.next false) else some (.next true) else some (.next true))) a53.effs 0 y87) fun res105=>fin res105 fun (s165:Bool)=>some (.next s165)) x0.ops 0 y24) fun res48=>fin res48 fun (s171:Bool)=>some s171
theorem Hx {w:World} {A:Nat→Prop} (hA:∀ k,A k→k < w.heap.size) {vx0:Value} {x0:Tsk} (hx0:Vb w A vx0 x0) {r:Bool} (hm:CL x0=some r) :
    Fn Tryz.prog 47 [vx0] w fun v w'=>Ext w w'∧Vb w' (upA A w w') v r:=by
 obtain ⟨O,hB,hA0⟩:=enter hA
 replace hx0:=hx0.mono hA0
 obtain ⟨cs2,rfl,v3,v4,v5,v6,rfl,h7,h10,h13,h16⟩:=hx0
 obtain ⟨A8,c9,rfl⟩:=h7.form
 obtain ⟨A11,c12,rfl⟩:=h10.form
 obtain ⟨A14,c15,rfl⟩:=h13.form
 obtain ⟨A17,c18,rfl⟩:=h16.form
 refine AJ Tryz.func47 rfl Tryz.ntmps47 rfl ?_
 unfold CL at hm
 refine Ah (Ae (l_box 2 O rfl rfl fun g19 w20 O21 S22 h23=>?_))
 replace h23:Lc 2 w20 O21 g19 26 [(.slice A8 x0.vars.length c9),(.slice A11 x0.init.length c12),(.slice A14 x0.goal.length c15),(.slice A17 x0.ops.length c18)]:=h23
 refine o_as rfl rfl (o_z ?_)
 refine Ah ?_
 obtain ⟨y24,hy25,hm⟩:=bs hm
 refine AL (fun l' w'=>∃ (x27:Unit) (O':Lab),subs l' [(1,(.pointer (some ⟨g19,0,none⟩))),(3,(.bool y24))]∧Bs w A w' O'∧Lc 2 w' O' g19 26 [(.slice A8 x0.vars.length c9),(.slice A11 x0.init.length c12),(.slice A14 x0.goal.length c15),(.slice A17 x0.ops.length c18)]∧Vb w' (Fr 0 w' O') (.slice A8 x0.vars.length c9) x0.vars∧Vb w' (Fr 0 w' O') (.slice A11 x0.init.length c12) x0.init∧Vb w' (Fr 0 w' O') (.slice A14 x0.goal.length c15) x0.goal∧Vb w' (Fr 0 w' O') (.slice A17 x0.ops.length c18) x0.ops) ?_ ?_
 ·
  refine Ae (o_fa rfl rfl (o_ld (hc:=Blk.cell (i:=0) (h23.1) rfl) rfl rfl ?_))
  refine o_fa rfl rfl (o_ld (hc:=Blk.cell (i:=1) (h23.1) rfl) rfl rfl ?_)
  obtain ⟨q28,e29,hy25⟩:=bs hy25
  replace h7:=h7.st S22
  replace h10:=h10.st S22
  refine Bg (O:=O21) (A:=All w20) (R:=fun w' F v=>Vb w' F v q28) (Ju (fun _ h=>h) (Vb.mono (F:=Fr 0 w20 O21) h7 Fr.lt) (Vb.mono (F:=Fr 0 w20 O21) h10 Fr.lt) e29) rfl rfl fun v34 w30 O31 S32 h33=>?_
  obtain rfl:=h33.bool
  cases q28
  case false =>
   replace hy25:=iF hy25
   refine o_nf rfl rfl (o_mv rfl rfl (AB rfl rfl rfl rfl (AB rfl rfl rfl rfl (AB rfl rfl rfl rfl (AB rfl rfl rfl rfl (AB rfl rfl rfl rfl (AB rfl rfl rfl rfl (o_pt rfl rfl rfl (o_as rfl rfl (o_z ?_))))))))))
   obtain rfl:=sm hy25
   replace hB:=(hB.st S22).st S32
   replace h7:=h7.st S32
   replace h10:=h10.st S32
   replace h13:=(h13.st S22).st S32
   replace h16:=(h16.st S22).st S32
   replace h23:=h23.st S32
   exact ⟨(),_,⟨rfl,rfl,trivial⟩,hB,h23,h7,h10,h13,h16⟩
  replace hy25:=iT hy25
  refine o_nt rfl rfl (o_mv rfl rfl (AC rfl rfl (o_fa rfl rfl (AC rfl rfl ?_))))
  replace h23:=h23.st S32
  refine o_ld (hc:=Blk.cell (i:=0) (h23.1) rfl) rfl rfl ?_
  refine AC rfl rfl (o_fa rfl rfl (AC rfl rfl (o_ld (hc:=Blk.cell (i:=2) (h23.1) rfl) rfl rfl ?_)))
  refine AC rfl rfl ?_
  obtain ⟨q35,e36,hy25⟩:=bs hy25
  replace h7:=h7.st S32
  replace h13:=(h13.st S22).st S32
  refine Bg (O:=O31) (A:=All w30) (R:=fun w' F v=>Vb w' F v q35) (Ep (fun _ h=>h) (Vb.mono (F:=Fr 0 w30 O31) h7 Fr.lt) (Vb.mono (F:=Fr 0 w30 O31) h13 Fr.lt) e36) rfl rfl fun v41 w37 O38 S39 h40=>?_
  obtain rfl:=h40.bool
  cases q35
  case false =>
   replace hy25:=iF hy25
   refine AC rfl rfl (o_nf rfl rfl (o_pf rfl rfl rfl (o_as rfl rfl (o_z ?_))))
   obtain rfl:=sm hy25
   replace hB:=((hB.st S22).st S32).st S39
   replace h7:=h7.st S39
   replace h10:=(h10.st S32).st S39
   replace h13:=h13.st S39
   replace h16:=((h16.st S22).st S32).st S39
   replace h23:=h23.st S39
   exact ⟨(),_,⟨rfl,rfl,trivial⟩,hB,h23,h7,h10,h13,h16⟩
  replace hy25:=iT hy25
  refine AC rfl rfl (o_nt rfl rfl (o_pf rfl rfl rfl (o_as rfl rfl (o_z ?_))))
  obtain rfl:=sm hy25
  replace hB:=((hB.st S22).st S32).st S39
  replace h7:=h7.st S39
  replace h10:=(h10.st S32).st S39
  replace h13:=h13.st S39
  replace h16:=((h16.st S22).st S32).st S39
  replace h23:=h23.st S39
  exact ⟨(),_,⟨rfl,rfl,trivial⟩,hB,h23,h7,h10,h13,h16⟩
 replace hB:=hB.st S22
 replace h7:=h7.st S22
 replace h10:=h10.st S22
 replace h13:=h13.st S22
 replace h16:=h16.st S22
 rintro l42 w43 ⟨x27,O44,hs45,hB,h23,h7,h10,h13,h16⟩
 refine AM _ hs45 ?_
 refine Ah (Ah (Ae (o_fa rfl rfl (o_ld (hc:=Blk.cell (i:=3) (h23.1) rfl) rfl rfl ?_))))
 refine o_ln rfl rfl ?_
 have l47:x0.ops.length≤9223372036854775807:=Nat.le_trans h16.len.2.1 h16.len.2.2
 have r46:inI64 (x0.ops.length:Int):=rngNat l47
 refine o_mv rfl rfl (o_z ?_)
 obtain ⟨res48,hL49,hm⟩:=bs hm
 refine AL (aft res48 (fun (s50:Bool) (x51:Unit)=>[(3,(.bool s50))]) (fun s50 x51 w'=>∃ O':Lab,Bs w A w' O')) ?_ ?_
 ·
  refine Al (Bh (σ:=Bool) (X:=Unit) (x0.ops.length) hL49 rfl l47 (fun (s50:Bool) (x51:Unit)=>[(1,(.pointer (some ⟨g19,0,none⟩))),(3,(.bool s50)),(23,(.slice A17 x0.ops.length c18))]) _ (fun s50 x51 w'=>∃ O':Lab,Bs w A w' O'∧Lc 2 w' O' g19 26 [(.slice A8 x0.vars.length c9),(.slice A11 x0.init.length c12),(.slice A14 x0.goal.length c15),(.slice A17 x0.ops.length c18)]∧Vb w' (Fr 0 w' O') (.slice A8 x0.vars.length c9) x0.vars∧Vb w' (Fr 0 w' O') (.slice A11 x0.init.length c12) x0.init∧Vb w' (Fr 0 w' O') (.slice A14 x0.goal.length c15) x0.goal∧Vb w' (Fr 0 w' O') (.slice A17 x0.ops.length c18) x0.ops) _ () ⟨O44,hB,h23,h7,h10,h13,h16⟩ ⟨rfl,rfl,rfl,rfl,rfl,trivial⟩ (fun _ _=>⟨rfl,rfl⟩) (fun _ _=>⟨rfl,trivial⟩) (fun _ _ _ ⟨O',hB,h23,h7,h10,h13,h16⟩=>⟨O',hB⟩) ⟨rfl,rfl,rfl⟩ ⟨rfl,rfl⟩ ?_)
  rintro k52 a53 s50 x51 w54 cc56 hx57 ⟨O55,hB,h23,h7,h10,h13,h16⟩ hf58 hret59 hbrk60
  have rk52:inI64 (k52:Int):=rngK hx57 l47
  refine Ah (Ae ?_)
  obtain ⟨b63,o64,ce65,hA66,hl67,hd68,v70,v71,rfl,h72,h75,r78,z79⟩:=h16.elem' hx57
  obtain ⟨A73,c74,rfl⟩:=h72.form
  obtain ⟨A76,c77,rfl⟩:=h75.form
  refine o_iaE (hA:=hA66) (hj:=rfl) (hlt:=hl67) rfl rfl rfl ?_
  refine o_la (hl:=rfl) (hc:=hd68) rfl rfl ?_
  refine AX 3 O55 rfl fun g80 w81 O82 S83 h84=>?_
  refine AK h84 rfl rfl rfl (Nat.le_of_ble_eq_true rfl) (by first|exact allOne rfl|simp [Value.cells,Value.oneCell',AI]) fun w85 S86 h84=>?_
  replace h84:Lc 3 w85 O82 g80 67 [(.string a53.name),(.int .i64 a53.cost),(.slice A73 a53.pre.length c74),(.slice A76 a53.effs.length c77)]:=h84
  refine o_z ?_
  refine Ah ?_
  obtain ⟨y87,hy88,hf58⟩:=bs hf58
  refine AL (fun l' w'=>∃ (x90:Unit) (O':Lab),subs l' [(1,(.pointer (some ⟨g19,0,none⟩))),(3,(.bool y87)),(5,(.pointer (some ⟨g80,0,none⟩))),(23,(.slice A17 x0.ops.length c18)),(24,(.int .i64 (x0.ops.length:Int))),(25,(.int .i64 (k52:Int)))]∧Bs w A w' O'∧Lc 2 w' O' g19 26 [(.slice A8 x0.vars.length c9),(.slice A11 x0.init.length c12),(.slice A14 x0.goal.length c15),(.slice A17 x0.ops.length c18)]∧Vb w' (Fr 0 w' O') (.slice A8 x0.vars.length c9) x0.vars∧Vb w' (Fr 0 w' O') (.slice A11 x0.init.length c12) x0.init∧Vb w' (Fr 0 w' O') (.slice A14 x0.goal.length c15) x0.goal∧Vb w' (Fr 0 w' O') (.slice A17 x0.ops.length c18) x0.ops∧Lc 3 w' O' g80 67 [(.string a53.name),(.int .i64 a53.cost),(.slice A73 a53.pre.length c74),(.slice A76 a53.effs.length c77)]∧Vb w' (Fr 0 w' O') (.slice A73 a53.pre.length c74) a53.pre∧Vb w' (Fr 0 w' O') (.slice A76 a53.effs.length c77) a53.effs) ?_ ?_
  ·
   refine Ae (o_mv rfl rfl (o_mv rfl rfl ?_))
   rcases Bool.eq_false_or_eq_true s50 with c91|c91
   ·
    try rw [c91]
    replace hy88:=ip hy88 c91
    refine AB rfl rfl rfl rfl (AB rfl rfl rfl rfl (AB rfl rfl rfl rfl (AB rfl rfl rfl rfl (AB rfl rfl rfl rfl (AB rfl rfl rfl rfl (o_pt rfl rfl rfl (o_as rfl rfl (o_z ?_))))))))
    obtain rfl:=sm hy88
    replace hB:=(hB.st S83).st S86
    replace h7:=(h7.st S83).st S86
    replace h10:=(h10.st S83).st S86
    replace h13:=(h13.st S83).st S86
    replace h16:=(h16.st S83).st S86
    replace h23:=(h23.st S83).st S86
    replace h72:=(h72.st S83).st S86
    replace h75:=(h75.st S83).st S86
    exact ⟨(),_,⟨rfl,rfl,rfl,rfl,rfl,rfl,trivial⟩,hB,h23,h7,h10,h13,h16,h84,h72,h75⟩
   ·
    try rw [c91]
    replace hy88:=im' hy88 c91
    refine AC rfl rfl (o_fa rfl rfl (AC rfl rfl ?_))
    replace h23:=(h23.st S83).st S86
    refine o_ld (hc:=Blk.cell (i:=0) (h23.1) rfl) rfl rfl ?_
    refine AC rfl rfl (o_fa rfl rfl (AC rfl rfl (o_ld (hc:=Blk.cell (i:=2) (h84.1) rfl) rfl rfl ?_)))
    refine AC rfl rfl ?_
    obtain ⟨q92,e93,hy88⟩:=bs hy88
    replace h7:=(h7.st S83).st S86
    replace h72:=(h72.st S83).st S86
    refine Bg (O:=O82) (A:=All w85) (R:=fun w' F v=>Vb w' F v q92) (Ep (fun _ h=>h) (Vb.mono (F:=Fr 0 w85 O82) h7 Fr.lt) (Vb.mono (F:=Fr 0 w85 O82) h72 Fr.lt) e93) rfl rfl fun v98 w94 O95 S96 h97=>?_
    obtain rfl:=h97.bool
    cases q92
    case false =>
     replace hy88:=iF hy88
     refine AC rfl rfl (o_nf rfl rfl (o_pf rfl rfl rfl (o_as rfl rfl (o_z ?_))))
     obtain rfl:=sm hy88
     replace hB:=((hB.st S83).st S86).st S96
     replace h7:=h7.st S96
     replace h10:=((h10.st S83).st S86).st S96
     replace h13:=((h13.st S83).st S86).st S96
     replace h16:=((h16.st S83).st S86).st S96
     replace h23:=h23.st S96
     replace h72:=h72.st S96
     replace h75:=((h75.st S83).st S86).st S96
     replace h84:=h84.st S96
     exact ⟨(),_,⟨rfl,rfl,rfl,rfl,rfl,rfl,trivial⟩,hB,h23,h7,h10,h13,h16,h84,h72,h75⟩
    replace hy88:=iT hy88
    refine AC rfl rfl (o_nt rfl rfl (o_pf rfl rfl rfl (o_as rfl rfl (o_z ?_))))
    obtain rfl:=sm hy88
    replace hB:=((hB.st S83).st S86).st S96
    replace h7:=h7.st S96
    replace h10:=((h10.st S83).st S86).st S96
    replace h13:=((h13.st S83).st S86).st S96
    replace h16:=((h16.st S83).st S86).st S96
    replace h23:=h23.st S96
    replace h72:=h72.st S96
    replace h75:=((h75.st S83).st S86).st S96
    replace h84:=h84.st S96
    exact ⟨(),_,⟨rfl,rfl,rfl,rfl,rfl,rfl,trivial⟩,hB,h23,h7,h10,h13,h16,h84,h72,h75⟩
  replace hB:=(hB.st S83).st S86
  replace h7:=(h7.st S83).st S86
  replace h10:=(h10.st S83).st S86
  replace h13:=(h13.st S83).st S86
  replace h16:=(h16.st S83).st S86
  replace h23:=(h23.st S83).st S86
  replace h72:=(h72.st S83).st S86
  replace h75:=(h75.st S83).st S86
  rintro l99 w100 ⟨x90,O101,hs102,hB,h23,h7,h10,h13,h16,h84,h72,h75⟩
  refine AM _ hs102 ?_
  refine Ah (Ae (o_fa rfl rfl (o_ld (hc:=Blk.cell (i:=3) (h84.1) rfl) rfl rfl ?_)))
  refine o_ln rfl rfl ?_
  have l104:a53.effs.length≤9223372036854775807:=Nat.le_trans h75.len.2.1 h75.len.2.2
  have r103:inI64 (a53.effs.length:Int):=rngNat l104
  refine o_mv rfl rfl (o_z ?_)
  obtain ⟨res105,hL106,hf58⟩:=bs hf58
  refine AL (aft res105 (fun (s107:Bool) (x108:Unit)=>[(1,(.pointer (some ⟨g19,0,none⟩))),(3,(.bool s107)),(23,(.slice A17 x0.ops.length c18)),(24,(.int .i64 (x0.ops.length:Int))),(25,(.int .i64 (k52:Int)))]) (fun s107 x108 w'=>∃ O':Lab,Bs w A w' O'∧Lc 2 w' O' g19 26 [(.slice A8 x0.vars.length c9),(.slice A11 x0.init.length c12),(.slice A14 x0.goal.length c15),(.slice A17 x0.ops.length c18)]∧Vb w' (Fr 0 w' O') (.slice A8 x0.vars.length c9) x0.vars∧Vb w' (Fr 0 w' O') (.slice A11 x0.init.length c12) x0.init∧Vb w' (Fr 0 w' O') (.slice A14 x0.goal.length c15) x0.goal∧Vb w' (Fr 0 w' O') (.slice A17 x0.ops.length c18) x0.ops)) ?_ ?_
  ·
   refine Al (Bh (σ:=Bool) (X:=Unit) (a53.effs.length) hL106 rfl l104 (fun (s107:Bool) (x108:Unit)=>[(1,(.pointer (some ⟨g19,0,none⟩))),(3,(.bool s107)),(23,(.slice A17 x0.ops.length c18)),(24,(.int .i64 (x0.ops.length:Int))),(25,(.int .i64 (k52:Int))),(39,(.slice A76 a53.effs.length c77))]) _ (fun s107 x108 w'=>∃ O':Lab,Bs w A w' O'∧Lc 2 w' O' g19 26 [(.slice A8 x0.vars.length c9),(.slice A11 x0.init.length c12),(.slice A14 x0.goal.length c15),(.slice A17 x0.ops.length c18)]∧Vb w' (Fr 0 w' O') (.slice A8 x0.vars.length c9) x0.vars∧Vb w' (Fr 0 w' O') (.slice A11 x0.init.length c12) x0.init∧Vb w' (Fr 0 w' O') (.slice A14 x0.goal.length c15) x0.goal∧Vb w' (Fr 0 w' O') (.slice A17 x0.ops.length c18) x0.ops∧Vb w' (Fr 0 w' O') (.slice A76 a53.effs.length c77) a53.effs) _ () ⟨O101,hB,h23,h7,h10,h13,h16,h75⟩ ⟨rfl,rfl,rfl,rfl,rfl,rfl,rfl,rfl,trivial⟩ (fun _ _=>⟨rfl,rfl⟩) (fun _ _=>⟨rfl,rfl,rfl,rfl,rfl,trivial⟩) (fun _ _ _ ⟨O',hB,h23,h7,h10,h13,h16,h75⟩=>⟨O',hB,h23,h7,h10,h13,h16⟩) ⟨rfl,rfl,rfl⟩ ⟨rfl,rfl⟩ ?_)
   rintro k109 a110 s107 x108 w111 cc113 hx114 ⟨O112,hB,h23,h7,h10,h13,h16,h75⟩ hf115 hret116 hbrk117
   have rk109:inI64 (k109:Int):=rngK hx114 l104
   refine Ah (Ae ?_)
   obtain ⟨b120,o121,ce122,hA123,hl124,hd125,v127,rfl,h128,r131,r132⟩:=h75.elem' hx114
   obtain ⟨A129,c130,rfl⟩:=h128.form
   refine o_iaE (hA:=hA123) (hj:=rfl) (hlt:=hl124) rfl rfl rfl ?_
   refine o_la (hl:=rfl) (hc:=hd125) rfl rfl ?_
   refine AX 4 O112 rfl fun g133 w134 O135 S136 h137=>?_
   refine AK h137 rfl rfl rfl (Nat.le_of_ble_eq_true rfl) (by first|exact allOne rfl|simp [Value.cells,Value.oneCell',AI]) fun w138 S139 h137=>?_
   replace h137:Lc 4 w138 O135 g133 64 [(.slice A129 a110.cond.length c130),(.int .i64 a110.var),(.int .i64 a110.val)]:=h137
   refine o_z ?_
   refine Ae (o_mv rfl rfl (o_mv rfl rfl ?_))
   rcases Bool.eq_false_or_eq_true s107 with c140|c140
   ·
    try rw [c140]
    replace hf115:=ip hf115 c140
    refine AB rfl rfl rfl rfl (AB rfl rfl rfl rfl (AB rfl rfl rfl rfl (AB rfl rfl rfl rfl (AB rfl rfl rfl rfl (AB rfl rfl rfl rfl (o_pt rfl rfl rfl (o_mv rfl rfl (AB rfl rfl rfl rfl (AB rfl rfl rfl rfl (AB rfl rfl rfl rfl (AB rfl rfl rfl rfl (AB rfl rfl rfl rfl (AB rfl rfl rfl rfl (AB rfl rfl rfl rfl ?_))))))))))))))
    refine AB rfl rfl rfl rfl (AB rfl rfl rfl rfl (AB rfl rfl rfl rfl (o_pt rfl rfl rfl (o_as rfl rfl (o_z ?_)))))
    obtain rfl:=sm hf115
    refine (?_:Exists _)
    replace hB:=(hB.st S136).st S139
    replace h7:=(h7.st S136).st S139
    replace h10:=(h10.st S136).st S139
    replace h13:=(h13.st S136).st S139
    replace h16:=(h16.st S136).st S139
    replace h23:=(h23.st S136).st S139
    replace h75:=(h75.st S136).st S139
    exact ⟨_,(),rfl,⟨rfl,rfl,rfl,rfl,rfl,rfl,rfl,rfl,trivial⟩,_,hB,h23,h7,h10,h13,h16,h75⟩
   ·
    try rw [c140]
    replace hf115:=im' hf115 c140
    refine AC rfl rfl (o_fa rfl rfl (AC rfl rfl ?_))
    replace h23:=(h23.st S136).st S139
    refine o_ld (hc:=Blk.cell (i:=0) (h23.1) rfl) rfl rfl ?_
    refine AC rfl rfl (o_fa rfl rfl (AC rfl rfl (o_ld (hc:=Blk.cell (i:=0) (h137.1) rfl) rfl rfl ?_)))
    refine AC rfl rfl ?_
    obtain ⟨q141,e142,hf115⟩:=bs hf115
    replace h7:=(h7.st S136).st S139
    replace h128:=(h128.st S136).st S139
    refine Bg (O:=O135) (A:=All w138) (R:=fun w' F v=>Vb w' F v q141) (Ep (fun _ h=>h) (Vb.mono (F:=Fr 0 w138 O135) h7 Fr.lt) (Vb.mono (F:=Fr 0 w138 O135) h128 Fr.lt) e142) rfl rfl fun v147 w143 O144 S145 h146=>?_
    obtain rfl:=h146.bool
    cases q141
    case false =>
     replace hf115:=iF hf115
     refine AC rfl rfl (o_nf rfl rfl (o_pf rfl rfl rfl (o_mv rfl rfl (AB rfl rfl rfl rfl (AB rfl rfl rfl rfl (AB rfl rfl rfl rfl (AB rfl rfl rfl rfl (AB rfl rfl rfl rfl (AB rfl rfl rfl rfl (AB rfl rfl rfl rfl (AB rfl rfl rfl rfl (AB rfl rfl rfl rfl (AB rfl rfl rfl rfl (o_pt rfl rfl rfl ?_))))))))))))))
     refine o_as rfl rfl (o_z ?_)
     obtain rfl:=sm hf115
     refine (?_:Exists _)
     replace hB:=((hB.st S136).st S139).st S145
     replace h7:=h7.st S145
     replace h10:=((h10.st S136).st S139).st S145
     replace h13:=((h13.st S136).st S139).st S145
     replace h16:=((h16.st S136).st S139).st S145
     replace h23:=h23.st S145
     replace h75:=((h75.st S136).st S139).st S145
     exact ⟨_,(),rfl,⟨rfl,rfl,rfl,rfl,rfl,rfl,rfl,rfl,trivial⟩,_,hB,h23,h7,h10,h13,h16,h75⟩
    replace hf115:=iT hf115
    refine AC rfl rfl (o_nt rfl rfl (o_pf rfl rfl rfl (o_mv rfl rfl (AC rfl rfl (o_fa rfl rfl (AC rfl rfl ?_))))))
    replace h23:=h23.st S145
    refine o_ld (hc:=Blk.cell (i:=0) (h23.1) rfl) rfl rfl ?_
    refine AC rfl rfl (o_fa rfl rfl (AC rfl rfl ?_))
    replace h137:=h137.st S145
    refine o_ld (hc:=Blk.cell (i:=1) (h137.1) rfl) rfl rfl ?_
    refine AC rfl rfl (o_fa rfl rfl (AC rfl rfl (o_ld (hc:=Blk.cell (i:=2) (h137.1) rfl) rfl rfl ?_)))
    refine AC rfl rfl (o_bd rfl rfl rfl ?_)
    refine AC rfl rfl (Bd 5 (by decide) O144 (xs:=([(⟨a110.var,a110.val⟩:Fct)]:List Fct)) rfl rfl rfl rfl ⟨(Vb.ofAgg (cs:=[(.int .i64 a110.var),(.int .i64 a110.val)]) (x:=(⟨a110.var,a110.val⟩:Fct)) rfl ⟨rfl,r131,r132⟩),trivial⟩ (by decide) (by decide) rfl fun g148 w149 O150 S151 h152=>?_)
    refine AC rfl rfl ?_
    obtain ⟨q154,e155,hf115⟩:=bs hf115
    replace h7:=(h7.st S145).st S151
    refine Bg (O:=O150) (A:=All w149) (R:=fun w' F v=>Vb w' F v q154) (Ep (fun _ h=>h) (Vb.mono (F:=Fr 0 w149 O150) h7 Fr.lt) (h152).all e155) rfl rfl fun v160 w156 O157 S158 h159=>?_
    obtain rfl:=h159.bool
    cases q154
    case false =>
     replace hf115:=iF hf115
     refine AC rfl rfl (o_nf rfl rfl (o_pf rfl rfl rfl (o_as rfl rfl (o_z ?_))))
     obtain rfl:=sm hf115
     refine (?_:Exists _)
     replace hB:=((((hB.st S136).st S139).st S145).st S151).st S158
     replace h7:=h7.st S158
     replace h10:=((((h10.st S136).st S139).st S145).st S151).st S158
     replace h13:=((((h13.st S136).st S139).st S145).st S151).st S158
     replace h16:=((((h16.st S136).st S139).st S145).st S151).st S158
     replace h23:=(h23.st S151).st S158
     replace h75:=((((h75.st S136).st S139).st S145).st S151).st S158
     exact ⟨_,(),rfl,⟨rfl,rfl,rfl,rfl,rfl,rfl,rfl,rfl,trivial⟩,_,hB,h23,h7,h10,h13,h16,h75⟩
    replace hf115:=iT hf115
    refine AC rfl rfl (o_nt rfl rfl (o_pf rfl rfl rfl (o_as rfl rfl (o_z ?_))))
    obtain rfl:=sm hf115
    refine (?_:Exists _)
    replace hB:=((((hB.st S136).st S139).st S145).st S151).st S158
    replace h7:=h7.st S158
    replace h10:=((((h10.st S136).st S139).st S145).st S151).st S158
    replace h13:=((((h13.st S136).st S139).st S145).st S151).st S158
    replace h16:=((((h16.st S136).st S139).st S145).st S151).st S158
    replace h23:=(h23.st S151).st S158
    replace h75:=((((h75.st S136).st S139).st S145).st S151).st S158
    exact ⟨_,(),rfl,⟨rfl,rfl,rfl,rfl,rfl,rfl,rfl,rfl,trivial⟩,_,hB,h23,h7,h10,h13,h16,h75⟩
  rintro l161 w162 ⟨s165,x166,rfl,hs164,O163,hB,h23,h7,h10,h13,h16⟩
  replace hf58:=AR hf58
  obtain rfl:=sm hf58
  refine (?_:Exists _)
  exact ⟨_,(),rfl,⟨(Bt hs164 _ _ rfl),(Bt hs164 _ _ rfl),(Bt hs164 _ _ rfl),(Bt hs164 _ _ rfl),(Bt hs164 _ _ rfl),trivial⟩,_,hB,h23,h7,h10,h13,h16⟩
 rintro l167 w168 ⟨s171,x172,rfl,hs170,O169,hB⟩
 replace hm:=AR hm
 refine AM _ hs170 ?_
 refine Ah (Ae (o_mv rfl rfl (o_as rfl rfl (o_z ?_))))
 refine At ?_
 obtain rfl:=sm hm
 exact ret1v rfl (AF rfl) ⟨hB.ext,vBool⟩
noncomputable def CU (x0:Tsk):Option Bool :=
  bnd (rng (ρ:=Bool) (fun (k30:Nat) (a31:Opr) (s28:Bool)=>bnd (if s28=true then (some true) else (if 256 < (a31.name.size:Int) then (some true) else (some false)):Option Bool) fun y65=>bnd (rngN (ρ:=Ctl Bool Bool) (fun (k81:Nat) (s79:Bool)=>if s79=true then (some (.next true)) else (bnd (bytI a31.name (k81:Int)) fun n93=>if n93 < 32 then (some (.next true)) else (bnd (bytI a31.name (k81:Int)) fun n97=>if 126 < n97 then (some (.next true)) else (some (.next false))))) a31.name.size y65) fun res77=>fin res77 fun (s105:Bool)=>some (.next s105)) x0.ops 0 false) fun res26=>fin res26 fun (s111:Bool)=>some s111
theorem HO {w:World} {A:Nat→Prop} (hA:∀ k,A k→k < w.heap.size) {vx0:Value} {x0:Tsk} (hx0:Vb w A vx0 x0) {r:Bool} (hm:CU x0=some r) :
    Fn Tryz.prog 48 [vx0] w fun v w'=>Ext w w'∧Vb w' (upA A w w') v r:=by
 obtain ⟨O,hB,hA0⟩:=enter hA
 replace hx0:=hx0.mono hA0
 obtain ⟨cs2,rfl,v3,v4,v5,v6,rfl,h7,h10,h13,h16⟩:=hx0
 obtain ⟨A8,c9,rfl⟩:=h7.form
 obtain ⟨A11,c12,rfl⟩:=h10.form
 obtain ⟨A14,c15,rfl⟩:=h13.form
 obtain ⟨A17,c18,rfl⟩:=h16.form
 refine AJ Tryz.func48 rfl Tryz.ntmps48 rfl ?_
 unfold CU at hm
 refine Ah (Ae (l_box 2 O rfl rfl fun g19 w20 O21 S22 h23=>?_))
 replace h23:Lc 2 w20 O21 g19 26 [(.slice A8 x0.vars.length c9),(.slice A11 x0.init.length c12),(.slice A14 x0.goal.length c15),(.slice A17 x0.ops.length c18)]:=h23
 refine o_as rfl rfl (o_z ?_)
 refine Ah (Ae (o_as rfl rfl (o_z ?_)))
 refine Ah (Ah (Ae (o_fa rfl rfl (o_ld (hc:=Blk.cell (i:=3) (h23.1) rfl) rfl rfl ?_))))
 refine o_ln rfl rfl ?_
 replace h16:=h16.st S22
 have l25:x0.ops.length≤9223372036854775807:=Nat.le_trans h16.len.2.1 h16.len.2.2
 have r24:inI64 (x0.ops.length:Int):=rngNat l25
 refine o_mv rfl rfl (o_z ?_)
 obtain ⟨res26,hL27,hm⟩:=bs hm
 refine AL (aft res26 (fun (s28:Bool) (x29:Unit)=>[(3,(.bool s28))]) (fun s28 x29 w'=>∃ O':Lab,Bs w A w' O')) ?_ ?_
 ·
  refine Al ?_
  replace hB:=hB.st S22
  refine Bh (σ:=Bool) (X:=Unit) (x0.ops.length) hL27 rfl l25 (fun (s28:Bool) (x29:Unit)=>[(3,(.bool s28)),(8,(.slice A17 x0.ops.length c18))]) _ (fun s28 x29 w'=>∃ O':Lab,Bs w A w' O'∧Vb w' (Fr 0 w' O') (.slice A17 x0.ops.length c18) x0.ops) _ () ⟨O21,hB,h16⟩ ⟨rfl,rfl,rfl,rfl,trivial⟩ (fun _ _=>⟨rfl,rfl⟩) (fun _ _=>⟨rfl,trivial⟩) (fun _ _ _ ⟨O',hB,h16⟩=>⟨O',hB⟩) ⟨rfl,rfl,rfl⟩ ⟨rfl,rfl⟩ ?_
  rintro k30 a31 s28 x29 w32 cc34 hx35 ⟨O33,hB,h16⟩ hf36 hret37 hbrk38
  have rk30:inI64 (k30:Int):=rngK hx35 l25
  refine Ah (Ae ?_)
  obtain ⟨b41,o42,ce43,hA44,hl45,hd46,v48,v49,rfl,h50,h53,r56,z57⟩:=h16.elem' hx35
  obtain ⟨A51,c52,rfl⟩:=h50.form
  obtain ⟨A54,c55,rfl⟩:=h53.form
  refine o_iaE (hA:=hA44) (hj:=rfl) (hlt:=hl45) rfl rfl rfl ?_
  refine o_la (hl:=rfl) (hc:=hd46) rfl rfl ?_
  refine AX 3 O33 rfl fun g58 w59 O60 S61 h62=>?_
  refine AK h62 rfl rfl rfl (Nat.le_of_ble_eq_true rfl) (by first|exact allOne rfl|simp [Value.cells,Value.oneCell',AI]) fun w63 S64 h62=>?_
  replace h62:Lc 3 w63 O60 g58 67 [(.string a31.name),(.int .i64 a31.cost),(.slice A51 a31.pre.length c52),(.slice A54 a31.effs.length c55)]:=h62
  refine o_z ?_
  refine Ah ?_
  obtain ⟨y65,hy66,hf36⟩:=bs hf36
  refine AL (fun l' w'=>∃ (x68:Unit) (O':Lab),subs l' [(3,(.bool y65)),(5,(.pointer (some ⟨g58,0,none⟩))),(8,(.slice A17 x0.ops.length c18)),(9,(.int .i64 (x0.ops.length:Int))),(10,(.int .i64 (k30:Int)))]∧Bs w A w' O'∧Lc 3 w' O' g58 67 [(.string a31.name),(.int .i64 a31.cost),(.slice A51 a31.pre.length c52),(.slice A54 a31.effs.length c55)]∧Vb w' (Fr 0 w' O') (.slice A51 a31.pre.length c52) a31.pre∧Vb w' (Fr 0 w' O') (.slice A54 a31.effs.length c55) a31.effs∧Vb w' (Fr 0 w' O') (.slice A17 x0.ops.length c18) x0.ops) ?_ ?_
  ·
   refine Ae (o_mv rfl rfl (o_mv rfl rfl ?_))
   rcases Bool.eq_false_or_eq_true s28 with c69|c69
   ·
    try rw [c69]
    replace hy66:=ip hy66 c69
    refine AB rfl rfl rfl rfl (AB rfl rfl rfl rfl (AB rfl rfl rfl rfl (AB rfl rfl rfl rfl (o_pt rfl rfl rfl (o_as rfl rfl (o_z ?_))))))
    obtain rfl:=sm hy66
    replace hB:=(hB.st S61).st S64
    replace h16:=(h16.st S61).st S64
    replace h50:=(h50.st S61).st S64
    replace h53:=(h53.st S61).st S64
    exact ⟨(),_,⟨rfl,rfl,rfl,rfl,rfl,trivial⟩,hB,h62,h50,h53,h16⟩
   ·
    try rw [c69]
    replace hy66:=im' hy66 c69
    refine AC rfl rfl (o_fa rfl rfl (AC rfl rfl (o_ld (hc:=Blk.cell (i:=0) (h62.1) rfl) rfl rfl ?_)))
    refine AC rfl rfl (o_ls rfl rfl ?_)
    have r70:inI64 (a31.name.size:Int):=rngNat z57
    refine AC rfl rfl (o_gtS rfl rfl rfl (fun c71=>?_) fun c71=>?_)
    ·
     replace hy66:=ip hy66 c71
     refine o_pf rfl rfl rfl (o_as rfl rfl (o_z ?_))
     obtain rfl:=sm hy66
     replace hB:=(hB.st S61).st S64
     replace h16:=(h16.st S61).st S64
     replace h50:=(h50.st S61).st S64
     replace h53:=(h53.st S61).st S64
     exact ⟨(),_,⟨rfl,rfl,rfl,rfl,rfl,trivial⟩,hB,h62,h50,h53,h16⟩
    ·
     replace hy66:=im hy66 c71
     refine o_pf rfl rfl rfl (o_as rfl rfl (o_z ?_))
     obtain rfl:=sm hy66
     replace hB:=(hB.st S61).st S64
     replace h16:=(h16.st S61).st S64
     replace h50:=(h50.st S61).st S64
     replace h53:=(h53.st S61).st S64
     exact ⟨(),_,⟨rfl,rfl,rfl,rfl,rfl,trivial⟩,hB,h62,h50,h53,h16⟩
  replace hB:=(hB.st S61).st S64
  replace h16:=(h16.st S61).st S64
  replace h50:=(h50.st S61).st S64
  replace h53:=(h53.st S61).st S64
  rintro l72 w73 ⟨x68,O74,hs75,hB,h62,h50,h53,h16⟩
  refine AM _ hs75 ?_
  refine Ah (Ae (o_fa rfl rfl (o_ld (hc:=Blk.cell (i:=0) (h62.1) rfl) rfl rfl ?_)))
  refine o_ls rfl rfl ?_
  have r76:inI64 (a31.name.size:Int):=rngNat z57
  refine o_mv rfl rfl (o_z ?_)
  obtain ⟨res77,hL78,hf36⟩:=bs hf36
  refine AL (aft res77 (fun (s79:Bool) (x80:Unit)=>[(3,(.bool s79)),(8,(.slice A17 x0.ops.length c18)),(9,(.int .i64 (x0.ops.length:Int))),(10,(.int .i64 (k30:Int)))]) (fun s79 x80 w'=>∃ O':Lab,Bs w A w' O'∧Vb w' (Fr 0 w' O') (.slice A17 x0.ops.length c18) x0.ops)) ?_ ?_
  ·
   refine Al (Gn (σ:=Bool) (X:=Unit) (a31.name.size) hL78 (rngNat' r76) (fun (s79:Bool) (x80:Unit)=>[(3,(.bool s79)),(5,(.pointer (some ⟨g58,0,none⟩))),(8,(.slice A17 x0.ops.length c18)),(9,(.int .i64 (x0.ops.length:Int))),(10,(.int .i64 (k30:Int)))]) _ (fun s79 x80 w'=>∃ O':Lab,Bs w A w' O'∧Lc 3 w' O' g58 67 [(.string a31.name),(.int .i64 a31.cost),(.slice A51 a31.pre.length c52),(.slice A54 a31.effs.length c55)]∧Vb w' (Fr 0 w' O') (.slice A51 a31.pre.length c52) a31.pre∧Vb w' (Fr 0 w' O') (.slice A54 a31.effs.length c55) a31.effs∧Vb w' (Fr 0 w' O') (.slice A17 x0.ops.length c18) x0.ops) _ () ⟨O74,hB,h62,h50,h53,h16⟩ ⟨rfl,rfl,rfl,rfl,rfl,rfl,rfl,trivial⟩ (fun _ _=>⟨rfl,rfl⟩) (fun _ _=>⟨rfl,rfl,rfl,rfl,trivial⟩) (fun _ _ _ ⟨O',hB,h62,h50,h53,h16⟩=>⟨O',hB,h16⟩) ⟨rfl,rfl,rfl⟩ ⟨rfl,rfl⟩ ?_)
   rintro k81 s79 x80 w83 cc85 hx86 ⟨O84,hB,h62,h50,h53,h16⟩ hf87 hret88 hbrk89
   have rk81:inI64 (k81:Int):=rngKN hx86 (rngNat' r76)
   refine Ah (Ae (o_mv rfl rfl (o_as rfl rfl (o_z ?_))))
   refine Ae (o_mv rfl rfl (o_mv rfl rfl ?_))
   rcases Bool.eq_false_or_eq_true s79 with c92|c92
   ·
    try rw [c92]
    replace hf87:=ip hf87 c92
    refine AB rfl rfl rfl rfl (AB rfl rfl rfl rfl (AB rfl rfl rfl rfl (AB rfl rfl rfl rfl (AB rfl rfl rfl rfl (o_pt rfl rfl rfl (o_mv rfl rfl (AB rfl rfl rfl rfl (AB rfl rfl rfl rfl (AB rfl rfl rfl rfl (AB rfl rfl rfl rfl (AB rfl rfl rfl rfl (o_pt rfl rfl rfl (o_as rfl rfl (o_z ?_))))))))))))))
    obtain rfl:=sm hf87
    refine (?_:Exists _)
    exact ⟨_,(),rfl,⟨rfl,rfl,rfl,rfl,rfl,rfl,rfl,trivial⟩,_,hB,h62,h50,h53,h16⟩
   ·
    try rw [c92]
    replace hf87:=im' hf87 c92
    refine AC rfl rfl (o_fa rfl rfl (AC rfl rfl (o_ld (hc:=Blk.cell (i:=0) (h62.1) rfl) rfl rfl ?_)))
    refine AC rfl rfl (o_mv rfl rfl (AC rfl rfl ?_))
    obtain ⟨n93,e94,hf87⟩:=bs hf87
    have r95:=Jn e94
    refine o_ixE (he:=e94) rfl rfl rfl ?_
    refine AC rfl rfl (o_ltS rfl rfl rfl (fun c96=>?_) fun c96=>?_)
    ·
     replace hf87:=ip hf87 c96
     refine o_pf rfl rfl rfl (o_mv rfl rfl (AB rfl rfl rfl rfl (AB rfl rfl rfl rfl (AB rfl rfl rfl rfl (AB rfl rfl rfl rfl (AB rfl rfl rfl rfl (o_pt rfl rfl rfl (o_as rfl rfl (o_z ?_)))))))))
     obtain rfl:=sm hf87
     refine (?_:Exists _)
     exact ⟨_,(),rfl,⟨rfl,rfl,rfl,rfl,rfl,rfl,rfl,trivial⟩,_,hB,h62,h50,h53,h16⟩
    ·
     replace hf87:=im hf87 c96
     refine o_pf rfl rfl rfl (o_mv rfl rfl (AC rfl rfl (o_fa rfl rfl (AC rfl rfl (o_ld (hc:=Blk.cell (i:=0) (h62.1) rfl) rfl rfl ?_)))))
     refine AC rfl rfl (o_mv rfl rfl (AC rfl rfl ?_))
     obtain ⟨n97,e98,hf87⟩:=bs hf87
     have r99:=Jn e98
     refine o_ixE (he:=e98) rfl rfl rfl ?_
     refine AC rfl rfl (o_gtS rfl rfl rfl (fun c100=>?_) fun c100=>?_)
     ·
      replace hf87:=ip hf87 c100
      refine o_pf rfl rfl rfl (o_as rfl rfl (o_z ?_))
      obtain rfl:=sm hf87
      refine (?_:Exists _)
      exact ⟨_,(),rfl,⟨rfl,rfl,rfl,rfl,rfl,rfl,rfl,trivial⟩,_,hB,h62,h50,h53,h16⟩
     ·
      replace hf87:=im hf87 c100
      refine o_pf rfl rfl rfl (o_as rfl rfl (o_z ?_))
      obtain rfl:=sm hf87
      refine (?_:Exists _)
      exact ⟨_,(),rfl,⟨rfl,rfl,rfl,rfl,rfl,rfl,rfl,trivial⟩,_,hB,h62,h50,h53,h16⟩
  rintro l101 w102 ⟨s105,x106,rfl,hs104,O103,hB,h16⟩
  replace hf36:=AR hf36
  obtain rfl:=sm hf36
  refine (?_:Exists _)
  exact ⟨_,(),rfl,⟨(Bt hs104 _ _ rfl),(Bt hs104 _ _ rfl),(Bt hs104 _ _ rfl),(Bt hs104 _ _ rfl),trivial⟩,_,hB,h16⟩
 replace hB:=hB.st S22
 rintro l107 w108 ⟨s111,x112,rfl,hs110,O109,hB⟩
 replace hm:=AR hm
 refine AM _ hs110 ?_
 refine Ah (Ae (o_mv rfl rfl (o_as rfl rfl (o_z ?_))))
 refine At ?_
 obtain rfl:=sm hm
 exact ret1v rfl (AF rfl) ⟨hB.ext,vBool⟩
noncomputable def CH (x0:Tsk):Option Int :=
  bnd (DN x0) fun q24=>if q24=true then some 5 else bnd (Dk x0) fun q31=>if q31=true then some 1 else bnd (CL x0) fun q38=>if q38=true then some 2 else bnd (CU x0) fun q45=>if q45=true then some 8 else some 0
theorem GK {w:World} {A:Nat→Prop} (hA:∀ k,A k→k < w.heap.size) {vx0:Value} {x0:Tsk} (hx0:Vb w A vx0 x0) {r:Int} (hm:CH x0=some r) :
    Fn Tryz.prog 25 [vx0] w fun v w'=>Ext w w'∧Vb w' (upA A w w') v r:=by
 obtain ⟨O,hB,hA0⟩:=enter hA
 replace hx0:=hx0.mono hA0
 obtain ⟨cs2,rfl,v3,v4,v5,v6,rfl,h7,h10,h13,h16⟩:=hx0
 obtain ⟨A8,c9,rfl⟩:=h7.form
 obtain ⟨A11,c12,rfl⟩:=h10.form
 obtain ⟨A14,c15,rfl⟩:=h13.form
 obtain ⟨A17,c18,rfl⟩:=h16.form
 refine AJ Tryz.func25 rfl Tryz.ntmps25 rfl ?_
 unfold CH at hm
 refine Ah (Ae (l_box 2 O rfl rfl fun g19 w20 O21 S22 h23=>?_))
 replace h23:Lc 2 w20 O21 g19 26 [(.slice A8 x0.vars.length c9),(.slice A11 x0.init.length c12),(.slice A14 x0.goal.length c15),(.slice A17 x0.ops.length c18)]:=h23
 refine o_as rfl rfl (o_z ?_)
 refine Ah (Al (Ah (Ae (o_la (hl:=rfl) (hc:=(h23.1).cellsAt) rfl rfl ?_))))
 obtain ⟨q24,e25,hm⟩:=bs hm
 replace h7:=h7.st S22
 replace h10:=h10.st S22
 replace h13:=h13.st S22
 replace h16:=h16.st S22
 refine Bg (O:=O21) (A:=All w20) (R:=fun w' F v=>Vb w' F v q24) (IY (fun _ h=>h) (Vb.mono (F:=Fr 0 w20 O21) (Vb.ofAgg (cs:=[(.slice A8 x0.vars.length c9),(.slice A11 x0.init.length c12),(.slice A14 x0.goal.length c15),(.slice A17 x0.ops.length c18)]) (x:=x0) rfl ⟨_,_,_,_,rfl,h7,h10,h13,h16⟩) Fr.lt) e25) rfl rfl fun v30 w26 O27 S28 h29=>?_
 obtain rfl:=h29.bool
 cases q24
 case false =>
  replace hm:=iF hm
  refine o_as rfl rfl (o_z ?_)
  refine Aj rfl (Ah (Ae ?_))
  replace h23:=h23.st S28
  refine o_la (hl:=rfl) (hc:=(h23.1).cellsAt) rfl rfl ?_
  obtain ⟨q31,e32,hm⟩:=bs hm
  replace h7:=h7.st S28
  replace h10:=h10.st S28
  replace h13:=h13.st S28
  replace h16:=h16.st S28
  refine Bg (O:=O27) (A:=All w26) (R:=fun w' F v=>Vb w' F v q31) (Il (fun _ h=>h) (Vb.mono (F:=Fr 0 w26 O27) (Vb.ofAgg (cs:=[(.slice A8 x0.vars.length c9),(.slice A11 x0.init.length c12),(.slice A14 x0.goal.length c15),(.slice A17 x0.ops.length c18)]) (x:=x0) rfl ⟨_,_,_,_,rfl,h7,h10,h13,h16⟩) Fr.lt) e32) rfl rfl fun v37 w33 O34 S35 h36=>?_
  obtain rfl:=h36.bool
  cases q31
  case false =>
   replace hm:=iF hm
   refine o_as rfl rfl (o_z ?_)
   refine Aj rfl (Ah (Ae ?_))
   replace h23:=h23.st S35
   refine o_la (hl:=rfl) (hc:=(h23.1).cellsAt) rfl rfl ?_
   obtain ⟨q38,e39,hm⟩:=bs hm
   replace h7:=h7.st S35
   replace h10:=h10.st S35
   replace h13:=h13.st S35
   replace h16:=h16.st S35
   refine Bg (O:=O34) (A:=All w33) (R:=fun w' F v=>Vb w' F v q38) (Hx (fun _ h=>h) (Vb.mono (F:=Fr 0 w33 O34) (Vb.ofAgg (cs:=[(.slice A8 x0.vars.length c9),(.slice A11 x0.init.length c12),(.slice A14 x0.goal.length c15),(.slice A17 x0.ops.length c18)]) (x:=x0) rfl ⟨_,_,_,_,rfl,h7,h10,h13,h16⟩) Fr.lt) e39) rfl rfl fun v44 w40 O41 S42 h43=>?_
   obtain rfl:=h43.bool
   cases q38
   case false =>
    replace hm:=iF hm
    refine o_as rfl rfl (o_z ?_)
    refine Aj rfl (Ah (Ae ?_))
    replace h23:=h23.st S42
    refine o_la (hl:=rfl) (hc:=(h23.1).cellsAt) rfl rfl ?_
    obtain ⟨q45,e46,hm⟩:=bs hm
    replace h7:=h7.st S42
    replace h10:=h10.st S42
    replace h13:=h13.st S42
    replace h16:=h16.st S42
    refine Bg (O:=O41) (A:=All w40) (R:=fun w' F v=>Vb w' F v q45) (HO (fun _ h=>h) (Vb.mono (F:=Fr 0 w40 O41) (Vb.ofAgg (cs:=[(.slice A8 x0.vars.length c9),(.slice A11 x0.init.length c12),(.slice A14 x0.goal.length c15),(.slice A17 x0.ops.length c18)]) (x:=x0) rfl ⟨_,_,_,_,rfl,h7,h10,h13,h16⟩) Fr.lt) e46) rfl rfl fun v51 w47 O48 S49 h50=>?_
    obtain rfl:=h50.bool
    cases q45
    case false =>
     replace hm:=iF hm
     refine o_as rfl rfl (o_z ?_)
     refine Aj rfl (Am (Ah (Ae (o_as rfl rfl (o_z ?_)))))
     refine At ?_
     obtain rfl:=sm hm
     replace hB:=((((hB.st S22).st S28).st S35).st S42).st S49
     exact ret1v rfl (AF rfl) ⟨hB.ext,(vInt (show inI64 (0) from by decide))⟩
    replace hm:=iT hm
    refine o_as rfl rfl (o_z ?_)
    refine Ar rfl (Ah (Ae (o_as rfl rfl (o_z ?_))))
    refine At ?_
    obtain rfl:=sm hm
    replace hB:=((((hB.st S22).st S28).st S35).st S42).st S49
    exact ret1v rfl (AF rfl) ⟨hB.ext,(vInt (show inI64 (8) from by decide))⟩
   replace hm:=iT hm
   refine o_as rfl rfl (o_z ?_)
   refine Ar rfl (Ah (Ae (o_as rfl rfl (o_z ?_))))
   refine At ?_
   obtain rfl:=sm hm
   replace hB:=(((hB.st S22).st S28).st S35).st S42
   exact ret1v rfl (AF rfl) ⟨hB.ext,(vInt (show inI64 (2) from by decide))⟩
  replace hm:=iT hm
  refine o_as rfl rfl (o_z ?_)
  refine Ar rfl (Ah (Ae (o_as rfl rfl (o_z ?_))))
  refine At ?_
  obtain rfl:=sm hm
  replace hB:=((hB.st S22).st S28).st S35
  exact ret1v rfl (AF rfl) ⟨hB.ext,(vInt (show inI64 (1) from by decide))⟩
 replace hm:=iT hm
 refine o_as rfl rfl (o_z ?_)
 refine Ar rfl (Ah (Ae (o_as rfl rfl (o_z ?_))))
 refine At ?_
 obtain rfl:=sm hm
 replace hB:=(hB.st S22).st S28
 exact ret1v rfl (AF rfl) ⟨hB.ext,(vInt (show inI64 (5) from by decide))⟩
end
section
open Go Go.RowKit
attribute [local irreducible] ewp owp hwp hwq hws Ev Evg Fn retPost loud loudS Res1
attribute [local irreducible] hwx loudX hwz zNext
noncomputable def Dl (x0:Tsk) (x1:List ByteArray) (x2:Int) (x3:Int):Option (Rsl×Int×Err) :=
  bnd (Bi x0 x1 x2) fun q34=>if q34.2.2.n≠0 then (some ((⟨0,([]:List Int),0,0⟩:Rsl),0,(⟨q34.2.2.n⟩:Err))) else (bnd (CJ q34.1 x3) fun q77=>if q77.2.n≠0 then (some ((⟨0,([]:List Int),0,0⟩:Rsl),0,(⟨q77.2.n⟩:Err))) else (if q77.1.verdict≠1 then (some (q77.1,0,(⟨0⟩:Err))) else (bnd (rng (ρ:=Rsl×Int×Err) (fun (k116:Nat) (a117:Int) (s114:(List Int)×(List ByteArray))=>bnd (atI q34.2.1 a117) fun a143=>if 0≤a143.op then (bnd (atI x0.ops a143.op) fun a156=>bnd (appI 8 s114.1 ([a143.op]:List Int)) fun u158=>bnd (appI 16 s114.2 [a156.name]) fun u160=>some (.next (u158,u160))) else (some (.next (s114.1,s114.2)))) q77.1.plan 0 (([]:List Int),([]:List ByteArray))) fun res112=>fin res112 fun (s269:(List Int)×(List ByteArray))=>bnd (CK s269.2 x1) fun q273=>some ((⟨q77.1.verdict,s269.1,q77.1.cost,q77.1.expanded⟩:Rsl),q273,(⟨0⟩:Err)))))
theorem Im {w:World} {A:Nat→Prop} (hA:∀ k,A k→k < w.heap.size) {vx0:Value} {x0:Tsk} (hx0:Vb w A vx0 x0) {vx1:Value} {x1:List ByteArray} (hx1:Vb w A vx1 x1) {x2:Int} (rx2:inI64 x2) {x3:Int} (rx3:inI64 x3) {r:Rsl×Int×Err} (hm:Dl x0 x1 x2 x3=some r) :
    Fn Tryz.prog 11 [vx0,vx1,(.int .i64 x2),(.int .i64 x3)] w fun v w'=>Ext w w'∧T3 w' (upA A w w') v r:=by
 obtain ⟨O,hB,hA0⟩:=enter hA
 replace hx0:=hx0.mono hA0
 obtain ⟨cs5,rfl,v6,v7,v8,v9,rfl,h10,h13,h16,h19⟩:=hx0
 obtain ⟨A11,c12,rfl⟩:=h10.form
 obtain ⟨A14,c15,rfl⟩:=h13.form
 obtain ⟨A17,c18,rfl⟩:=h16.form
 obtain ⟨A20,c21,rfl⟩:=h19.form
 replace hx1:=hx1.mono hA0
 obtain ⟨A22,c23,rfl⟩:=hx1.form
 refine AJ Tryz.func11 rfl Tryz.ntmps11 rfl ?_
 unfold Dl at hm
 refine Ah (Ae (l_box 2 O rfl rfl fun g24 w25 O26 S27 h28=>?_))
 replace h28:Lc 2 w25 O26 g24 26 [(.slice A11 x0.vars.length c12),(.slice A14 x0.init.length c15),(.slice A17 x0.goal.length c18),(.slice A20 x0.ops.length c21)]:=h28
 refine AX 3 O26 rfl fun g29 w30 O31 S32 h33=>?_
 refine o_as rfl rfl (o_as rfl rfl (o_z ?_))
 refine Ah (Ae ?_)
 replace h28:=h28.st S32
 refine o_la (hl:=rfl) (hc:=(h28.1).cellsAt) rfl rfl ?_
 refine o_mv rfl rfl (o_mv rfl rfl ?_)
 obtain ⟨q34,e35,hm⟩:=bs hm
 replace hx1:=(hx1.st S27).st S32
 replace h10:=(h10.st S27).st S32
 replace h13:=(h13.st S27).st S32
 replace h16:=(h16.st S27).st S32
 replace h19:=(h19.st S27).st S32
 refine Dw (O:=O31) (R:=fun w' F v=>T3 w' F v q34) (FB Fr.lt (Vb.ofAgg (cs:=[(.slice A11 x0.vars.length c12),(.slice A14 x0.init.length c15),(.slice A17 x0.goal.length c18),(.slice A20 x0.ops.length c21)]) (x:=x0) rfl ⟨_,_,_,_,rfl,h10,h13,h16,h19⟩) hx1 rx2 e35) rfl rfl fun v40 w36 O37 S38 h39=>?_
 obtain ⟨v41,v42,v43,rfl,h44,h45,h46⟩:=h39
 obtain ⟨cs47,rfl,v48,v49,v50,v51,rfl,h52,h55,h58,h61⟩:=h44
 obtain ⟨A53,c54,rfl⟩:=h52.form
 obtain ⟨A56,c57,rfl⟩:=h55.form
 obtain ⟨A59,c60,rfl⟩:=h58.form
 obtain ⟨A62,c63,rfl⟩:=h61.form
 obtain ⟨A64,c65,rfl⟩:=h45.form
 obtain ⟨rfl,r66⟩:=h46.err
 refine o_mv rfl rfl (o_ex rfl rfl rfl (o_ex rfl rfl rfl (o_ex rfl rfl rfl (AX 4 O37 rfl fun g67 w68 O69 S70 h71=>?_))))
 refine AK h71 rfl rfl rfl (Nat.le_of_ble_eq_true rfl) (by first|exact allOne rfl|simp [Value.cells,Value.oneCell',AI]) fun w72 S73 h71=>?_
 replace h71:Lc 4 w72 O69 g67 26 [(.slice A53 q34.1.vars.length c54),(.slice A56 q34.1.init.length c57),(.slice A59 q34.1.goal.length c60),(.slice A62 q34.1.ops.length c63)]:=h71
 refine o_as rfl rfl (o_as rfl rfl (o_z ?_))
 refine Ah (Ah (Ae (o_mv rfl rfl (o_rnS rfl rfl (fun c74=>?_) fun c74=>?_))))
 ·
  replace hm:=ip hm c74
  refine o_z ?_
  refine Ar rfl (Ah (Ae (o_bd rfl rfl rfl ?_)))
  refine o_mv rfl rfl ?_
  replace h33:=((h33.st S38).st S70).st S73
  refine AK h33 rfl rfl rfl (Nat.le_of_ble_eq_true rfl) (by first|exact allOne rfl|simp [Value.cells,Value.oneCell',AI]) fun w75 S76 h33=>?_
  replace h33:Lc 3 w75 O69 g29 32 [(.int .i64 0),(.slice none 0 0),(.int .i64 0),(.int .i64 0)]:=h33
  refine o_as rfl rfl (o_as rfl rfl (o_z ?_))
  refine At ?_
  obtain rfl:=sm hm
  replace hB:=(((((hB.st S27).st S32).st S38).st S70).st S73).st S76
  exact ret3 rfl (Bf (cs:=[(.int .i64 0),(.slice none 0 0),(.int .i64 0),(.int .i64 0)]) rfl rfl h33.1.cellsAt) (AF rfl) (AF rfl) ⟨hB.ext,_,_,_,rfl,(Vb.mono (F:=Fr 0 w75 O69) (Vb.ofAgg (cs:=[(.int .i64 0),(.slice none 0 0),(.int .i64 0),(.int .i64 0)]) (x:=(⟨0,([]:List Int),0,0⟩:Rsl)) rfl ⟨_,rfl,(Vb.nil _ _),(show inI64 0 from by decide),(show inI64 0 from by decide),(show inI64 0 from by decide)⟩) hB.out),(vInt (show inI64 (0) from by decide)),(vErr r66)⟩
 ·
  replace hm:=im hm c74
  refine o_z ?_
  refine Aj rfl (Am (Ah (Ae (o_la (hl:=rfl) (hc:=(h71.1).cellsAt) rfl rfl ?_))))
  refine o_mv rfl rfl ?_
  obtain ⟨q77,e78,hm⟩:=bs hm
  replace h52:=(h52.st S70).st S73
  replace h55:=(h55.st S70).st S73
  replace h58:=(h58.st S70).st S73
  replace h61:=(h61.st S70).st S73
  refine Dw (O:=O69) (R:=fun w' F v=>T2 w' F v q77) (Hv Fr.lt (Vb.ofAgg (cs:=[(.slice A53 q34.1.vars.length c54),(.slice A56 q34.1.init.length c57),(.slice A59 q34.1.goal.length c60),(.slice A62 q34.1.ops.length c63)]) (x:=q34.1) rfl ⟨_,_,_,_,rfl,h52,h55,h58,h61⟩) rx3 e78) rfl rfl fun v83 w79 O80 S81 h82=>?_
  obtain ⟨v84,v85,rfl,h86,h87⟩:=h82
  obtain ⟨cs88,rfl,v89,rfl,h90,r93,r94,r95⟩:=h86
  obtain ⟨A91,c92,rfl⟩:=h90.form
  obtain ⟨rfl,r96⟩:=h87.err
  refine o_mv rfl rfl (o_ex rfl rfl rfl (o_ex rfl rfl rfl (AX 5 O80 rfl fun g97 w98 O99 S100 h101=>?_)))
  refine AK h101 rfl rfl rfl (Nat.le_of_ble_eq_true rfl) (by first|exact allOne rfl|simp [Value.cells,Value.oneCell',AI]) fun w102 S103 h101=>?_
  replace h101:Lc 5 w102 O99 g97 32 [(.int .i64 q77.1.verdict),(.slice A91 q77.1.plan.length c92),(.int .i64 q77.1.cost),(.int .i64 q77.1.expanded)]:=h101
  refine o_as rfl rfl (o_z ?_)
  refine Ah (Ah (Ae (o_mv rfl rfl (o_rnS rfl rfl (fun c104=>?_) fun c104=>?_))))
  ·
   replace hm:=ip hm c104
   refine o_z ?_
   refine Ar rfl (Ah (Ae (o_bd rfl rfl rfl ?_)))
   refine o_mv rfl rfl ?_
   replace h33:=(((((h33.st S38).st S70).st S73).st S81).st S100).st S103
   refine AK h33 rfl rfl rfl (Nat.le_of_ble_eq_true rfl) (by first|exact allOne rfl|simp [Value.cells,Value.oneCell',AI]) fun w105 S106 h33=>?_
   replace h33:Lc 3 w105 O99 g29 32 [(.int .i64 0),(.slice none 0 0),(.int .i64 0),(.int .i64 0)]:=h33
   refine o_as rfl rfl (o_as rfl rfl (o_z ?_))
   refine At ?_
   obtain rfl:=sm hm
   replace hB:=((((((((hB.st S27).st S32).st S38).st S70).st S73).st S81).st S100).st S103).st S106
   exact ret3 rfl (Bf (cs:=[(.int .i64 0),(.slice none 0 0),(.int .i64 0),(.int .i64 0)]) rfl rfl h33.1.cellsAt) (AF rfl) (AF rfl) ⟨hB.ext,_,_,_,rfl,(Vb.mono (F:=Fr 0 w105 O99) (Vb.ofAgg (cs:=[(.int .i64 0),(.slice none 0 0),(.int .i64 0),(.int .i64 0)]) (x:=(⟨0,([]:List Int),0,0⟩:Rsl)) rfl ⟨_,rfl,(Vb.nil _ _),(show inI64 0 from by decide),(show inI64 0 from by decide),(show inI64 0 from by decide)⟩) hB.out),(vInt (show inI64 (0) from by decide)),(vErr r96)⟩
  ·
   replace hm:=im hm c104
   refine o_z ?_
   refine Aj rfl (Am (Ah (Ah (Ae (o_fa rfl rfl (o_ld (hc:=Blk.cell (i:=0) (h101.1) rfl) rfl rfl ?_))))))
   refine o_neS rfl rfl rfl (fun c107=>?_) fun c107=>?_
   ·
    replace hm:=ip hm c107
    refine o_z ?_
    refine Ar rfl (Ah (Ae (o_la (hl:=rfl) (hc:=(h101.1).cellsAt) rfl rfl ?_)))
    replace h33:=(((((h33.st S38).st S70).st S73).st S81).st S100).st S103
    refine AK h33 rfl rfl rfl (Nat.le_of_ble_eq_true rfl) (by first|exact allOne rfl|simp [Value.cells,Value.oneCell',AI]) fun w108 S109 h33=>?_
    replace h33:Lc 3 w108 O99 g29 32 [(.int .i64 q77.1.verdict),(.slice A91 q77.1.plan.length c92),(.int .i64 q77.1.cost),(.int .i64 q77.1.expanded)]:=h33
    refine o_as rfl rfl (o_as rfl rfl (o_z ?_))
    refine At ?_
    obtain rfl:=sm hm
    replace hB:=((((((((hB.st S27).st S32).st S38).st S70).st S73).st S81).st S100).st S103).st S109
    replace h90:=((h90.st S100).st S103).st S109
    exact ret3 rfl (Bf (cs:=[(.int .i64 q77.1.verdict),(.slice A91 q77.1.plan.length c92),(.int .i64 q77.1.cost),(.int .i64 q77.1.expanded)]) rfl rfl h33.1.cellsAt) (AF rfl) (AF rfl) ⟨hB.ext,_,_,_,rfl,(Vb.mono (F:=Fr 0 w108 O99) (Vb.ofAgg (cs:=[(.int .i64 q77.1.verdict),(.slice A91 q77.1.plan.length c92),(.int .i64 q77.1.cost),(.int .i64 q77.1.expanded)]) (x:=q77.1) rfl ⟨_,rfl,h90,r93,r94,r95⟩) hB.out),(vInt (show inI64 (0) from by decide)),(vErr (show inI64 0 from by decide))⟩
   ·
    replace hm:=im hm c107
    refine o_z ?_
    refine Aj rfl (Am (Ah (Ae (o_as rfl rfl (o_z ?_)))))
    refine Ah (Ae (o_as rfl rfl (o_z ?_)))
    refine Ah (Ah (Ae (o_fa rfl rfl (o_ld (hc:=Blk.cell (i:=1) (h101.1) rfl) rfl rfl ?_))))
    refine o_ln rfl rfl ?_
    replace h90:=(h90.st S100).st S103
    have l111:q77.1.plan.length≤9223372036854775807:=Nat.le_trans h90.len.2.1 h90.len.2.2
    have r110:inI64 (q77.1.plan.length:Int):=rngNat l111
    refine o_mv rfl rfl (o_z ?_)
    obtain ⟨res112,hL113,hm⟩:=bs hm
    refine AL (aft res112 (fun (s114:(List Int)×(List ByteArray)) (x115:(Option Addr×Nat)×(Option Addr×Nat))=>[(1,(.slice A22 x1.length c23)),(8,(.pointer (some ⟨g29,0,none⟩))),(14,(.pointer (some ⟨g97,0,none⟩))),(15,(.slice x115.1.1 s114.1.length x115.1.2)),(16,(.slice x115.2.1 s114.2.length x115.2.2))]) (fun s114 x115 w'=>∃ O':Lab,Bs w A w' O'∧Vb w' (Fr 0 w' O') (.slice A22 x1.length c23) x1∧Lc 3 w' O' g29 32 [(.int .i64 0),(.slice none 0 0),(.int .i64 0),(.int .i64 0)]∧Lc 5 w' O' g97 32 [(.int .i64 q77.1.verdict),(.slice A91 q77.1.plan.length c92),(.int .i64 q77.1.cost),(.int .i64 q77.1.expanded)]∧Vb w' (Fr 0 w' O') (.slice A91 q77.1.plan.length c92) q77.1.plan∧Rw 7 w' O' 3 (.slice x115.1.1 s114.1.length x115.1.2) s114.1∧Rw 9 w' O' 9 (.slice x115.2.1 s114.2.length x115.2.2) s114.2)) ?_ ?_
    ·
     refine Al ?_
     replace hB:=(((((((hB.st S27).st S32).st S38).st S70).st S73).st S81).st S100).st S103
     replace hx1:=(((((hx1.st S38).st S70).st S73).st S81).st S100).st S103
     replace h10:=(((((h10.st S38).st S70).st S73).st S81).st S100).st S103
     replace h13:=(((((h13.st S38).st S70).st S73).st S81).st S100).st S103
     replace h16:=(((((h16.st S38).st S70).st S73).st S81).st S100).st S103
     replace h19:=(((((h19.st S38).st S70).st S73).st S81).st S100).st S103
     replace h28:=(((((h28.st S38).st S70).st S73).st S81).st S100).st S103
     replace h33:=(((((h33.st S38).st S70).st S73).st S81).st S100).st S103
     replace h45:=((((h45.st S70).st S73).st S81).st S100).st S103
     refine Bh (σ:=(List Int)×(List ByteArray)) (X:=(Option Addr×Nat)×(Option Addr×Nat)) (q77.1.plan.length) hL113 rfl l111 (fun (s114:(List Int)×(List ByteArray)) (x115:(Option Addr×Nat)×(Option Addr×Nat))=>[(1,(.slice A22 x1.length c23)),(4,(.pointer (some ⟨g24,0,none⟩))),(8,(.pointer (some ⟨g29,0,none⟩))),(12,(.slice A64 q34.2.1.length c65)),(14,(.pointer (some ⟨g97,0,none⟩))),(15,(.slice x115.1.1 s114.1.length x115.1.2)),(16,(.slice x115.2.1 s114.2.length x115.2.2)),(47,(.slice A91 q77.1.plan.length c92))]) _ (fun s114 x115 w'=>∃ O':Lab,Bs w A w' O'∧Vb w' (Fr 0 w' O') (.slice A22 x1.length c23) x1∧Lc 2 w' O' g24 26 [(.slice A11 x0.vars.length c12),(.slice A14 x0.init.length c15),(.slice A17 x0.goal.length c18),(.slice A20 x0.ops.length c21)]∧Vb w' (Fr 0 w' O') (.slice A11 x0.vars.length c12) x0.vars∧Vb w' (Fr 0 w' O') (.slice A14 x0.init.length c15) x0.init∧Vb w' (Fr 0 w' O') (.slice A17 x0.goal.length c18) x0.goal∧Vb w' (Fr 0 w' O') (.slice A20 x0.ops.length c21) x0.ops∧Lc 3 w' O' g29 32 [(.int .i64 0),(.slice none 0 0),(.int .i64 0),(.int .i64 0)]∧Vb w' (Fr 0 w' O') (.slice A64 q34.2.1.length c65) q34.2.1∧Lc 5 w' O' g97 32 [(.int .i64 q77.1.verdict),(.slice A91 q77.1.plan.length c92),(.int .i64 q77.1.cost),(.int .i64 q77.1.expanded)]∧Vb w' (Fr 0 w' O') (.slice A91 q77.1.plan.length c92) q77.1.plan∧Rw 7 w' O' 3 (.slice x115.1.1 s114.1.length x115.1.2) s114.1∧Rw 9 w' O' 9 (.slice x115.2.1 s114.2.length x115.2.2) s114.2) _ ((none,0),(none,0)) ⟨O99,hB,hx1,h28,h10,h13,h16,h19,h33,h45,h101,h90,(Rw.nil 7 (by decide)),(Rw.nil 9 (by decide))⟩ ⟨rfl,rfl,rfl,rfl,rfl,rfl,rfl,rfl,rfl,rfl,trivial⟩ (fun _ _=>⟨rfl,rfl⟩) (fun _ _=>⟨rfl,rfl,rfl,rfl,rfl,trivial⟩) (fun _ _ _ ⟨O',hB,hx1,h28,h10,h13,h16,h19,h33,h45,h101,h90,h131,h133⟩=>⟨O',hB,hx1,h33,h101,h90,h131,h133⟩) ⟨rfl,rfl,rfl⟩ ⟨rfl,rfl⟩ ?_
     rintro k116 a117 s114 x115 w118 cc120 hx121 ⟨O119,hB,hx1,h28,h10,h13,h16,h19,h33,h45,h101,h90,h131,h133⟩ hf122 hret123 hbrk124
     have rk116:inI64 (k116:Int):=rngK hx121 l111
     refine Ah (Ae ?_)
     obtain ⟨b135,o136,ce137,hA138,hl139,hd140,rfl,r142⟩:=h90.elem' hx121
     refine o_iaE (hA:=hA138) (hj:=rfl) (hlt:=hl139) rfl rfl rfl ?_
     refine o_ld (hc:=cat0 hd140) rfl rfl ?_
     refine o_as rfl rfl (o_z ?_)
     refine Ah (Ae (o_mv rfl rfl (o_mv rfl rfl ?_)))
     obtain ⟨a143,e144,hf122⟩:=bs hf122
     obtain ⟨p146,x145⟩:=AP e144
     obtain ⟨b147,o148,ce149,hA150,hl151,hd152,rfl,r154⟩:=h45.elem' x145
     refine o_iaE (hA:=hA150) (hj:=(Int.toNat_of_nonneg p146).symm) (hlt:=hl151) rfl rfl rfl ?_
     refine o_fa rfl rfl (o_ld (hc:=cat0 hd152) rfl rfl ?_)
     refine o_as rfl rfl (o_z ?_)
     refine Ah (Ae (o_mv rfl rfl (o_geS rfl rfl rfl (fun c155=>?_) fun c155=>?_)))
     ·
      replace hf122:=ip hf122 c155
      refine o_z ?_
      refine Ar rfl ?_
      obtain ⟨a156,e157,hf122⟩:=bs hf122
      obtain ⟨u158,e159,hf122⟩:=bs hf122
      obtain ⟨u160,e161,hf122⟩:=bs hf122
      refine Be [(3,[7]),(12,[9])] O119 ?_
      refine x_pre (fuel:=13) [] [(0,true),(1,true)] (by kernel_rfl) rfl ?_
      refine h_mv rfl rfl rfl (h_mv rfl rfl rfl (AH ?_))
      refine x_pre (fuel:=6) [7] [(4,true),(5,true),(6,true),(7,true),(8,true),(9,true),(10,true)] (by kernel_rfl) rfl ?_
      refine h_mv rfl rfl rfl (h_fa rfl rfl rfl (h_ldC (hc:=fun w' ⟨O',hq⟩=>Blk.cell (i:=3) ((h28.st hq (by decide)).1) rfl) rfl rfl rfl ?_))
      refine h_mv rfl rfl rfl ?_
      obtain ⟨p163,x162⟩:=AP e157
      obtain ⟨b164,o165,ce166,hA167,hF170,hl168,hd169,v171,v172,rfl,h173,h176,r179,z180⟩:=h19.elem x162
      obtain ⟨A174,c175,rfl⟩:=h173.form
      obtain ⟨A177,c178,rfl⟩:=h176.form
      refine h_iaE (hA:=hA167) (hj:=(Int.toNat_of_nonneg p163).symm) (hlt:=hl168) rfl rfl rfl rfl ?_
      refine h_fa rfl rfl rfl (h_ldC (hc:=fun w' ⟨O',hq⟩=>cat0 (AQ (hq.agree (i:=0) (by decide)) hF170 hd169)) rfl rfl rfl ?_)
      refine AH ?_
      refine x_two (i:=2) (j:=11) (by kernel_rfl) rfl rfl ?_ ?_
      ·
       refine Bd 6 (by decide) O119 (xs:=(([a143.op]:List Int):List Int)) rfl rfl rfl rfl ⟨(vInt r154),trivial⟩ (by decide) (by decide) rfl fun g181 w182 O183 S184 h185=>?_
       have hZ:=S184.lst [] (fun _ h=>h.elim)
       refine x_go [(3,[7]),(12,[9])] hZ (by kernel_rfl) ?_
       refine x_two (i:=3) (j:=11) (by kernel_rfl) rfl rfl ?_ ?_
       ·
        obtain ⟨e159,e187,e188⟩:=AO e159
        replace h131:=h131.st S184
        refine Bb rfl h131 (h185.rd) rfl rfl (by decide) e187 e188 rfl fun A189 c190 w191 O192 S193 h194=>?_
        rw [← e159] at h194 ⊢
        have hZ:=S193.lst [7] (fun _ h=>by cases h;decide)
        refine x_go [(12,[9])] hZ (by kernel_rfl) ?_
        refine x_one (i:=11) (by kernel_rfl) rfl ?_
        refine Bd 8 (by decide) O192 (xs:=([a156.name]:List ByteArray)) rfl rfl rfl rfl ⟨(vStr z180),trivial⟩ (by decide) (by decide) rfl fun g196 w197 O198 S199 h200=>?_
        have hZ:=S199.lst [] (fun _ h=>h.elim)
        refine x_go [(12,[9])] hZ (by kernel_rfl) ?_
        refine x_one (i:=12) (by kernel_rfl) rfl ?_
        obtain ⟨e161,e202,e203⟩:=AO e161
        replace h133:=((h133.st S184).st S193).st S199
        refine Bb rfl h133 (h200.rd) rfl rfl (by decide) e202 e203 rfl fun A204 c205 w206 O207 S208 h209=>?_
        rw [← e161] at h209 ⊢
        have hZ:=S208.lst [9] (fun _ h=>by cases h;decide)
        refine x_go [] hZ (by kernel_rfl) ?_
        refine x_pre (fuel:=0) [] [(13,true),(14,true)] (by kernel_rfl) rfl ?_
        refine h_as rfl rfl rfl (h_as rfl rfl rfl (AH ?_))
        refine x_nil (by kernel_rfl) ?_
        obtain rfl:=sm hf122
        refine (?_:Exists _)
        replace hB:=(((hB.st S184).st S193).st S199).st S208
        replace hx1:=(((hx1.st S184).st S193).st S199).st S208
        replace h10:=(((h10.st S184).st S193).st S199).st S208
        replace h13:=(((h13.st S184).st S193).st S199).st S208
        replace h16:=(((h16.st S184).st S193).st S199).st S208
        replace h19:=(((h19.st S184).st S193).st S199).st S208
        replace h28:=(((h28.st S184).st S193).st S199).st S208
        replace h33:=(((h33.st S184).st S193).st S199).st S208
        replace h45:=(((h45.st S184).st S193).st S199).st S208
        replace h90:=(((h90.st S184).st S193).st S199).st S208
        replace h101:=(((h101.st S184).st S193).st S199).st S208
        replace h194:=(h194.st S199).st S208
        exact ⟨_,((A189,c190),(A204,c205)),rfl,⟨rfl,rfl,rfl,rfl,rfl,rfl,rfl,rfl,rfl,rfl,trivial⟩,_,hB,hx1,h28,h10,h13,h16,h19,h33,h45,h101,h90,h194,h209⟩
       ·
        refine Bd 8 (by decide) O183 (xs:=([a156.name]:List ByteArray)) rfl rfl rfl rfl ⟨(vStr z180),trivial⟩ (by decide) (by decide) rfl fun g211 w212 O213 S214 h215=>?_
        have hZ:=S214.lst [] (fun _ h=>h.elim)
        refine x_go [(3,[7]),(12,[9])] hZ (by kernel_rfl) ?_
        refine x_one (i:=3) (by kernel_rfl) rfl ?_
        obtain ⟨e159,e217,e218⟩:=AO e159
        replace h131:=(h131.st S184).st S214
        replace h185:=h185.st S214
        refine Bb rfl h131 (h185.rd) rfl rfl (by decide) e217 e218 rfl fun A219 c220 w221 O222 S223 h224=>?_
        rw [← e159] at h224 ⊢
        have hZ:=S223.lst [7] (fun _ h=>by cases h;decide)
        refine x_go [(12,[9])] hZ (by kernel_rfl) ?_
        refine x_one (i:=12) (by kernel_rfl) rfl ?_
        obtain ⟨e161,e226,e227⟩:=AO e161
        replace h133:=((h133.st S184).st S214).st S223
        replace h215:=h215.st S223
        refine Bb rfl h133 (h215.rd) rfl rfl (by decide) e226 e227 rfl fun A228 c229 w230 O231 S232 h233=>?_
        rw [← e161] at h233 ⊢
        have hZ:=S232.lst [9] (fun _ h=>by cases h;decide)
        refine x_go [] hZ (by kernel_rfl) ?_
        refine x_pre (fuel:=0) [] [(13,true),(14,true)] (by kernel_rfl) rfl ?_
        refine h_as rfl rfl rfl (h_as rfl rfl rfl (AH ?_))
        refine x_nil (by kernel_rfl) ?_
        obtain rfl:=sm hf122
        refine (?_:Exists _)
        replace hB:=(((hB.st S184).st S214).st S223).st S232
        replace hx1:=(((hx1.st S184).st S214).st S223).st S232
        replace h10:=(((h10.st S184).st S214).st S223).st S232
        replace h13:=(((h13.st S184).st S214).st S223).st S232
        replace h16:=(((h16.st S184).st S214).st S223).st S232
        replace h19:=(((h19.st S184).st S214).st S223).st S232
        replace h28:=(((h28.st S184).st S214).st S223).st S232
        replace h33:=(((h33.st S184).st S214).st S223).st S232
        replace h45:=(((h45.st S184).st S214).st S223).st S232
        replace h90:=(((h90.st S184).st S214).st S223).st S232
        replace h101:=(((h101.st S184).st S214).st S223).st S232
        replace h224:=h224.st S232
        exact ⟨_,((A219,c220),(A228,c229)),rfl,⟨rfl,rfl,rfl,rfl,rfl,rfl,rfl,rfl,rfl,rfl,trivial⟩,_,hB,hx1,h28,h10,h13,h16,h19,h33,h45,h101,h90,h224,h233⟩
      ·
       refine Bd 8 (by decide) O119 (xs:=([a156.name]:List ByteArray)) rfl rfl rfl rfl ⟨(vStr z180),trivial⟩ (by decide) (by decide) rfl fun g235 w236 O237 S238 h239=>?_
       have hZ:=S238.lst [] (fun _ h=>h.elim)
       refine x_go [(3,[7]),(12,[9])] hZ (by kernel_rfl) ?_
       refine x_one (i:=2) (by kernel_rfl) rfl ?_
       refine Bd 6 (by decide) O237 (xs:=(([a143.op]:List Int):List Int)) rfl rfl rfl rfl ⟨(vInt r154),trivial⟩ (by decide) (by decide) rfl fun g241 w242 O243 S244 h245=>?_
       have hZ:=S244.lst [] (fun _ h=>h.elim)
       refine x_go [(3,[7]),(12,[9])] hZ (by kernel_rfl) ?_
       refine x_one (i:=3) (by kernel_rfl) rfl ?_
       obtain ⟨e159,e247,e248⟩:=AO e159
       replace h131:=(h131.st S238).st S244
       refine Bb rfl h131 (h245.rd) rfl rfl (by decide) e247 e248 rfl fun A249 c250 w251 O252 S253 h254=>?_
       rw [← e159] at h254 ⊢
       have hZ:=S253.lst [7] (fun _ h=>by cases h;decide)
       refine x_go [(12,[9])] hZ (by kernel_rfl) ?_
       refine x_one (i:=12) (by kernel_rfl) rfl ?_
       obtain ⟨e161,e256,e257⟩:=AO e161
       replace h133:=((h133.st S238).st S244).st S253
       replace h239:=(h239.st S244).st S253
       refine Bb rfl h133 (h239.rd) rfl rfl (by decide) e256 e257 rfl fun A258 c259 w260 O261 S262 h263=>?_
       rw [← e161] at h263 ⊢
       have hZ:=S262.lst [9] (fun _ h=>by cases h;decide)
       refine x_go [] hZ (by kernel_rfl) ?_
       refine x_pre (fuel:=0) [] [(13,true),(14,true)] (by kernel_rfl) rfl ?_
       refine h_as rfl rfl rfl (h_as rfl rfl rfl (AH ?_))
       refine x_nil (by kernel_rfl) ?_
       obtain rfl:=sm hf122
       refine (?_:Exists _)
       replace hB:=(((hB.st S238).st S244).st S253).st S262
       replace hx1:=(((hx1.st S238).st S244).st S253).st S262
       replace h10:=(((h10.st S238).st S244).st S253).st S262
       replace h13:=(((h13.st S238).st S244).st S253).st S262
       replace h16:=(((h16.st S238).st S244).st S253).st S262
       replace h19:=(((h19.st S238).st S244).st S253).st S262
       replace h28:=(((h28.st S238).st S244).st S253).st S262
       replace h33:=(((h33.st S238).st S244).st S253).st S262
       replace h45:=(((h45.st S238).st S244).st S253).st S262
       replace h90:=(((h90.st S238).st S244).st S253).st S262
       replace h101:=(((h101.st S238).st S244).st S253).st S262
       replace h254:=h254.st S262
       exact ⟨_,((A249,c250),(A258,c259)),rfl,⟨rfl,rfl,rfl,rfl,rfl,rfl,rfl,rfl,rfl,rfl,trivial⟩,_,hB,hx1,h28,h10,h13,h16,h19,h33,h45,h101,h90,h254,h263⟩
     ·
      replace hf122:=im hf122 c155
      refine o_z ?_
      refine Aj rfl (Am ?_)
      obtain rfl:=sm hf122
      refine (?_:Exists _)
      exact ⟨_,((x115.1.1,x115.1.2),(x115.2.1,x115.2.2)),rfl,⟨rfl,rfl,rfl,rfl,rfl,rfl,rfl,rfl,rfl,rfl,trivial⟩,_,hB,hx1,h28,h10,h13,h16,h19,h33,h45,h101,h90,h131,h133⟩
    replace hB:=(((((((hB.st S27).st S32).st S38).st S70).st S73).st S81).st S100).st S103
    replace hx1:=(((((hx1.st S38).st S70).st S73).st S81).st S100).st S103
    replace h33:=(((((h33.st S38).st S70).st S73).st S81).st S100).st S103
    rintro l265 w266 ⟨s269,x270,rfl,hs268,O267,hB,hx1,h33,h101,h90,h131,h133⟩
    replace hm:=AR hm
    refine AM _ hs268 ?_
    refine Ah (Ae (o_mv rfl rfl (o_fa rfl rfl (AK h101 rfl rfl rfl (Nat.le_of_ble_eq_true rfl) (by first|exact allOne rfl|simp [Value.cells,Value.oneCell',AI]) fun w271 S272 h101=>?_))))
    replace h101:Lc 5 w271 O267 g97 32 [(.int .i64 q77.1.verdict),(.slice x270.1.1 s269.1.length x270.1.2),(.int .i64 q77.1.cost),(.int .i64 q77.1.expanded)]:=h101
    refine o_z ?_
    refine Ah (Be [(4,[3])] O267 ?_)
    refine x_pre (fuel:=4) [] [(0,true),(1,true),(2,true)] (by kernel_rfl) rfl ?_
    refine h_laB (hl:=rfl) (hb:=fun w' ⟨O',hq⟩=>((h101.st hq (by decide)).1).cellsAt) rfl rfl rfl ?_
    refine h_mv rfl rfl rfl (h_mv rfl rfl rfl (AH ?_))
    refine x_one (i:=3) (by kernel_rfl) rfl ?_
    obtain ⟨q273,e274,hm⟩:=bs hm
    replace hx1:=hx1.st S272
    replace h133:=h133.st S272
    refine Bg (O:=O267) (A:=All w271) (R:=fun w' F v=>Vb w' F v q273) (Hw (fun _ h=>h) (h133).all (Vb.mono (F:=Fr 0 w271 O267) hx1 Fr.lt) e274) rfl rfl fun v279 w275 O276 S277 h278=>?_
    obtain ⟨rfl,r280⟩:=h278.int
    have hZ:=S277.lst [] (fun _ h=>h.elim)
    refine x_go [(4,[3])] hZ (by kernel_rfl) ?_
    refine x_one (i:=4) (by kernel_rfl) rfl ?_
    replace h33:=(h33.st S272).st S277
    refine AK h33 rfl rfl rfl (Nat.le_of_ble_eq_true rfl) (by first|exact allOne rfl|simp [Value.cells,Value.oneCell',AI]) fun w281 S282 h33=>?_
    replace h33:Lc 3 w281 O276 g29 32 [(.int .i64 q77.1.verdict),(.slice x270.1.1 s269.1.length x270.1.2),(.int .i64 q77.1.cost),(.int .i64 q77.1.expanded)]:=h33
    have hZ:=S282.lst [3] (fun _ h=>by cases h;decide)
    refine x_go [] hZ (by kernel_rfl) ?_
    refine x_pre (fuel:=0) [] [(5,true),(6,true)] (by kernel_rfl) rfl ?_
    refine h_as rfl rfl rfl (h_as rfl rfl rfl (AH ?_))
    refine x_nil (by kernel_rfl) ?_
    refine At ?_
    replace h131:=((h131.st S272).st S277).st S282
    obtain ⟨O283,S284,h131⟩:=h131.freeze
    obtain rfl:=sm hm
    replace hB:=(((hB.st S272).st S277).st S282).st S284
    replace h33:=h33.st S284
    exact ret3 rfl (Bf (cs:=[(.int .i64 q77.1.verdict),(.slice x270.1.1 s269.1.length x270.1.2),(.int .i64 q77.1.cost),(.int .i64 q77.1.expanded)]) rfl rfl h33.1.cellsAt) (AF rfl) (AF rfl) ⟨hB.ext,_,_,_,rfl,(Vb.mono (F:=Fr 0 w281 O283) (Vb.ofAgg (cs:=[(.int .i64 q77.1.verdict),(.slice x270.1.1 s269.1.length x270.1.2),(.int .i64 q77.1.cost),(.int .i64 q77.1.expanded)]) (x:=(⟨q77.1.verdict,s269.1,q77.1.cost,q77.1.expanded⟩:Rsl)) rfl ⟨_,rfl,h131,r93,r94,r95⟩) hB.out),(vInt r280),(vErr (show inI64 0 from by decide))⟩
noncomputable def DG (x0:Tsk) (x1:List ByteArray) (x2:Int):Option (Tsk×Err) :=
  bnd (Bi x0 x1 x2) fun q33=>some (q33.1,(⟨q33.2.2.n⟩:Err))
theorem HP {w:World} {A:Nat→Prop} (hA:∀ k,A k→k < w.heap.size) {vx0:Value} {x0:Tsk} (hx0:Vb w A vx0 x0) {vx1:Value} {x1:List ByteArray} (hx1:Vb w A vx1 x1) {x2:Int} (rx2:inI64 x2) {r:Tsk×Err} (hm:DG x0 x1 x2=some r) :
    Fn Tryz.prog 22 [vx0,vx1,(.int .i64 x2)] w fun v w'=>Ext w w'∧T2 w' (upA A w w') v r:=by
 obtain ⟨O,hB,hA0⟩:=enter hA
 replace hx0:=hx0.mono hA0
 obtain ⟨cs4,rfl,v5,v6,v7,v8,rfl,h9,h12,h15,h18⟩:=hx0
 obtain ⟨A10,c11,rfl⟩:=h9.form
 obtain ⟨A13,c14,rfl⟩:=h12.form
 obtain ⟨A16,c17,rfl⟩:=h15.form
 obtain ⟨A19,c20,rfl⟩:=h18.form
 replace hx1:=hx1.mono hA0
 obtain ⟨A21,c22,rfl⟩:=hx1.form
 refine AJ Tryz.func22 rfl Tryz.ntmps22 rfl ?_
 unfold DG at hm
 refine Ah (Ae (l_box 2 O rfl rfl fun g23 w24 O25 S26 h27=>?_))
 replace h27:Lc 2 w24 O25 g23 26 [(.slice A10 x0.vars.length c11),(.slice A13 x0.init.length c14),(.slice A16 x0.goal.length c17),(.slice A19 x0.ops.length c20)]:=h27
 refine AX 3 O25 rfl fun g28 w29 O30 S31 h32=>?_
 refine o_as rfl rfl (o_z ?_)
 refine Ah (Ae ?_)
 replace h27:=h27.st S31
 refine o_la (hl:=rfl) (hc:=(h27.1).cellsAt) rfl rfl ?_
 refine o_mv rfl rfl (o_mv rfl rfl ?_)
 obtain ⟨q33,e34,hm⟩:=bs hm
 replace hx1:=(hx1.st S26).st S31
 replace h9:=(h9.st S26).st S31
 replace h12:=(h12.st S26).st S31
 replace h15:=(h15.st S26).st S31
 replace h18:=(h18.st S26).st S31
 refine Dw (O:=O30) (R:=fun w' F v=>T3 w' F v q33) (FB Fr.lt (Vb.ofAgg (cs:=[(.slice A10 x0.vars.length c11),(.slice A13 x0.init.length c14),(.slice A16 x0.goal.length c17),(.slice A19 x0.ops.length c20)]) (x:=x0) rfl ⟨_,_,_,_,rfl,h9,h12,h15,h18⟩) hx1 rx2 e34) rfl rfl fun v39 w35 O36 S37 h38=>?_
 obtain ⟨v40,v41,v42,rfl,h43,h44,h45⟩:=h38
 obtain ⟨cs46,rfl,v47,v48,v49,v50,rfl,h51,h54,h57,h60⟩:=h43
 obtain ⟨A52,c53,rfl⟩:=h51.form
 obtain ⟨A55,c56,rfl⟩:=h54.form
 obtain ⟨A58,c59,rfl⟩:=h57.form
 obtain ⟨A61,c62,rfl⟩:=h60.form
 obtain ⟨A63,c64,rfl⟩:=h44.form
 obtain ⟨rfl,r65⟩:=h45.err
 refine o_mv rfl rfl (o_ex rfl rfl rfl (o_ex rfl rfl rfl (o_ex rfl rfl rfl (AX 4 O36 rfl fun g66 w67 O68 S69 h70=>?_))))
 refine AK h70 rfl rfl rfl (Nat.le_of_ble_eq_true rfl) (by first|exact allOne rfl|simp [Value.cells,Value.oneCell',AI]) fun w71 S72 h70=>?_
 replace h70:Lc 4 w71 O68 g66 26 [(.slice A52 q33.1.vars.length c53),(.slice A55 q33.1.init.length c56),(.slice A58 q33.1.goal.length c59),(.slice A61 q33.1.ops.length c62)]:=h70
 refine o_as rfl rfl (o_as rfl rfl (o_z ?_))
 refine Ah (Ae (o_la (hl:=rfl) (hc:=(h70.1).cellsAt) rfl rfl ?_))
 refine o_mv rfl rfl ?_
 replace h32:=((h32.st S37).st S69).st S72
 refine AK h32 rfl rfl rfl (Nat.le_of_ble_eq_true rfl) (by first|exact allOne rfl|simp [Value.cells,Value.oneCell',AI]) fun w73 S74 h32=>?_
 replace h32:Lc 3 w73 O68 g28 26 [(.slice A52 q33.1.vars.length c53),(.slice A55 q33.1.init.length c56),(.slice A58 q33.1.goal.length c59),(.slice A61 q33.1.ops.length c62)]:=h32
 refine o_as rfl rfl (o_z ?_)
 refine At ?_
 obtain rfl:=sm hm
 replace hB:=(((((hB.st S26).st S31).st S37).st S69).st S72).st S74
 replace h51:=((h51.st S69).st S72).st S74
 replace h54:=((h54.st S69).st S72).st S74
 replace h57:=((h57.st S69).st S72).st S74
 replace h60:=((h60.st S69).st S72).st S74
 exact ret2 rfl (Bf (cs:=[(.slice A52 q33.1.vars.length c53),(.slice A55 q33.1.init.length c56),(.slice A58 q33.1.goal.length c59),(.slice A61 q33.1.ops.length c62)]) rfl rfl h32.1.cellsAt) (AF rfl) ⟨hB.ext,_,_,rfl,(Vb.mono (F:=Fr 0 w73 O68) (Vb.ofAgg (cs:=[(.slice A52 q33.1.vars.length c53),(.slice A55 q33.1.init.length c56),(.slice A58 q33.1.goal.length c59),(.slice A61 q33.1.ops.length c62)]) (x:=q33.1) rfl ⟨_,_,_,_,rfl,h51,h54,h57,h60⟩) hB.out),(vErr r65)⟩
noncomputable def CV (x0:List Fct) (x1:List Fct):Option Bool :=
  if (x0.length:Int)≠(x1.length:Int) then (some false) else (bnd (rng (ρ:=Bool) (fun (k18:Nat) (a19:Fct) (s16:Unit)=>bnd (x1[k18]?) fun a38=>if ¬ (a19.var=a38.var∧a19.val=a38.val) then (some (.ret false)) else (some (.next ()))) x0 0 ()) fun res14=>fin res14 fun (s54:Unit)=>some true)
theorem FE {w:World} {A:Nat→Prop} (hA:∀ k,A k→k < w.heap.size) {vx0:Value} {x0:List Fct} (hx0:Vb w A vx0 x0) {vx1:Value} {x1:List Fct} (hx1:Vb w A vx1 x1) {r:Bool} (hm:CV x0 x1=some r) :
    Fn Tryz.prog 38 [vx0,vx1] w fun v w'=>Ext w w'∧Vb w' (upA A w w') v r:=by
 obtain ⟨O,hB,hA0⟩:=enter hA
 replace hx0:=hx0.mono hA0
 obtain ⟨A3,c4,rfl⟩:=hx0.form
 replace hx1:=hx1.mono hA0
 obtain ⟨A5,c6,rfl⟩:=hx1.form
 refine AJ Tryz.func38 rfl Tryz.ntmps38 rfl ?_
 unfold CV at hm
 refine Ah (Ae (o_as rfl rfl (o_z ?_)))
 refine Ah (Ah (Ae (o_mv rfl rfl (o_ln rfl rfl ?_))))
 have l8:x0.length≤9223372036854775807:=Nat.le_trans hx0.len.2.1 hx0.len.2.2
 have r7:inI64 (x0.length:Int):=rngNat l8
 refine o_mv rfl rfl (o_ln rfl rfl ?_)
 have l10:x1.length≤9223372036854775807:=Nat.le_trans hx1.len.2.1 hx1.len.2.2
 have r9:inI64 (x1.length:Int):=rngNat l10
 refine o_neS rfl rfl rfl (fun c11=>?_) fun c11=>?_
 ·
  replace hm:=ip hm c11
  refine o_z ?_
  refine Ar rfl (Ah (Ae (o_as rfl rfl (o_z ?_))))
  refine At ?_
  obtain rfl:=sm hm
  exact ret1v rfl (AF rfl) ⟨hB.ext,vBool⟩
 ·
  replace hm:=im hm c11
  refine o_z ?_
  refine Aj rfl (Am (Ah (Ah (Ae (o_mv rfl rfl (o_ln rfl rfl ?_))))))
  have l13:x0.length≤9223372036854775807:=Nat.le_trans hx0.len.2.1 hx0.len.2.2
  have r12:inI64 (x0.length:Int):=rngNat l13
  refine o_mv rfl rfl (o_z ?_)
  obtain ⟨res14,hL15,hm⟩:=bs hm
  refine AL (aft res14 (fun (s16:Unit) (x17:Unit)=>[]) (fun s16 x17 w'=>∃ O':Lab,Bs w A w' O')) ?_ ?_
  ·
   refine Al (Bh (σ:=Unit) (X:=Unit) (x0.length) hL15 rfl l13 (fun (s16:Unit) (x17:Unit)=>[(0,(.slice A3 x0.length c4)),(1,(.slice A5 x1.length c6))]) _ (fun s16 x17 w'=>∃ O':Lab,Bs w A w' O'∧Vb w' (Fr 0 w' O') (.slice A3 x0.length c4) x0∧Vb w' (Fr 0 w' O') (.slice A5 x1.length c6) x1) _ () ⟨O,hB,hx0,hx1⟩ ⟨rfl,rfl,rfl,rfl,trivial⟩ (fun _ _=>⟨rfl,rfl⟩) (fun _ _=>trivial) (fun _ _ _ ⟨O',hB,hx0,hx1⟩=>⟨O',hB⟩) ⟨rfl,rfl,rfl⟩ ⟨rfl,rfl⟩ ?_)
   rintro k18 a19 s16 x17 w20 cc22 hx23 ⟨O21,hB,hx0,hx1⟩ hf24 hret25 hbrk26
   have rk18:inI64 (k18:Int):=rngK hx23 l13
   refine Ah (Ae (o_mv rfl rfl (o_as rfl rfl (o_z ?_))))
   refine Ah (BH (·=w20) [(0,true),(1,true),(2,true),(3,true),(4,true),(5,true),(6,true),(7,true),(8,true)] (by kernel_rfl) rfl (by kernel_rfl) rfl ?_)
   refine h_mv rfl rfl rfl (h_mv rfl rfl rfl ?_)
   obtain ⟨b29,o30,ce31,hA32,hl33,hd34,rfl,r36,r37⟩:=hx0.elem' hx23
   refine h_iaE (hA:=hA32) (hj:=rfl) (hlt:=hl33) rfl rfl rfl rfl ?_
   refine h_laA (hl:=rfl) (hc:=hd34) rfl rfl rfl ?_
   refine h_mv rfl rfl rfl (h_mv rfl rfl rfl ?_)
   obtain ⟨a38,e39,hf24⟩:=bs hf24
   obtain ⟨b40,o41,ce42,hA43,hl44,hd45,rfl,r47,r48⟩:=hx1.elem' e39
   refine h_iaE (hA:=hA43) (hj:=rfl) (hlt:=hl44) rfl rfl rfl rfl ?_
   refine h_laA (hl:=rfl) (hc:=hd45) rfl rfl rfl ?_
   refine h_fnS rfl rfl rfl rfl (fun c49=>?_) fun c49=>?_
   ·
    replace hf24:=ip hf24 c49
    refine h_z ?_
    refine Ar rfl (Ah (Ae (o_as rfl rfl (o_z ?_))))
    refine At ?_
    obtain rfl:=sm hf24
    obtain rfl:=hret25 _ rfl
    obtain rfl:=sm (BW hm)
    exact ret1v rfl (AF rfl) ⟨hB.ext,vBool⟩
   ·
    replace hf24:=im hf24 c49
    refine h_z ?_
    refine Aj rfl (Am ?_)
    obtain rfl:=sm hf24
    refine (?_:Exists _)
    exact ⟨_,(),rfl,⟨rfl,rfl,rfl,rfl,trivial⟩,_,hB,hx0,hx1⟩
  rintro l50 w51 ⟨s54,x55,rfl,hs53,O52,hB⟩
  replace hm:=AR hm
  refine AM _ hs53 ?_
  refine Ah (Ae (o_as rfl rfl (o_z ?_)))
  refine At ?_
  obtain rfl:=sm hm
  exact ret1v rfl (AF rfl) ⟨hB.ext,vBool⟩
noncomputable def Dy (x0:List Eff) (x1:List Eff):Option Bool :=
  if (x0.length:Int)≠(x1.length:Int) then (some false) else (bnd (rng (ρ:=Bool) (fun (k18:Nat) (a19:Eff) (s16:Unit)=>bnd (bnd (x1[k18]?) fun a46=>if a19.var≠a46.var then (some true) else (bnd (x1[k18]?) fun a75=>if a19.val≠a75.val then (some true) else (bnd (x1[k18]?) fun a104=>bnd (CV a19.cond a104.cond) fun q119=>if q119=true then some false else some true)):Option Bool) fun y29=>if y29=true then (some (.ret false)) else (some (.next ()))) x0 0 ()) fun res14=>fin res14 fun (s135:Unit)=>some true)
theorem IA {w:World} {A:Nat→Prop} (hA:∀ k,A k→k < w.heap.size) {vx0:Value} {x0:List Eff} (hx0:Vb w A vx0 x0) {vx1:Value} {x1:List Eff} (hx1:Vb w A vx1 x1) {r:Bool} (hm:Dy x0 x1=some r) :
    Fn Tryz.prog 39 [vx0,vx1] w fun v w'=>Ext w w'∧Vb w' (upA A w w') v r:=by
 obtain ⟨O,hB,hA0⟩:=enter hA
 replace hx0:=hx0.mono hA0
 obtain ⟨A3,c4,rfl⟩:=hx0.form
 replace hx1:=hx1.mono hA0
 obtain ⟨A5,c6,rfl⟩:=hx1.form
 refine AJ Tryz.func39 rfl Tryz.ntmps39 rfl ?_
 unfold Dy at hm
 refine Ah (Ae (o_as rfl rfl (o_z ?_)))
 refine Ah (Ah (Ae (o_mv rfl rfl (o_ln rfl rfl ?_))))
 have l8:x0.length≤9223372036854775807:=Nat.le_trans hx0.len.2.1 hx0.len.2.2
 have r7:inI64 (x0.length:Int):=rngNat l8
 refine o_mv rfl rfl (o_ln rfl rfl ?_)
 have l10:x1.length≤9223372036854775807:=Nat.le_trans hx1.len.2.1 hx1.len.2.2
 have r9:inI64 (x1.length:Int):=rngNat l10
 refine o_neS rfl rfl rfl (fun c11=>?_) fun c11=>?_
 ·
  replace hm:=ip hm c11
  refine o_z ?_
  refine Ar rfl (Ah (Ae (o_as rfl rfl (o_z ?_))))
  refine At ?_
  obtain rfl:=sm hm
  exact ret1v rfl (AF rfl) ⟨hB.ext,vBool⟩
 ·
  replace hm:=im hm c11
  refine o_z ?_
  refine Aj rfl (Am (Ah (Ah (Ae (o_mv rfl rfl (o_ln rfl rfl ?_))))))
  have l13:x0.length≤9223372036854775807:=Nat.le_trans hx0.len.2.1 hx0.len.2.2
  have r12:inI64 (x0.length:Int):=rngNat l13
  refine o_mv rfl rfl (o_z ?_)
  obtain ⟨res14,hL15,hm⟩:=bs hm
  refine AL (aft res14 (fun (s16:Unit) (x17:Unit)=>[]) (fun s16 x17 w'=>∃ O':Lab,Bs w A w' O')) ?_ ?_
  ·
   refine Al (Bh (σ:=Unit) (X:=Unit) (x0.length) hL15 rfl l13 (fun (s16:Unit) (x17:Unit)=>[(0,(.slice A3 x0.length c4)),(1,(.slice A5 x1.length c6))]) _ (fun s16 x17 w'=>∃ O':Lab,Bs w A w' O'∧Vb w' (Fr 0 w' O') (.slice A3 x0.length c4) x0∧Vb w' (Fr 0 w' O') (.slice A5 x1.length c6) x1) _ () ⟨O,hB,hx0,hx1⟩ ⟨rfl,rfl,rfl,rfl,trivial⟩ (fun _ _=>⟨rfl,rfl⟩) (fun _ _=>trivial) (fun _ _ _ ⟨O',hB,hx0,hx1⟩=>⟨O',hB⟩) ⟨rfl,rfl,rfl⟩ ⟨rfl,rfl⟩ ?_)
   rintro k18 a19 s16 x17 w20 cc22 hx23 ⟨O21,hB,hx0,hx1⟩ hf24 hret25 hbrk26
   have rk18:inI64 (k18:Int):=rngK hx23 l13
   refine Ah (Ae (o_mv rfl rfl (o_as rfl rfl (o_z ?_))))
   refine Ah ?_
   obtain ⟨y29,hy30,hf24⟩:=bs hf24
   refine AL (fun l' w'=>∃ (x32:Unit) (O':Lab),subs l' [(0,(.slice A3 x0.length c4)),(1,(.slice A5 x1.length c6)),(12,(.int .i64 (x0.length:Int))),(13,(.int .i64 (k18:Int))),(53,(.bool y29))]∧Bs w A w' O'∧Vb w' (Fr 0 w' O') (.slice A3 x0.length c4) x0∧Vb w' (Fr 0 w' O') (.slice A5 x1.length c6) x1) ?_ ?_
   ·
    refine Be [] O21 ?_
    refine x_pre (fuel:=3) [] [(0,true),(1,true),(2,true),(3,true),(4,true),(5,true),(6,true),(7,true),(8,true),(9,true),(10,true),(11,true),(12,true),(13,true),(14,true),(15,true),(16,true),(17,true),(18,true),(19,true),(20,true),(21,true),(22,true),(23,true),(24,true),(25,true),(26,true),(27,true),(28,true),(29,true),(30,true),(31,true),(32,true),(33,true),(34,true)] (by kernel_rfl) rfl ?_
    refine h_mv rfl rfl rfl (h_mv rfl rfl rfl ?_)
    obtain ⟨b33,o34,ce35,hA36,hF39,hl37,hd38,v40,rfl,h41,r44,r45⟩:=hx0.elem hx23
    obtain ⟨A42,c43,rfl⟩:=h41.form
    refine h_iaE (hA:=hA36) (hj:=rfl) (hlt:=hl37) rfl rfl rfl rfl ?_
    refine h_fa rfl rfl rfl (h_ldC (hc:=fun w' ⟨O',hq⟩=>cat1 (AQ (hq.agree (i:=0) (by decide)) hF39 hd38)) rfl rfl rfl ?_)
    refine h_mv rfl rfl rfl (h_mv rfl rfl rfl ?_)
    obtain ⟨a46,e47,hy30⟩:=bs hy30
    obtain ⟨b48,o49,ce50,hA51,hF54,hl52,hd53,v55,rfl,h56,r59,r60⟩:=hx1.elem e47
    obtain ⟨A57,c58,rfl⟩:=h56.form
    refine h_iaE (hA:=hA51) (hj:=rfl) (hlt:=hl52) rfl rfl rfl rfl ?_
    refine h_fa rfl rfl rfl (h_ldC (hc:=fun w' ⟨O',hq⟩=>cat1 (AQ (hq.agree (i:=0) (by decide)) hF54 hd53)) rfl rfl rfl ?_)
    refine h_neS rfl rfl rfl rfl (fun c61=>?_) fun c61=>?_
    ·
     replace hy30:=ip hy30 c61
     refine h_mv rfl rfl rfl (h_no rfl rfl rfl rfl rfl (h_no rfl rfl rfl rfl rfl (h_no rfl rfl rfl rfl rfl (h_no rfl rfl rfl rfl rfl (h_no rfl rfl rfl rfl rfl (h_no rfl rfl rfl rfl rfl (h_no rfl rfl rfl rfl rfl (h_no rfl rfl rfl rfl rfl (h_no rfl rfl rfl rfl rfl (h_no rfl rfl rfl rfl rfl (h_no rfl rfl rfl rfl rfl (h_pt rfl rfl rfl rfl (h_mv rfl rfl rfl (h_no rfl rfl rfl rfl rfl ?_))))))))))))))
     refine h_no rfl rfl rfl rfl rfl (h_no rfl rfl rfl rfl rfl (h_no rfl rfl rfl rfl rfl (h_no rfl rfl rfl rfl rfl (h_no rfl rfl rfl rfl rfl (h_no rfl rfl rfl rfl rfl (h_no rfl rfl rfl rfl rfl (h_no rfl rfl rfl rfl rfl (h_no rfl rfl rfl rfl rfl (AH ?_)))))))))
     refine x_one (i:=35) (by kernel_rfl) rfl ?_
     refine AB rfl rfl rfl rfl (x_go [] ((St.refl nT _ _).lst [] (fun _ h=>h.elim)) (by kernel_rfl) ?_)
     refine x_pre (fuel:=0) [] [(36,true),(37,true)] (by kernel_rfl) rfl ?_
     refine h_no rfl rfl rfl rfl rfl (h_pt rfl rfl rfl rfl (AH ?_))
     refine x_nil (by kernel_rfl) ?_
     obtain rfl:=sm hy30
     exact ⟨(),_,⟨rfl,rfl,rfl,rfl,rfl,trivial⟩,hB,hx0,hx1⟩
    ·
     replace hy30:=im hy30 c61
     refine h_mv rfl rfl rfl (hwp_o rfl (AD rfl rfl (g_mv rfl rfl (hwp_o rfl (AD rfl rfl (g_mv rfl rfl (hwp_o rfl (AD rfl rfl ?_))))))))
     obtain ⟨b62,o63,ce64,hA65,hF68,hl66,hd67,v69,rfl,h70,r73,r74⟩:=hx0.elem hx23
     obtain ⟨A71,c72,rfl⟩:=h70.form
     refine g_iaE (hA:=hA65) (hj:=rfl) (hlt:=hl66) rfl rfl rfl ?_
     refine hwp_o rfl (AD rfl rfl (g_fa rfl rfl (hwp_o rfl (AD rfl rfl (g_ldC (hc:=fun w' ⟨O',hq⟩=>cat2 (AQ (hq.agree (i:=0) (by decide)) hF68 hd67)) rfl rfl ?_)))))
     refine hwp_o rfl (AD rfl rfl (g_mv rfl rfl (hwp_o rfl (AD rfl rfl (g_mv rfl rfl (hwp_o rfl (AD rfl rfl ?_)))))))
     obtain ⟨a75,e76,hy30⟩:=bs hy30
     obtain ⟨b77,o78,ce79,hA80,hF83,hl81,hd82,v84,rfl,h85,r88,r89⟩:=hx1.elem e76
     obtain ⟨A86,c87,rfl⟩:=h85.form
     refine g_iaE (hA:=hA80) (hj:=rfl) (hlt:=hl81) rfl rfl rfl ?_
     refine hwp_o rfl (AD rfl rfl (g_fa rfl rfl (hwp_o rfl (AD rfl rfl (g_ldC (hc:=fun w' ⟨O',hq⟩=>cat2 (AQ (hq.agree (i:=0) (by decide)) hF83 hd82)) rfl rfl ?_)))))
     refine hwp_o rfl (AD rfl rfl (AS (fun _ _=>ev_ne rfl rfl) rfl (fun c90=>?_) (fun c90=>?_)))
     ·
      replace hy30:=ip hy30 c90
      refine h_pf rfl rfl rfl rfl (h_mv rfl rfl rfl (h_no rfl rfl rfl rfl rfl (h_no rfl rfl rfl rfl rfl (h_no rfl rfl rfl rfl rfl (h_no rfl rfl rfl rfl rfl (h_no rfl rfl rfl rfl rfl (h_no rfl rfl rfl rfl rfl (h_no rfl rfl rfl rfl rfl (h_no rfl rfl rfl rfl rfl (h_no rfl rfl rfl rfl rfl (h_no rfl rfl rfl rfl rfl (AH ?_))))))))))))
      refine x_one (i:=35) (by kernel_rfl) rfl ?_
      refine AB rfl rfl rfl rfl (x_go [] ((St.refl nT _ _).lst [] (fun _ h=>h.elim)) (by kernel_rfl) ?_)
      refine x_pre (fuel:=0) [] [(36,true),(37,true)] (by kernel_rfl) rfl ?_
      refine h_no rfl rfl rfl rfl rfl (h_pt rfl rfl rfl rfl (AH ?_))
      refine x_nil (by kernel_rfl) ?_
      obtain rfl:=sm hy30
      exact ⟨(),_,⟨rfl,rfl,rfl,rfl,rfl,trivial⟩,hB,hx0,hx1⟩
     ·
      replace hy30:=im hy30 c90
      refine h_pf rfl rfl rfl rfl (h_mv rfl rfl rfl (hwp_o rfl (AD rfl rfl (g_mv rfl rfl (hwp_o rfl (AD rfl rfl (g_mv rfl rfl (hwp_o rfl (AD rfl rfl ?_)))))))))
      obtain ⟨b91,o92,ce93,hA94,hF97,hl95,hd96,v98,rfl,h99,r102,r103⟩:=hx0.elem hx23
      obtain ⟨A100,c101,rfl⟩:=h99.form
      refine g_iaE (hA:=hA94) (hj:=rfl) (hlt:=hl95) rfl rfl rfl ?_
      refine hwp_o rfl (AD rfl rfl (g_fa rfl rfl (hwp_o rfl (AD rfl rfl (g_ldC (hc:=fun w' ⟨O',hq⟩=>cat0 (AQ (hq.agree (i:=0) (by decide)) hF97 hd96)) rfl rfl ?_)))))
      refine hwp_o rfl (AD rfl rfl (g_mv rfl rfl (hwp_o rfl (AD rfl rfl (g_mv rfl rfl (hwp_o rfl (AD rfl rfl ?_)))))))
      obtain ⟨a104,e105,hy30⟩:=bs hy30
      obtain ⟨b106,o107,ce108,hA109,hF112,hl110,hd111,v113,rfl,h114,r117,r118⟩:=hx1.elem e105
      obtain ⟨A115,c116,rfl⟩:=h114.form
      refine g_iaE (hA:=hA109) (hj:=rfl) (hlt:=hl110) rfl rfl rfl ?_
      refine hwp_o rfl (AD rfl rfl (g_fa rfl rfl (hwp_o rfl (AD rfl rfl (g_ldC (hc:=fun w' ⟨O',hq⟩=>cat0 (AQ (hq.agree (i:=0) (by decide)) hF112 hd111)) rfl rfl ?_)))))
      refine AH ?_
      refine x_one (i:=35) (by kernel_rfl) rfl ?_
      refine AC rfl rfl ?_
      obtain ⟨q119,e120,hy30⟩:=bs hy30
      refine Bg (O:=O21) (A:=All w20) (R:=fun w' F v=>Vb w' F v q119) (FE (fun _ h=>h) (Vb.mono (F:=Fr 0 w20 O21) h99 Fr.lt) (Vb.mono (F:=Fr 0 w20 O21) h114 Fr.lt) e120) rfl rfl fun v125 w121 O122 S123 h124=>?_
      obtain rfl:=h124.bool
      have hZ:=S123.lst [] (fun _ h=>h.elim)
      cases q119
      case false =>
       replace hy30:=iF hy30
       refine x_go [] hZ (by kernel_rfl) ?_
       refine x_pre (fuel:=0) [] [(36,true),(37,true)] (by kernel_rfl) rfl ?_
       refine hwp_o rfl (AD rfl rfl (g_nf rfl rfl (h_pf rfl rfl rfl rfl (AH ?_))))
       refine x_nil (by kernel_rfl) ?_
       obtain rfl:=sm hy30
       replace hx0:=hx0.st S123
       replace hB:=hB.st S123
       replace hx1:=hx1.st S123
       exact ⟨(),_,⟨rfl,rfl,rfl,rfl,rfl,trivial⟩,hB,hx0,hx1⟩
      replace hy30:=iT hy30
      refine x_go [] hZ (by kernel_rfl) ?_
      refine x_pre (fuel:=0) [] [(36,true),(37,true)] (by kernel_rfl) rfl ?_
      refine hwp_o rfl (AD rfl rfl (g_nt rfl rfl (h_pf rfl rfl rfl rfl (AH ?_))))
      refine x_nil (by kernel_rfl) ?_
      obtain rfl:=sm hy30
      replace hx0:=hx0.st S123
      replace hB:=hB.st S123
      replace hx1:=hx1.st S123
      exact ⟨(),_,⟨rfl,rfl,rfl,rfl,rfl,trivial⟩,hB,hx0,hx1⟩
   rintro l126 w127 ⟨x32,O128,hs129,hB,hx0,hx1⟩
   refine AM _ hs129 ?_
   refine Ca rfl (fun c130=>?_) (fun c130=>?_)
   ·
    replace hf24:=ip hf24 c130
    refine Ah (Ae (o_as rfl rfl (o_z ?_)))
    refine At ?_
    obtain rfl:=sm hf24
    obtain rfl:=hret25 _ rfl
    obtain rfl:=sm (BW hm)
    exact ret1v rfl (AF rfl) ⟨hB.ext,vBool⟩
   ·
    replace hf24:=im' hf24 c130
    refine Am ?_
    obtain rfl:=sm hf24
    refine (?_:Exists _)
    exact ⟨_,(),rfl,⟨rfl,rfl,rfl,rfl,trivial⟩,_,hB,hx0,hx1⟩
  rintro l131 w132 ⟨s135,x136,rfl,hs134,O133,hB⟩
  replace hm:=AR hm
  refine AM _ hs134 ?_
  refine Ah (Ae (o_as rfl rfl (o_z ?_)))
  refine At ?_
  obtain rfl:=sm hm
  exact ret1v rfl (AF rfl) ⟨hB.ext,vBool⟩
noncomputable def DY (x0:Tsk) (x1:Tsk):Option Bool :=
  bnd (bnd (Dp x0.vars x1.vars) fun q51=>if q51=true then bnd (Dp x0.init x1.init) fun q58=>if q58=true then bnd (CV x0.goal x1.goal) fun q65=>if q65=true then if (x0.ops.length:Int)≠(x1.ops.length:Int) then (some true) else (some false) else some true else some true else some true:Option Bool) fun y47=>if y47=true then (some false) else (bnd (rng (ρ:=Bool) (fun (k88:Nat) (a89:Opr) (s86:Unit)=>bnd (x1.ops[k88]?) fun a99=>bnd (some (a89.pre,a89.effs,a99.pre,a99.effs):Option ((List Fct)×(List Eff)×(List Fct)×(List Eff))) fun y101=>bnd (if a89.name≠a99.name then (some true) else (if a89.cost≠a99.cost then (some true) else (bnd (CV y101.1 y101.2.2.1) fun q187=>if q187=true then bnd (Dy y101.2.1 y101.2.2.2) fun q194=>if q194=true then some false else some true else some true)):Option Bool) fun y181=>if y181=true then (some (.ret false)) else (some (.next ()))) x0.ops 0 ()) fun res84=>fin res84 fun (s210:Unit)=>some true)
theorem Jz {w:World} {A:Nat→Prop} (hA:∀ k,A k→k < w.heap.size) {vx0:Value} {x0:Tsk} (hx0:Vb w A vx0 x0) {vx1:Value} {x1:Tsk} (hx1:Vb w A vx1 x1) {r:Bool} (hm:DY x0 x1=some r) :
    Fn Tryz.prog 23 [vx0,vx1] w fun v w'=>Ext w w'∧Vb w' (upA A w w') v r:=by
 obtain ⟨O,hB,hA0⟩:=enter hA
 replace hx0:=hx0.mono hA0
 obtain ⟨cs3,rfl,v4,v5,v6,v7,rfl,h8,h11,h14,h17⟩:=hx0
 obtain ⟨A9,c10,rfl⟩:=h8.form
 obtain ⟨A12,c13,rfl⟩:=h11.form
 obtain ⟨A15,c16,rfl⟩:=h14.form
 obtain ⟨A18,c19,rfl⟩:=h17.form
 replace hx1:=hx1.mono hA0
 obtain ⟨cs20,rfl,v21,v22,v23,v24,rfl,h25,h28,h31,h34⟩:=hx1
 obtain ⟨A26,c27,rfl⟩:=h25.form
 obtain ⟨A29,c30,rfl⟩:=h28.form
 obtain ⟨A32,c33,rfl⟩:=h31.form
 obtain ⟨A35,c36,rfl⟩:=h34.form
 refine AJ Tryz.func23 rfl Tryz.ntmps23 rfl ?_
 unfold DY at hm
 refine Ah (Ae (l_box 2 O rfl rfl fun g37 w38 O39 S40 h41=>?_))
 replace h41:Lc 2 w38 O39 g37 26 [(.slice A9 x0.vars.length c10),(.slice A12 x0.init.length c13),(.slice A15 x0.goal.length c16),(.slice A18 x0.ops.length c19)]:=h41
 refine l_box 3 O39 rfl rfl fun g42 w43 O44 S45 h46=>?_
 replace h46:Lc 3 w43 O44 g42 26 [(.slice A26 x1.vars.length c27),(.slice A29 x1.init.length c30),(.slice A32 x1.goal.length c33),(.slice A35 x1.ops.length c36)]:=h46
 refine o_as rfl rfl (o_z ?_)
 refine Ah (Ah ?_)
 obtain ⟨y47,hy48,hm⟩:=bs hm
 refine AL (fun l' w'=>∃ (x50:Unit) (O':Lab),subs l' [(2,(.pointer (some ⟨g37,0,none⟩))),(3,(.pointer (some ⟨g42,0,none⟩))),(38,(.bool y47))]∧Bs w A w' O'∧Lc 2 w' O' g37 26 [(.slice A9 x0.vars.length c10),(.slice A12 x0.init.length c13),(.slice A15 x0.goal.length c16),(.slice A18 x0.ops.length c19)]∧Vb w' (Fr 0 w' O') (.slice A9 x0.vars.length c10) x0.vars∧Vb w' (Fr 0 w' O') (.slice A12 x0.init.length c13) x0.init∧Vb w' (Fr 0 w' O') (.slice A15 x0.goal.length c16) x0.goal∧Vb w' (Fr 0 w' O') (.slice A18 x0.ops.length c19) x0.ops∧Lc 3 w' O' g42 26 [(.slice A26 x1.vars.length c27),(.slice A29 x1.init.length c30),(.slice A32 x1.goal.length c33),(.slice A35 x1.ops.length c36)]∧Vb w' (Fr 0 w' O') (.slice A26 x1.vars.length c27) x1.vars∧Vb w' (Fr 0 w' O') (.slice A29 x1.init.length c30) x1.init∧Vb w' (Fr 0 w' O') (.slice A32 x1.goal.length c33) x1.goal∧Vb w' (Fr 0 w' O') (.slice A35 x1.ops.length c36) x1.ops) ?_ ?_
 ·
  refine Ae (o_fa rfl rfl ?_)
  replace h41:=h41.st S45
  refine o_ld (hc:=Blk.cell (i:=0) (h41.1) rfl) rfl rfl ?_
  refine o_fa rfl rfl (o_ld (hc:=Blk.cell (i:=0) (h46.1) rfl) rfl rfl ?_)
  obtain ⟨q51,e52,hy48⟩:=bs hy48
  replace h8:=(h8.st S40).st S45
  replace h25:=(h25.st S40).st S45
  refine Bg (O:=O44) (A:=All w43) (R:=fun w' F v=>Vb w' F v q51) (FR (fun _ h=>h) (Vb.mono (F:=Fr 0 w43 O44) h8 Fr.lt) (Vb.mono (F:=Fr 0 w43 O44) h25 Fr.lt) e52) rfl rfl fun v57 w53 O54 S55 h56=>?_
  obtain rfl:=h56.bool
  cases q51
  case false =>
   replace hy48:=iF hy48
   refine o_nf rfl rfl (o_mv rfl rfl (AB rfl rfl rfl rfl (AB rfl rfl rfl rfl (AB rfl rfl rfl rfl (AB rfl rfl rfl rfl (AB rfl rfl rfl rfl (AB rfl rfl rfl rfl (o_pt rfl rfl rfl (o_mv rfl rfl (AB rfl rfl rfl rfl (AB rfl rfl rfl rfl (AB rfl rfl rfl rfl (AB rfl rfl rfl rfl (AB rfl rfl rfl rfl ?_))))))))))))))
   refine AB rfl rfl rfl rfl (o_pt rfl rfl rfl (o_mv rfl rfl (AB rfl rfl rfl rfl (AB rfl rfl rfl rfl (AB rfl rfl rfl rfl (AB rfl rfl rfl rfl (AB rfl rfl rfl rfl (AB rfl rfl rfl rfl (AB rfl rfl rfl rfl (o_pt rfl rfl rfl (o_z ?_)))))))))))
   obtain rfl:=sm hy48
   replace hB:=((hB.st S40).st S45).st S55
   replace h8:=h8.st S55
   replace h11:=((h11.st S40).st S45).st S55
   replace h14:=((h14.st S40).st S45).st S55
   replace h17:=((h17.st S40).st S45).st S55
   replace h25:=h25.st S55
   replace h28:=((h28.st S40).st S45).st S55
   replace h31:=((h31.st S40).st S45).st S55
   replace h34:=((h34.st S40).st S45).st S55
   replace h41:=h41.st S55
   replace h46:=h46.st S55
   exact ⟨(),_,⟨rfl,rfl,rfl,trivial⟩,hB,h41,h8,h11,h14,h17,h46,h25,h28,h31,h34⟩
  replace hy48:=iT hy48
  refine o_nt rfl rfl (o_mv rfl rfl (AC rfl rfl (o_fa rfl rfl (AC rfl rfl ?_))))
  replace h41:=h41.st S55
  refine o_ld (hc:=Blk.cell (i:=1) (h41.1) rfl) rfl rfl ?_
  refine AC rfl rfl (o_fa rfl rfl (AC rfl rfl ?_))
  replace h46:=h46.st S55
  refine o_ld (hc:=Blk.cell (i:=1) (h46.1) rfl) rfl rfl ?_
  refine AC rfl rfl ?_
  obtain ⟨q58,e59,hy48⟩:=bs hy48
  replace h11:=((h11.st S40).st S45).st S55
  replace h28:=((h28.st S40).st S45).st S55
  refine Bg (O:=O54) (A:=All w53) (R:=fun w' F v=>Vb w' F v q58) (FR (fun _ h=>h) (Vb.mono (F:=Fr 0 w53 O54) h11 Fr.lt) (Vb.mono (F:=Fr 0 w53 O54) h28 Fr.lt) e59) rfl rfl fun v64 w60 O61 S62 h63=>?_
  obtain rfl:=h63.bool
  cases q58
  case false =>
   replace hy48:=iF hy48
   refine AC rfl rfl (o_nf rfl rfl (o_pf rfl rfl rfl (o_mv rfl rfl (AB rfl rfl rfl rfl (AB rfl rfl rfl rfl (AB rfl rfl rfl rfl (AB rfl rfl rfl rfl (AB rfl rfl rfl rfl (AB rfl rfl rfl rfl (o_pt rfl rfl rfl (o_mv rfl rfl (AB rfl rfl rfl rfl (AB rfl rfl rfl rfl (AB rfl rfl rfl rfl ?_))))))))))))))
   refine AB rfl rfl rfl rfl (AB rfl rfl rfl rfl (AB rfl rfl rfl rfl (AB rfl rfl rfl rfl (o_pt rfl rfl rfl (o_z ?_)))))
   obtain rfl:=sm hy48
   replace hB:=(((hB.st S40).st S45).st S55).st S62
   replace h8:=(h8.st S55).st S62
   replace h11:=h11.st S62
   replace h14:=(((h14.st S40).st S45).st S55).st S62
   replace h17:=(((h17.st S40).st S45).st S55).st S62
   replace h25:=(h25.st S55).st S62
   replace h28:=h28.st S62
   replace h31:=(((h31.st S40).st S45).st S55).st S62
   replace h34:=(((h34.st S40).st S45).st S55).st S62
   replace h41:=h41.st S62
   replace h46:=h46.st S62
   exact ⟨(),_,⟨rfl,rfl,rfl,trivial⟩,hB,h41,h8,h11,h14,h17,h46,h25,h28,h31,h34⟩
  replace hy48:=iT hy48
  refine AC rfl rfl (o_nt rfl rfl (o_pf rfl rfl rfl (o_mv rfl rfl (AC rfl rfl (o_fa rfl rfl (AC rfl rfl ?_))))))
  replace h41:=h41.st S62
  refine o_ld (hc:=Blk.cell (i:=2) (h41.1) rfl) rfl rfl ?_
  refine AC rfl rfl (o_fa rfl rfl (AC rfl rfl ?_))
  replace h46:=h46.st S62
  refine o_ld (hc:=Blk.cell (i:=2) (h46.1) rfl) rfl rfl ?_
  refine AC rfl rfl ?_
  obtain ⟨q65,e66,hy48⟩:=bs hy48
  replace h14:=(((h14.st S40).st S45).st S55).st S62
  replace h31:=(((h31.st S40).st S45).st S55).st S62
  refine Bg (O:=O61) (A:=All w60) (R:=fun w' F v=>Vb w' F v q65) (FE (fun _ h=>h) (Vb.mono (F:=Fr 0 w60 O61) h14 Fr.lt) (Vb.mono (F:=Fr 0 w60 O61) h31 Fr.lt) e66) rfl rfl fun v71 w67 O68 S69 h70=>?_
  obtain rfl:=h70.bool
  cases q65
  case false =>
   replace hy48:=iF hy48
   refine AC rfl rfl (o_nf rfl rfl (o_pf rfl rfl rfl (o_mv rfl rfl (AB rfl rfl rfl rfl (AB rfl rfl rfl rfl (AB rfl rfl rfl rfl (AB rfl rfl rfl rfl (AB rfl rfl rfl rfl (AB rfl rfl rfl rfl (AB rfl rfl rfl rfl (o_pt rfl rfl rfl (o_z ?_))))))))))))
   obtain rfl:=sm hy48
   replace hB:=((((hB.st S40).st S45).st S55).st S62).st S69
   replace h8:=((h8.st S55).st S62).st S69
   replace h11:=(h11.st S62).st S69
   replace h14:=h14.st S69
   replace h17:=((((h17.st S40).st S45).st S55).st S62).st S69
   replace h25:=((h25.st S55).st S62).st S69
   replace h28:=(h28.st S62).st S69
   replace h31:=h31.st S69
   replace h34:=((((h34.st S40).st S45).st S55).st S62).st S69
   replace h41:=h41.st S69
   replace h46:=h46.st S69
   exact ⟨(),_,⟨rfl,rfl,rfl,trivial⟩,hB,h41,h8,h11,h14,h17,h46,h25,h28,h31,h34⟩
  replace hy48:=iT hy48
  refine AC rfl rfl (o_nt rfl rfl (o_pf rfl rfl rfl (o_mv rfl rfl (AC rfl rfl (o_fa rfl rfl (AC rfl rfl ?_))))))
  replace h41:=h41.st S69
  refine o_ld (hc:=Blk.cell (i:=3) (h41.1) rfl) rfl rfl ?_
  refine AC rfl rfl (o_ln rfl rfl ?_)
  replace h17:=((((h17.st S40).st S45).st S55).st S62).st S69
  have l73:x0.ops.length≤9223372036854775807:=Nat.le_trans h17.len.2.1 h17.len.2.2
  have r72:inI64 (x0.ops.length:Int):=rngNat l73
  refine AC rfl rfl (o_fa rfl rfl (AC rfl rfl ?_))
  replace h46:=h46.st S69
  refine o_ld (hc:=Blk.cell (i:=3) (h46.1) rfl) rfl rfl ?_
  refine AC rfl rfl (o_ln rfl rfl ?_)
  replace h34:=((((h34.st S40).st S45).st S55).st S62).st S69
  have l75:x1.ops.length≤9223372036854775807:=Nat.le_trans h34.len.2.1 h34.len.2.2
  have r74:inI64 (x1.ops.length:Int):=rngNat l75
  refine AC rfl rfl (o_neS rfl rfl rfl (fun c76=>?_) fun c76=>?_)
  ·
   replace hy48:=ip hy48 c76
   refine o_pf rfl rfl rfl (o_z ?_)
   obtain rfl:=sm hy48
   replace hB:=((((hB.st S40).st S45).st S55).st S62).st S69
   replace h8:=((h8.st S55).st S62).st S69
   replace h11:=(h11.st S62).st S69
   replace h14:=h14.st S69
   replace h25:=((h25.st S55).st S62).st S69
   replace h28:=(h28.st S62).st S69
   replace h31:=h31.st S69
   exact ⟨(),_,⟨rfl,rfl,rfl,trivial⟩,hB,h41,h8,h11,h14,h17,h46,h25,h28,h31,h34⟩
  ·
   replace hy48:=im hy48 c76
   refine o_pf rfl rfl rfl (o_z ?_)
   obtain rfl:=sm hy48
   replace hB:=((((hB.st S40).st S45).st S55).st S62).st S69
   replace h8:=((h8.st S55).st S62).st S69
   replace h11:=(h11.st S62).st S69
   replace h14:=h14.st S69
   replace h25:=((h25.st S55).st S62).st S69
   replace h28:=(h28.st S62).st S69
   replace h31:=h31.st S69
   exact ⟨(),_,⟨rfl,rfl,rfl,trivial⟩,hB,h41,h8,h11,h14,h17,h46,h25,h28,h31,h34⟩
 replace hB:=(hB.st S40).st S45
 replace h8:=(h8.st S40).st S45
 replace h11:=(h11.st S40).st S45
 replace h14:=(h14.st S40).st S45
 replace h17:=(h17.st S40).st S45
 replace h25:=(h25.st S40).st S45
 replace h28:=(h28.st S40).st S45
 replace h31:=(h31.st S40).st S45
 replace h34:=(h34.st S40).st S45
 replace h41:=h41.st S45
 rintro l77 w78 ⟨x50,O79,hs80,hB,h41,h8,h11,h14,h17,h46,h25,h28,h31,h34⟩
 refine AM _ hs80 ?_
 refine Ca rfl (fun c81=>?_) (fun c81=>?_)
 ·
  replace hm:=ip hm c81
  refine Ah (Ae (o_as rfl rfl (o_z ?_)))
  refine At ?_
  obtain rfl:=sm hm
  exact ret1v rfl (AF rfl) ⟨hB.ext,vBool⟩
 ·
  replace hm:=im' hm c81
  refine Am (Ah (Ah (Ae (o_fa rfl rfl (o_ld (hc:=Blk.cell (i:=3) (h41.1) rfl) rfl rfl ?_)))))
  refine o_ln rfl rfl ?_
  have l83:x0.ops.length≤9223372036854775807:=Nat.le_trans h17.len.2.1 h17.len.2.2
  have r82:inI64 (x0.ops.length:Int):=rngNat l83
  refine o_mv rfl rfl (o_z ?_)
  obtain ⟨res84,hL85,hm⟩:=bs hm
  refine AL (aft res84 (fun (s86:Unit) (x87:Unit)=>[]) (fun s86 x87 w'=>∃ O':Lab,Bs w A w' O')) ?_ ?_
  ·
   refine Al (Bh (σ:=Unit) (X:=Unit) (x0.ops.length) hL85 rfl l83 (fun (s86:Unit) (x87:Unit)=>[(2,(.pointer (some ⟨g37,0,none⟩))),(3,(.pointer (some ⟨g42,0,none⟩)))]) _ (fun s86 x87 w'=>∃ O':Lab,Bs w A w' O'∧Lc 2 w' O' g37 26 [(.slice A9 x0.vars.length c10),(.slice A12 x0.init.length c13),(.slice A15 x0.goal.length c16),(.slice A18 x0.ops.length c19)]∧Vb w' (Fr 0 w' O') (.slice A9 x0.vars.length c10) x0.vars∧Vb w' (Fr 0 w' O') (.slice A12 x0.init.length c13) x0.init∧Vb w' (Fr 0 w' O') (.slice A15 x0.goal.length c16) x0.goal∧Vb w' (Fr 0 w' O') (.slice A18 x0.ops.length c19) x0.ops∧Lc 3 w' O' g42 26 [(.slice A26 x1.vars.length c27),(.slice A29 x1.init.length c30),(.slice A32 x1.goal.length c33),(.slice A35 x1.ops.length c36)]∧Vb w' (Fr 0 w' O') (.slice A26 x1.vars.length c27) x1.vars∧Vb w' (Fr 0 w' O') (.slice A29 x1.init.length c30) x1.init∧Vb w' (Fr 0 w' O') (.slice A32 x1.goal.length c33) x1.goal∧Vb w' (Fr 0 w' O') (.slice A35 x1.ops.length c36) x1.ops) _ () ⟨O79,hB,h41,h8,h11,h14,h17,h46,h25,h28,h31,h34⟩ ⟨rfl,rfl,rfl,rfl,trivial⟩ (fun _ _=>⟨rfl,rfl⟩) (fun _ _=>trivial) (fun _ _ _ ⟨O',hB,h41,h8,h11,h14,h17,h46,h25,h28,h31,h34⟩=>⟨O',hB⟩) ⟨rfl,rfl,rfl⟩ ⟨rfl,rfl⟩ ?_)
   rintro k88 a89 s86 x87 w90 cc92 hx93 ⟨O91,hB,h41,h8,h11,h14,h17,h46,h25,h28,h31,h34⟩ hf94 hret95 hbrk96
   have rk88:inI64 (k88:Int):=rngK hx93 l83
   refine Ah (Ae (o_mv rfl rfl (o_as rfl rfl (o_z ?_))))
   refine Ah ?_
   obtain ⟨a99,e100,hf94⟩:=bs hf94
   obtain ⟨y101,hy102,hf94⟩:=bs hf94
   refine AL (fun l' w'=>∃ (x104:Nat×Nat×(Option Addr×Nat)×(Option Addr×Nat)×(Option Addr×Nat)×(Option Addr×Nat)) (O':Lab),subs l' [(2,(.pointer (some ⟨g37,0,none⟩))),(3,(.pointer (some ⟨g42,0,none⟩))),(6,(.pointer (some ⟨x104.1,0,none⟩))),(7,(.pointer (some ⟨x104.2.1,0,none⟩))),(41,(.int .i64 (x0.ops.length:Int))),(42,(.int .i64 (k88:Int)))]∧Bs w A w' O'∧Lc 2 w' O' g37 26 [(.slice A9 x0.vars.length c10),(.slice A12 x0.init.length c13),(.slice A15 x0.goal.length c16),(.slice A18 x0.ops.length c19)]∧Vb w' (Fr 0 w' O') (.slice A9 x0.vars.length c10) x0.vars∧Vb w' (Fr 0 w' O') (.slice A12 x0.init.length c13) x0.init∧Vb w' (Fr 0 w' O') (.slice A15 x0.goal.length c16) x0.goal∧Vb w' (Fr 0 w' O') (.slice A18 x0.ops.length c19) x0.ops∧Lc 3 w' O' g42 26 [(.slice A26 x1.vars.length c27),(.slice A29 x1.init.length c30),(.slice A32 x1.goal.length c33),(.slice A35 x1.ops.length c36)]∧Vb w' (Fr 0 w' O') (.slice A26 x1.vars.length c27) x1.vars∧Vb w' (Fr 0 w' O') (.slice A29 x1.init.length c30) x1.init∧Vb w' (Fr 0 w' O') (.slice A32 x1.goal.length c33) x1.goal∧Vb w' (Fr 0 w' O') (.slice A35 x1.ops.length c36) x1.ops∧Lc 4 w' O' x104.1 67 [(.string a89.name),(.int .i64 a89.cost),(.slice x104.2.2.1.1 y101.1.length x104.2.2.1.2),(.slice x104.2.2.2.1.1 y101.2.1.length x104.2.2.2.1.2)]∧Vb w' (Fr 0 w' O') (.slice x104.2.2.1.1 y101.1.length x104.2.2.1.2) y101.1∧Vb w' (Fr 0 w' O') (.slice x104.2.2.2.1.1 y101.2.1.length x104.2.2.2.1.2) y101.2.1∧Lc 5 w' O' x104.2.1 67 [(.string a99.name),(.int .i64 a99.cost),(.slice x104.2.2.2.2.1.1 y101.2.2.1.length x104.2.2.2.2.1.2),(.slice x104.2.2.2.2.2.1 y101.2.2.2.length x104.2.2.2.2.2.2)]∧Vb w' (Fr 0 w' O') (.slice x104.2.2.2.2.1.1 y101.2.2.1.length x104.2.2.2.2.1.2) y101.2.2.1∧Vb w' (Fr 0 w' O') (.slice x104.2.2.2.2.2.1 y101.2.2.2.length x104.2.2.2.2.2.2) y101.2.2.2∧a89.name.size≤9223372036854775807∧inI64 a89.cost∧a99.name.size≤9223372036854775807∧inI64 a99.cost) ?_ ?_
   ·
    refine Be [(12,[4])] O91 ?_
    refine x_pre (fuel:=9) [] [(0,true),(1,true),(2,true),(3,true),(4,true)] (by kernel_rfl) rfl ?_
    refine h_fa rfl rfl rfl (h_ldC (hc:=fun w' ⟨O',hq⟩=>Blk.cell (i:=3) ((h41.st hq (by decide)).1) rfl) rfl rfl rfl ?_)
    refine h_mv rfl rfl rfl ?_
    obtain ⟨b115,o116,ce117,hA118,hF121,hl119,hd120,v122,v123,rfl,h124,h127,r130,z131⟩:=h17.elem hx93
    obtain ⟨A125,c126,rfl⟩:=h124.form
    obtain ⟨A128,c129,rfl⟩:=h127.form
    refine h_iaE (hA:=hA118) (hj:=rfl) (hlt:=hl119) rfl rfl rfl rfl ?_
    refine h_laB (hl:=rfl) (hb:=fun w' ⟨O',hq⟩=>(AQ (hq.agree (i:=0) (by decide)) hF121 hd120)) rfl rfl rfl ?_
    refine AH ?_
    refine x_pre (fuel:=4) [4] [(5,true),(6,true),(7,true),(8,true),(9,true)] (by kernel_rfl) rfl ?_
    refine h_fa rfl rfl rfl (h_ldC (hc:=fun w' ⟨O',hq⟩=>Blk.cell (i:=3) ((h46.st hq (by decide)).1) rfl) rfl rfl rfl ?_)
    refine h_mv rfl rfl rfl ?_
    obtain ⟨b132,o133,ce134,hA135,hF138,hl136,hd137,v139,v140,rfl,h141,h144,r147,z148⟩:=h34.elem e100
    obtain ⟨A142,c143,rfl⟩:=h141.form
    obtain ⟨A145,c146,rfl⟩:=h144.form
    refine h_iaE (hA:=hA135) (hj:=rfl) (hlt:=hl136) rfl rfl rfl rfl ?_
    refine h_laB (hl:=rfl) (hb:=fun w' ⟨O',hq⟩=>(AQ (hq.agree (i:=0) (by decide)) hF138 hd137)) rfl rfl rfl ?_
    refine AH ?_
    refine x_two (i:=10) (j:=11) (by kernel_rfl) rfl rfl ?_ ?_
    ·
     refine AX 4 O91 rfl fun g149 w150 O151 S152 h153=>?_
     have hZ:=S152.lst [] (fun _ h=>h.elim)
     refine x_go [(12,[4])] hZ (by kernel_rfl) ?_
     refine x_one (i:=11) (by kernel_rfl) rfl ?_
     refine AX 5 O151 rfl fun g154 w155 O156 S157 h158=>?_
     have hZ:=S157.lst [] (fun _ h=>h.elim)
     refine x_go [(12,[4])] hZ (by kernel_rfl) ?_
     refine x_one (i:=12) (by kernel_rfl) rfl ?_
     replace h153:=h153.st S157
     refine AK h153 rfl rfl rfl (Nat.le_of_ble_eq_true rfl) (by first|exact allOne rfl|simp [Value.cells,Value.oneCell',AI]) fun w159 S160 h153=>?_
     replace h153:Lc 4 w159 O156 g149 67 [(.string a89.name),(.int .i64 a89.cost),(.slice A125 a89.pre.length c126),(.slice A128 a89.effs.length c129)]:=h153
     have hZ:=S160.lst [4] (fun _ h=>by cases h;decide)
     refine x_go [] hZ (by kernel_rfl) ?_
     refine x_one (i:=13) (by kernel_rfl) rfl ?_
     replace h158:=h158.st S160
     refine AK h158 rfl rfl rfl (Nat.le_of_ble_eq_true rfl) (by first|exact allOne rfl|simp [Value.cells,Value.oneCell',AI]) fun w161 S162 h158=>?_
     replace h158:Lc 5 w161 O156 g154 67 [(.string a99.name),(.int .i64 a99.cost),(.slice A142 a99.pre.length c143),(.slice A145 a99.effs.length c146)]:=h158
     refine x_end (by kernel_rfl) ?_
     refine x_nil (by kernel_rfl) ?_
     obtain rfl:=sm hy102
     replace hB:=(((hB.st S152).st S157).st S160).st S162
     replace h8:=(((h8.st S152).st S157).st S160).st S162
     replace h11:=(((h11.st S152).st S157).st S160).st S162
     replace h14:=(((h14.st S152).st S157).st S160).st S162
     replace h17:=(((h17.st S152).st S157).st S160).st S162
     replace h25:=(((h25.st S152).st S157).st S160).st S162
     replace h28:=(((h28.st S152).st S157).st S160).st S162
     replace h31:=(((h31.st S152).st S157).st S160).st S162
     replace h34:=(((h34.st S152).st S157).st S160).st S162
     replace h41:=(((h41.st S152).st S157).st S160).st S162
     replace h46:=(((h46.st S152).st S157).st S160).st S162
     replace h124:=(((h124.st S152).st S157).st S160).st S162
     replace h127:=(((h127.st S152).st S157).st S160).st S162
     replace h141:=(((h141.st S152).st S157).st S160).st S162
     replace h144:=(((h144.st S152).st S157).st S160).st S162
     replace h153:=h153.st S162
     exact ⟨(g149,g154,(A125,c126),(A128,c129),(A142,c143),(A145,c146)),_,⟨rfl,rfl,rfl,rfl,rfl,rfl,trivial⟩,hB,h41,h8,h11,h14,h17,h46,h25,h28,h31,h34,h153,h124,h127,h158,h141,h144,z131,r130,z148,r147⟩
    ·
     refine AX 5 O91 rfl fun g163 w164 O165 S166 h167=>?_
     have hZ:=S166.lst [] (fun _ h=>h.elim)
     refine x_go [(12,[4])] hZ (by kernel_rfl) ?_
     refine x_one (i:=10) (by kernel_rfl) rfl ?_
     refine AX 4 O165 rfl fun g168 w169 O170 S171 h172=>?_
     have hZ:=S171.lst [] (fun _ h=>h.elim)
     refine x_go [(12,[4])] hZ (by kernel_rfl) ?_
     refine x_one (i:=12) (by kernel_rfl) rfl ?_
     refine AK h172 rfl rfl rfl (Nat.le_of_ble_eq_true rfl) (by first|exact allOne rfl|simp [Value.cells,Value.oneCell',AI]) fun w173 S174 h172=>?_
     replace h172:Lc 4 w173 O170 g168 67 [(.string a89.name),(.int .i64 a89.cost),(.slice A125 a89.pre.length c126),(.slice A128 a89.effs.length c129)]:=h172
     have hZ:=S174.lst [4] (fun _ h=>by cases h;decide)
     refine x_go [] hZ (by kernel_rfl) ?_
     refine x_one (i:=13) (by kernel_rfl) rfl ?_
     replace h167:=(h167.st S171).st S174
     refine AK h167 rfl rfl rfl (Nat.le_of_ble_eq_true rfl) (by first|exact allOne rfl|simp [Value.cells,Value.oneCell',AI]) fun w175 S176 h167=>?_
     replace h167:Lc 5 w175 O170 g163 67 [(.string a99.name),(.int .i64 a99.cost),(.slice A142 a99.pre.length c143),(.slice A145 a99.effs.length c146)]:=h167
     refine x_end (by kernel_rfl) ?_
     refine x_nil (by kernel_rfl) ?_
     obtain rfl:=sm hy102
     replace hB:=(((hB.st S166).st S171).st S174).st S176
     replace h8:=(((h8.st S166).st S171).st S174).st S176
     replace h11:=(((h11.st S166).st S171).st S174).st S176
     replace h14:=(((h14.st S166).st S171).st S174).st S176
     replace h17:=(((h17.st S166).st S171).st S174).st S176
     replace h25:=(((h25.st S166).st S171).st S174).st S176
     replace h28:=(((h28.st S166).st S171).st S174).st S176
     replace h31:=(((h31.st S166).st S171).st S174).st S176
     replace h34:=(((h34.st S166).st S171).st S174).st S176
     replace h41:=(((h41.st S166).st S171).st S174).st S176
     replace h46:=(((h46.st S166).st S171).st S174).st S176
     replace h124:=(((h124.st S166).st S171).st S174).st S176
     replace h127:=(((h127.st S166).st S171).st S174).st S176
     replace h141:=(((h141.st S166).st S171).st S174).st S176
     replace h144:=(((h144.st S166).st S171).st S174).st S176
     replace h172:=h172.st S176
     exact ⟨(g168,g163,(A125,c126),(A128,c129),(A142,c143),(A145,c146)),_,⟨rfl,rfl,rfl,rfl,rfl,rfl,trivial⟩,hB,h41,h8,h11,h14,h17,h46,h25,h28,h31,h34,h172,h124,h127,h167,h141,h144,z131,r130,z148,r147⟩
   rintro l177 w178 ⟨x104,O179,hs180,hB,h41,h8,h11,h14,h17,h46,h25,h28,h31,h34,h105,h107,h108,h106,h109,h110,z111,r112,z113,r114⟩
   refine AM _ hs180 ?_
   refine Ah ?_
   obtain ⟨y181,hy182,hf94⟩:=bs hf94
   refine AL (fun l' w'=>∃ (x184:Unit) (O':Lab),subs l' [(2,(.pointer (some ⟨g37,0,none⟩))),(3,(.pointer (some ⟨g42,0,none⟩))),(41,(.int .i64 (x0.ops.length:Int))),(42,(.int .i64 (k88:Int))),(82,(.bool y181))]∧Bs w A w' O'∧Lc 2 w' O' g37 26 [(.slice A9 x0.vars.length c10),(.slice A12 x0.init.length c13),(.slice A15 x0.goal.length c16),(.slice A18 x0.ops.length c19)]∧Vb w' (Fr 0 w' O') (.slice A9 x0.vars.length c10) x0.vars∧Vb w' (Fr 0 w' O') (.slice A12 x0.init.length c13) x0.init∧Vb w' (Fr 0 w' O') (.slice A15 x0.goal.length c16) x0.goal∧Vb w' (Fr 0 w' O') (.slice A18 x0.ops.length c19) x0.ops∧Lc 3 w' O' g42 26 [(.slice A26 x1.vars.length c27),(.slice A29 x1.init.length c30),(.slice A32 x1.goal.length c33),(.slice A35 x1.ops.length c36)]∧Vb w' (Fr 0 w' O') (.slice A26 x1.vars.length c27) x1.vars∧Vb w' (Fr 0 w' O') (.slice A29 x1.init.length c30) x1.init∧Vb w' (Fr 0 w' O') (.slice A32 x1.goal.length c33) x1.goal∧Vb w' (Fr 0 w' O') (.slice A35 x1.ops.length c36) x1.ops) ?_ ?_
   ·
    refine Ae (o_fa rfl rfl (o_ld (hc:=Blk.cell (i:=0) (h105.1) rfl) rfl rfl ?_))
    refine o_fa rfl rfl (o_ld (hc:=Blk.cell (i:=0) (h106.1) rfl) rfl rfl ?_)
    refine o_tnS rfl rfl rfl (fun c185=>?_) fun c185=>?_
    ·
     replace hy182:=ip hy182 c185
     refine o_mv rfl rfl (AB rfl rfl rfl rfl (AB rfl rfl rfl rfl (AB rfl rfl rfl rfl (AB rfl rfl rfl rfl (AB rfl rfl rfl rfl (o_pt rfl rfl rfl (o_mv rfl rfl (AB rfl rfl rfl rfl (AB rfl rfl rfl rfl (AB rfl rfl rfl rfl (AB rfl rfl rfl rfl (AB rfl rfl rfl rfl (AB rfl rfl rfl rfl (o_pt rfl rfl rfl ?_))))))))))))))
     refine o_mv rfl rfl (AB rfl rfl rfl rfl (AB rfl rfl rfl rfl (AB rfl rfl rfl rfl (AB rfl rfl rfl rfl (AB rfl rfl rfl rfl (AB rfl rfl rfl rfl (o_pt rfl rfl rfl (o_z ?_))))))))
     obtain rfl:=sm hy182
     exact ⟨(),_,⟨rfl,rfl,rfl,rfl,rfl,trivial⟩,hB,h41,h8,h11,h14,h17,h46,h25,h28,h31,h34⟩
    ·
     replace hy182:=im hy182 c185
     refine o_mv rfl rfl (AC rfl rfl (o_fa rfl rfl (AC rfl rfl (o_ld (hc:=Blk.cell (i:=1) (h105.1) rfl) rfl rfl ?_))))
     refine AC rfl rfl (o_fa rfl rfl (AC rfl rfl (o_ld (hc:=Blk.cell (i:=1) (h106.1) rfl) rfl rfl ?_)))
     refine AC rfl rfl (o_neS rfl rfl rfl (fun c186=>?_) fun c186=>?_)
     ·
      replace hy182:=ip hy182 c186
      refine o_pf rfl rfl rfl (o_mv rfl rfl (AB rfl rfl rfl rfl (AB rfl rfl rfl rfl (AB rfl rfl rfl rfl (AB rfl rfl rfl rfl (AB rfl rfl rfl rfl (AB rfl rfl rfl rfl (o_pt rfl rfl rfl (o_mv rfl rfl (AB rfl rfl rfl rfl (AB rfl rfl rfl rfl (AB rfl rfl rfl rfl (AB rfl rfl rfl rfl (AB rfl rfl rfl rfl ?_))))))))))))))
      refine AB rfl rfl rfl rfl (o_pt rfl rfl rfl (o_z ?_))
      obtain rfl:=sm hy182
      exact ⟨(),_,⟨rfl,rfl,rfl,rfl,rfl,trivial⟩,hB,h41,h8,h11,h14,h17,h46,h25,h28,h31,h34⟩
     ·
      replace hy182:=im hy182 c186
      refine o_pf rfl rfl rfl (o_mv rfl rfl (AC rfl rfl (o_fa rfl rfl (AC rfl rfl (o_ld (hc:=Blk.cell (i:=2) (h105.1) rfl) rfl rfl ?_)))))
      refine AC rfl rfl (o_fa rfl rfl (AC rfl rfl (o_ld (hc:=Blk.cell (i:=2) (h106.1) rfl) rfl rfl ?_)))
      refine AC rfl rfl ?_
      obtain ⟨q187,e188,hy182⟩:=bs hy182
      refine Bg (O:=O179) (A:=All w178) (R:=fun w' F v=>Vb w' F v q187) (FE (fun _ h=>h) (Vb.mono (F:=Fr 0 w178 O179) h107 Fr.lt) (Vb.mono (F:=Fr 0 w178 O179) h109 Fr.lt) e188) rfl rfl fun v193 w189 O190 S191 h192=>?_
      obtain rfl:=h192.bool
      cases q187
      case false =>
       replace hy182:=iF hy182
       refine AC rfl rfl (o_nf rfl rfl (o_pf rfl rfl rfl (o_mv rfl rfl (AB rfl rfl rfl rfl (AB rfl rfl rfl rfl (AB rfl rfl rfl rfl (AB rfl rfl rfl rfl (AB rfl rfl rfl rfl (AB rfl rfl rfl rfl (o_pt rfl rfl rfl (o_z ?_)))))))))))
       obtain rfl:=sm hy182
       replace hB:=hB.st S191
       replace h8:=h8.st S191
       replace h11:=h11.st S191
       replace h14:=h14.st S191
       replace h17:=h17.st S191
       replace h25:=h25.st S191
       replace h28:=h28.st S191
       replace h31:=h31.st S191
       replace h34:=h34.st S191
       replace h41:=h41.st S191
       replace h46:=h46.st S191
       exact ⟨(),_,⟨rfl,rfl,rfl,rfl,rfl,trivial⟩,hB,h41,h8,h11,h14,h17,h46,h25,h28,h31,h34⟩
      replace hy182:=iT hy182
      refine AC rfl rfl (o_nt rfl rfl (o_pf rfl rfl rfl (o_mv rfl rfl (AC rfl rfl (o_fa rfl rfl (AC rfl rfl ?_))))))
      replace h105:=h105.st S191
      refine o_ld (hc:=Blk.cell (i:=3) (h105.1) rfl) rfl rfl ?_
      refine AC rfl rfl (o_fa rfl rfl (AC rfl rfl ?_))
      replace h106:=h106.st S191
      refine o_ld (hc:=Blk.cell (i:=3) (h106.1) rfl) rfl rfl ?_
      refine AC rfl rfl ?_
      obtain ⟨q194,e195,hy182⟩:=bs hy182
      replace h108:=h108.st S191
      replace h110:=h110.st S191
      refine Bg (O:=O190) (A:=All w189) (R:=fun w' F v=>Vb w' F v q194) (IA (fun _ h=>h) (Vb.mono (F:=Fr 0 w189 O190) h108 Fr.lt) (Vb.mono (F:=Fr 0 w189 O190) h110 Fr.lt) e195) rfl rfl fun v200 w196 O197 S198 h199=>?_
      obtain rfl:=h199.bool
      cases q194
      case false =>
       replace hy182:=iF hy182
       refine AC rfl rfl (o_nf rfl rfl (o_pf rfl rfl rfl (o_z ?_)))
       obtain rfl:=sm hy182
       replace hB:=(hB.st S191).st S198
       replace h8:=(h8.st S191).st S198
       replace h11:=(h11.st S191).st S198
       replace h14:=(h14.st S191).st S198
       replace h17:=(h17.st S191).st S198
       replace h25:=(h25.st S191).st S198
       replace h28:=(h28.st S191).st S198
       replace h31:=(h31.st S191).st S198
       replace h34:=(h34.st S191).st S198
       replace h41:=(h41.st S191).st S198
       replace h46:=(h46.st S191).st S198
       exact ⟨(),_,⟨rfl,rfl,rfl,rfl,rfl,trivial⟩,hB,h41,h8,h11,h14,h17,h46,h25,h28,h31,h34⟩
      replace hy182:=iT hy182
      refine AC rfl rfl (o_nt rfl rfl (o_pf rfl rfl rfl (o_z ?_)))
      obtain rfl:=sm hy182
      replace hB:=(hB.st S191).st S198
      replace h8:=(h8.st S191).st S198
      replace h11:=(h11.st S191).st S198
      replace h14:=(h14.st S191).st S198
      replace h17:=(h17.st S191).st S198
      replace h25:=(h25.st S191).st S198
      replace h28:=(h28.st S191).st S198
      replace h31:=(h31.st S191).st S198
      replace h34:=(h34.st S191).st S198
      replace h41:=(h41.st S191).st S198
      replace h46:=(h46.st S191).st S198
      exact ⟨(),_,⟨rfl,rfl,rfl,rfl,rfl,trivial⟩,hB,h41,h8,h11,h14,h17,h46,h25,h28,h31,h34⟩
   rintro l201 w202 ⟨x184,O203,hs204,hB,h41,h8,h11,h14,h17,h46,h25,h28,h31,h34⟩
   refine AM _ hs204 ?_
   refine Ca rfl (fun c205=>?_) (fun c205=>?_)
   ·
    replace hf94:=ip hf94 c205
    refine Ah (Ae (o_as rfl rfl (o_z ?_)))
    refine At ?_
    obtain rfl:=sm hf94
    obtain rfl:=hret95 _ rfl
    obtain rfl:=sm (BW hm)
    exact ret1v rfl (AF rfl) ⟨hB.ext,vBool⟩
   ·
    replace hf94:=im' hf94 c205
    refine Am ?_
    obtain rfl:=sm hf94
    refine (?_:Exists _)
    exact ⟨_,(),rfl,⟨rfl,rfl,rfl,rfl,trivial⟩,_,hB,h41,h8,h11,h14,h17,h46,h25,h28,h31,h34⟩
  rintro l206 w207 ⟨s210,x211,rfl,hs209,O208,hB⟩
  replace hm:=AR hm
  refine AM _ hs209 ?_
  refine Ah (Ae (o_as rfl rfl (o_z ?_)))
  refine At ?_
  obtain rfl:=sm hm
  exact ret1v rfl (AF rfl) ⟨hB.ext,vBool⟩
noncomputable def De (x0:Opr) (x1:Int) (x2:Int):Option Opr :=
  bnd (chkI (x2 + 1)) fun n25=>bnd (appI 16 ([]:List Fct) x0.pre) fun u41=>bnd (appI 16 u41 ([(⟨x1,x2⟩:Fct)]:List Fct)) fun u61=>bnd (appI 40 ([]:List Eff) x0.effs) fun u81=>bnd (appI 40 u81 ([(⟨([]:List Fct),x1,n25⟩:Eff)]:List Eff)) fun u101=>some (⟨x0.name,x0.cost,u61,u101⟩:Opr)
theorem GL {w:World} {A:Nat→Prop} (hA:∀ k,A k→k < w.heap.size) {vx0:Value} {x0:Opr} (hx0:Vb w A vx0 x0) {x1:Int} (rx1:inI64 x1) {x2:Int} (rx2:inI64 x2) {r:Opr} (hm:De x0 x1 x2=some r) :
    Fn Tryz.prog 33 [vx0,(.int .i64 x1),(.int .i64 x2)] w fun v w'=>Ext w w'∧Vb w' (upA A w w') v r:=by
 obtain ⟨O,hB,hA0⟩:=enter hA
 replace hx0:=hx0.mono hA0
 obtain ⟨cs4,rfl,v5,v6,rfl,h7,h10,r13,z14⟩:=hx0
 obtain ⟨A8,c9,rfl⟩:=h7.form
 obtain ⟨A11,c12,rfl⟩:=h10.form
 refine AJ Tryz.func33 rfl Tryz.ntmps33 rfl ?_
 unfold De at hm
 refine Ah (Ae (l_box 2 O rfl rfl fun g15 w16 O17 S18 h19=>?_))
 replace h19:Lc 2 w16 O17 g15 67 [(.string x0.name),(.int .i64 x0.cost),(.slice A8 x0.pre.length c9),(.slice A11 x0.effs.length c12)]:=h19
 refine AX 3 O17 rfl fun g20 w21 O22 S23 h24=>?_
 refine o_z ?_
 refine Ah (Be [(7,[4]),(12,[4]),(16,[6]),(22,[6])] O22 ?_)
 refine x_pre (fuel:=23) [] [(5,true),(6,true)] (by kernel_rfl) rfl ?_
 refine h_fa rfl rfl rfl ?_
 replace h19:=h19.st S23
 refine h_ldC (hc:=fun w' ⟨O',hq⟩=>Blk.cell (i:=2) ((h19.st hq (by decide)).1) rfl) rfl rfl rfl ?_
 refine AH ?_
 refine x_pre (fuel:=18) [4] [(8,true),(9,true),(10,true),(14,true),(15,true)] (by kernel_rfl) rfl ?_
 refine h_mv rfl rfl rfl (h_mv rfl rfl rfl (h_bd rfl rfl rfl rfl ?_))
 refine h_fa rfl rfl rfl (h_ldC (hc:=fun w' ⟨O',hq⟩=>Blk.cell (i:=3) ((h19.st hq (by decide)).1) rfl) rfl rfl rfl ?_)
 refine AH ?_
 refine x_pre (fuel:=10) [4,6] [(0,true),(1,true),(2,true),(3,true),(17,true),(18,true),(19,true),(20,true)] (by kernel_rfl) rfl ?_
 refine h_fa rfl rfl rfl (h_ldC (hc:=fun w' ⟨O',hq⟩=>Blk.cell (i:=0) ((h19.st hq (by decide)).1) rfl) rfl rfl rfl ?_)
 refine h_fa rfl rfl rfl (h_ldC (hc:=fun w' ⟨O',hq⟩=>Blk.cell (i:=1) ((h19.st hq (by decide)).1) rfl) rfl rfl rfl ?_)
 refine h_mv rfl rfl rfl (h_mv rfl rfl rfl ?_)
 obtain ⟨n25,e26,hm⟩:=bs hm
 have r27:=(Bc e26)
 refine h_adE (he:=e26) rfl rfl rfl rfl ?_
 refine h_bd rfl rfl rfl rfl ?_
 refine AH ?_
 refine z_cut (z:=(zRow (α:=Fct) 4 11 4 62 0 ([]:List Fct))) [] (Cy (by decide) rfl rfl rfl rfl rfl (fun _ _=>trivial) (by decide) (by decide) rfl) fun hz28=>?_
 refine z_cut (z:=(zRow (α:=Fct) 11 18 5 62 1 ([(⟨x1,x2⟩:Fct)]:List Fct))) [(17,(.agg #[(.int .i64 x1),(.int .i64 x2)]))] (Cy (by decide) rfl rfl rfl rfl rfl (fun _ _=>⟨(Vb.ofAgg (cs:=[(.int .i64 x1),(.int .i64 x2)]) (x:=(⟨x1,x2⟩:Fct)) rfl ⟨rfl,rx1,rx2⟩),trivial⟩) (by decide) (by decide) rfl) fun hz29=>?_
 refine z_cut (z:=(zRow (α:=Eff) 13 20 6 64 0 ([]:List Eff))) [] (Cy (by decide) rfl rfl rfl rfl rfl (fun _ _=>trivial) (by decide) (by decide) rfl) fun hz30=>?_
 refine z_cut (z:=(zRow (α:=Eff) 21 28 7 64 1 ([(⟨([]:List Fct),x1,n25⟩:Eff)]:List Eff))) [(27,(.agg #[(.slice none 0 0),(.int .i64 x1),(.int .i64 n25)]))] (Cy (by decide) rfl rfl rfl rfl rfl (fun _ _=>⟨(Vb.ofAgg (cs:=[(.slice none 0 0),(.int .i64 x1),(.int .i64 n25)]) (x:=(⟨([]:List Fct),x1,n25⟩:Eff)) rfl ⟨_,rfl,(Vb.nil _ _),rx1,r27⟩),trivial⟩) (by decide) (by decide) rfl) fun hz31=>?_
 refine Ix (zs:=[(zRow (α:=Fct) 4 11 4 62 0 ([]:List Fct)),(zRow (α:=Fct) 11 18 5 62 1 ([(⟨x1,x2⟩:Fct)]:List Fct)),(zRow (α:=Eff) 13 20 6 64 0 ([]:List Eff)),(zRow (α:=Eff) 21 28 7 64 1 ([(⟨([]:List Fct),x1,n25⟩:Eff)]:List Eff))]) (fuel:=6) [(6,(.pointer (some ⟨g20,0,none⟩))),(8,(.string x0.name)),(10,(.int .i64 x0.cost)),(13,(.slice A8 x0.pre.length c9)),(17,(.agg #[(.int .i64 x1),(.int .i64 x2)])),(22,(.slice A11 x0.effs.length c12)),(27,(.agg #[(.slice none 0 0),(.int .i64 x1),(.int .i64 n25)]))] ⟨rfl,rfl,rfl,rfl,rfl,rfl,rfl,trivial⟩ rfl (by kernel_rfl) ?_
 refine Cm (m:=7) (by kernel_rfl) rfl (by kernel_rfl) (by kernel_rfl) ⟨⟨_,hz28,trivial⟩,⟨_,hz29,⟨rfl,trivial⟩⟩,⟨_,hz30,trivial⟩,⟨_,hz31,⟨rfl,trivial⟩⟩,trivial⟩ fun u32 w33 O34 S35 hF36=>?_
 obtain ⟨g38,e37,h39⟩:=hF36.1 (by kernel_rfl)
 refine Cn [(6,(.pointer (some ⟨g20,0,none⟩))),(8,(.string x0.name)),(10,(.int .i64 x0.cost)),(11,(.slice (some ⟨g38,0,none⟩) ([]:List Fct).length 0)),(13,(.slice A8 x0.pre.length c9)),(17,(.agg #[(.int .i64 x1),(.int .i64 x2)])),(18,(u32 18)),(20,(u32 20)),(22,(.slice A11 x0.effs.length c12)),(27,(.agg #[(.slice none 0 0),(.int .i64 x1),(.int .i64 n25)])),(28,(u32 28))] ⟨rfl,rfl,rfl,(congrArg some e37),rfl,rfl,rfl,rfl,rfl,rfl,rfl,trivial⟩ ?_
 obtain ⟨u41,e42,hm⟩:=bs hm
 obtain ⟨e42,e43,e44⟩:=AO e42
 replace h7:=((h7.st S18).st S23).st S35
 refine Bb rfl h39 (h7.rd) rfl rfl (by decide) e43 e44 rfl fun A45 c46 w47 O48 S49 h50=>?_
 rw [← e42] at h50 ⊢
 have hZ:=S49.lst [4] (fun _ h=>by cases h;decide)
 refine z_go (zs':=[(zRow (α:=Fct) 11 18 5 62 1 ([(⟨x1,x2⟩:Fct)]:List Fct)),(zRow (α:=Eff) 13 20 6 64 0 ([]:List Eff)),(zRow (α:=Eff) 21 28 7 64 1 ([(⟨([]:List Fct),x1,n25⟩:Eff)]:List Eff))]) [(12,[4]),(16,[6]),(22,[6])] [(6,(.pointer (some ⟨g20,0,none⟩))),(8,(.string x0.name)),(10,(.int .i64 x0.cost)),(14,(.slice A45 u41.length c46)),(17,(.agg #[(.int .i64 x1),(.int .i64 x2)])),(22,(.slice A11 x0.effs.length c12)),(27,(.agg #[(.slice none 0 0),(.int .i64 x1),(.int .i64 n25)]))] (by kernel_rfl) hZ (by kernel_rfl) ⟨rfl,rfl,rfl,trivial⟩ ⟨rfl,rfl,rfl,rfl,rfl,rfl,rfl,trivial⟩ ?_
 refine Cm (m:=12) (by kernel_rfl) rfl (by kernel_rfl) (by kernel_rfl) ⟨⟨_,hz29,⟨rfl,trivial⟩⟩,⟨_,hz30,trivial⟩,⟨_,hz31,⟨rfl,trivial⟩⟩,trivial⟩ fun u52 w53 O54 S55 hF56=>?_
 obtain ⟨g58,e57,h59⟩:=hF56.1 (by kernel_rfl)
 refine Cn [(6,(.pointer (some ⟨g20,0,none⟩))),(8,(.string x0.name)),(10,(.int .i64 x0.cost)),(14,(.slice A45 u41.length c46)),(17,(.agg #[(.int .i64 x1),(.int .i64 x2)])),(18,(.slice (some ⟨g58,0,none⟩) ([(⟨x1,x2⟩:Fct)]:List Fct).length 1)),(20,(u52 20)),(22,(.slice A11 x0.effs.length c12)),(27,(.agg #[(.slice none 0 0),(.int .i64 x1),(.int .i64 n25)])),(28,(u52 28))] ⟨rfl,rfl,rfl,rfl,rfl,(congrArg some e57),rfl,rfl,rfl,rfl,trivial⟩ ?_
 obtain ⟨u61,e62,hm⟩:=bs hm
 obtain ⟨e62,e63,e64⟩:=AO e62
 replace h50:=h50.st S55
 refine Bb rfl h50 (h59.rd) rfl rfl (by decide) e63 e64 rfl fun A65 c66 w67 O68 S69 h70=>?_
 rw [← e62] at h70 ⊢
 have hZ:=S69.lst [4] (fun _ h=>by cases h;decide)
 refine z_go (zs':=[(zRow (α:=Eff) 13 20 6 64 0 ([]:List Eff)),(zRow (α:=Eff) 21 28 7 64 1 ([(⟨([]:List Fct),x1,n25⟩:Eff)]:List Eff))]) [(16,[6]),(22,[6])] [(6,(.pointer (some ⟨g20,0,none⟩))),(8,(.string x0.name)),(10,(.int .i64 x0.cost)),(19,(.slice A65 u61.length c66)),(22,(.slice A11 x0.effs.length c12)),(27,(.agg #[(.slice none 0 0),(.int .i64 x1),(.int .i64 n25)]))] (by kernel_rfl) hZ (by kernel_rfl) ⟨rfl,rfl,trivial⟩ ⟨rfl,rfl,rfl,rfl,rfl,rfl,trivial⟩ ?_
 refine Cm (m:=16) (by kernel_rfl) rfl (by kernel_rfl) (by kernel_rfl) ⟨⟨_,hz30,trivial⟩,⟨_,hz31,⟨rfl,trivial⟩⟩,trivial⟩ fun u72 w73 O74 S75 hF76=>?_
 obtain ⟨g78,e77,h79⟩:=hF76.1 (by kernel_rfl)
 refine Cn [(6,(.pointer (some ⟨g20,0,none⟩))),(8,(.string x0.name)),(10,(.int .i64 x0.cost)),(19,(.slice A65 u61.length c66)),(20,(.slice (some ⟨g78,0,none⟩) ([]:List Eff).length 0)),(22,(.slice A11 x0.effs.length c12)),(27,(.agg #[(.slice none 0 0),(.int .i64 x1),(.int .i64 n25)])),(28,(u72 28))] ⟨rfl,rfl,rfl,rfl,(congrArg some e77),rfl,rfl,rfl,trivial⟩ ?_
 obtain ⟨u81,e82,hm⟩:=bs hm
 obtain ⟨e82,e83,e84⟩:=AO e82
 replace h10:=((((((h10.st S18).st S23).st S35).st S49).st S55).st S69).st S75
 refine Bb rfl h79 (h10.rd) rfl rfl (by decide) e83 e84 rfl fun A85 c86 w87 O88 S89 h90=>?_
 rw [← e82] at h90 ⊢
 have hZ:=S89.lst [6] (fun _ h=>by cases h;decide)
 refine z_go (zs':=[(zRow (α:=Eff) 21 28 7 64 1 ([(⟨([]:List Fct),x1,n25⟩:Eff)]:List Eff))]) [(22,[6])] [(6,(.pointer (some ⟨g20,0,none⟩))),(8,(.string x0.name)),(10,(.int .i64 x0.cost)),(19,(.slice A65 u61.length c66)),(23,(.slice A85 u81.length c86)),(27,(.agg #[(.slice none 0 0),(.int .i64 x1),(.int .i64 n25)]))] (by kernel_rfl) hZ (by kernel_rfl) ⟨rfl,trivial⟩ ⟨rfl,rfl,rfl,rfl,rfl,rfl,trivial⟩ ?_
 refine Cm (m:=22) (by kernel_rfl) rfl (by kernel_rfl) (by kernel_rfl) ⟨⟨_,hz31,⟨rfl,trivial⟩⟩,trivial⟩ fun u92 w93 O94 S95 hF96=>?_
 obtain ⟨g98,e97,h99⟩:=hF96.1 (by kernel_rfl)
 refine Cn [(6,(.pointer (some ⟨g20,0,none⟩))),(8,(.string x0.name)),(10,(.int .i64 x0.cost)),(19,(.slice A65 u61.length c66)),(23,(.slice A85 u81.length c86)),(27,(.agg #[(.slice none 0 0),(.int .i64 x1),(.int .i64 n25)])),(28,(.slice (some ⟨g98,0,none⟩) ([(⟨([]:List Fct),x1,n25⟩:Eff)]:List Eff).length 1))] ⟨rfl,rfl,rfl,rfl,rfl,rfl,(congrArg some e97),trivial⟩ ?_
 obtain ⟨u101,e102,hm⟩:=bs hm
 obtain ⟨e102,e103,e104⟩:=AO e102
 replace h90:=h90.st S95
 refine Bb rfl h90 (h99.rd) rfl rfl (by decide) e103 e104 rfl fun A105 c106 w107 O108 S109 h110=>?_
 rw [← e102] at h110 ⊢
 have hZ:=S109.lst [6] (fun _ h=>by cases h;decide)
 refine z_go (zs':=[]) [] [(6,(.pointer (some ⟨g20,0,none⟩))),(8,(.string x0.name)),(10,(.int .i64 x0.cost)),(19,(.slice A65 u61.length c66)),(29,(.slice A105 u101.length c106))] (by kernel_rfl) hZ (by kernel_rfl) trivial ⟨rfl,rfl,rfl,rfl,rfl,trivial⟩ ?_
 refine Hc ?_
 refine x_pre (fuel:=1) [] [(23,true)] (by kernel_rfl) rfl ?_
 refine h_bd rfl rfl rfl rfl ?_
 refine AH ?_
 refine x_one (i:=24) (by kernel_rfl) rfl ?_
 replace h24:=(((((((h24.st S35).st S49).st S55).st S69).st S75).st S89).st S95).st S109
 refine AK h24 rfl rfl rfl (Nat.le_of_ble_eq_true rfl) (by first|exact allOne rfl|simp [Value.cells,Value.oneCell',AI]) fun w112 S113 h24=>?_
 replace h24:Lc 3 w112 O108 g20 67 [(.string x0.name),(.int .i64 x0.cost),(.slice A65 u61.length c66),(.slice A105 u101.length c106)]:=h24
 refine x_end (by kernel_rfl) ?_
 refine x_nil (by kernel_rfl) ?_
 refine At ?_
 replace h70:=((((h70.st S75).st S89).st S95).st S109).st S113
 obtain ⟨O114,S115,h70⟩:=h70.freeze
 replace h110:=(h110.st S113).st S115
 obtain ⟨O116,S117,h110⟩:=h110.freeze
 obtain rfl:=sm hm
 replace hB:=((((((((((((hB.st S18).st S23).st S35).st S49).st S55).st S69).st S75).st S89).st S95).st S109).st S113).st S115).st S117
 replace h24:=(h24.st S115).st S117
 replace h70:=h70.st S117
 exact ret1v rfl (Bf (cs:=[(.string x0.name),(.int .i64 x0.cost),(.slice A65 u61.length c66),(.slice A105 u101.length c106)]) rfl rfl h24.1.cellsAt) ⟨hB.ext,(Vb.mono (F:=Fr 0 w112 O116) (Vb.ofAgg (cs:=[(.string x0.name),(.int .i64 x0.cost),(.slice A65 u61.length c66),(.slice A105 u101.length c106)]) (x:=(⟨x0.name,x0.cost,u61,u101⟩:Opr)) rfl ⟨_,_,rfl,h70,h110,r13,z14⟩) hB.out)⟩
noncomputable def BC (x0:Tsk) (x1:List ByteArray) (x2:Int):Option (Tsk×Int) :=
  bnd (CH x0) fun q33=>if q33≠0 then (some ((⟨([]:List Int),([]:List Int),([]:List Fct),([]:List Opr)⟩:Tsk),q33)) else (bnd (if x2 < 0 then (some true) else (if 1000 < x2 then (some true) else (some false)):Option Bool) fun y44=>if y44=true then (some ((⟨([]:List Int),([]:List Int),([]:List Fct),([]:List Opr)⟩:Tsk),1)) else (if 63 < (x1.length:Int) then (some ((⟨([]:List Int),([]:List Int),([]:List Fct),([]:List Opr)⟩:Tsk),5)) else (bnd (chkI ((x1.length:Int) + 1)) fun n64=>bnd (appI 8 ([]:List Int) x0.vars) fun u66=>bnd (appI 8 u66 ([n64]:List Int)) fun u68=>bnd (appI 8 ([]:List Int) x0.init) fun u70=>bnd (appI 8 u70 ([0]:List Int)) fun u72=>bnd (appI 16 ([]:List Fct) x0.goal) fun u74=>bnd (appI 16 u74 ([(⟨(x0.vars.length:Int),(x1.length:Int)⟩:Fct)]:List Fct)) fun u76=>bnd (some (u68,u72,u76):Option ((List Int)×(List Int)×(List Fct))) fun y78=>bnd (rng (ρ:=Tsk×Int) (fun (k232:Nat) (a233:Opr) (s230:(List Opr))=>bnd (chkI (a233.cost + x2)) fun n271=>bnd (appI 72 s230 [(⟨a233.name,n271,a233.pre,a233.effs⟩:Opr)]) fun u276=>some (.next u276)) x0.ops 0 ([]:List Opr)) fun res228=>fin res228 fun (s294:(List Opr))=>bnd (rng (ρ:=Tsk×Int) (fun (k302:Nat) (a303:ByteArray) (s300:(List Opr))=>bnd (rng (ρ:=Ctl (List Opr) (Tsk×Int)) (fun (k331:Nat) (a332:Opr) (s329:(List Opr))=>if a332.name=a303 then (bnd (De a332 (x0.vars.length:Int) (k302:Int)) fun q371=>bnd (appI 72 s329 [q371]) fun u395=>some (.next u395)) else (some (.next s329))) x0.ops 0 s300) fun res327=>fin res327 fun (s412:(List Opr))=>bnd (De (⟨(⟨#[]⟩:ByteArray),x2,([]:List Fct),([]:List Eff)⟩:Opr) (x0.vars.length:Int) (k302:Int)) fun q414=>bnd (appI 72 s412 [q414]) fun u438=>some (.next u438)) x1 0 s294) fun res298=>fin res298 fun (s455:(List Opr))=>bnd (CH (⟨y78.1,y78.2.1,y78.2.2,s455⟩:Tsk)) fun q465=>if q465≠0 then (some ((⟨([]:List Int),([]:List Int),([]:List Fct),([]:List Opr)⟩:Tsk),q465)) else (some ((⟨y78.1,y78.2.1,y78.2.2,s455⟩:Tsk),0)))))
set_option maxHeartbeats 1000000 in
theorem In {w:World} {A:Nat→Prop} (hA:∀ k,A k→k < w.heap.size) {vx0:Value} {x0:Tsk} (hx0:Vb w A vx0 x0) {vx1:Value} {x1:List ByteArray} (hx1:Vb w A vx1 x1) {x2:Int} (rx2:inI64 x2) {r:Tsk×Int} (hm:BC x0 x1 x2=some r) :
    Fn Tryz.prog 12 [vx0,vx1,(.int .i64 x2)] w fun v w'=>Ext w w'∧T2 w' (upA A w w') v r:=by
 obtain ⟨O,hB,hA0⟩:=enter hA
 replace hx0:=hx0.mono hA0
 obtain ⟨cs4,rfl,v5,v6,v7,v8,rfl,h9,h12,h15,h18⟩:=hx0
 obtain ⟨A10,c11,rfl⟩:=h9.form
 obtain ⟨A13,c14,rfl⟩:=h12.form
 obtain ⟨A16,c17,rfl⟩:=h15.form
 obtain ⟨A19,c20,rfl⟩:=h18.form
 replace hx1:=hx1.mono hA0
 obtain ⟨A21,c22,rfl⟩:=hx1.form
 refine AJ Tryz.func12 rfl Tryz.ntmps12 rfl ?_
 unfold BC at hm
 refine Ah (Ae (l_box 2 O rfl rfl fun g23 w24 O25 S26 h27=>?_))
 replace h27:Lc 2 w24 O25 g23 26 [(.slice A10 x0.vars.length c11),(.slice A13 x0.init.length c14),(.slice A16 x0.goal.length c17),(.slice A19 x0.ops.length c20)]:=h27
 refine AX 3 O25 rfl fun g28 w29 O30 S31 h32=>?_
 refine o_as rfl rfl (o_z ?_)
 refine Ah (Ah (Ae ?_))
 replace h27:=h27.st S31
 refine o_la (hl:=rfl) (hc:=(h27.1).cellsAt) rfl rfl ?_
 obtain ⟨q33,e34,hm⟩:=bs hm
 replace h9:=(h9.st S26).st S31
 replace h12:=(h12.st S26).st S31
 replace h15:=(h15.st S26).st S31
 replace h18:=(h18.st S26).st S31
 refine Bg (O:=O30) (A:=All w29) (R:=fun w' F v=>Vb w' F v q33) (GK (fun _ h=>h) (Vb.mono (F:=Fr 0 w29 O30) (Vb.ofAgg (cs:=[(.slice A10 x0.vars.length c11),(.slice A13 x0.init.length c14),(.slice A16 x0.goal.length c17),(.slice A19 x0.ops.length c20)]) (x:=x0) rfl ⟨_,_,_,_,rfl,h9,h12,h15,h18⟩) Fr.lt) e34) rfl rfl fun v39 w35 O36 S37 h38=>?_
 obtain ⟨rfl,r40⟩:=h38.int
 refine o_as rfl rfl (o_z ?_)
 refine Ah (Ae (o_mv rfl rfl (o_neS rfl rfl rfl (fun c41=>?_) fun c41=>?_)))
 ·
  replace hm:=ip hm c41
  refine o_z ?_
  refine Ar rfl (Ah (Ae (o_bd rfl rfl rfl ?_)))
  refine o_mv rfl rfl ?_
  replace h32:=h32.st S37
  refine AK h32 rfl rfl rfl (Nat.le_of_ble_eq_true rfl) (by first|exact allOne rfl|simp [Value.cells,Value.oneCell',AI]) fun w42 S43 h32=>?_
  replace h32:Lc 3 w42 O36 g28 26 [(.slice none 0 0),(.slice none 0 0),(.slice none 0 0),(.slice none 0 0)]:=h32
  refine o_as rfl rfl (o_z ?_)
  refine At ?_
  obtain rfl:=sm hm
  replace hB:=(((hB.st S26).st S31).st S37).st S43
  exact ret2 rfl (Bf (cs:=[(.slice none 0 0),(.slice none 0 0),(.slice none 0 0),(.slice none 0 0)]) rfl rfl h32.1.cellsAt) (AF rfl) ⟨hB.ext,_,_,rfl,(Vb.mono (F:=Fr 0 w42 O36) (Vb.ofAgg (cs:=[(.slice none 0 0),(.slice none 0 0),(.slice none 0 0),(.slice none 0 0)]) (x:=(⟨([]:List Int),([]:List Int),([]:List Fct),([]:List Opr)⟩:Tsk)) rfl ⟨_,_,_,_,rfl,(Vb.nil _ _),(Vb.nil _ _),(Vb.nil _ _),(Vb.nil _ _)⟩) hB.out),(vInt r40)⟩
 ·
  replace hm:=im hm c41
  refine o_z ?_
  refine Aj rfl (Am (Ah (Ah ?_)))
  obtain ⟨y44,hy45,hm⟩:=bs hm
  refine AL (fun l' w'=>∃ (x47:Unit) (O':Lab),subs l' [(1,(.slice A21 x1.length c22)),(2,(.int .i64 x2)),(3,(.pointer (some ⟨g23,0,none⟩))),(6,(.pointer (some ⟨g28,0,none⟩))),(29,(.bool y44))]∧Bs w A w' O'∧Vb w' (Fr 0 w' O') (.slice A21 x1.length c22) x1∧Lc 2 w' O' g23 26 [(.slice A10 x0.vars.length c11),(.slice A13 x0.init.length c14),(.slice A16 x0.goal.length c17),(.slice A19 x0.ops.length c20)]∧Vb w' (Fr 0 w' O') (.slice A10 x0.vars.length c11) x0.vars∧Vb w' (Fr 0 w' O') (.slice A13 x0.init.length c14) x0.init∧Vb w' (Fr 0 w' O') (.slice A16 x0.goal.length c17) x0.goal∧Vb w' (Fr 0 w' O') (.slice A19 x0.ops.length c20) x0.ops∧Lc 3 w' O' g28 26 [(.slice none 0 0),(.slice none 0 0),(.slice none 0 0),(.slice none 0 0)]) ?_ ?_
  ·
   refine Ae (o_mv rfl rfl (o_ltS rfl rfl rfl (fun c48=>?_) fun c48=>?_))
   ·
    replace hy45:=ip hy45 c48
    refine o_mv rfl rfl (AB rfl rfl rfl rfl (AB rfl rfl rfl rfl (o_pt rfl rfl rfl (o_z ?_))))
    obtain rfl:=sm hy45
    replace hB:=((hB.st S26).st S31).st S37
    replace hx1:=((hx1.st S26).st S31).st S37
    replace h9:=h9.st S37
    replace h12:=h12.st S37
    replace h15:=h15.st S37
    replace h18:=h18.st S37
    replace h27:=h27.st S37
    replace h32:=h32.st S37
    exact ⟨(),_,⟨rfl,rfl,rfl,rfl,rfl,trivial⟩,hB,hx1,h27,h9,h12,h15,h18,h32⟩
   ·
    replace hy45:=im hy45 c48
    refine o_mv rfl rfl (AC rfl rfl (o_mv rfl rfl (AC rfl rfl (o_gtS rfl rfl rfl (fun c49=>?_) fun c49=>?_))))
    ·
     replace hy45:=ip hy45 c49
     refine o_pf rfl rfl rfl (o_z ?_)
     obtain rfl:=sm hy45
     replace hB:=((hB.st S26).st S31).st S37
     replace hx1:=((hx1.st S26).st S31).st S37
     replace h9:=h9.st S37
     replace h12:=h12.st S37
     replace h15:=h15.st S37
     replace h18:=h18.st S37
     replace h27:=h27.st S37
     replace h32:=h32.st S37
     exact ⟨(),_,⟨rfl,rfl,rfl,rfl,rfl,trivial⟩,hB,hx1,h27,h9,h12,h15,h18,h32⟩
    ·
     replace hy45:=im hy45 c49
     refine o_pf rfl rfl rfl (o_z ?_)
     obtain rfl:=sm hy45
     replace hB:=((hB.st S26).st S31).st S37
     replace hx1:=((hx1.st S26).st S31).st S37
     replace h9:=h9.st S37
     replace h12:=h12.st S37
     replace h15:=h15.st S37
     replace h18:=h18.st S37
     replace h27:=h27.st S37
     replace h32:=h32.st S37
     exact ⟨(),_,⟨rfl,rfl,rfl,rfl,rfl,trivial⟩,hB,hx1,h27,h9,h12,h15,h18,h32⟩
  replace hB:=((hB.st S26).st S31).st S37
  replace hx1:=((hx1.st S26).st S31).st S37
  replace h9:=h9.st S37
  replace h12:=h12.st S37
  replace h15:=h15.st S37
  replace h18:=h18.st S37
  replace h27:=h27.st S37
  replace h32:=h32.st S37
  rintro l50 w51 ⟨x47,O52,hs53,hB,hx1,h27,h9,h12,h15,h18,h32⟩
  refine AM _ hs53 ?_
  refine Ca rfl (fun c54=>?_) (fun c54=>?_)
  ·
   replace hm:=ip hm c54
   refine Ah (Ae (o_bd rfl rfl rfl ?_))
   refine AK h32 rfl rfl rfl (Nat.le_of_ble_eq_true rfl) (by first|exact allOne rfl|simp [Value.cells,Value.oneCell',AI]) fun w55 S56 h32=>?_
   replace h32:Lc 3 w55 O52 g28 26 [(.slice none 0 0),(.slice none 0 0),(.slice none 0 0),(.slice none 0 0)]:=h32
   refine o_as rfl rfl (o_z ?_)
   refine At ?_
   obtain rfl:=sm hm
   replace hB:=hB.st S56
   exact ret2 rfl (Bf (cs:=[(.slice none 0 0),(.slice none 0 0),(.slice none 0 0),(.slice none 0 0)]) rfl rfl h32.1.cellsAt) (AF rfl) ⟨hB.ext,_,_,rfl,(Vb.mono (F:=Fr 0 w55 O52) (Vb.ofAgg (cs:=[(.slice none 0 0),(.slice none 0 0),(.slice none 0 0),(.slice none 0 0)]) (x:=(⟨([]:List Int),([]:List Int),([]:List Fct),([]:List Opr)⟩:Tsk)) rfl ⟨_,_,_,_,rfl,(Vb.nil _ _),(Vb.nil _ _),(Vb.nil _ _),(Vb.nil _ _)⟩) hB.out),(vInt (show inI64 (1) from by decide))⟩
  ·
   replace hm:=im' hm c54
   refine Am (Ah (Ah (Ae (o_mv rfl rfl (o_ln rfl rfl ?_)))))
   have l58:x1.length≤9223372036854775807:=Nat.le_trans hx1.len.2.1 hx1.len.2.2
   have r57:inI64 (x1.length:Int):=rngNat l58
   refine o_gtS rfl rfl rfl (fun c59=>?_) fun c59=>?_
   ·
    replace hm:=ip hm c59
    refine o_z ?_
    refine Ar rfl (Ah (Ae (o_bd rfl rfl rfl ?_)))
    refine AK h32 rfl rfl rfl (Nat.le_of_ble_eq_true rfl) (by first|exact allOne rfl|simp [Value.cells,Value.oneCell',AI]) fun w60 S61 h32=>?_
    replace h32:Lc 3 w60 O52 g28 26 [(.slice none 0 0),(.slice none 0 0),(.slice none 0 0),(.slice none 0 0)]:=h32
    refine o_as rfl rfl (o_z ?_)
    refine At ?_
    obtain rfl:=sm hm
    replace hB:=hB.st S61
    exact ret2 rfl (Bf (cs:=[(.slice none 0 0),(.slice none 0 0),(.slice none 0 0),(.slice none 0 0)]) rfl rfl h32.1.cellsAt) (AF rfl) ⟨hB.ext,_,_,rfl,(Vb.mono (F:=Fr 0 w60 O52) (Vb.ofAgg (cs:=[(.slice none 0 0),(.slice none 0 0),(.slice none 0 0),(.slice none 0 0)]) (x:=(⟨([]:List Int),([]:List Int),([]:List Fct),([]:List Opr)⟩:Tsk)) rfl ⟨_,_,_,_,rfl,(Vb.nil _ _),(Vb.nil _ _),(Vb.nil _ _),(Vb.nil _ _)⟩) hB.out),(vInt (show inI64 (5) from by decide))⟩
   ·
    replace hm:=im hm c59
    refine o_z ?_
    refine Aj rfl (Am (Ah (Ae (o_fa rfl rfl (o_ld (hc:=Blk.cell (i:=0) (h27.1) rfl) rfl rfl ?_)))))
    refine o_ln rfl rfl ?_
    have l63:x0.vars.length≤9223372036854775807:=Nat.le_trans h9.len.2.1 h9.len.2.2
    have r62:inI64 (x0.vars.length:Int):=rngNat l63
    refine o_as rfl rfl (o_z ?_)
    refine Ah ?_
    obtain ⟨n64,e65,hm⟩:=bs hm
    obtain ⟨u66,e67,hm⟩:=bs hm
    obtain ⟨u68,e69,hm⟩:=bs hm
    obtain ⟨u70,e71,hm⟩:=bs hm
    obtain ⟨u72,e73,hm⟩:=bs hm
    obtain ⟨u74,e75,hm⟩:=bs hm
    obtain ⟨u76,e77,hm⟩:=bs hm
    obtain ⟨y78,hy79,hm⟩:=bs hm
    refine AL (fun l' w'=>∃ (x81:Nat×(Option Addr×Nat)×(Option Addr×Nat)×(Option Addr×Nat)) (O':Lab),subs l' [(1,(.slice A21 x1.length c22)),(2,(.int .i64 x2)),(3,(.pointer (some ⟨g23,0,none⟩))),(6,(.pointer (some ⟨g28,0,none⟩))),(9,(.int .i64 (x0.vars.length:Int))),(10,(.pointer (some ⟨x81.1,0,none⟩)))]∧Bs w A w' O'∧Vb w' (Fr 0 w' O') (.slice A21 x1.length c22) x1∧Lc 2 w' O' g23 26 [(.slice A10 x0.vars.length c11),(.slice A13 x0.init.length c14),(.slice A16 x0.goal.length c17),(.slice A19 x0.ops.length c20)]∧Vb w' (Fr 0 w' O') (.slice A10 x0.vars.length c11) x0.vars∧Vb w' (Fr 0 w' O') (.slice A13 x0.init.length c14) x0.init∧Vb w' (Fr 0 w' O') (.slice A16 x0.goal.length c17) x0.goal∧Vb w' (Fr 0 w' O') (.slice A19 x0.ops.length c20) x0.ops∧Lc 3 w' O' g28 26 [(.slice none 0 0),(.slice none 0 0),(.slice none 0 0),(.slice none 0 0)]∧Lc 10 w' O' x81.1 26 [(.slice x81.2.1.1 y78.1.length x81.2.1.2),(.slice x81.2.2.1.1 y78.2.1.length x81.2.2.1.2),(.slice x81.2.2.2.1 y78.2.2.length x81.2.2.2.2),(.slice none 0 0)]∧Rw 4 w' O' 3 (.slice x81.2.1.1 y78.1.length x81.2.1.2) y78.1∧Rw 6 w' O' 3 (.slice x81.2.2.1.1 y78.2.1.length x81.2.2.1.2) y78.2.1∧Rw 8 w' O' 62 (.slice x81.2.2.2.1 y78.2.2.length x81.2.2.2.2) y78.2.2) ?_ ?_
    ·
     refine Be [(3,[4]),(8,[4]),(12,[6]),(14,[6]),(18,[8]),(24,[8])] O52 ?_
     refine x_pre (fuel:=26) [] [(1,true),(2,true)] (by kernel_rfl) rfl ?_
     refine h_fa rfl rfl rfl (h_ldC (hc:=fun w' ⟨O',hq⟩=>Blk.cell (i:=0) ((h27.st hq (by decide)).1) rfl) rfl rfl rfl ?_)
     refine AH ?_
     refine x_pre (fuel:=21) [4] [(4,true),(5,true),(6,true),(10,true),(11,true)] (by kernel_rfl) rfl ?_
     refine h_mv rfl rfl rfl (h_ln rfl rfl rfl ?_)
     have l90:x1.length≤9223372036854775807:=Nat.le_trans hx1.len.2.1 hx1.len.2.2
     have r89:inI64 (x1.length:Int):=rngNat l90
     have r91:=(Bc e65)
     refine h_adE (he:=e65) rfl rfl rfl rfl ?_
     refine h_fa rfl rfl rfl (h_ldC (hc:=fun w' ⟨O',hq⟩=>Blk.cell (i:=1) ((h27.st hq (by decide)).1) rfl) rfl rfl rfl ?_)
     refine AH ?_
     refine x_pre (fuel:=19) [4,6] [(16,true),(17,true)] (by kernel_rfl) rfl ?_
     refine h_fa rfl rfl rfl (h_ldC (hc:=fun w' ⟨O',hq⟩=>Blk.cell (i:=2) ((h27.st hq (by decide)).1) rfl) rfl rfl rfl ?_)
     refine AH ?_
     refine x_pre (fuel:=15) [4,6,8] [(19,true),(20,true),(21,true),(22,true)] (by kernel_rfl) rfl ?_
     refine h_mv rfl rfl rfl (h_mv rfl rfl rfl (h_ln rfl rfl rfl ?_))
     have l93:x1.length≤9223372036854775807:=Nat.le_trans hx1.len.2.1 hx1.len.2.2
     have r92:inI64 (x1.length:Int):=rngNat l93
     refine h_bd rfl rfl rfl rfl ?_
     refine AH ?_
     refine z_cut (z:=(zRow (α:=Int) 0 38 4 3 0 ([]:List Int))) [] (Cy (by decide) rfl rfl rfl rfl rfl (fun _ _=>trivial) (by decide) (by decide) rfl) fun hz94=>?_
     refine z_cut (z:=(zRow (α:=Int) 7 45 5 3 1 ([n64]:List Int))) [(44,(.int .i64 n64))] (Cy (by decide) rfl rfl rfl rfl rfl (fun _ _=>⟨(vInt r91),trivial⟩) (by decide) (by decide) rfl) fun hz95=>?_
     refine z_cut (z:=(zRow (α:=Int) 9 47 6 3 0 ([]:List Int))) [] (Cy (by decide) rfl rfl rfl rfl rfl (fun _ _=>trivial) (by decide) (by decide) rfl) fun hz96=>?_
     refine z_cut (z:=(zRow (α:=Int) 13 51 7 3 1 ([0]:List Int))) [] (Cy (by decide) rfl rfl rfl rfl rfl (fun _ _=>⟨(vInt (show inI64 (0) from by decide)),trivial⟩) (by decide) (by decide) rfl) fun hz97=>?_
     refine z_cut (z:=(zRow (α:=Fct) 15 53 8 62 0 ([]:List Fct))) [] (Cy (by decide) rfl rfl rfl rfl rfl (fun _ _=>trivial) (by decide) (by decide) rfl) fun hz98=>?_
     refine z_cut (z:=(zRow (α:=Fct) 23 61 9 62 1 ([(⟨(x0.vars.length:Int),(x1.length:Int)⟩:Fct)]:List Fct))) [(60,(.agg #[(.int .i64 (x0.vars.length:Int)),(.int .i64 (x1.length:Int))]))] (Cy (by decide) rfl rfl rfl rfl rfl (fun _ _=>⟨(Vb.ofAgg (cs:=[(.int .i64 (x0.vars.length:Int)),(.int .i64 (x1.length:Int))]) (x:=(⟨(x0.vars.length:Int),(x1.length:Int)⟩:Fct)) rfl ⟨rfl,r62,r92⟩),trivial⟩) (by decide) (by decide) rfl) fun hz99=>?_
     refine z_cut (z:=(zVar 26 10 10 26 [(.slice none 0 0),(.slice none 0 0),(.slice none 0 0),(.slice none 0 0)])) [] (JZ rfl rfl rfl) fun hz100=>?_
     refine Ix (zs:=[(zRow (α:=Int) 0 38 4 3 0 ([]:List Int)),(zRow (α:=Int) 7 45 5 3 1 ([n64]:List Int)),(zRow (α:=Int) 9 47 6 3 0 ([]:List Int)),(zRow (α:=Int) 13 51 7 3 1 ([0]:List Int)),(zRow (α:=Fct) 15 53 8 62 0 ([]:List Fct)),(zRow (α:=Fct) 23 61 9 62 1 ([(⟨(x0.vars.length:Int),(x1.length:Int)⟩:Fct)]:List Fct)),(zVar 26 10 10 26 [(.slice none 0 0),(.slice none 0 0),(.slice none 0 0),(.slice none 0 0)])]) (fuel:=8) [(1,(.slice A21 x1.length c22)),(2,(.int .i64 x2)),(3,(.pointer (some ⟨g23,0,none⟩))),(6,(.pointer (some ⟨g28,0,none⟩))),(9,(.int .i64 (x0.vars.length:Int))),(40,(.slice A10 x0.vars.length c11)),(44,(.int .i64 n64)),(49,(.slice A13 x0.init.length c14)),(55,(.slice A16 x0.goal.length c17)),(60,(.agg #[(.int .i64 (x0.vars.length:Int)),(.int .i64 (x1.length:Int))]))] ⟨rfl,rfl,rfl,rfl,rfl,rfl,rfl,rfl,rfl,rfl,trivial⟩ rfl (by kernel_rfl) ?_
     refine Cm (m:=3) (by kernel_rfl) rfl (by kernel_rfl) (by kernel_rfl) ⟨⟨_,hz94,trivial⟩,⟨_,hz95,⟨rfl,trivial⟩⟩,⟨_,hz96,trivial⟩,⟨_,hz97,trivial⟩,⟨_,hz98,trivial⟩,⟨_,hz99,⟨rfl,trivial⟩⟩,⟨_,hz100,trivial⟩,trivial⟩ fun u101 w102 O103 S104 hF105=>?_
     obtain ⟨g107,e106,h108⟩:=hF105.1 (by kernel_rfl)
     refine Cn [(1,(.slice A21 x1.length c22)),(2,(.int .i64 x2)),(3,(.pointer (some ⟨g23,0,none⟩))),(6,(.pointer (some ⟨g28,0,none⟩))),(9,(.int .i64 (x0.vars.length:Int))),(10,(u101 10)),(38,(.slice (some ⟨g107,0,none⟩) ([]:List Int).length 0)),(40,(.slice A10 x0.vars.length c11)),(44,(.int .i64 n64)),(45,(u101 45)),(47,(u101 47)),(49,(.slice A13 x0.init.length c14)),(51,(u101 51)),(53,(u101 53)),(55,(.slice A16 x0.goal.length c17)),(60,(.agg #[(.int .i64 (x0.vars.length:Int)),(.int .i64 (x1.length:Int))])),(61,(u101 61))] ⟨rfl,rfl,rfl,rfl,rfl,rfl,(congrArg some e106),rfl,rfl,rfl,rfl,rfl,rfl,rfl,rfl,rfl,rfl,trivial⟩ ?_
     obtain ⟨e67,e110,e111⟩:=AO e67
     replace h9:=h9.st S104
     refine Bb rfl h108 (h9.rd) rfl rfl (by decide) e110 e111 rfl fun A112 c113 w114 O115 S116 h117=>?_
     rw [← e67] at h117 ⊢
     have hZ:=S116.lst [4] (fun _ h=>by cases h;decide)
     refine z_go (zs':=[(zRow (α:=Int) 7 45 5 3 1 ([n64]:List Int)),(zRow (α:=Int) 9 47 6 3 0 ([]:List Int)),(zRow (α:=Int) 13 51 7 3 1 ([0]:List Int)),(zRow (α:=Fct) 15 53 8 62 0 ([]:List Fct)),(zRow (α:=Fct) 23 61 9 62 1 ([(⟨(x0.vars.length:Int),(x1.length:Int)⟩:Fct)]:List Fct)),(zVar 26 10 10 26 [(.slice none 0 0),(.slice none 0 0),(.slice none 0 0),(.slice none 0 0)])]) [(8,[4]),(12,[6]),(14,[6]),(18,[8]),(24,[8])] [(1,(.slice A21 x1.length c22)),(2,(.int .i64 x2)),(3,(.pointer (some ⟨g23,0,none⟩))),(6,(.pointer (some ⟨g28,0,none⟩))),(9,(.int .i64 (x0.vars.length:Int))),(41,(.slice A112 u66.length c113)),(44,(.int .i64 n64)),(49,(.slice A13 x0.init.length c14)),(55,(.slice A16 x0.goal.length c17)),(60,(.agg #[(.int .i64 (x0.vars.length:Int)),(.int .i64 (x1.length:Int))]))] (by kernel_rfl) hZ (by kernel_rfl) ⟨rfl,rfl,rfl,rfl,rfl,rfl,trivial⟩ ⟨rfl,rfl,rfl,rfl,rfl,rfl,rfl,rfl,rfl,rfl,trivial⟩ ?_
     refine Cm (m:=8) (by kernel_rfl) rfl (by kernel_rfl) (by kernel_rfl) ⟨⟨_,hz95,⟨rfl,trivial⟩⟩,⟨_,hz96,trivial⟩,⟨_,hz97,trivial⟩,⟨_,hz98,trivial⟩,⟨_,hz99,⟨rfl,trivial⟩⟩,⟨_,hz100,trivial⟩,trivial⟩ fun u119 w120 O121 S122 hF123=>?_
     obtain ⟨g125,e124,h126⟩:=hF123.1 (by kernel_rfl)
     refine Cn [(1,(.slice A21 x1.length c22)),(2,(.int .i64 x2)),(3,(.pointer (some ⟨g23,0,none⟩))),(6,(.pointer (some ⟨g28,0,none⟩))),(9,(.int .i64 (x0.vars.length:Int))),(10,(u119 10)),(41,(.slice A112 u66.length c113)),(44,(.int .i64 n64)),(45,(.slice (some ⟨g125,0,none⟩) ([n64]:List Int).length 1)),(47,(u119 47)),(49,(.slice A13 x0.init.length c14)),(51,(u119 51)),(53,(u119 53)),(55,(.slice A16 x0.goal.length c17)),(60,(.agg #[(.int .i64 (x0.vars.length:Int)),(.int .i64 (x1.length:Int))])),(61,(u119 61))] ⟨rfl,rfl,rfl,rfl,rfl,rfl,rfl,rfl,(congrArg some e124),rfl,rfl,rfl,rfl,rfl,rfl,rfl,trivial⟩ ?_
     obtain ⟨e69,e128,e129⟩:=AO e69
     replace h117:=h117.st S122
     refine Bb rfl h117 (h126.rd) rfl rfl (by decide) e128 e129 rfl fun A130 c131 w132 O133 S134 h135=>?_
     rw [← e69] at h135 ⊢
     have hZ:=S134.lst [4] (fun _ h=>by cases h;decide)
     refine z_go (zs':=[(zRow (α:=Int) 9 47 6 3 0 ([]:List Int)),(zRow (α:=Int) 13 51 7 3 1 ([0]:List Int)),(zRow (α:=Fct) 15 53 8 62 0 ([]:List Fct)),(zRow (α:=Fct) 23 61 9 62 1 ([(⟨(x0.vars.length:Int),(x1.length:Int)⟩:Fct)]:List Fct)),(zVar 26 10 10 26 [(.slice none 0 0),(.slice none 0 0),(.slice none 0 0),(.slice none 0 0)])]) [(12,[6]),(14,[6]),(18,[8]),(24,[8])] [(1,(.slice A21 x1.length c22)),(2,(.int .i64 x2)),(3,(.pointer (some ⟨g23,0,none⟩))),(6,(.pointer (some ⟨g28,0,none⟩))),(9,(.int .i64 (x0.vars.length:Int))),(46,(.slice A130 u68.length c131)),(49,(.slice A13 x0.init.length c14)),(55,(.slice A16 x0.goal.length c17)),(60,(.agg #[(.int .i64 (x0.vars.length:Int)),(.int .i64 (x1.length:Int))]))] (by kernel_rfl) hZ (by kernel_rfl) ⟨rfl,rfl,rfl,rfl,rfl,trivial⟩ ⟨rfl,rfl,rfl,rfl,rfl,rfl,rfl,rfl,rfl,trivial⟩ ?_
     refine Cm (m:=12) (by kernel_rfl) rfl (by kernel_rfl) (by kernel_rfl) ⟨⟨_,hz96,trivial⟩,⟨_,hz97,trivial⟩,⟨_,hz98,trivial⟩,⟨_,hz99,⟨rfl,trivial⟩⟩,⟨_,hz100,trivial⟩,trivial⟩ fun u137 w138 O139 S140 hF141=>?_
     obtain ⟨g143,e142,h144⟩:=hF141.1 (by kernel_rfl)
     refine Cn [(1,(.slice A21 x1.length c22)),(2,(.int .i64 x2)),(3,(.pointer (some ⟨g23,0,none⟩))),(6,(.pointer (some ⟨g28,0,none⟩))),(9,(.int .i64 (x0.vars.length:Int))),(10,(u137 10)),(46,(.slice A130 u68.length c131)),(47,(.slice (some ⟨g143,0,none⟩) ([]:List Int).length 0)),(49,(.slice A13 x0.init.length c14)),(51,(u137 51)),(53,(u137 53)),(55,(.slice A16 x0.goal.length c17)),(60,(.agg #[(.int .i64 (x0.vars.length:Int)),(.int .i64 (x1.length:Int))])),(61,(u137 61))] ⟨rfl,rfl,rfl,rfl,rfl,rfl,rfl,(congrArg some e142),rfl,rfl,rfl,rfl,rfl,rfl,trivial⟩ ?_
     obtain ⟨e71,e146,e147⟩:=AO e71
     replace h12:=((((h12.st S104).st S116).st S122).st S134).st S140
     refine Bb rfl h144 (h12.rd) rfl rfl (by decide) e146 e147 rfl fun A148 c149 w150 O151 S152 h153=>?_
     rw [← e71] at h153 ⊢
     have hZ:=S152.lst [6] (fun _ h=>by cases h;decide)
     refine z_go (zs':=[(zRow (α:=Int) 13 51 7 3 1 ([0]:List Int)),(zRow (α:=Fct) 15 53 8 62 0 ([]:List Fct)),(zRow (α:=Fct) 23 61 9 62 1 ([(⟨(x0.vars.length:Int),(x1.length:Int)⟩:Fct)]:List Fct)),(zVar 26 10 10 26 [(.slice none 0 0),(.slice none 0 0),(.slice none 0 0),(.slice none 0 0)])]) [(14,[6]),(18,[8]),(24,[8])] [(1,(.slice A21 x1.length c22)),(2,(.int .i64 x2)),(3,(.pointer (some ⟨g23,0,none⟩))),(6,(.pointer (some ⟨g28,0,none⟩))),(9,(.int .i64 (x0.vars.length:Int))),(46,(.slice A130 u68.length c131)),(50,(.slice A148 u70.length c149)),(55,(.slice A16 x0.goal.length c17)),(60,(.agg #[(.int .i64 (x0.vars.length:Int)),(.int .i64 (x1.length:Int))]))] (by kernel_rfl) hZ (by kernel_rfl) ⟨rfl,rfl,rfl,rfl,trivial⟩ ⟨rfl,rfl,rfl,rfl,rfl,rfl,rfl,rfl,rfl,trivial⟩ ?_
     refine Cm (m:=14) (by kernel_rfl) rfl (by kernel_rfl) (by kernel_rfl) ⟨⟨_,hz97,trivial⟩,⟨_,hz98,trivial⟩,⟨_,hz99,⟨rfl,trivial⟩⟩,⟨_,hz100,trivial⟩,trivial⟩ fun u155 w156 O157 S158 hF159=>?_
     obtain ⟨g161,e160,h162⟩:=hF159.1 (by kernel_rfl)
     refine Cn [(1,(.slice A21 x1.length c22)),(2,(.int .i64 x2)),(3,(.pointer (some ⟨g23,0,none⟩))),(6,(.pointer (some ⟨g28,0,none⟩))),(9,(.int .i64 (x0.vars.length:Int))),(10,(u155 10)),(46,(.slice A130 u68.length c131)),(50,(.slice A148 u70.length c149)),(51,(.slice (some ⟨g161,0,none⟩) ([0]:List Int).length 1)),(53,(u155 53)),(55,(.slice A16 x0.goal.length c17)),(60,(.agg #[(.int .i64 (x0.vars.length:Int)),(.int .i64 (x1.length:Int))])),(61,(u155 61))] ⟨rfl,rfl,rfl,rfl,rfl,rfl,rfl,rfl,(congrArg some e160),rfl,rfl,rfl,rfl,trivial⟩ ?_
     obtain ⟨e73,e164,e165⟩:=AO e73
     replace h153:=h153.st S158
     refine Bb rfl h153 (h162.rd) rfl rfl (by decide) e164 e165 rfl fun A166 c167 w168 O169 S170 h171=>?_
     rw [← e73] at h171 ⊢
     have hZ:=S170.lst [6] (fun _ h=>by cases h;decide)
     refine z_go (zs':=[(zRow (α:=Fct) 15 53 8 62 0 ([]:List Fct)),(zRow (α:=Fct) 23 61 9 62 1 ([(⟨(x0.vars.length:Int),(x1.length:Int)⟩:Fct)]:List Fct)),(zVar 26 10 10 26 [(.slice none 0 0),(.slice none 0 0),(.slice none 0 0),(.slice none 0 0)])]) [(18,[8]),(24,[8])] [(1,(.slice A21 x1.length c22)),(2,(.int .i64 x2)),(3,(.pointer (some ⟨g23,0,none⟩))),(6,(.pointer (some ⟨g28,0,none⟩))),(9,(.int .i64 (x0.vars.length:Int))),(46,(.slice A130 u68.length c131)),(52,(.slice A166 u72.length c167)),(55,(.slice A16 x0.goal.length c17)),(60,(.agg #[(.int .i64 (x0.vars.length:Int)),(.int .i64 (x1.length:Int))]))] (by kernel_rfl) hZ (by kernel_rfl) ⟨rfl,rfl,rfl,trivial⟩ ⟨rfl,rfl,rfl,rfl,rfl,rfl,rfl,rfl,rfl,trivial⟩ ?_
     refine Cm (m:=18) (by kernel_rfl) rfl (by kernel_rfl) (by kernel_rfl) ⟨⟨_,hz98,trivial⟩,⟨_,hz99,⟨rfl,trivial⟩⟩,⟨_,hz100,trivial⟩,trivial⟩ fun u173 w174 O175 S176 hF177=>?_
     obtain ⟨g179,e178,h180⟩:=hF177.1 (by kernel_rfl)
     refine Cn [(1,(.slice A21 x1.length c22)),(2,(.int .i64 x2)),(3,(.pointer (some ⟨g23,0,none⟩))),(6,(.pointer (some ⟨g28,0,none⟩))),(9,(.int .i64 (x0.vars.length:Int))),(10,(u173 10)),(46,(.slice A130 u68.length c131)),(52,(.slice A166 u72.length c167)),(53,(.slice (some ⟨g179,0,none⟩) ([]:List Fct).length 0)),(55,(.slice A16 x0.goal.length c17)),(60,(.agg #[(.int .i64 (x0.vars.length:Int)),(.int .i64 (x1.length:Int))])),(61,(u173 61))] ⟨rfl,rfl,rfl,rfl,rfl,rfl,rfl,rfl,(congrArg some e178),rfl,rfl,rfl,trivial⟩ ?_
     obtain ⟨e75,e182,e183⟩:=AO e75
     replace h15:=((((((((h15.st S104).st S116).st S122).st S134).st S140).st S152).st S158).st S170).st S176
     refine Bb rfl h180 (h15.rd) rfl rfl (by decide) e182 e183 rfl fun A184 c185 w186 O187 S188 h189=>?_
     rw [← e75] at h189 ⊢
     have hZ:=S188.lst [8] (fun _ h=>by cases h;decide)
     refine z_go (zs':=[(zRow (α:=Fct) 23 61 9 62 1 ([(⟨(x0.vars.length:Int),(x1.length:Int)⟩:Fct)]:List Fct)),(zVar 26 10 10 26 [(.slice none 0 0),(.slice none 0 0),(.slice none 0 0),(.slice none 0 0)])]) [(24,[8])] [(1,(.slice A21 x1.length c22)),(2,(.int .i64 x2)),(3,(.pointer (some ⟨g23,0,none⟩))),(6,(.pointer (some ⟨g28,0,none⟩))),(9,(.int .i64 (x0.vars.length:Int))),(46,(.slice A130 u68.length c131)),(52,(.slice A166 u72.length c167)),(56,(.slice A184 u74.length c185)),(60,(.agg #[(.int .i64 (x0.vars.length:Int)),(.int .i64 (x1.length:Int))]))] (by kernel_rfl) hZ (by kernel_rfl) ⟨rfl,rfl,trivial⟩ ⟨rfl,rfl,rfl,rfl,rfl,rfl,rfl,rfl,rfl,trivial⟩ ?_
     refine Cm (m:=24) (by kernel_rfl) rfl (by kernel_rfl) (by kernel_rfl) ⟨⟨_,hz99,⟨rfl,trivial⟩⟩,⟨_,hz100,trivial⟩,trivial⟩ fun u191 w192 O193 S194 hF195=>?_
     obtain ⟨g197,e196,h198⟩:=hF195.1 (by kernel_rfl)
     refine Cn [(1,(.slice A21 x1.length c22)),(2,(.int .i64 x2)),(3,(.pointer (some ⟨g23,0,none⟩))),(6,(.pointer (some ⟨g28,0,none⟩))),(9,(.int .i64 (x0.vars.length:Int))),(10,(u191 10)),(46,(.slice A130 u68.length c131)),(52,(.slice A166 u72.length c167)),(56,(.slice A184 u74.length c185)),(60,(.agg #[(.int .i64 (x0.vars.length:Int)),(.int .i64 (x1.length:Int))])),(61,(.slice (some ⟨g197,0,none⟩) ([(⟨(x0.vars.length:Int),(x1.length:Int)⟩:Fct)]:List Fct).length 1))] ⟨rfl,rfl,rfl,rfl,rfl,rfl,rfl,rfl,rfl,rfl,(congrArg some e196),trivial⟩ ?_
     obtain ⟨e77,e200,e201⟩:=AO e77
     replace h189:=h189.st S194
     refine Bb rfl h189 (h198.rd) rfl rfl (by decide) e200 e201 rfl fun A202 c203 w204 O205 S206 h207=>?_
     rw [← e77] at h207 ⊢
     have hZ:=S206.lst [8] (fun _ h=>by cases h;decide)
     refine z_go (zs':=[(zVar 26 10 10 26 [(.slice none 0 0),(.slice none 0 0),(.slice none 0 0),(.slice none 0 0)])]) [] [(1,(.slice A21 x1.length c22)),(2,(.int .i64 x2)),(3,(.pointer (some ⟨g23,0,none⟩))),(6,(.pointer (some ⟨g28,0,none⟩))),(9,(.int .i64 (x0.vars.length:Int))),(46,(.slice A130 u68.length c131)),(52,(.slice A166 u72.length c167)),(62,(.slice A202 u76.length c203))] (by kernel_rfl) hZ (by kernel_rfl) ⟨rfl,trivial⟩ ⟨rfl,rfl,rfl,rfl,rfl,rfl,rfl,rfl,trivial⟩ ?_
     refine KO (by kernel_rfl) (fun v209 hv210=>?_) ?_
     ·
      obtain ⟨g211,rfl,h212⟩:=hv210
      refine Hc ?_
      refine x_pre (fuel:=1) [] [(25,true)] (by kernel_rfl) rfl ?_
      refine h_bd rfl rfl rfl rfl ?_
      refine AH ?_
      refine x_one (i:=27) (by kernel_rfl) rfl ?_
      refine AK h212 rfl rfl rfl (Nat.le_of_ble_eq_true rfl) (by first|exact allOne rfl|simp [Value.cells,Value.oneCell',AI]) fun w213 S214 h212=>?_
      replace h212:Lc 10 w213 O205 g211 26 [(.slice A130 u68.length c131),(.slice A166 u72.length c167),(.slice A202 u76.length c203),(.slice none 0 0)]:=h212
      refine x_end (by kernel_rfl) ?_
      refine x_nil (by kernel_rfl) ?_
      obtain rfl:=sm hy79
      replace hB:=((((((((((((hB.st S104).st S116).st S122).st S134).st S140).st S152).st S158).st S170).st S176).st S188).st S194).st S206).st S214
      replace hx1:=((((((((((((hx1.st S104).st S116).st S122).st S134).st S140).st S152).st S158).st S170).st S176).st S188).st S194).st S206).st S214
      replace h9:=(((((((((((h9.st S116).st S122).st S134).st S140).st S152).st S158).st S170).st S176).st S188).st S194).st S206).st S214
      replace h12:=(((((((h12.st S152).st S158).st S170).st S176).st S188).st S194).st S206).st S214
      replace h15:=(((h15.st S188).st S194).st S206).st S214
      replace h18:=((((((((((((h18.st S104).st S116).st S122).st S134).st S140).st S152).st S158).st S170).st S176).st S188).st S194).st S206).st S214
      replace h27:=((((((((((((h27.st S104).st S116).st S122).st S134).st S140).st S152).st S158).st S170).st S176).st S188).st S194).st S206).st S214
      replace h32:=((((((((((((h32.st S104).st S116).st S122).st S134).st S140).st S152).st S158).st S170).st S176).st S188).st S194).st S206).st S214
      replace h135:=((((((((h135.st S140).st S152).st S158).st S170).st S176).st S188).st S194).st S206).st S214
      replace h171:=((((h171.st S176).st S188).st S194).st S206).st S214
      replace h207:=h207.st S214
      exact ⟨(g211,(A130,c131),(A166,c167),(A202,c203)),_,⟨rfl,rfl,rfl,rfl,rfl,rfl,trivial⟩,hB,hx1,h27,h9,h12,h15,h18,h32,h212,h135,h171,h207⟩
     ·
      refine Hc ?_
      refine x_pre (fuel:=2) [] [(25,true)] (by kernel_rfl) rfl ?_
      refine h_bd rfl rfl rfl rfl ?_
      refine AH ?_
      refine x_one (i:=26) (by kernel_rfl) rfl ?_
      refine AX 10 O205 rfl fun g215 w216 O217 S218 h219=>?_
      have hZ:=S218.lst [] (fun _ h=>h.elim)
      refine x_go [] hZ (by kernel_rfl) ?_
      refine x_one (i:=27) (by kernel_rfl) rfl ?_
      refine AK h219 rfl rfl rfl (Nat.le_of_ble_eq_true rfl) (by first|exact allOne rfl|simp [Value.cells,Value.oneCell',AI]) fun w220 S221 h219=>?_
      replace h219:Lc 10 w220 O217 g215 26 [(.slice A130 u68.length c131),(.slice A166 u72.length c167),(.slice A202 u76.length c203),(.slice none 0 0)]:=h219
      refine x_end (by kernel_rfl) ?_
      refine x_nil (by kernel_rfl) ?_
      obtain rfl:=sm hy79
      replace hB:=(((((((((((((hB.st S104).st S116).st S122).st S134).st S140).st S152).st S158).st S170).st S176).st S188).st S194).st S206).st S218).st S221
      replace hx1:=(((((((((((((hx1.st S104).st S116).st S122).st S134).st S140).st S152).st S158).st S170).st S176).st S188).st S194).st S206).st S218).st S221
      replace h9:=((((((((((((h9.st S116).st S122).st S134).st S140).st S152).st S158).st S170).st S176).st S188).st S194).st S206).st S218).st S221
      replace h12:=((((((((h12.st S152).st S158).st S170).st S176).st S188).st S194).st S206).st S218).st S221
      replace h15:=((((h15.st S188).st S194).st S206).st S218).st S221
      replace h18:=(((((((((((((h18.st S104).st S116).st S122).st S134).st S140).st S152).st S158).st S170).st S176).st S188).st S194).st S206).st S218).st S221
      replace h27:=(((((((((((((h27.st S104).st S116).st S122).st S134).st S140).st S152).st S158).st S170).st S176).st S188).st S194).st S206).st S218).st S221
      replace h32:=(((((((((((((h32.st S104).st S116).st S122).st S134).st S140).st S152).st S158).st S170).st S176).st S188).st S194).st S206).st S218).st S221
      replace h135:=(((((((((h135.st S140).st S152).st S158).st S170).st S176).st S188).st S194).st S206).st S218).st S221
      replace h171:=(((((h171.st S176).st S188).st S194).st S206).st S218).st S221
      replace h207:=(h207.st S218).st S221
      exact ⟨(g215,(A130,c131),(A166,c167),(A202,c203)),_,⟨rfl,rfl,rfl,rfl,rfl,rfl,trivial⟩,hB,hx1,h27,h9,h12,h15,h18,h32,h219,h135,h171,h207⟩
    rintro l222 w223 ⟨x81,O224,hs225,hB,hx1,h27,h9,h12,h15,h18,h32,h82,h83,h85,h87⟩
    refine AM _ hs225 ?_
    refine Ah (Ah (Ae (o_fa rfl rfl (o_ld (hc:=Blk.cell (i:=3) (h27.1) rfl) rfl rfl ?_))))
    refine o_ln rfl rfl ?_
    have l227:x0.ops.length≤9223372036854775807:=Nat.le_trans h18.len.2.1 h18.len.2.2
    have r226:inI64 (x0.ops.length:Int):=rngNat l227
    refine o_mv rfl rfl (o_z ?_)
    obtain ⟨res228,hL229,hm⟩:=bs hm
    refine AL (aft res228 (fun (s230:(List Opr)) (x231:(Option Addr×Nat))=>[(1,(.slice A21 x1.length c22)),(2,(.int .i64 x2)),(3,(.pointer (some ⟨g23,0,none⟩))),(6,(.pointer (some ⟨g28,0,none⟩))),(9,(.int .i64 (x0.vars.length:Int))),(10,(.pointer (some ⟨x81.1,0,none⟩)))]) (fun s230 x231 w'=>∃ O':Lab,Bs w A w' O'∧Vb w' (Fr 0 w' O') (.slice A21 x1.length c22) x1∧Lc 2 w' O' g23 26 [(.slice A10 x0.vars.length c11),(.slice A13 x0.init.length c14),(.slice A16 x0.goal.length c17),(.slice A19 x0.ops.length c20)]∧Vb w' (Fr 0 w' O') (.slice A10 x0.vars.length c11) x0.vars∧Vb w' (Fr 0 w' O') (.slice A13 x0.init.length c14) x0.init∧Vb w' (Fr 0 w' O') (.slice A16 x0.goal.length c17) x0.goal∧Vb w' (Fr 0 w' O') (.slice A19 x0.ops.length c20) x0.ops∧Lc 3 w' O' g28 26 [(.slice none 0 0),(.slice none 0 0),(.slice none 0 0),(.slice none 0 0)]∧Lc 10 w' O' x81.1 26 [(.slice x81.2.1.1 y78.1.length x81.2.1.2),(.slice x81.2.2.1.1 y78.2.1.length x81.2.2.1.2),(.slice x81.2.2.2.1 y78.2.2.length x81.2.2.2.2),(.slice x231.1 s230.length x231.2)]∧Rw 4 w' O' 3 (.slice x81.2.1.1 y78.1.length x81.2.1.2) y78.1∧Rw 6 w' O' 3 (.slice x81.2.2.1.1 y78.2.1.length x81.2.2.1.2) y78.2.1∧Rw 8 w' O' 62 (.slice x81.2.2.2.1 y78.2.2.length x81.2.2.2.2) y78.2.2∧Rw 12 w' O' 67 (.slice x231.1 s230.length x231.2) s230)) ?_ ?_
    ·
     refine Al (Bh (σ:=(List Opr)) (X:=(Option Addr×Nat)) (x0.ops.length) hL229 rfl l227 (fun (s230:(List Opr)) (x231:(Option Addr×Nat))=>[(1,(.slice A21 x1.length c22)),(2,(.int .i64 x2)),(3,(.pointer (some ⟨g23,0,none⟩))),(6,(.pointer (some ⟨g28,0,none⟩))),(9,(.int .i64 (x0.vars.length:Int))),(10,(.pointer (some ⟨x81.1,0,none⟩))),(65,(.slice A19 x0.ops.length c20))]) _ (fun s230 x231 w'=>∃ O':Lab,Bs w A w' O'∧Vb w' (Fr 0 w' O') (.slice A21 x1.length c22) x1∧Lc 2 w' O' g23 26 [(.slice A10 x0.vars.length c11),(.slice A13 x0.init.length c14),(.slice A16 x0.goal.length c17),(.slice A19 x0.ops.length c20)]∧Vb w' (Fr 0 w' O') (.slice A10 x0.vars.length c11) x0.vars∧Vb w' (Fr 0 w' O') (.slice A13 x0.init.length c14) x0.init∧Vb w' (Fr 0 w' O') (.slice A16 x0.goal.length c17) x0.goal∧Vb w' (Fr 0 w' O') (.slice A19 x0.ops.length c20) x0.ops∧Lc 3 w' O' g28 26 [(.slice none 0 0),(.slice none 0 0),(.slice none 0 0),(.slice none 0 0)]∧Lc 10 w' O' x81.1 26 [(.slice x81.2.1.1 y78.1.length x81.2.1.2),(.slice x81.2.2.1.1 y78.2.1.length x81.2.2.1.2),(.slice x81.2.2.2.1 y78.2.2.length x81.2.2.2.2),(.slice x231.1 s230.length x231.2)]∧Rw 4 w' O' 3 (.slice x81.2.1.1 y78.1.length x81.2.1.2) y78.1∧Rw 6 w' O' 3 (.slice x81.2.2.1.1 y78.2.1.length x81.2.2.1.2) y78.2.1∧Rw 8 w' O' 62 (.slice x81.2.2.2.1 y78.2.2.length x81.2.2.2.2) y78.2.2∧Rw 12 w' O' 67 (.slice x231.1 s230.length x231.2) s230) _ (none,0) ⟨O224,hB,hx1,h27,h9,h12,h15,h18,h32,h82,h83,h85,h87,(Rw.nil 12 (by decide))⟩ ⟨rfl,rfl,rfl,rfl,rfl,rfl,rfl,rfl,rfl,trivial⟩ (fun _ _=>⟨rfl,rfl⟩) (fun _ _=>⟨rfl,rfl,rfl,rfl,rfl,rfl,trivial⟩) (fun _ _ _ ⟨O',hB,hx1,h27,h9,h12,h15,h18,h32,h82,h83,h85,h87,h245⟩=>⟨O',hB,hx1,h27,h9,h12,h15,h18,h32,h82,h83,h85,h87,h245⟩) ⟨rfl,rfl,rfl⟩ ⟨rfl,rfl⟩ ?_)
     rintro k232 a233 s230 x231 w234 cc236 hx237 ⟨O235,hB,hx1,h27,h9,h12,h15,h18,h32,h82,h83,h85,h87,h245⟩ hf238 hret239 hbrk240
     have rk232:inI64 (k232:Int):=rngK hx237 l227
     refine Ah (Ae ?_)
     obtain ⟨b247,o248,ce249,hA250,hl251,hd252,v254,v255,rfl,h256,h259,r262,z263⟩:=h18.elem' hx237
     obtain ⟨A257,c258,rfl⟩:=h256.form
     obtain ⟨A260,c261,rfl⟩:=h259.form
     refine o_iaE (hA:=hA250) (hj:=rfl) (hlt:=hl251) rfl rfl rfl ?_
     refine o_la (hl:=rfl) (hc:=hd252) rfl rfl ?_
     refine AX 11 O235 rfl fun g264 w265 O266 S267 h268=>?_
     refine AK h268 rfl rfl rfl (Nat.le_of_ble_eq_true rfl) (by first|exact allOne rfl|simp [Value.cells,Value.oneCell',AI]) fun w269 S270 h268=>?_
     replace h268:Lc 11 w269 O266 g264 67 [(.string a233.name),(.int .i64 a233.cost),(.slice A257 a233.pre.length c258),(.slice A260 a233.effs.length c261)]:=h268
     refine o_z ?_
     refine Ah (Ae (o_fa rfl rfl (o_ld (hc:=Blk.cell (i:=1) (h268.1) rfl) rfl rfl ?_)))
     refine o_mv rfl rfl ?_
     obtain ⟨n271,e272,hf238⟩:=bs hf238
     have r273:=(Bc e272)
     refine o_adE (he:=e272) rfl rfl rfl ?_
     refine o_fa rfl rfl (AK h268 rfl rfl rfl (Nat.le_of_ble_eq_true rfl) (by first|exact allOne rfl|simp [Value.cells,Value.oneCell',AI]) fun w274 S275 h268=>?_)
     replace h268:Lc 11 w274 O266 g264 67 [(.string a233.name),(.int .i64 n271),(.slice A257 a233.pre.length c258),(.slice A260 a233.effs.length c261)]:=h268
     refine o_z ?_
     refine Ae (o_fa rfl rfl ?_)
     replace h82:=((h82.st S267).st S270).st S275
     refine o_ld (hc:=Blk.cell (i:=3) (h82.1) rfl) rfl rfl ?_
     refine o_la (hl:=rfl) (hc:=(h268.1).cellsAt) rfl rfl ?_
     obtain ⟨u276,e277,hf238⟩:=bs hf238
     obtain ⟨e277,e278,e279⟩:=AO e277
     replace h245:=((h245.st S267).st S270).st S275
     replace h256:=((h256.st S267).st S270).st S275
     replace h259:=((h259.st S267).st S270).st S275
     refine CB rfl (a:=(⟨a233.name,n271,a233.pre,a233.effs⟩:Opr)) h245 (Vb.ofAgg (cs:=[(.string a233.name),(.int .i64 n271),(.slice A257 a233.pre.length c258),(.slice A260 a233.effs.length c261)]) (x:=(⟨a233.name,n271,a233.pre,a233.effs⟩:Opr)) rfl ⟨_,_,rfl,h256,h259,r273,z263⟩) (fun _=>rfl) rfl (by decide) (by decide) e278 e279 ⟨rfl,rfl⟩ fun g280 A281 c282 w283 O284 S285 h286=>?_
     rw [← e277] at h286 ⊢
     refine o_fa rfl rfl ?_
     replace h82:=h82.st S285
     refine AK h82 rfl rfl rfl (Nat.le_of_ble_eq_true rfl) (by first|exact allOne rfl|simp [Value.cells,Value.oneCell',AI]) fun w288 S289 h82=>?_
     replace h82:Lc 10 w288 O284 x81.1 26 [(.slice x81.2.1.1 y78.1.length x81.2.1.2),(.slice x81.2.2.1.1 y78.2.1.length x81.2.2.1.2),(.slice x81.2.2.2.1 y78.2.2.length x81.2.2.2.2),(.slice A281 u276.length c282)]:=h82
     refine o_z ?_
     obtain rfl:=sm hf238
     refine (?_:Exists _)
     replace hB:=((((hB.st S267).st S270).st S275).st S285).st S289
     replace hx1:=((((hx1.st S267).st S270).st S275).st S285).st S289
     replace h9:=((((h9.st S267).st S270).st S275).st S285).st S289
     replace h12:=((((h12.st S267).st S270).st S275).st S285).st S289
     replace h15:=((((h15.st S267).st S270).st S275).st S285).st S289
     replace h18:=((((h18.st S267).st S270).st S275).st S285).st S289
     replace h27:=((((h27.st S267).st S270).st S275).st S285).st S289
     replace h32:=((((h32.st S267).st S270).st S275).st S285).st S289
     replace h83:=((((h83.st S267).st S270).st S275).st S285).st S289
     replace h85:=((((h85.st S267).st S270).st S275).st S285).st S289
     replace h87:=((((h87.st S267).st S270).st S275).st S285).st S289
     replace h286:=h286.st S289
     exact ⟨_,(A281,c282),rfl,⟨rfl,rfl,rfl,rfl,rfl,rfl,rfl,rfl,rfl,trivial⟩,_,hB,hx1,h27,h9,h12,h15,h18,h32,h82,h83,h85,h87,h286⟩
    rintro l290 w291 ⟨s294,x295,rfl,hs293,O292,hB,hx1,h27,h9,h12,h15,h18,h32,h82,h83,h85,h87,h245⟩
    replace hm:=AR hm
    refine AM _ hs293 ?_
    refine Ah (Ah (Ae (o_mv rfl rfl (o_ln rfl rfl ?_))))
    have l297:x1.length≤9223372036854775807:=Nat.le_trans hx1.len.2.1 hx1.len.2.2
    have r296:inI64 (x1.length:Int):=rngNat l297
    refine o_mv rfl rfl (o_z ?_)
    obtain ⟨res298,hL299,hm⟩:=bs hm
    refine AL (aft res298 (fun (s300:(List Opr)) (x301:(Option Addr×Nat))=>[(6,(.pointer (some ⟨g28,0,none⟩))),(10,(.pointer (some ⟨x81.1,0,none⟩)))]) (fun s300 x301 w'=>∃ O':Lab,Bs w A w' O'∧Lc 3 w' O' g28 26 [(.slice none 0 0),(.slice none 0 0),(.slice none 0 0),(.slice none 0 0)]∧Lc 10 w' O' x81.1 26 [(.slice x81.2.1.1 y78.1.length x81.2.1.2),(.slice x81.2.2.1.1 y78.2.1.length x81.2.2.1.2),(.slice x81.2.2.2.1 y78.2.2.length x81.2.2.2.2),(.slice x301.1 s300.length x301.2)]∧Rw 4 w' O' 3 (.slice x81.2.1.1 y78.1.length x81.2.1.2) y78.1∧Rw 6 w' O' 3 (.slice x81.2.2.1.1 y78.2.1.length x81.2.2.1.2) y78.2.1∧Rw 8 w' O' 62 (.slice x81.2.2.2.1 y78.2.2.length x81.2.2.2.2) y78.2.2∧Rw 12 w' O' 67 (.slice x301.1 s300.length x301.2) s300)) ?_ ?_
    ·
     refine Al (Bh (σ:=(List Opr)) (X:=(Option Addr×Nat)) (x1.length) hL299 rfl l297 (fun (s300:(List Opr)) (x301:(Option Addr×Nat))=>[(2,(.int .i64 x2)),(3,(.pointer (some ⟨g23,0,none⟩))),(6,(.pointer (some ⟨g28,0,none⟩))),(9,(.int .i64 (x0.vars.length:Int))),(10,(.pointer (some ⟨x81.1,0,none⟩))),(83,(.slice A21 x1.length c22))]) _ (fun s300 x301 w'=>∃ O':Lab,Bs w A w' O'∧Lc 2 w' O' g23 26 [(.slice A10 x0.vars.length c11),(.slice A13 x0.init.length c14),(.slice A16 x0.goal.length c17),(.slice A19 x0.ops.length c20)]∧Vb w' (Fr 0 w' O') (.slice A10 x0.vars.length c11) x0.vars∧Vb w' (Fr 0 w' O') (.slice A13 x0.init.length c14) x0.init∧Vb w' (Fr 0 w' O') (.slice A16 x0.goal.length c17) x0.goal∧Vb w' (Fr 0 w' O') (.slice A19 x0.ops.length c20) x0.ops∧Lc 3 w' O' g28 26 [(.slice none 0 0),(.slice none 0 0),(.slice none 0 0),(.slice none 0 0)]∧Lc 10 w' O' x81.1 26 [(.slice x81.2.1.1 y78.1.length x81.2.1.2),(.slice x81.2.2.1.1 y78.2.1.length x81.2.2.1.2),(.slice x81.2.2.2.1 y78.2.2.length x81.2.2.2.2),(.slice x301.1 s300.length x301.2)]∧Rw 4 w' O' 3 (.slice x81.2.1.1 y78.1.length x81.2.1.2) y78.1∧Rw 6 w' O' 3 (.slice x81.2.2.1.1 y78.2.1.length x81.2.2.1.2) y78.2.1∧Rw 8 w' O' 62 (.slice x81.2.2.2.1 y78.2.2.length x81.2.2.2.2) y78.2.2∧Rw 12 w' O' 67 (.slice x301.1 s300.length x301.2) s300∧Vb w' (Fr 0 w' O') (.slice A21 x1.length c22) x1) _ (x295.1,x295.2) ⟨O292,hB,h27,h9,h12,h15,h18,h32,h82,h83,h85,h87,h245,hx1⟩ ⟨rfl,rfl,rfl,rfl,rfl,rfl,rfl,rfl,trivial⟩ (fun _ _=>⟨rfl,rfl⟩) (fun _ _=>⟨rfl,rfl,trivial⟩) (fun _ _ _ ⟨O',hB,h27,h9,h12,h15,h18,h32,h82,h83,h85,h87,h315,hx1⟩=>⟨O',hB,h32,h82,h83,h85,h87,h315⟩) ⟨rfl,rfl,rfl⟩ ⟨rfl,rfl⟩ ?_)
     rintro k302 a303 s300 x301 w304 cc306 hx307 ⟨O305,hB,h27,h9,h12,h15,h18,h32,h82,h83,h85,h87,h315,hx1⟩ hf308 hret309 hbrk310
     have rk302:inI64 (k302:Int):=rngK hx307 l297
     refine Ah (Ae (o_mv rfl rfl ?_))
     obtain ⟨b317,o318,ce319,hA320,hl321,hd322,rfl,z324⟩:=hx1.elem' hx307
     refine o_iaE (hA:=hA320) (hj:=rfl) (hlt:=hl321) rfl rfl rfl ?_
     refine o_ld (hc:=cat0 hd322) rfl rfl ?_
     refine o_as rfl rfl (o_as rfl rfl (o_z ?_))
     refine Ah (Ah (Ae (o_fa rfl rfl (o_ld (hc:=Blk.cell (i:=3) (h27.1) rfl) rfl rfl ?_))))
     refine o_ln rfl rfl ?_
     have l326:x0.ops.length≤9223372036854775807:=Nat.le_trans h18.len.2.1 h18.len.2.2
     have r325:inI64 (x0.ops.length:Int):=rngNat l326
     refine o_mv rfl rfl (o_z ?_)
     obtain ⟨res327,hL328,hf308⟩:=bs hf308
     refine AL (aft res327 (fun (s329:(List Opr)) (x330:(Option Addr×Nat))=>[(2,(.int .i64 x2)),(3,(.pointer (some ⟨g23,0,none⟩))),(6,(.pointer (some ⟨g28,0,none⟩))),(9,(.int .i64 (x0.vars.length:Int))),(10,(.pointer (some ⟨x81.1,0,none⟩))),(13,(.int .i64 (k302:Int))),(83,(.slice A21 x1.length c22)),(84,(.int .i64 (x1.length:Int))),(85,(.int .i64 (k302:Int)))]) (fun s329 x330 w'=>∃ O':Lab,Bs w A w' O'∧Lc 2 w' O' g23 26 [(.slice A10 x0.vars.length c11),(.slice A13 x0.init.length c14),(.slice A16 x0.goal.length c17),(.slice A19 x0.ops.length c20)]∧Vb w' (Fr 0 w' O') (.slice A10 x0.vars.length c11) x0.vars∧Vb w' (Fr 0 w' O') (.slice A13 x0.init.length c14) x0.init∧Vb w' (Fr 0 w' O') (.slice A16 x0.goal.length c17) x0.goal∧Vb w' (Fr 0 w' O') (.slice A19 x0.ops.length c20) x0.ops∧Lc 3 w' O' g28 26 [(.slice none 0 0),(.slice none 0 0),(.slice none 0 0),(.slice none 0 0)]∧Lc 10 w' O' x81.1 26 [(.slice x81.2.1.1 y78.1.length x81.2.1.2),(.slice x81.2.2.1.1 y78.2.1.length x81.2.2.1.2),(.slice x81.2.2.2.1 y78.2.2.length x81.2.2.2.2),(.slice x330.1 s329.length x330.2)]∧Rw 4 w' O' 3 (.slice x81.2.1.1 y78.1.length x81.2.1.2) y78.1∧Rw 6 w' O' 3 (.slice x81.2.2.1.1 y78.2.1.length x81.2.2.1.2) y78.2.1∧Rw 8 w' O' 62 (.slice x81.2.2.2.1 y78.2.2.length x81.2.2.2.2) y78.2.2∧Rw 12 w' O' 67 (.slice x330.1 s329.length x330.2) s329∧Vb w' (Fr 0 w' O') (.slice A21 x1.length c22) x1)) ?_ ?_
     ·
      refine Al (Bh (σ:=(List Opr)) (X:=(Option Addr×Nat)) (x0.ops.length) hL328 rfl l326 (fun (s329:(List Opr)) (x330:(Option Addr×Nat))=>[(2,(.int .i64 x2)),(3,(.pointer (some ⟨g23,0,none⟩))),(6,(.pointer (some ⟨g28,0,none⟩))),(9,(.int .i64 (x0.vars.length:Int))),(10,(.pointer (some ⟨x81.1,0,none⟩))),(13,(.int .i64 (k302:Int))),(14,(.string a303)),(83,(.slice A21 x1.length c22)),(84,(.int .i64 (x1.length:Int))),(85,(.int .i64 (k302:Int))),(91,(.slice A19 x0.ops.length c20))]) _ (fun s329 x330 w'=>∃ O':Lab,Bs w A w' O'∧Lc 2 w' O' g23 26 [(.slice A10 x0.vars.length c11),(.slice A13 x0.init.length c14),(.slice A16 x0.goal.length c17),(.slice A19 x0.ops.length c20)]∧Vb w' (Fr 0 w' O') (.slice A10 x0.vars.length c11) x0.vars∧Vb w' (Fr 0 w' O') (.slice A13 x0.init.length c14) x0.init∧Vb w' (Fr 0 w' O') (.slice A16 x0.goal.length c17) x0.goal∧Vb w' (Fr 0 w' O') (.slice A19 x0.ops.length c20) x0.ops∧Lc 3 w' O' g28 26 [(.slice none 0 0),(.slice none 0 0),(.slice none 0 0),(.slice none 0 0)]∧Lc 10 w' O' x81.1 26 [(.slice x81.2.1.1 y78.1.length x81.2.1.2),(.slice x81.2.2.1.1 y78.2.1.length x81.2.2.1.2),(.slice x81.2.2.2.1 y78.2.2.length x81.2.2.2.2),(.slice x330.1 s329.length x330.2)]∧Rw 4 w' O' 3 (.slice x81.2.1.1 y78.1.length x81.2.1.2) y78.1∧Rw 6 w' O' 3 (.slice x81.2.2.1.1 y78.2.1.length x81.2.2.1.2) y78.2.1∧Rw 8 w' O' 62 (.slice x81.2.2.2.1 y78.2.2.length x81.2.2.2.2) y78.2.2∧Rw 12 w' O' 67 (.slice x330.1 s329.length x330.2) s329∧Vb w' (Fr 0 w' O') (.slice A21 x1.length c22) x1) _ (x301.1,x301.2) ⟨O305,hB,h27,h9,h12,h15,h18,h32,h82,h83,h85,h87,h315,hx1⟩ ⟨rfl,rfl,rfl,rfl,rfl,rfl,rfl,rfl,rfl,rfl,rfl,rfl,rfl,trivial⟩ (fun _ _=>⟨rfl,rfl⟩) (fun _ _=>⟨rfl,rfl,rfl,rfl,rfl,rfl,rfl,rfl,rfl,trivial⟩) (fun _ _ _ ⟨O',hB,h27,h9,h12,h15,h18,h32,h82,h83,h85,h87,h344,hx1⟩=>⟨O',hB,h27,h9,h12,h15,h18,h32,h82,h83,h85,h87,h344,hx1⟩) ⟨rfl,rfl,rfl⟩ ⟨rfl,rfl⟩ ?_)
      rintro k331 a332 s329 x330 w333 cc335 hx336 ⟨O334,hB,h27,h9,h12,h15,h18,h32,h82,h83,h85,h87,h344,hx1⟩ hf337 hret338 hbrk339
      have rk331:inI64 (k331:Int):=rngK hx336 l326
      refine Ah (Ae ?_)
      obtain ⟨b346,o347,ce348,hA349,hl350,hd351,v353,v354,rfl,h355,h358,r361,z362⟩:=h18.elem' hx336
      obtain ⟨A356,c357,rfl⟩:=h355.form
      obtain ⟨A359,c360,rfl⟩:=h358.form
      refine o_iaE (hA:=hA349) (hj:=rfl) (hlt:=hl350) rfl rfl rfl ?_
      refine o_la (hl:=rfl) (hc:=hd351) rfl rfl ?_
      refine AX 13 O334 rfl fun g363 w364 O365 S366 h367=>?_
      refine AK h367 rfl rfl rfl (Nat.le_of_ble_eq_true rfl) (by first|exact allOne rfl|simp [Value.cells,Value.oneCell',AI]) fun w368 S369 h367=>?_
      replace h367:Lc 13 w368 O365 g363 67 [(.string a332.name),(.int .i64 a332.cost),(.slice A356 a332.pre.length c357),(.slice A359 a332.effs.length c360)]:=h367
      refine o_z ?_
      refine Ah (Ae (o_fa rfl rfl (o_ld (hc:=Blk.cell (i:=0) (h367.1) rfl) rfl rfl ?_)))
      refine o_mv rfl rfl (o_teS rfl rfl rfl (fun c370=>?_) fun c370=>?_)
      ·
       replace hf337:=ip hf337 c370
       refine o_z ?_
       refine Ar rfl (Be [(7,[12])] O365 ?_)
       refine x_pre (fuel:=5) [] [(0,true),(1,true),(2,true),(3,true),(4,true)] (by kernel_rfl) rfl ?_
       refine h_fa rfl rfl rfl ?_
       replace h82:=(h82.st S366).st S369
       refine h_ldC (hc:=fun w' ⟨O',hq⟩=>Blk.cell (i:=3) ((h82.st hq (by decide)).1) rfl) rfl rfl rfl ?_
       refine h_laB (hl:=rfl) (hb:=fun w' ⟨O',hq⟩=>((h367.st hq (by decide)).1).cellsAt) rfl rfl rfl ?_
       refine h_mv rfl rfl rfl (h_mv rfl rfl rfl (AH ?_))
       refine x_one (i:=5) (by kernel_rfl) rfl ?_
       obtain ⟨q371,e372,hf337⟩:=bs hf337
       replace h355:=(h355.st S366).st S369
       replace h358:=(h358.st S366).st S369
       refine Dw (O:=O365) (R:=fun w' F v=>Vb w' F v q371) (GL Fr.lt (Vb.ofAgg (cs:=[(.string a332.name),(.int .i64 a332.cost),(.slice A356 a332.pre.length c357),(.slice A359 a332.effs.length c360)]) (x:=a332) rfl ⟨_,_,rfl,h355,h358,r361,z362⟩) r62 rk302 e372) rfl rfl fun v377 w373 O374 S375 h376=>?_
       obtain ⟨cs378,rfl,v379,v380,rfl,h381,h384,r387,z388⟩:=h376
       obtain ⟨A382,c383,rfl⟩:=h381.form
       obtain ⟨A385,c386,rfl⟩:=h384.form
       have hZ:=S375.lst [] (fun _ h=>h.elim)
       refine x_go [(7,[12])] hZ (by kernel_rfl) ?_
       refine x_one (i:=6) (by kernel_rfl) rfl ?_
       refine Bd 14 (by decide) O374 (xs:=([q371]:List Opr)) rfl rfl rfl rfl ⟨(Vb.ofAgg (cs:=[(.string q371.name),(.int .i64 q371.cost),(.slice A382 q371.pre.length c383),(.slice A385 q371.effs.length c386)]) (x:=q371) rfl ⟨_,_,rfl,h381,h384,r387,z388⟩),trivial⟩ (by decide) (by decide) rfl fun g389 w390 O391 S392 h393=>?_
       have hZ:=S392.lst [] (fun _ h=>h.elim)
       refine x_go [(7,[12])] hZ (by kernel_rfl) ?_
       refine x_one (i:=7) (by kernel_rfl) rfl ?_
       obtain ⟨u395,e396,hf337⟩:=bs hf337
       obtain ⟨e396,e397,e398⟩:=AO e396
       replace h344:=(((h344.st S366).st S369).st S375).st S392
       refine Bb rfl h344 (h393.rd) rfl rfl (by decide) e397 e398 rfl fun A399 c400 w401 O402 S403 h404=>?_
       rw [← e396] at h404 ⊢
       have hZ:=S403.lst [12] (fun _ h=>by cases h;decide)
       refine x_go [] hZ (by kernel_rfl) ?_
       refine x_pre (fuel:=1) [] [(8,true)] (by kernel_rfl) rfl ?_
       refine h_fa rfl rfl rfl (AH ?_)
       refine x_one (i:=9) (by kernel_rfl) rfl ?_
       replace h82:=((h82.st S375).st S392).st S403
       refine AK h82 rfl rfl rfl (Nat.le_of_ble_eq_true rfl) (by first|exact allOne rfl|simp [Value.cells,Value.oneCell',AI]) fun w406 S407 h82=>?_
       replace h82:Lc 10 w406 O402 x81.1 26 [(.slice x81.2.1.1 y78.1.length x81.2.1.2),(.slice x81.2.2.1.1 y78.2.1.length x81.2.2.1.2),(.slice x81.2.2.2.1 y78.2.2.length x81.2.2.2.2),(.slice A399 u395.length c400)]:=h82
       refine x_end (by kernel_rfl) ?_
       refine x_nil (by kernel_rfl) ?_
       obtain rfl:=sm hf337
       refine (?_:Exists _)
       replace hB:=(((((hB.st S366).st S369).st S375).st S392).st S403).st S407
       replace hx1:=(((((hx1.st S366).st S369).st S375).st S392).st S403).st S407
       replace h9:=(((((h9.st S366).st S369).st S375).st S392).st S403).st S407
       replace h12:=(((((h12.st S366).st S369).st S375).st S392).st S403).st S407
       replace h15:=(((((h15.st S366).st S369).st S375).st S392).st S403).st S407
       replace h18:=(((((h18.st S366).st S369).st S375).st S392).st S403).st S407
       replace h27:=(((((h27.st S366).st S369).st S375).st S392).st S403).st S407
       replace h32:=(((((h32.st S366).st S369).st S375).st S392).st S403).st S407
       replace h83:=(((((h83.st S366).st S369).st S375).st S392).st S403).st S407
       replace h85:=(((((h85.st S366).st S369).st S375).st S392).st S403).st S407
       replace h87:=(((((h87.st S366).st S369).st S375).st S392).st S403).st S407
       replace h404:=h404.st S407
       exact ⟨_,(A399,c400),rfl,⟨rfl,rfl,rfl,rfl,rfl,rfl,rfl,rfl,rfl,rfl,rfl,rfl,rfl,trivial⟩,_,hB,h27,h9,h12,h15,h18,h32,h82,h83,h85,h87,h404,hx1⟩
      ·
       replace hf337:=im hf337 c370
       refine o_z ?_
       refine Aj rfl (Am ?_)
       obtain rfl:=sm hf337
       refine (?_:Exists _)
       replace hB:=(hB.st S366).st S369
       replace hx1:=(hx1.st S366).st S369
       replace h9:=(h9.st S366).st S369
       replace h12:=(h12.st S366).st S369
       replace h15:=(h15.st S366).st S369
       replace h18:=(h18.st S366).st S369
       replace h27:=(h27.st S366).st S369
       replace h32:=(h32.st S366).st S369
       replace h82:=(h82.st S366).st S369
       replace h83:=(h83.st S366).st S369
       replace h85:=(h85.st S366).st S369
       replace h87:=(h87.st S366).st S369
       replace h344:=(h344.st S366).st S369
       exact ⟨_,(x330.1,x330.2),rfl,⟨rfl,rfl,rfl,rfl,rfl,rfl,rfl,rfl,rfl,rfl,rfl,rfl,rfl,trivial⟩,_,hB,h27,h9,h12,h15,h18,h32,h82,h83,h85,h87,h344,hx1⟩
     rintro l408 w409 ⟨s412,x413,rfl,hs411,O410,hB,h27,h9,h12,h15,h18,h32,h82,h83,h85,h87,h344,hx1⟩
     replace hf308:=AR hf308
     refine AM _ hs411 ?_
     refine Be [(8,[12])] O410 ?_
     refine x_pre (fuel:=5) [] [(0,true),(1,true),(2,true),(3,true),(4,true),(5,true)] (by kernel_rfl) rfl ?_
     refine h_fa rfl rfl rfl (h_ldC (hc:=fun w' ⟨O',hq⟩=>Blk.cell (i:=3) ((h82.st hq (by decide)).1) rfl) rfl rfl rfl ?_)
     refine h_mv rfl rfl rfl (h_bd rfl rfl rfl rfl ?_)
     refine h_mv rfl rfl rfl (h_mv rfl rfl rfl (AH ?_))
     refine x_one (i:=6) (by kernel_rfl) rfl ?_
     obtain ⟨q414,e415,hf308⟩:=bs hf308
     refine Dw (O:=O410) (R:=fun w' F v=>Vb w' F v q414) (GL Fr.lt (Vb.ofAgg (cs:=[(.string (⟨#[]⟩:ByteArray)),(.int .i64 x2),(.slice none 0 0),(.slice none 0 0)]) (x:=(⟨(⟨#[]⟩:ByteArray),x2,([]:List Fct),([]:List Eff)⟩:Opr)) rfl ⟨_,_,rfl,(Vb.nil _ _),(Vb.nil _ _),rx2,(show (⟨#[]⟩:ByteArray).size≤9223372036854775807 from by decide)⟩) r62 rk302 e415) rfl rfl fun v420 w416 O417 S418 h419=>?_
     obtain ⟨cs421,rfl,v422,v423,rfl,h424,h427,r430,z431⟩:=h419
     obtain ⟨A425,c426,rfl⟩:=h424.form
     obtain ⟨A428,c429,rfl⟩:=h427.form
     have hZ:=S418.lst [] (fun _ h=>h.elim)
     refine x_go [(8,[12])] hZ (by kernel_rfl) ?_
     refine x_one (i:=7) (by kernel_rfl) rfl ?_
     refine Bd 15 (by decide) O417 (xs:=([q414]:List Opr)) rfl rfl rfl rfl ⟨(Vb.ofAgg (cs:=[(.string q414.name),(.int .i64 q414.cost),(.slice A425 q414.pre.length c426),(.slice A428 q414.effs.length c429)]) (x:=q414) rfl ⟨_,_,rfl,h424,h427,r430,z431⟩),trivial⟩ (by decide) (by decide) rfl fun g432 w433 O434 S435 h436=>?_
     have hZ:=S435.lst [] (fun _ h=>h.elim)
     refine x_go [(8,[12])] hZ (by kernel_rfl) ?_
     refine x_one (i:=8) (by kernel_rfl) rfl ?_
     obtain ⟨u438,e439,hf308⟩:=bs hf308
     obtain ⟨e439,e440,e441⟩:=AO e439
     replace h344:=(h344.st S418).st S435
     refine Bb rfl h344 (h436.rd) rfl rfl (by decide) e440 e441 rfl fun A442 c443 w444 O445 S446 h447=>?_
     rw [← e439] at h447 ⊢
     have hZ:=S446.lst [12] (fun _ h=>by cases h;decide)
     refine x_go [] hZ (by kernel_rfl) ?_
     refine x_pre (fuel:=1) [] [(9,true)] (by kernel_rfl) rfl ?_
     refine h_fa rfl rfl rfl (AH ?_)
     refine x_one (i:=10) (by kernel_rfl) rfl ?_
     replace h82:=((h82.st S418).st S435).st S446
     refine AK h82 rfl rfl rfl (Nat.le_of_ble_eq_true rfl) (by first|exact allOne rfl|simp [Value.cells,Value.oneCell',AI]) fun w449 S450 h82=>?_
     replace h82:Lc 10 w449 O445 x81.1 26 [(.slice x81.2.1.1 y78.1.length x81.2.1.2),(.slice x81.2.2.1.1 y78.2.1.length x81.2.2.1.2),(.slice x81.2.2.2.1 y78.2.2.length x81.2.2.2.2),(.slice A442 u438.length c443)]:=h82
     refine x_end (by kernel_rfl) ?_
     refine x_nil (by kernel_rfl) ?_
     obtain rfl:=sm hf308
     refine (?_:Exists _)
     replace hB:=(((hB.st S418).st S435).st S446).st S450
     replace hx1:=(((hx1.st S418).st S435).st S446).st S450
     replace h9:=(((h9.st S418).st S435).st S446).st S450
     replace h12:=(((h12.st S418).st S435).st S446).st S450
     replace h15:=(((h15.st S418).st S435).st S446).st S450
     replace h18:=(((h18.st S418).st S435).st S446).st S450
     replace h27:=(((h27.st S418).st S435).st S446).st S450
     replace h32:=(((h32.st S418).st S435).st S446).st S450
     replace h83:=(((h83.st S418).st S435).st S446).st S450
     replace h85:=(((h85.st S418).st S435).st S446).st S450
     replace h87:=(((h87.st S418).st S435).st S446).st S450
     replace h447:=h447.st S450
     exact ⟨_,(A442,c443),rfl,⟨rfl,rfl,rfl,rfl,rfl,rfl,rfl,rfl,trivial⟩,_,hB,h27,h9,h12,h15,h18,h32,h82,h83,h85,h87,h447,hx1⟩
    rintro l451 w452 ⟨s455,x456,rfl,hs454,O453,hB,h32,h82,h83,h85,h87,h315⟩
    replace hm:=AR hm
    refine AM _ hs454 ?_
    refine Ah (Ah (Ae (o_la (hl:=rfl) (hc:=(h82.1).cellsAt) rfl rfl ?_)))
    obtain ⟨O457,S458,h83⟩:=h83.freeze
    replace h85:=h85.st S458
    obtain ⟨O459,S460,h85⟩:=h85.freeze
    replace h87:=(h87.st S458).st S460
    obtain ⟨O461,S462,h87⟩:=h87.freeze
    replace h315:=((h315.st S458).st S460).st S462
    obtain ⟨O463,S464,h315⟩:=h315.freeze
    obtain ⟨q465,e466,hm⟩:=bs hm
    replace h83:=((h83.st S460).st S462).st S464
    replace h85:=(h85.st S462).st S464
    replace h87:=h87.st S464
    refine Bg (O:=O463) (A:=All w452) (R:=fun w' F v=>Vb w' F v q465) (GK (fun _ h=>h) (Vb.mono (F:=Fr 0 w452 O463) (Vb.ofAgg (cs:=[(.slice x81.2.1.1 y78.1.length x81.2.1.2),(.slice x81.2.2.1.1 y78.2.1.length x81.2.2.1.2),(.slice x81.2.2.2.1 y78.2.2.length x81.2.2.2.2),(.slice x456.1 s455.length x456.2)]) (x:=(⟨y78.1,y78.2.1,y78.2.2,s455⟩:Tsk)) rfl ⟨_,_,_,_,rfl,h83,h85,h87,h315⟩) Fr.lt) e466) rfl rfl fun v471 w467 O468 S469 h470=>?_
    obtain ⟨rfl,r472⟩:=h470.int
    refine o_as rfl rfl (o_z ?_)
    refine Ah (Ae (o_mv rfl rfl (o_neS rfl rfl rfl (fun c473=>?_) fun c473=>?_)))
    ·
     replace hm:=ip hm c473
     refine o_z ?_
     refine Ar rfl (Ah (Ae (o_bd rfl rfl rfl ?_)))
     refine o_mv rfl rfl ?_
     replace h32:=((((h32.st S458).st S460).st S462).st S464).st S469
     refine AK h32 rfl rfl rfl (Nat.le_of_ble_eq_true rfl) (by first|exact allOne rfl|simp [Value.cells,Value.oneCell',AI]) fun w474 S475 h32=>?_
     replace h32:Lc 3 w474 O468 g28 26 [(.slice none 0 0),(.slice none 0 0),(.slice none 0 0),(.slice none 0 0)]:=h32
     refine o_as rfl rfl (o_z ?_)
     refine At ?_
     obtain rfl:=sm hm
     replace hB:=(((((hB.st S458).st S460).st S462).st S464).st S469).st S475
     exact ret2 rfl (Bf (cs:=[(.slice none 0 0),(.slice none 0 0),(.slice none 0 0),(.slice none 0 0)]) rfl rfl h32.1.cellsAt) (AF rfl) ⟨hB.ext,_,_,rfl,(Vb.mono (F:=Fr 0 w474 O468) (Vb.ofAgg (cs:=[(.slice none 0 0),(.slice none 0 0),(.slice none 0 0),(.slice none 0 0)]) (x:=(⟨([]:List Int),([]:List Int),([]:List Fct),([]:List Opr)⟩:Tsk)) rfl ⟨_,_,_,_,rfl,(Vb.nil _ _),(Vb.nil _ _),(Vb.nil _ _),(Vb.nil _ _)⟩) hB.out),(vInt r472)⟩
    ·
     replace hm:=im hm c473
     refine o_z ?_
     refine Aj rfl (Am (Ah (Ae ?_)))
     replace h82:=((((h82.st S458).st S460).st S462).st S464).st S469
     refine o_la (hl:=rfl) (hc:=(h82.1).cellsAt) rfl rfl ?_
     replace h32:=((((h32.st S458).st S460).st S462).st S464).st S469
     refine AK h32 rfl rfl rfl (Nat.le_of_ble_eq_true rfl) (by first|exact allOne rfl|simp [Value.cells,Value.oneCell',AI]) fun w476 S477 h32=>?_
     replace h32:Lc 3 w476 O468 g28 26 [(.slice x81.2.1.1 y78.1.length x81.2.1.2),(.slice x81.2.2.1.1 y78.2.1.length x81.2.2.1.2),(.slice x81.2.2.2.1 y78.2.2.length x81.2.2.2.2),(.slice x456.1 s455.length x456.2)]:=h32
     refine o_as rfl rfl (o_z ?_)
     refine At ?_
     obtain rfl:=sm hm
     replace hB:=(((((hB.st S458).st S460).st S462).st S464).st S469).st S477
     replace h83:=(h83.st S469).st S477
     replace h85:=(h85.st S469).st S477
     replace h87:=(h87.st S469).st S477
     replace h315:=(h315.st S469).st S477
     exact ret2 rfl (Bf (cs:=[(.slice x81.2.1.1 y78.1.length x81.2.1.2),(.slice x81.2.2.1.1 y78.2.1.length x81.2.2.1.2),(.slice x81.2.2.2.1 y78.2.2.length x81.2.2.2.2),(.slice x456.1 s455.length x456.2)]) rfl rfl h32.1.cellsAt) (AF rfl) ⟨hB.ext,_,_,rfl,(Vb.mono (F:=Fr 0 w476 O468) (Vb.ofAgg (cs:=[(.slice x81.2.1.1 y78.1.length x81.2.1.2),(.slice x81.2.2.1.1 y78.2.1.length x81.2.2.1.2),(.slice x81.2.2.2.1 y78.2.2.length x81.2.2.2.2),(.slice x456.1 s455.length x456.2)]) (x:=(⟨y78.1,y78.2.1,y78.2.2,s455⟩:Tsk)) rfl ⟨_,_,_,_,rfl,h83,h85,h87,h315⟩) hB.out),(vInt (show inI64 (0) from by decide))⟩
noncomputable def CI  : Option Bool :=
  bnd (Dl (⟨([2]:List Int),([0]:List Int),[(⟨0,1⟩:Fct)],[(⟨(⟨#[97]⟩:ByteArray),3,([]:List Fct),[(⟨([]:List Fct),0,1⟩:Eff)]⟩:Opr)]⟩:Tsk) [(⟨#[97]⟩:ByteArray)] 5 100) fun q56=>bnd (if q56.2.2.n=0 then (if q56.2.1=0 then (if q56.1.verdict=1 then (if q56.1.cost=3 then (bnd (Dp q56.1.plan ([0]:List Int)) fun q100=>if q100=true then some true else some false) else (some false)) else (some false)) else (some false)) else (some false):Option Bool) fun y86=>some y86
theorem GM {w:World} {A:Nat→Prop} (hA:∀ k,A k→k < w.heap.size)  {r:Bool} (hm:CI  = some r) :
    Fn Tryz.prog 10 [] w fun v w'=>Ext w w'∧Vb w' (upA A w w') v r:=by
 obtain ⟨O,hB,hA0⟩:=enter hA
 refine AJ Tryz.func10 rfl Tryz.ntmps10 rfl ?_
 unfold CI at hm
 refine Ah (Ae (o_as rfl rfl (o_z ?_)))
 refine Ah (Ae (Bd 2 (by decide) O (xs:=(([2]:List Int):List Int)) rfl rfl rfl rfl ⟨(vInt (show inI64 (2) from by decide)),trivial⟩ (by decide) (by decide) rfl fun g1 w2 O3 S4 h5=>?_))
 refine Bd 3 (by decide) O3 (xs:=(([0]:List Int):List Int)) rfl rfl rfl rfl ⟨(vInt (show inI64 (0) from by decide)),trivial⟩ (by decide) (by decide) rfl fun g7 w8 O9 S10 h11=>?_
 refine o_bd rfl rfl rfl ?_
 refine Bd 4 (by decide) O9 (xs:=([(⟨0,1⟩:Fct)]:List Fct)) rfl rfl rfl rfl ⟨(Vb.ofAgg (cs:=[(.int .i64 0),(.int .i64 1)]) (x:=(⟨0,1⟩:Fct)) rfl ⟨rfl,(show inI64 (0) from by decide),(show inI64 (1) from by decide)⟩),trivial⟩ (by decide) (by decide) rfl fun g13 w14 O15 S16 h17=>?_
 refine o_bd rfl rfl rfl ?_
 refine Bd 5 (by decide) O15 (xs:=([(⟨([]:List Fct),0,1⟩:Eff)]:List Eff)) rfl rfl rfl rfl ⟨(Vb.ofAgg (cs:=[(.slice none 0 0),(.int .i64 0),(.int .i64 1)]) (x:=(⟨([]:List Fct),0,1⟩:Eff)) rfl ⟨_,rfl,(Vb.nil _ _),(show inI64 (0) from by decide),(show inI64 (1) from by decide)⟩),trivial⟩ (by decide) (by decide) rfl fun g19 w20 O21 S22 h23=>?_
 refine o_bd rfl rfl rfl ?_
 obtain ⟨O25,S26,h23⟩:=h23.freeze
 refine Bd 6 (by decide) O25 (xs:=([(⟨(⟨#[97]⟩:ByteArray),3,([]:List Fct),[(⟨([]:List Fct),0,1⟩:Eff)]⟩:Opr)]:List Opr)) rfl rfl rfl rfl ⟨(Vb.ofAgg (cs:=[(.string (⟨#[97]⟩:ByteArray)),(.int .i64 3),(.slice none 0 0),(.slice (some ⟨g19,0,none⟩) [(⟨([]:List Fct),0,1⟩:Eff)].length 1)]) (x:=(⟨(⟨#[97]⟩:ByteArray),3,([]:List Fct),[(⟨([]:List Fct),0,1⟩:Eff)]⟩:Opr)) rfl ⟨_,_,rfl,(Vb.nil _ _),h23,(show inI64 (3) from by decide),(show (⟨#[97]⟩:ByteArray).size≤9223372036854775807 from by decide)⟩),trivial⟩ (by decide) (by decide) rfl fun g27 w28 O29 S30 h31=>?_
 refine o_bd rfl rfl rfl ?_
 refine AX 7 O29 rfl fun g33 w34 O35 S36 h37=>?_
 refine AK h37 rfl rfl rfl (Nat.le_of_ble_eq_true rfl) (by first|exact allOne rfl|simp [Value.cells,Value.oneCell',AI]) fun w38 S39 h37=>?_
 replace h37:Lc 7 w38 O35 g33 26 [(.slice (some ⟨g1,0,none⟩) ([2]:List Int).length 1),(.slice (some ⟨g7,0,none⟩) ([0]:List Int).length 1),(.slice (some ⟨g13,0,none⟩) [(⟨0,1⟩:Fct)].length 1),(.slice (some ⟨g27,0,none⟩) [(⟨(⟨#[97]⟩:ByteArray),3,([]:List Fct),[(⟨([]:List Fct),0,1⟩:Eff)]⟩:Opr)].length 1)]:=h37
 refine o_z ?_
 refine Ah (Ae (o_la (hl:=rfl) (hc:=(h37.1).cellsAt) rfl rfl ?_))
 refine Bd 8 (by decide) O35 (xs:=([(⟨#[97]⟩:ByteArray)]:List ByteArray)) rfl rfl rfl rfl ⟨(vStr (show (⟨#[97]⟩:ByteArray).size≤9223372036854775807 from by decide)),trivial⟩ (by decide) (by decide) rfl fun g40 w41 O42 S43 h44=>?_
 replace h5:=(((((((h5.st S10).st S16).st S22).st S26).st S30).st S36).st S39).st S43
 obtain ⟨O46,S47,h5⟩:=h5.freeze
 replace h11:=(((((((h11.st S16).st S22).st S26).st S30).st S36).st S39).st S43).st S47
 obtain ⟨O48,S49,h11⟩:=h11.freeze
 replace h17:=(((((((h17.st S22).st S26).st S30).st S36).st S39).st S43).st S47).st S49
 obtain ⟨O50,S51,h17⟩:=h17.freeze
 replace h31:=(((((h31.st S36).st S39).st S43).st S47).st S49).st S51
 obtain ⟨O52,S53,h31⟩:=h31.freeze
 replace h44:=(((h44.st S47).st S49).st S51).st S53
 obtain ⟨O54,S55,h44⟩:=h44.freeze
 obtain ⟨q56,e57,hm⟩:=bs hm
 replace h5:=(((h5.st S49).st S51).st S53).st S55
 replace h11:=((h11.st S51).st S53).st S55
 replace h17:=(h17.st S53).st S55
 replace h31:=h31.st S55
 refine Dw (O:=O54) (R:=fun w' F v=>T3 w' F v q56) (Im Fr.lt (Vb.ofAgg (cs:=[(.slice (some ⟨g1,0,none⟩) ([2]:List Int).length 1),(.slice (some ⟨g7,0,none⟩) ([0]:List Int).length 1),(.slice (some ⟨g13,0,none⟩) [(⟨0,1⟩:Fct)].length 1),(.slice (some ⟨g27,0,none⟩) [(⟨(⟨#[97]⟩:ByteArray),3,([]:List Fct),[(⟨([]:List Fct),0,1⟩:Eff)]⟩:Opr)].length 1)]) (x:=(⟨([2]:List Int),([0]:List Int),[(⟨0,1⟩:Fct)],[(⟨(⟨#[97]⟩:ByteArray),3,([]:List Fct),[(⟨([]:List Fct),0,1⟩:Eff)]⟩:Opr)]⟩:Tsk)) rfl ⟨_,_,_,_,rfl,h5,h11,h17,h31⟩) h44 (show inI64 (5) from by decide) (show inI64 (100) from by decide) e57) rfl rfl fun v62 w58 O59 S60 h61=>?_
 obtain ⟨v63,v64,v65,rfl,h66,h67,h68⟩:=h61
 obtain ⟨cs69,rfl,v70,rfl,h71,r74,r75,r76⟩:=h66
 obtain ⟨A72,c73,rfl⟩:=h71.form
 obtain ⟨rfl,r77⟩:=h67.int
 obtain ⟨rfl,r78⟩:=h68.err
 refine o_mv rfl rfl (o_ex rfl rfl rfl (o_ex rfl rfl rfl (o_ex rfl rfl rfl (AX 9 O59 rfl fun g79 w80 O81 S82 h83=>?_))))
 refine AK h83 rfl rfl rfl (Nat.le_of_ble_eq_true rfl) (by first|exact allOne rfl|simp [Value.cells,Value.oneCell',AI]) fun w84 S85 h83=>?_
 replace h83:Lc 9 w84 O81 g79 32 [(.int .i64 q56.1.verdict),(.slice A72 q56.1.plan.length c73),(.int .i64 q56.1.cost),(.int .i64 q56.1.expanded)]:=h83
 refine o_as rfl rfl (o_as rfl rfl (o_z ?_))
 refine Ah ?_
 obtain ⟨y86,hy87,hm⟩:=bs hm
 refine AL (fun l' w'=>∃ (x89:Unit) (O':Lab),subs l' [(0,(.bool y86))]∧Bs w A w' O') ?_ ?_
 ·
  refine Ae (o_mv rfl rfl (o_erS rfl rfl (fun c90=>?_) fun c90=>?_))
  ·
   replace hy87:=ip hy87 c90
   refine o_mv rfl rfl (AC rfl rfl (o_mv rfl rfl (AC rfl rfl (o_eeS rfl rfl rfl (fun c91=>?_) fun c91=>?_))))
   ·
    replace hy87:=ip hy87 c91
    refine o_pt rfl rfl rfl (o_mv rfl rfl (AC rfl rfl (o_fa rfl rfl (AC rfl rfl (o_ld (hc:=Blk.cell (i:=0) (h83.1) rfl) rfl rfl ?_)))))
    refine AC rfl rfl (o_eeS rfl rfl rfl (fun c92=>?_) fun c92=>?_)
    ·
     replace hy87:=ip hy87 c92
     refine o_pt rfl rfl rfl (o_mv rfl rfl (AC rfl rfl (o_fa rfl rfl (AC rfl rfl (o_ld (hc:=Blk.cell (i:=2) (h83.1) rfl) rfl rfl ?_)))))
     refine AC rfl rfl (o_eeS rfl rfl rfl (fun c93=>?_) fun c93=>?_)
     ·
      replace hy87:=ip hy87 c93
      refine o_pt rfl rfl rfl (o_mv rfl rfl (AC rfl rfl (o_fa rfl rfl (AC rfl rfl (o_ld (hc:=Blk.cell (i:=1) (h83.1) rfl) rfl rfl ?_)))))
      refine AC rfl rfl (Bd 10 (by decide) O81 (xs:=(([0]:List Int):List Int)) rfl rfl rfl rfl ⟨(vInt (show inI64 (0) from by decide)),trivial⟩ (by decide) (by decide) rfl fun g94 w95 O96 S97 h98=>?_)
      refine AC rfl rfl ?_
      obtain ⟨q100,e101,hy87⟩:=bs hy87
      replace h71:=((h71.st S82).st S85).st S97
      refine Bg (O:=O96) (A:=All w95) (R:=fun w' F v=>Vb w' F v q100) (FR (fun _ h=>h) (Vb.mono (F:=Fr 0 w95 O96) h71 Fr.lt) (h98).all e101) rfl rfl fun v106 w102 O103 S104 h105=>?_
      obtain rfl:=h105.bool
      cases q100
      case false =>
       replace hy87:=iF hy87
       refine o_pt rfl rfl rfl (o_as rfl rfl (o_z ?_))
       obtain rfl:=sm hy87
       replace hB:=((((((((((((((((((hB.st S4).st S10).st S16).st S22).st S26).st S30).st S36).st S39).st S43).st S47).st S49).st S51).st S53).st S55).st S60).st S82).st S85).st S97).st S104
       exact ⟨(),_,⟨rfl,trivial⟩,hB⟩
      replace hy87:=iT hy87
      refine o_pt rfl rfl rfl (o_as rfl rfl (o_z ?_))
      obtain rfl:=sm hy87
      replace hB:=((((((((((((((((((hB.st S4).st S10).st S16).st S22).st S26).st S30).st S36).st S39).st S43).st S47).st S49).st S51).st S53).st S55).st S60).st S82).st S85).st S97).st S104
      exact ⟨(),_,⟨rfl,trivial⟩,hB⟩
     ·
      replace hy87:=im hy87 c93
      refine o_pt rfl rfl rfl (o_mv rfl rfl (AB rfl rfl rfl rfl (AB rfl rfl rfl rfl (AB rfl rfl rfl rfl (AB rfl rfl rfl rfl (o_pf rfl rfl rfl (o_as rfl rfl (o_z ?_))))))))
      obtain rfl:=sm hy87
      replace hB:=((((((((((((((((hB.st S4).st S10).st S16).st S22).st S26).st S30).st S36).st S39).st S43).st S47).st S49).st S51).st S53).st S55).st S60).st S82).st S85
      exact ⟨(),_,⟨rfl,trivial⟩,hB⟩
    ·
     replace hy87:=im hy87 c92
     refine o_pt rfl rfl rfl (o_mv rfl rfl (AB rfl rfl rfl rfl (AB rfl rfl rfl rfl (AB rfl rfl rfl rfl (o_pf rfl rfl rfl (o_mv rfl rfl (AB rfl rfl rfl rfl (AB rfl rfl rfl rfl (AB rfl rfl rfl rfl (AB rfl rfl rfl rfl (o_pf rfl rfl rfl (o_as rfl rfl (o_z ?_)))))))))))))
     obtain rfl:=sm hy87
     replace hB:=((((((((((((((((hB.st S4).st S10).st S16).st S22).st S26).st S30).st S36).st S39).st S43).st S47).st S49).st S51).st S53).st S55).st S60).st S82).st S85
     exact ⟨(),_,⟨rfl,trivial⟩,hB⟩
   ·
    replace hy87:=im hy87 c91
    refine o_pt rfl rfl rfl (o_mv rfl rfl (AB rfl rfl rfl rfl (AB rfl rfl rfl rfl (AB rfl rfl rfl rfl (o_pf rfl rfl rfl (o_mv rfl rfl (AB rfl rfl rfl rfl (AB rfl rfl rfl rfl (AB rfl rfl rfl rfl (o_pf rfl rfl rfl (o_mv rfl rfl (AB rfl rfl rfl rfl (AB rfl rfl rfl rfl (AB rfl rfl rfl rfl ?_))))))))))))))
    refine AB rfl rfl rfl rfl (o_pf rfl rfl rfl (o_as rfl rfl (o_z ?_)))
    obtain rfl:=sm hy87
    replace hB:=((((((((((((((((hB.st S4).st S10).st S16).st S22).st S26).st S30).st S36).st S39).st S43).st S47).st S49).st S51).st S53).st S55).st S60).st S82).st S85
    exact ⟨(),_,⟨rfl,trivial⟩,hB⟩
  ·
   replace hy87:=im hy87 c90
   refine o_mv rfl rfl (AB rfl rfl rfl rfl (AB rfl rfl rfl rfl (o_pf rfl rfl rfl (o_mv rfl rfl (AB rfl rfl rfl rfl (AB rfl rfl rfl rfl (AB rfl rfl rfl rfl (o_pf rfl rfl rfl (o_mv rfl rfl (AB rfl rfl rfl rfl (AB rfl rfl rfl rfl (AB rfl rfl rfl rfl (o_pf rfl rfl rfl (o_mv rfl rfl ?_))))))))))))))
   refine AB rfl rfl rfl rfl (AB rfl rfl rfl rfl (AB rfl rfl rfl rfl (AB rfl rfl rfl rfl (o_pf rfl rfl rfl (o_as rfl rfl (o_z ?_))))))
   obtain rfl:=sm hy87
   replace hB:=((((((((((((((((hB.st S4).st S10).st S16).st S22).st S26).st S30).st S36).st S39).st S43).st S47).st S49).st S51).st S53).st S55).st S60).st S82).st S85
   exact ⟨(),_,⟨rfl,trivial⟩,hB⟩
 replace hB:=((((((((((((((((hB.st S4).st S10).st S16).st S22).st S26).st S30).st S36).st S39).st S43).st S47).st S49).st S51).st S53).st S55).st S60).st S82).st S85
 rintro l107 w108 ⟨x89,O109,hs110,hB⟩
 refine AM _ hs110 ?_
 refine At ?_
 obtain rfl:=sm hm
 exact ret1v rfl (AF rfl) ⟨hB.ext,vBool⟩
end
section
open Go Go.RowKit
attribute [local irreducible] ewp owp hwp hwq hws Ev Evg Fn retPost loud loudS Res1
attribute [local irreducible] hwx loudX hwz zNext
noncomputable def CA (x0:Tsk) (x1:List ByteArray) (x2:Int):Option Bool :=
  bnd (if 70 < (x0.vars.length:Int) then (some true) else (if 20 < (x0.ops.length:Int) then (some true) else (bnd (DX x1) fun q38=>if q38=true then some true else bnd (CI) fun q45=>if q45=true then some false else some true)):Option Bool) fun y28=>if y28=true then (bnd (bnd (CI) fun q61=>if q61=true then some true else some false:Option Bool) fun y57=>some y57) else (bnd (DG x0 x1 x2) fun q72=>bnd (BC x0 x1 x2) fun q108=>bnd (bnd (Gu (⟨q72.2.n⟩:Err)) fun q148=>if q148=q108.2 then (bnd (DY q72.1 q108.1) fun q157=>if q157=true then some true else some false) else (some false):Option Bool) fun y144=>some y144)
theorem FV {w:World} {A:Nat→Prop} (hA:∀ k,A k→k < w.heap.size) {vx0:Value} {x0:Tsk} (hx0:Vb w A vx0 x0) {vx1:Value} {x1:List ByteArray} (hx1:Vb w A vx1 x1) {x2:Int} (rx2:inI64 x2) {r:Bool} (hm:CA x0 x1 x2=some r) :
    Fn Tryz.prog 6 [vx0,vx1,(.int .i64 x2)] w fun v w'=>Ext w w'∧Vb w' (upA A w w') v r:=by
 obtain ⟨O,hB,hA0⟩:=enter hA
 replace hx0:=hx0.mono hA0
 obtain ⟨cs4,rfl,v5,v6,v7,v8,rfl,h9,h12,h15,h18⟩:=hx0
 obtain ⟨A10,c11,rfl⟩:=h9.form
 obtain ⟨A13,c14,rfl⟩:=h12.form
 obtain ⟨A16,c17,rfl⟩:=h15.form
 obtain ⟨A19,c20,rfl⟩:=h18.form
 replace hx1:=hx1.mono hA0
 obtain ⟨A21,c22,rfl⟩:=hx1.form
 refine AJ Tryz.func6 rfl Tryz.ntmps6 rfl ?_
 unfold CA at hm
 refine Ah (Ae (l_box 2 O rfl rfl fun g23 w24 O25 S26 h27=>?_))
 replace h27:Lc 2 w24 O25 g23 26 [(.slice A10 x0.vars.length c11),(.slice A13 x0.init.length c14),(.slice A16 x0.goal.length c17),(.slice A19 x0.ops.length c20)]:=h27
 refine o_as rfl rfl (o_z ?_)
 refine Ah (Ah ?_)
 obtain ⟨y28,hy29,hm⟩:=bs hm
 refine AL (fun l' w'=>∃ (x31:Unit) (O':Lab),subs l' [(1,(.slice A21 x1.length c22)),(2,(.int .i64 x2)),(3,(.pointer (some ⟨g23,0,none⟩))),(28,(.bool y28))]∧Bs w A w' O'∧Vb w' (Fr 0 w' O') (.slice A21 x1.length c22) x1∧Lc 2 w' O' g23 26 [(.slice A10 x0.vars.length c11),(.slice A13 x0.init.length c14),(.slice A16 x0.goal.length c17),(.slice A19 x0.ops.length c20)]∧Vb w' (Fr 0 w' O') (.slice A10 x0.vars.length c11) x0.vars∧Vb w' (Fr 0 w' O') (.slice A13 x0.init.length c14) x0.init∧Vb w' (Fr 0 w' O') (.slice A16 x0.goal.length c17) x0.goal∧Vb w' (Fr 0 w' O') (.slice A19 x0.ops.length c20) x0.ops) ?_ ?_
 ·
  refine Ae (o_fa rfl rfl (o_ld (hc:=Blk.cell (i:=0) (h27.1) rfl) rfl rfl ?_))
  refine o_ln rfl rfl ?_
  replace h9:=h9.st S26
  have l33:x0.vars.length≤9223372036854775807:=Nat.le_trans h9.len.2.1 h9.len.2.2
  have r32:inI64 (x0.vars.length:Int):=rngNat l33
  refine o_gtS rfl rfl rfl (fun c34=>?_) fun c34=>?_
  ·
   replace hy29:=ip hy29 c34
   refine o_mv rfl rfl (AB rfl rfl rfl rfl (AB rfl rfl rfl rfl (AB rfl rfl rfl rfl (AB rfl rfl rfl rfl (o_pt rfl rfl rfl (o_mv rfl rfl (AB rfl rfl rfl rfl (AB rfl rfl rfl rfl (o_pt rfl rfl rfl (o_mv rfl rfl (AB rfl rfl rfl rfl (AB rfl rfl rfl rfl (o_pt rfl rfl rfl (o_z ?_))))))))))))))
   obtain rfl:=sm hy29
   replace hB:=hB.st S26
   replace hx1:=hx1.st S26
   replace h12:=h12.st S26
   replace h15:=h15.st S26
   replace h18:=h18.st S26
   exact ⟨(),_,⟨rfl,rfl,rfl,rfl,trivial⟩,hB,hx1,h27,h9,h12,h15,h18⟩
  ·
   replace hy29:=im hy29 c34
   refine o_mv rfl rfl (AC rfl rfl (o_fa rfl rfl (AC rfl rfl (o_ld (hc:=Blk.cell (i:=3) (h27.1) rfl) rfl rfl ?_))))
   refine AC rfl rfl (o_ln rfl rfl ?_)
   replace h18:=h18.st S26
   have l36:x0.ops.length≤9223372036854775807:=Nat.le_trans h18.len.2.1 h18.len.2.2
   have r35:inI64 (x0.ops.length:Int):=rngNat l36
   refine AC rfl rfl (o_gtS rfl rfl rfl (fun c37=>?_) fun c37=>?_)
   ·
    replace hy29:=ip hy29 c37
    refine o_pf rfl rfl rfl (o_mv rfl rfl (AB rfl rfl rfl rfl (AB rfl rfl rfl rfl (o_pt rfl rfl rfl (o_mv rfl rfl (AB rfl rfl rfl rfl (AB rfl rfl rfl rfl (o_pt rfl rfl rfl (o_z ?_)))))))))
    obtain rfl:=sm hy29
    replace hB:=hB.st S26
    replace hx1:=hx1.st S26
    replace h12:=h12.st S26
    replace h15:=h15.st S26
    exact ⟨(),_,⟨rfl,rfl,rfl,rfl,trivial⟩,hB,hx1,h27,h9,h12,h15,h18⟩
   ·
    replace hy29:=im hy29 c37
    refine o_pf rfl rfl rfl (o_mv rfl rfl (AC rfl rfl (o_mv rfl rfl (AC rfl rfl ?_))))
    obtain ⟨q38,e39,hy29⟩:=bs hy29
    replace hx1:=hx1.st S26
    refine Bg (O:=O25) (A:=All w24) (R:=fun w' F v=>Vb w' F v q38) (Jy (fun _ h=>h) (Vb.mono (F:=Fr 0 w24 O25) hx1 Fr.lt) e39) rfl rfl fun v44 w40 O41 S42 h43=>?_
    obtain rfl:=h43.bool
    cases q38
    case false =>
     replace hy29:=iF hy29
     refine o_pf rfl rfl rfl (o_mv rfl rfl (AC rfl rfl ?_))
     obtain ⟨q45,e46,hy29⟩:=bs hy29
     refine Bg (O:=O41) (A:=All w40) (R:=fun w' F v=>Vb w' F v q45) (GM (fun _ h=>h)  e46) rfl rfl fun v51 w47 O48 S49 h50=>?_
     obtain rfl:=h50.bool
     cases q45
     case false =>
      replace hy29:=iF hy29
      refine AC rfl rfl (o_nf rfl rfl (o_pf rfl rfl rfl (o_z ?_)))
      obtain rfl:=sm hy29
      replace hB:=((hB.st S26).st S42).st S49
      replace hx1:=(hx1.st S42).st S49
      replace h9:=(h9.st S42).st S49
      replace h12:=((h12.st S26).st S42).st S49
      replace h15:=((h15.st S26).st S42).st S49
      replace h18:=(h18.st S42).st S49
      replace h27:=(h27.st S42).st S49
      exact ⟨(),_,⟨rfl,rfl,rfl,rfl,trivial⟩,hB,hx1,h27,h9,h12,h15,h18⟩
     replace hy29:=iT hy29
     refine AC rfl rfl (o_nt rfl rfl (o_pf rfl rfl rfl (o_z ?_)))
     obtain rfl:=sm hy29
     replace hB:=((hB.st S26).st S42).st S49
     replace hx1:=(hx1.st S42).st S49
     replace h9:=(h9.st S42).st S49
     replace h12:=((h12.st S26).st S42).st S49
     replace h15:=((h15.st S26).st S42).st S49
     replace h18:=(h18.st S42).st S49
     replace h27:=(h27.st S42).st S49
     exact ⟨(),_,⟨rfl,rfl,rfl,rfl,trivial⟩,hB,hx1,h27,h9,h12,h15,h18⟩
    replace hy29:=iT hy29
    refine o_pf rfl rfl rfl (o_mv rfl rfl (AB rfl rfl rfl rfl (AB rfl rfl rfl rfl (o_pt rfl rfl rfl (o_z ?_)))))
    obtain rfl:=sm hy29
    replace hB:=(hB.st S26).st S42
    replace hx1:=hx1.st S42
    replace h9:=h9.st S42
    replace h12:=(h12.st S26).st S42
    replace h15:=(h15.st S26).st S42
    replace h18:=h18.st S42
    replace h27:=h27.st S42
    exact ⟨(),_,⟨rfl,rfl,rfl,rfl,trivial⟩,hB,hx1,h27,h9,h12,h15,h18⟩
 replace hB:=hB.st S26
 replace hx1:=hx1.st S26
 replace h9:=h9.st S26
 replace h12:=h12.st S26
 replace h15:=h15.st S26
 replace h18:=h18.st S26
 rintro l52 w53 ⟨x31,O54,hs55,hB,hx1,h27,h9,h12,h15,h18⟩
 refine AM _ hs55 ?_
 refine Ca rfl (fun c56=>?_) (fun c56=>?_)
 ·
  replace hm:=ip hm c56
  refine Ah ?_
  obtain ⟨y57,hy58,hm⟩:=bs hm
  refine AL (fun l' w'=>∃ (x60:Unit) (O':Lab),subs l' [(6,(.bool y57))]∧Bs w A w' O') ?_ ?_
  ·
   refine Ae ?_
   obtain ⟨q61,e62,hy58⟩:=bs hy58
   refine Bg (O:=O54) (A:=All w53) (R:=fun w' F v=>Vb w' F v q61) (GM (fun _ h=>h)  e62) rfl rfl fun v67 w63 O64 S65 h66=>?_
   obtain rfl:=h66.bool
   cases q61
   case false =>
    replace hy58:=iF hy58
    refine o_as rfl rfl (o_z ?_)
    obtain rfl:=sm hy58
    replace hB:=hB.st S65
    exact ⟨(),_,⟨rfl,trivial⟩,hB⟩
   replace hy58:=iT hy58
   refine o_as rfl rfl (o_z ?_)
   obtain rfl:=sm hy58
   replace hB:=hB.st S65
   exact ⟨(),_,⟨rfl,trivial⟩,hB⟩
  rintro l68 w69 ⟨x60,O70,hs71,hB⟩
  refine AM _ hs71 ?_
  refine At ?_
  obtain rfl:=sm hm
  exact ret1v rfl (AF rfl) ⟨hB.ext,vBool⟩
 ·
  replace hm:=im' hm c56
  refine Am (Ah (Ae (o_la (hl:=rfl) (hc:=(h27.1).cellsAt) rfl rfl ?_)))
  refine o_mv rfl rfl (o_mv rfl rfl ?_)
  obtain ⟨q72,e73,hm⟩:=bs hm
  refine Dw (O:=O54) (R:=fun w' F v=>T2 w' F v q72) (HP Fr.lt (Vb.ofAgg (cs:=[(.slice A10 x0.vars.length c11),(.slice A13 x0.init.length c14),(.slice A16 x0.goal.length c17),(.slice A19 x0.ops.length c20)]) (x:=x0) rfl ⟨_,_,_,_,rfl,h9,h12,h15,h18⟩) hx1 rx2 e73) rfl rfl fun v78 w74 O75 S76 h77=>?_
  obtain ⟨v79,v80,rfl,h81,h82⟩:=h77
  obtain ⟨cs83,rfl,v84,v85,v86,v87,rfl,h88,h91,h94,h97⟩:=h81
  obtain ⟨A89,c90,rfl⟩:=h88.form
  obtain ⟨A92,c93,rfl⟩:=h91.form
  obtain ⟨A95,c96,rfl⟩:=h94.form
  obtain ⟨A98,c99,rfl⟩:=h97.form
  obtain ⟨rfl,r100⟩:=h82.err
  refine o_mv rfl rfl (o_ex rfl rfl rfl (o_ex rfl rfl rfl (AX 3 O75 rfl fun g101 w102 O103 S104 h105=>?_)))
  refine AK h105 rfl rfl rfl (Nat.le_of_ble_eq_true rfl) (by first|exact allOne rfl|simp [Value.cells,Value.oneCell',AI]) fun w106 S107 h105=>?_
  replace h105:Lc 3 w106 O103 g101 26 [(.slice A89 q72.1.vars.length c90),(.slice A92 q72.1.init.length c93),(.slice A95 q72.1.goal.length c96),(.slice A98 q72.1.ops.length c99)]:=h105
  refine o_as rfl rfl (o_z ?_)
  refine Ah (Ae ?_)
  replace h27:=((h27.st S76).st S104).st S107
  refine o_la (hl:=rfl) (hc:=(h27.1).cellsAt) rfl rfl ?_
  refine o_mv rfl rfl (o_mv rfl rfl ?_)
  obtain ⟨q108,e109,hm⟩:=bs hm
  replace hx1:=((hx1.st S76).st S104).st S107
  replace h9:=((h9.st S76).st S104).st S107
  replace h12:=((h12.st S76).st S104).st S107
  replace h15:=((h15.st S76).st S104).st S107
  replace h18:=((h18.st S76).st S104).st S107
  refine Dw (O:=O103) (R:=fun w' F v=>T2 w' F v q108) (In Fr.lt (Vb.ofAgg (cs:=[(.slice A10 x0.vars.length c11),(.slice A13 x0.init.length c14),(.slice A16 x0.goal.length c17),(.slice A19 x0.ops.length c20)]) (x:=x0) rfl ⟨_,_,_,_,rfl,h9,h12,h15,h18⟩) hx1 rx2 e109) rfl rfl fun v114 w110 O111 S112 h113=>?_
  obtain ⟨v115,v116,rfl,h117,h118⟩:=h113
  obtain ⟨cs119,rfl,v120,v121,v122,v123,rfl,h124,h127,h130,h133⟩:=h117
  obtain ⟨A125,c126,rfl⟩:=h124.form
  obtain ⟨A128,c129,rfl⟩:=h127.form
  obtain ⟨A131,c132,rfl⟩:=h130.form
  obtain ⟨A134,c135,rfl⟩:=h133.form
  obtain ⟨rfl,r136⟩:=h118.int
  refine o_mv rfl rfl (o_ex rfl rfl rfl (o_ex rfl rfl rfl (AX 4 O111 rfl fun g137 w138 O139 S140 h141=>?_)))
  refine AK h141 rfl rfl rfl (Nat.le_of_ble_eq_true rfl) (by first|exact allOne rfl|simp [Value.cells,Value.oneCell',AI]) fun w142 S143 h141=>?_
  replace h141:Lc 4 w142 O139 g137 26 [(.slice A125 q108.1.vars.length c126),(.slice A128 q108.1.init.length c129),(.slice A131 q108.1.goal.length c132),(.slice A134 q108.1.ops.length c135)]:=h141
  refine o_as rfl rfl (o_z ?_)
  refine Ah ?_
  obtain ⟨y144,hy145,hm⟩:=bs hm
  refine AL (fun l' w'=>∃ (x147:Unit) (O':Lab),subs l' [(6,(.bool y144))]∧Bs w A w' O') ?_ ?_
  ·
   refine Ae (o_mv rfl rfl ?_)
   obtain ⟨q148,e149,hy145⟩:=bs hy145
   refine Bg (O:=O139) (A:=All w142) (R:=fun w' F v=>Vb w' F v q148) (Ko (fun _ h=>h) r100 e149) rfl rfl fun v154 w150 O151 S152 h153=>?_
   obtain ⟨rfl,r155⟩:=h153.int
   refine o_mv rfl rfl (o_eeS rfl rfl rfl (fun c156=>?_) fun c156=>?_)
   ·
    replace hy145:=ip hy145 c156
    refine o_mv rfl rfl (AC rfl rfl ?_)
    replace h105:=(((h105.st S112).st S140).st S143).st S152
    refine o_la (hl:=rfl) (hc:=(h105.1).cellsAt) rfl rfl ?_
    refine AC rfl rfl ?_
    replace h141:=h141.st S152
    refine o_la (hl:=rfl) (hc:=(h141.1).cellsAt) rfl rfl ?_
    refine AC rfl rfl ?_
    obtain ⟨q157,e158,hy145⟩:=bs hy145
    replace h88:=(((((h88.st S104).st S107).st S112).st S140).st S143).st S152
    replace h91:=(((((h91.st S104).st S107).st S112).st S140).st S143).st S152
    replace h94:=(((((h94.st S104).st S107).st S112).st S140).st S143).st S152
    replace h97:=(((((h97.st S104).st S107).st S112).st S140).st S143).st S152
    replace h124:=((h124.st S140).st S143).st S152
    replace h127:=((h127.st S140).st S143).st S152
    replace h130:=((h130.st S140).st S143).st S152
    replace h133:=((h133.st S140).st S143).st S152
    refine Bg (O:=O151) (A:=All w150) (R:=fun w' F v=>Vb w' F v q157) (Jz (fun _ h=>h) (Vb.mono (F:=Fr 0 w150 O151) (Vb.ofAgg (cs:=[(.slice A89 q72.1.vars.length c90),(.slice A92 q72.1.init.length c93),(.slice A95 q72.1.goal.length c96),(.slice A98 q72.1.ops.length c99)]) (x:=q72.1) rfl ⟨_,_,_,_,rfl,h88,h91,h94,h97⟩) Fr.lt) (Vb.mono (F:=Fr 0 w150 O151) (Vb.ofAgg (cs:=[(.slice A125 q108.1.vars.length c126),(.slice A128 q108.1.init.length c129),(.slice A131 q108.1.goal.length c132),(.slice A134 q108.1.ops.length c135)]) (x:=q108.1) rfl ⟨_,_,_,_,rfl,h124,h127,h130,h133⟩) Fr.lt) e158) rfl rfl fun v163 w159 O160 S161 h162=>?_
    obtain rfl:=h162.bool
    cases q157
    case false =>
     replace hy145:=iF hy145
     refine o_pt rfl rfl rfl (o_as rfl rfl (o_z ?_))
     obtain rfl:=sm hy145
     replace hB:=(((((((hB.st S76).st S104).st S107).st S112).st S140).st S143).st S152).st S161
     exact ⟨(),_,⟨rfl,trivial⟩,hB⟩
    replace hy145:=iT hy145
    refine o_pt rfl rfl rfl (o_as rfl rfl (o_z ?_))
    obtain rfl:=sm hy145
    replace hB:=(((((((hB.st S76).st S104).st S107).st S112).st S140).st S143).st S152).st S161
    exact ⟨(),_,⟨rfl,trivial⟩,hB⟩
   ·
    replace hy145:=im hy145 c156
    refine o_mv rfl rfl (AB rfl rfl rfl rfl (AB rfl rfl rfl rfl (AB rfl rfl rfl rfl (o_pf rfl rfl rfl (o_as rfl rfl (o_z ?_))))))
    obtain rfl:=sm hy145
    replace hB:=((((((hB.st S76).st S104).st S107).st S112).st S140).st S143).st S152
    exact ⟨(),_,⟨rfl,trivial⟩,hB⟩
  replace hB:=(((((hB.st S76).st S104).st S107).st S112).st S140).st S143
  rintro l164 w165 ⟨x147,O166,hs167,hB⟩
  refine AM _ hs167 ?_
  refine At ?_
  obtain rfl:=sm hm
  exact ret1v rfl (AF rfl) ⟨hB.ext,vBool⟩
end
section
open Go Go.RowKit
theorem KS (a:List ByteArray):∃ b,DX a=some b:=by
  have key:∀ (xs:List ByteArray) (k:Nat) (s:Int),∃ s',rng (ρ:=Bool) (fun (_:Nat) (x:ByteArray) (s:Int)=>some (.next (wr (s + (x.size:Int))))) xs k s=some (.done s'):=by
    intro xs
    induction xs with
    | nil=>intro k s;exact ⟨s,rfl⟩
    | cons x xs ih=>intro k s;exact ih (k + 1) _
  obtain ⟨s,hs⟩:=key a 0 (a.length:Int)
  unfold DX
  rw [hs,AE,fin_d]
  by_cases h:600 < s
  · exact ⟨true,by rw [if_pos h,AE]⟩
  · exact ⟨false,by rw [if_neg h,AE]⟩
end
section
open Go Go.RowKit
def keptO (o:Opr) (v p:Int):Opr:=⟨o.name,o.cost,o.pre ++ [⟨v,p⟩],o.effs ++ [⟨[],v,p + 1⟩]⟩
def insL (t:Tsk) (w:Int):List (Opr×Prt):=t.ops.zipIdx.map fun q=>(⟨q.1.name,q.1.cost + w,q.1.pre,q.1.effs⟩,⟨(q.2:Int)⟩)
def keepL (ops:List (Opr×Nat)) (v p:Int) (name:ByteArray):List (Opr×Prt):=(ops.filter fun q=>decide (q.1.name=name)).map fun q=>(keptO q.1 v p,⟨(q.2:Int)⟩)
def delE (w v p:Int):Opr×Prt:=(keptO ⟨⟨#[]⟩,w,[],[]⟩ v p,⟨-1⟩)
def stepL (t:Tsk) (w v p:Int) (name:ByteArray):List (Opr×Prt):=keepL t.ops.zipIdx v p name ++ [delE w v p]
def delL (t:Tsk) (w v:Int):Nat→List ByteArray→List (Opr×Prt)
  | _,[]=>[]
  | p,name :: r=>stepL t w v (p:Int) name ++ delL t w v (p + 1) r
def cmpL (t:Tsk) (old:List ByteArray) (w:Int):List (Opr×Prt):=insL t w ++ delL t w (t.vars.length:Int) 0 old
def cmpT (t:Tsk) (old:List ByteArray) (w:Int):Tsk :=
  ⟨t.vars ++ [(old.length:Int) + 1],t.init ++ [0],t.goal ++ [⟨(t.vars.length:Int),(old.length:Int)⟩],(cmpL t old w).map (·.1)⟩
theorem Hm (t:Tsk) (w v:Int) (name:ByteArray):∀ (l:List ByteArray) (p:Nat),delL t w v p (l ++ [name])=delL t w v p l ++ stepL t w v ((p + l.length:Nat):Int) name
  | [],p=>by simp [delL]
  | x :: l,p=>by
    rw [List.cons_append,delL,delL,Hm t w v name l (p + 1),List.append_assoc,List.length_cons,show p + 1 + l.length=p + (l.length + 1) from by omega]
theorem Fa (ops:List (Opr×Nat)) (v p:Int) (name:ByteArray):(keepL ops v p name).length≤ops.length:=by
  unfold keepL;rw [List.length_map];exact List.length_filter_le _ _
theorem HQ (t:Tsk) (w:Int):(insL t w).length=t.ops.length:=by unfold insL;simp
theorem KT (t:Tsk) (w v p:Int) (name:ByteArray):(stepL t w v p name).length≤t.ops.length + 1:=by
  unfold stepL
  have:=Fa t.ops.zipIdx v p name
  simp only [List.length_append,List.length_singleton,List.length_zipIdx] at this ⊢
  omega
theorem Gz (t:Tsk) (w v:Int):∀ (l:List ByteArray) (p:Nat),(delL t w v p l).length≤l.length * (t.ops.length + 1)
  | [],p=>by simp [delL]
  | x :: l,p=>by
    rw [delL,List.length_append,List.length_cons,Nat.succ_mul]
    have:=KT t w v p x
    have:=Gz t w v l (p + 1)
    omega
theorem Lg (t:Tsk) (old:List ByteArray) (w:Int):(cmpL t old w).length≤t.ops.length + old.length * (t.ops.length + 1):=by
  unfold cmpL
  rw [List.length_append,HQ]
  have:=Gz t w (t.vars.length:Int) old 0
  omega
theorem JA {α:Type} {l:List α} {k:Nat} {x:α} (h:l[k]?=some x):l.zipIdx.take (k + 1)=l.zipIdx.take k ++ [(x,k)]:=by
  rw [List.take_add_one,List.getElem?_zipIdx,h];simp
theorem Ip {ops:List (Opr×Nat)} {v p:Int} {name:ByteArray} {o:Opr} {k:Nat}:keepL (ops ++ [(o,k)]) v p name=keepL ops v p name ++ if o.name=name then [(keptO o v p,⟨(k:Int)⟩)] else []:=by
  unfold keepL
  rw [List.filter_append,List.map_append]
  by_cases h:o.name=name<;>simp [h]
theorem FN {l:List Fct} (h:l.length≤1000000):AU l=some l:=if_pos ⟨by omega,by omega⟩
theorem IV {l:List Eff} (h:l.length≤1000000):AY l=some l:=if_pos ⟨by omega,by omega⟩
theorem IW {l:List Int} (h:l.length≤1000000):Bl l=some l:=if_pos ⟨by omega,by omega⟩
theorem Kh {o:Opr} {v:Int} {p:Nat} (h1:o.pre.length≤1000) (h2:o.effs.length≤1000) (hp:p≤1000):Cp o v (p:Int)=some (keptO o v (p:Int)):=by
  unfold Cp
  rw [FN (by omega),AE,Bw (by simp;omega) (by simp;omega),AE,IV (by omega),AE,Fp (by unfold inI64;omega),AE,Bw (by simp;omega) (by simp;omega),AE]
  rfl
theorem JB {α:Type} {l:List α} {k:Nat} {x:α} (h:l[k]?=some x):l.set k x=l:=by
  refine List.ext_getElem? fun j=>?_
  rw [List.getElem?_set]
  split
  · rename_i e;subst e
    split
    · exact h.symm
    · rename_i h2;exact absurd (Ba h) h2
  · rfl
theorem Lh {l:List Eff} (h:∀ e∈l,e.cond.length≤1000000):BM l=some l:=by
  unfold BM
  rw [IU (fun _=>l) rfl ?_,AE,fin_d]
  intro k hk
  have hg:l[k]?=some l[k]:=List.getElem?_eq_getElem hk
  rw [hg,AE,FN (h _ (List.getElem_mem hk)),AE,AE,JB hg]
def ShortO (o:Opr):Prop:=o.pre.length≤1000∧o.effs.length≤1000∧∀ e∈o.effs,e.cond.length≤1000
theorem OpOk.short {t:Tsk} (hok:TaskOk t) {k:Nat} {o:Opr} (ho:t.ops[k]?=some o):o.pre.length≤64∧o.effs.length≤64∧∀ e∈o.effs,e.cond.length≤64:=by
  obtain ⟨_,_,h1,_,h2,h3⟩:=hok.2.2.2.2.2 k o ho
  have hv:=hok.1
  refine ⟨by have:=CP h2;omega,h1,fun e he=>?_⟩
  obtain ⟨i,hi⟩:=List.getElem?_of_mem he
  have:=CP (h3 i e hi).1
  omega
theorem Kv {t:Tsk} (hok:TaskOk t) (old:List ByteArray) (w:Int):∀ q∈cmpL t old w,ShortO q.1:=by
  have hops:∀ q∈t.ops.zipIdx,q.1.pre.length≤64∧q.1.effs.length≤64∧∀ e∈q.1.effs,e.cond.length≤64:=fun q hq=>by
    obtain ⟨k,hk⟩:=List.getElem?_of_mem hq
    rw [List.getElem?_zipIdx] at hk
    obtain ⟨o,ho,rfl⟩:=Option.map_eq_some_iff.1 hk
    exact OpOk.short hok ho
  have hkept:∀ (o:Opr) (v p:Int),(o.pre.length≤64∧o.effs.length≤64∧∀ e∈o.effs,e.cond.length≤64)→ShortO (keptO o v p):=fun o v p ⟨h1,h2,h3⟩=>by
    refine ⟨by simp [keptO];omega,by simp [keptO];omega,fun e he=>?_⟩
    rcases List.mem_append.1 he with he|he
    · have:=h3 e he;omega
    · have:e=⟨[],v,p + 1⟩:=by simpa using he
      subst this;simp
  have hdel:∀ (l:List ByteArray) (p:Nat),∀ q∈delL t w (t.vars.length:Int) p l,ShortO q.1:=by
    intro l
    induction l with
    | nil=>intro p q hq;simp [delL] at hq
    | cons x l ih =>
      intro p q hq
      rw [delL] at hq
      rcases List.mem_append.1 hq with hq|hq
      · unfold stepL at hq
        rcases List.mem_append.1 hq with hq|hq
        · unfold keepL at hq
          obtain ⟨q',h1,rfl⟩:=List.mem_map.1 hq
          exact hkept _ _ _ (hops q' (List.mem_filter.1 h1).1)
        · have:q=delE w (t.vars.length:Int) p:=by simpa using hq
          subst this
          exact hkept _ _ _ ⟨by simp,by simp,by simp⟩
      · exact ih (p + 1) q hq
  intro q hq
  unfold cmpL at hq
  rcases List.mem_append.1 hq with hq|hq
  · unfold insL at hq
    obtain ⟨q',h1,rfl⟩:=List.mem_map.1 hq
    obtain ⟨h2,h3,h4⟩:=hops q' h1
    exact ⟨by show q'.1.pre.length≤1000;omega,by show q'.1.effs.length≤1000;omega,fun e he=>by have:=h4 e he;omega⟩
  · exact hdel old 0 q hq
def sp (l:List (Opr×Prt)):List Prt×List Opr:=(l.map (·.2),l.map (·.1))
theorem IB (l:List (Opr×Prt)) (q:Opr×Prt):sp (l ++ [q])=((sp l).1 ++ [q.2],(sp l).2 ++ [q.1]):=by simp [sp]
theorem JC (l:List (Opr×Prt)):(sp l).1.length=l.length∧(sp l).2.length=l.length:=by simp [sp]
theorem Kw {t:Tsk} (hok:TaskOk t) (hops:t.ops.length≤20) {old:List ByteArray} (hold:old.length≤63) {w:Int} (hw0:0≤w) (hw1:w≤1000) :
    Bi t old w=some (if checkN (cmpT t old w)≠0 then (⟨[],[],[],[]⟩,[],⟨checkN (cmpT t old w)⟩) else (cmpT t old w,(cmpL t old w).map (·.2),⟨0⟩)):=by
  have hv:=hok.1
  have hi:=hok.2.2.2.1.1
  have hg:=CP hok.2.2.2.2.1
  have hcl:(cmpL t old w).length≤2000:=by
    have:=Lg t old w
    have h2:old.length * (t.ops.length + 1)≤63 * 21:=Nat.mul_le_mul hold (by omega)
    omega
  unfold Bi BY
  rw [Ce.2 hok,AE,if_neg (by simp),if_neg (by omega),if_neg (by omega),AE,if_f,if_neg (by omega),Fp (by unfold inI64;omega),AE,IW (by omega),AE,Bw (by simp;omega) (by simp;omega),AE,IW (by omega),AE,Bw (by simp;omega) (by simp;omega),AE,FN (by omega),AE,Bw (by simp;omega) (by simp;omega),AE,AE]
  have zx:∀ k o,t.ops[k]?=some o→t.ops.zipIdx.take (k + 1)=t.ops.zipIdx.take k ++ [(o,k)]:=fun k o h=>JA h
  rw [Er (fun k=>sp ((t.ops.zipIdx.take k).map fun q=>(⟨q.1.name,q.1.cost + w,q.1.pre,q.1.effs⟩,⟨(q.2:Int)⟩))) (by simp [sp]) ?gg1,AE,fin_d]
  case gg1 =>
    intro k o ho
    have hk:=Ba ho
    obtain ⟨h1,h2,_⟩:=OpOk.short hok ho
    have hc:=(hok.2.2.2.2.2 k o ho).1
    have hc2:=(hok.2.2.2.2.2 k o ho).2.1
    have hl:((t.ops.zipIdx.take k).map fun q=>((⟨q.1.name,q.1.cost + w,q.1.pre,q.1.effs⟩:Opr),(⟨(q.2:Int)⟩:Prt))).length≤20:=by simp;omega
    obtain ⟨l1,l2⟩:=JC ((t.ops.zipIdx.take k).map fun q=>((⟨q.1.name,q.1.cost + w,q.1.pre,q.1.effs⟩:Opr),(⟨(q.2:Int)⟩:Prt)))
    rw [Fp (by unfold inI64;omega),AE,FN (by omega),AE,IV (by omega),AE,Bw (by rw [l2];simp;omega) (by rw [l2];simp;omega),AE,Bw (by rw [l1];simp;omega) (by rw [l1];simp;omega),AE,zx k o ho,List.map_append,List.map_singleton,IB]
  have hzx:t.ops.zipIdx.take t.ops.length=t.ops.zipIdx:=List.take_of_length_le (by simp)
  have hfull:(t.ops.zipIdx.take t.ops.length).map (fun q=>((⟨q.1.name,q.1.cost + w,q.1.pre,q.1.effs⟩:Opr),(⟨(q.2:Int)⟩:Prt)))=insL t w:=by
    unfold insL;rw [hzx]
  rw [hfull]
  rw [Er (fun k=>sp (insL t w ++ delL t w (t.vars.length:Int) 0 (old.take k))) (by simp [delL]) ?gg2,AE,fin_d,List.take_length]
  case gg2 =>
    intro k name hn
    have hk:=Ba hn
    have hbase:(insL t w ++ delL t w (t.vars.length:Int) 0 (old.take k)).length≤1500:=by
      have h1:=Gz t w (t.vars.length:Int) (old.take k) 0
      have h2:(old.take k).length * (t.ops.length + 1)≤63 * 21:=Nat.mul_le_mul (by simp;omega) (by omega)
      rw [List.length_append,HQ];omega
    rw [Er (fun j=>sp ((insL t w ++ delL t w (t.vars.length:Int) 0 (old.take k)) ++ keepL (t.ops.zipIdx.take j) (t.vars.length:Int) (k:Int) name)) (by simp [keepL]) ?gg3,AE,fin_d,hzx]
    case gg3 =>
      intro j o ho
      have hj:=Ba ho
      obtain ⟨h1,h2,_⟩:=OpOk.short hok ho
      have hkl:=Fa (t.ops.zipIdx.take j) (t.vars.length:Int) (k:Int) name
      rw [List.length_take,List.length_zipIdx] at hkl
      obtain ⟨l1,l2⟩:=JC ((insL t w ++ delL t w (t.vars.length:Int) 0 (old.take k)) ++ keepL (t.ops.zipIdx.take j) (t.vars.length:Int) (k:Int) name)
      rw [List.length_append] at l1 l2
      rw [zx j o ho,Ip]
      by_cases he:o.name=name
      · rw [if_pos he,if_pos he,Kh (by omega) (by omega) (by omega),AE,Bw (by rw [l2];simp only [List.length_singleton];omega) (by rw [l2];simp only [List.length_singleton];omega),AE,Bw (by rw [l1];simp only [List.length_singleton];omega) (by rw [l1];simp only [List.length_singleton];omega),AE,← List.append_assoc,IB]
      · rw [if_neg he,if_neg he,List.append_nil]
    have hkl:=Fa t.ops.zipIdx (t.vars.length:Int) (k:Int) name
    rw [List.length_zipIdx] at hkl
    obtain ⟨l1,l2⟩:=JC ((insL t w ++ delL t w (t.vars.length:Int) 0 (old.take k)) ++ keepL t.ops.zipIdx (t.vars.length:Int) (k:Int) name)
    rw [List.length_append] at l1 l2
    have htk:old.take (k + 1)=old.take k ++ [name]:=by rw [List.take_add_one,hn];rfl
    have hfin:sp (insL t w ++ delL t w (t.vars.length:Int) 0 (old.take (k + 1)))=((sp ((insL t w ++ delL t w (t.vars.length:Int) 0 (old.take k)) ++ keepL t.ops.zipIdx (t.vars.length:Int) (k:Int) name)).1 ++ [⟨-1⟩],(sp ((insL t w ++ delL t w (t.vars.length:Int) 0 (old.take k)) ++ keepL t.ops.zipIdx (t.vars.length:Int) (k:Int) name)).2 ++ [keptO ⟨⟨#[]⟩,w,[],[]⟩ (t.vars.length:Int) (k:Int)]):=by
      have hkk:(0 + (old.take k).length:Nat)=k:=by simp;omega
      rw [htk,Hm,hkk,stepL,← List.append_assoc,← List.append_assoc,IB]
      rfl
    rw [Kh (by simp) (by simp) (by omega),AE,Bw (by rw [l2];simp only [List.length_singleton];omega) (by rw [l2];simp only [List.length_singleton];omega),AE,Bw (by rw [l1];simp only [List.length_singleton];omega) (by rw [l1];simp only [List.length_singleton];omega),AE,if_neg (by rw [List.length_append,l2];simp only [List.length_singleton];omega),hfin]
  show bnd (rngN _ (sp (cmpL t old w)).2.length (sp (cmpL t old w)).2) _=_
  have hsh:∀ o∈(sp (cmpL t old w)).2,ShortO o:=fun o ho=>by
    obtain ⟨q,hq,rfl⟩:=List.mem_map.1 ho
    exact Kv hok old w q hq
  rw [IU (fun _=>(sp (cmpL t old w)).2) rfl ?gg4,AE,fin_d,AE]
  case gg4 =>
    intro k hk
    have hgk:(sp (cmpL t old w)).2[k]?=some (sp (cmpL t old w)).2[k]:=List.getElem?_eq_getElem hk
    have h3:=(hsh _ (List.getElem_mem hk)).2.2
    rw [hgk,AE,Lh (fun e he=>by have:=h3 e he;omega),AE,AE,JB hgk]
  show (if checkN (cmpT t old w)≠0 then _ else _)=_
  by_cases hc:checkN (cmpT t old w)≠0
  · rw [if_pos hc,if_pos hc];rfl
  · rw [if_neg hc,if_neg hc];rfl
end
section
open Go Go.RowKit
theorem FF {p q:Prop}:(bof p || bof q)=bof (p∨q):=by
  by_cases h:p
  · rw [bof_t h,bof_t (p:=p∨q) (.inl h)];rfl
  · by_cases h2:q
    · rw [bof_f h,bof_t h2,bof_t (p:=p∨q) (.inr h2)];rfl
    · rw [bof_f h,bof_f h2,bof_f (p:=p∨q) (fun hh=>hh.elim h h2)];rfl
theorem bof_F:bof False=false:=bof_f id
theorem Fb {α ρ:Type} {f:Nat→α→Bool→Option (Ctl Bool ρ)} {xs:List α} {b:Bool} (P:α→Prop) (h:∀ k x s,xs[k]?=some x→f k x s=some (.next (s || bof (P x)))):rng f xs 0 b=some (.done (b || bof (∃ x∈xs,P x))):=by
  rw [Er (fun k=>b || bof (∃ x∈xs.take k,P x)) ?a ?b,List.take_length]
  case a=>simp [bof_F]
  case b =>
    intro k x hk
    rw [h k x _ hk,Bool.or_assoc,FF]
    congr 3
    rw [EG]
    rw [List.take_add_one,hk]
    constructor
    · rintro (⟨y,hy,hp⟩|hp)
      · exact ⟨y,List.mem_append.2 (.inl hy),hp⟩
      · exact ⟨x,List.mem_append.2 (.inr (by simp)),hp⟩
    · rintro ⟨y,hy,hp⟩
      rcases List.mem_append.1 hy with hy|hy
      · exact .inl ⟨y,hy,hp⟩
      · obtain rfl:y=x:=by simpa using hy
        exact .inr hp
theorem Ly {ρ:Type} {f:Nat→Bool→Option (Ctl Bool ρ)} {n:Nat} {b:Bool} (P:Nat→Prop) (h:∀ k s,k < n→f k s=some (.next (s || bof (P k)))):rngN f n b=some (.done (b || bof (∃ k,k < n∧P k))):=by
  unfold rngN
  rw [Fb P (fun k x s hk=>h x s (List.mem_range.1 (List.mem_of_getElem? hk)))]
  congr 3
  rw [EG]
  exact ⟨fun ⟨x,hx,hp⟩=>⟨x,List.mem_range.1 hx,hp⟩,fun ⟨x,hx,hp⟩=>⟨x,List.mem_range.2 hx,hp⟩⟩
theorem Lz {p:Prop} {s:Bool}:(if s=true then some true else some (bof p))=some (s || bof p):=by cases s<;>rfl
theorem large5 (t:Tsk):DN t=some (bof (Large t)):=by
  unfold DN
  have e1:(if 64 < (t.vars.length:Int) then (some true) else (if 4096 < (t.ops.length:Int) then (some true) else (if 64 < (t.goal.length:Int) then (some true) else (some false))):Option Bool)=some (bof (64 < t.vars.length∨4096 < t.ops.length∨64 < t.goal.length)):=by
    by_cases h1:64 < t.vars.length
    · rw [if_pos (by omega),bof_t (.inl h1)]
    · by_cases h2:4096 < t.ops.length
      · rw [if_neg (by omega),if_pos (by omega),bof_t (.inr (.inl h2))]
      · by_cases h3:64 < t.goal.length
        · rw [if_neg (by omega),if_neg (by omega),if_pos (by omega),bof_t (.inr (.inr h3))]
        · rw [if_neg (by omega),if_neg (by omega),if_neg (by omega),bof_f (by omega)]
  rw [e1, AE,Fb (fun o:Opr=>64 < o.pre.length∨64 < o.effs.length∨∃ e∈o.effs,64 < e.cond.length) (fun k o s hk=>by
    have e2:(if s=true then (some true) else (if 64 < (o.pre.length:Int) then (some true) else (if 64 < (o.effs.length:Int) then (some true) else (some false))):Option Bool)=some (s || bof (64 < o.pre.length∨64 < o.effs.length)):=by
      cases s with
      | true=>rfl
      | false =>
        rw [if_f,Bool.false_or]
        by_cases h1:64 < o.pre.length
        · rw [if_pos (by omega),bof_t (.inl h1)]
        · by_cases h2:64 < o.effs.length
          · rw [if_neg (by omega),if_pos (by omega),bof_t (.inr h2)]
          · rw [if_neg (by omega),if_neg (by omega),bof_f (by omega)]
    rw [e2,AE,Fb (fun e:Eff=>64 < e.cond.length) (fun k e s hk=>by
      cases s with
      | true=>rfl
      | false =>
        rw [if_f,Bool.false_or]
        by_cases h:64 < e.cond.length
        · rw [if_pos (by omega),bof_t h]
        · rw [if_neg (by omega),bof_f h]),AE,fin_d,Bool.or_assoc,FF,EG or_assoc]),AE,fin_d,FF]
  refine congrArg some (EG ?_)
  unfold Large
  constructor
  · rintro ((h|h|h)|⟨o,ho,h⟩)
    · exact .inl h
    · exact .inr (.inl h)
    · exact .inr (.inr (.inr ⟨_,CD.2 (.inl rfl),h⟩))
    · obtain ⟨i,hi⟩:=List.getElem?_of_mem ho
      rcases h with h|h|⟨e,he,h⟩
      · exact .inr (.inr (.inr ⟨_,CD.2 (.inr ⟨i,o,hi,.inl rfl⟩),h⟩))
      · exact .inr (.inr (.inl ⟨i,o,hi,h⟩))
      · obtain ⟨j,hj⟩:=List.getElem?_of_mem he
        exact .inr (.inr (.inr ⟨_,CD.2 (.inr ⟨i,o,hi,.inr ⟨j,e,hj,rfl⟩⟩),h⟩))
  · rintro (h|h|⟨i,o,ho,h⟩|⟨f,hf,h⟩)
    · exact .inl (.inl h)
    · exact .inl (.inr (.inl h))
    · exact .inr ⟨o,List.mem_of_getElem? ho,.inr (.inl h)⟩
    · rcases CD.1 hf with rfl|⟨i,o,ho,rfl|⟨j,e,he,rfl⟩⟩
      · exact .inl (.inr (.inr h))
      · exact .inr ⟨o,List.mem_of_getElem? ho,.inl h⟩
      · exact .inr ⟨o,List.mem_of_getElem? ho,.inr (.inr ⟨e,List.mem_of_getElem? he,h⟩)⟩
theorem outside5 (t:Tsk):Dk t=some (bof (¬ (VarsOk t∧CostsOk t))):=by
  unfold Dk
  rw [Fb (fun n:Int=>n < 1∨64 < n) (fun k n s hk=>by
    cases s with
    | true=>rfl
    | false =>
      rw [if_f,Bool.false_or]
      by_cases h1:n < 1
      · rw [if_pos h1,bof_t (.inl h1)]
      · by_cases h2:64 < n
        · rw [if_neg h1,if_pos h2,bof_t (.inr h2)]
        · rw [if_neg h1,if_neg h2,bof_f (by omega)]),AE,fin_d,Fb (fun o:Opr=>o.cost < 0∨1048576 < o.cost) (fun k o s hk=>by
    cases s with
    | true=>rfl
    | false =>
      rw [if_f,Bool.false_or]
      by_cases h1:o.cost < 0
      · rw [if_pos h1,bof_t (.inl h1)]
      · by_cases h2:1048576 < o.cost
        · rw [if_neg h1,if_pos h2,bof_t (.inr h2)]
        · rw [if_neg h1,if_neg h2,bof_f (by omega)]),AE,fin_d,Bool.false_or,FF]
  refine congrArg some (EG ?_)
  constructor
  · rintro (⟨n,hn,h⟩|⟨o,ho,h⟩) ⟨h1,h2⟩
    · obtain ⟨i,hi⟩:=List.getElem?_of_mem hn
      have:=h1 i n hi;omega
    · obtain ⟨i,hi⟩:=List.getElem?_of_mem ho
      have:=h2 i o hi;omega
  · intro h
    refine Classical.byContradiction fun hn=>h ⟨fun i n hi=>?_,fun i o hi=>?_⟩
    · refine Classical.byContradiction fun hh=>hn (.inl ⟨n,List.mem_of_getElem? hi,by omega⟩)
    · refine Classical.byContradiction fun hh=>hn (.inr ⟨o,List.mem_of_getElem? hi,by omega⟩)
theorem Ki {p:Prop}:(if bof p=true then some false else some true)=some (bof (¬ p)):=by
  by_cases h:p
  · rw [bof_t h,bof_f (fun hh=>hh h)];rfl
  · rw [bof_f h,bof_t h];rfl
theorem malformed5 (t:Tsk):CL t=some (bof (¬ (StateOk t.vars t.init∧CondsOk t∧EffsOk t))):=by
  unfold CL FA Dd
  have e1:(bnd (some (bof (StateOk t.vars t.init))) fun q27=>if q27=true then bnd (some (bof (FactsOk t.vars t.goal))) fun q34=>if q34=true then some false else some true else some true:Option Bool)=some (bof (¬ StateOk t.vars t.init∨¬ FactsOk t.vars t.goal)):=by
    rw [AE,AE,Ki]
    by_cases h:StateOk t.vars t.init
    · rw [bof_t h,if_t]
      exact congrArg some (EG ⟨fun h=>.inr h,fun hh=>hh.resolve_left (fun hn=>hn h)⟩)
    · rw [bof_f h,if_f,bof_t (.inl h)]
  rw [e1, AE,Fb (fun o:Opr=>¬ FactsOk t.vars o.pre∨∃ e∈o.effs,¬ EffOk t.vars e) (fun k o s hk=>by
    rw [AE,Ki,Lz,AE,Fb (fun e:Eff=>¬ EffOk t.vars e) (fun k e s hk=>by
      cases s with
      | true=>rfl
      | false =>
        rw [if_f,Bool.false_or,AE]
        by_cases h1:FactsOk t.vars e.cond
        · rw [bof_t h1,if_t,AE]
          by_cases h2:FactsOk t.vars [⟨e.var,e.val⟩]
          · rw [bof_t h2,if_t,bof_f (fun h=>h ⟨h1,EU.1 h2⟩)]
          · rw [bof_f h2,if_f,bof_t (fun h=>h2 (EU.2 h.2))]
        · rw [bof_f h1,if_f,bof_t (fun h=>h1 h.1)]),AE,fin_d,Bool.or_assoc,FF]),AE,fin_d,FF]
  refine congrArg some (EG ?_)
  constructor
  · rintro ((h|h)|⟨o,ho,h⟩) ⟨h1,h2,h3⟩
    · exact h h1
    · exact h (h2 0 _ rfl)
    · obtain ⟨i,hi⟩:=List.getElem?_of_mem ho
      have hc:∀ f∈conds t,FactsOk t.vars f:=fun f hf=>by
        obtain ⟨i,hi⟩:=List.getElem?_of_mem hf
        exact h2 i f hi
      rcases h with h|⟨e,he,h⟩
      · exact h (hc _ (CD.2 (.inr ⟨i,o,hi,.inl rfl⟩)))
      · obtain ⟨j,hj⟩:=List.getElem?_of_mem he
        exact h ⟨hc _ (CD.2 (.inr ⟨i,o,hi,.inr ⟨j,e,hj,rfl⟩⟩)),h3 i o hi j e hj⟩
  · intro h
    refine Classical.byContradiction fun hn=>h ?_
    have g1:StateOk t.vars t.init:=Classical.byContradiction fun hh=>hn (.inl (.inl hh))
    have g2:FactsOk t.vars t.goal:=Classical.byContradiction fun hh=>hn (.inl (.inr hh))
    have g3:∀ o∈t.ops,FactsOk t.vars o.pre:=fun o ho=>Classical.byContradiction fun hh=>hn (.inr ⟨o,ho,.inl hh⟩)
    have g4:∀ o∈t.ops,∀ e∈o.effs,EffOk t.vars e:=fun o ho e he=>Classical.byContradiction fun hh=>hn (.inr ⟨o,ho,.inr ⟨e,he,hh⟩⟩)
    refine ⟨g1,fun i f hf=>?_,fun i o ho j e he=>(g4 o (List.mem_of_getElem? ho) e (List.mem_of_getElem? he)).2⟩
    rcases CD.1 (List.mem_of_getElem? hf) with rfl|⟨i,o,ho,rfl|⟨j,e,he,rfl⟩⟩
    · exact g2
    · exact g3 o (List.mem_of_getElem? ho)
    · exact (g4 o (List.mem_of_getElem? ho) e (List.mem_of_getElem? he)).1
theorem misnamed5 (t:Tsk):CU t=some (bof (¬ NamesOk t)):=by
  unfold CU
  rw [Fb (fun o:Opr=>256 < o.name.size∨∃ k,k < o.name.size∧∃ h:k < o.name.size,(o.name[k]'h).toNat < 32∨126 < (o.name[k]'h).toNat) (fun k o s hk=>by
    have e2:(if s=true then (some true) else (if 256 < (o.name.size:Int) then (some true) else (some false)):Option Bool)=some (s || bof (256 < o.name.size)):=by
      cases s with
      | true=>rfl
      | false =>
        rw [if_f,Bool.false_or]
        by_cases h:256 < o.name.size
        · rw [if_pos (by omega),bof_t h]
        · rw [if_neg (by omega),bof_f h]
    rw [e2,AE,Ly (fun k=>∃ h:k < o.name.size,(o.name[k]'h).toNat < 32∨126 < (o.name[k]'h).toNat) (fun k s hk=>by
      cases s with
      | true=>rfl
      | false =>
        rw [if_f,Bool.false_or,Ll hk,AE,AE]
        by_cases h1:(o.name[k]'hk).toNat < 32
        · rw [if_pos (by omega),bof_t ⟨hk,.inl h1⟩]
        · by_cases h2:126 < (o.name[k]'hk).toNat
          · rw [if_neg (by omega),if_pos (by omega),bof_t ⟨hk,.inr h2⟩]
          · rw [if_neg (by omega),if_neg (by omega),bof_f (fun ⟨_,h⟩=>by omega)]),AE,fin_d,Bool.or_assoc,FF]),AE,fin_d,Bool.false_or]
  refine congrArg some (EG ?_)
  constructor
  · rintro ⟨o,ho,h⟩ hn
    obtain ⟨i,hi⟩:=List.getElem?_of_mem ho
    obtain ⟨h1,h2⟩:=hn i o hi
    rcases h with h|⟨k,hk,_,h⟩
    · omega
    · have:=h2 k hk;omega
  · intro h
    refine Classical.byContradiction fun hn=>h fun i o ho=>?_
    have hm:=List.mem_of_getElem? ho
    refine ⟨Nat.le_of_not_lt fun hh=>hn ⟨o,hm,.inl hh⟩,fun k hk=>?_⟩
    refine Classical.byContradiction fun hh=>hn ⟨o,hm,.inr ⟨k,hk,hk,by omega⟩⟩
theorem IC {p:Prop}:bof (¬ p)=!bof p:=by
  by_cases h:p
  · rw [bof_t h,bof_f (fun hh=>hh h)];rfl
  · rw [bof_f h,bof_t h];rfl
theorem check5 (t:Tsk):CH t=some (checkN t):=by
  unfold CH checkN
  rw [large5,outside5,malformed5,misnamed5,IC,IC,IC]
  cases bof (Large t)<;>cases bof (VarsOk t∧CostsOk t)<;>cases bof (StateOk t.vars t.init∧CondsOk t∧EffsOk t)<;>cases bof (NamesOk t)<;>rfl
end
section
open Go Go.RowKit
theorem JD {o:Opr} {v:Int} {p:Nat} (h1:o.pre.length≤1000) (h2:o.effs.length≤1000) (hp:p≤1000):De o v (p:Int)=some (keptO o v (p:Int)):=by
  unfold De
  rw [Fp (by unfold inI64;omega),AE,Bw (by simp;omega) (by simp;omega),AE,List.nil_append,Bw (by simp;omega) (by simp;omega),AE,Bw (by simp;omega) (by simp;omega),AE,List.nil_append,Bw (by simp;omega) (by simp;omega),AE]
  rfl
def so (l:List (Opr×Prt)):List Opr:=l.map (·.1)
theorem ID (l:List (Opr×Prt)) (q:Opr×Prt):so (l ++ [q])=so l ++ [q.1]:=by simp [so]
theorem JE (l:List (Opr×Prt)):(so l).length=l.length:=by simp [so]
theorem IZ {t:Tsk} (hok:TaskOk t) (hops:t.ops.length≤20) {old:List ByteArray} (hold:old.length≤63) {w:Int} (hw0:0≤w) (hw1:w≤1000) :
    BC t old w=some (if checkN (cmpT t old w)≠0 then (⟨[],[],[],[]⟩,checkN (cmpT t old w)) else (cmpT t old w,0)):=by
  have hv:=hok.1
  have hi:=hok.2.2.2.1.1
  have hg:=CP hok.2.2.2.2.1
  unfold BC
  rw [check5,Ce.2 hok,AE,if_neg (by simp),if_neg (by omega),if_neg (by omega),AE,if_f,if_neg (by omega),Fp (by unfold inI64;omega),AE,Bw (by simp;omega) (by simp;omega),AE,List.nil_append,Bw (by simp;omega) (by simp;omega),AE,Bw (by simp;omega) (by simp;omega),AE,List.nil_append,Bw (by simp;omega) (by simp;omega),AE,Bw (by simp;omega) (by simp;omega),AE,List.nil_append,Bw (by simp;omega) (by simp;omega),AE,AE]
  have zx:∀ k o,t.ops[k]?=some o→t.ops.zipIdx.take (k + 1)=t.ops.zipIdx.take k ++ [(o,k)]:=fun k o h=>JA h
  rw [Er (fun k=>so ((t.ops.zipIdx.take k).map fun q=>(⟨q.1.name,q.1.cost + w,q.1.pre,q.1.effs⟩,⟨(q.2:Int)⟩))) (by simp [so]) ?gg1,AE,fin_d]
  case gg1 =>
    intro k o ho
    have hk:=Ba ho
    have hc:=(hok.2.2.2.2.2 k o ho).1
    have hc2:=(hok.2.2.2.2.2 k o ho).2.1
    have hl:((t.ops.zipIdx.take k).map fun q=>((⟨q.1.name,q.1.cost + w,q.1.pre,q.1.effs⟩:Opr),(⟨(q.2:Int)⟩:Prt))).length≤20:=by simp;omega
    have l2:=JE ((t.ops.zipIdx.take k).map fun q=>((⟨q.1.name,q.1.cost + w,q.1.pre,q.1.effs⟩:Opr),(⟨(q.2:Int)⟩:Prt)))
    rw [Fp (by unfold inI64;omega),AE,Bw (by rw [l2];simp;omega) (by rw [l2];simp;omega),AE,zx k o ho,List.map_append,List.map_singleton,ID]
  have hzx:t.ops.zipIdx.take t.ops.length=t.ops.zipIdx:=List.take_of_length_le (by simp)
  have hfull:(t.ops.zipIdx.take t.ops.length).map (fun q=>((⟨q.1.name,q.1.cost + w,q.1.pre,q.1.effs⟩:Opr),(⟨(q.2:Int)⟩:Prt)))=insL t w:=by
    unfold insL;rw [hzx]
  rw [hfull]
  rw [Er (fun k=>so (insL t w ++ delL t w (t.vars.length:Int) 0 (old.take k))) (by simp [delL]) ?gg2,AE,fin_d,List.take_length]
  case gg2 =>
    intro k name hn
    have hk:=Ba hn
    have hbase:(insL t w ++ delL t w (t.vars.length:Int) 0 (old.take k)).length≤1500:=by
      have h1:=Gz t w (t.vars.length:Int) (old.take k) 0
      have h2:(old.take k).length * (t.ops.length + 1)≤63 * 21:=Nat.mul_le_mul (by simp;omega) (by omega)
      rw [List.length_append,HQ];omega
    rw [Er (fun j=>so ((insL t w ++ delL t w (t.vars.length:Int) 0 (old.take k)) ++ keepL (t.ops.zipIdx.take j) (t.vars.length:Int) (k:Int) name)) (by simp [keepL]) ?gg3,AE,fin_d,hzx]
    case gg3 =>
      intro j o ho
      have hj:=Ba ho
      obtain ⟨h1,h2,_⟩:=OpOk.short hok ho
      have hkl:=Fa (t.ops.zipIdx.take j) (t.vars.length:Int) (k:Int) name
      rw [List.length_take,List.length_zipIdx] at hkl
      have l2:=JE ((insL t w ++ delL t w (t.vars.length:Int) 0 (old.take k)) ++ keepL (t.ops.zipIdx.take j) (t.vars.length:Int) (k:Int) name)
      rw [List.length_append] at l2
      rw [zx j o ho,Ip]
      by_cases he:o.name=name
      · rw [if_pos he,if_pos he,JD (by omega) (by omega) (by omega),AE,Bw (by rw [l2];simp only [List.length_singleton];omega) (by rw [l2];simp only [List.length_singleton];omega),AE,← List.append_assoc,ID]
      · rw [if_neg he,if_neg he,List.append_nil]
    have hkl:=Fa t.ops.zipIdx (t.vars.length:Int) (k:Int) name
    rw [List.length_zipIdx] at hkl
    have l2:=JE ((insL t w ++ delL t w (t.vars.length:Int) 0 (old.take k)) ++ keepL t.ops.zipIdx (t.vars.length:Int) (k:Int) name)
    rw [List.length_append] at l2
    have htk:old.take (k + 1)=old.take k ++ [name]:=by rw [List.take_add_one,hn];rfl
    have hfin:so (insL t w ++ delL t w (t.vars.length:Int) 0 (old.take (k + 1)))=so ((insL t w ++ delL t w (t.vars.length:Int) 0 (old.take k)) ++ keepL t.ops.zipIdx (t.vars.length:Int) (k:Int) name) ++ [keptO ⟨⟨#[]⟩,w,[],[]⟩ (t.vars.length:Int) (k:Int)]:=by
      have hkk:(0 + (old.take k).length:Nat)=k:=by simp;omega
      rw [htk,Hm,hkk,stepL,← List.append_assoc,← List.append_assoc,ID]
      rfl
    rw [JD (by simp) (by simp) (by omega),AE,Bw (by rw [l2];simp only [List.length_singleton];omega) (by rw [l2];simp only [List.length_singleton];omega),AE,hfin]
  show bnd (CH (cmpT t old w)) _=_
  rw [check5,AE]
  by_cases hc:checkN (cmpT t old w)≠0
  · rw [if_pos hc,if_pos hc]
  · rw [if_neg hc,if_neg hc];rfl
theorem GA (f:List Fct):CV f f=some true:=by
  unfold CV
  rw [if_neg (by simp),HN (fun k x hk=>by rw [hk,AE,if_neg (by simp)]),AE,fin_d]
theorem JF (f:List Eff):Dy f f=some true:=by
  unfold Dy
  rw [if_neg (by simp),HN (fun k x hk=>by rw [hk,AE,if_neg (by simp),AE,if_neg (by simp),AE,GA,AE,if_t,AE,if_f]),AE,fin_d]
theorem GB (t:Tsk):DY t t=some true:=by
  unfold DY Dp
  rw [bof_t rfl,bof_t rfl,GA,AE,if_t,AE,if_t,AE,if_t,if_neg (by simp),AE,if_f]
  rw [HN (fun k x hk=>by rw [hk,AE,AE,if_neg (by simp),if_neg (by simp),GA,AE,if_t,JF,AE,if_t,AE,if_f]),AE,fin_d]
end
section
open Go Go.RowKit
def Le {α:Type} (x y:Option α):Prop:=∀ r,x=some r→y=some r
theorem Le.rf {α:Type} {x:Option α}:Le x x:=fun _ h=>h
theorem Le.bnd {α β:Type} {x x':Option α} {f f':α→Option β} (h:Le x x') (hf:∀ a,Le (f a) (f' a)):Le (bnd x f) (bnd x' f'):=fun r hr=>by
  obtain ⟨a,ha,hb⟩:=bs hr
  rw [h a ha,AE]
  exact hf a r hb
theorem Le.ite {α:Type} {p:Prop} [Decidable p] {x x' y y':Option α} (h:Le x x') (k:Le y y'):Le (if p then x else y) (if p then x' else y'):=by
  by_cases hp:p
  · rw [if_pos hp,if_pos hp];exact h
  · rw [if_neg hp,if_neg hp];exact k
theorem Le.fin {σ κ:Type} {y:Fin σ κ} {f f':σ→Option κ} (hf:∀ a,Le (f a) (f' a)):Le (fin y f) (fin y f'):=by
  cases y with
  | done s=>exact hf s
  | ret c=>exact Le.rf
theorem Le.rng {α σ ρ:Type} {f f':Nat→α→σ→Option (Ctl σ ρ)} (hf:∀ k a s,Le (f k a s) (f' k a s)):∀ {xs:List α} {k:Nat} {s:σ},Le (rng f xs k s) (rng f' xs k s)
  | [],_,_=>Le.rf
  | x :: xs,k,s=>fun r hr=>by
    simp only [Proofs.YtafdmfhdjfkooaaGreat.rng] at hr ⊢
    cases hc:f k x s with
    | none=>rw [hc] at hr;cases hr
    | some c =>
      rw [hc] at hr
      rw [hf k x s c hc]
      cases c with
      | next s'=>exact Le.rng hf r hr
      | brk s'=>exact hr
      | ret q=>exact hr
theorem Le.rngN {σ ρ:Type} {f f':Nat→σ→Option (Ctl σ ρ)} {n:Nat} {s:σ} (hf:∀ k s,Le (f k s) (f' k s)):Le (rngN f n s) (rngN f' n s):=Le.rng fun _ k s=>hf k s
theorem Le.itr {σ ρ:Type} {f f':σ→Option (Ctl σ ρ)} (hf:∀ s,Le (f s) (f' s)):∀ (n:Nat) (s:σ),Le (itr f n s) (itr f' n s)
  | 0,_=>Le.rf
  | n + 1,s=>fun r hr=>by
    simp only [Proofs.YtafdmfhdjfkooaaGreat.itr] at hr ⊢
    cases hc:f s with
    | none=>rw [hc] at hr;cases hr
    | some c =>
      rw [hc] at hr
      rw [hf s c hc]
      cases c with
      | next s'=>exact Le.itr hf n s' r hr
      | brk s'=>exact hr
      | ret q=>exact hr
def lopE {σ ρ:Type} (f:σ→Option (Ctl σ ρ)) (s:σ):Option (Fin σ ρ):=itr f 600 s
theorem Le.lop {σ ρ:Type} {f f':σ→Option (Ctl σ ρ)} {s:σ} (hf:∀ s,Le (f s) (f' s)):Le (lopE f s) (lop f' s):=fun r hr=>Jo.2 ⟨600,Le.itr hf 600 s r hr⟩
end
section
open Go Go.RowKit
def factB (vars:List Int) (x:Fct):Bool:=decide (0≤x.var) && (decide (0≤x.val) && (match vars[x.var.toNat]? with|some y=>decide (x.val < y)|none=>false))
theorem JG {vars:List Int} {x:Fct} (h:factB vars x=true):FactOk vars x:=by
  unfold factB at h
  simp only [Bool.and_eq_true,decide_eq_true_eq] at h
  obtain ⟨h1,h2,h3⟩:=h
  cases hv:vars[x.var.toNat]? with
  | none=>rw [hv] at h3;cases h3
  | some y=>rw [hv] at h3;exact ⟨h1,h2,y,hv,by simpa using h3⟩
def ascB:List Fct→Bool
  | x :: y :: r=>decide (x.var < y.var) && ascB (y :: r)
  | _=>true
theorem Kj:∀ {f:List Fct},ascB f=true→∀ (i:Nat) x y,f[i]?=some x→f[i + 1]?=some y→x.var < y.var
  | [],_,i,x,y,h,_=>by simp at h
  | [_],_,i,x,y,_,h=>by simp at h
  | a :: b :: r,h,i,x,y,h1,h2=>by
    simp only [ascB,Bool.and_eq_true,decide_eq_true_eq] at h
    cases i with
    | zero=>simp at h1 h2;subst h1;subst h2;exact h.1
    | succ i=>exact Kj h.2 i x y (by simpa using h1) (by simpa using h2)
def factsB (vars:List Int) (f:List Fct):Bool:=f.all (factB vars) && ascB f
theorem Hn {vars:List Int} {f:List Fct} (h:factsB vars f=true):FactsOk vars f:=by
  unfold factsB at h
  rw [Bool.and_eq_true,List.all_eq_true] at h
  exact ⟨fun i x hx=>JG (h.1 x (List.mem_of_getElem? hx)),Kj h.2⟩
def stateB:List Int→List Int→Bool
  | [],[]=>true
  | y :: vars,x :: s=>decide (0≤x) && (decide (x < y) && stateB vars s)
  | _,_=>false
theorem Ho:∀ {vars s:List Int},stateB vars s=true→StateOk vars s
  | [],[],_=>⟨rfl,fun i x y h=>by simp at h⟩
  | y :: vars,x :: s,h=>by
    simp only [stateB,Bool.and_eq_true,decide_eq_true_eq] at h
    obtain ⟨h1,h2⟩:=Ho h.2.2
    refine ⟨by simp [h1],fun i a b ha hb=>?_⟩
    cases i with
    | zero=>simp at ha hb;subst ha;subst hb;exact ⟨h.1,h.2.1⟩
    | succ i=>exact h2 i a b (by simpa using ha) (by simpa using hb)
  | [],_ :: _,h=>by simp [stateB] at h
  | _ :: _,[],h=>by simp [stateB] at h
def nameB (s:ByteArray):Bool:=decide (s.size≤256) && s.data.toList.all fun c=>decide (32≤c.toNat) && decide (c.toNat≤126)
theorem Li {s:ByteArray} (h:nameB s=true):NameOk s:=by
  unfold nameB at h
  simp only [Bool.and_eq_true,decide_eq_true_eq,List.all_eq_true] at h
  refine ⟨h.1,fun i hi=>h.2 _ ?_⟩
  show s.data[i]∈_
  simp
def opB (vars:List Int) (o:Opr):Bool:=decide (0≤o.cost) && (decide (o.cost≤1048576) && (decide (o.effs.length≤64) && (nameB o.name && (factsB vars o.pre && o.effs.all fun e=>factsB vars e.cond && factB vars ⟨e.var,e.val⟩))))
theorem Md {vars:List Int} {o:Opr} (h:opB vars o=true):OpOk vars o:=by
  unfold opB at h
  simp only [Bool.and_eq_true,decide_eq_true_eq,List.all_eq_true] at h
  obtain ⟨h1,h2,h3,h4,h5,h6⟩:=h
  exact ⟨h1,h2,h3,Li h4,Hn h5,fun i e he=>⟨Hn (h6 e (List.mem_of_getElem? he)).1,JG (h6 e (List.mem_of_getElem? he)).2⟩⟩
def taskB (t:Tsk):Bool:=decide (t.vars.length≤64) && (decide (t.ops.length≤4096) && ((t.vars.all fun n=>decide (1≤n) && decide (n≤64)) && (stateB t.vars t.init && (factsB t.vars t.goal && t.ops.all (opB t.vars)))))
theorem JH {t:Tsk} (h:taskB t=true):TaskOk t:=by
  unfold taskB at h
  simp only [Bool.and_eq_true,decide_eq_true_eq,List.all_eq_true] at h
  obtain ⟨h1,h2,h3,h4,h5,h6⟩:=h
  exact ⟨h1,h2,fun i n hn=>h3 n (List.mem_of_getElem? hn),Ho h4,Hn h5,fun i o ho=>Md (h6 o (List.mem_of_getElem? ho))⟩
def FG (t:Tsk):Option Err:=if taskB t=true then some ⟨0⟩ else none
theorem Ja (t:Tsk):Le (FG t) (BY t):=fun r h=>by
  obtain ⟨h1,rfl⟩:=DV h
  unfold BY
  rw [Ce.2 (JH h1)]
def FW (x y:List Int):Option Bool:=some (decide (x=y))
theorem JI (x y:List Int):Le (FW x y) (Dp x y):=fun r h=>by
  unfold FW at h
  unfold Dp
  rw [← h]
  by_cases hx:x=y
  · rw [bof_t hx];simp [hx]
  · rw [bof_f hx];simp [hx]
def FH (f:List Fct) (s:List Int):Option Bool:=DW f s
theorem GN (f:List Fct) (s:List Int):Le (FH f s) (DW f s):=Le.rf
def Cs (x:List Int):Option (List Int):=Bl x
theorem DZ (x:List Int):Le (Cs x) (Bl x):=Le.rf
end
end Go.Proofs.YtafdmfhdjfkooaaGreat

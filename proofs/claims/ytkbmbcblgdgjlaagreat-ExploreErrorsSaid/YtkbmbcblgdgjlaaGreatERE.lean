/- ExploreErrors returns true for every task and every list of numbers, and these read behind the call as before. No conditions. -/
import Derived.Test.YtkbmbcblgdgjlaaGreatERD
import Derived.Test.YtkbmbcblgdgjlaaGreatRows
set_option linter.unusedVariables false
set_option linter.unusedSimpArgs false
namespace Go.Proofs.YtkbmbcblgdgjlaaGreat
open Go Go.RowKit
section
set_option linter.unusedVariables false
set_option linter.unusedSimpArgs false
open Go Go.RowKit
attribute [local irreducible] ewp owp hwp hwq hws Ev Evg Fn retPost loud loudS Res1
attribute [local irreducible] hwx loudX
structure Sys where
  states:Int
  init:Int
  costs:List Int
  edges:List Edj
  goals:List Bool
instance:Rp Sys where
  isAgg:=true
  size:=5
  R w F cs x:=∃ v0 v1 v2,cs=[.int .i64 x.states,.int .i64 x.init,v0,v1,v2]∧Vb w F v0 x.costs∧Vb w F v1 x.edges∧Vb w F v2 x.goals∧inI64 x.states∧inI64 x.init
  len:=by rintro w F cs x ⟨v0,v1,v2,rfl,h0,h1,h2,h3,h4⟩;rfl
  one:=by rintro w F cs x ⟨v0,v1,v2,rfl,h0,h1,h2,h3,h4⟩ u hu;simp at hu;rcases hu with rfl|rfl|rfl|rfl|rfl<;>first|rfl|exact Vb.one rfl (by assumption)
  agree:=by rintro w w' F cs x ⟨v0,v1,v2,rfl,h0,h1,h2,h3,h4⟩ ha;exact ⟨v0,v1,v2,rfl,h0.agree ha,h1.agree ha,h2.agree ha,h3,h4⟩
  mono:=by rintro w F G cs x ⟨v0,v1,v2,rfl,h0,h1,h2,h3,h4⟩ ha;exact ⟨v0,v1,v2,rfl,h0.mono ha,h1.mono ha,h2.mono ha,h3,h4⟩
noncomputable def Dd (x1:Int):Option ((List Int)×Err) :=
  some (([]:List Int),(⟨3⟩:Err))
theorem GJ {w:World} {A:Nat→Prop} (hA:∀ k,A k→k < w.heap.size) {x1:Int} (rx1:inI64 x1) {r:(List Int)×Err} (hm:Dd x1=some r) :
    Fn Tryz.prog 22 [(.pointer none),(.int .i64 x1)] w fun v w'=>Ext w w'∧T2 w' (upA A w w') v r:=by
 obtain ⟨O,hB,a0⟩:=enter hA
 refine AH Tryz.func22 rfl Tryz.ntmps22 rfl ?_
 unfold Dd at hm
 refine Al (Aj (An rfl rfl (An rfl rfl (o_z ?_))))
 refine Al (Al (Aj (Am rfl rfl (AR (Gr rfl) rfl ?_))))
 refine o_z ?_
 refine Ah rfl (Al (Aj (Di rfl rfl ?_)))
 refine An rfl rfl (An rfl rfl (o_z ?_))
 refine AG ?_
 obtain rfl:=sm hm
 exact ret2 rfl (Az rfl) (Az rfl) ⟨hB.ext,_,_,rfl,(Vb.mono (F:=Fr 0 w O) (Vb.nil _ _) hB.out),(vErr (by decide))⟩
noncomputable def Dk (x1:List Int):Option (Int×Err) :=
  some (0,(⟨3⟩:Err))
theorem GZ {w:World} {A:Nat→Prop} (hA:∀ k,A k→k < w.heap.size) {vx1:Value} {x1:List Int} (a0:Vb w A vx1 x1) {r:Int×Err} (hm:Dk x1=some r) :
    Fn Tryz.prog 23 [(.pointer none),vx1] w fun v w'=>Ext w w'∧T2 w' (upA A w w') v r:=by
 obtain ⟨O,hB,b0⟩:=enter hA
 replace a0:=a0.mono b0
 obtain ⟨A3,c4,rfl⟩:=a0.form
 refine AH Tryz.func23 rfl Tryz.ntmps23 rfl ?_
 unfold Dk at hm
 refine Al (Aj (An rfl rfl (An rfl rfl (o_z ?_))))
 refine Al (Al (Aj (Am rfl rfl (AR (Gr rfl) rfl ?_))))
 refine o_z ?_
 refine Ah rfl (Al (Aj (Di rfl rfl ?_)))
 refine An rfl rfl (An rfl rfl (o_z ?_))
 refine AG ?_
 obtain rfl:=sm hm
 exact ret2 rfl (Az rfl) (Az rfl) ⟨hB.ext,_,_,rfl,(vInt (show inI64 (0) from by decide)),(vErr (by decide))⟩
noncomputable def Dl  : Option ((List Int)×Int×Err) :=
  some (([]:List Int),0,(⟨3⟩:Err))
theorem Ha {w:World} {A:Nat→Prop} (hA:∀ k,A k→k < w.heap.size)  {r:(List Int)×Int×Err} (hm:Dl  = some r) :
    Fn Tryz.prog 24 [(.pointer none)] w fun v w'=>Ext w w'∧T3 w' (upA A w w') v r:=by
 obtain ⟨O,hB,a0⟩:=enter hA
 refine AH Tryz.func24 rfl Tryz.ntmps24 rfl ?_
 unfold Dl at hm
 refine Al (Aj (An rfl rfl (An rfl rfl (An rfl rfl (o_z ?_)))))
 refine Al (Al (Aj (Am rfl rfl (AR (Gr rfl) rfl ?_))))
 refine Am rfl rfl (At rfl rfl rfl rfl (At rfl rfl rfl rfl (At rfl rfl rfl rfl (At rfl rfl rfl rfl (At rfl rfl rfl rfl (At rfl rfl rfl rfl (At rfl rfl rfl rfl (AY rfl rfl rfl (o_z ?_)))))))))
 refine Ah rfl (Al (Aj (Di rfl rfl ?_)))
 refine An rfl rfl (An rfl rfl (An rfl rfl (o_z ?_)))
 refine AG ?_
 obtain rfl:=sm hm
 exact ret3 rfl (Az rfl) (Az rfl) (Az rfl) ⟨hB.ext,_,_,_,rfl,(Vb.mono (F:=Fr 0 w O) (Vb.nil _ _) hB.out),(vInt (show inI64 (0) from by decide)),(vErr (by decide))⟩
noncomputable def Dr  : Option Int :=
  some 0
theorem Hn {w:World} {A:Nat→Prop} (hA:∀ k,A k→k < w.heap.size)  {r:Int} (hm:Dr  = some r) :
    Fn Tryz.prog 21 [(.pointer none)] w fun v w'=>Ext w w'∧Vb w' (upA A w w') v r:=by
 obtain ⟨O,hB,a0⟩:=enter hA
 refine AH Tryz.func21 rfl Tryz.ntmps21 rfl ?_
 unfold Dr at hm
 refine Al (Aj (An rfl rfl (o_z ?_)))
 refine Al (Al (Aj (Am rfl rfl (AR (Gr rfl) rfl ?_))))
 refine o_z ?_
 refine Ah rfl (Al (Aj (An rfl rfl (o_z ?_))))
 refine AG ?_
 obtain rfl:=sm hm
 exact ret1v rfl (Az rfl) ⟨hB.ext,(vInt (show inI64 (0) from by decide))⟩
noncomputable def De  : Option (List Edj) :=
  some ([]:List Edj)
theorem GK {w:World} {A:Nat→Prop} (hA:∀ k,A k→k < w.heap.size)  {r:(List Edj)} (hm:De  = some r) :
    Fn Tryz.prog 33 [(.pointer none)] w fun v w'=>Ext w w'∧Vb w' (upA A w w') v r:=by
 obtain ⟨O,hB,a0⟩:=enter hA
 refine AH Tryz.func33 rfl Tryz.ntmps33 rfl ?_
 unfold De at hm
 refine Al (Aj (An rfl rfl (o_z ?_)))
 refine Al (Al (Aj (Am rfl rfl (AR (Gr rfl) rfl ?_))))
 refine o_z ?_
 refine Ah rfl (Al (Aj (An rfl rfl (o_z ?_))))
 refine AG ?_
 obtain rfl:=sm hm
 exact ret1v rfl (Az rfl) ⟨hB.ext,(Vb.mono (F:=Fr 0 w O) (Vb.nil _ _) hB.out)⟩
noncomputable def Df  : Option (List Int) :=
  some ([]:List Int)
theorem GL {w:World} {A:Nat→Prop} (hA:∀ k,A k→k < w.heap.size)  {r:(List Int)} (hm:Df  = some r) :
    Fn Tryz.prog 17 [(.pointer none)] w fun v w'=>Ext w w'∧Vb w' (upA A w w') v r:=by
 obtain ⟨O,hB,a0⟩:=enter hA
 refine AH Tryz.func17 rfl Tryz.ntmps17 rfl ?_
 unfold Df at hm
 refine Al (Aj (An rfl rfl (o_z ?_)))
 refine Al (Al (Aj (Am rfl rfl (AR (Gr rfl) rfl ?_))))
 refine o_z ?_
 refine Ah rfl (Al (Aj (An rfl rfl (o_z ?_))))
 refine AG ?_
 obtain rfl:=sm hm
 exact ret1v rfl (Az rfl) ⟨hB.ext,(Vb.mono (F:=Fr 0 w O) (Vb.nil _ _) hB.out)⟩
noncomputable def CC  : Option (List Int) :=
  some ([]:List Int)
theorem FX {w:World} {A:Nat→Prop} (hA:∀ k,A k→k < w.heap.size)  {r:(List Int)} (hm:CC  = some r) :
    Fn Tryz.prog 19 [(.pointer none)] w fun v w'=>Ext w w'∧Vb w' (upA A w w') v r:=by
 obtain ⟨O,hB,a0⟩:=enter hA
 refine AH Tryz.func19 rfl Tryz.ntmps19 rfl ?_
 unfold CC at hm
 refine Al (Aj (An rfl rfl (o_z ?_)))
 refine Al (Al (Aj (Am rfl rfl (AR (Gr rfl) rfl ?_))))
 refine o_z ?_
 refine Ah rfl (Al (Aj (An rfl rfl (o_z ?_))))
 refine AG ?_
 obtain rfl:=sm hm
 exact ret1v rfl (Az rfl) ⟨hB.ext,(Vb.mono (F:=Fr 0 w O) (Vb.nil _ _) hB.out)⟩
noncomputable def CU  : Option Sys :=
  some (⟨0,0,([]:List Int),([]:List Edj),([]:List Bool)⟩:Sys)
theorem Gz {w:World} {A:Nat→Prop} (hA:∀ k,A k→k < w.heap.size)  {r:Sys} (hm:CU  = some r) :
    Fn Tryz.prog 31 [(.pointer none)] w fun v w'=>Ext w w'∧Vb w' (upA A w w') v r:=by
 obtain ⟨O,hB,a0⟩:=enter hA
 refine AH Tryz.func31 rfl Tryz.ntmps31 rfl ?_
 unfold CU at hm
 refine Al (Aj (Ch 2 O rfl fun g2 w3 O4 S5 h6=>?_))
 refine o_z ?_
 refine Al (Al (Aj (Am rfl rfl (AR (Gr rfl) rfl ?_))))
 refine o_z ?_
 refine Ah rfl (Al (Aj (EC rfl rfl rfl ?_)))
 refine Br h6 rfl rfl rfl (BN rfl) (allOne rfl) fun w7 S8 h6=>?_
 replace h6:Lc 2 w7 O4 g2 64 [(.int .i64 0),(.int .i64 0),(.slice none 0 0),(.slice none 0 0),(.slice none 0 0)]:=h6
 refine o_z ?_
 refine AG ?_
 obtain rfl:=sm hm
 replace hB:=(hB.st S5).st S8
 exact ret1v rfl (GS (cs:=[(.int .i64 0),(.int .i64 0),(.slice none 0 0),(.slice none 0 0),(.slice none 0 0)]) rfl rfl h6.1.cellsAt) ⟨hB.ext,(Vb.mono (F:=Fr 0 w7 O4) (Vb.ofAgg (cs:=[(.int .i64 0),(.int .i64 0),(.slice none 0 0),(.slice none 0 0),(.slice none 0 0)]) (x:=(⟨0,0,([]:List Int),([]:List Edj),([]:List Bool)⟩:Sys)) rfl ⟨_,_,_,rfl,(Vb.nil _ _),(Vb.nil _ _),(Vb.nil _ _),(show inI64 0 from by decide),(show inI64 0 from by decide)⟩) hB.out)⟩
noncomputable def DC (x0:Tsk) (x1:List Int):Option Bool :=
  bnd (if 70 < (x0.vars.length:Int) then (some true) else (if 20 < (x0.ops.length:Int) then (some true) else (bnd (CT) fun q37=>if q37=true then some false else some true)):Option Bool) fun y27=>if y27=true then (bnd (bnd (CT) fun q53=>if q53=true then some true else some false:Option Bool) fun y49=>some y49) else (bnd (Dd 0) fun q64=>bnd (Dk x1) fun q78=>bnd (Dl) fun q91=>bnd (bnd (Db (⟨q64.2.n⟩:Err) 3) fun q112=>if q112=true then bnd (Db (⟨q78.2.n⟩:Err) 3) fun q119=>if q119=true then bnd (Db (⟨q91.2.2.n⟩:Err) 3) fun q126=>if q126=true then bnd (Dr) fun q133=>bnd (De) fun q141=>bnd (chkI (q133 + (q141.length:Int))) fun n152=>bnd (Df) fun q155=>bnd (chkI (n152 + (q155.length:Int))) fun n166=>bnd (CC) fun q169=>bnd (chkI (n166 + (q169.length:Int))) fun n180=>bnd (CU) fun q183=>bnd (chkI (n180 + q183.states)) fun n205=>if n205≠0 then (some true) else (some false) else some true else some true else some true:Option Bool) fun y108=>if y108=true then (some false) else (bnd (EI x0) fun q214=>if q214≠0 then (bnd (BQ x0 100) fun q223=>bnd (CP x0) fun q237=>bnd (if q223.1.isNone=true then (if (q237.1.length:Int)=0 then (bnd (Ff (⟨q223.2.n⟩:Err)) fun q259=>if q259=q214 then (bnd (Ff (⟨q237.2.n⟩:Err)) fun q268=>if q268=q214 then (some true) else (some false)) else (some false)) else (some false)) else (some false):Option Bool) fun y251=>some y251) else (bnd (Dz x0.vars 65536) fun q281=>if 65536 < q281 then (bnd (CP x0) fun q290=>bnd (if (q290.1.length:Int)=0 then (bnd (Db (⟨q290.2.n⟩:Err) 5) fun q311=>if q311=true then some true else some false) else (some false):Option Bool) fun y304=>some y304) else (bnd (Ew x0) fun q322=>if q322=true then bnd (BQ x0 512) fun q329=>if q329.2.n≠0 then (some false) else (bnd q329.1 fun o344=>bnd (Cg o344 x1) fun q348=>bnd (DQ x0.vars x1) fun q362=>if q362=true then bnd (Ey x0 x0.init) fun q384=>bnd (Dg x0.vars x1) fun q393=>bnd (atI q384 q393) fun a401=>if a401=true then (bnd (if q348.2.n=0 then (some true) else (some false):Option Bool) fun y413=>some y413) else (bnd (bnd (Db (⟨q348.2.n⟩:Err) 3) fun q426=>if q426=true then some true else some false:Option Bool) fun y422=>some y422) else bnd (bnd (Db (⟨q348.2.n⟩:Err) 2) fun q373=>if q373=true then some true else some false:Option Bool) fun y369=>some y369) else some true))))
theorem HK {w:World} {A:Nat→Prop} (hA:∀ k,A k→k < w.heap.size) {vx0:Value} {x0:Tsk} (j4:Vb w A vx0 x0) {vx1:Value} {x1:List Int} (u0:Vb w A vx1 x1) {r:Bool} (hm:DC x0 x1=some r) :
    Fn Tryz.prog 9 [vx0,vx1] w fun v w'=>Ext w w'∧Vb w' (upA A w w') v r:=by
 obtain ⟨O,hB,d9⟩:=enter hA
 replace j4:=j4.mono d9
 obtain ⟨rF,rfl,v4,v5,v6,v7,rfl,h8,o0,p0,l0⟩:=j4
 obtain ⟨A9,l1,rfl⟩:=h8.form
 obtain ⟨m1,n1,rfl⟩:=o0.form
 obtain ⟨o1,p1,rfl⟩:=p0.form
 obtain ⟨q1,r1,rfl⟩:=l0.form
 replace u0:=u0.mono d9
 obtain ⟨h4,i4,rfl⟩:=u0.form
 refine AH Tryz.func9 rfl Tryz.ntmps9 rfl ?_
 unfold DC at hm
 refine Al (Aj (Dc 2 O rfl rfl fun a3 e9 f9 d1 g0=>?_))
 replace g0:Lc 2 e9 f9 a3 26 [(.slice A9 x0.vars.length l1),(.slice m1 x0.init.length n1),(.slice o1 x0.goal.length p1),(.slice q1 x0.ops.length r1)]:=g0
 refine An rfl rfl (o_z ?_)
 refine Al (Al ?_)
 obtain ⟨p9,m0,hm⟩:=bs hm
 refine AJ (fun l' w'=>∃ (q9:Unit) (O':Lab),subs l' [(1,(.slice h4 x1.length i4)),(2,(.pointer (some ⟨a3,0,none⟩))),(35,(.bool p9))]∧Bs w A w' O'∧Vb w' (Fr 0 w' O') (.slice h4 x1.length i4) x1∧Lc 2 w' O' a3 26 [(.slice A9 x0.vars.length l1),(.slice m1 x0.init.length n1),(.slice o1 x0.goal.length p1),(.slice q1 x0.ops.length r1)]∧Vb w' (Fr 0 w' O') (.slice A9 x0.vars.length l1) x0.vars∧Vb w' (Fr 0 w' O') (.slice m1 x0.init.length n1) x0.init∧Vb w' (Fr 0 w' O') (.slice o1 x0.goal.length p1) x0.goal∧Vb w' (Fr 0 w' O') (.slice q1 x0.ops.length r1) x0.ops) ?_ ?_
 ·
  refine Aj (AE rfl rfl (AC (hc:=Blk.cell (i:=0) (g0.1) rfl) rfl rfl ?_))
  refine AP rfl rfl ?_
  replace h8:=h8.st d1
  have r9:x0.vars.length≤9223372036854775807:=Nat.le_trans h8.len.2.1 h8.len.2.2
  have sF:inI64 (x0.vars.length:Int):=rngNat r9
  refine BS rfl rfl rfl (fun k4=>?_) fun k4=>?_
  ·
   replace m0:=ip m0 k4
   refine Am rfl rfl (At rfl rfl rfl rfl (At rfl rfl rfl rfl (At rfl rfl rfl rfl (At rfl rfl rfl rfl (AY rfl rfl rfl (Am rfl rfl (At rfl rfl rfl rfl (At rfl rfl rfl rfl (AY rfl rfl rfl (o_z ?_))))))))))
   obtain rfl:=sm m0
   exact ⟨(),_,⟨rfl,rfl,rfl,trivial⟩,hB.st d1,u0.st d1,g0,h8,o0.st d1,p0.st d1,l0.st d1⟩
  replace m0:=im m0 k4
  refine Am rfl rfl (Aw rfl rfl (AE rfl rfl (Aw rfl rfl (AC (hc:=Blk.cell (i:=3) (g0.1) rfl) rfl rfl ?_))))
  refine Aw rfl rfl (AP rfl rfl ?_)
  replace l0:=l0.st d1
  have s9:x0.ops.length≤9223372036854775807:=Nat.le_trans l0.len.2.1 l0.len.2.2
  have tF:inI64 (x0.ops.length:Int):=rngNat s9
  refine Aw rfl rfl (BS rfl rfl rfl (fun l4=>?_) fun l4=>?_)
  ·
   replace m0:=ip m0 l4
   refine AQ rfl rfl rfl (Am rfl rfl (At rfl rfl rfl rfl (At rfl rfl rfl rfl (AY rfl rfl rfl (o_z ?_)))))
   obtain rfl:=sm m0
   exact ⟨(),_,⟨rfl,rfl,rfl,trivial⟩,hB.st d1,u0.st d1,g0,h8,o0.st d1,p0.st d1,l0⟩
  replace m0:=im m0 l4
  refine AQ rfl rfl rfl (Am rfl rfl (Aw rfl rfl ?_))
  obtain ⟨g9,t9,m0⟩:=bs m0
  refine AV (O:=f9) (A:=All e9) (R:=fun w' F v=>Vb w' F v g9) (Ix (fun _ h=>h)  t9) rfl rfl fun uF vF wF j1 u9=>?_
  obtain rfl:=u9.bool
  cases g9
  case false =>
   replace m0:=iF m0
   refine Aw rfl rfl (Cq rfl rfl (AQ rfl rfl rfl (o_z ?_)))
   obtain rfl:=sm m0
   exact ⟨(),_,⟨rfl,rfl,rfl,trivial⟩,(hB.st d1).st j1,(u0.st d1).st j1,g0.st j1,h8.st j1,(o0.st d1).st j1,(p0.st d1).st j1,l0.st j1⟩
  replace m0:=iT m0
  refine Aw rfl rfl (Cp rfl rfl (AQ rfl rfl rfl (o_z ?_)))
  obtain rfl:=sm m0
  exact ⟨(),_,⟨rfl,rfl,rfl,trivial⟩,(hB.st d1).st j1,(u0.st d1).st j1,g0.st j1,h8.st j1,(o0.st d1).st j1,(p0.st d1).st j1,l0.st j1⟩
 replace hB:=hB.st d1
 replace u0:=u0.st d1
 replace h8:=h8.st d1
 replace o0:=o0.st d1
 replace p0:=p0.st d1
 replace l0:=l0.st d1
 rintro xF v9 ⟨q9,h9,m4,hB,u0,g0,h8,o0,p0,l0⟩
 refine AN _ m4 ?_
 refine CV rfl (fun n4=>?_) (fun n4=>?_)
 ·
  replace hm:=ip hm n4
  refine Al ?_
  obtain ⟨w9,h1,hm⟩:=bs hm
  refine AJ (fun l' w'=>∃ (x9:Unit) (O':Lab),subs l' [(4,(.bool w9))]∧Bs w A w' O') ?_ ?_
  ·
   refine Aj ?_
   obtain ⟨i9,y9,h1⟩:=bs h1
   refine AV (O:=h9) (A:=All v9) (R:=fun w' F v=>Vb w' F v i9) (Ix (fun _ h=>h)  y9) rfl rfl fun yF zF aG j9 z9=>?_
   obtain rfl:=z9.bool
   cases i9
   case false =>
    replace h1:=iF h1
    refine An rfl rfl (o_z ?_)
    obtain rfl:=sm h1
    exact ⟨(),_,⟨rfl,trivial⟩,hB.st j9⟩
   replace h1:=iT h1
   refine An rfl rfl (o_z ?_)
   obtain rfl:=sm h1
   exact ⟨(),_,⟨rfl,trivial⟩,hB.st j9⟩
  rintro bG cG ⟨x9,dG,o4,hB⟩
  refine AN _ o4 ?_
  refine AG ?_
  obtain rfl:=sm hm
  exact ret1v rfl (Az rfl) ⟨hB.ext,vBool⟩
 replace hm:=im' hm n4
 refine AI (Al (Aj (An rfl rfl (o_z ?_))))
 refine Al (Aj (Am rfl rfl ?_))
 obtain ⟨aA,bA,hm⟩:=bs hm
 refine CK (O:=h9) (R:=fun w' F v=>T2 w' F v aA) (GJ Fr.lt (show inI64 (0) from by decide) bA) rfl rfl fun eG k9 l9 n0 cA=>?_
 obtain ⟨fG,gG,rfl,dA,eA⟩:=cA
 obtain ⟨hG,iG,rfl⟩:=dA.form
 obtain ⟨rfl,fA⟩:=eA.err
 refine Am rfl rfl (AZ rfl rfl rfl (AZ rfl rfl rfl (An rfl rfl (An rfl rfl (o_z ?_)))))
 refine Al (Aj (Am rfl rfl (Am rfl rfl ?_)))
 obtain ⟨gA,iA,hm⟩:=bs hm
 replace u0:=u0.st n0
 refine AV (O:=l9) (A:=All k9) (R:=fun w' F v=>T2 w' F v gA) (GZ (fun _ h=>h) (Vb.mono (F:=Fr 0 k9 l9) u0 Fr.lt) iA) rfl rfl fun jG kG jA i0 kA=>?_
 obtain ⟨lG,mG,rfl,lA,mA⟩:=kA
 obtain ⟨rfl,nG⟩:=lA.int
 obtain ⟨rfl,nA⟩:=mA.err
 refine Am rfl rfl (AZ rfl rfl rfl (AZ rfl rfl rfl (An rfl rfl (An rfl rfl (o_z ?_)))))
 refine Al (Aj (Am rfl rfl ?_))
 obtain ⟨oA,pA,hm⟩:=bs hm
 refine CK (O:=jA) (R:=fun w' F v=>T3 w' F v oA) (Ha Fr.lt  pA) rfl rfl fun oG qA rA j0 sA=>?_
 obtain ⟨pG,qG,tA,rfl,p4,q4,r4⟩:=sA
 obtain ⟨uA,vA,rfl⟩:=p4.form
 obtain ⟨rfl,wA⟩:=q4.int
 obtain ⟨rfl,s4⟩:=r4.err
 refine Am rfl rfl (AZ rfl rfl rfl (AZ rfl rfl rfl (AZ rfl rfl rfl (An rfl rfl (An rfl rfl (An rfl rfl (o_z ?_)))))))
 refine Al (Al ?_)
 obtain ⟨t4,a0,hm⟩:=bs hm
 refine AJ (fun l' w'=>∃ (u4:Unit) (O':Lab),subs l' [(1,(.slice h4 x1.length i4)),(2,(.pointer (some ⟨a3,0,none⟩))),(87,(.bool t4))]∧Bs w A w' O'∧Vb w' (Fr 0 w' O') (.slice h4 x1.length i4) x1∧Lc 2 w' O' a3 26 [(.slice A9 x0.vars.length l1),(.slice m1 x0.init.length n1),(.slice o1 x0.goal.length p1),(.slice q1 x0.ops.length r1)]∧Vb w' (Fr 0 w' O') (.slice A9 x0.vars.length l1) x0.vars∧Vb w' (Fr 0 w' O') (.slice m1 x0.init.length n1) x0.init∧Vb w' (Fr 0 w' O') (.slice o1 x0.goal.length p1) x0.goal∧Vb w' (Fr 0 w' O') (.slice q1 x0.ops.length r1) x0.ops) ?_ ?_
 ·
  refine Aj (Am rfl rfl ?_)
  obtain ⟨b3,w4,a0⟩:=bs a0
  refine AV (O:=rA) (A:=All qA) (R:=fun w' F v=>Vb w' F v b3) (FG (fun _ h=>h) fA (show inI64 (3) from by decide) w4) rfl rfl fun xA x4 y4 c0 z4=>?_
  obtain rfl:=z4.bool
  cases b3
  case false =>
   replace a0:=iF a0
   refine Cq rfl rfl (Am rfl rfl (At rfl rfl rfl rfl (At rfl rfl rfl rfl (At rfl rfl rfl rfl (AY rfl rfl rfl (Am rfl rfl (At rfl rfl rfl rfl (At rfl rfl rfl rfl (At rfl rfl rfl rfl (AY rfl rfl rfl (Am rfl rfl (At rfl rfl rfl rfl (At rfl rfl rfl rfl (At rfl rfl rfl rfl ?_))))))))))))))
   refine At rfl rfl rfl rfl (At rfl rfl rfl rfl (At rfl rfl rfl rfl (At rfl rfl rfl rfl (At rfl rfl rfl rfl (At rfl rfl rfl rfl (At rfl rfl rfl rfl (At rfl rfl rfl rfl (At rfl rfl rfl rfl (At rfl rfl rfl rfl (At rfl rfl rfl rfl (At rfl rfl rfl rfl (At rfl rfl rfl rfl (At rfl rfl rfl rfl (At rfl rfl rfl rfl ?_))))))))))))))
   refine At rfl rfl rfl rfl (AY rfl rfl rfl (o_z ?_))
   obtain rfl:=sm a0
   exact ⟨(),_,⟨rfl,rfl,rfl,trivial⟩,(((hB.st n0).st i0).st j0).st c0,((u0.st i0).st j0).st c0,(((g0.st n0).st i0).st j0).st c0,(((h8.st n0).st i0).st j0).st c0,(((o0.st n0).st i0).st j0).st c0,(((p0.st n0).st i0).st j0).st c0,(((l0.st n0).st i0).st j0).st c0⟩
  replace a0:=iT a0
  refine Cp rfl rfl (Am rfl rfl (Aw rfl rfl (Am rfl rfl (Aw rfl rfl ?_))))
  obtain ⟨c3,a5,a0⟩:=bs a0
  refine AV (O:=y4) (A:=All x4) (R:=fun w' F v=>Vb w' F v c3) (FG (fun _ h=>h) nA (show inI64 (3) from by decide) a5) rfl rfl fun yA b5 c5 e0 d5=>?_
  obtain rfl:=d5.bool
  cases c3
  case false =>
   replace a0:=iF a0
   refine Aw rfl rfl (Cq rfl rfl (AQ rfl rfl rfl (Am rfl rfl (At rfl rfl rfl rfl (At rfl rfl rfl rfl (At rfl rfl rfl rfl (AY rfl rfl rfl (Am rfl rfl (At rfl rfl rfl rfl (At rfl rfl rfl rfl (At rfl rfl rfl rfl (At rfl rfl rfl rfl (At rfl rfl rfl rfl (At rfl rfl rfl rfl ?_))))))))))))))
   refine At rfl rfl rfl rfl (At rfl rfl rfl rfl (At rfl rfl rfl rfl (At rfl rfl rfl rfl (At rfl rfl rfl rfl (At rfl rfl rfl rfl (At rfl rfl rfl rfl (At rfl rfl rfl rfl (At rfl rfl rfl rfl (At rfl rfl rfl rfl (At rfl rfl rfl rfl (At rfl rfl rfl rfl (At rfl rfl rfl rfl (AY rfl rfl rfl (o_z ?_))))))))))))))
   obtain rfl:=sm a0
   exact ⟨(),_,⟨rfl,rfl,rfl,trivial⟩,((((hB.st n0).st i0).st j0).st c0).st e0,(((u0.st i0).st j0).st c0).st e0,((((g0.st n0).st i0).st j0).st c0).st e0,((((h8.st n0).st i0).st j0).st c0).st e0,((((o0.st n0).st i0).st j0).st c0).st e0,((((p0.st n0).st i0).st j0).st c0).st e0,((((l0.st n0).st i0).st j0).st c0).st e0⟩
  replace a0:=iT a0
  refine Aw rfl rfl (Cp rfl rfl (AQ rfl rfl rfl (Am rfl rfl (Aw rfl rfl (Am rfl rfl (Aw rfl rfl ?_))))))
  obtain ⟨d3,e5,a0⟩:=bs a0
  refine AV (O:=c5) (A:=All b5) (R:=fun w' F v=>Vb w' F v d3) (FG (fun _ h=>h) s4 (show inI64 (3) from by decide) e5) rfl rfl fun zA f5 g5 h0 h5=>?_
  obtain rfl:=h5.bool
  cases d3
  case false =>
   replace a0:=iF a0
   refine Aw rfl rfl (Cq rfl rfl (AQ rfl rfl rfl (Am rfl rfl (At rfl rfl rfl rfl (At rfl rfl rfl rfl (At rfl rfl rfl rfl (At rfl rfl rfl rfl (At rfl rfl rfl rfl (At rfl rfl rfl rfl (At rfl rfl rfl rfl (At rfl rfl rfl rfl (At rfl rfl rfl rfl (At rfl rfl rfl rfl (At rfl rfl rfl rfl ?_))))))))))))))
   refine At rfl rfl rfl rfl (At rfl rfl rfl rfl (At rfl rfl rfl rfl (At rfl rfl rfl rfl (At rfl rfl rfl rfl (At rfl rfl rfl rfl (At rfl rfl rfl rfl (At rfl rfl rfl rfl (AY rfl rfl rfl (o_z ?_)))))))))
   obtain rfl:=sm a0
   exact ⟨(),_,⟨rfl,rfl,rfl,trivial⟩,(((((hB.st n0).st i0).st j0).st c0).st e0).st h0,((((u0.st i0).st j0).st c0).st e0).st h0,(((((g0.st n0).st i0).st j0).st c0).st e0).st h0,(((((h8.st n0).st i0).st j0).st c0).st e0).st h0,(((((o0.st n0).st i0).st j0).st c0).st e0).st h0,(((((p0.st n0).st i0).st j0).st c0).st e0).st h0,(((((l0.st n0).st i0).st j0).st c0).st e0).st h0⟩
  replace a0:=iT a0
  refine Aw rfl rfl (Cp rfl rfl (AQ rfl rfl rfl (Am rfl rfl (Aw rfl rfl (Am rfl rfl (Aw rfl rfl ?_))))))
  obtain ⟨i5,j5,a0⟩:=bs a0
  refine AV (O:=g5) (A:=All f5) (R:=fun w' F v=>Vb w' F v i5) (Hn (fun _ h=>h)  j5) rfl rfl fun aB bB k5 v0 l5=>?_
  obtain ⟨rfl,cB⟩:=l5.int
  refine Aw rfl rfl (Am rfl rfl (Aw rfl rfl ?_))
  obtain ⟨v1,m5,a0⟩:=bs a0
  refine CK (O:=k5) (R:=fun w' F v=>Vb w' F v v1) (GK Fr.lt  m5) rfl rfl fun dB eB n5 w0 w1=>?_
  obtain ⟨fB,gB,rfl⟩:=w1.form
  refine Aw rfl rfl (AP rfl rfl ?_)
  have o5:v1.length≤9223372036854775807:=Nat.le_trans w1.len.2.1 w1.len.2.2
  have iB:inI64 (v1.length:Int):=rngNat o5
  refine Aw rfl rfl ?_
  obtain ⟨jB,e3,a0⟩:=bs a0
  have kB:=(Bw e3)
  refine Ee (he:=e3) rfl rfl rfl ?_
  refine Aw rfl rfl (Am rfl rfl (Aw rfl rfl ?_))
  obtain ⟨y1,p5,a0⟩:=bs a0
  refine CK (O:=n5) (R:=fun w' F v=>Vb w' F v y1) (GL Fr.lt  p5) rfl rfl fun lB mB q5 y0 z1=>?_
  obtain ⟨nB,oB,rfl⟩:=z1.form
  refine Aw rfl rfl (AP rfl rfl ?_)
  have r5:y1.length≤9223372036854775807:=Nat.le_trans z1.len.2.1 z1.len.2.2
  have pB:inI64 (y1.length:Int):=rngNat r5
  refine Aw rfl rfl ?_
  obtain ⟨qB,f3,a0⟩:=bs a0
  have rB:=(Bw f3)
  refine Ee (he:=f3) rfl rfl rfl ?_
  refine Aw rfl rfl (Am rfl rfl (Aw rfl rfl ?_))
  obtain ⟨a2,s5,a0⟩:=bs a0
  refine CK (O:=q5) (R:=fun w' F v=>Vb w' F v a2) (FX Fr.lt  s5) rfl rfl fun sB tB t5 z0 b2=>?_
  obtain ⟨uB,vB,rfl⟩:=b2.form
  refine Aw rfl rfl (AP rfl rfl ?_)
  have u5:a2.length≤9223372036854775807:=Nat.le_trans b2.len.2.1 b2.len.2.2
  have wB:inI64 (a2.length:Int):=rngNat u5
  refine Aw rfl rfl ?_
  obtain ⟨xB,g3,a0⟩:=bs a0
  have yB:=(Bw g3)
  refine Ee (he:=g3) rfl rfl rfl ?_
  refine Aw rfl rfl (Am rfl rfl (Aw rfl rfl ?_))
  obtain ⟨w5,x5,a0⟩:=bs a0
  refine CK (O:=t5) (R:=fun w' F v=>Vb w' F v w5) (Gz Fr.lt  x5) rfl rfl fun zB aC bC a1 y5=>?_
  obtain ⟨m9,rfl,cC,dC,eC,rfl,z5,a6,b6,fC,gC⟩:=y5
  obtain ⟨hC,iC,rfl⟩:=z5.form
  obtain ⟨jC,kC,rfl⟩:=a6.form
  obtain ⟨lC,mC,rfl⟩:=b6.form
  refine Aw rfl rfl (AR (Pb rfl rfl) rfl ?_)
  refine Aw rfl rfl ?_
  obtain ⟨nC,h3,a0⟩:=bs a0
  have oC:=(Bw h3)
  refine Ee (he:=h3) rfl rfl rfl ?_
  refine Aw rfl rfl (Gh rfl rfl rfl (fun c2=>?_) fun c2=>?_)
  ·
   replace a0:=ip a0 c2
   refine AQ rfl rfl rfl (o_z ?_)
   obtain rfl:=sm a0
   exact ⟨(),_,⟨rfl,rfl,rfl,trivial⟩,((((((((((hB.st n0).st i0).st j0).st c0).st e0).st h0).st v0).st w0).st y0).st z0).st a1,(((((((((u0.st i0).st j0).st c0).st e0).st h0).st v0).st w0).st y0).st z0).st a1,((((((((((g0.st n0).st i0).st j0).st c0).st e0).st h0).st v0).st w0).st y0).st z0).st a1,((((((((((h8.st n0).st i0).st j0).st c0).st e0).st h0).st v0).st w0).st y0).st z0).st a1,((((((((((o0.st n0).st i0).st j0).st c0).st e0).st h0).st v0).st w0).st y0).st z0).st a1,((((((((((p0.st n0).st i0).st j0).st c0).st e0).st h0).st v0).st w0).st y0).st z0).st a1,((((((((((l0.st n0).st i0).st j0).st c0).st e0).st h0).st v0).st w0).st y0).st z0).st a1⟩
  replace a0:=im a0 c2
  refine AQ rfl rfl rfl (o_z ?_)
  obtain rfl:=sm a0
  exact ⟨(),_,⟨rfl,rfl,rfl,trivial⟩,((((((((((hB.st n0).st i0).st j0).st c0).st e0).st h0).st v0).st w0).st y0).st z0).st a1,(((((((((u0.st i0).st j0).st c0).st e0).st h0).st v0).st w0).st y0).st z0).st a1,((((((((((g0.st n0).st i0).st j0).st c0).st e0).st h0).st v0).st w0).st y0).st z0).st a1,((((((((((h8.st n0).st i0).st j0).st c0).st e0).st h0).st v0).st w0).st y0).st z0).st a1,((((((((((o0.st n0).st i0).st j0).st c0).st e0).st h0).st v0).st w0).st y0).st z0).st a1,((((((((((p0.st n0).st i0).st j0).st c0).st e0).st h0).st v0).st w0).st y0).st z0).st a1,((((((((((l0.st n0).st i0).st j0).st c0).st e0).st h0).st v0).st w0).st y0).st z0).st a1⟩
 replace hB:=((hB.st n0).st i0).st j0
 replace u0:=(u0.st i0).st j0
 replace h8:=((h8.st n0).st i0).st j0
 replace o0:=((o0.st n0).st i0).st j0
 replace p0:=((p0.st n0).st i0).st j0
 replace l0:=((l0.st n0).st i0).st j0
 replace g0:=((g0.st n0).st i0).st j0
 rintro pC i3 ⟨u4,j3,k3,hB,u0,g0,h8,o0,p0,l0⟩
 refine AN _ k3 ?_
 refine CV rfl (fun d2=>?_) (fun d2=>?_)
 ·
  replace hm:=ip hm d2
  refine Al (Aj (An rfl rfl (o_z ?_)))
  refine AG ?_
  obtain rfl:=sm hm
  exact ret1v rfl (Az rfl) ⟨hB.ext,vBool⟩
 replace hm:=im' hm d2
 refine AI (Al (Al (Aj (Bk (hl:=rfl) (hc:=(g0.1).cellsAt) rfl rfl ?_))))
 obtain ⟨c6,d6,hm⟩:=bs hm
 refine AV (O:=j3) (A:=All i3) (R:=fun w' F v=>Vb w' F v c6) (LA (fun _ h=>h) (Vb.mono (F:=Fr 0 i3 j3) (Vb.ofAgg (cs:=[(.slice A9 x0.vars.length l1),(.slice m1 x0.init.length n1),(.slice o1 x0.goal.length p1),(.slice q1 x0.ops.length r1)]) (x:=x0) rfl ⟨_,_,_,_,rfl,h8,o0,p0,l0⟩) Fr.lt) d6) rfl rfl fun qC l3 e2 d0 e6=>?_
 obtain ⟨rfl,rC⟩:=e6.int
 refine An rfl rfl (o_z ?_)
 refine Al (Aj (Am rfl rfl (Gh rfl rfl rfl (fun f2=>?_) fun f2=>?_)))
 ·
  replace hm:=ip hm f2
  refine o_z ?_
  refine Ah rfl (Al (Aj ?_))
  replace g0:=g0.st d0
  refine Bk (hl:=rfl) (hc:=(g0.1).cellsAt) rfl rfl ?_
  obtain ⟨sC,f6,hm⟩:=bs hm
  replace h8:=h8.st d0
  replace o0:=o0.st d0
  replace p0:=p0.st d0
  replace l0:=l0.st d0
  refine BH (O:=e2) (Fk (Vb.ofAgg (cs:=[(.slice A9 x0.vars.length l1),(.slice m1 x0.init.length n1),(.slice o1 x0.goal.length p1),(.slice q1 x0.ops.length r1)]) (x:=x0) rfl ⟨_,_,_,_,rfl,h8,o0,p0,l0⟩) (show inI64 (100) from by decide) 3 (by decide) f6) rfl rfl fun tC uC g6 e1 h6=>?_
  obtain ⟨vC,wC,rfl,i6,j6⟩:=h6
  obtain ⟨xC,rfl,m3⟩:=Obo.ptrq i6
  obtain ⟨rfl,k6⟩:=j6.err
  refine Am rfl rfl (AZ rfl rfl rfl (AZ rfl rfl rfl (An rfl rfl (An rfl rfl (o_z ?_)))))
  refine Al (Aj ?_)
  replace g0:=g0.st e1
  refine Bk (hl:=rfl) (hc:=(g0.1).cellsAt) rfl rfl ?_
  obtain ⟨g2,l6,hm⟩:=bs hm
  replace h8:=h8.st e1
  replace o0:=o0.st e1
  replace p0:=p0.st e1
  replace l0:=l0.st e1
  refine CK (O:=g6) (R:=fun w' F v=>T2 w' F v g2) (GC Fr.lt (Vb.ofAgg (cs:=[(.slice A9 x0.vars.length l1),(.slice m1 x0.init.length n1),(.slice o1 x0.goal.length p1),(.slice q1 x0.ops.length r1)]) (x:=x0) rfl ⟨_,_,_,_,rfl,h8,o0,p0,l0⟩) l6) rfl rfl fun yC m6 n6 k1 o6=>?_
  obtain ⟨zC,aD,rfl,h2,p6⟩:=o6
  obtain ⟨bD,cD,rfl⟩:=h2.form
  obtain ⟨rfl,q6⟩:=p6.err
  refine Am rfl rfl (AZ rfl rfl rfl (AZ rfl rfl rfl (An rfl rfl (An rfl rfl (o_z ?_)))))
  refine Al ?_
  obtain ⟨r6,b0,hm⟩:=bs hm
  refine AJ (fun l' w'=>∃ (s6:Unit) (O':Lab),subs l' [(4,(.bool r6))]∧Bs w A w' O') ?_ ?_
  ·
   refine Aj (Am rfl rfl (RK m3 rfl rfl (fun i2=>?_) fun i2=>?_))
   ·
    replace b0:=ip b0 i2
    refine Am rfl rfl (Aw rfl rfl (Am rfl rfl (Aw rfl rfl (AP rfl rfl ?_))))
    have t6:g2.1.length≤9223372036854775807:=Nat.le_trans h2.len.2.1 h2.len.2.2
    have dD:inI64 (g2.1.length:Int):=rngNat t6
    refine Aw rfl rfl (GG rfl rfl rfl (fun j2=>?_) fun j2=>?_)
    ·
     replace b0:=ip b0 j2
     refine AY rfl rfl rfl (Am rfl rfl (Aw rfl rfl (Am rfl rfl (Aw rfl rfl ?_))))
     obtain ⟨u6,w6,b0⟩:=bs b0
     refine AV (O:=n6) (A:=All m6) (R:=fun w' F v=>Vb w' F v u6) (Ib (fun _ h=>h) k6 w6) rfl rfl fun eD x6 y6 k2 z6=>?_
     obtain ⟨rfl,fD⟩:=z6.int
     refine Aw rfl rfl (Am rfl rfl (Aw rfl rfl (GG rfl rfl rfl (fun l2=>?_) fun l2=>?_)))
     ·
      replace b0:=ip b0 l2
      refine AY rfl rfl rfl (Am rfl rfl (Aw rfl rfl (Am rfl rfl (Aw rfl rfl ?_))))
      obtain ⟨a7,b7,b0⟩:=bs b0
      refine AV (O:=y6) (A:=All x6) (R:=fun w' F v=>Vb w' F v a7) (Ib (fun _ h=>h) q6 b7) rfl rfl fun gD hD iD n3 c7=>?_
      obtain ⟨rfl,jD⟩:=c7.int
      refine Aw rfl rfl (Am rfl rfl (Aw rfl rfl (GG rfl rfl rfl (fun m2=>?_) fun m2=>?_)))
      ·
       replace b0:=ip b0 m2
       refine AY rfl rfl rfl (An rfl rfl (o_z ?_))
       obtain rfl:=sm b0
       exact ⟨(),_,⟨rfl,trivial⟩,((((hB.st d0).st e1).st k1).st k2).st n3⟩
      replace b0:=im b0 m2
      refine AY rfl rfl rfl (An rfl rfl (o_z ?_))
      obtain rfl:=sm b0
      exact ⟨(),_,⟨rfl,trivial⟩,((((hB.st d0).st e1).st k1).st k2).st n3⟩
     replace b0:=im b0 l2
     refine AY rfl rfl rfl (Am rfl rfl (At rfl rfl rfl rfl (At rfl rfl rfl rfl (At rfl rfl rfl rfl (At rfl rfl rfl rfl (AQ rfl rfl rfl (An rfl rfl (o_z ?_))))))))
     obtain rfl:=sm b0
     exact ⟨(),_,⟨rfl,trivial⟩,(((hB.st d0).st e1).st k1).st k2⟩
    replace b0:=im b0 j2
    refine AY rfl rfl rfl (Am rfl rfl (At rfl rfl rfl rfl (At rfl rfl rfl rfl (At rfl rfl rfl rfl (At rfl rfl rfl rfl (AQ rfl rfl rfl (Am rfl rfl (At rfl rfl rfl rfl (At rfl rfl rfl rfl (At rfl rfl rfl rfl (At rfl rfl rfl rfl (AQ rfl rfl rfl (An rfl rfl (o_z ?_))))))))))))))
    obtain rfl:=sm b0
    exact ⟨(),_,⟨rfl,trivial⟩,((hB.st d0).st e1).st k1⟩
   replace b0:=im b0 i2
   refine Am rfl rfl (At rfl rfl rfl rfl (At rfl rfl rfl rfl (At rfl rfl rfl rfl (AQ rfl rfl rfl (Am rfl rfl (At rfl rfl rfl rfl (At rfl rfl rfl rfl (At rfl rfl rfl rfl (At rfl rfl rfl rfl (AQ rfl rfl rfl (Am rfl rfl (At rfl rfl rfl rfl (At rfl rfl rfl rfl (At rfl rfl rfl rfl ?_))))))))))))))
   refine At rfl rfl rfl rfl (AQ rfl rfl rfl (An rfl rfl (o_z ?_)))
   obtain rfl:=sm b0
   exact ⟨(),_,⟨rfl,trivial⟩,((hB.st d0).st e1).st k1⟩
  replace hB:=((hB.st d0).st e1).st k1
  rintro kD lD ⟨s6,mD,o3,hB⟩
  refine AN _ o3 ?_
  refine AG ?_
  obtain rfl:=sm hm
  exact ret1v rfl (Az rfl) ⟨hB.ext,vBool⟩
 replace hm:=im hm f2
 refine o_z ?_
 refine Ae rfl (AI (Al (Al (Aj (AE rfl rfl ?_)))))
 replace g0:=g0.st d0
 refine AC (hc:=Blk.cell (i:=0) (g0.1) rfl) rfl rfl ?_
 obtain ⟨d7,e7,hm⟩:=bs hm
 replace h8:=h8.st d0
 refine AV (O:=e2) (A:=All l3) (R:=fun w' F v=>Vb w' F v d7) (JH (fun _ h=>h) (Vb.mono (F:=Fr 0 l3 e2) h8 Fr.lt) (show inI64 (65536) from by decide) e7) rfl rfl fun nD p3 n2 f0 f7=>?_
 obtain ⟨rfl,oD⟩:=f7.int
 refine BS rfl rfl rfl (fun o2=>?_) fun o2=>?_
 ·
  replace hm:=ip hm o2
  refine o_z ?_
  refine Ah rfl (Al (Aj ?_))
  replace g0:=g0.st f0
  refine Bk (hl:=rfl) (hc:=(g0.1).cellsAt) rfl rfl ?_
  obtain ⟨p2,g7,hm⟩:=bs hm
  replace h8:=h8.st f0
  replace o0:=(o0.st d0).st f0
  replace p0:=(p0.st d0).st f0
  replace l0:=(l0.st d0).st f0
  refine CK (O:=n2) (R:=fun w' F v=>T2 w' F v p2) (GC Fr.lt (Vb.ofAgg (cs:=[(.slice A9 x0.vars.length l1),(.slice m1 x0.init.length n1),(.slice o1 x0.goal.length p1),(.slice q1 x0.ops.length r1)]) (x:=x0) rfl ⟨_,_,_,_,rfl,h8,o0,p0,l0⟩) g7) rfl rfl fun pD h7 i7 s1 j7=>?_
  obtain ⟨qD,rD,rfl,q2,k7⟩:=j7
  obtain ⟨sD,tD,rfl⟩:=q2.form
  obtain ⟨rfl,l7⟩:=k7.err
  refine Am rfl rfl (AZ rfl rfl rfl (AZ rfl rfl rfl (An rfl rfl (An rfl rfl (o_z ?_)))))
  refine Al ?_
  obtain ⟨m7,k0,hm⟩:=bs hm
  refine AJ (fun l' w'=>∃ (n7:Unit) (O':Lab),subs l' [(4,(.bool m7))]∧Bs w A w' O') ?_ ?_
  ·
   refine Aj (Am rfl rfl (AP rfl rfl ?_))
   have o7:p2.1.length≤9223372036854775807:=Nat.le_trans q2.len.2.1 q2.len.2.2
   have uD:inI64 (p2.1.length:Int):=rngNat o7
   refine GG rfl rfl rfl (fun r2=>?_) fun r2=>?_
   ·
    replace k0:=ip k0 r2
    refine Am rfl rfl (Aw rfl rfl (Am rfl rfl (Aw rfl rfl ?_)))
    obtain ⟨q3,p7,k0⟩:=bs k0
    refine AV (O:=i7) (A:=All h7) (R:=fun w' F v=>Vb w' F v q3) (FG (fun _ h=>h) l7 (show inI64 (5) from by decide) p7) rfl rfl fun vD wD xD r3 q7=>?_
    obtain rfl:=q7.bool
    cases q3
    case false =>
     replace k0:=iF k0
     refine AY rfl rfl rfl (An rfl rfl (o_z ?_))
     obtain rfl:=sm k0
     exact ⟨(),_,⟨rfl,trivial⟩,(((hB.st d0).st f0).st s1).st r3⟩
    replace k0:=iT k0
    refine AY rfl rfl rfl (An rfl rfl (o_z ?_))
    obtain rfl:=sm k0
    exact ⟨(),_,⟨rfl,trivial⟩,(((hB.st d0).st f0).st s1).st r3⟩
   replace k0:=im k0 r2
   refine Am rfl rfl (At rfl rfl rfl rfl (At rfl rfl rfl rfl (AQ rfl rfl rfl (An rfl rfl (o_z ?_)))))
   obtain rfl:=sm k0
   exact ⟨(),_,⟨rfl,trivial⟩,((hB.st d0).st f0).st s1⟩
  replace hB:=((hB.st d0).st f0).st s1
  rintro yD zD ⟨n7,aE,s3,hB⟩
  refine AN _ s3 ?_
  refine AG ?_
  obtain rfl:=sm hm
  exact ret1v rfl (Az rfl) ⟨hB.ext,vBool⟩
 replace hm:=im hm o2
 refine o_z ?_
 refine Ae rfl (AI (Al (Al (Aj ?_))))
 replace g0:=g0.st f0
 refine Bk (hl:=rfl) (hc:=(g0.1).cellsAt) rfl rfl ?_
 obtain ⟨t3,r7,hm⟩:=bs hm
 replace h8:=h8.st f0
 replace o0:=(o0.st d0).st f0
 replace p0:=(p0.st d0).st f0
 replace l0:=(l0.st d0).st f0
 refine AV (O:=n2) (A:=All p3) (R:=fun w' F v=>Vb w' F v t3) (Me (fun _ h=>h) (Vb.mono (F:=Fr 0 p3 n2) (Vb.ofAgg (cs:=[(.slice A9 x0.vars.length l1),(.slice m1 x0.init.length n1),(.slice o1 x0.goal.length p1),(.slice q1 x0.ops.length r1)]) (x:=x0) rfl ⟨_,_,_,_,rfl,h8,o0,p0,l0⟩) Fr.lt) r7) rfl rfl fun bE cE s7 q0 t7=>?_
 obtain rfl:=t7.bool
 cases t3
 case false =>
  replace hm:=iF hm
  refine Cq rfl rfl (o_z ?_)
  refine Ah rfl (Al (Aj (An rfl rfl (o_z ?_))))
  refine AG ?_
  obtain rfl:=sm hm
  replace hB:=((hB.st d0).st f0).st q0
  exact ret1v rfl (Az rfl) ⟨hB.ext,vBool⟩
 replace hm:=iT hm
 refine Cp rfl rfl (o_z ?_)
 refine Ae rfl (AI (Al (Aj ?_)))
 replace g0:=g0.st q0
 refine Bk (hl:=rfl) (hc:=(g0.1).cellsAt) rfl rfl ?_
 obtain ⟨dE,u7,hm⟩:=bs hm
 replace h8:=h8.st q0
 replace o0:=o0.st q0
 replace p0:=p0.st q0
 replace l0:=l0.st q0
 refine BH (O:=s7) (Fk (Vb.ofAgg (cs:=[(.slice A9 x0.vars.length l1),(.slice m1 x0.init.length n1),(.slice o1 x0.goal.length p1),(.slice q1 x0.ops.length r1)]) (x:=x0) rfl ⟨_,_,_,_,rfl,h8,o0,p0,l0⟩) (show inI64 (512) from by decide) 4 (by decide) u7) rfl rfl fun eE fE w7 r0 x7=>?_
 obtain ⟨gE,hE,rfl,t1,y7⟩:=x7
 obtain ⟨iE,rfl,n9⟩:=Obo.ptrq t1
 obtain ⟨rfl,jE⟩:=y7.err
 refine Am rfl rfl (AZ rfl rfl rfl (AZ rfl rfl rfl (An rfl rfl (An rfl rfl (o_z ?_)))))
 refine Al (Al (Aj (Am rfl rfl (Dy rfl rfl (fun s2=>?_) fun s2=>?_))))
 ·
  replace hm:=ip hm s2
  refine o_z ?_
  refine Ah rfl (Al (Aj (An rfl rfl (o_z ?_))))
  refine AG ?_
  obtain rfl:=sm hm
  replace hB:=(((hB.st d0).st f0).st q0).st r0
  exact ret1v rfl (Az rfl) ⟨hB.ext,vBool⟩
 replace hm:=im hm s2
 refine o_z ?_
 refine Ae rfl (AI (Al (Aj (Am rfl rfl (Am rfl rfl ?_)))))
 obtain ⟨kE,z7,hm⟩:=bs hm
 rw [z7] at t1
 obtain ⟨lE,a8⟩:=Ob.ptr t1
 obtain rfl:=MY a8
 obtain ⟨mE,b8,hm⟩:=bs hm
 replace u0:=(((u0.st d0).st f0).st q0).st r0
 refine BH (O:=w7) (Id t1 u0 b8) rfl rfl fun nE t2 u2 s0 c8=>?_
 obtain ⟨oE,pE,qE,rfl,d8,e8⟩:=c8
 obtain ⟨rfl,rE⟩:=d8.int
 obtain ⟨rfl,u3⟩:=e8.err
 refine Am rfl rfl (AZ rfl rfl rfl (AZ rfl rfl rfl (An rfl rfl (o_z ?_))))
 refine Al (Al (Aj (AE rfl rfl ?_)))
 replace g0:=(g0.st r0).st s0
 refine AC (hc:=Blk.cell (i:=0) (g0.1) rfl) rfl rfl ?_
 refine Am rfl rfl ?_
 obtain ⟨v3,f8,hm⟩:=bs hm
 replace u0:=u0.st s0
 replace h8:=(h8.st r0).st s0
 refine AV (O:=u2) (A:=All t2) (R:=fun w' F v=>Vb w' F v v3) (IR (fun _ h=>h) (Vb.mono (F:=Fr 0 t2 u2) h8 Fr.lt) (Vb.mono (F:=Fr 0 t2 u2) u0 Fr.lt) f8) rfl rfl fun sE g8 v2 t0 i8=>?_
 obtain rfl:=i8.bool
 cases v3
 case false =>
  replace hm:=iF hm
  refine Cq rfl rfl (o_z ?_)
  refine Ah rfl (Al ?_)
  obtain ⟨j8,b1,hm⟩:=bs hm
  refine AJ (fun l' w'=>∃ (k8:Unit) (O':Lab),subs l' [(4,(.bool j8))]∧Bs w A w' O') ?_ ?_
  ·
   refine Aj (Am rfl rfl ?_)
   obtain ⟨w3,l8,b1⟩:=bs b1
   refine AV (O:=v2) (A:=All g8) (R:=fun w' F v=>Vb w' F v w3) (FG (fun _ h=>h) u3 (show inI64 (2) from by decide) l8) rfl rfl fun tE uE vE x3 m8=>?_
   obtain rfl:=m8.bool
   cases w3
   case false =>
    replace b1:=iF b1
    refine An rfl rfl (o_z ?_)
    obtain rfl:=sm b1
    exact ⟨(),_,⟨rfl,trivial⟩,((((((hB.st d0).st f0).st q0).st r0).st s0).st t0).st x3⟩
   replace b1:=iT b1
   refine An rfl rfl (o_z ?_)
   obtain rfl:=sm b1
   exact ⟨(),_,⟨rfl,trivial⟩,((((((hB.st d0).st f0).st q0).st r0).st s0).st t0).st x3⟩
  replace hB:=(((((hB.st d0).st f0).st q0).st r0).st s0).st t0
  rintro wE xE ⟨k8,yE,y3,hB⟩
  refine AN _ y3 ?_
  refine AG ?_
  obtain rfl:=sm hm
  exact ret1v rfl (Az rfl) ⟨hB.ext,vBool⟩
 replace hm:=iT hm
 refine Cp rfl rfl (o_z ?_)
 refine Ae rfl (AI (Al (Al (BG [] v2 ?_))))
 refine Bb (fuel:=4) [] [(0,true),(1,true),(2,true),(4,true),(5,true),(6,true)] (by kernel_rfl) rfl ?_
 replace g0:=g0.st t0
 refine Fu (hl:=rfl) (hb:=fun w' ⟨O',hq⟩=>((g0.st hq (by decide)).1).cellsAt) rfl rfl rfl ?_
 refine AT rfl rfl rfl (AS (hc:=fun w' ⟨O',hq⟩=>Blk.cell (i:=1) ((g0.st hq (by decide)).1) rfl) rfl rfl rfl ?_)
 refine AT rfl rfl rfl (AS (hc:=fun w' ⟨O',hq⟩=>Blk.cell (i:=0) ((g0.st hq (by decide)).1) rfl) rfl rfl rfl ?_)
 refine AK rfl rfl rfl (AL ?_)
 refine Bg (i:=3) (by kernel_rfl) rfl ?_
 obtain ⟨n8,o8,hm⟩:=bs hm
 replace h8:=h8.st t0
 replace o0:=((o0.st r0).st s0).st t0
 replace p0:=((p0.st r0).st s0).st t0
 replace l0:=((l0.st r0).st s0).st t0
 refine CK (O:=v2) (R:=fun w' F v=>Vb w' F v n8) (KN Fr.lt (Vb.ofAgg (cs:=[(.slice A9 x0.vars.length l1),(.slice m1 x0.init.length n1),(.slice o1 x0.goal.length p1),(.slice q1 x0.ops.length r1)]) (x:=x0) rfl ⟨_,_,_,_,rfl,h8,o0,p0,l0⟩) o0 o8) rfl rfl fun zE w2 x2 g1 u1=>?_
 obtain ⟨aF,bF,rfl⟩:=u1.form
 have hZ:=g1.lst [] (fun _ h=>h.elim)
 refine BE [] hZ (by kernel_rfl) ?_
 refine Bg (i:=7) (by kernel_rfl) rfl ?_
 obtain ⟨p8,q8,hm⟩:=bs hm
 replace u0:=(u0.st t0).st g1
 replace h8:=h8.st g1
 refine AV (O:=x2) (A:=All w2) (R:=fun w' F v=>Vb w' F v p8) (Hy (fun _ h=>h) (Vb.mono (F:=Fr 0 w2 x2) h8 Fr.lt) (Vb.mono (F:=Fr 0 w2 x2) u0 Fr.lt) q8) rfl rfl fun cF r8 s8 i1 t8=>?_
 obtain ⟨rfl,dF⟩:=t8.int
 have hZ:=i1.lst [] (fun _ h=>h.elim)
 refine BE [] hZ (by kernel_rfl) ?_
 refine Bb (fuel:=0) [] [(8,true),(9,true)] (by kernel_rfl) rfl ?_
 obtain ⟨eF,u8,hm⟩:=bs hm
 obtain ⟨v8,w8⟩:=AO u8
 replace u1:=u1.st i1
 obtain ⟨fF,gF,o9,z3,a4,b4,c4,rfl⟩:=u1.elem w8
 refine BU (hA:=z3) (hj:=(Int.toNat_of_nonneg v8).symm) (hlt:=b4) rfl rfl rfl rfl ?_
 refine AS (hc:=fun w' ⟨O',hq⟩=>cat0 (Bh (hq.agree (i:=0) (by decide)) a4 c4)) rfl rfl rfl ?_
 refine AL ?_
 refine Ck (by kernel_rfl) ?_
 refine CV rfl (fun y2=>?_) (fun y2=>?_)
 ·
  replace hm:=ip hm y2
  refine Al ?_
  obtain ⟨x8,f1,hm⟩:=bs hm
  refine AJ (fun l' w'=>∃ (y8:Unit) (O':Lab),subs l' [(4,(.bool x8))]∧Bs w A w' O') ?_ ?_
  ·
   refine Aj (Am rfl rfl (PH rfl rfl (fun z2=>?_) fun z2=>?_))
   ·
    replace f1:=ip f1 z2
    refine An rfl rfl (o_z ?_)
    obtain rfl:=sm f1
    exact ⟨(),_,⟨rfl,trivial⟩,(((((((hB.st d0).st f0).st q0).st r0).st s0).st t0).st g1).st i1⟩
   replace f1:=im f1 z2
   refine An rfl rfl (o_z ?_)
   obtain rfl:=sm f1
   exact ⟨(),_,⟨rfl,trivial⟩,(((((((hB.st d0).st f0).st q0).st r0).st s0).st t0).st g1).st i1⟩
  replace hB:=(((((((hB.st d0).st f0).st q0).st r0).st s0).st t0).st g1).st i1
  rintro hF jF ⟨y8,kF,d4,hB⟩
  refine AN _ d4 ?_
  refine AG ?_
  obtain rfl:=sm hm
  exact ret1v rfl (Az rfl) ⟨hB.ext,vBool⟩
 replace hm:=im' hm y2
 refine AI (Al ?_)
 obtain ⟨z8,c1,hm⟩:=bs hm
 refine AJ (fun l' w'=>∃ (a9:Unit) (O':Lab),subs l' [(4,(.bool z8))]∧Bs w A w' O') ?_ ?_
 ·
  refine Aj (Am rfl rfl ?_)
  obtain ⟨e4,b9,c1⟩:=bs c1
  refine AV (O:=s8) (A:=All r8) (R:=fun w' F v=>Vb w' F v e4) (FG (fun _ h=>h) u3 (show inI64 (3) from by decide) b9) rfl rfl fun lF mF nF f4 c9=>?_
  obtain rfl:=c9.bool
  cases e4
  case false =>
   replace c1:=iF c1
   refine An rfl rfl (o_z ?_)
   obtain rfl:=sm c1
   exact ⟨(),_,⟨rfl,trivial⟩,((((((((hB.st d0).st f0).st q0).st r0).st s0).st t0).st g1).st i1).st f4⟩
  replace c1:=iT c1
  refine An rfl rfl (o_z ?_)
  obtain rfl:=sm c1
  exact ⟨(),_,⟨rfl,trivial⟩,((((((((hB.st d0).st f0).st q0).st r0).st s0).st t0).st g1).st i1).st f4⟩
 replace hB:=(((((((hB.st d0).st f0).st q0).st r0).st s0).st t0).st g1).st i1
 rintro oF pF ⟨a9,qF,g4,hB⟩
 refine AN _ g4 ?_
 refine AG ?_
 obtain rfl:=sm hm
 exact ret1v rfl (Az rfl) ⟨hB.ext,vBool⟩
end
section
section
variable {α σ ρ β : Type}
theorem Qi {f:σ→Option (Ctl σ ρ)} (I:σ→Prop) (B:σ→Prop) (R:ρ→Prop) (μ:σ→Nat) (h:∀ s,I s→(∃ s',f s=some (.next s')∧I s'∧μ s' < μ s)∨(∃ s',f s=some (.brk s')∧B s')∨∃ r,f s=some (.ret r)∧R r) :
    ∀ s,I s→(∃ s',lop f s=some (.done s')∧B s')∨∃ r,lop f s=some (.ret r)∧R r:=by
  have key:∀ (n:Nat) s,I s→μ s < n→(∃ s',lop f s=some (.done s')∧B s')∨∃ r,lop f s=some (.ret r)∧R r:=by
    intro n
    induction n with
    | zero=>intro s _ hn;omega
    | succ n ih =>
      intro s hI hn
      rw [GW]
      rcases h s hI with ⟨s',h1,h2,h3⟩|⟨s',h1,h2⟩|⟨r,h1,h2⟩
      · rw [h1];exact ih s' h2 (by omega)
      · rw [h1];exact .inl ⟨s',rfl,h2⟩
      · rw [h1];exact .inr ⟨r,rfl,h2⟩
  exact fun s hI=>key (μ s + 1) s hI (by omega)
theorem Ky {f:σ→Option (Ctl σ ρ)} {s₀:σ} {k:Fin σ ρ→Option β} {P:β→Prop} (I:σ→Prop) (B:σ→Prop) (R:ρ→Prop) (μ:σ→Nat) (h0:I s₀)
    (h:∀ s,I s→(∃ s',f s=some (.next s')∧I s'∧μ s' < μ s)∨(∃ s',f s=some (.brk s')∧B s')∨∃ r,f s=some (.ret r)∧R r)
    (hb:∀ s,B s→∃ r,k (.done s)=some r∧P r) (hr:∀ q,R q→∃ r,k (.ret q)=some r∧P r):∃ r,bnd (lop f s₀) k=some r∧P r:=by
  rcases Qi I B R μ h s₀ h0 with ⟨s,h1,h2⟩|⟨q,h1,h2⟩
  · rw [h1,Ar];exact hb s h2
  · rw [h1,Ar];exact hr q h2
theorem Gs {f:Nat→α→σ→Option (Ctl σ ρ)} {xs:List α} {s₀:σ} {k:Fin σ ρ→Option β} {P:β→Prop} (I:Nat→σ→Prop) (R:ρ→Prop) (h0:I 0 s₀)
    (h:∀ i x s,xs[i]?=some x→I i s→(∃ s',f i x s=some (.next s')∧I (i + 1) s')∨∃ q,f i x s=some (.ret q)∧R q)
    (hb:∀ s,I xs.length s→∃ r,k (.done s)=some r∧P r) (hr:∀ q,R q→∃ r,k (.ret q)=some r∧P r):∃ r,bnd (rng f xs 0 s₀) k=some r∧P r:=by
  have key:∀ (ys:List α) (j:Nat) (s:σ),(∀ i,ys[i]?=xs[j + i]?)→j + ys.length=xs.length→I j s→∃ r,bnd (rng f ys j s) k=some r∧P r:=by
    intro ys
    induction ys with
    | nil=>intro j s _ hl hI;exact hb s (by simp at hl;rw [← hl];exact hI)
    | cons y ys ih =>
      intro j s hg hl hI
      have hy:xs[j]?=some y:=by have:=hg 0;simpa using this.symm
      simp only [rng]
      rcases h j y s hy hI with ⟨s',h1,h2⟩|⟨q,h1,h2⟩
      · rw [h1]
        exact ih (j + 1) s' (fun i=>by have:=hg (i + 1);rw [show j + 1 + i=j + (i + 1) from by omega,← this];simp) (by simp at hl;omega) h2
      · rw [h1,Ar];exact hr q h2
  exact key xs 0 s₀ (fun i=>by rw [Nat.zero_add]) (by omega) h0
theorem KO {f:Nat→α→σ→Option (Ctl σ ρ)} {xs:List α} {s₀:σ} {k:Fin σ ρ→Option β} {r:Option β} (I:Nat→σ→Prop) (h0:I 0 s₀)
    (h:∀ i x s,xs[i]?=some x→I i s→∃ s',f i x s=some (.next s')∧I (i + 1) s') (hb:∀ s,I xs.length s→k (.done s)=r):bnd (rng f xs 0 s₀) k=r:=by
  obtain ⟨s,h1,h2⟩:=Fg I h0 h
  rw [h1,Ar]
  exact hb s h2
end
end
section
open Go Go.RowKit
def Inf:Int:=1125899906842624
theorem Hb {α:Type} {l:List α} {k:Nat} {x y:α} (h:l[k]?=some x):y∈l.take (k + 1)↔y∈l.take k∨y=x:=by
  rw [List.take_add_one,h,List.mem_append];simp
end
section
open Go Go.RowKit
theorem Ja {α:Type} {l:List α} {m i:Nat} {x:α} (h:(l.take m)[i]?=some x):l[i]?=some x:=by
  by_cases hi:i < m
  · rwa [List.getElem?_take_of_lt hi] at h
  · rw [List.getElem?_take_eq_none (by omega)] at h;cases h
def bfr (x y:QEn):Prop:=x.key < y.key∨(x.key=y.key∧(x.tie < y.tie∨(x.tie=y.tie∧x.number < y.number)))
instance (x y:QEn):Decidable (bfr x y):=by unfold bfr;infer_instance
def nb (x y:QEn):Prop:=¬ bfr x y
theorem Ie {x y z:QEn} (h1:nb x y) (h2:nb y z):nb x z:=by unfold nb bfr at *;omega
theorem LJ {x y:QEn} (h:bfr x y):nb y x:=by unfold nb bfr at *;omega
theorem Kz (x:QEn):nb x x:=by unfold nb bfr;omega
def HeapOk (l:List QEn):Prop:=∀ (j:Nat) x y,0 < j→l[j]?=some x→l[(j - 1) / 2]?=some y→nb x y
def Over (l:List QEn) (i:Nat):Prop:=∀ (j:Nat) x y,0 < i→0 < j→(j - 1) / 2=i→l[j]?=some x→l[(i - 1) / 2]?=some y→nb x y
def UpI (l:List QEn) (i:Nat):Prop:=(∀ (j:Nat) x y,0 < j→j≠i→l[j]?=some x→l[(j - 1) / 2]?=some y→nb x y)∧Over l i
def DownI (l:List QEn) (i:Nat):Prop:=(∀ (j:Nat) x y,0 < j→(j - 1) / 2≠i→l[j]?=some x→l[(j - 1) / 2]?=some y→nb x y)∧Over l i
theorem HL {l:List QEn} {i j:Nat} {a b:QEn} (hi:l[i]?=some a) (hj:l[j]?=some b) (hne:i≠j) (k:Nat):((l.set i b).set j a)[k]?=if k=j then some a else if k=i then some b else l[k]?:=by
  by_cases h1:k=j
  · subst h1;rw [if_pos rfl,List.getElem?_set_self (by simpa using AD hj)]
  · rw [if_neg h1,List.getElem?_set_ne (by omega)]
    by_cases h2:k=i
    · subst h2;rw [if_pos rfl,List.getElem?_set_self (AD hi)]
    · rw [if_neg h2,List.getElem?_set_ne (by omega)]
theorem Mn {l:List QEn} {i j:Nat} {a b:QEn} (hi:l[i]?=some a) (hj:l[j]?=some b):((l.set i b).set j a).Perm l:=by
  have h1:=AD hi
  have h2:=AD hj
  have e1:l[i]=a:=by rw [List.getElem?_eq_getElem h1] at hi;exact Option.some.inj hi
  have e2:l[j]=b:=by rw [List.getElem?_eq_getElem h2] at hj;exact Option.some.inj hj
  rw [← e1,← e2]
  exact List.set_set_perm h1 h2
theorem UpI.step {l:List QEn} {i:Nat} {a b:QEn} (h:UpI l i) (h0:0 < i) (hi:l[i]?=some a) (hj:l[(i - 1) / 2]?=some b) (hb:bfr a b):UpI ((l.set i b).set ((i - 1) / 2) a) ((i - 1) / 2):=by
  have hne:i≠(i - 1) / 2:=by omega
  constructor
  · intro j x y hj0 hjp hx hy
    rw [HL hi hj hne,if_neg hjp] at hx
    rw [HL hi hj hne] at hy
    by_cases e1:j=i
    · subst e1
      rw [if_pos rfl] at hx hy
      obtain rfl:=Option.some.inj hx
      obtain rfl:=Option.some.inj hy
      exact LJ hb
    · rw [if_neg e1] at hx
      by_cases e2:(j - 1) / 2=(i - 1) / 2
      · rw [if_pos e2] at hy
        obtain rfl:=Option.some.inj hy
        have:=h.1 j x b hj0 e1 hx (by rw [e2];exact hj)
        exact Ie this (LJ hb)
      · rw [if_neg e2] at hy
        by_cases e3:(j - 1) / 2=i
        · rw [if_pos e3] at hy
          obtain rfl:=Option.some.inj hy
          exact h.2 j x b h0 hj0 e3 hx hj
        · rw [if_neg e3] at hy
          exact h.1 j x y hj0 e1 hx hy
  · intro j x y hp0 hj0 hjp hx hy
    rw [HL hi hj hne] at hx hy
    have n1:((i - 1) / 2 - 1) / 2≠(i - 1) / 2:=by omega
    have n2:((i - 1) / 2 - 1) / 2≠i:=by omega
    rw [if_neg n1,if_neg n2] at hy
    have hpp:=h.1 ((i - 1) / 2) b y hp0 (by omega) hj hy
    rw [if_neg (by omega)] at hx
    by_cases e1:j=i
    · subst e1
      rw [if_pos rfl] at hx
      obtain rfl:=Option.some.inj hx
      exact hpp
    · rw [if_neg e1] at hx
      exact Ie (h.1 j x b hj0 e1 hx (by rw [hjp];exact hj)) hpp
theorem UpI.heap {l:List QEn} {i:Nat} (h:UpI l i) (hi:i=0∨∀ x y,l[i]?=some x→l[(i - 1) / 2]?=some y→nb x y):HeapOk l:=fun j x y hj hx hy=>by
  by_cases e:j=i
  · subst e
    rcases hi with h0|h1
    · omega
    · exact h1 x y hx hy
  · exact h.1 j x y hj e hx hy
theorem DownI.step {l:List QEn} {i c:Nat} {a b:QEn} (h:DownI l i) (hc:c=2 * i + 1∨c=2 * i + 2) (hi:l[i]?=some a) (hj:l[c]?=some b) (hb:bfr b a) (hs:∀ (j:Nat) x,0 < j→(j - 1) / 2=i→l[j]?=some x→nb x b):DownI ((l.set i b).set c a) c:=by
  have hne:i≠c:=by omega
  have hcp:(c - 1) / 2=i:=by omega
  constructor
  · intro j x y hj0 hjp hx hy
    rw [HL hi hj hne] at hx hy
    rw [if_neg hjp] at hy
    by_cases e1:j=c
    · subst e1
      rw [if_pos rfl] at hx
      rw [if_pos hcp] at hy
      obtain rfl:=Option.some.inj hx
      obtain rfl:=Option.some.inj hy
      exact LJ hb
    · rw [if_neg e1] at hx
      by_cases e2:j=i
      · subst e2
        rw [if_pos rfl] at hx
        rw [if_neg (by omega)] at hy
        obtain rfl:=Option.some.inj hx
        exact h.2 c _ y hj0 (by omega) hcp hj hy
      · rw [if_neg e2] at hx
        by_cases e3:(j - 1) / 2=i
        · rw [if_pos e3] at hy
          obtain rfl:=Option.some.inj hy
          exact hs j x hj0 e3 hx
        · rw [if_neg e3] at hy
          exact h.1 j x y hj0 e3 hx hy
  · intro j x y hc0 hj0 hjc hx hy
    rw [HL hi hj hne] at hx hy
    rw [if_neg (by omega),if_neg (by omega)] at hx
    rw [if_neg (by omega),if_pos hcp] at hy
    obtain rfl:=Option.some.inj hy
    exact h.1 j x _ hj0 (by omega) hx (by rw [hjc];exact hj)
theorem DownI.heap {l:List QEn} {i:Nat} (h:DownI l i) (hi:∀ (j:Nat) x y,0 < j→(j - 1) / 2=i→l[j]?=some x→l[i]?=some y→nb x y):HeapOk l:=fun j x y hj hx hy=>by
  by_cases e:(j - 1) / 2=i
  · exact hi j x y hj e hx (by rw [← e];exact hy)
  · exact h.1 j x y hj e hx hy
theorem Oh {l:List QEn} (h:HeapOk l) {e:QEn} (he:l[0]?=some e):∀ x∈l,nb x e:=by
  have key:∀ (n j:Nat) x,j≤n→l[j]?=some x→nb x e:=by
    intro n
    induction n with
    | zero =>
      intro j x hj hx
      have hj0:j=0:=by omega
      rw [hj0,he] at hx
      rw [← Option.some.inj hx]
      exact Kz _
    | succ n ih =>
      intro j x hj hx
      by_cases h0:j=0
      · exact ih j x (by omega) hx
      · obtain ⟨y,hy⟩:=AF (l:=l) (k:=(j - 1) / 2) (by have:=AD hx;omega)
        exact Ie (h j x y (by omega) hx hy) (ih ((j - 1) / 2) y (by omega) hy)
  intro x hx
  obtain ⟨j,hj⟩:=List.getElem?_of_mem hx
  exact key j j x (by omega) hj
end
section
set_option linter.unusedVariables false
open Go Go.RowKit
def lle (c k c' k':Int):Prop:=c < c'∨(c=c'∧k≤k')
instance (c k c' k':Int):Decidable (lle c k c' k'):=by unfold lle;infer_instance
theorem Oi {a b c d e f:Int} (h1:lle a b c d) (h2:lle c d e f):lle a b e f:=by unfold lle at *;omega
theorem HM (a b:Int):lle a b a b:=by unfold lle;omega
def upd {α:Type} (f:Nat→α) (m:Nat) (x:α):Nat→α:=fun j=>if j=m then x else f j
theorem Bl {α:Type} (f:Nat→α) (m:Nat) (x:α):upd f m x m=x:=if_pos rfl
theorem Be {α:Type} {f:Nat→α} {m:Nat} {x:α} {j:Nat} (h:j≠m):upd f m x j=f j:=if_neg h
inductive Lx (S:Nat→Prop) (A:Nat→List (Nat×Int)):Nat→Int→Int→Prop
  | src {i:Nat}:S i→Lx S A i 0 0
  | step {i:Nat} {c k:Int} {j:Nat} {w:Int}:Lx S A i c k→(j,w)∈A i→Lx S A j (c + w) (k + 1)
theorem Lx.mono {S S':Nat→Prop} {A:Nat→List (Nat×Int)} (hS:∀ i,S i→S' i) {i:Nat} {c k:Int} (h:Lx S A i c k):Lx S' A i c k:=by
  induction h with
  | src h=>exact .src (hS _ h)
  | step _ hm ih=>exact .step ih hm
structure ArcsOk (n:Nat) (A:Nat→List (Nat×Int)):Prop where
  to:∀ i p,p∈A i→i < n∧p.1 < n
  wt:∀ i p,p∈A i→0≤p.2∧p.2≤1048576
def sumF (g:Nat→Nat):Nat→Nat
  | 0=>0
  | n + 1=>sumF g n + g n
theorem If {g g':Nat→Nat}:∀ {n:Nat},(∀ j,j < n→g' j=g j)→sumF g' n=sumF g n
  | 0,_=>rfl
  | n + 1,h=>by
    have h1:=If (n:=n) fun j hj=>h j (by omega)
    have h2:=h n (by omega)
    simp only [sumF];omega
theorem JZ {g g':Nat→Nat} {i:Nat}:∀ {n:Nat},i < n→(∀ j,j≠i→g' j=g j)→sumF g' n + g i=sumF g n + g' i
  | 0,h,_=>by omega
  | n + 1,h,he=>by
    by_cases e:i=n
    · subst e
      have:=If (g:=g) (g':=g') (n:=i) fun j hj=>he j (by omega)
      simp only [sumF];omega
    · have h1:=JZ (n:=n) (by omega) he
      have h2:=he n (by omega)
      simp only [sumF];omega
theorem Mo {g:Nat→Nat} {m:Nat}:∀ {n:Nat},(∀ j,j < n→g j≤m)→sumF g n≤n * m
  | 0,_=>by simp [sumF]
  | n + 1,h=>by
    have h1:=Mo (n:=n) fun j hj=>h j (by omega)
    have h2:=h n (by omega)
    simp only [sumF,Nat.succ_mul];omega
def nScan (f:Nat→Bool) (n:Nat):Nat:=sumF (fun i=>if f i=true then 1 else 0) n
def nRem (A:Nat→List (Nat×Int)) (f:Nat→Bool) (n:Nat):Nat:=sumF (fun i=>if f i=true then 0 else (A i).length) n
theorem Mp (f:Nat→Bool) (n:Nat):nScan f n≤n:=by
  have:=Mo (g:=fun i=>if f i=true then 1 else 0) (m:=1) (n:=n) fun j _=>by split<;>omega
  unfold nScan;omega
theorem Oj {f:Nat→Bool} {n i:Nat} (hi:i < n) (hf:f i=false):nScan (upd f i true) n=nScan f n + 1:=by
  have:=JZ (g:=fun i=>if f i=true then 1 else 0) (g':=fun j=>if upd f i true j=true then 1 else 0) hi fun j hj=>by rw [Be hj]
  rw [Bl,if_pos rfl,hf,if_neg (by simp)] at this
  unfold nScan;omega
theorem Pc {A:Nat→List (Nat×Int)} {f:Nat→Bool} {n i:Nat} (hi:i < n) (hf:f i=false):nRem A (upd f i true) n + (A i).length=nRem A f n:=by
  have:=JZ (g:=fun i=>if f i=true then 0 else (A i).length) (g':=fun j=>if upd f i true j=true then 0 else (A j).length) hi fun j hj=>by rw [Be hj]
  rw [Bl,if_pos rfl,hf,if_neg (by simp)] at this
  unfold nRem;omega
structure DjI (n:Nat) (A:Nat→List (Nat×Int)) (S:Nat→Prop) (D:Nat→Nat×Int→Prop) (d k:Nat→Int) (f:Nat→Bool) (hp:List QEn):Prop where
  src:∀ i,S i→i < n∧d i=0∧k i=0
  real:∀ i,d i≠Inf→Lx S A i (d i) (k i)
  bnd:∀ i,d i≠Inf→i < n∧0≤d i∧d i≤(nScan f n:Int) * 1048576∧0≤k i∧k i≤(nScan f n:Int)
  inf:∀ i,d i=Inf→k i=Inf
  ent:∀ e∈hp,∃ i:Nat,e.item=(i:Int)∧i < n∧d i≠Inf∧lle (d i) (k i) e.key e.tie
  opn:∀ i,f i=false→d i≠Inf→∃ e∈hp,e.key=d i∧e.tie=k i∧e.item=(i:Int)
  low:∀ j,f j=true→∀ e∈hp,lle (d j) (k j) e.key e.tie
  fin:∀ j,f j=true→d j≠Inf
  old:∀ (j:Nat) e,f j=true→e∈hp→e.item=(j:Int)→e.key=d j→e.tie=k j→False
  uni:hp.Pairwise (fun a b=>¬(a.key=b.key∧a.tie=b.tie∧a.item=b.item))
  rel:∀ j p,f j=true→p∈A j→D j p→d p.1≠Inf∧lle (d p.1) (k p.1) (d j + p.2) (k j + 1)
structure LexP (n:Nat) (A:Nat→List (Nat×Int)) (S:Nat→Prop) (d k:Nat→Int):Prop where
  real:∀ i,d i≠Inf→Lx S A i (d i) (k i)
  low:∀ i c q,Lx S A i c q→d i≠Inf∧lle (d i) (k i) c q
theorem Hc {hp hp':List QEn} (h:hp'.Perm hp) (hu:hp.Pairwise (fun a b=>¬(a.key=b.key∧a.tie=b.tie∧a.item=b.item))):hp'.Pairwise (fun a b=>¬(a.key=b.key∧a.tie=b.tie∧a.item=b.item)) :=
  (h.pairwise_iff fun {a b} hab hc=>hab ⟨hc.1.symm,hc.2.1.symm,hc.2.2.symm⟩).2 hu
section
variable {n : Nat} {A : Nat → List (Nat × Int)} {S : Nat → Prop} {D : Nat → Nat × Int → Prop} {d k : Nat → Int} {f : Nat → Bool} {hp hp' : List QEn} {e : QEn}
theorem Pd:DjI n A (fun _=>False) (fun _ _=>True) (fun _=>Inf) (fun _=>Inf) (fun _=>false) [] :=
  ⟨fun _ h=>h.elim,fun _ h=>(h rfl).elim,fun _ h=>(h rfl).elim,fun _ _=>rfl,fun _ h=>(by simp at h),fun _ _ h=>(h rfl).elim,fun _ h=>(by simp at h),fun _ h=>(by simp at h),fun _ _ h=>(by simp at h),List.Pairwise.nil,fun _ _ h=>(by simp at h)⟩
theorem DjI.source (h:DjI n A S D d k (fun _=>false) hp) {i:Nat} (hi:i < n) (hd:d i=Inf) (hh:hp'.Perm (e :: hp)) (e1:e.key=0) (e2:e.tie=0) (e3:e.item=(i:Int)):DjI n A (fun j=>S j∨j=i) D (upd d i 0) (upd k i 0) (fun _=>false) hp':=by
  have hI:Inf≠0:=by unfold Inf;omega
  refine ⟨?_,?_,?_,?_,?_,?_,fun _ h=>(by simp at h),fun _ h=>(by simp at h),fun _ _ h=>(by simp at h),Hc hh (List.pairwise_cons.2 ⟨fun x hx hc=>?_,h.uni⟩),fun _ _ h=>(by simp at h)⟩
  · intro j hj
    by_cases e:j=i
    · subst e;exact ⟨hi,Bl ..,Bl ..⟩
    · rw [Be e,Be e];exact h.src j (hj.resolve_right e)
  · intro j hj
    by_cases e:j=i
    · subst e;rw [Bl,Bl];exact .src (.inr rfl)
    · rw [Be e] at hj;rw [Be e,Be e];exact (h.real j hj).mono fun _=>.inl
  · intro j hj
    by_cases e:j=i
    · subst e;rw [Bl,Bl];exact ⟨hi,by omega,by omega,by omega,by omega⟩
    · rw [Be e] at hj;rw [Be e,Be e];exact h.bnd j hj
  · intro j hj
    by_cases e:j=i
    · subst e;rw [Bl] at hj;exact (hI hj.symm).elim
    · rw [Be e] at hj;rw [Be e];exact h.inf j hj
  · intro x hx
    rcases List.mem_cons.1 (hh.mem_iff.1 hx) with rfl|hx
    · exact ⟨i,e3,hi,by rw [Bl];exact hI.symm,by rw [Bl,Bl,e1,e2];exact HM _ _⟩
    · obtain ⟨j,a,b,c,g⟩:=h.ent x hx
      have e:j≠i:=fun e=>c (by rw [e];exact hd)
      exact ⟨j,a,b,by rw [Be e];exact c,by rw [Be e,Be e];exact g⟩
  · intro j _ hj
    by_cases e:j=i
    · subst e;exact ⟨_,hh.mem_iff.2 List.mem_cons_self,by rw [Bl];exact e1,by rw [Bl];exact e2,e3⟩
    · rw [Be e] at hj
      obtain ⟨x,m,r⟩:=h.opn j rfl hj
      exact ⟨x,hh.mem_iff.2 (List.mem_cons_of_mem _ m),by rw [Be e,Be e];exact r⟩
  · obtain ⟨j,a,_,c,_⟩:=h.ent x hx
    have:j=i:=by omega
    subst this
    exact c hd
theorem DjI.drop (h:DjI n A S D d k f hp) (hh:hp.Perm (e :: hp')) {i:Nat} (hi:e.item=(i:Int)) (hd:¬(e.key=d i∧e.tie=k i)):DjI n A S D d k f hp' :=
  { h with
    ent:=fun x hx=>h.ent x (hh.mem_iff.2 (List.mem_cons_of_mem _ hx))
    opn := fun j hj hc=>by
      obtain ⟨x,m,a,b,c⟩:=h.opn j hj hc
      rcases List.mem_cons.1 (hh.mem_iff.1 m) with rfl|m
      · have:j=i:=by omega
        subst this
        exact (hd ⟨a,b⟩).elim
      · exact ⟨x,m,a,b,c⟩
    low:=fun j hj x hx=>h.low j hj x (hh.mem_iff.2 (List.mem_cons_of_mem _ hx))
    old:=fun j x hj hx=>h.old j x hj (hh.mem_iff.2 (List.mem_cons_of_mem _ hx))
    uni:=(List.pairwise_cons.1 (Hc hh.symm h.uni)).2 }
theorem DjI.mark (h:DjI n A S (fun _ _=>True) d k f hp) (hh:hp.Perm (e :: hp')) (hmin:∀ x∈hp,nb x e) {i:Nat} (hi:e.item=(i:Int)) (h1:e.key=d i) (h2:e.tie=k i) :
    f i=false∧i < n∧d i≠Inf∧nScan (upd f i true) n=nScan f n + 1∧nRem A (upd f i true) n + (A i).length=nRem A f n∧(∀ j,upd f i true j=true→lle (d j) (k j) (d i) (k i))∧DjI n A S (fun j _=>j≠i) d k (upd f i true) hp':=by
  have he:e∈hp:=hh.mem_iff.2 List.mem_cons_self
  have hsub:∀ x,x∈hp'→x∈hp:=fun x hx=>hh.mem_iff.2 (List.mem_cons_of_mem _ hx)
  obtain ⟨i',a,b,c,_⟩:=h.ent e he
  have e0:i'=i:=by omega
  subst e0
  have hf:f i'=false:=by
    cases hb:f i' with
    | false=>rfl
    | true=>exact (h.old i' e hb he hi h1 h2).elim
  have hn:=Oj b hf
  have hl:∀ x∈hp,lle (d i') (k i') x.key x.tie:=fun x hx=>by
    have:=hmin x hx
    rw [← h1,← h2]
    unfold nb bfr at this
    unfold lle
    omega
  have hu:∀ j,upd f i' true j=true→j=i'∨f j=true:=fun j hj=>by
    by_cases e:j=i'
    · exact .inl e
    · rw [Be e] at hj;exact .inr hj
  refine ⟨hf,b,c,hn,Pc b hf,fun j hj=>?_,⟨h.src,h.real,fun j hj=>?_,h.inf,fun x hx=>h.ent x (hsub x hx),fun j hj hc=>?_,fun j hj x hx=>?_,fun j hj=>?_,fun j x hj hx e1 e2 e3=>?_,(List.pairwise_cons.1 (Hc hh.symm h.uni)).2,fun j p hj hp hne=>?_⟩⟩
  · rcases hu j hj with rfl|hj
    · exact HM _ _
    · have:=h.low j hj e he
      rwa [h1,h2] at this
  · have:=h.bnd j hj
    rw [hn]
    omega
  · have e:j≠i':=fun e=>by subst e;rw [Bl] at hj;cases hj
    rw [Be e] at hj
    obtain ⟨x,m,r1,r2,r3⟩:=h.opn j hj hc
    rcases List.mem_cons.1 (hh.mem_iff.1 m) with rfl|m
    · omega
    · exact ⟨x,m,r1,r2,r3⟩
  · rcases hu j hj with rfl|hj
    · exact hl x (hsub x hx)
    · exact h.low j hj x (hsub x hx)
  · rcases hu j hj with rfl|hj
    · exact c
    · exact h.fin j hj
  · rcases hu j hj with rfl|hj
    · exact (List.pairwise_cons.1 (Hc hh.symm h.uni)).1 x hx ⟨by omega,by omega,by omega⟩
    · exact h.old j x hj (hsub x hx) e1 e2 e3
  · rcases hu j hj with rfl|hj
    · exact (hne rfl).elim
    · exact h.rel j p hj hp trivial
theorem DjI.keep (h:DjI n A S D d k f hp) {D':Nat→Nat×Int→Prop} {i:Nat} {p:Nat×Int} (hD:∀ j q,D' j q→D j q∨(j=i∧q=p)) (hm:d p.1≠Inf) (hl:lle (d p.1) (k p.1) (d i + p.2) (k i + 1)):DjI n A S D' d k f hp :=
  { h with
    rel:=fun j q hj hq hd=>by
      rcases hD j q hd with hd|⟨rfl,rfl⟩
      · exact h.rel j q hj hq hd
      · exact ⟨hm,hl⟩ }
theorem DjI.better (h:DjI n A S D d k f hp) (hA:ArcsOk n A) {D':Nat→Nat×Int→Prop} {i:Nat} {p:Nat×Int} (hD:∀ j q,D' j q→D j q∨(j=i∧q=p)) (hf:f i=true) (hcur:∀ j,f j=true→lle (d j) (k j) (d i) (k i)) (hb:d i + 1048576≤(nScan f n:Int) * 1048576) (hb2:k i + 1≤(nScan f n:Int)) (hp0:p∈A i)
    (hl:¬ lle (d p.1) (k p.1) (d i + p.2) (k i + 1)) (hh:hp'.Perm (e :: hp)) (e1:e.key=d i + p.2) (e2:e.tie=k i + 1) (e3:e.item=(p.1:Int)) (hx:d i + p.2≠Inf):p.1≠i∧DjI n A S D' (upd d p.1 (d i + p.2)) (upd k p.1 (k i + 1)) f hp':=by
  obtain ⟨m,w⟩:=p
  dsimp only at *
  have hw:=hA.wt i _ hp0
  have hmn:=(hA.to i _ hp0).2
  dsimp only at hw hmn
  have hdi:=h.fin i hf
  have hbi:=h.bnd i hdi
  have hmf:∀ j,f j=true→j≠m:=fun j hj e=>by
    subst e
    have:=hcur j hj
    unfold lle at this hl
    omega
  have hmi:=hmf i hf
  refine ⟨Ne.symm hmi,fun j hj=>?_,fun j hj=>?_,fun j hj=>?_,fun j hj=>?_,fun x hx'=>?_,fun j hj hc=>?_,fun j hj x hx'=>?_,fun j hj=>?_,fun j x hj hx' f1 f2 f3=>?_,Hc hh (List.pairwise_cons.2 ⟨fun x hx' hc=>?_,h.uni⟩),fun j q hj hq hd=>?_⟩
  · obtain ⟨a,b,c⟩:=h.src j hj
    have e:j≠m:=fun e=>by subst e;unfold lle at hl;omega
    rw [Be e,Be e];exact ⟨a,b,c⟩
  · by_cases e:j=m
    · subst e;rw [Bl,Bl];exact .step (h.real i hdi) hp0
    · rw [Be e] at hj;rw [Be e,Be e];exact h.real j hj
  · by_cases e:j=m
    · subst e;rw [Bl,Bl];exact ⟨hmn,by omega,by omega,by omega,by omega⟩
    · rw [Be e] at hj;rw [Be e,Be e];exact h.bnd j hj
  · by_cases e:j=m
    · subst e;rw [Bl] at hj;exact (hx hj).elim
    · rw [Be e] at hj;rw [Be e];exact h.inf j hj
  · rcases List.mem_cons.1 (hh.mem_iff.1 hx') with rfl|hx'
    · exact ⟨m,e3,hmn,by rw [Bl];exact hx,by rw [Bl,Bl,e1,e2];exact HM _ _⟩
    · obtain ⟨j,a,b,c,g⟩:=h.ent x hx'
      by_cases e:j=m
      · subst e
        exact ⟨j,a,b,by rw [Bl];exact hx,by rw [Bl,Bl];unfold lle at *;omega⟩
      · exact ⟨j,a,b,by rw [Be e];exact c,by rw [Be e,Be e];exact g⟩
  · by_cases e:j=m
    · subst e;exact ⟨_,hh.mem_iff.2 List.mem_cons_self,by rw [Bl];exact e1,by rw [Bl];exact e2,e3⟩
    · rw [Be e] at hc
      obtain ⟨x,m,r⟩:=h.opn j hj hc
      exact ⟨x,hh.mem_iff.2 (List.mem_cons_of_mem _ m),by rw [Be e,Be e];exact r⟩
  · rw [Be (hmf j hj),Be (hmf j hj)]
    rcases List.mem_cons.1 (hh.mem_iff.1 hx') with rfl|hx'
    · have:=hcur j hj
      rw [e1,e2]
      unfold lle at *
      omega
    · exact h.low j hj x hx'
  · rw [Be (hmf j hj)];exact h.fin j hj
  · have e:=hmf j hj
    rw [Be e] at f2 f3
    rcases List.mem_cons.1 (hh.mem_iff.1 hx') with rfl|hx'
    · omega
    · exact h.old j x hj hx' f1 f2 f3
  · obtain ⟨j,a,_,c,g⟩:=h.ent x hx'
    have:j=m:=by omega
    subst this
    obtain ⟨c1,c2,c3⟩:=hc
    rw [← c1,← c2,e1,e2] at g
    exact hl g
  · have e:=hmf j hj
    rw [Be e,Be e]
    rcases hD j q hd with hd|⟨rfl,rfl⟩
    · obtain ⟨r1,r2⟩:=h.rel j q hj hq hd
      by_cases e:q.1=m
      · rw [e] at r1 r2 ⊢
        rw [Bl,Bl]
        exact ⟨hx,by unfold lle at *;omega⟩
      · rw [Be e,Be e];exact ⟨r1,r2⟩
    · dsimp only
      rw [Bl,Bl];exact ⟨hx,HM _ _⟩
theorem DjI.done (h:DjI n A S (fun _ _=>True) d k f []):LexP n A S d k:=by
  have hI:Inf≠0:=by unfold Inf;omega
  refine ⟨h.real,fun i c q hx=>?_⟩
  induction hx with
  | src hs=>obtain ⟨_,a,b⟩:=h.src _ hs;rw [a,b];exact ⟨hI.symm,HM _ _⟩
  | @step i c q j w _ hm ih =>
    have hf:f i=true:=by
      cases hb:f i with
      | true=>rfl
      | false=>obtain ⟨x,m,_⟩:=h.opn i hb ih.1;simp at m
    obtain ⟨r1,r2⟩:=h.rel i _ hf hm trivial
    refine ⟨r1,Oi r2 ?_⟩
    have:=ih.2
    unfold lle at *
    omega
end
end
section
open Go Go.RowKit
theorem Jb (x y:QEn):BV x y=some (decide (bfr x y)):=by
  unfold BV bfr
  by_cases h1:x.key=y.key
  · by_cases h2:x.tie=y.tie
    · by_cases h3:x.number < y.number<;>simp [h1,h2,h3,bnd]
    · by_cases h3:x.tie < y.tie<;>simp [h1,h2,h3,bnd]
  · by_cases h3:x.key < y.key<;>simp [h1,h3,bnd]
theorem Sc {q:Que} {i:Nat} (hi:i < q.heap.length) (hl:q.heap.length≤1000000) (h:UpI q.heap i):∃ r,CO q (i:Int)=some r∧HeapOk r.heap∧r.heap.Perm q.heap∧r.next=q.next:=by
  unfold CO
  refine Ky (fun s=>∃ i:Nat,s.1=(i:Int)∧i < s.2.heap.length∧UpI s.2.heap i∧s.2.heap.Perm q.heap∧s.2.next=q.next) (fun s=>HeapOk s.2.heap∧s.2.heap.Perm q.heap∧s.2.next=q.next) (fun s=>HeapOk s.heap∧s.heap.Perm q.heap∧s.next=q.next) (fun s=>s.1.toNat) ⟨i,rfl,hi,h,List.Perm.refl _,rfl⟩ ?_ (fun s hs=>⟨_,rfl,hs⟩) (fun s hs=>⟨_,rfl,hs⟩)
  rintro ⟨c,s⟩ ⟨i,hc,hi,hu,hp,hn⟩
  dsimp only at hc hi hu hp hn ⊢
  subst hc
  have hlen:=hp.length_eq
  by_cases h0:0 < (i:Int)
  · rw [if_pos h0,Cb (by unfold inI64;omega),Ar]
    have hq:quoI ((i:Int) - 1) 2=some (((i - 1) / 2:Nat):Int):=by
      unfold quoI;rw [if_pos (by omega)];congr 1;omega
    obtain ⟨a,ha⟩:=AF (l:=s.heap) (k:=i) hi
    obtain ⟨b,hb⟩:=AF (l:=s.heap) (k:=(i - 1) / 2) (by omega)
    rw [hq,Ar,BY,ha,Ar,BY,hb,Ar,Jb,Ar]
    by_cases hab:bfr a b
    · rw [decide_eq_true hab,Dj,Ar,Ar,Ar,BY,Int.toNat_natCast,List.getElem?_set_ne (by omega),hb,Ar,Int.toNat_natCast]
      refine .inl ⟨_,rfl,⟨(i - 1) / 2,rfl,by simp;omega,hu.step (by omega) ha hb hab,(Mn ha hb).trans hp,hn⟩,?_⟩
      dsimp only
      omega
    · rw [decide_eq_false hab,Cx]
      refine .inr (.inr ⟨_,rfl,hu.heap (.inr fun x y hx hy=>?_),hp,hn⟩)
      rw [ha] at hx
      rw [hb] at hy
      obtain rfl:=Option.some.inj hx
      obtain rfl:=Option.some.inj hy
      exact hab
  · rw [if_neg h0]
    exact .inr (.inl ⟨_,rfl,hu.heap (.inl (by omega)),hp,hn⟩)
theorem Nc {q:Que} (h:HeapOk q.heap) (hl:q.heap.length < 65536) (hn:0≤q.next∧q.next≤1000000000) (k t i:Int):∃ r,BI q k t i=some r∧r.1=⟨0⟩∧HeapOk r.2.heap∧r.2.heap.Perm (⟨k,t,i,q.next⟩ :: q.heap)∧r.2.next=q.next + 1:=by
  unfold BI
  rw [if_neg (by omega),Cy (by simp;omega) (by simp;omega),Ar,Cb (by unfold inI64;omega),Ar,Cb (by unfold inI64;simp;omega),Ar]
  have hlen:(((q.heap ++ [(⟨k,t,i,q.next⟩:QEn)]).length:Int) - 1)=((q.heap.length:Nat):Int):=by simp
  rw [hlen]
  obtain ⟨r,r1,r2,r3,r4⟩:=Sc (q:=⟨q.heap ++ [⟨k,t,i,q.next⟩],q.next + 1⟩) (i:=q.heap.length) (by simp) (by simp;omega) ⟨fun j x y hj hji hx hy=>by
    dsimp only at hx hy
    have hjl:j < q.heap.length:=by have:=AD hx;simp at this;omega
    rw [List.getElem?_append_left hjl] at hx
    rw [List.getElem?_append_left (by omega)] at hy
    exact h j x y hj hx hy,fun j x y h1 h2 h3 hx hy=>by
    dsimp only at hx
    have:=AD hx
    simp at this
    omega⟩
  rw [r1,Ar]
  exact ⟨_,rfl,rfl,r2,r3.trans (List.perm_append_comm (l₁:=q.heap) (l₂:=[_])),r4⟩
theorem Qj {q:Que} (hl:q.heap.length≤1000000) (h:DownI q.heap 0):∃ r,CA q 0=some r∧HeapOk r.heap∧r.heap.Perm q.heap∧r.next=q.next:=by
  unfold CA
  refine Ky (fun s=>∃ i:Nat,s.1=(i:Int)∧DownI s.2.heap i∧i≤s.2.heap.length∧s.2.heap.Perm q.heap∧s.2.next=q.next) (fun _=>False) (fun s=>HeapOk s.heap∧s.heap.Perm q.heap∧s.next=q.next) (fun s=>s.2.heap.length - s.1.toNat) ⟨0,rfl,h,by omega,List.Perm.refl _,rfl⟩ ?_ (fun s hs=>hs.elim) (fun s hs=>⟨_,rfl,hs⟩)
  rintro ⟨c,s⟩ ⟨i,hc,hd,hi,hp,hn⟩
  dsimp only at hc hd hi hp hn ⊢
  subst hc
  have hlen:=hp.length_eq
  rw [Cb (by unfold inI64;omega),Ar,Cb (by unfold inI64;omega),Ar]
  by_cases h1:(s.heap.length:Int)≤2 * (i:Int) + 1
  · rw [if_pos h1]
    refine .inr (.inr ⟨_,rfl,hd.heap fun j x y hj hji hx _=>?_,hp,hn⟩)
    have:=AD hx
    omega
  rw [if_neg h1]
  obtain ⟨a,ha⟩:=AF (l:=s.heap) (k:=i) (by omega)
  obtain ⟨b,hb⟩:=AF (l:=s.heap) (k:=2 * i + 1) (by omega)
  have cast1:2 * (i:Int) + 1=((2 * i + 1:Nat):Int):=by omega
  have cast2:2 * (i:Int) + 1 + 1=((2 * i + 2:Nat):Int):=by omega
  have rest:∀ (c:Nat) (d:QEn),(c=2 * i + 1∨c=2 * i + 2)→s.heap[c]?=some d→(∀ (j:Nat) x,0 < j→(j - 1) / 2=i→s.heap[j]?=some x→nb x d)→(∃ s',(bnd (atI s.heap (c:Int)) fun a138=>bnd (atI s.heap (i:Int)) fun a153=>bnd (BV a138 a153) fun q168=>if q168=true then bnd (atI s.heap (c:Int)) fun a180=>bnd (atI s.heap (i:Int)) fun a195=>bnd (atI s.heap (i:Int)) fun _=>bnd (atI (s.heap.set ((i:Int)).toNat a180) (c:Int)) fun _=>some (Ctl.next (ρ:=Que) ((c:Int),(⟨((s.heap.set ((i:Int)).toNat a180).set ((c:Int)).toNat a195),s.next⟩:Que))) else some (.ret s))=some (.next s')∧(∃ i:Nat,s'.1=(i:Int)∧DownI s'.2.heap i∧i≤s'.2.heap.length∧s'.2.heap.Perm q.heap∧s'.2.next=q.next)∧s'.2.heap.length - s'.1.toNat < s.heap.length - ((i:Int)).toNat)∨(∃ s',(bnd (atI s.heap (c:Int)) fun a138=>bnd (atI s.heap (i:Int)) fun a153=>bnd (BV a138 a153) fun q168=>if q168=true then bnd (atI s.heap (c:Int)) fun a180=>bnd (atI s.heap (i:Int)) fun a195=>bnd (atI s.heap (i:Int)) fun _=>bnd (atI (s.heap.set ((i:Int)).toNat a180) (c:Int)) fun _=>some (Ctl.next (ρ:=Que) ((c:Int),(⟨((s.heap.set ((i:Int)).toNat a180).set ((c:Int)).toNat a195),s.next⟩:Que))) else some (.ret s))=some (.brk s')∧False)∨∃ r,(bnd (atI s.heap (c:Int)) fun a138=>bnd (atI s.heap (i:Int)) fun a153=>bnd (BV a138 a153) fun q168=>if q168=true then bnd (atI s.heap (c:Int)) fun a180=>bnd (atI s.heap (i:Int)) fun a195=>bnd (atI s.heap (i:Int)) fun _=>bnd (atI (s.heap.set ((i:Int)).toNat a180) (c:Int)) fun _=>some (Ctl.next (ρ:=Que) ((c:Int),(⟨((s.heap.set ((i:Int)).toNat a180).set ((c:Int)).toNat a195),s.next⟩:Que))) else some (.ret s))=some (.ret r)∧HeapOk r.heap∧r.heap.Perm q.heap∧r.next=q.next:=by
    intro c d hc hd' hs
    have hcl:=AD hd'
    rw [BY,hd',Ar,BY,ha,Ar,Jb,Ar]
    by_cases hda:bfr d a
    · rw [decide_eq_true hda,Dj,Ar,Ar,Ar,BY,Int.toNat_natCast,List.getElem?_set_ne (by omega),hd',Ar,Int.toNat_natCast]
      refine .inl ⟨_,rfl,⟨c,rfl,hd.step hc ha hd' hda hs,by simp;omega,(Mn ha hd').trans hp,hn⟩,?_⟩
      simp
      omega
    · rw [decide_eq_false hda,Cx]
      refine .inr (.inr ⟨_,rfl,hd.heap fun j x y hj hji hx hy=>?_,hp,hn⟩)
      rw [ha] at hy
      obtain rfl:=Option.some.inj hy
      exact Ie (hs j x hj hji hx) hda
  rw [Cb (by unfold inI64;omega),Ar]
  by_cases h2:2 * (i:Int) + 1 + 1 < (s.heap.length:Int)
  · obtain ⟨d,hd'⟩:=AF (l:=s.heap) (k:=2 * i + 2) (by omega)
    rw [if_pos h2,Ar,cast2,cast1,BY,hd',Ar,BY,hb,Ar,Jb,Ar]
    by_cases hdb:bfr d b
    · rw [decide_eq_true hdb,Dj,Ar,Dj,Ar,Ar]
      refine rest (2 * i + 2) d (.inr rfl) hd' fun j x hj hji hx=>?_
      have:j=2 * i + 1∨j=2 * i + 2:=by omega
      rcases this with rfl|rfl
      · rw [hb] at hx;obtain rfl:=Option.some.inj hx;exact LJ hdb
      · rw [hd'] at hx;obtain rfl:=Option.some.inj hx;exact Kz _
    · rw [decide_eq_false hdb,Cx,Ar,Cx,Ar]
      refine rest (2 * i + 1) b (.inl rfl) hb fun j x hj hji hx=>?_
      have:j=2 * i + 1∨j=2 * i + 2:=by omega
      rcases this with rfl|rfl
      · rw [hb] at hx;obtain rfl:=Option.some.inj hx;exact Kz _
      · rw [hd'] at hx;obtain rfl:=Option.some.inj hx;exact hdb
  · rw [if_neg h2,Ar,Cx,Ar,cast1]
    refine rest (2 * i + 1) b (.inl rfl) hb fun j x hj hji hx=>?_
    have:j=2 * i + 1:=by have:=AD hx;omega
    subst this
    rw [hb] at hx;obtain rfl:=Option.some.inj hx;exact Kz _
theorem Rm {q:Que} (h:HeapOk q.heap) (h0:0 < q.heap.length) (hl:q.heap.length≤1000000):∃ r,Cr q=some r∧∃ (e:QEn) (q':Que),r=(e.key,e.tie,e.item,⟨0⟩,q')∧HeapOk q'.heap∧q.heap.Perm (e :: q'.heap)∧(∀ x∈q.heap,nb x e)∧q'.next=q.next:=by
  obtain ⟨e,he⟩:=AF (l:=q.heap) (k:=0) h0
  obtain ⟨z,hz⟩:=AF (l:=q.heap) (k:=q.heap.length - 1) (by omega)
  have at0:atI q.heap 0=some e:=by rw [show (0:Int)=((0:Nat):Int) from rfl,BY];exact he
  have cz:((q.heap.length:Int) - 1)=((q.heap.length - 1:Nat):Int):=by omega
  unfold Cr CS
  rw [if_neg (by omega),at0,Ar,Ar,if_neg (by simp),Cb (by unfold inI64;omega),Ar,cz,BY,hz,Ar,Ar]
  unfold cutI
  rw [if_pos (by simp),Ar]
  simp only [Int.toNat_zero,List.drop_zero,Int.toNat_natCast]
  have hperm:q.heap.Perm (e :: (q.heap.set 0 z).take (q.heap.length - 1)):=by
    cases hq:q.heap with
    | nil=>rw [hq] at h0;simp at h0
    | cons a tl =>
      rw [hq] at he hz
      simp at he
      subst he
      cases htl:tl.reverse with
      | nil =>
        have:tl=[]:=by simpa using htl
        subst this
        simp
      | cons w r =>
        have htl':tl=r.reverse ++ [w]:=by have:=congrArg List.reverse htl;simpa using this
        subst htl'
        simp at hz
        subst hz
        simp
  obtain ⟨r,r1,r2,r3,r4⟩:=Qj (q:=⟨(q.heap.set 0 z).take (q.heap.length - 1),q.next⟩) (by simp;omega) ⟨fun j x y hj hjp hx hy=>by
    dsimp only at hx hy
    have hx':=Ja hx
    have hy':=Ja hy
    rw [List.getElem?_set_ne (by omega)] at hx' hy'
    exact h j x y hj hx' hy',fun j x y h1=>by omega⟩
  rw [r1,Ar]
  exact ⟨_,rfl,e,r,rfl,r2,hperm.trans (List.Perm.cons _ r3.symm),Oh h he,r4⟩
end
section
set_option linter.unusedVariables false
set_option linter.unusedSimpArgs false
open Go Go.RowKit
def gI (l:List Int) (i:Nat):Int:=(l[i]?).getD Inf
theorem Rn {l:List Int} {i:Nat} (h:i < l.length):l[i]?=some (gI l i):=by unfold gI;rw [List.getElem?_eq_getElem h];rfl
theorem FS {l:List Int} {m:Nat} {x:Int} (h:m < l.length):gI (l.set m x)=upd (gI l) m x:=by
  funext j
  unfold gI upd
  by_cases e:j=m
  · subst e;rw [if_pos rfl,List.getElem?_set_self h];rfl
  · rw [if_neg e,List.getElem?_set_ne (Ne.symm e)]
theorem Jt {l:List Int} {i:Nat} (h:i < l.length):atI l (i:Int)=some (gI l i):=by rw [BY,Rn h]
theorem Ol (n:Nat):gI (List.replicate n Inf)=fun _=>Inf:=by
  funext j
  unfold gI
  rw [List.getElem?_replicate]
  split<;>rfl
def arcA (rows:List (List Arc)) (i:Nat):List (Nat×Int):=((rows[i]?).getD []).map fun a=>(a.dst.toNat,a.weight)
abbrev LQ:=List Int×List Int×Que
noncomputable def shIn (x0:List (List Arc)) (c k:Int):Arc→LQ→Option (Ctl LQ (Ctl LQ (List Int×List Int))):=fun a s=>bnd (chkI (c + a.weight)) fun n1=>bnd (chkI (k + 1)) fun n2=>bnd (bnd (atI s.1 a.dst) fun a385=>if a385 < n1 then (some true) else (bnd (atI s.1 a.dst) fun a398=>if n1=a398 then (bnd (atI s.2.1 a.dst) fun a411=>if a411≤n2 then (some true) else (some false)) else (some false)):Option Bool) fun y381=>if y381=true then (some (.next (s.1,s.2.1,s.2.2))) else (bnd (atI s.1 a.dst) fun _=>bnd (atI s.2.1 a.dst) fun _=>bnd (BI s.2.2 n1 n2 a.dst) fun q457=>if q457.1.n≠0 then (bnd (DE x0 (s.1.set (a.dst:Int).toNat n1) (s.2.1.set (a.dst:Int).toNat n2)) fun q472=>some (.ret (.ret (q472.1,q472.2)))) else (some (.next ((s.1.set (a.dst:Int).toNat n1),(s.2.1.set (a.dst:Int).toNat n2),q457.2))))
noncomputable def shF (x0:List (List Arc)):LQ→Option (Ctl LQ (List Int×List Int)):=fun s226=>bnd (CG s226.2.2) fun q249=>if 0 < q249 then (bnd (Cr s226.2.2) fun q260=>if q260.2.2.2.1.n≠0 then (some (.brk (s226.1,s226.2.1,q260.2.2.2.2))) else (bnd (bnd (atI s226.1 q260.2.2.1) fun a285=>if q260.1≠a285 then (some true) else (bnd (atI s226.2.1 q260.2.2.1) fun a298=>if q260.2.1≠a298 then (some true) else (some false)):Option Bool) fun y281=>if y281=true then (some (.next (s226.1,s226.2.1,q260.2.2.2.2))) else (bnd (atI x0 q260.2.2.1) fun a316=>bnd (rng (ρ:=Ctl LQ ((List Int)×(List Int))) (fun (_:Nat) (a338:Arc) (s335:LQ)=>shIn x0 q260.1 q260.2.1 a338 s335) a316 0 (s226.1,s226.2.1,q260.2.2.2.2)) fun res333=>fin res333 fun (s491:LQ)=>some (.next (s491.1,s491.2.1,s491.2.2))))) else (some (.brk (s226.1,s226.2.1,s226.2.2)))
noncomputable def shE:Fin LQ (List Int×List Int)→Option (List Int×List Int):=fun res224=>fin res224 fun (s497:LQ)=>some (s497.1,s497.2.1)
noncomputable def shS:Int→LQ→Option (Ctl LQ (List Int×List Int)):=fun a152 s149=>bnd (atI s149.1 a152) fun _=>bnd (atI s149.2.1 a152) fun _=>bnd (BI s149.2.2 0 0 a152) fun q208=>some (.next ((s149.1.set (a152:Int).toNat 0),(s149.2.1.set (a152:Int).toNat 0),q208.2))
theorem Ro (x0:List (List Arc)) (x1:List Int):BB x0 x1=bnd (mkI 8 (0:Int) (x0.length:Int)) fun u7=>bnd (mkI 8 (0:Int) (x0.length:Int)) fun u9=>bnd (some (u7,u9):Option ((List Int)×(List Int))) fun y11=>bnd (rngN (ρ:=(List Int)×(List Int)) (fun (k77:Nat) (s75:(List Int)×(List Int))=>bnd (s75.1[k77]?) fun a104=>bnd (s75.2[k77]?) fun a116=>some (.next ((s75.1.set k77 1125899906842624),(s75.2.set k77 1125899906842624)))) y11.1.length (y11.1,y11.2)) fun res73=>fin res73 fun (s132:(List Int)×(List Int))=>bnd (DR) fun q134=>bnd q134 fun o144=>bnd (rng (ρ:=(List Int)×(List Int)) (fun (_:Nat) (a152:Int) (s149:LQ)=>shS a152 s149) x1 0 (s132.1,s132.2,o144)) fun res147=>fin res147 fun (s222:LQ)=>bnd (lop (shF x0) (s222.1,s222.2.1,s222.2.2)) shE:=rfl
structure ShI (n:Nat) (A:Nat→List (Nat×Int)) (S:Nat→Prop) (D:Nat→Nat×Int→Prop) (f:Nat→Bool) (s:LQ):Prop where
  dj:DjI n A S D (gI s.1) (gI s.2.1) f s.2.2.heap
  l1:s.1.length=n
  l2:s.2.1.length=n
  hp:HeapOk s.2.2.heap
structure RowsOk (n:Nat) (rows:List (List Arc)):Prop where
  len:rows.length=n
  few:n≤600
  ok:∀ (i:Nat) r a,rows[i]?=some r→a∈r→0≤a.dst∧a.dst < (n:Int)∧0≤a.weight∧a.weight≤1048576
section
variable {n : Nat} {rows : List (List Arc)} {S : Nat → Prop} {D : Nat → Nat × Int → Prop} {f : Nat → Bool} {s : LQ}
theorem RowsOk.arcs (h:RowsOk n rows):ArcsOk n (arcA rows):=by
  have key:∀ i p,p∈arcA rows i→∃ r a,rows[i]?=some r∧a∈r∧p=(a.dst.toNat,a.weight):=fun i p hp=>by
    unfold arcA at hp
    cases hr:rows[i]? with
    | none=>rw [hr] at hp;simp at hp
    | some r =>
      rw [hr] at hp
      obtain ⟨a,ha,rfl⟩:=List.mem_map.1 hp
      exact ⟨r,a,rfl,ha,rfl⟩
  refine ⟨fun i p hp=>?_,fun i p hp=>?_⟩
  · obtain ⟨r,a,h1,h2,rfl⟩:=key i p hp
    have:=h.ok i r a h1 h2
    have hl:=AD h1
    rw [h.len] at hl
    exact ⟨hl,by dsimp only;omega⟩
  · obtain ⟨r,a,h1,h2,rfl⟩:=key i p hp
    have:=h.ok i r a h1 h2
    exact ⟨by dsimp only;omega,by dsimp only;omega⟩
theorem Rq (h:RowsOk n rows) {i:Nat} {row:List Arc} (hr:rows[i]?=some row) {m:Nat} {a:Arc} (ha:row[m]?=some a) (hI:ShI n (arcA rows) S (fun j p=>j≠i∨p∈(arcA rows i).take m) f s) {c k:Int} (hc:gI s.1 i=c) (hk:gI s.2.1 i=k) (hf:f i=true)
    (hcur:∀ j,f j=true→lle (gI s.1 j) (gI s.2.1 j) c k) (hb:c + 1048576≤(nScan f n:Int) * 1048576) (hb2:k + 1≤(nScan f n:Int)) (hl:s.2.2.heap.length < 65536) (hn:0≤s.2.2.next∧s.2.2.next≤1000000000) :
    ∃ s',shIn rows c k a s=some (.next s')∧ShI n (arcA rows) S (fun j p=>j≠i∨p∈(arcA rows i).take (m + 1)) f s'∧gI s'.1 i=c∧gI s'.2.1 i=k∧(∀ j,f j=true→lle (gI s'.1 j) (gI s'.2.1 j) c k)∧s'.2.2.heap.length≤s.2.2.heap.length + 1∧s.2.2.next≤s'.2.2.next∧s'.2.2.next≤s.2.2.next + 1:=by
  obtain ⟨dl,kl,q⟩:=s
  obtain ⟨hD,h1,h2,h3⟩:=hI
  dsimp only at *
  have hAm:(arcA rows i)[m]?=some (a.dst.toNat,a.weight):=by unfold arcA;rw [hr];simp [ha]
  have hmem:=List.mem_of_getElem? hAm
  have hok:=h.ok i row a hr (List.mem_of_getElem? ha)
  have hA:=h.arcs
  have hns:=Mp f n
  have hfew:=h.few
  have hdi:=hD.fin i hf
  have hbi:=hD.bnd i hdi
  rw [hc,hk] at hbi
  obtain ⟨j,hj⟩:∃ j:Nat,a.dst=(j:Int):=⟨a.dst.toNat,by omega⟩
  have hjn:j < n:=by omega
  have hDD:∀ u v,(u≠i∨v∈(arcA rows i).take (m + 1))→(u≠i∨v∈(arcA rows i).take m)∨(u=i∧v=(j,a.weight)):=fun u v hv=>by
    rcases hv with hv|hv
    · exact .inl (.inl hv)
    · rcases (Hb hAm).1 hv with hv|hv
      · exact .inl (.inr hv)
      · by_cases e:u=i
        · exact .inr ⟨e,by rw [hv,hj];rfl⟩
        · exact .inl (.inl e)
  have hmem':(j,a.weight)∈arcA rows i:=by rw [hj] at hmem;exact hmem
  unfold shIn
  dsimp only
  have hwc:c + a.weight < Inf:=by unfold Inf;omega
  have hr1:inI64 (c + a.weight):=by unfold inI64;unfold Inf at hwc;omega
  have hr2:inI64 (k + 1):=by unfold inI64;omega
  rw [Cb hr1,Ar,Cb hr2,Ar,hj,Jt (by omega:j < dl.length),Ar,Ar,Jt (by omega:j < kl.length),Ar]
  by_cases hle:lle (gI dl j) (gI kl j) (c + a.weight) (k + 1)
  · have e:(if gI dl j < c + a.weight then some true else if c + a.weight=gI dl j then if gI kl j≤k + 1 then some true else some false else some false)=some true:=by
      unfold lle at hle
      by_cases e1:gI dl j < c + a.weight
      · rw [if_pos e1]
      · rw [if_neg e1,if_pos (by omega),if_pos (by omega)]
    rw [e,Ar,Dj]
    refine ⟨_,rfl,⟨?_,h1,h2,h3⟩,hc,hk,hcur,by dsimp only;omega,by dsimp only;omega,by dsimp only;omega⟩
    exact hD.keep hDD (by unfold lle at hle;dsimp only;omega) (by rw [hc,hk];exact hle)
  · have e:(if gI dl j < c + a.weight then some true else if c + a.weight=gI dl j then if gI kl j≤k + 1 then some true else some false else some false)=some false:=by
      unfold lle at hle
      rw [if_neg (by omega)]
      by_cases e1:c + a.weight=gI dl j
      · rw [if_pos e1,if_neg (by omega)]
      · rw [if_neg e1]
    obtain ⟨r,p1,p2,p3,p4,p5⟩:=Nc h3 hl hn (c + a.weight) (k + 1) (j:Int)
    rw [e,Ar,Cx,p1,Ar,Ar,Ar,p2,if_neg (by decide),Int.toNat_natCast]
    obtain ⟨b1,b2⟩:=hD.better hA (D':=fun u v=>u≠i∨v∈(arcA rows i).take (m + 1)) hDD hf (by rw [hc,hk];exact hcur) (by rw [hc];exact hb) (by rw [hk];exact hb2) hmem' (by rw [hc,hk];exact hle) p4 (by dsimp only;rw [hc]) (by dsimp only;rw [hk]) rfl (by rw [hc];omega)
    dsimp only at b1 b2
    rw [hc,hk,← FS (by omega),← FS (by omega)] at b2
    have hij:i≠j:=fun e=>b1 e.symm
    refine ⟨_,rfl,⟨b2,by simp [h1],by simp [h2],p3⟩,?_,?_,?_,?_,?_,?_⟩
    · dsimp only;rw [FS (by omega),Be hij];exact hc
    · dsimp only;rw [FS (by omega),Be hij];exact hk
    · intro u hu
      dsimp only
      have hcu:=hcur u hu
      rw [FS (by omega),FS (by omega)]
      have hne:u≠j:=fun e=>by subst e;unfold lle at hcu hle;omega
      rw [Be hne,Be hne];exact hcu
    · have:=p4.length_eq;simp at this;dsimp only;omega
    · dsimp only;omega
    · dsimp only;omega
theorem KP (h:RowsOk n rows):∀ (N:Nat) (s:LQ) (f:Nat→Bool),ShI n (arcA rows) S (fun _ _=>True) f s→s.2.2.heap.length + nRem (arcA rows) f n≤60000→0≤s.2.2.next→s.2.2.next + nRem (arcA rows) f n≤60000→s.2.2.heap.length + nRem (arcA rows) f n < N →
    ∃ s',lop (shF rows) s=some (.done s')∧s'.1.length=n∧s'.2.1.length=n∧LexP n (arcA rows) S (gI s'.1) (gI s'.2.1)∧(∀ i,gI s'.1 i=Inf→gI s'.2.1 i=Inf)∧∀ i,gI s'.1 i≠Inf→i < n∧0≤gI s'.1 i∧gI s'.1 i≤600 * 1048576∧0≤gI s'.2.1 i∧gI s'.2.1 i≤600
  | 0,_,_,_,_,_,_,h0=>absurd h0 (by omega)
  | N + 1,(dl,kl,q),f,hI,hm,hn0,hn1,h0=>by
    obtain ⟨hD,h1,h2,h3⟩:=hI
    dsimp only at *
    rw [GW]
    unfold shF
    have hlen:CG q=some (q.heap.length:Int):=rfl
    dsimp only
    rw [hlen,Ar]
    by_cases hz:q.heap.length=0
    · rw [if_neg (by omega)]
      have hnil:q.heap=[]:=List.length_eq_zero_iff.1 hz
      rw [hnil] at hD
      refine ⟨_,rfl,h1,h2,hD.done,hD.inf,fun i hi=>?_⟩
      have:=hD.bnd i hi
      have hns:=Mp f n
      have:=h.few
      dsimp only at *
      omega
    · rw [if_pos (by omega)]
      obtain ⟨r,r1,e,q',rfl,q1,q2,q3,q4⟩:=Rm h3 (by omega) (by omega)
      rw [r1,Ar]
      dsimp only
      rw [if_neg (by decide)]
      obtain ⟨i,hi,hin,hdi,_⟩:=hD.ent e (q2.mem_iff.2 List.mem_cons_self)
      have hql:=q2.length_eq
      rw [List.length_cons] at hql
      rw [hi,Jt (by omega),Ar,Jt (by omega),Ar]
      by_cases hs:e.key=gI dl i∧e.tie=gI kl i
      · rw [if_neg (by simp [hs.1]),if_neg (by simp [hs.2]),Ar,Cx]
        obtain ⟨m1,m2,m3,m4,m5,m6,m7⟩:=hD.mark q2 q3 hi hs.1 hs.2
        obtain ⟨row,hrow⟩:=AF (l:=rows) (k:=i) (by rw [h.len];exact m2)
        rw [BY,hrow,Ar]
        have hAl:(arcA rows i).length=row.length:=by unfold arcA;rw [hrow];simp
        have hbi:=hD.bnd i m3
        obtain ⟨s',s1,s2,s3,s4,s5,s6,s7,s8⟩:=Fg (ρ:=Ctl LQ (List Int×List Int)) (f:=fun (_:Nat) (a338:Arc) (s335:LQ)=>shIn rows e.key e.tie a338 s335) (xs:=row) (s₀:=(dl,kl,q'))
          (fun m s=>ShI n (arcA rows) S (fun j p=>j≠i∨p∈(arcA rows i).take m) (upd f i true) s∧gI s.1 i=e.key∧gI s.2.1 i=e.tie∧(∀ j,upd f i true j=true→lle (gI s.1 j) (gI s.2.1 j) e.key e.tie)∧s.2.2.heap.length≤q'.heap.length + m∧q'.next≤s.2.2.next∧s.2.2.next≤q'.next + m)
          ⟨⟨{ m7 with rel:=fun j p hj hp hd=>m7.rel j p hj hp (hd.resolve_right (by simp)) },h1,h2,q1⟩,hs.1.symm,hs.2.symm,fun j hj=>by rw [hs.1,hs.2];exact m6 j hj,by simp,by simp,by simp⟩
          (fun m a s hma hI=>by
            obtain ⟨i1,i2,i3,i4,i5,i6,i7⟩:=hI
            have hml:=AD hma
            obtain ⟨s',t1,t2,t3,t4,t5,t6,t7,t8⟩:=Rq h hrow hma i1 i2 i3 (Bl ..) i4 (by rw [m4,hs.1];omega) (by rw [m4,hs.2];omega) (by omega) ⟨by omega,by omega⟩
            exact ⟨s',t1,t2,t3,t4,t5,by omega,by omega,by omega⟩)
        rw [s1,Ar,Ci]
        dsimp only at s2 s6 s7 s8 ⊢
        refine KP h N (s'.1,s'.2.1,s'.2.2) (upd f i true) ⟨{ s2.dj with rel:=fun j p hj hp _=>s2.dj.rel j p hj hp ?_ },s2.l1,s2.l2,s2.hp⟩ ?_ ?_ ?_ ?_
        · by_cases ej:j=i
          · subst ej;exact .inr (by rw [List.take_of_length_le (by omega)];exact hp)
          · exact .inl ej
        all_goals dsimp only;omega
      · have e2:(if e.key≠gI dl i then some true else if e.tie≠gI kl i then some true else some false)=some true:=by
          by_cases e1:e.key=gI dl i
          · rw [if_neg (by simp [e1]),if_pos (fun hh=>hs ⟨e1,hh⟩)]
          · rw [if_pos e1]
        rw [e2,Ar,Dj]
        refine KP h N (dl,kl,q') f ⟨hD.drop q2 hi hs,h1,h2,q1⟩ ?_ ?_ ?_ ?_
        all_goals dsimp only;omega
theorem Qk {n:Nat} (hn:n≤1000000):rngN (ρ:=(List Int)×(List Int)) (fun (k77:Nat) (s75:(List Int)×(List Int))=>bnd (s75.1[k77]?) fun a104=>bnd (s75.2[k77]?) fun a116=>some (.next ((s75.1.set k77 1125899906842624),(s75.2.set k77 1125899906842624)))) n (List.replicate n (0:Int),List.replicate n (0:Int))=some (.done (List.replicate n Inf,List.replicate n Inf)):=by
  have key:∀ k,k < n→(List.replicate k Inf ++ List.replicate (n - k) 0)[k]?=some 0∧(List.replicate k Inf ++ List.replicate (n - k) 0).set k 1125899906842624=List.replicate (k + 1) Inf ++ List.replicate (n - (k + 1)) 0:=fun k hk=>by
    refine ⟨by rw [List.getElem?_append_right (by simp),List.getElem?_replicate,if_pos (by simp;omega)],?_⟩
    apply List.ext_getElem?
    intro j
    rcases Nat.lt_trichotomy j k with h|h|h
    · rw [List.getElem?_set_ne (by omega),List.getElem?_append_left (by simp;omega),List.getElem?_append_left (by simp;omega)]
      rw [List.getElem?_replicate,List.getElem?_replicate,if_pos (by omega),if_pos (by omega)]
    · subst h
      rw [List.getElem?_set_self (by simp;omega),List.getElem?_append_left (by simp)]
      simp [Inf]
    · rw [List.getElem?_set_ne (by omega),List.getElem?_append_right (by simp;omega),List.getElem?_append_right (by simp;omega)]
      simp only [List.length_replicate,List.getElem?_replicate]
      by_cases hj:j < n
      · rw [if_pos (by omega),if_pos (by omega)]
      · rw [if_neg (by omega),if_neg (by omega)]
  rw [Lp (fun k=>(List.replicate k Inf ++ List.replicate (n - k) 0,List.replicate k Inf ++ List.replicate (n - k) 0)) (by simp) (fun k hk=>?_)]
  · simp
  · obtain ⟨e1,e2⟩:=key k hk
    dsimp only
    rw [e1,Ar,Ar,e2]
theorem JI (h:RowsOk n rows) (hT:nRem (arcA rows) (fun _=>false) n≤50000) {src:List Int} (hs:∀ x∈src,0≤x∧x < (n:Int)) (hsn:src.Nodup) (hsl:src.length≤1000) :
    ∃ d k,BB rows src=some (d,k)∧d.length=n∧k.length=n∧LexP n (arcA rows) (fun i=>(i:Int)∈src) (gI d) (gI k)∧(∀ i,gI d i=Inf→gI k i=Inf)∧∀ i,gI d i≠Inf→i < n∧0≤gI d i∧gI d i≤600 * 1048576∧0≤gI k i∧gI k i≤600:=by
  have hfew:=h.few
  rw [Ro,h.len,HF (by omega) (by omega),Ar,Ar,Ar]
  dsimp only
  rw [List.length_replicate,Qk (by omega),Ar,Ci]
  obtain ⟨q0,hq0,hh0,hn0⟩:∃ q0:Que,DR=some (some q0)∧q0.heap=[]∧q0.next=0:=⟨⟨[],0⟩,rfl,rfl,rfl⟩
  rw [hq0,Ar,Ar]
  obtain ⟨s1,e1,e2,e3,e4,e5⟩:=Fg (ρ:=(List Int)×(List Int)) (f:=fun (_:Nat) (a152:Int) (s149:LQ)=>shS a152 s149) (xs:=src) (s₀:=((List.replicate n Inf,List.replicate n Inf).1,(List.replicate n Inf,List.replicate n Inf).2,q0))
    (fun m s=>ShI n (arcA rows) (fun j=>(j:Int)∈src.take m) (fun _ _=>True) (fun _=>false) s∧(∀ j:Nat,¬ (j:Int)∈src.take m→gI s.1 j=Inf)∧s.2.2.heap.length=m∧s.2.2.next=(m:Int))
    ⟨⟨by dsimp only;rw [Ol,hh0];simpa using Pd,by simp,by simp,by dsimp only;rw [hh0];intro j x y _ hx;simp at hx⟩,fun j _=>by dsimp only;rw [Ol],by dsimp only;rw [hh0];rfl,by dsimp only;rw [hn0];rfl⟩
    (fun m x s hx hI=>by
      obtain ⟨⟨hD,h1,h2,h3⟩,hinf,hl,hnx⟩:=hI
      obtain ⟨dl,kl,q⟩:=s
      dsimp only at *
      have hm:=AD hx
      obtain ⟨x0,x1⟩:=hs x (List.mem_of_getElem? hx)
      obtain ⟨j,rfl⟩:∃ j:Nat,x=(j:Int):=⟨x.toNat,by omega⟩
      have hnot:¬ (j:Int)∈src.take m:=fun hh=>by
        obtain ⟨i,hi⟩:=List.getElem?_of_mem hh
        have hi1:=AD hi
        rw [List.length_take] at hi1
        replace hi1:i < m:=by omega
        have hi2:=Ja hi
        obtain ⟨b1,c1⟩:=List.getElem?_eq_some_iff.1 hi2
        obtain ⟨b2,c2⟩:=List.getElem?_eq_some_iff.1 hx
        have:=(List.pairwise_iff_getElem.1 hsn) i m b1 b2 hi1
        exact this (by rw [c1,c2])
      obtain ⟨r,p1,p2,p3,p4,p5⟩:=Nc (q:=q) h3 (by omega) (by omega) 0 0 (j:Int)
      unfold shS
      dsimp only
      rw [Jt (by omega),Ar,Jt (by omega),Ar,p1,Ar,Int.toNat_natCast]
      have hsrc:=hD.source (by omega) (hinf j hnot) p4 rfl rfl rfl
      rw [← FS (by omega),← FS (by omega)] at hsrc
      refine ⟨_,rfl,⟨?_,by simp [h1],by simp [h2],p3⟩,?_,?_,?_⟩
      · have e:(fun i:Nat=>(i:Int)∈src.take (m + 1))=fun i:Nat=>(i:Int)∈src.take m∨i=j:=by
          funext i
          rw [Hb hx]
          apply propext
          constructor<;>rintro (a|a)
          · exact .inl a
          · exact .inr (by omega)
          · exact .inl a
          · exact .inr (by omega)
        rw [e];exact hsrc
      · intro i hi
        rw [Hb hx] at hi
        dsimp only
        rw [FS (by omega),Be (fun e=>hi (.inr (by omega)))]
        exact hinf i (fun hh=>hi (.inl hh))
      · have:=p4.length_eq;simp at this;dsimp only;omega
      · dsimp only;omega)
  rw [e1,Ar,Ci]
  rw [List.take_length] at e2
  obtain ⟨s2,g1,g2,g3,g4,g5,g6⟩:=KP h (s1.2.2.heap.length + nRem (arcA rows) (fun _=>false) n + 1) (s1.1,s1.2.1,s1.2.2) (fun _=>false) e2 (by dsimp only;omega) (by dsimp only;omega) (by dsimp only;omega) (by dsimp only;omega)
  rw [g1,Ar]
  exact ⟨s2.1,s2.2.1,rfl,g2,g3,g4,g5,g6⟩
end
end
section
set_option linter.unusedVariables false
set_option linter.unusedSimpArgs false
open Go Go.RowKit
def costE (t:Tsk) (e:Edj):Int:=match t.ops[e.label.toNat]? with|some o=>o.cost|none=>0
structure EdgesOk (t:Tsk) (n:Nat) (es:List Edj):Prop where
  ok:∀ e∈es,0≤e.src∧e.src < (n:Int)∧0≤e.dst∧e.dst < (n:Int)∧0≤e.label∧e.label < (t.ops.length:Int)
  few:es.length≤48000
def fwdR (t:Tsk) (es:List Edj) (i:Nat):List Arc:=(es.filter fun e=>decide (e.src=(i:Int))).map fun e=>⟨e.src,e.dst,costE t e⟩
def bwdR (t:Tsk) (es:List Edj) (i:Nat):List Arc:=(es.filter fun e=>decide (e.dst=(i:Int))).map fun e=>⟨e.dst,e.src,costE t e⟩
def fwdA (t:Tsk) (es:List Edj) (i:Nat):List (Nat×Int):=(es.filter fun e=>decide (e.src=(i:Int))).map fun e=>(e.dst.toNat,costE t e)
def bwdA (t:Tsk) (es:List Edj) (i:Nat):List (Nat×Int):=(es.filter fun e=>decide (e.dst=(i:Int))).map fun e=>(e.src.toNat,costE t e)
theorem Ka {t:Tsk} (hok:TaskOk t) {n:Nat} {es:List Edj} (h:EdgesOk t n es) {e:Edj} (he:e∈es):∃ o,atI t.ops e.label=some o∧costE t e=o.cost∧0≤costE t e∧costE t e≤1048576:=by
  obtain ⟨_,_,_,_,h1,h2⟩:=h.ok e he
  obtain ⟨j,hj⟩:∃ j:Nat,e.label=(j:Int):=⟨e.label.toNat,by omega⟩
  obtain ⟨o,ho⟩:=AF (l:=t.ops) (k:=j) (by omega)
  have hc:costE t e=o.cost:=by unfold costE;rw [hj,Int.toNat_natCast,ho]
  have:=hok.2.2.2.2.2 j o ho
  exact ⟨o,by rw [hj,BY,ho],hc,by rw [hc];exact this.1,by rw [hc];exact this.2.1⟩
structure RowsAre (n:Nat) (rows:List (List Arc)) (g:Nat→List Arc):Prop where
  len:rows.length=n
  at_:∀ i,i < n→rows[i]?=some (g i)
theorem RowsAre.congr {n:Nat} {rows:List (List Arc)} {g g':Nat→List Arc} (h:RowsAre n rows g) (he:∀ i,i < n→g i=g' i):RowsAre n rows g':=⟨h.len,fun i hi=>by rw [h.at_ i hi,he i hi]⟩
theorem RowsAre.rep (n:Nat):RowsAre n (List.replicate n []) fun _=>[]:=⟨by simp,fun i hi=>by rw [List.getElem?_replicate,if_pos hi]⟩
theorem RowsAre.set {n:Nat} {rows:List (List Arc)} {g:Nat→List Arc} (h:RowsAre n rows g) {j:Nat} (hj:j < n) (r:List Arc):RowsAre n (rows.set j r) (upd g j r):=⟨by simp [h.len],fun i hi=>by
  by_cases e:i=j
  · subst e;rw [Bl,List.getElem?_set_self (by rw [h.len];exact hi)]
  · rw [Be e,List.getElem?_set_ne (Ne.symm e)];exact h.at_ i hi⟩
theorem RowsAre.nRem_le {n:Nat} {rows:List (List Arc)} {g:Nat→List Arc} (h:RowsAre n rows g) {f:Nat→Nat} (hf:∀ i,i < n→(g i).length=f i):nRem (arcA rows) (fun _=>false) n=sumF f n:=by
  unfold nRem
  refine If fun j hj=>?_
  rw [if_neg (by simp)]
  unfold arcA
  rw [h.at_ j hj]
  simp [hf j hj]
theorem Hz {α:Type} (key:α→Int) (n:Nat):∀ (l:List α),sumF (fun i=>(l.filter fun e=>decide (key e=(i:Int))).length) n≤l.length
  | []=>by
    have:∀ n,sumF (fun i=>(([]:List α).filter fun e=>decide (key e=(i:Int))).length) n=0:=fun n=>by
      induction n with
      | zero=>rfl
      | succ n ih=>simp [sumF] at ih ⊢;exact ih
    rw [this];exact Nat.zero_le _
  | e :: l=>by
    have h:=Hz key n l
    have key2:∀ m,sumF (fun i=>((e :: l).filter fun e=>decide (key e=(i:Int))).length) m≤sumF (fun i=>(l.filter fun e=>decide (key e=(i:Int))).length) m + if 0≤key e∧key e < (m:Int) then 1 else 0:=fun m=>by
      induction m with
      | zero=>simp [sumF]
      | succ m ih =>
        simp only [sumF]
        rw [List.filter_cons]
        by_cases hk:key e=(m:Int)
        · rw [if_pos (decide_eq_true hk),List.length_cons,if_pos (by omega)]
          rw [if_neg (by omega)] at ih
          omega
        · rw [if_neg (by simp [hk])]
          by_cases hl:0≤key e∧key e < (m:Int)
          · rw [if_pos (by omega)];rw [if_pos hl] at ih;omega
          · rw [if_neg (by omega)];rw [if_neg hl] at ih;omega
    have:=key2 n
    rw [List.length_cons]
    split at this<;>omega
theorem RowsAre.ok {t:Tsk} (hok:TaskOk t) {n:Nat} (hn:n≤600) {es:List Edj} (he:EdgesOk t n es) {rows:List (List Arc)}:(RowsAre n rows (fwdR t es)→RowsOk n rows∧nRem (arcA rows) (fun _=>false) n≤es.length∧∀ i,i < n→arcA rows i=fwdA t es i) ∧
    (RowsAre n rows (bwdR t es)→RowsOk n rows∧nRem (arcA rows) (fun _=>false) n≤es.length∧∀ i,i < n→arcA rows i=bwdA t es i):=by
  refine ⟨fun h=>⟨⟨h.len,hn,fun i r a hr ha=>?_⟩,?_,fun i hi=>?_⟩,fun h=>⟨⟨h.len,hn,fun i r a hr ha=>?_⟩,?_,fun i hi=>?_⟩⟩
  · have hi:=AD hr
    rw [h.len] at hi
    rw [h.at_ i hi] at hr
    obtain rfl:=Option.some.inj hr
    obtain ⟨e,hm,rfl⟩:=List.mem_map.1 ha
    have hmem:=(List.mem_filter.1 hm).1
    obtain ⟨_,_,_,c1,c2⟩:=Ka hok he hmem
    have:=he.ok e hmem
    dsimp only;omega
  · rw [h.nRem_le (f:=fun i=>(es.filter fun e=>decide (e.src=(i:Int))).length) (fun i _=>by unfold fwdR;rw [List.length_map])]
    exact Hz (fun e:Edj=>e.src) n es
  · unfold arcA fwdA;rw [h.at_ i hi];unfold fwdR;simp
  · have hi:=AD hr
    rw [h.len] at hi
    rw [h.at_ i hi] at hr
    obtain rfl:=Option.some.inj hr
    obtain ⟨e,hm,rfl⟩:=List.mem_map.1 ha
    have hmem:=(List.mem_filter.1 hm).1
    obtain ⟨_,_,_,c1,c2⟩:=Ka hok he hmem
    have:=he.ok e hmem
    dsimp only;omega
  · rw [h.nRem_le (f:=fun i=>(es.filter fun e=>decide (e.dst=(i:Int))).length) (fun i _=>by unfold bwdR;rw [List.length_map])]
    exact Hz (fun e:Edj=>e.dst) n es
  · unfold arcA bwdA;rw [h.at_ i hi];unfold bwdR;simp
theorem Mq {t:Tsk} {n:Nat} {es:List Edj} (he:EdgesOk t n es) {i:Nat} (hi:¬ i < n):fwdA t es i=[]∧bwdA t es i=[]:=by
  unfold fwdA bwdA
  rw [List.filter_eq_nil_iff.2 fun e hm=>by have:=he.ok e hm;simp;omega,List.filter_eq_nil_iff.2 fun e hm=>by have:=he.ok e hm;simp;omega]
  exact ⟨rfl,rfl⟩
theorem Mr {n:Nat} {rows:List (List Arc)} (h:rows.length=n) {i:Nat} (hi:¬ i < n):arcA rows i=[]:=by
  unfold arcA;rw [List.getElem?_eq_none (by omega)];rfl
def goalIx (gs:List Bool):List Int:=(((List.range gs.length).filter fun i=>(gs[i]?).getD false).map fun i:Nat=>(i:Int))
theorem NA {ρ:Type} {gs:List Bool} (hl:gs.length≤1000000):rng (ρ:=ρ) (fun (k446:Nat) (a447:Bool) (s444:(List Int))=>if a447=true then (bnd (appI 8 s444 [(k446:Int)]) fun u469=>some (.next u469)) else (some (.next s444))) gs 0 ([]:List Int)=some (.done (goalIx gs)):=by
  refine En (fun m=>((List.range m).filter fun i=>(gs[i]?).getD false).map fun i:Nat=>(i:Int)) (by simp) fun m b hb=>?_
  have hm:=AD hb
  have hlen:(((List.range m).filter fun i=>(gs[i]?).getD false).map fun i:Nat=>(i:Int)).length≤m:=by
    rw [List.length_map]
    exact Nat.le_trans (List.length_filter_le _ _) (by simp)
  rw [List.range_succ,List.filter_append]
  cases b with
  | true =>
    rw [if_pos rfl,Cy (by simp at hlen ⊢;omega) (by simp at hlen ⊢;omega),Ar]
    simp [hb]
  | false=>rw [if_neg (by simp)];simp [hb]
theorem Ig {gs:List Bool} {x:Int}:x∈goalIx gs↔∃ i:Nat,x=(i:Int)∧gs[i]?=some true:=by
  unfold goalIx
  rw [List.mem_map]
  constructor
  · rintro ⟨i,hi,rfl⟩
    obtain ⟨h1,h2⟩:=List.mem_filter.1 hi
    refine ⟨i,rfl,?_⟩
    cases hg:gs[i]? with
    | none=>rw [hg] at h2;simp at h2
    | some b=>rw [hg] at h2;simp at h2;rw [h2]
  · rintro ⟨i,rfl,hi⟩
    exact ⟨i,List.mem_filter.2 ⟨List.mem_range.2 (AD hi),by rw [hi];rfl⟩,rfl⟩
theorem Ms (gs:List Bool):(goalIx gs).Nodup:=by
  unfold goalIx
  unfold List.Nodup
  rw [List.pairwise_map]
  exact ((List.nodup_range).sublist List.filter_sublist).imp fun h e=>h (by omega)
theorem NB (gs:List Bool):(goalIx gs).length≤gs.length:=by
  unfold goalIx
  rw [List.length_map]
  exact Nat.le_trans (List.length_filter_le _ _) (by simp)
noncomputable def meaF (t:Tsk):Edj→(List (List Arc))×(List (List Arc))→Option (Ctl ((List (List Arc))×(List (List Arc))) Spa):=fun a180 s177=>bnd (atI t.ops a180.label) fun a258=>bnd (atI s177.1 a180.src) fun a279=>bnd (appI 24 a279 [(⟨a180.src,a180.dst,a258.cost⟩:Arc)]) fun u304=>bnd (atI s177.1 a180.src) fun a315=>bnd (atI s177.2 a180.dst) fun a330=>bnd (appI 24 a330 [(⟨a180.dst,a180.src,a258.cost⟩:Arc)]) fun u355=>bnd (atI s177.2 a180.dst) fun a366=>some (.next ((s177.1.set (a180.src:Int).toNat u304),(s177.2.set (a180.dst:Int).toNat u355)))
theorem Ql (x0:Spa):BM x0=bnd (Bi x0.states) fun q45=>bnd (mkI 24 ([]:List Arc) q45) fun u55=>bnd (mkI 24 ([]:List Arc) q45) fun u57=>bnd (some (u55,u57):Option ((List (List Arc))×(List (List Arc)))) fun y59=>bnd (rng (ρ:=Spa) (fun (_:Nat) (a180:Edj) (s177:(List (List Arc))×(List (List Arc)))=>meaF x0.t a180 s177) x0.edges 0 (y59.1,y59.2)) fun res175=>fin res175 fun (s390:(List (List Arc))×(List (List Arc)))=>bnd (rng (ρ:=Spa) (fun (k446:Nat) (a447:Bool) (s444:(List Int))=>if a447=true then (bnd (appI 8 s444 [(k446:Int)]) fun u469=>some (.next u469)) else (some (.next s444))) x0.goals 0 ([]:List Int)) fun res442=>fin res442 fun (s485:(List Int))=>bnd (BB s390.1 ([0]:List Int)) fun q497=>bnd (BB s390.2 s485) fun q561=>some (⟨(⟨x0.t.vars,x0.t.init,x0.t.goal,x0.t.ops⟩:Tsk),x0.states,x0.edges,x0.goals,q497.1,q561.1,q561.2⟩:Spa):=rfl
theorem Om {t:Tsk} {es:List Edj} {m:Nat} {e:Edj} (he:es[m]?=some e) (i:Nat):fwdR t (es.take (m + 1)) i=fwdR t (es.take m) i ++ if e.src=(i:Int) then [⟨e.src,e.dst,costE t e⟩] else []:=by
  unfold fwdR
  rw [List.take_add_one,he,List.filter_append,List.map_append]
  by_cases h:e.src=(i:Int)
  · rw [if_pos h];simp [h]
  · rw [if_neg h];simp [h]
theorem On {t:Tsk} {es:List Edj} {m:Nat} {e:Edj} (he:es[m]?=some e) (i:Nat):bwdR t (es.take (m + 1)) i=bwdR t (es.take m) i ++ if e.dst=(i:Int) then [⟨e.dst,e.src,costE t e⟩] else []:=by
  unfold bwdR
  rw [List.take_add_one,he,List.filter_append,List.map_append]
  by_cases h:e.dst=(i:Int)
  · rw [if_pos h];simp [h]
  · rw [if_neg h];simp [h]
theorem Pe (t:Tsk) (es:List Edj) (i:Nat):(fwdR t es i).length≤es.length:=by unfold fwdR;rw [List.length_map];exact List.length_filter_le _ _
theorem Pf (t:Tsk) (es:List Edj) (i:Nat):(bwdR t es i).length≤es.length:=by unfold bwdR;rw [List.length_map];exact List.length_filter_le _ _
structure SpaOk (t:Tsk) (n:Nat) (es:List Edj) (gs:List Bool) (x:Spa):Prop where
  t_:x.t=t
  ed:x.edges=es
  go:x.goals=gs
  cl:x.costs.length=n
  dl:x.distances.length=n
  sl:x.steps.length=n
  cost:∃ k,LexP n (fwdA t es) (fun i=>i=0) (gI x.costs) k∧∀ i,gI x.costs i≠Inf→i < n∧0≤gI x.costs i∧gI x.costs i≤600 * 1048576
  dist:LexP n (bwdA t es) (fun i=>gs[i]?=some true) (gI x.distances) (gI x.steps)
  inf:∀ i,gI x.distances i=Inf→gI x.steps i=Inf
  bnd:∀ i,gI x.distances i≠Inf→i < n∧0≤gI x.distances i∧gI x.distances i≤600 * 1048576∧0≤gI x.steps i∧gI x.steps i≤600
theorem LexP.arcs {n:Nat} {A A':Nat→List (Nat×Int)} {S S':Nat→Prop} {d k:Nat→Int} (h:LexP n A S d k) (hA:A=A') (hS:S=S'):LexP n A' S' d k:=by subst hA;subst hS;exact h
theorem NC {t:Tsk} (hok:TaskOk t) {n:Nat} (hn:n≤600) (hn0:0 < n) {x:Spa} (ht:x.t=t) (hlen:x.states.entries.length=n) (he:EdgesOk t n x.edges) (hg:x.goals.length=n) :
    ∃ r,BM x=some r∧r.states=x.states∧SpaOk t n x.edges x.goals r:=by
  rw [Ql,show Bi x.states=some (x.states.entries.length:Int) from rfl,Ar,hlen,HF (by omega) (by omega),Ar,Ar,Ar,ht]
  dsimp only
  obtain ⟨s,e1,e2,e3⟩:=Fg (ρ:=Spa) (f:=fun (_:Nat) (a180:Edj) (s177:(List (List Arc))×(List (List Arc)))=>meaF t a180 s177) (xs:=x.edges) (s₀:=(List.replicate n [],List.replicate n []))
    (fun m s=>RowsAre n s.1 (fwdR t (x.edges.take m))∧RowsAre n s.2 (bwdR t (x.edges.take m))) ⟨(RowsAre.rep n).congr fun i _=>by simp [fwdR],(RowsAre.rep n).congr fun i _=>by simp [bwdR]⟩
    (fun m e s hm hI=>by
      obtain ⟨hF,hB⟩:=hI
      have hmem:=List.mem_of_getElem? hm
      obtain ⟨s1,s2,d1,d2,_,_⟩:=he.ok e hmem
      obtain ⟨o,o1,o2,_⟩:=Ka hok he hmem
      obtain ⟨i,hi⟩:∃ i:Nat,e.src=(i:Int):=⟨e.src.toNat,by omega⟩
      obtain ⟨j,hj⟩:∃ j:Nat,e.dst=(j:Int):=⟨e.dst.toNat,by omega⟩
      have hml:=AD hm
      have hfew:=he.few
      have fl:=Pe t (x.edges.take m) i
      have bl:=Pf t (x.edges.take m) j
      rw [List.length_take] at fl bl
      unfold meaF
      rw [o1,Ar,hi,hj,BY,hF.at_ i (by omega),Ar,Cy (by rw [List.length_singleton];omega) (by rw [List.length_singleton];omega),Ar,Ar,BY,hB.at_ j (by omega),Ar,Cy (by rw [List.length_singleton];omega) (by rw [List.length_singleton];omega),Ar,Ar,Int.toNat_natCast,Int.toNat_natCast]
      refine ⟨_,rfl,(hF.set (by omega) _).congr fun u _=>?_,(hB.set (by omega) _).congr fun u _=>?_⟩
      · rw [Om hm]
        by_cases hu:u=i
        · subst hu;rw [Bl,if_pos hi,o2,hi,hj]
        · rw [Be hu,if_neg (by omega),List.append_nil]
      · rw [On hm]
        by_cases hu:u=j
        · subst hu;rw [Bl,if_pos hj,o2,hi,hj]
        · rw [Be hu,if_neg (by omega),List.append_nil])
  rw [List.take_length] at e2 e3
  rw [e1,Ar,Ci,NA (by omega),Ar,Ci]
  obtain ⟨f1,f2,f3⟩:=(RowsAre.ok hok hn he).1 e2
  obtain ⟨b1,b2,b3⟩:=(RowsAre.ok hok hn he).2 e3
  have hfew:=he.few
  obtain ⟨c,k,c1,c2,_,c3,_,c4⟩:=JI f1 (by omega) (src:=[0]) (fun x hx=>by simp at hx;omega) (by simp) (by simp)
  obtain ⟨d,l,d1,d2,d3,d4,d5,d6⟩:=JI b1 (by omega) (src:=goalIx x.goals) (fun y hy=>by
    obtain ⟨i,rfl,hi⟩:=Ig.1 hy
    have:=AD hi
    omega) (Ms _) (by have:=NB x.goals;omega)
  rw [c1,Ar,d1,Ar]
  have hfA:arcA s.1=fwdA t x.edges:=funext fun i=>by
    by_cases hi:i < n
    · exact f3 i hi
    · rw [Mr e2.len hi,(Mq he hi).1]
  have hbA:arcA s.2=bwdA t x.edges:=funext fun i=>by
    by_cases hi:i < n
    · exact b3 i hi
    · rw [Mr e3.len hi,(Mq he hi).2]
  refine ⟨_,rfl,rfl,rfl,rfl,rfl,c2,d2,d3,⟨gI k,c3.arcs hfA (funext fun i=>by simp),fun i hi=>?_⟩,d4.arcs hbA (funext fun i=>propext ⟨fun hh=>?_,fun hh=>Ig.2 ⟨i,rfl,hh⟩⟩),d5,d6⟩
  · have:=c4 i hi;exact ⟨this.1,this.2.1,this.2.2.1⟩
  · obtain ⟨j,hj,hg⟩:=Ig.1 hh
    obtain rfl:i=j:=by omega
    exact hg
end
section
open Go Go.RowKit
theorem Nd {σ ρ:Type} {x:Option (Ctl σ ρ)} {I:σ→Prop} (h:∃ r,x=some r∧∃ s',r=Ctl.next s'∧I s'):∃ s',x=some (.next s')∧I s':=by
  obtain ⟨_,h1,s',rfl,h2⟩:=h
  exact ⟨s',h1,h2⟩
def FldOk (W:Nat) (f:PFd) (n:Int):Prop:=∃ k b w:Nat,f=⟨k,b,w,n⟩∧k < W∧b + w≤64∧w≤6∧n≤2 ^ w
def PkOk (vars:List Int) (p:Pkr):Prop:=p.fields.length=vars.length∧(∃ W:Nat,p.words=(W:Int)∧1≤W∧W≤vars.length + 1∧∀ (i:Nat) f n,p.fields[i]?=some f→vars[i]?=some n→FldOk W f n) ∧
  ∀ (i j:Nat) f g,i < j→p.fields[i]?=some f→p.fields[j]?=some g→f.word < g.word∨(f.word=g.word∧f.bit + f.width≤g.bit)
theorem Qm:∀ {w:Nat},w≤6→shlI 1 (w:Int)=some ((2 ^ w:Nat):Int):=by
  intro w h
  have:w=0∨w=1∨w=2∨w=3∨w=4∨w=5∨w=6:=by omega
  rcases this with rfl|rfl|rfl|rfl|rfl|rfl|rfl<;>rfl
theorem Qn {w:Nat} {n:Int} (hw:w≤6) (h:((2 ^ w:Nat):Int) < n) (hn:n≤64):w < 6:=by
  rcases Nat.lt_or_ge w 6 with hh|hh
  · exact hh
  · obtain rfl:w=6:=by omega
    simp at h;omega
def PkI (vars:List Int) (B W:Nat) (fs:List PFd):Prop:=(∀ (i:Nat) f n,fs[i]?=some f→vars[i]?=some n→FldOk W f n) ∧
  (∀ (i j:Nat) f g,i < j→fs[i]?=some f→fs[j]?=some g→f.word < g.word∨(f.word=g.word∧f.bit + f.width≤g.bit))∧∀ (i:Nat) f,fs[i]?=some f→f.word + 1 < (W:Int)∨(f.word + 1=(W:Int)∧f.bit + f.width≤(B:Int))
theorem PkI.over {vars:List Int} {B W:Nat} {fs:List PFd} (h:PkI vars B W fs):PkI vars 0 (W + 1) fs :=
  ⟨fun i f n hf hn=>by obtain ⟨k,b,w,e,e1,e2⟩:=h.1 i f n hf hn;exact ⟨k,b,w,e,by omega,e2⟩,h.2.1,fun i f hf=>by have:=h.2.2 i f hf;omega⟩
theorem DM {α:Type} {l:List α} {x y:α} {i:Nat} (h:(l ++ [x])[i]?=some y):l[i]?=some y∨(i=l.length∧y=x):=by
  rcases Nat.lt_trichotomy i l.length with hi|hi|hi
  · rw [List.getElem?_append_left hi] at h;exact .inl h
  · subst hi;simp at h;exact .inr ⟨rfl,h.symm⟩
  · rw [List.getElem?_append_right (by omega)] at h
    rw [List.getElem?_eq_none (by simp;omega)] at h
    cases h
theorem PkI.add {vars:List Int} {B W w:Nat} {fs:List PFd} {n:Int} (h:PkI vars B W fs) (hW:1≤W) (hn:vars[fs.length]?=some n) (hB:B + w≤64) (hw:w≤6) (hnw:n≤2 ^ w):PkI vars (B + w) W (fs ++ [⟨(W:Int) - 1,(B:Int),(w:Int),n⟩]):=by
  refine ⟨fun i f n' hf hn'=>?_,fun i j f g hij hf hg=>?_,fun i f hf=>?_⟩
  · rcases DM hf with hh|⟨rfl,rfl⟩
    · exact h.1 i f n' hh hn'
    · rw [hn] at hn'
      obtain rfl:=Option.some.inj hn'
      exact ⟨W - 1,B,w,by congr 1;omega,by omega,hB,hw,hnw⟩
  · rcases DM hg with hh|⟨rfl,rfl⟩
    · rcases DM hf with hk|⟨rfl,rfl⟩
      · exact h.2.1 i j f g hij hk hh
      · have:=AD hh;omega
    · rcases DM hf with hk|⟨rfl,rfl⟩
      · have:=h.2.2 i f hk
        dsimp only
        omega
      · omega
  · rcases DM hf with hh|⟨rfl,rfl⟩
    · have:=h.2.2 i f hh;omega
    · dsimp only;omega
theorem ND {vars:List Int} (hl:vars.length≤64) (hv:∀ (i:Nat) n,vars[i]?=some n→1≤n∧n≤64):∃ r,EE vars=some r∧∃ p,r=(some p,⟨0⟩)∧PkOk vars p:=by
  unfold EE
  rw [if_neg (by omega)]
  refine Gs (fun m s=>∃ B W:Nat,s.1=(B:Int)∧B≤64∧s.2.words=(W:Int)∧1≤W∧W≤m + 1∧s.2.fields.length=m∧PkI vars B W s.2.fields) (fun _=>False)
    ⟨0,1,rfl,by omega,rfl,by omega,by omega,rfl,fun i f n h=>by simp at h,fun i j f g _ h=>by simp at h,fun i f h=>by simp at h⟩ ?_ ?_ (fun q hq=>hq.elim)
  · rintro m n ⟨s1,s2⟩ hm ⟨B,W,hs1,hB,hW,hW1,hWm,hlen,hI⟩
    dsimp only at hs1 hW hlen hI
    subst hs1
    obtain ⟨hn1,hn2⟩:=hv m n hm
    have hml:=AD hm
    refine .inl (Nd ?_)
    rw [if_neg (by omega),if_neg (by omega),Ar,Cx]
    refine Ky (fun c=>∃ w:Nat,c=(w:Int)∧w≤6) (fun c=>∃ w:Nat,c=(w:Int)∧w≤6∧n≤2 ^ w) (fun _=>False) (fun c=>7 - c.toNat) ⟨0,rfl,by omega⟩ ?_ ?_ (fun q hq=>hq.elim)
    · rintro c ⟨w,rfl,hw⟩
      rw [Qm hw,Ar]
      by_cases hlt:((2 ^ w:Nat):Int) < n
      · have:=Qn hw hlt hn2
        rw [if_pos hlt,Cb (by unfold inI64;omega),Ar]
        exact .inl ⟨_,rfl,⟨w + 1,by omega,by omega⟩,by omega⟩
      · rw [if_neg hlt]
        refine .inr (.inl ⟨_,rfl,w,rfl,hw,?_⟩)
        have:((2 ^ w:Nat):Int)=(2:Int) ^ w:=by simp
        omega
    · rintro c ⟨w,rfl,hw,hnw⟩
      rw [Ci,Cb (by unfold inI64;omega),Ar]
      have fin':∀ (B' W':Nat) (q:Pkr),B' + w≤64→1≤W'→W'≤m + 2→q.words=(W':Int)→q.fields=s2.fields→PkI vars B' W' s2.fields→∃ r,(bnd (chkI (q.words - 1)) fun n133=>bnd (appI 32 q.fields [(⟨n133,(B':Int),(w:Int),n⟩:PFd)]) fun u142=>bnd (chkI ((B':Int) + (w:Int))) fun n155=>some (Ctl.next (ρ:=(Option Pkr)×Err) (n155,(⟨u142,q.words⟩:Pkr))))=some r∧∃ s',r=Ctl.next s'∧∃ B W:Nat,s'.1=(B:Int)∧B≤64∧s'.2.words=(W:Int)∧1≤W∧W≤m + 1 + 1∧s'.2.fields.length=m + 1∧PkI vars B W s'.2.fields:=by
        intro B' W' q hB' hW' hWm' hq1 hq2 hI'
        rw [hq1,hq2,Cb (by unfold inI64;omega),Ar,Cy (by simp;omega) (by simp;omega),Ar,Cb (by unfold inI64;omega),Ar]
        exact ⟨_,rfl,_,rfl,B' + w,W',by simp,hB',rfl,hW',by omega,by simp [hlen],hI'.add hW' (by rw [hlen];exact hm) hB' hw hnw⟩
      by_cases hover:64 < (B:Int) + (w:Int)
      · rw [if_pos hover]
        dsimp only
        rw [hW,Cb (by unfold inI64;omega),Ar,Ar]
        exact fin' 0 (W + 1) ⟨s2.fields,(W:Int) + 1⟩ (by omega) (by omega) (by omega) (by simp) rfl hI.over
      · rw [if_neg hover,Ar]
        exact fin' B W s2 (by omega) hW1 (by omega) hW rfl hI
  · rintro ⟨s1,s2⟩ ⟨B,W,hs1,hB,hW,hW1,hWm,hlen,hI⟩
    exact ⟨_,rfl,s2,rfl,hlen,⟨W,hW,hW1,hWm,hI.1⟩,hI.2.1⟩
def InF (f:PFd) (x:Int) (k c:Nat):Prop:=f.word=(k:Int)∧f.bit≤(c:Int)∧(c:Int) < f.bit + f.width∧x.toNat.testBit (c - f.bit.toNat)=true
def Bits (fs:List PFd) (s:List Int) (p:Nat→Prop) (ws:List U64):Prop:=∀ (k c:Nat) a,ws[k]?=some a→c < 64→(a.getLsbD c=true↔∃ (i:Nat) (f:PFd) (x:Int),p i∧fs[i]?=some f∧s[i]?=some x∧InF f x k c)
theorem ones {w:Nat} (h:w≤6):((1:U64) <<< w) - (1:U64)=BitVec.ofNat 64 (2 ^ w - 1):=by
  have:w=0∨w=1∨w=2∨w=3∨w=4∨w=5∨w=6:=by omega
  rcases this with rfl|rfl|rfl|rfl|rfl|rfl|rfl<;>rfl
theorem Mt {w b c:Nat} (hw:w≤6) (hc:c < 64):((((1:U64) <<< w) - (1:U64)) <<< b).getLsbD c=(decide (b≤c) && decide (c < b + w)):=by
  rw [ones hw,BitVec.getLsbD_shiftLeft,BitVec.getLsbD_ofNat,Nat.testBit_two_pow_sub_one]
  by_cases h1:b≤c<;>by_cases h2:c < b + w<;>simp [h1,h2,hc]<;>omega
theorem KQ {x:Int} {w j:Nat} (h0:0≤x) (h1:x < 2 ^ w) (ht:x.toNat.testBit j=true):j < w:=by
  rcases Nat.lt_or_ge j w with h|h
  · exact h
  · have h2:x.toNat < 2 ^ w:=by
      have:((2 ^ w:Nat):Int)=(2:Int) ^ w:=by simp
      omega
    rw [Nat.testBit_lt_two_pow (Nat.lt_of_lt_of_le h2 (Nat.pow_le_pow_right (by omega) h))] at ht
    cases ht
theorem PkOk.field {vars:List Int} {p:Pkr} (h:PkOk vars p) {s:List Int} (hs:StateOk vars s) {i:Nat} {f:PFd} (hf:p.fields[i]?=some f):∃ (k b w:Nat) (n x:Int),f=⟨k,b,w,n⟩∧(k:Int) < p.words∧b + w≤64∧w≤6∧s[i]?=some x∧0≤x∧x < n∧x < 2 ^ w:=by
  obtain ⟨h1,⟨W,hW,_,_,h2⟩,h3⟩:=h
  have hi:=AD hf
  obtain ⟨n,hn⟩:=AF (l:=vars) (k:=i) (by omega)
  obtain ⟨x,hx⟩:=AF (l:=s) (k:=i) (by have:=hs.1;omega)
  obtain ⟨k,b,w,e,e1,e2,e3,e4⟩:=h2 i f n hf hn
  have:=hs.2 i x n hx hn
  exact ⟨k,b,w,n,x,e,by omega,e2,e3,hx,this.1,this.2,by omega⟩
theorem PkOk.same {vars:List Int} {p:Pkr} (h:PkOk vars p) {i j:Nat} {f g:PFd} {k c:Nat} (hf:p.fields[i]?=some f) (hg:p.fields[j]?=some g) (h1:f.word=(k:Int)∧f.bit≤(c:Int)∧(c:Int) < f.bit + f.width) (h2:g.word=(k:Int)∧g.bit≤(c:Int)∧(c:Int) < g.bit + g.width):i=j:=by
  rcases Nat.lt_trichotomy i j with hh|hh|hh
  · have:=h.2.2 i j f g hh hf hg;omega
  · exact hh
  · have:=h.2.2 j i g f hh hg hf;omega
theorem Ju {vars:List Int} {p:Pkr} (h:PkOk vars p) (hl:vars.length≤64) {s:List Int} (hs:StateOk vars s):∃ r,Bz p s=some r∧r.2=⟨0⟩∧(r.1.length:Int)=p.words∧Bits p.fields s (fun _=>True) r.1:=by
  obtain ⟨W,hW,hW1,hW2,_⟩:=h.2.1
  unfold Bz
  rw [if_neg (by have:=h.1;have:=hs.1;omega),hW,HF (by omega) (by omega),Ar]
  refine Gs (fun m ws=>(ws.length:Int)=(W:Int)∧Bits p.fields s (fun i=>i < m) ws) (fun _=>False) ⟨by simp,?_⟩ ?_ ?_ (fun q hq=>hq.elim)
  · intro k c a ha _
    have:=List.eq_of_mem_replicate (List.mem_of_getElem? ha)
    subst this
    constructor
    · intro hh;simp at hh
    · rintro ⟨i,_,_,hi,_⟩;omega
  · rintro m f ws hm ⟨hwl,hb⟩
    refine .inl (Nd ?_)
    obtain ⟨k,b,w,n,x,rfl,hk,hbw,hw,hx,hx0,hxn,hxw⟩:=h.field hs hm
    dsimp only
    obtain ⟨a,ha⟩:=AF (l:=ws) (k:=k) (by omega)
    rw [hx,Ar,if_neg (by omega),Ar,if_neg (by omega),Ar,Cx,BY,ha,Ar,Ar]
    unfold shlU
    rw [if_pos (by omega),Ar,Ar]
    refine ⟨_,rfl,_,rfl,by simpa using hwl,?_⟩
    simp only [Int.toNat_natCast]
    have hxb:∀ c:Nat,c < 64→((a ||| (BitVec.ofInt 64 x <<< b)).getLsbD c=true↔a.getLsbD c=true∨(b≤c∧x.toNat.testBit (c - b)=true)):=by
      intro c hc
      have hofi:BitVec.ofInt 64 x=BitVec.ofNat 64 x.toNat:=by
        rw [← BitVec.ofInt_natCast,Int.toNat_of_nonneg hx0]
      rw [BitVec.getLsbD_or,BitVec.getLsbD_shiftLeft,hofi,BitVec.getLsbD_ofNat]
      by_cases h1:b≤c
      · have:c - b < 64:=by omega
        simp [hc,h1,this,Nat.not_lt.2 h1]
      · simp [hc,h1,Nat.lt_of_not_le h1]
    intro k' c a' ha' hc
    by_cases e:k=k'
    · subst e
      rw [List.getElem?_set_self (AD ha)] at ha'
      obtain rfl:=Option.some.inj ha'
      rw [hxb c hc,hb k c a ha hc]
      constructor
      · rintro (⟨i,f,y,hi,hr⟩|⟨h1,h2⟩)
        · exact ⟨i,f,y,by omega,hr⟩
        · have:=KQ hx0 hxw h2
          exact ⟨m,_,x,by omega,hm,hx,rfl,by dsimp only;omega,by dsimp only;omega,by simpa using h2⟩
      · rintro ⟨i,f,y,hi,hf,hy,hin⟩
        by_cases he:i=m
        · subst he
          rw [hm] at hf
          obtain rfl:=Option.some.inj hf
          rw [hx] at hy
          obtain rfl:=Option.some.inj hy
          obtain ⟨_,i2,i3,i4⟩:=hin
          dsimp only at i2 i3 i4
          exact .inr ⟨by omega,by simpa using i4⟩
        · exact .inl ⟨i,f,y,by omega,hf,hy,hin⟩
    · rw [List.getElem?_set_ne e] at ha'
      rw [hb k' c a' ha' hc]
      constructor
      · rintro ⟨i,f,y,hi,hr⟩;exact ⟨i,f,y,by omega,hr⟩
      · rintro ⟨i,f,y,hi,hf,hy,hin⟩
        by_cases he:i=m
        · subst he
          rw [hm] at hf
          obtain rfl:=Option.some.inj hf
          have:=hin.1
          dsimp only at this
          omega
        · exact ⟨i,f,y,by omega,hf,hy,hin⟩
  · rintro ws ⟨hwl,hb⟩
    refine ⟨_,rfl,rfl,hwl,fun k c a ha hc=>?_⟩
    rw [hb k c a ha hc]
    constructor
    · rintro ⟨i,f,x,_,hr⟩;exact ⟨i,f,x,trivial,hr⟩
    · rintro ⟨i,f,x,_,hf,hr⟩;exact ⟨i,f,x,AD hf,hf,hr⟩
theorem Nf {k b w:Nat} {n:Int}:Cz ⟨k,b,w,n⟩=some ((((1:U64) <<< w) - (1:U64)) <<< b):=by
  unfold Cz shlU
  dsimp only
  rw [if_pos (by omega),Ar,if_pos (by omega),Ar]
  simp
theorem Rr {vars:List Int} {p:Pkr} (h:PkOk vars p) {s:List Int} (hs:StateOk vars s) {ws:List U64} (hwl:(ws.length:Int)=p.words) (hb:Bits p.fields s (fun _=>True) ws) {i:Nat} {f:PFd} {x:Int} (hf:p.fields[i]?=some f) (hx:s[i]?=some x):CZ f ws=some x:=by
  obtain ⟨k,b,w,n,x',rfl,hk,hbw,hw,hx',hx0,hxn,hxw⟩:=h.field hs hf
  rw [hx] at hx'
  obtain rfl:=Option.some.inj hx'
  obtain ⟨a,ha⟩:=AF (l:=ws) (k:=k) (by omega)
  unfold CZ
  dsimp only
  rw [BY,ha,Ar,Nf,Ar]
  unfold shrU
  rw [if_pos (by omega),Ar]
  have hval : (a &&& ((((1:U64) <<< w) - (1:U64)) <<< b)) >>> b=BitVec.ofNat 64 x.toNat:=by
    apply BitVec.eq_of_getLsbD_eq
    intro j hj
    rw [BitVec.getLsbD_ushiftRight,BitVec.getLsbD_and,BitVec.getLsbD_ofNat]
    by_cases hjb:b + j < 64
    · rw [Mt hw hjb]
      by_cases hjw:j < w
      · have h1:=hb k (b + j) a ha hjb
        have h2:a.getLsbD (b + j)=x.toNat.testBit j:=by
          cases ht:x.toNat.testBit j with
          | true=>exact h1.2 ⟨i,_,x,trivial,hf,hx,rfl,by dsimp only;omega,by dsimp only;omega,by simpa using ht⟩
          | false =>
            cases hg:a.getLsbD (b + j) with
            | false=>rfl
            | true =>
              obtain ⟨i',f',x',_,hf',hx',hin⟩:=h1.1 hg
              have hii:=h.same (k:=k) (c:=b + j) hf hf' ⟨rfl,by dsimp only;omega,by dsimp only;omega⟩ ⟨hin.1,hin.2.1,hin.2.2.1⟩
              subst hii
              rw [hf] at hf'
              obtain rfl:=Option.some.inj hf'
              rw [hx] at hx'
              obtain rfl:=Option.some.inj hx'
              have:=hin.2.2.2
              simp at this
              rw [this] at ht
              cases ht
        rw [h2]
        simp [hj,hjw]
      · have hf0:x.toNat.testBit j=false:=by
          cases ht:x.toNat.testBit j with
          | false=>rfl
          | true=>exact absurd (KQ hx0 hxw ht) hjw
        simp [hf0,hjw]
    · have hf0:x.toNat.testBit j=false:=by
        cases ht:x.toNat.testBit j with
        | false=>rfl
        | true=>have:=KQ hx0 hxw ht;omega
      rw [BitVec.getLsbD_of_ge _ _ (by omega)]
      simp [hf0]
  have h64:(2:Int) ^ w≤64:=by
    have:w=0∨w=1∨w=2∨w=3∨w=4∨w=5∨w=6:=by omega
    rcases this with rfl|rfl|rfl|rfl|rfl|rfl|rfl<;>decide
  simp only [Int.toNat_natCast]
  rw [hval]
  congr 1
  rw [BitVec.toInt_eq_toNat_of_lt (by rw [BitVec.toNat_ofNat];omega),BitVec.toNat_ofNat]
  omega
theorem Jc {vars:List Int} {p:Pkr} (h:PkOk vars p) (hl:vars.length≤64) {s:List Int} (hs:StateOk vars s) {ws:List U64} (hwl:(ws.length:Int)=p.words) (hb:Bits p.fields s (fun _=>True) ws):Cv p ws=some (s,⟨0⟩):=by
  obtain ⟨W,hW,hW1,hW2,_⟩:=h.2.1
  have hsl:=hs.1
  have hfl:=h.1
  unfold Cv
  rw [if_neg (by omega),HF (by omega) (by omega),Ar]
  unfold BR
  rw [if_pos (by omega),Ar]
  refine KO (fun m st=>st.1.length=s.length∧(∀ (i:Nat) x,i < m→s[i]?=some x→st.1[i]?=some x)∧st.2.length=ws.length∧Bits p.fields s (fun i=>m≤i) st.2) ⟨by simp;omega,fun i x hi=>by omega,rfl,?_⟩ ?_ ?_
  · intro k c a ha hc
    rw [hb k c a ha hc]
    constructor
    · rintro ⟨i,f,x,_,hr⟩;exact ⟨i,f,x,by omega,hr⟩
    · rintro ⟨i,f,x,_,hr⟩;exact ⟨i,f,x,trivial,hr⟩
  · rintro m f ⟨out,rest⟩ hm ⟨i1,i2,i3,i4⟩
    dsimp only at i1 i2 i3 i4 ⊢
    obtain ⟨k,b,w,n,x,rfl,hk,hbw,hw,hx,hx0,hxn,hxw⟩:=h.field hs hm
    have hml:=AD hx
    obtain ⟨u,hu⟩:=AF (l:=out) (k:=m) (by omega)
    obtain ⟨a,ha⟩:=AF (l:=rest) (k:=k) (by omega)
    rw [Rr h hs hwl hb hm hx,Ar,hu,Ar,List.getElem?_set_self (by omega),Ar]
    dsimp only
    rw [if_neg (by omega),BY,ha,Ar,Nf,Ar,Ar]
    refine ⟨_,rfl,by simpa using i1,fun i y hi hy=>?_,by simpa using i3,?_⟩
    · by_cases e:i=m
      · subst e
        rw [hx] at hy
        obtain rfl:=Option.some.inj hy
        exact List.getElem?_set_self (by omega)
      · show (out.set m x)[i]?=_
        rw [List.getElem?_set_ne (by omega)]
        exact i2 i y (by omega) hy
    · show Bits p.fields s _ (rest.set ((k:Int)).toNat _)
      simp only [Int.toNat_natCast]
      intro k' c a' ha' hc
      by_cases e:k=k'
      · subst e
        rw [List.getElem?_set_self (AD ha)] at ha'
        obtain rfl:=Option.some.inj ha'
        rw [BitVec.getLsbD_and,BitVec.getLsbD_not,Mt hw hc]
        have h1:=i4 k c a ha hc
        constructor
        · intro hh
          simp only [Bool.and_eq_true,Bool.not_eq_true',decide_eq_true_eq] at hh
          obtain ⟨i,f,y,hi,hf,hy,hin⟩:=h1.1 hh.1
          refine ⟨i,f,y,?_,hf,hy,hin⟩
          rcases Nat.lt_or_ge m i with hlt|hge
          · exact hlt
          · exfalso
            obtain rfl:i=m:=by omega
            rw [hm] at hf
            obtain rfl:=Option.some.inj hf
            obtain ⟨_,j2,j3,_⟩:=hin
            dsimp only at j2 j3
            have h2:=hh.2.2
            rw [show decide (b≤c)=true from by simp;omega,show decide (c < b + w)=true from by simp;omega] at h2
            cases h2
        · rintro ⟨i,f,y,hi,hf,hy,hin⟩
          have hg:=h1.2 ⟨i,f,y,by omega,hf,hy,hin⟩
          have hno:¬ (b≤c∧c < b + w):=fun hh=>by
            have:=h.same (k:=k) (c:=c) hm hf ⟨rfl,by dsimp only;omega,by dsimp only;omega⟩ ⟨hin.1,hin.2.1,hin.2.2.1⟩
            omega
          rw [hg]
          by_cases q1:b≤c
          · have q2:¬ c < b + w:=fun hh=>hno ⟨q1,hh⟩
            simp [hc,q1,q2]
          · simp [hc,q1]
      · rw [List.getElem?_set_ne e] at ha'
        rw [i4 k' c a' ha' hc]
        constructor
        · rintro ⟨i,f,y,hi,hf,hy,hin⟩
          refine ⟨i,f,y,?_,hf,hy,hin⟩
          rcases Nat.lt_or_ge m i with hlt|hge
          · exact hlt
          · exfalso
            obtain rfl:i=m:=by omega
            rw [hm] at hf
            obtain rfl:=Option.some.inj hf
            have:=hin.1
            dsimp only at this
            omega
        · rintro ⟨i,f,y,hi,hr⟩;exact ⟨i,f,y,by omega,hr⟩
  · rintro ⟨out,rest⟩ ⟨i1,i2,i3,i4⟩
    dsimp only at i1 i2 i3 i4
    rw [Ci]
    dsimp only
    have hout:out=s:=by
      apply List.ext_getElem?
      intro i
      rcases Nat.lt_or_ge i s.length with hi|hi
      · obtain ⟨x,hx⟩:=AF (l:=s) (k:=i) hi
        rw [hx];exact i2 i x (by omega) hx
      · rw [List.getElem?_eq_none hi,List.getElem?_eq_none (by omega)]
    subst hout
    refine KO (fun _ _=>True) trivial (fun k a _ hk _=>⟨(),?_,trivial⟩) (fun _ _=>rfl)
    obtain ⟨a',ha'⟩:=AF (l:=rest) (k:=k) (by have:=AD hk;omega)
    rw [ha',Ar]
    have hz:a'=0:=by
      apply BitVec.eq_of_getLsbD_eq
      intro c hc
      cases hg:a'.getLsbD c with
      | false=>simp
      | true =>
        obtain ⟨i,f,x,hi,hf,_⟩:=(i4 k c a' ha' hc).1 hg
        have:=AD hf
        omega
    subst hz
    rw [if_neg (by simp)]
theorem Pg {vars:List Int} {p:Pkr} (h:PkOk vars p) (hl:vars.length≤64) {s s':List Int} (hs:StateOk vars s) (hs':StateOk vars s') {ws:List U64} (h1:Bz p s=some (ws,⟨0⟩)) (h2:Bz p s'=some (ws,⟨0⟩)):s=s':=by
  obtain ⟨r,r1,r2,r3,r4⟩:=Ju h hl hs
  obtain ⟨q,q1,q2,q3,q4⟩:=Ju h hl hs'
  rw [h1] at r1
  rw [h2] at q1
  obtain rfl:=Option.some.inj r1
  obtain rfl:=Option.some.inj q1
  have e1:=Jc h hl hs r3 r4
  have e2:=Jc h hl hs' q3 q4
  rw [e1] at e2
  have:=Option.some.inj e2
  exact congrArg Prod.fst this
end
section
open Go Go.RowKit
theorem Ls {K V:Type} [MKey K] (z:V) (k k':K) (v:V):∀ l:List (K×V),mget z (mput l k v) k'=if k=k' then v else mget z l k'
  | []=>by simp only [mput,mget]
  | p :: r=>by
    have ih:=Ls z k k' v r
    simp only [mput]
    by_cases h1:p.1=k
    · rw [if_pos h1]
      simp only [mget]
      by_cases h2:k=k'
      · rw [if_pos h2,if_pos h2]
      · rw [if_neg h2,if_neg h2,if_neg (by rw [h1];exact h2)]
    · rw [if_neg h1]
      simp only [mget,ih]
      by_cases h2:k=k'
      · rw [if_pos h2,if_pos h2,if_neg (by rw [← h2];exact h1)]
      · rw [if_neg h2,if_neg h2]
theorem Oo (p:Pkr) (ws:List U64):∃ h,BT p ws=some h:=by
  have:∃ r,BT p ws=some r∧True:=by
    unfold BT
    refine Gs (fun _ _=>True) (fun _=>False) trivial (fun i x s _ _=>.inl ?_) (fun s _=>?_) (fun q hq=>hq.elim)
    · exact ⟨_,rfl,trivial⟩
    · exact ⟨_,rfl,trivial⟩
  obtain ⟨h,h1,_⟩:=this
  exact ⟨h,h1⟩
theorem Rs (a b:List U64):BC a b=some (decide (a=b)):=by
  unfold BC
  by_cases hl:(a.length:Int)=(b.length:Int)
  · rw [if_neg (by omega)]
    have:∃ r,(bnd (rng (ρ:=Bool) (fun (k18:Nat) (a19:U64) (_:Unit)=>bnd (b[k18]?) fun a36=>if (a19.toNat:Int)≠(a36.toNat:Int) then (some (.ret false)) else (some (.next ()))) a 0 ()) fun res14=>fin res14 fun (_:Unit)=>some true)=some r∧r=decide (a=b):=by
      refine Gs (fun m _=>∀ (i:Nat),i < m→a[i]?=b[i]?) (fun r=>r=false∧a≠b) (fun i hi=>by omega) ?_ ?_ ?_
      · intro i x _ hx hI
        obtain ⟨y,hy⟩:=AF (l:=b) (k:=i) (by have:=AD hx;omega)
        rw [hy,Ar]
        by_cases he:x=y
        · subst he
          rw [if_neg (by simp)]
          refine .inl ⟨(),rfl,fun j hj=>?_⟩
          by_cases e:j=i
          · subst e;rw [hx,hy]
          · exact hI j (by omega)
        · rw [if_pos (fun h=>he (BitVec.eq_of_toNat_eq (by omega)))]
          refine .inr ⟨_,rfl,rfl,fun h=>he ?_⟩
          rw [h,hy] at hx
          exact (Option.some.inj hx).symm
      · intro _ hI
        refine ⟨_,rfl,?_⟩
        symm
        rw [decide_eq_true_eq]
        apply List.ext_getElem?
        intro i
        rcases Nat.lt_or_ge i a.length with h|h
        · exact hI i h
        · rw [List.getElem?_eq_none h,List.getElem?_eq_none (by omega)]
      · rintro q ⟨rfl,hne⟩
        exact ⟨_,rfl,by simp [hne]⟩
    obtain ⟨r,h1,h2⟩:=this
    rw [h1,h2]
  · rw [if_pos hl]
    congr 1
    symm
    rw [decide_eq_false_iff_not]
    exact fun h=>hl (by rw [h])
structure RegI (vars:List Int) (r:Reg) (L:List (List Int)):Prop where
  pk:PkOk vars r.packer
  len:r.entries.length=L.length
  st:∀ (i:Nat) s,L[i]?=some s→StateOk vars s
  words:∀ (i:Nat) s e,L[i]?=some s→r.entries[i]?=some e→Bz r.packer s=some (e.words,⟨0⟩)
  nodup:∀ (i j:Nat) s,L[i]?=some s→L[j]?=some s→i=j
  tab:∀ (i:Nat) e,r.entries[i]?=some e→∃ h,BT r.packer e.words=some h∧(i:Int)∈mget ([]:List Int) r.table.l h
  val:∀ h a,a∈mget ([]:List Int) r.table.l h→∃ i:Nat,a=(i:Int)∧i < L.length
  few:∀ h,(mget ([]:List Int) r.table.l h).length≤L.length
def links (r:Reg):List RLk:=r.entries.map (·.link)
theorem Oq {vars:List Int} (hl:vars.length≤64) (hv:∀ (i:Nat) n,vars[i]?=some n→1≤n∧n≤64):∃ r,Da vars=some r∧∃ q,r=(some q,⟨0⟩)∧RegI vars q []∧links q=[]:=by
  obtain ⟨r,h1,p,rfl,hp⟩:=ND hl hv
  unfold Da
  rw [h1,Ar,if_neg (by simp),Ar]
  exact ⟨_,rfl,_,rfl,⟨hp,rfl,fun i s h=>by simp at h,fun i s e h=>by simp at h,fun i j s h=>by simp at h,fun i e h=>by simp at h,fun h a ha=>by simp [mget] at ha,fun h=>by simp [mget]⟩,rfl⟩
theorem KA {vars:List Int} (hl:vars.length≤64) {r:Reg} {L:List (List Int)} (h:RegI vars r L) {s:List Int} (hs:StateOk vars s):∃ (ws:List U64) (hh:Int),Bz r.packer s=some (ws,⟨0⟩)∧BT r.packer ws=some hh ∧
    ((∃ i:Nat,L[i]?=some s∧Bq r s=some (ws,hh,(i:Int),⟨0⟩))∨((∀ i:Nat,L[i]?≠some s)∧Bq r s=some (ws,hh,-1,⟨0⟩))):=by
  obtain ⟨⟨ws,er⟩,p1,p2,p3,p4⟩:=Ju h.pk hl hs
  dsimp only at p2 p3 p4
  subst p2
  obtain ⟨hh,hhe⟩:=Oo r.packer ws
  refine ⟨ws,hh,p1,hhe,?_⟩
  have key:∃ res,Bq r s=some res∧((∃ i:Nat,L[i]?=some s∧res=(ws,hh,(i:Int),⟨0⟩))∨((∀ i:Nat,L[i]?≠some s)∧res=(ws,hh,-1,⟨0⟩))):=by
    unfold Bq
    rw [p1,Ar,if_neg (by simp),hhe,Ar]
    refine Gs (fun m _=>∀ (j:Nat) (i:Nat),j < m→(mget ([]:List Int) r.table.l hh)[j]?=some (i:Int)→L[i]?≠some s) (fun res=>∃ i:Nat,L[i]?=some s∧res=(ws,hh,(i:Int),⟨0⟩)) (fun j i hj=>by omega) ?_ ?_ ?_
    · intro m a _ hm hI
      obtain ⟨i,rfl,hi⟩:=h.val hh a (List.mem_of_getElem? hm)
      obtain ⟨e,he⟩:=AF (l:=r.entries) (k:=i) (by rw [h.len];exact hi)
      obtain ⟨s',hs'⟩:=AF (l:=L) (k:=i) hi
      have hw:=h.words i s' e hs' he
      rw [BY,he,Ar,Rs,Ar]
      by_cases hew:e.words=ws
      · rw [decide_eq_true hew,Dj]
        rw [hew] at hw
        have:=Pg h.pk hl (h.st i s' hs') hs hw p1
        subst this
        exact .inr ⟨_,rfl,i,hs',rfl⟩
      · rw [decide_eq_false hew,Cx]
        refine .inl ⟨(),rfl,fun j i' hj hi'=>?_⟩
        by_cases e1:j=m
        · subst e1
          rw [hm] at hi'
          have e2:i=i':=by have:=Option.some.inj hi';omega
          subst e2
          intro hL
          rw [hL] at hs'
          obtain rfl:=Option.some.inj hs'
          rw [p1] at hw
          exact hew (congrArg Prod.fst (Option.some.inj hw)).symm
        · exact hI j i' (by omega) hi'
    · intro _ hI
      refine ⟨_,rfl,.inr ⟨fun i hL=>?_,rfl⟩⟩
      obtain ⟨e,he⟩:=AF (l:=r.entries) (k:=i) (by rw [h.len];exact AD hL)
      have hw:=h.words i s e hL he
      rw [p1] at hw
      have hwe:ws=e.words:=congrArg Prod.fst (Option.some.inj hw)
      obtain ⟨h',t1,t2⟩:=h.tab i e he
      rw [← hwe,hhe] at t1
      obtain rfl:=Option.some.inj t1
      obtain ⟨j,hj⟩:=List.getElem?_of_mem t2
      exact hI j i (AD hj) hj hL
    · rintro q ⟨i,hi,rfl⟩
      exact ⟨_,rfl,.inl ⟨i,hi,rfl⟩⟩
  obtain ⟨res,k1,k2⟩:=key
  rcases k2 with ⟨i,hi,rfl⟩|⟨hn,rfl⟩
  · exact .inl ⟨i,hi,k1⟩
  · exact .inr ⟨hn,k1⟩
theorem Lt {vars:List Int} (hl:vars.length≤64) {r:Reg} {L:List (List Int)} (h:RegI vars r L) {s:List Int} (hs:StateOk vars s) (hL:L.length < 65536) :
    (∃ i:Nat,L[i]?=some s∧Bt r s=some ((i:Int),false,⟨0⟩,r))∨((∀ i:Nat,L[i]?≠some s)∧∃ r',Bt r s=some ((L.length:Int),true,⟨0⟩,r')∧RegI vars r' (L ++ [s])∧links r'=links r ++ [⟨-1,-1,0⟩]):=by
  obtain ⟨ws,hh,p1,p2,hf⟩:=KA hl h hs
  unfold Bt
  have hlen:=h.len
  rcases hf with ⟨i,hi,hf⟩|⟨hno,hf⟩
  · refine .inl ⟨i,hi,?_⟩
    rw [hf,Ar,if_neg (by simp),if_pos (by dsimp only;omega)]
  · refine .inr ⟨hno,?_⟩
    have hfew:=h.few hh
    rw [hf,Ar,if_neg (by simp),if_neg (by dsimp only;omega),if_neg (by omega)]
    dsimp only
    rw [Cy (by simp;omega) (by simp;omega),Ar,Cy (by simp;omega) (by simp;omega),Ar,hlen]
    have hget:∀ k,mget ([]:List Int) (mput r.table.l hh (mget ([]:List Int) r.table.l hh ++ [(L.length:Int)])) k=if hh=k then mget ([]:List Int) r.table.l hh ++ [(L.length:Int)] else mget ([]:List Int) r.table.l k:=fun k=>Ls _ _ _ _ _
    refine ⟨_,rfl,⟨h.pk,by simp [hlen],?_,?_,?_,?_,?_,?_⟩,by simp [links]⟩
    · intro i s' hi
      rcases DM hi with hi|⟨_,rfl⟩
      · exact h.st i s' hi
      · exact hs
    · intro i s' e hi he
      rcases DM hi with hi|⟨hi,rfl⟩
      · rcases DM he with he|⟨he,_⟩
        · exact h.words i s' e hi he
        · have:=AD hi;omega
      · rcases DM he with he|⟨he,rfl⟩
        · have:=AD he;omega
        · exact p1
    · intro i j s' hi hj
      rcases DM hi with hi2|⟨hi2,hs2⟩
      · rcases DM hj with hj2|⟨hj2,hs2⟩
        · exact h.nodup i j s' hi2 hj2
        · exact absurd (hs2 ▸ hi2) (hno i)
      · rcases DM hj with hj2|⟨hj2,_⟩
        · exact absurd (hs2 ▸ hj2) (hno j)
        · omega
    · intro i e he
      rcases DM he with he|⟨hi,rfl⟩
      · obtain ⟨k,k1,k2⟩:=h.tab i e he
        refine ⟨k,k1,?_⟩
        dsimp only
        rw [hget]
        by_cases e1:hh=k
        · subst e1;rw [if_pos rfl];exact List.mem_append_left _ k2
        · rw [if_neg e1];exact k2
      · refine ⟨hh,p2,?_⟩
        dsimp only
        rw [hget,if_pos rfl,hi,hlen]
        simp
    · intro k a ha
      dsimp only at ha
      rw [hget] at ha
      simp only [List.length_append,List.length_singleton]
      by_cases e1:hh=k
      · rw [if_pos e1] at ha
        rcases List.mem_append.1 ha with ha|ha
        · obtain ⟨i,h1,h2⟩:=h.val hh a ha;exact ⟨i,h1,by omega⟩
        · exact ⟨L.length,by simpa using ha,by omega⟩
      · rw [if_neg e1] at ha
        obtain ⟨i,h1,h2⟩:=h.val k a ha;exact ⟨i,h1,by omega⟩
    · intro k
      dsimp only
      rw [hget]
      have:=h.few k
      simp only [List.length_append,List.length_singleton]
      by_cases e1:hh=k
      · rw [if_pos e1];simp;omega
      · rw [if_neg e1];omega
theorem Or {vars:List Int} {r:Reg} {L:List (List Int)} (h:RegI vars r L) {i:Nat} (hi:i < L.length):Cd r (i:Int)=some true:=by
  unfold Cd
  rw [if_pos (by omega),if_pos (by rw [h.len];omega)]
  rfl
theorem MO {vars:List Int} (hl:vars.length≤64) {r:Reg} {L:List (List Int)} (h:RegI vars r L) {i:Nat} {s:List Int} (hi:L[i]?=some s):BF r (i:Int)=some (s,⟨0⟩):=by
  obtain ⟨e,he⟩:=AF (l:=r.entries) (k:=i) (by rw [h.len];exact AD hi)
  have hs:=h.st i s hi
  obtain ⟨⟨ws,er⟩,p1,p2,p3,p4⟩:=Ju h.pk hl hs
  have hw:=h.words i s e hi he
  rw [p1] at hw
  have hwe:ws=e.words:=congrArg Prod.fst (Option.some.inj hw)
  dsimp only at p3 p4
  rw [hwe] at p3 p4
  unfold BF
  rw [Or h (AD hi),Ar,Dj,BY,he,Ar,Jc h.pk hl hs p3 p4,Ar]
end
section
open Go Go.RowKit
inductive Rch (t:Tsk):List Int→Prop
  | init:Rch t t.init
  | step {s:List Int} {k:Nat} {o:Opr}:Rch t s→t.ops[k]?=some o→holdsB o.pre s=true→Rch t (succ o s)
theorem Rch.ok {t:Tsk} (h:TaskOk t) {s:List Int} (hr:Rch t s):StateOk t.vars s:=by
  induction hr with
  | init=>exact h.2.2.2.1
  | step _ ho _ ih=>exact KL h ih ho
def cnt (l:List Bool):Nat:=(l.filter id).length
theorem Rt (l:List Bool):cnt l≤l.length:=List.length_filter_le _ _
theorem Ng:∀ {l:List Bool} {i:Nat},l[i]?=some false→cnt (l.set i true)=cnt l + 1
  | [],i,h=>by simp at h
  | b :: l,0,h=>by simp at h;subst h;simp [cnt]
  | b :: l,i + 1,h=>by
    have:=Ng (l:=l) (i:=i) (by simpa using h)
    simp only [cnt] at this ⊢
    cases b<;>simp [this]
end
section
open Go Go.RowKit
theorem Qp {t:Tsk} (h:Mid t) {most:Int} (hm:600≤most∧most≤1000000):Dz t.vars most=some ((statesL t.vars).length:Int):=by
  have hall:=h.states
  have hv:=h.ok.2.2.1
  unfold Dz
  refine KO (fun m s=>s=((statesL (t.vars.take m)).length:Int)) (by simp [statesL]) ?_ (fun s hs=>by rw [Ci,hs,List.take_length])
  rintro m n s hn rfl
  obtain ⟨n1,n2⟩:=hv m n hn
  have h1:=hall m
  have h2:=hall (m + 1)
  have h3:((statesL (t.vars.take (m + 1))).length:Int)=((statesL (t.vars.take m)).length:Int) * n:=by
    rw [ES hn,grows,Hr]
    rw [Int.natCast_mul,Int.toNat_of_nonneg (by omega)]
  rw [Cb (by unfold inI64;omega),Ar,show min (max n 0) (most + 1)=n from by omega,← h3,Cb (by unfold inI64;omega),Ar,if_neg (by omega)]
  exact ⟨_,rfl,rfl⟩
def ReachP (t:Tsk) (bs:List Bool):Prop:=bs.length=(statesL t.vars).length∧∀ (i:Nat) s,(statesL t.vars)[i]?=some s→(bs[i]?=some true↔Rch t s)
theorem NE {t:Tsk} (h:Mid t):∃ r,Ey t t.init=some r∧ReachP t r:=by
  have hlen:(statesL t.vars).length≤600:=h.many
  have hok:=h.ok
  obtain ⟨es,he,hes⟩:=OX h
  obtain ⟨i0,hi0,hi0'⟩:=HH h hok.2.2.2.1
  have hil:=AD hi0'
  unfold Ey
  rw [Qp h (by omega),Ar,HF (by omega) (by omega),Ar,hi0,Ar,BY,List.getElem?_replicate,if_pos hil,Ar,he,Ar,Int.toNat_natCast]
  have hedge:∀ (bs:List Bool),bs[i0]?=some true→(∀ e∈es,∀ i k j:Nat,e=⟨i,k,j⟩→bs[i]?=some true→bs[j]?=some true)→∀ s,Rch t s→∀ i:Nat,(statesL t.vars)[i]?=some s→bs[i]?=some true:=by
    intro bs h0 hc s hr
    induction hr with
    | init =>
      intro i hi
      have e1:=Qf h hi
      rw [hi0] at e1
      have:i0=i:=by have:=Option.some.inj e1;omega
      rw [← this];exact h0
    | @step s k o hr ho hp ih =>
      intro j hj
      obtain ⟨i,_,hi⟩:=HH h (hr.ok hok)
      exact hc ⟨i,k,j⟩ ((hes _).2 ⟨i,k,j,s,o,rfl,hi,ho,hp,hj⟩) i k j rfl (ih i hi)
  refine Ky (fun r=>r.1.length=(statesL t.vars).length∧r.1[i0]?=some true∧(∀ (i:Nat) s,(statesL t.vars)[i]?=some s→r.1[i]?=some true→Rch t s)∧(r.2=false→∀ e∈es,∀ i k j:Nat,e=⟨i,k,j⟩→r.1[i]?=some true→r.1[j]?=some true))
    (fun r=>ReachP t r.1) (fun _=>False) (fun r=>2 * (r.1.length - cnt r.1) + (if r.2=true then 1 else 0)) ⟨by simp,List.getElem?_set_self (by simpa using hil),fun i s hi hb=>?_,fun hh=>by cases hh⟩ ?_ (fun s hs=>⟨_,rfl,hs⟩) (fun q hq=>hq.elim)
  · dsimp only at hb
    by_cases e1:i0=i
    · subst e1
      rw [hi0'] at hi
      obtain rfl:=Option.some.inj hi
      exact .init
    · rw [List.getElem?_set_ne e1] at hb
      have:=List.eq_of_mem_replicate (List.mem_of_getElem? hb)
      cases this
  · rintro ⟨bs, ch⟩ ⟨b1,b2,b3,b4⟩
    dsimp only at b1 b2 b3 b4 ⊢
    cases ch with
    | false =>
      rw [Cx]
      exact .inr (.inl ⟨_,rfl,b1,fun i s hi=>⟨b3 i s hi,fun hr=>hedge bs b2 (b4 rfl) s hr i hi⟩⟩)
    | true =>
      rw [Dj]
      refine .inl ?_
      obtain ⟨⟨bs',b⟩,g1,g2,g3,g4,g5,g6⟩:=Fg (ρ:=Ctl ((List Bool)×Bool) (List Bool)) (xs:=es) (s₀:=(bs,false)) (f:=fun (_:Nat) (a105:Edg) (s102:(List Bool)×Bool)=>bnd (bnd (atI s102.1 a105.src) fun a140=>if a140=true then (bnd (atI s102.1 a105.dst) fun a152=>some (!a152)) else (some false):Option Bool) fun y136=>if y136=true then (bnd (atI s102.1 a105.dst) fun _=>some (.next ((s102.1.set (a105.dst:Int).toNat true),true))) else (some (.next (s102.1,s102.2)))) (fun m r=>r.1.length=(statesL t.vars).length∧r.1[i0]?=some true∧(∀ (i:Nat) s,(statesL t.vars)[i]?=some s→r.1[i]?=some true→Rch t s)∧(r.2=true→cnt bs < cnt r.1)∧(r.2=false→r.1=bs∧∀ e∈es.take m,∀ i k j:Nat,e=⟨i,k,j⟩→bs[i]?=some true→bs[j]?=some true)) ⟨b1,b2,b3,fun hh=>(by cases hh),fun _=>⟨rfl,fun e he=>by simp at he⟩⟩ (by
          rintro m e ⟨r1,r2⟩ hm ⟨i1,i2,i3,i4,i5⟩
          dsimp only at i1 i2 i3 i4 i5 ⊢
          obtain ⟨i,k,j,s,o,rfl,a1,a2,a3,a4⟩:=(hes e).1 (List.mem_of_getElem? hm)
          dsimp only
          obtain ⟨x,hx⟩:=AF (l:=r1) (k:=i) (by rw [i1];exact AD a1)
          obtain ⟨y,hy⟩:=AF (l:=r1) (k:=j) (by rw [i1];exact AD a4)
          rw [BY,hx,Ar]
          have keep:(x=true→y=true)→∃ s',(some (Ctl.next (r1,r2)):Option (Ctl ((List Bool)×Bool) (Ctl ((List Bool)×Bool) (List Bool))))=some (.next s')∧s'.1.length=(statesL t.vars).length∧s'.1[i0]?=some true∧(∀ (i:Nat) s,(statesL t.vars)[i]?=some s→s'.1[i]?=some true→Rch t s)∧(s'.2=true→cnt bs < cnt s'.1)∧(s'.2=false→s'.1=bs∧∀ e∈es.take (m + 1),∀ i k j:Nat,e=⟨i,k,j⟩→bs[i]?=some true→bs[j]?=some true):=fun hxy=>by
            refine ⟨(r1,r2),rfl,i1,i2,i3,i4,fun hf=>⟨(i5 hf).1,fun e' he'=>?_⟩⟩
            obtain ⟨g1,g2⟩:=i5 hf
            rcases (Hb hm).1 he' with hh|rfl
            · exact g2 e' hh
            · intro i' k' j' hE hbi
              injection hE with h1 h2 h3
              obtain rfl:i=i':=by omega
              obtain rfl:j=j':=by omega
              rw [← g1,hx] at hbi
              rw [← g1,hy,hxy (Option.some.inj hbi)]
          cases x with
          | false=>rw [Cx,Ar,Cx];exact keep fun hh=>by cases hh
          | true =>
            rw [Dj,BY,hy,Ar,Ar]
            cases y with
            | true=>exact keep fun _=>rfl
            | false =>
              rw [show (!false)=true from rfl,Dj,Ar,Int.toNat_natCast]
              refine ⟨_,rfl,by simpa using i1,?_,fun i' s' hs' hb=>?_,fun _=>?_,fun hh=>by simp at hh⟩
              · show (r1.set j true)[i0]?=some true
                by_cases e1:j=i0
                · subst e1;rw [i2] at hy;cases hy
                · rw [List.getElem?_set_ne e1];exact i2
              · change (r1.set j true)[i']?=some true at hb
                by_cases e1:j=i'
                · subst e1
                  rw [a4] at hs'
                  obtain rfl:=Option.some.inj hs'
                  exact (i3 i s a1 hx).step a2 a3
                · rw [List.getElem?_set_ne e1] at hb;exact i3 i' s' hs' hb
              · show cnt bs < cnt (r1.set j true)
                rw [Ng hy]
                cases hr:r2 with
                | true=>have:=i4 hr;omega
                | false=>rw [(i5 hr).1];omega)
      rw [g1,Ar,Ci]
      refine ⟨_,rfl,⟨g2,g3,g4,fun hf=>?_⟩,?_⟩
      · obtain ⟨f1,f2⟩:=g6 hf
        rw [List.take_length] at f2
        dsimp only at f1 ⊢
        rw [f1];exact f2
      · have hl1:=Rt bs'
        dsimp only at g2 ⊢
        cases hb:b with
        | true=>have:=g5 hb;dsimp only at this;simp;omega
        | false=>have:=(g6 hb).1;dsimp only at this;rw [this];simp
theorem Jd {α:Type} [DecidableEq α]:∀ {a b:List α},a.Nodup→(∀ x∈a,x∈b)→a.length≤b.length
  | [],_,_,_=>Nat.zero_le _
  | x :: a,b,hn,hs=>by
    have hx:=hs x List.mem_cons_self
    have h1:=Jd (a:=a) (b:=b.erase x) (List.nodup_cons.1 hn).2 fun y hy=>(List.mem_erase_of_ne (fun e=>(List.nodup_cons.1 hn).1 (by rw [← e];exact hy))).2 (hs y (List.mem_cons_of_mem _ hy))
    have h2:=List.length_erase_of_mem hx
    have h3:=List.length_pos_of_mem hx
    simp only [List.length_cons]
    omega
end
section
open Go Go.RowKit
def appB (t:Tsk) (s:List Int) (k:Nat):Bool:=match t.ops[k]? with|some o=>holdsB o.pre s|none=>false
def appN (t:Tsk) (s:List Int) (m:Nat):List Nat:=(List.range m).filter (appB t s)
def sucN (t:Tsk) (s:List Int) (k:Nat):List Int:=match t.ops[k]? with|some o=>succ o s|none=>s
theorem Ru (t:Tsk) (s:List Int):appl t s=(appN t s t.ops.length).map fun k:Nat=>(k:Int):=rfl
theorem Gt {t:Tsk} {s:List Int} {k:Nat} (h:appB t s k=true):∃ o,t.ops[k]?=some o∧holdsB o.pre s=true∧sucN t s k=succ o s:=by
  unfold appB at h
  cases ho:t.ops[k]? with
  | none=>rw [ho] at h;cases h
  | some o=>rw [ho] at h;exact ⟨o,rfl,h,by unfold sucN;rw [ho]⟩
theorem KR {t:Tsk} {s:List Int} {k:Nat} {o:Opr} (ho:t.ops[k]?=some o):appB t s k=holdsB o.pre s∧sucN t s k=succ o s:=by unfold appB sucN;rw [ho];exact ⟨rfl,rfl⟩
end
section
set_option linter.unusedVariables false
set_option linter.unusedSimpArgs false
open Go Go.RowKit
def putL (L:List (List Int)) (s:List Int):List (List Int):=if s∈L then L else L ++ [s]
def foldP (t:Tsk) (s:List Int) (L:List (List Int)) (ks:List Nat):List (List Int):=ks.foldl (fun L k=>putL L (sucN t s k)) L
def expL (t:Tsk) (s:List Int) (L:List (List Int)) (m:Nat):List (List Int):=foldP t s L (appN t s m)
theorem Ot (t:Tsk) (s:List Int) (m:Nat):appN t s (m + 1)=appN t s m ++ if appB t s m=true then [m] else []:=by
  unfold appN
  rw [List.range_succ,List.filter_append]
  by_cases h:appB t s m=true<;>simp [h]
theorem Ou (t:Tsk) (s:List Int) (L:List (List Int)) (m:Nat):expL t s L (m + 1)=if appB t s m=true then putL (expL t s L m) (sucN t s m) else expL t s L m:=by
  unfold expL foldP
  rw [Ot,List.foldl_append]
  by_cases h:appB t s m=true
  · rw [if_pos h,if_pos h];rfl
  · rw [if_neg h,if_neg h];rfl
theorem Mu (L:List (List Int)) (s:List Int):∃ A,putL L s=L ++ A:=by
  unfold putL
  split
  · exact ⟨[],by simp⟩
  · exact ⟨[s],rfl⟩
theorem Ph (L:List (List Int)) (s:List Int):s∈putL L s:=by
  unfold putL
  split
  · assumption
  · simp
theorem EA (t:Tsk) (s:List Int):∀ (ks:List Nat) (L:List (List Int)),∃ A,foldP t s L ks=L ++ A
  | [],L=>⟨[],by simp [foldP]⟩
  | k :: ks,L=>by
    obtain ⟨A,hA⟩:=Mu L (sucN t s k)
    obtain ⟨B,hB⟩:=EA t s ks (putL L (sucN t s k))
    exact ⟨A ++ B,by rw [← List.append_assoc,← hA,← hB];rfl⟩
theorem KB (t:Tsk) (s:List Int) (L:List (List Int)) (ks:List Nat) (k:Nat):foldP t s L (ks ++ [k])=putL (foldP t s L ks) (sucN t s k):=by unfold foldP;rw [List.foldl_append];rfl
theorem Je (t:Tsk) (s:List Int):∀ (ks:List Nat) (L:List (List Int)) (k:Nat),k∈ks→sucN t s k∈foldP t s L ks
  | [],_,_,h=>by simp at h
  | q :: ks,L,k,h=>by
    rcases List.mem_cons.1 h with rfl|h
    · obtain ⟨B,hB⟩:=EA t s ks (putL L (sucN t s k))
      show _∈foldP t s (putL L (sucN t s k)) ks
      rw [hB];exact List.mem_append_left _ (Ph _ _)
    · exact Je t s ks _ k h
structure BL (t:Tsk) (L:List (List Int)):Prop where
  root:L[0]?=some t.init
  nodup:L.Nodup
  rch:∀ s∈L,Rch t s
theorem HN (t:Tsk):BL t [t.init]:=⟨rfl,by simp,fun s h=>by simp at h;rw [h];exact .init⟩
theorem BL.ok {t:Tsk} {L:List (List Int)} (h:BL t L) (hok:TaskOk t) {s:List Int} (hs:s∈L):StateOk t.vars s:=(h.rch s hs).ok hok
theorem BL.few {t:Tsk} {L:List (List Int)} (h:BL t L) (hs:Mid t):L.length≤600:=Nat.le_trans (Jd h.nodup fun s hm=>Gm.2 (h.ok hs.ok hm)) hs.many
theorem BL.many {t:Tsk} {L:List (List Int)} (h:BL t L) (hok:TaskOk t):L.length≤(statesL t.vars).length:=Jd h.nodup fun s hm=>Gm.2 (h.ok hok hm)
theorem BL.put {t:Tsk} {L:List (List Int)} (h:BL t L) {s:List Int} (hs:s∈L) {k:Nat} (hk:appB t s k=true):BL t (putL L (sucN t s k)):=by
  unfold putL
  by_cases hm:sucN t s k∈L
  · rw [if_pos hm];exact h
  · rw [if_neg hm]
    obtain ⟨o,ho,hp,hsu⟩:=Gt hk
    refine ⟨?_,?_,fun u hu=>?_⟩
    · rw [List.getElem?_append_left (AD h.root)];exact h.root
    · rw [List.nodup_append]
      refine ⟨h.nodup,by simp,fun a ha b hb=>?_⟩
      simp at hb
      rintro rfl
      exact hm (hb ▸ ha)
    · rcases List.mem_append.1 hu with hu|hu
      · exact h.rch u hu
      · simp at hu;rw [hu,hsu];exact (h.rch s hs).step ho hp
theorem BL.fold {t:Tsk} {s:List Int}:∀ {ks:List Nat} {L:List (List Int)},BL t L→s∈L→(∀ k∈ks,appB t s k=true)→BL t (foldP t s L ks)
  | [],_,h,_,_=>h
  | k :: ks,L,h,hs,hk=>by
    obtain ⟨A,hA⟩:=Mu L (sucN t s k)
    exact BL.fold (L:=putL L (sucN t s k)) (h.put hs (hk k List.mem_cons_self)) (by rw [hA];exact List.mem_append_left _ hs) fun q hq=>hk q (List.mem_cons_of_mem _ hq)
theorem Hd {t:Tsk} {s:List Int} {m k:Nat} (h:k∈appN t s m):appB t s k=true∧k < m:=by
  unfold appN at h
  obtain ⟨h1,h2⟩:=List.mem_filter.1 h
  exact ⟨h2,List.mem_range.1 h1⟩
theorem Mv {t:Tsk} {s:List Int} {m k:Nat} (h:appB t s k=true) (hk:k < m):k∈appN t s m:=List.mem_filter.2 ⟨List.mem_range.2 hk,h⟩
theorem BL.exp {t:Tsk} {s:List Int} {L:List (List Int)} (h:BL t L) (hs:s∈L) (m:Nat):BL t (expL t s L m):=h.fold hs fun k hk=>(Hd hk).1
def CloL (t:Tsk) (i:Nat) (L:List (List Int)):Prop:=∀ (j:Nat) s k,j < i→L[j]?=some s→appB t s k=true→sucN t s k∈L
theorem CloL.exp {t:Tsk} {i:Nat} {L:List (List Int)} (h:CloL t i L) {s:List Int} (hs:L[i]?=some s):CloL t (i + 1) (expL t s L t.ops.length):=fun j u k hj hu hk=>by
  obtain ⟨A,hA⟩:=EA t s (appN t s t.ops.length) L
  have hi:=AD hs
  have e:expL t s L t.ops.length=L ++ A:=hA
  rw [e,List.getElem?_append_left (by omega)] at hu
  by_cases e2:j=i
  · subst e2
    rw [hs] at hu
    obtain rfl:=Option.some.inj hu
    obtain ⟨o,ho,_⟩:=Gt hk
    exact Je t s _ _ k (Mv hk (AD ho))
  · rw [e];exact List.mem_append_left _ (h j u k (by omega) hu hk)
inductive Bx (t:Tsk) (lim:Int):Nat→List (List Int)→Option (List (List Int))→Prop
  | full {i:Nat} {L:List (List Int)}:lim < (L.length:Int)→Bx t lim i L none
  | done {i:Nat} {L:List (List Int)}:(L.length:Int)≤lim→L.length≤i→Bx t lim i L (some L)
  | step {i:Nat} {L:List (List Int)} {s:List Int} {r:Option (List (List Int))}:(L.length:Int)≤lim→L[i]?=some s→Bx t lim (i + 1) (expL t s L t.ops.length) r→Bx t lim i L r
theorem PM {t:Tsk} (hs:Mid t) (lim:Int):∀ (n i:Nat) (L:List (List Int)),601 - i < n→BL t L→∃ r,Bx t lim i L r
  | 0,_,_,h,_=>absurd h (by omega)
  | n + 1,i,L,h,hL=>by
    by_cases h1:lim < (L.length:Int)
    · exact ⟨_,.full h1⟩
    · by_cases h2:L.length≤i
      · exact ⟨_,.done (by omega) h2⟩
      · have hf:=hL.few hs
        obtain ⟨s,hs'⟩:=AF (l:=L) (k:=i) (by omega)
        obtain ⟨r,hr⟩:=PM hs lim n (i + 1) (expL t s L t.ops.length) (by omega) (hL.exp (List.mem_of_getElem? hs') _)
        exact ⟨r,.step (by omega) hs' hr⟩
structure EndL (t:Tsk) (lim:Int) (L:List (List Int)):Prop where
  bl:BL t L
  clo:CloL t L.length L
  few:(L.length:Int)≤lim
theorem Bx.ends {t:Tsk} {lim:Int} {i:Nat} {L:List (List Int)} {r:Option (List (List Int))} (h:Bx t lim i L r):BL t L→CloL t i L→∀ L',r=some L'→EndL t lim L':=by
  induction h with
  | full _=>intro _ _ _ h;cases h
  | done h1 h2=>intro hb hc L' h;cases h;exact ⟨hb,fun j s k hj hs hk=>hc j s k (by omega) hs hk,h1⟩
  | @step i L s r h1 h2 _ ih =>
    intro hb hc L' h
    exact ih (hb.exp (List.mem_of_getElem? h2) _) (hc.exp h2) L' h
def idxE (L:List (List Int)) (s:List Int):Int:=(L.idxOf s:Int)
def edgK (t:Tsk) (L:List (List Int)) (s:List Int) (i:Nat) (ks:List Nat):List Edj:=ks.map fun k:Nat=>(⟨(i:Int),(k:Int),idxE L (sucN t s k)⟩:Edj)
def edgL (t:Tsk) (L:List (List Int)) (i:Nat):List Edj:=(List.range i).flatMap fun j=>match L[j]? with|some s=>edgK t L s j (appN t s t.ops.length)|none=>[]
theorem Pi {L A:List (List Int)} {s:List Int} (h:s∈L):idxE (L ++ A) s=idxE L s:=by unfold idxE;rw [List.idxOf_append,if_pos h]
theorem Pj {L:List (List Int)} {s:List Int} (h:¬ s∈L):idxE (L ++ [s]) s=(L.length:Int):=by unfold idxE;rw [List.idxOf_append,if_neg h];simp
theorem Nh {L:List (List Int)} {s:List Int} (h:s∈L):∃ i:Nat,idxE L s=(i:Int)∧L[i]?=some s:=⟨L.idxOf s,rfl,by rw [List.getElem?_eq_getElem (List.idxOf_lt_length_of_mem h),List.getElem_idxOf]⟩
theorem Pk {α:Type} {L:List α} (hn:L.Nodup) {i j:Nat} {s:α} (h1:L[i]?=some s) (h2:L[j]?=some s):i=j:=by
  obtain ⟨a1,b1⟩:=List.getElem?_eq_some_iff.1 h1
  obtain ⟨a2,b2⟩:=List.getElem?_eq_some_iff.1 h2
  rcases Nat.lt_trichotomy i j with h|h|h
  · exact ((List.pairwise_iff_getElem.1 hn) i j a1 a2 h (by rw [b1,b2])).elim
  · exact h
  · exact ((List.pairwise_iff_getElem.1 hn) j i a2 a1 h (by rw [b1,b2])).elim
theorem Rv {L:List (List Int)} (hn:L.Nodup) {i:Nat} {s:List Int} (h:L[i]?=some s):idxE L s=(i:Int):=by
  obtain ⟨j,h1,h2⟩:=Nh (List.mem_of_getElem? h)
  rw [h1,Pk hn h2 h]
theorem Mw {t:Tsk} {L A:List (List Int)} {s:List Int} {i:Nat} {ks:List Nat} (h:∀ k∈ks,sucN t s k∈L):edgK t (L ++ A) s i ks=edgK t L s i ks:=by
  unfold edgK
  exact List.map_congr_left fun k hk=>by rw [Pi (h k hk)]
theorem KS {α β:Type} {l:List α} {f g:α→List β} (h:∀ a∈l,f a=g a):l.flatMap f=l.flatMap g:=by
  induction l with
  | nil=>rfl
  | cons a l ih=>rw [List.flatMap_cons,List.flatMap_cons,h a List.mem_cons_self,ih fun b hb=>h b (List.mem_cons_of_mem _ hb)]
theorem Pm {t:Tsk} {L A:List (List Int)} {i:Nat} (hi:i≤L.length) (h:CloL t i L):edgL t (L ++ A) i=edgL t L i:=by
  unfold edgL
  refine KS fun j hj=>?_
  have hji:=List.mem_range.1 hj
  obtain ⟨s,hs⟩:=AF (l:=L) (k:=j) (by omega)
  rw [List.getElem?_append_left (by omega),hs]
  exact Mw fun k hk=>h j s k hji hs (Hd hk).1
theorem Ov {t:Tsk} {L:List (List Int)} {i:Nat} {s:List Int} (hs:L[i]?=some s):edgL t L (i + 1)=edgL t L i ++ edgK t L s i (appN t s t.ops.length):=by
  unfold edgL
  rw [List.range_succ,List.flatMap_append,List.flatMap_singleton,hs]
theorem Pn {t:Tsk} {L:List (List Int)} {i:Nat} {e:Edj}:e∈edgL t L i↔∃ (j k:Nat) (s:List Int),j < i∧L[j]?=some s∧appB t s k=true∧e=⟨(j:Int),(k:Int),idxE L (sucN t s k)⟩:=by
  unfold edgL
  rw [List.mem_flatMap]
  constructor
  · rintro ⟨j,hj,he⟩
    cases hs:L[j]? with
    | none=>rw [hs] at he;simp at he
    | some s =>
      rw [hs] at he
      obtain ⟨k,hk,rfl⟩:=List.mem_map.1 he
      exact ⟨j,k,s,List.mem_range.1 hj,hs,(Hd hk).1,rfl⟩
  · rintro ⟨j,k,s,hj,hs,hk,rfl⟩
    refine ⟨j,List.mem_range.2 hj,?_⟩
    rw [hs]
    obtain ⟨o,ho,_⟩:=Gt hk
    exact List.mem_map.2 ⟨k,Mv hk (AD ho),rfl⟩
theorem Mx (t:Tsk) (s:List Int) (m:Nat):(appN t s m).length≤m:=by
  unfold appN
  exact Nat.le_trans (List.length_filter_le _ _) (by simp)
theorem Kb (t:Tsk) (L:List (List Int)):∀ (i:Nat),(edgL t L i).length≤i * t.ops.length
  | 0=>by simp [edgL]
  | i + 1=>by
    have h:=Kb t L i
    unfold edgL at h ⊢
    rw [List.range_succ,List.flatMap_append,List.flatMap_singleton,List.length_append,Nat.succ_mul]
    have:(match L[i]? with|some s=>edgK t L s i (appN t s t.ops.length)|none=>[]).length≤t.ops.length:=by
      cases L[i]? with
      | none=>simp
      | some s=>dsimp only;unfold edgK;rw [List.length_map];exact Mx _ _ _
    omega
theorem EndL.edges {t:Tsk} {lim:Int} {L:List (List Int)} (h:EndL t lim L) (hs:Mid t):EdgesOk t L.length (edgL t L L.length):=by
  have hf:=h.bl.few hs
  refine ⟨fun e he=>?_,?_⟩
  · obtain ⟨j,k,s,hj,hsj,hk,rfl⟩:=Pn.1 he
    obtain ⟨i,h1,h2⟩:=Nh (h.clo j s k hj hsj hk)
    obtain ⟨o,ho,_⟩:=Gt hk
    have:=AD h2
    have:=AD ho
    rw [h1]
    dsimp only;omega
  · have h1:=Kb t L L.length
    have h2:=hs.ops
    have:L.length * t.ops.length≤600 * 80:=Nat.mul_le_mul hf h2
    omega
-- the document
theorem Po (L:List (List Int)) (s:List Int):Ex L s=some (if s∈L then idxE L s else -1):=by
  have key:∃ r,Ex L s=some r∧r=(if s∈L then idxE L s else -1):=by
    unfold Ex
    refine Gs (fun k _=>¬ s∈L.take k) (fun r=>s∈L∧r=idxE L s) (by simp) (fun k a u hk hI=>?_) (fun u hI=>⟨_,rfl,?_⟩) (fun r hr=>⟨_,rfl,?_⟩)
    · unfold JF
      rw [Ar]
      by_cases e:a=s
      · rw [Bf e,Dj]
        subst e
        refine .inr ⟨_,rfl,List.mem_of_getElem? hk,?_⟩
        have hk2:=AD hk
        have:L=L.take k ++ (a :: L.drop (k + 1)):=by
          have h2:=List.drop_eq_getElem_cons hk2
          rw [(List.getElem?_eq_some_iff.1 hk).2] at h2
          rw [← h2,List.take_append_drop]
        unfold idxE
        rw [this,List.idxOf_append,if_neg hI]
        simp;omega
      · rw [AU e,Cx]
        refine .inl ⟨(),rfl,fun hm=>?_⟩
        rcases (Hb hk).1 hm with hm|rfl
        · exact hI hm
        · exact e rfl
    · rw [List.take_length] at hI;rw [if_neg hI]
    · rw [if_pos hr.1];exact hr.2
  obtain ⟨r,h1,h2⟩:=key
  rw [h1,h2]
theorem Pp (L:List (List Int)) (s:List Int):0≤idxE L s:=by unfold idxE;omega
abbrev LN:=List (List Int)×Int
noncomputable def rstF (x0:Tsk) (q25:Int):LN→Option (Ctl LN ((List (List Int))×Bool)):=fun s60=>bnd (if s60.2 < (s60.1.length:Int) then (if (s60.1.length:Int)≤q25 then (some true) else (some false)) else (some false):Option Bool) fun y79=>if y79=true then (bnd (rng (ρ:=Ctl LN ((List (List Int))×Bool)) (fun (k100:Nat) (a101:Opr) (s98:(List (List Int)))=>bnd (atI s98 s60.2) fun a115=>bnd (Cw x0 a115 (k100:Int)) fun q130=>bnd (if q130.2=true then (bnd (Ex s98 q130.1) fun q148=>if q148 < 0 then (some true) else (some false)) else (some false):Option Bool) fun y143=>if y143=true then (bnd (appI 24 s98 [q130.1]) fun u162=>some (.next u162)) else (some (.next s98))) x0.ops 0 s60.1) fun res96=>fin res96 fun (s178:(List (List Int)))=>bnd (chkI (s60.2 + 1)) fun n180=>some (.next (s178,n180))) else (some (.brk (s60.1,s60.2)))
noncomputable def rstE (q25:Int):Fin LN ((List (List Int))×Bool)→Option ((List (List Int))×Bool):=fun res58=>fin res58 fun (s187:LN)=>bnd (if (s187.1.length:Int)≤q25 then (some true) else (some false):Option Bool) fun y189=>some (s187.1,y189)
theorem Qq (x0:Tsk) (x1:Int):Gf x0 x1=bnd (Gp x1 0 65536) fun q25=>bnd (appI 8 ([]:List Int) x0.init) fun u39=>bnd (lop (rstF x0 q25) ([u39],0)) (rstE q25):=rfl
theorem Qr {t:Tsk} (hs:Mid t) {ρ:Type} {i:Nat} {L:List (List Int)} {s:List Int} (hb:BL t L) (hi:L[i]?=some s):rng (ρ:=ρ) (fun (k100:Nat) (a101:Opr) (s98:(List (List Int)))=>bnd (atI s98 (i:Int)) fun a115=>bnd (Cw t a115 (k100:Int)) fun q130=>bnd (if q130.2=true then (bnd (Ex s98 q130.1) fun q148=>if q148 < 0 then (some true) else (some false)) else (some false):Option Bool) fun y143=>if y143=true then (bnd (appI 24 s98 [q130.1]) fun u162=>some (.next u162)) else (some (.next s98))) t.ops 0 L=some (.done (expL t s L t.ops.length)):=by
  refine En (fun m=>expL t s L m) (by simp [expL,appN,foldP]) fun k o ho=>?_
  have hmem:=List.mem_of_getElem? hi
  have hE:=hb.exp hmem k
  have hf:=hE.few hs
  obtain ⟨e1,e2⟩:=KR (s:=s) ho
  have hsok:=hb.ok hs.ok hmem
  obtain ⟨A,hA⟩:=EA t s (appN t s k) L
  have hget:(expL t s L k)[i]?=some s:=by
    show (foldP t s L (appN t s k))[i]?=some s
    rw [hA,List.getElem?_append_left (AD hi)];exact hi
  rw [Ou,e1,BY,hget,Ar,Lr hs.ok hsok ho]
  by_cases hp:holdsB o.pre s=true
  · rw [if_pos hp,if_pos hp,Ar]
    dsimp only
    rw [Dj,Po,Ar,e2]
    unfold putL
    by_cases hm:succ o s∈expL t s L k
    · rw [if_pos hm,if_neg (by have:=Pp (expL t s L k) (succ o s);omega),Ar,Cx,if_pos hm]
    · rw [if_neg hm,if_pos (by omega),Ar,Dj,Cy (by rw [List.length_singleton];omega) (by rw [List.length_singleton];omega),Ar,if_neg hm]
  · rw [if_neg hp,if_neg hp,Ar]
    dsimp only
    rw [Cx,Ar,Cx]
def outS (r:Option (List (List Int))) (x:List (List Int)×Bool):Prop:=match r with|none=>x.2=false|some L=>x=(L,true)
theorem Rx {t:Tsk} (hs:Mid t) {lim:Int} {i:Nat} {L:List (List Int)} {r:Option (List (List Int))} (h:Bx t lim i L r):BL t L→∃ x,bnd (lop (rstF t lim) (L,(i:Int))) (rstE lim)=some x∧outS r x:=by
  induction h with
  | @full i L h1 =>
    intro _
    rw [GW]
    unfold rstF
    dsimp only
    have e:(if (i:Int) < (L.length:Int) then (if (L.length:Int)≤lim then some true else some false) else some false)=some false:=by
      split
      · rw [if_neg (by omega)]
      · rfl
    rw [e,Ar,Cx]
    dsimp only
    rw [Ar]
    unfold rstE
    rw [Ci,if_neg (by dsimp only;omega),Ar]
    exact ⟨_,rfl,rfl⟩
  | @done i L h1 h2 =>
    intro _
    rw [GW]
    unfold rstF
    dsimp only
    rw [if_neg (by omega),Ar,Cx]
    dsimp only
    rw [Ar]
    unfold rstE
    rw [Ci,if_pos (by dsimp only;omega),Ar]
    exact ⟨_,rfl,rfl⟩
  | @step i L s r h1 h2 _ ih =>
    intro hb
    have hil:=AD h2
    have hf:=hb.few hs
    rw [GW]
    unfold rstF
    dsimp only
    rw [if_pos (by omega),if_pos h1,Ar,Dj,Qr hs hb h2,Ar,Ci,Cb (by unfold inI64;omega),Ar]
    dsimp only
    exact ih (hb.exp (List.mem_of_getElem? h2) _)
def limE (x:Int):Int:=max 0 (min x 65536)
theorem Qs (x:Int):Gp x 0 65536=some (limE x):=by
  unfold limE Gp
  first|rfl|(congr 1;omega)|(split<;>(try split)<;>(congr 1;omega))
theorem My {t:Tsk} (hs:Mid t) (lim:Int):∃ r x,Bx t (limE lim) 0 [t.init] r∧Gf t lim=some x∧outS r x:=by
  obtain ⟨r,hr⟩:=PM hs (limE lim) 602 0 [t.init] (by omega) (HN t)
  obtain ⟨x,h1,h2⟩:=Rx hs hr (HN t)
  refine ⟨r,x,hr,?_,h2⟩
  have h3:=hs.ok.2.2.2.1.1
  have h4:=hs.ok.1
  rw [Qq,Qs,Ar,Cy (by simp;omega) (by simp;omega),Ar,List.nil_append]
  exact h1
end
section
set_option linter.unusedVariables false
set_option linter.unusedSimpArgs false
open Go Go.RowKit
abbrev XI:=List Edj×Reg
abbrev XS:=Int×List Edj×List Bool×Reg
abbrev XR:=Option Spa×Err
theorem Jf {f:List Fct} (h:f.length≤1000):Bj f=some f:=if_pos ⟨by omega,by omega⟩
theorem Ox {t:Tsk} (h:TaskOk t):CI t=some t:=by
  obtain ⟨h1,h2,h3,h4,h5,h6⟩:=h
  have hg:=El h5
  unfold CI
  rw [JV (by omega),Ar,JV (by rw [h4.1];omega),Ar,Jf (by omega),Ar,Ar]
  rw [En (fun k=>t.ops.take k) (by simp) (fun k o ho=>?_),Ar,Ci,List.take_length]
  have hk:=AD ho
  have hoo:=h6 k o ho
  have hp:=El hoo.2.2.2.2.1
  rw [Jf (by omega),Ar]
  rw [En (fun j=>o.effs.take j) (by simp) (fun j e he=>?_),Ar,Ci,List.take_length]
  · rw [Cy (by rw [List.length_take,List.length_singleton];omega) (by rw [List.length_take,List.length_singleton];omega),Ar,List.take_add_one,ho];rfl
  · have hj:=AD he
    have hel:=hoo.2.2.1
    have hc:=El (hoo.2.2.2.2.2 j e he).1
    rw [Jf (by omega),Ar,Cy (by rw [List.length_take,List.length_singleton];omega) (by rw [List.length_take,List.length_singleton];omega),Ar,List.take_add_one,he];rfl
noncomputable def exIn (x1 i:Int):Suc→XI→Option (Ctl XI (Ctl XS XR)):=fun a228 s225=>bnd (Bt s225.2 a228.state) fun q263=>bnd (bnd (Ep (⟨q263.2.2.1.n⟩:Err) (⟨10⟩:Err)) fun q283=>if q283=true then some true else if q263.2.1=true then (if (max 0 (min x1 65536))≤q263.1 then (some true) else (some false)) else (some false):Option Bool) fun y279=>if y279=true then (some (.ret (.ret (none,(⟨10⟩:Err))))) else (if q263.2.2.1.n≠0 then (some (.ret (.ret (none,(⟨q263.2.2.1.n⟩:Err))))) else (bnd (appI 24 s225.1 [(⟨i,a228.op,q263.1⟩:Edj)]) fun u304=>some (.next (u304,q263.2.2.2))))
noncomputable def exF (x0:Tsk) (x1:Int) (gen:Option Gnr):XS→Option (Ctl XS XR):=fun s105=>bnd (Bi s105.2.2.2) fun q130=>if s105.1 < q130 then (bnd (BF s105.2.2.2 s105.1) fun q141=>if q141.2.n≠0 then (some (.ret (none,(⟨q141.2.n⟩:Err)))) else (bnd (bnd (CF x0.goal q141.1) fun q163=>if q163=true then bnd (appI 1 s105.2.2.1 [true]) fun u195=>some u195 else bnd (appI 1 s105.2.2.1 [false]) fun u176=>some u176:Option (List Bool)) fun y157=>bnd (Bd gen q141.1) fun q212=>bnd (rng (ρ:=Ctl XS XR) (fun (_:Nat) (a228:Suc) (s225:XI)=>exIn x1 s105.1 a228 s225) q212 0 (s105.2.1,s105.2.2.2)) fun res223=>fin res223 fun (s321:XI)=>bnd (chkI (s105.1 + 1)) fun n323=>some (.next (n323,s321.1,y157,s321.2)))) else (some (.brk (s105.1,s105.2.1,s105.2.2.1,s105.2.2.2)))
noncomputable def exE (q74:Tsk):Fin XS XR→Option XR:=fun res103=>fin res103 fun (s330:XS)=>bnd (BM (⟨(⟨q74.vars,q74.init,q74.goal,q74.ops⟩:Tsk),s330.2.2.2,s330.2.1,s330.2.2.1,([]:List Int),([]:List Int),([]:List Int)⟩:Spa)) fun q341=>some ((some q341),(⟨0⟩:Err))
theorem Oy (x0:Tsk) (x1:Int):BQ x0 x1=bnd (CJ x0) fun q25=>if q25.2.n≠0 then (some (none,(⟨q25.2.n⟩:Err))) else (bnd (Da x0.vars) fun q40=>if q40.2.n≠0 then (some (none,(⟨q40.2.n⟩:Err))) else (if (max 0 (min x1 65536)) < 1 then (some (none,(⟨10⟩:Err))) else (bnd q40.1 fun o54=>bnd (Bt o54 x0.init) fun q57=>if q57.2.2.1.n≠0 then (some (none,(⟨q57.2.2.1.n⟩:Err))) else (bnd (CI x0) fun q74=>bnd (lop (exF x0 x1 q25.1) (0,([]:List Edj),([]:List Bool),q57.2.2.2)) (exE q74))))):=rfl
def goalsL (t:Tsk) (L:List (List Int)):List Bool:=L.map (holdsB t.goal)
structure SpX (t:Tsk) (L:List (List Int)) (x:Spa):Prop where
  reg:RegI t.vars x.states L
  sp:SpaOk t L.length (edgL t L L.length) (goalsL t L) x
def outX (t:Tsk) (r:Option (List (List Int))) (x:XR):Prop:=match r with|none=>x=(none,⟨10⟩)|some L=>∃ s,x=(some s,⟨0⟩)∧SpX t L s
theorem Oz (t:Tsk) (s:List Int) (L:List (List Int)) (a b:List Nat):foldP t s L (a ++ b)=foldP t s (foldP t s L a) b:=by unfold foldP;rw [List.foldl_append]
theorem Lu (t:Tsk) (L:List (List Int)) (s:List Int) (i:Nat) (ks:List Nat) (k:Nat):edgK t L s i (ks ++ [k])=edgK t L s i ks ++ [⟨(i:Int),(k:Int),idxE L (sucN t s k)⟩]:=by unfold edgK;rw [List.map_append];rfl
theorem Ry {t:Tsk} (hs:Mid t) {x1:Int} {i:Nat} {L:List (List Int)} {s:List Int} (hb:BL t L) (hcl:CloL t i L) (hlim:(L.length:Int)≤limE x1) (hi:L[i]?=some s) {reg:Reg} (hr:RegI t.vars reg L) :
    (∃ st,rng (ρ:=Ctl XS XR) (fun (_:Nat) (a228:Suc) (s225:XI)=>exIn x1 (i:Int) a228 s225) ((appS t s).map (sucOf t s)) 0 (edgL t L i,reg)=some (.done st)∧st.1=edgL t (expL t s L t.ops.length) (i + 1)∧RegI t.vars st.2 (expL t s L t.ops.length)∧((expL t s L t.ops.length).length:Int)≤limE x1) ∨
    (rng (ρ:=Ctl XS XR) (fun (_:Nat) (a228:Suc) (s225:XI)=>exIn x1 (i:Int) a228 s225) ((appS t s).map (sucOf t s)) 0 (edgL t L i,reg)=some (.ret (.ret (none,⟨10⟩)))∧limE x1 < ((expL t s L t.ops.length).length:Int)):=by
  have hmem:=List.mem_of_getElem? hi
  have hsok:=hb.ok hs.ok hmem
  have hil:=AD hi
  have hf0:=hb.few hs
  have hap:(appS t s).map (sucOf t s)=(appN t s t.ops.length).map fun k:Nat=>(⟨(k:Int),sucN t s k⟩:Suc):=by
    rw [HG hsok,Ru,List.map_map];rfl
  rw [hap]
  have hel:=Kb t L i
  have hib:i * t.ops.length≤600 * 80:=Nat.mul_le_mul (by omega) hs.ops
  rcases Na (ρ:=Ctl XS XR) (f:=fun (_:Nat) (a228:Suc) (s225:XI)=>exIn x1 (i:Int) a228 s225) (xs:=(appN t s t.ops.length).map fun k:Nat=>(⟨(k:Int),sucN t s k⟩:Suc)) (s₀:=(edgL t L i,reg))
    (fun j y=>y.1=edgL t L i ++ edgK t (foldP t s L ((appN t s t.ops.length).take j)) s i ((appN t s t.ops.length).take j)∧RegI t.vars y.2 (foldP t s L ((appN t s t.ops.length).take j))∧((foldP t s L ((appN t s t.ops.length).take j)).length:Int)≤limE x1)
    (fun r=>r=.ret (none,⟨10⟩)∧limE x1 < ((expL t s L t.ops.length).length:Int))
    ⟨by simp [edgK],by simpa [foldP] using hr,by simpa [foldP] using hlim⟩ (fun j a y hj hI=>by
      obtain ⟨y1,y2,y3⟩:=hI
      obtain ⟨es,reg'⟩:=y
      dsimp only at y1 y2 y3
      rw [List.getElem?_map] at hj
      obtain ⟨k,hk,rfl⟩:=Option.map_eq_some_iff.1 hj
      obtain ⟨hka,hkl⟩:=Hd (List.mem_of_getElem? hk)
      have hjl:=AD hk
      have hal:=Mx t s t.ops.length
      have hops:=hs.ops
      obtain ⟨A,hA⟩:=EA t s ((appN t s t.ops.length).take j) L
      have hB:BL t (foldP t s L ((appN t s t.ops.length).take j)):=hb.fold hmem fun q hq=>(Hd (List.mem_of_mem_take hq)).1
      have hf:=hB.few hs
      obtain ⟨o,ho,hpre,hsu⟩:=Gt hka
      have hsk:StateOk t.vars (sucN t s k):=by rw [hsu];exact KL hs.ok hsok ho
      have hek:(edgK t (foldP t s L ((appN t s t.ops.length).take j)) s i ((appN t s t.ops.length).take j)).length≤j:=by unfold edgK;rw [List.length_map,List.length_take];omega
      have htk:(appN t s t.ops.length).take (j + 1)=(appN t s t.ops.length).take j ++ [k]:=by rw [List.take_add_one,hk];rfl
      have hlen:es.length≤60000:=by rw [y1,List.length_append];omega
      unfold exIn
      dsimp only
      rcases Lt hs.ok.1 y2 hsk (by omega) with ⟨q,hq,hadd⟩|⟨hno,r',hadd,hr',hlk⟩
      · have hq2:=List.mem_of_getElem? hq
        rw [hadd,Ar,show Ep (⟨0⟩:Err) (⟨10⟩:Err)=some false from rfl,Ar]
        dsimp only
        rw [Cx,Cx,Ar,Cx,if_neg (by simp),Cy (by rw [List.length_singleton];omega) (by rw [List.length_singleton];omega),Ar]
        have hput:foldP t s L ((appN t s t.ops.length).take (j + 1))=foldP t s L ((appN t s t.ops.length).take j):=by
          rw [htk,KB];unfold putL;rw [if_pos hq2]
        refine .inl ⟨_,rfl,?_,?_,?_⟩
        · dsimp only
          rw [hput,htk,y1,List.append_assoc,Lu,Rv hB.nodup hq]
        · rw [hput];exact y2
        · rw [hput];exact y3
      · have hnm:¬ sucN t s k∈foldP t s L ((appN t s t.ops.length).take j):=fun hm=>by
          obtain ⟨q,hq⟩:=List.getElem?_of_mem hm
          exact hno q hq
        have hput:foldP t s L ((appN t s t.ops.length).take (j + 1))=foldP t s L ((appN t s t.ops.length).take j) ++ [sucN t s k]:=by
          rw [htk,KB];unfold putL;rw [if_neg hnm]
        rw [hadd,Ar,show Ep (⟨0⟩:Err) (⟨10⟩:Err)=some false from rfl,Ar]
        dsimp only
        rw [Cx,Dj]
        by_cases hfull:max 0 (min x1 65536)≤((foldP t s L ((appN t s t.ops.length).take j)).length:Int)
        · rw [if_pos hfull,Ar,Dj]
          refine .inr ⟨_,rfl,rfl,?_⟩
          have he:expL t s L t.ops.length=foldP t s (foldP t s L ((appN t s t.ops.length).take (j + 1))) ((appN t s t.ops.length).drop (j + 1)):=by
            rw [← Oz,List.take_append_drop];rfl
          obtain ⟨B,hB2⟩:=EA t s ((appN t s t.ops.length).drop (j + 1)) (foldP t s L ((appN t s t.ops.length).take (j + 1)))
          rw [he,hB2,hput]
          unfold limE at *
          simp only [List.length_append,List.length_singleton]
          omega
        · rw [if_neg hfull,Ar,Cx,if_neg (by simp),Cy (by rw [List.length_singleton];omega) (by rw [List.length_singleton];omega),Ar]
          refine .inl ⟨_,rfl,?_,?_,?_⟩
          · dsimp only
            rw [hput,htk,y1,List.append_assoc,Lu,Pj hnm,Mw fun q hq=>Je t s _ L q hq]
          · rw [hput];exact hr'
          · rw [hput];unfold limE at *;simp only [List.length_append,List.length_singleton];omega) with ⟨st,h1,h2,h3,h4⟩|⟨r,h1,h2,h3⟩
  · rw [List.length_map,List.take_length] at h2 h3 h4
    refine .inl ⟨st,h1,?_,h3,h4⟩
    obtain ⟨A,hA⟩:=EA t s (appN t s t.ops.length) L
    have e:expL t s L t.ops.length=L ++ A:=hA
    rw [h2,Ov (s:=s) (by rw [e,List.getElem?_append_left hil];exact hi),e,Pm (by omega) hcl,← hA]
  · rw [h2] at h1
    exact .inr ⟨h1,h3⟩
theorem Pq {α β:Type} (f:α→β) (L:List α) {i:Nat} {s:α} (h:L[i]?=some s):(L.take (i + 1)).map f=(L.take i).map f ++ [f s]:=by rw [List.take_add_one,h,List.map_append];rfl
theorem Sd {t:Tsk} (hs:Mid t) {x1:Int} {i:Nat} {L:List (List Int)} {r:Option (List (List Int))} (h:Bx t (limE x1) i L r):BL t L→CloL t i L→i≤L.length→(L.length:Int)≤limE x1→∀ reg,RegI t.vars reg L→∃ x,bnd (lop (exF t x1 (some ⟨t⟩)) ((i:Int),edgL t L i,(L.take i).map (holdsB t.goal),reg)) (exE t)=some x∧outX t r x:=by
  induction h with
  | @full i L h1=>intro _ _ _ h2;omega
  | @done i L h1 h2 =>
    intro hb hc hil _ reg hr
    have hf:=hb.few hs
    obtain rfl:i=L.length:=by omega
    have hE:EndL t (limE x1) L:=⟨hb,hc,h1⟩
    have hlen:Bi reg=some (L.length:Int):=by rw [← hr.len];rfl
    rw [GW]
    unfold exF
    dsimp only
    rw [hlen,Ar,if_neg (by omega)]
    dsimp only
    rw [Ar]
    unfold exE
    rw [Ci,List.take_length]
    have hl0:=AD hb.root
    obtain ⟨x,m1,m2,m3⟩:=NC hs.ok hf hl0 (x:=⟨⟨t.vars,t.init,t.goal,t.ops⟩,reg,edgL t L L.length,L.map (holdsB t.goal),[],[],[]⟩) rfl hr.len (hE.edges hs) (by simp)
    rw [m1,Ar]
    exact ⟨_,rfl,x,rfl,by rw [m2];exact hr,m3⟩
  | @step i L s r h1 h2 hx ih =>
    intro hb hc hil hlim reg hr
    have hf:=hb.few hs
    have hlt:=AD h2
    have hmem:=List.mem_of_getElem? h2
    have hsok:=hb.ok hs.ok hmem
    have hlen:Bi reg=some (L.length:Int):=by rw [← hr.len];rfl
    have hg:(bnd (CF t.goal s) fun q163=>if q163=true then bnd (appI 1 ((L.take i).map (holdsB t.goal)) [true]) fun u195=>some u195 else bnd (appI 1 ((L.take i).map (holdsB t.goal)) [false]) fun u176=>some u176)=some ((L.take (i + 1)).map (holdsB t.goal)):=by
      rw [show CF t.goal s=some (holdsB t.goal s) from rfl,Ar,Pq _ L h2]
      cases holdsB t.goal s with
      | true=>rw [Dj,Cy (by rw [List.length_map,List.length_take,List.length_singleton];omega) (by rw [List.length_map,List.length_take,List.length_singleton];omega),Ar]
      | false=>rw [Cx,Cy (by rw [List.length_map,List.length_take,List.length_singleton];omega) (by rw [List.length_map,List.length_take,List.length_singleton];omega),Ar]
    rw [GW]
    unfold exF
    dsimp only
    rw [hlen,Ar,if_pos (by omega),MO hs.ok.1 hr h2,Ar,if_neg (by simp)]
    dsimp only
    rw [hg,Ar,Qg hs.ok (by rw [hsok.1];have:=hs.ok.1;omega),Ar]
    rcases Ry hs hb hc hlim h2 hr with ⟨st,e1,e2,e3,e4⟩|⟨e1,e2⟩
    · rw [e1,Ar,Ci,Cb (by unfold inI64;omega),Ar]
      dsimp only
      obtain ⟨A,hA⟩:=EA t s (appN t s t.ops.length) L
      have e:expL t s L t.ops.length=L ++ A:=hA
      have hb2:=hb.exp hmem t.ops.length
      have hc2:=hc.exp h2
      have:=ih hb2 hc2 (by rw [e,List.length_append];omega) e4 st.2 e3
      rw [e2]
      rw [e,List.take_append_of_le_length (by omega)] at this
      rw [e]
      exact this
    · rw [e1,Ar,RP]
      dsimp only
      rw [Ar]
      cases hx with
      | full _=>exact ⟨_,rfl,rfl⟩
      | done h3 _=>omega
      | step h3 _ _=>omega
theorem NF {t:Tsk} (hs:Mid t) (lim:Int) {r:Option (List (List Int))} (h:Bx t (limE lim) 0 [t.init] r):∃ x,BQ t lim=some x∧outX t r x:=by
  have hok:=hs.ok
  obtain ⟨q,hq,reg,rfl,hr,hlk⟩:=Oq hok.1 hok.2.2.1
  rw [Oy,Mk hok,Ar,if_neg (by simp),hq,Ar,if_neg (by simp)]
  dsimp only
  by_cases hl:limE lim < 1
  · unfold limE at hl
    rw [if_pos hl]
    cases h with
    | full _=>exact ⟨_,rfl,rfl⟩
    | done h3 _=>unfold limE at h3;simp at h3;omega
    | step h3 _ _=>unfold limE at h3;simp at h3;omega
  · have hl':=hl
    unfold limE at hl
    rw [if_neg hl,Ar]
    rcases Lt hok.1 hr hok.2.2.2.1 (by simp) with ⟨i,hi,_⟩|⟨_,r',hadd,hr',_⟩
    · simp at hi
    · rw [hadd,Ar,if_neg (by simp),Ox hok,Ar]
      exact Sd hs h (HN t) (fun j s k hj=>by omega) (by simp) (by simp;omega) r' hr'
theorem NG {t:Tsk} (hok:¬ TaskOk t) (hn:checkN t≠0) (lim:Int):BQ t lim=some (none,⟨checkN t⟩):=by
  rw [Oy,Oc hok,Ar]
  dsimp only
  rw [if_pos hn]
theorem MP {t:Tsk} (hs:SmallOk t) {lim:Int} (hl:512≤limE lim):∃ L x,BQ t lim=some (some x,⟨0⟩)∧SpX t L x∧EndL t (limE lim) L∧Gf t lim=some (L,true):=by
  obtain ⟨r,y,h1,h2,h3⟩:=My hs.mid lim
  obtain ⟨x,e1,e2⟩:=NF hs.mid lim h1
  have key:∀ {i:Nat} {L:List (List Int)} {r:Option (List (List Int))},Bx t (limE lim) i L r→BL t L→r≠none:=fun h=>by
    induction h with
    | @full i L h=>intro hb;have:=hb.many hs.ok;have:=hs.many;omega
    | done _ _=>intro _ h;cases h
    | @step i L s r _ h2 _ ih=>intro hb;exact ih (hb.exp (List.mem_of_getElem? h2) _)
  cases r with
  | none=>exact (key h1 (HN t) rfl).elim
  | some L =>
    obtain ⟨s,rfl,hs2⟩:=e2
    refine ⟨L,s,e1,hs2,h1.ends (HN t) (fun j s k hj=>by omega) L rfl,?_⟩
    rw [h2]
    exact congrArg some h3
end
section
open Go Go.RowKit
def Le {α:Type} (x y:Option α):Prop:=∀ r,x=some r→y=some r
theorem Le.rf {α:Type} {x:Option α}:Le x x:=fun _ h=>h
theorem Le.bnd {α β:Type} {x x':Option α} {f f':α→Option β} (h:Le x x') (hf:∀ a,Le (f a) (f' a)):Le (bnd x f) (bnd x' f'):=fun r hr=>by
  obtain ⟨a,ha,hb⟩:=bs hr
  rw [h a ha,Ar]
  exact hf a r hb
theorem Le.ite {α:Type} {p:Prop} [Decidable p] {x x' y y':Option α} (h:Le x x') (k:Le y y'):Le (if p then x else y) (if p then x' else y'):=by
  by_cases hp:p
  · rw [if_pos hp,if_pos hp];exact h
  · rw [if_neg hp,if_neg hp];exact k
theorem Le.fin {σ κ:Type} {y:Fin σ κ} {f f':σ→Option κ} (hf:∀ a,Le (f a) (f' a)):Le (fin y f) (fin y f'):=by
  cases y with
  | done s=>exact hf s
  | ret c=>exact Le.rf
theorem Le.rng {α σ ρ:Type} {f f':Nat→α→σ→Option (Ctl σ ρ)} (hf:∀ k a s,Le (f k a s) (f' k a s)):∀ {xs:List α} {k:Nat} {s:σ},Le (rng f xs k s) (rng f' xs k s)
  | [],_,_=>Le.rf
  | x :: xs,k,s=>fun r hr=>by
    simp only [Proofs.YtkbmbcblgdgjlaaGreat.rng] at hr ⊢
    cases hc:f k x s with
    | none=>rw [hc] at hr;cases hr
    | some c =>
      rw [hc] at hr
      rw [hf k x s c hc]
      cases c with
      | next s'=>exact Le.rng hf r hr
      | brk s'=>exact hr
      | ret q=>exact hr
theorem Le.rngN {σ ρ:Type} {f f':Nat→σ→Option (Ctl σ ρ)} {n:Nat} {s:σ} (hf:∀ k s,Le (f k s) (f' k s)):Le (rngN f n s) (rngN f' n s):=Le.rng fun _ k s=>hf k s
theorem Le.itr {σ ρ:Type} {f f':σ→Option (Ctl σ ρ)} (hf:∀ s,Le (f s) (f' s)):∀ (n:Nat) (s:σ),Le (itr f n s) (itr f' n s)
  | 0,_=>Le.rf
  | n + 1,s=>fun r hr=>by
    simp only [Proofs.YtkbmbcblgdgjlaaGreat.itr] at hr ⊢
    cases hc:f s with
    | none=>rw [hc] at hr;cases hr
    | some c =>
      rw [hc] at hr
      rw [hf s c hc]
      cases c with
      | next s'=>exact Le.itr hf n s' r hr
      | brk s'=>exact hr
      | ret q=>exact hr
def lopE {σ ρ:Type} (f:σ→Option (Ctl σ ρ)) (s:σ):Option (Fin σ ρ):=itr f 600 s
theorem Le.lop {σ ρ:Type} {f f':σ→Option (Ctl σ ρ)} {s:σ} (hf:∀ s,Le (f s) (f' s)):Le (lopE f s) (lop f' s):=fun r hr=>HU.2 ⟨600,Le.itr hf 600 s r hr⟩
end
section
open Go Go.RowKit
def factB (vars:List Int) (x:Fct):Bool:=decide (0≤x.var) && (decide (0≤x.val) && (match vars[x.var.toNat]? with|some y=>decide (x.val < y)|none=>false))
theorem Mz {vars:List Int} {x:Fct} (h:factB vars x=true):FactOk vars x:=by
  unfold factB at h
  simp only [Bool.and_eq_true,decide_eq_true_eq] at h
  obtain ⟨h1,h2,h3⟩:=h
  cases hv:vars[x.var.toNat]? with
  | none=>rw [hv] at h3;cases h3
  | some y=>rw [hv] at h3;exact ⟨h1,h2,y,hv,by simpa using h3⟩
def ascB:List Fct→Bool
  | x :: y :: r=>decide (x.var < y.var) && ascB (y :: r)
  | _=>true
theorem Ni:∀ {f:List Fct},ascB f=true→∀ (i:Nat) x y,f[i]?=some x→f[i + 1]?=some y→x.var < y.var
  | [],_,i,x,y,h,_=>by simp at h
  | [_],_,i,x,y,_,h=>by simp at h
  | a :: b :: r,h,i,x,y,h1,h2=>by
    simp only [ascB,Bool.and_eq_true,decide_eq_true_eq] at h
    cases i with
    | zero=>simp at h1 h2;subst h1;subst h2;exact h.1
    | succ i=>exact Ni h.2 i x y (by simpa using h1) (by simpa using h2)
def factsB (vars:List Int) (f:List Fct):Bool:=f.all (factB vars) && ascB f
theorem Jg {vars:List Int} {f:List Fct} (h:factsB vars f=true):FactsOk vars f:=by
  unfold factsB at h
  rw [Bool.and_eq_true,List.all_eq_true] at h
  exact ⟨fun i x hx=>Mz (h.1 x (List.mem_of_getElem? hx)),Ni h.2⟩
def stateB:List Int→List Int→Bool
  | [],[]=>true
  | y :: vars,x :: s=>decide (0≤x) && (decide (x < y) && stateB vars s)
  | _,_=>false
theorem Jh:∀ {vars s:List Int},stateB vars s=true→StateOk vars s
  | [],[],_=>⟨rfl,fun i x y h=>by simp at h⟩
  | y :: vars,x :: s,h=>by
    simp only [stateB,Bool.and_eq_true,decide_eq_true_eq] at h
    obtain ⟨h1,h2⟩:=Jh h.2.2
    refine ⟨by simp [h1],fun i a b ha hb=>?_⟩
    cases i with
    | zero=>simp at ha hb;subst ha;subst hb;exact ⟨h.1,h.2.1⟩
    | succ i=>exact h2 i a b (by simpa using ha) (by simpa using hb)
  | [],_ :: _,h=>by simp [stateB] at h
  | _ :: _,[],h=>by simp [stateB] at h
def nameB (s:ByteArray):Bool:=decide (s.size≤256) && s.data.toList.all fun c=>decide (32≤c.toNat) && decide (c.toNat≤126)
theorem Pr {s:ByteArray} (h:nameB s=true):NameOk s:=by
  unfold nameB at h
  simp only [Bool.and_eq_true,decide_eq_true_eq,List.all_eq_true] at h
  refine ⟨h.1,fun i hi=>h.2 _ ?_⟩
  show s.data[i]∈_
  simp
def opB (vars:List Int) (o:Opr):Bool:=decide (0≤o.cost) && (decide (o.cost≤1048576) && (decide (o.effs.length≤64) && (nameB o.name && (factsB vars o.pre && o.effs.all fun e=>factsB vars e.cond && factB vars ⟨e.var,e.val⟩))))
theorem Rz {vars:List Int} {o:Opr} (h:opB vars o=true):OpOk vars o:=by
  unfold opB at h
  simp only [Bool.and_eq_true,decide_eq_true_eq,List.all_eq_true] at h
  obtain ⟨h1,h2,h3,h4,h5,h6⟩:=h
  exact ⟨h1,h2,h3,Pr h4,Jg h5,fun i e he=>⟨Jg (h6 e (List.mem_of_getElem? he)).1,Mz (h6 e (List.mem_of_getElem? he)).2⟩⟩
def taskB (t:Tsk):Bool:=decide (t.vars.length≤64) && (decide (t.ops.length≤4096) && ((t.vars.all fun n=>decide (1≤n) && decide (n≤64)) && (stateB t.vars t.init && (factsB t.vars t.goal && t.ops.all (opB t.vars)))))
theorem Ps {t:Tsk} (h:taskB t=true):TaskOk t:=by
  unfold taskB at h
  simp only [Bool.and_eq_true,decide_eq_true_eq,List.all_eq_true] at h
  obtain ⟨h1,h2,h3,h4,h5,h6⟩:=h
  exact ⟨h1,h2,fun i n hn=>h3 n (List.mem_of_getElem? hn),Jh h4,Jg h5,fun i o ho=>Rz (h6 o (List.mem_of_getElem? ho))⟩
def He (f:List Fct) (s:List Int):Option Bool:=CF f s
theorem Iy (f:List Fct) (s:List Int):Le (He f s) (CF f s):=Le.rf
def Ds (x:List Int):Option (List Int):=BK x
theorem EW (x:List Int):Le (Ds x) (BK x):=Le.rf
end
section
open Go Go.RowKit
set_option maxRecDepth 20000
attribute [local irreducible] bnd fin rng rngN chkI mkI appI atI natI quoI remI Bj BK BR
def Eq (x:List U64):Option (List U64):=BR x
theorem FT (x:List U64):Le (Eq x) (BR x):=Le.rf
def Co (x:List Fct):Option (List Fct):=Bj x
theorem Fl (x:List Fct):Le (Co x) (Bj x):=Le.rf
def GD (x:List (List Arc)) (y z:List Int):Option (List Int×List Int):=DE x y z
theorem Ji (x:List (List Arc)) (y z:List Int):Le (GD x y z) (DE x y z):=Le.rf
def JJ (x y:Err):Option Bool:=Ep x y
theorem MA (x y:Err):Le (JJ x y) (Ep x y):=Le.rf
def Iz (t:Tsk):Option (Option Gnr×Err):=if taskB t=true then some (some ⟨t⟩,⟨0⟩) else none
theorem KT (t:Tsk):Le (Iz t) (CJ t):=fun r h=>by
  obtain ⟨h1,rfl⟩:=Fy h
  exact Mk (Ps h1)
def Dm (x:Option Gnr) (s:List Int):Option (List Int):=match x with
  | some g=>if stateB g.t.vars s=true then (if s.length≤1000000 then some (appl g.t s) else none) else none
  | none=>none
theorem FH (x:Option Gnr) (s:List Int):Le (Dm x s) (Cf x s):=fun r h=>by
  cases x with
  | none=>cases h
  | some g =>
    unfold Dm at h
    dsimp only at h
    split at h
    · rename_i h1
      obtain ⟨h3,rfl⟩:=Fy h
      unfold Cf
      rw [if_pos h3]
      show some (appS g.t s)=_
      rw [HG (Jh h1)]
    · cases h
noncomputable def Ih (x0:List Int):Option ((Option Pkr)×Err) :=
  if 64 < (x0.length:Int) then (some (none,(⟨5⟩:Err))) else (bnd (rng (ρ:=(Option Pkr)×Err) (fun (k25:Nat) (a26:Int) (s23:Int×Pkr)=>bnd (if a26 < 1 then (some true) else (if 64 < a26 then (some true) else (some false)):Option Bool) fun y48=>if y48=true then (some (.ret (none,(⟨1⟩:Err)))) else (bnd (lopE (ρ:=Ctl (Int×Pkr) ((Option Pkr)×Err)) (fun (s61:Int)=>bnd (shlI 1 s61) fun n76=>if n76 < a26 then (bnd (chkI (s61 + 1)) fun n80=>some (.next n80)) else (some (.brk s61))) 0) fun res59=>fin res59 fun (s87:Int)=>bnd (bnd (chkI (s23.1 + s87)) fun n95=>if 64 < n95 then (bnd (chkI (s23.2.words + 1)) fun n109=>some (0,(⟨s23.2.fields,n109⟩:Pkr))) else (some (s23.1,s23.2)):Option (Int×Pkr)) fun y89=>bnd (chkI (y89.2.words - 1)) fun n133=>bnd (appI 32 y89.2.fields [(⟨n133,y89.1,s87,a26⟩:PFd)]) fun u142=>bnd (chkI (y89.1 + s87)) fun n155=>some (.next (n155,(⟨u142,y89.2.words⟩:Pkr))))) x0 0 (0,(⟨([]:List PFd),1⟩:Pkr))) fun res21=>fin res21 fun (s167:Int×Pkr)=>some ((some s167.2),(⟨0⟩:Err)))
theorem MQ (x0:List Int):Le (Ih x0) (EE x0):=by
  unfold Ih EE
  repeat' (first|apply Le.ite|apply Le.bnd|apply Le.fin|apply Le.rng|apply Le.rngN|apply Le.lop|exact Le.rf|intro _)
noncomputable def Es (x0:PFd):Option U64 :=
  bnd (shlU (1:U64) x0.width) fun n12=>bnd (shlU (n12 - (1:U64)) x0.bit) fun n14=>some n14
theorem Gu (x0:PFd):Le (Es x0) (Cz x0):=by
  unfold Es Cz
  repeat' (first|apply Le.ite|apply Le.bnd|apply Le.fin|apply Le.rng|apply Le.rngN|apply Le.lop|exact Le.rf|intro _)
noncomputable def FA (x0:PFd) (x1:List U64):Option Int :=
  bnd (atI x1 x0.word) fun a15=>bnd (Es x0) fun q26=>bnd (shrU (a15 &&& q26) x0.bit) fun n33=>some n33.toInt
theorem Jy (x0:PFd) (x1:List U64):Le (FA x0 x1) (CZ x0 x1):=by
  unfold FA CZ
  repeat' (first|apply Gu|apply Le.ite|apply Le.bnd|apply Le.fin|apply Le.rng|apply Le.rngN|apply Le.lop|exact Le.rf|intro _)
noncomputable def EX (x0:Pkr) (x1:List Int):Option ((List U64)×Err) :=
  if (x1.length:Int)≠(x0.fields.length:Int) then (some (([]:List U64),(⟨2⟩:Err))) else (bnd (mkI 8 ((0:U64):U64) x0.words) fun u25=>bnd (rng (ρ:=(List U64)×Err) (fun (k50:Nat) (a51:PFd) (s48:(List U64))=>bnd (bnd (x1[k50]?) fun a87=>if a87 < 0 then (some true) else (bnd (x1[k50]?) fun a98=>if a51.size≤a98 then (some true) else (some false)):Option Bool) fun y83=>if y83=true then (some (.ret (([]:List U64),(⟨2⟩:Err)))) else (bnd (atI s48 a51.word) fun a114=>bnd (x1[k50]?) fun a125=>bnd (shlU (BitVec.ofInt 64 a125) a51.bit) fun n135=>bnd (atI s48 a51.word) fun a137=>some (.next (s48.set (a51.word:Int).toNat (a114 ||| n135))))) x0.fields 0 u25) fun res46=>fin res46 fun (s154:(List U64))=>some (s154,(⟨0⟩:Err)))
theorem IE (x0:Pkr) (x1:List Int):Le (EX x0 x1) (Bz x0 x1):=by
  unfold EX Bz
  repeat' (first|apply Le.ite|apply Le.bnd|apply Le.fin|apply Le.rng|apply Le.rngN|apply Le.lop|exact Le.rf|intro _)
noncomputable def EF (x0:Pkr) (x1:List U64):Option ((List Int)×Err) :=
  if (x1.length:Int)≠x0.words then (some (([]:List Int),(⟨2⟩:Err))) else (bnd (mkI 8 (0:Int) (x0.fields.length:Int)) fun u25=>bnd (Eq x1) fun q38=>bnd (rng (ρ:=(List Int)×Err) (fun (k60:Nat) (a61:PFd) (s58:(List Int)×(List U64))=>bnd (FA a61 x1) fun q97=>bnd (s58.1[k60]?) fun a105=>bnd ((s58.1.set k60 q97)[k60]?) fun a117=>if a61.size≤a117 then (some (.ret (([]:List Int),(⟨2⟩:Err)))) else (bnd (atI s58.2 a61.word) fun a128=>bnd (Es a61) fun q139=>bnd (atI s58.2 a61.word) fun a146=>some (.next ((s58.1.set k60 q97),(s58.2.set (a61.word:Int).toNat (a128 &&& ~~~q139)))))) x0.fields 0 (u25,q38)) fun res56=>fin res56 fun (s163:(List Int)×(List U64))=>bnd (rng (ρ:=(List Int)×Err) (fun (k171:Nat) (a172:U64) (s169:Unit)=>bnd (s163.2[k171]?) fun a182=>if (a182.toNat:Int)≠((0:U64).toNat:Int) then (some (.ret (([]:List Int),(⟨2⟩:Err)))) else (some (.next ()))) q38 0 ()) fun res167=>fin res167 fun (s196:Unit)=>some (s163.1,(⟨0⟩:Err)))
theorem HO (x0:Pkr) (x1:List U64):Le (EF x0 x1) (Cv x0 x1):=by
  unfold EF Cv
  repeat' (first|apply Jy|apply Gu|apply FT|apply Le.ite|apply Le.bnd|apply Le.fin|apply Le.rng|apply Le.rngN|apply Le.lop|exact Le.rf|intro _)
noncomputable def EY (x0:Pkr) (x1:List U64):Option Int :=
  bnd (rng (ρ:=Int) (fun (k13:Nat) (a14:U64) (s11:U64)=>bnd (shrU ((s11 ^^^ a14) * (13787848793156543929:U64)) 29) fun n31=>some (.next (((s11 ^^^ a14) * (13787848793156543929:U64)) ^^^ n31))) x1 0 ((BitVec.ofInt 64 (x1.length:Int)) + (11400714819323198485:U64))) fun res9=>fin res9 fun (s37:U64)=>bnd (shrU s37 2) fun n39=>some n39.toInt
theorem IF (x0:Pkr) (x1:List U64):Le (EY x0 x1) (BT x0 x1):=by
  unfold EY BT
  repeat' (first|apply Le.ite|apply Le.bnd|apply Le.fin|apply Le.rng|apply Le.rngN|apply Le.lop|exact Le.rf|intro _)
noncomputable def Do (x0:List U64) (x1:List U64):Option Bool :=
  if (x0.length:Int)≠(x1.length:Int) then (some false) else (bnd (rng (ρ:=Bool) (fun (k18:Nat) (a19:U64) (s16:Unit)=>bnd (x1[k18]?) fun a36=>if (a19.toNat:Int)≠(a36.toNat:Int) then (some (.ret false)) else (some (.next ()))) x0 0 ()) fun res14=>fin res14 fun (s50:Unit)=>some true)
theorem FU (x0:List U64) (x1:List U64):Le (Do x0 x1) (BC x0 x1):=by
  unfold Do BC
  repeat' (first|apply Le.ite|apply Le.bnd|apply Le.fin|apply Le.rng|apply Le.rngN|apply Le.lop|exact Le.rf|intro _)
noncomputable def Gg (x0:List Int):Option ((Option Reg)×Err) :=
  bnd (Ih x0) fun q4=>if q4.2.n≠0 then (some (none,(⟨q4.2.n⟩:Err))) else (bnd q4.1 fun o22=>some ((some (⟨o22,([]:List REn),(⟨[]⟩:MapR 3 Int Int)⟩:Reg)),(⟨0⟩:Err)))
theorem KC (x0:List Int):Le (Gg x0) (Da x0):=by
  unfold Gg Da
  repeat' (first|apply MQ|apply Le.ite|apply Le.bnd|apply Le.fin|apply Le.rng|apply Le.rngN|apply Le.lop|exact Le.rf|intro _)
noncomputable def DT (x0:Reg) (x1:List Int):Option ((List U64)×Int×Int×Err) :=
  bnd (EX x0.packer x1) fun q20=>if q20.2.n≠0 then (some (([]:List U64),0,(-1),(⟨2⟩:Err))) else (bnd (EY x0.packer q20.1) fun q41=>bnd (rng (ρ:=(List U64)×Int×Int×Err) (fun (k66:Nat) (a67:Int) (s64:Unit)=>bnd (atI x0.entries a67) fun a100=>bnd (Do a100.words q20.1) fun q118=>if q118=true then some (.ret (q20.1,q41,a67,(⟨0⟩:Err))) else some (.next ())) (mget ([]:List Int) x0.table.l q41) 0 ()) fun res62=>fin res62 fun (s139:Unit)=>some (q20.1,q41,(-1),(⟨0⟩:Err)))
theorem GM (x0:Reg) (x1:List Int):Le (DT x0 x1) (Bq x0 x1):=by
  unfold DT Bq
  repeat' (first|apply IF|apply IE|apply FU|apply Le.ite|apply Le.bnd|apply Le.fin|apply Le.rng|apply Le.rngN|apply Le.lop|exact Le.rf|intro _)
noncomputable def Dt (x0:Reg) (x1:List Int):Option (Int×Bool×Err×Reg) :=
  bnd (DT x0 x1) fun q5=>if q5.2.2.2.n≠0 then (some (0,false,(⟨q5.2.2.2.n⟩:Err),x0)) else (if 0≤q5.2.2.1 then (some (q5.2.2.1,false,(⟨0⟩:Err),x0)) else (if 65536≤(x0.entries.length:Int) then (some (0,false,(⟨10⟩:Err),x0)) else (bnd (appI 48 x0.entries [(⟨q5.1,(⟨(-1),(-1),0⟩:RLk)⟩:REn)]) fun u53=>bnd (appI 8 (mget ([]:List Int) x0.table.l q5.2.1) ([(x0.entries.length:Int)]:List Int)) fun u82=>some ((x0.entries.length:Int),true,(⟨0⟩:Err),(⟨x0.packer,u53,(⟨mput x0.table.l q5.2.1 u82⟩:MapR 3 Int Int)⟩:Reg)))))
theorem Hf (x0:Reg) (x1:List Int):Le (Dt x0 x1) (Bt x0 x1):=by
  unfold Dt Bt
  repeat' (first|apply GM|apply Le.ite|apply Le.bnd|apply Le.fin|apply Le.rng|apply Le.rngN|apply Le.lop|exact Le.rf|intro _)
noncomputable def CL (x0:Reg):Option Int :=
  some (x0.entries.length:Int)
theorem DU (x0:Reg):Le (CL x0) (Bi x0):=by
  unfold CL Bi
  repeat' (first|apply Le.ite|apply Le.bnd|apply Le.fin|apply Le.rng|apply Le.rngN|apply Le.lop|exact Le.rf|intro _)
noncomputable def DY (x0:Reg) (x1:Int):Option Bool :=
  bnd (if 0≤x1 then (if x1 < (x0.entries.length:Int) then (some true) else (some false)) else (some false):Option Bool) fun y3=>some y3
theorem Hg (x0:Reg) (x1:Int):Le (DY x0 x1) (Cd x0 x1):=by
  unfold DY Cd
  repeat' (first|apply Le.ite|apply Le.bnd|apply Le.fin|apply Le.rng|apply Le.rngN|apply Le.lop|exact Le.rf|intro _)
noncomputable def DJ (x0:Reg) (x1:Int):Option ((List Int)×Err) :=
  bnd (DY x0 x1) fun q3=>if q3=true then bnd (atI x0.entries x1) fun a27=>bnd (EF x0.packer a27.words) fun q45=>some (q45.1,(⟨q45.2.n⟩:Err)) else some (([]:List Int),(⟨1⟩:Err))
theorem GA (x0:Reg) (x1:Int):Le (DJ x0 x1) (BF x0 x1):=by
  unfold DJ BF
  repeat' (first|apply HO|apply Hg|apply Le.ite|apply Le.bnd|apply Le.fin|apply Le.rng|apply Le.rngN|apply Le.lop|exact Le.rf|intro _)
noncomputable def Dn (x0:Option Gnr) (x1:List Int):Option (List Suc) :=
  bnd (Dm x0 x1) fun q7=>bnd (rng (ρ:=(List Suc)) (fun (k23:Nat) (a24:Int) (s21:(List Suc))=>bnd (Ds x1) fun q46=>bnd (x0) fun o56=>bnd (atI o56.t.ops a24) fun a88=>bnd (rng (ρ:=Ctl (List Suc) (List Suc)) (fun (k115:Nat) (a116:Eff) (s113:(List Int))=>bnd (He a116.cond x1) fun q150=>if q150=true then bnd (atI s113 a116.var) fun a157=>some (.next (s113.set (a116.var:Int).toNat a116.val)) else some (.next s113)) a88.effs 0 q46) fun res111=>fin res111 fun (s175:(List Int))=>bnd (appI 32 s21 [(⟨a24,s175⟩:Suc)]) fun u179=>some (.next u179)) q7 0 ([]:List Suc)) fun res19=>fin res19 fun (s195:(List Suc))=>some s195
theorem FI (x0:Option Gnr) (x1:List Int):Le (Dn x0 x1) (Bd x0 x1):=by
  unfold Dn Bd
  repeat' (first|apply EW|apply FH|apply Iy|apply Le.ite|apply Le.bnd|apply Le.fin|apply Le.rng|apply Le.rngN|apply Le.lop|exact Le.rf|intro _)
noncomputable def Hh  : Option (Option Que) :=
  some (some (⟨([]:List QEn),0⟩:Que))
theorem LB  : Le (Hh ) (DR ):=by
  unfold Hh DR
  repeat' (first|apply Le.ite|apply Le.bnd|apply Le.fin|apply Le.rng|apply Le.rngN|apply Le.lop|exact Le.rf|intro _)
noncomputable def Eh (x0:QEn) (x1:QEn):Option Bool :=
  if x0.key≠x1.key then (bnd (if x0.key < x1.key then (some true) else (some false):Option Bool) fun y24=>some y24) else (if x0.tie≠x1.tie then (bnd (if x0.tie < x1.tie then (some true) else (some false):Option Bool) fun y34=>some y34) else (bnd (if x0.number < x1.number then (some true) else (some false):Option Bool) fun y43=>some y43))
theorem Hi (x0:QEn) (x1:QEn):Le (Eh x0 x1) (BV x0 x1):=by
  unfold Eh BV
  repeat' (first|apply Le.ite|apply Le.bnd|apply Le.fin|apply Le.rng|apply Le.rngN|apply Le.lop|exact Le.rf|intro _)
noncomputable def EZ (x0:Que):Option Int :=
  some (x0.heap.length:Int)
theorem IG (x0:Que):Le (EZ x0) (CG x0):=by
  unfold EZ CG
  repeat' (first|apply Le.ite|apply Le.bnd|apply Le.fin|apply Le.rng|apply Le.rngN|apply Le.lop|exact Le.rf|intro _)
noncomputable def EN (x0:Que):Option (Int×Int×Int×Err) :=
  if (x0.heap.length:Int)=0 then (some (0,0,0,(⟨3⟩:Err))) else (bnd (atI x0.heap 0) fun a20=>some (a20.key,a20.tie,a20.item,(⟨0⟩:Err)))
theorem Ii (x0:Que):Le (EN x0) (CS x0):=by
  unfold EN CS
  repeat' (first|apply Le.ite|apply Le.bnd|apply Le.fin|apply Le.rng|apply Le.rngN|apply Le.lop|exact Le.rf|intro _)
noncomputable def Fm (x0:Que) (x1:Int):Option Que :=
  bnd (lopE (ρ:=Que) (fun (s5:Int×Que)=>if 0 < s5.1 then (bnd (chkI (s5.1 - 1)) fun n23=>bnd (quoI n23 2) fun n26=>bnd (atI s5.2.heap s5.1) fun a39=>bnd (atI s5.2.heap n26) fun a54=>bnd (Eh a39 a54) fun q69=>if q69=true then bnd (atI s5.2.heap n26) fun a81=>bnd (atI s5.2.heap s5.1) fun a96=>bnd (atI s5.2.heap s5.1) fun a111=>bnd (atI (s5.2.heap.set (s5.1:Int).toNat a81) n26) fun a128=>some (.next (n26,(⟨((s5.2.heap.set (s5.1:Int).toNat a81).set (n26:Int).toNat a96),s5.2.next⟩:Que))) else some (.ret s5.2)) else (some (.brk (s5.1,s5.2)))) (x1,x0)) fun res3=>fin res3 fun (s154:Int×Que)=>some s154.2
theorem Jj (x0:Que) (x1:Int):Le (Fm x0 x1) (CO x0 x1):=by
  unfold Fm CO
  repeat' (first|apply Hi|apply Le.ite|apply Le.bnd|apply Le.fin|apply Le.rng|apply Le.rngN|apply Le.lop|exact Le.rf|intro _)
noncomputable def EO (x0:Que) (x1:Int):Option Que :=
  bnd (lopE (ρ:=Que) (fun (s5:Int×Que)=>bnd (chkI (2 * s5.1)) fun n22=>bnd (chkI (n22 + 1)) fun n25=>if (s5.2.heap.length:Int)≤n25 then (some (.ret s5.2)) else (bnd (bnd (bnd (chkI (n25 + 1)) fun n55=>if n55 < (s5.2.heap.length:Int) then (bnd (chkI (n25 + 1)) fun n61=>bnd (atI s5.2.heap n61) fun a64=>bnd (atI s5.2.heap n25) fun a79=>bnd (Eh a64 a79) fun q94=>if q94=true then some true else some false) else (some false):Option Bool) fun y51=>if y51=true then (bnd (chkI (n25 + 1)) fun n121=>some n121) else (some n25):Option Int) fun y46=>bnd (atI s5.2.heap y46) fun a138=>bnd (atI s5.2.heap s5.1) fun a153=>bnd (Eh a138 a153) fun q168=>if q168=true then bnd (atI s5.2.heap y46) fun a180=>bnd (atI s5.2.heap s5.1) fun a195=>bnd (atI s5.2.heap s5.1) fun a210=>bnd (atI (s5.2.heap.set (s5.1:Int).toNat a180) y46) fun a227=>some (.next (y46,(⟨((s5.2.heap.set (s5.1:Int).toNat a180).set (y46:Int).toNat a195),s5.2.next⟩:Que))) else some (.ret s5.2))) (x1,x0)) fun res3=>fin res3 fun (_:Int×Que)=>none
theorem Ij (x0:Que) (x1:Int):Le (EO x0 x1) (CA x0 x1):=by
  unfold EO CA
  repeat' (first|apply Hi|apply Le.ite|apply Le.bnd|apply Le.fin|apply Le.rng|apply Le.rngN|apply Le.lop|exact Le.rf|intro _)
noncomputable def DV (x0:Que) (x1:Int) (x2:Int) (x3:Int):Option (Err×Que) :=
  if 65536≤(x0.heap.length:Int) then (some ((⟨10⟩:Err),x0)) else (bnd (appI 32 x0.heap [(⟨x1,x2,x3,x0.next⟩:QEn)]) fun u29=>bnd (chkI (x0.next + 1)) fun n42=>bnd (chkI ((u29.length:Int) - 1)) fun n49=>bnd (Fm (⟨u29,n42⟩:Que) n49) fun q57=>some ((⟨0⟩:Err),q57))
theorem Ik (x0:Que) (x1:Int) (x2:Int) (x3:Int):Le (DV x0 x1 x2 x3) (BI x0 x1 x2 x3):=by
  unfold DV BI
  repeat' (first|apply Jj|apply Le.ite|apply Le.bnd|apply Le.fin|apply Le.rng|apply Le.rngN|apply Le.lop|exact Le.rf|intro _)
noncomputable def Fa (x0:Que):Option (Int×Int×Int×Err×Que) :=
  bnd (EN x0) fun q2=>if q2.2.2.2.n≠0 then (some (0,0,0,(⟨q2.2.2.2.n⟩:Err),x0)) else (bnd (chkI ((x0.heap.length:Int) - 1)) fun n35=>bnd (atI x0.heap n35) fun a38=>bnd (atI x0.heap 0) fun a53=>bnd (cutI (x0.heap.set (0:Int).toNat a38) 0 n35) fun u70=>bnd (EO (⟨u70,x0.next⟩:Que) 0) fun q82=>some (q2.1,q2.2.1,q2.2.2.1,(⟨0⟩:Err),q82))
theorem IH (x0:Que):Le (Fa x0) (Cr x0):=by
  unfold Fa Cr
  repeat' (first|apply Ii|apply Ij|apply Le.ite|apply Le.bnd|apply Le.fin|apply Le.rng|apply Le.rngN|apply Le.lop|exact Le.rf|intro _)
noncomputable def FB (x0:Tsk):Option Tsk :=
  bnd (Ds x0.vars) fun q29=>bnd (Ds x0.init) fun q31=>bnd (Co x0.goal) fun q33=>bnd (some (q29,q31,q33):Option ((List Int)×(List Int)×(List Fct))) fun y35=>bnd (rng (ρ:=Tsk) (fun (k156:Nat) (a157:Opr) (s154:(List Opr))=>bnd (Co a157.pre) fun q195=>bnd (rng (ρ:=Ctl (List Opr) Tsk) (fun (k213:Nat) (a214:Eff) (s211:(List Eff))=>bnd (Co a214.cond) fun q248=>bnd (appI 40 s211 [(⟨q248,a214.var,a214.val⟩:Eff)]) fun u262=>some (.next u262)) a157.effs 0 ([]:List Eff)) fun res209=>fin res209 fun (s278:(List Eff))=>bnd (appI 72 s154 [(⟨a157.name,a157.cost,q195,s278⟩:Opr)]) fun u286=>some (.next u286)) x0.ops 0 ([]:List Opr)) fun res152=>fin res152 fun (s304:(List Opr))=>some (⟨y35.1,y35.2.1,y35.2.2,s304⟩:Tsk)
theorem Jz (x0:Tsk):Le (FB x0) (CI x0):=by
  unfold FB CI
  repeat' (first|apply Fl|apply EW|apply Le.ite|apply Le.bnd|apply Le.fin|apply Le.rng|apply Le.rngN|apply Le.lop|exact Le.rf|intro _)
noncomputable def Ei (x0:List (List Arc)) (x1:List Int):Option ((List Int)×(List Int)) :=
  bnd (mkI 8 (0:Int) (x0.length:Int)) fun u7=>bnd (mkI 8 (0:Int) (x0.length:Int)) fun u9=>bnd (some (u7,u9):Option ((List Int)×(List Int))) fun y11=>bnd (rngN (ρ:=(List Int)×(List Int)) (fun (k77:Nat) (s75:(List Int)×(List Int))=>bnd (s75.1[k77]?) fun a104=>bnd (s75.2[k77]?) fun a116=>some (.next ((s75.1.set k77 1125899906842624),(s75.2.set k77 1125899906842624)))) y11.1.length (y11.1,y11.2)) fun res73=>fin res73 fun (s132:(List Int)×(List Int))=>bnd (Hh) fun q134=>bnd q134 fun o144=>bnd (rng (ρ:=(List Int)×(List Int)) (fun (k151:Nat) (a152:Int) (s149:(List Int)×(List Int)×Que)=>bnd (atI s149.1 a152) fun a180=>bnd (atI s149.2.1 a152) fun a194=>bnd (DV s149.2.2 0 0 a152) fun q208=>some (.next ((s149.1.set (a152:Int).toNat 0),(s149.2.1.set (a152:Int).toNat 0),q208.2))) x1 0 (s132.1,s132.2,o144)) fun res147=>fin res147 fun (s222:(List Int)×(List Int)×Que)=>bnd (lopE (ρ:=(List Int)×(List Int)) (fun (s226:(List Int)×(List Int)×Que)=>bnd (EZ s226.2.2) fun q249=>if 0 < q249 then (bnd (Fa s226.2.2) fun q260=>if q260.2.2.2.1.n≠0 then (some (.brk (s226.1,s226.2.1,q260.2.2.2.2))) else (bnd (bnd (atI s226.1 q260.2.2.1) fun a285=>if q260.1≠a285 then (some true) else (bnd (atI s226.2.1 q260.2.2.1) fun a298=>if q260.2.1≠a298 then (some true) else (some false)):Option Bool) fun y281=>if y281=true then (some (.next (s226.1,s226.2.1,q260.2.2.2.2))) else (bnd (atI x0 q260.2.2.1) fun a316=>bnd (rng (ρ:=Ctl ((List Int)×(List Int)×Que) ((List Int)×(List Int))) (fun (k337:Nat) (a338:Arc) (s335:(List Int)×(List Int)×Que)=>bnd (chkI (q260.1 + a338.weight)) fun n375=>bnd (chkI (q260.2.1 + 1)) fun n378=>bnd (bnd (atI s335.1 a338.dst) fun a385=>if a385 < n375 then (some true) else (bnd (atI s335.1 a338.dst) fun a398=>if n375=a398 then (bnd (atI s335.2.1 a338.dst) fun a411=>if a411≤n378 then (some true) else (some false)) else (some false)):Option Bool) fun y381=>if y381=true then (some (.next (s335.1,s335.2.1,s335.2.2))) else (bnd (atI s335.1 a338.dst) fun a429=>bnd (atI s335.2.1 a338.dst) fun a443=>bnd (DV s335.2.2 n375 n378 a338.dst) fun q457=>if q457.1.n≠0 then (bnd (GD x0 (s335.1.set (a338.dst:Int).toNat n375) (s335.2.1.set (a338.dst:Int).toNat n378)) fun q472=>some (.ret (.ret (q472.1,q472.2)))) else (some (.next ((s335.1.set (a338.dst:Int).toNat n375),(s335.2.1.set (a338.dst:Int).toNat n378),q457.2))))) a316 0 (s226.1,s226.2.1,q260.2.2.2.2)) fun res333=>fin res333 fun (s491:(List Int)×(List Int)×Que)=>some (.next (s491.1,s491.2.1,s491.2.2))))) else (some (.brk (s226.1,s226.2.1,s226.2.2)))) (s222.1,s222.2.1,s222.2.2)) fun res224=>fin res224 fun (s497:(List Int)×(List Int)×Que)=>some (s497.1,s497.2.1)
theorem II (x0:List (List Arc)) (x1:List Int):Le (Ei x0 x1) (BB x0 x1):=by
  unfold Ei BB
  repeat' (first|apply Ji|apply LB|apply IG|apply IH|apply Ik|apply Le.ite|apply Le.bnd|apply Le.fin|apply Le.rng|apply Le.rngN|apply Le.lop|exact Le.rf|intro _)
noncomputable def DZ (x0:Spa):Option Spa :=
  bnd (CL x0.states) fun q45=>bnd (mkI 24 ([]:List Arc) q45) fun u55=>bnd (mkI 24 ([]:List Arc) q45) fun u57=>bnd (some (u55,u57):Option ((List (List Arc))×(List (List Arc)))) fun y59=>bnd (rng (ρ:=Spa) (fun (k179:Nat) (a180:Edj) (s177:(List (List Arc))×(List (List Arc)))=>bnd (atI x0.t.ops a180.label) fun a258=>bnd (atI s177.1 a180.src) fun a279=>bnd (appI 24 a279 [(⟨a180.src,a180.dst,a258.cost⟩:Arc)]) fun u304=>bnd (atI s177.1 a180.src) fun a315=>bnd (atI s177.2 a180.dst) fun a330=>bnd (appI 24 a330 [(⟨a180.dst,a180.src,a258.cost⟩:Arc)]) fun u355=>bnd (atI s177.2 a180.dst) fun a366=>some (.next ((s177.1.set (a180.src:Int).toNat u304),(s177.2.set (a180.dst:Int).toNat u355)))) x0.edges 0 (y59.1,y59.2)) fun res175=>fin res175 fun (s390:(List (List Arc))×(List (List Arc)))=>bnd (rng (ρ:=Spa) (fun (k446:Nat) (a447:Bool) (s444:(List Int))=>if a447=true then (bnd (appI 8 s444 [(k446:Int)]) fun u469=>some (.next u469)) else (some (.next s444))) x0.goals 0 ([]:List Int)) fun res442=>fin res442 fun (s485:(List Int))=>bnd (Ei s390.1 ([0]:List Int)) fun q497=>bnd (Ei s390.2 s485) fun q561=>some (⟨(⟨x0.t.vars,x0.t.init,x0.t.goal,x0.t.ops⟩:Tsk),x0.states,x0.edges,x0.goals,q497.1,q561.1,q561.2⟩:Spa)
theorem Hj (x0:Spa):Le (DZ x0) (BM x0):=by
  unfold DZ BM
  repeat' (first|apply II|apply DU|apply Le.ite|apply Le.bnd|apply Le.fin|apply Le.rng|apply Le.rngN|apply Le.lop|exact Le.rf|intro _)
noncomputable def Fo (x0:Tsk) (x1:Int):Option ((Option Spa)×Err) :=
  bnd (Iz x0) fun q25=>if q25.2.n≠0 then (some (none,(⟨q25.2.n⟩:Err))) else (bnd (Gg x0.vars) fun q40=>if q40.2.n≠0 then (some (none,(⟨q40.2.n⟩:Err))) else (if (max 0 (min x1 65536)) < 1 then (some (none,(⟨10⟩:Err))) else (bnd q40.1 fun o54=>bnd (Dt o54 x0.init) fun q57=>if q57.2.2.1.n≠0 then (some (none,(⟨q57.2.2.1.n⟩:Err))) else (bnd (FB x0) fun q74=>bnd (lopE (ρ:=(Option Spa)×Err) (fun (s105:Int×(List Edj)×(List Bool)×Reg)=>bnd (CL s105.2.2.2) fun q130=>if s105.1 < q130 then (bnd (DJ s105.2.2.2 s105.1) fun q141=>if q141.2.n≠0 then (some (.ret (none,(⟨q141.2.n⟩:Err)))) else (bnd (bnd (He x0.goal q141.1) fun q163=>if q163=true then bnd (appI 1 s105.2.2.1 [true]) fun u195=>some u195 else bnd (appI 1 s105.2.2.1 [false]) fun u176=>some u176:Option (List Bool)) fun y157=>bnd (Dn q25.1 q141.1) fun q212=>bnd (rng (ρ:=Ctl (Int×(List Edj)×(List Bool)×Reg) ((Option Spa)×Err)) (fun (k227:Nat) (a228:Suc) (s225:(List Edj)×Reg)=>bnd (Dt s225.2 a228.state) fun q263=>bnd (bnd (JJ (⟨q263.2.2.1.n⟩:Err) (⟨10⟩:Err)) fun q283=>if q283=true then some true else if q263.2.1=true then (if (max 0 (min x1 65536))≤q263.1 then (some true) else (some false)) else (some false):Option Bool) fun y279=>if y279=true then (some (.ret (.ret (none,(⟨10⟩:Err))))) else (if q263.2.2.1.n≠0 then (some (.ret (.ret (none,(⟨q263.2.2.1.n⟩:Err))))) else (bnd (appI 24 s225.1 [(⟨s105.1,a228.op,q263.1⟩:Edj)]) fun u304=>some (.next (u304,q263.2.2.2))))) q212 0 (s105.2.1,s105.2.2.2)) fun res223=>fin res223 fun (s321:(List Edj)×Reg)=>bnd (chkI (s105.1 + 1)) fun n323=>some (.next (n323,s321.1,y157,s321.2)))) else (some (.brk (s105.1,s105.2.1,s105.2.2.1,s105.2.2.2)))) (0,([]:List Edj),([]:List Bool),q57.2.2.2)) fun res103=>fin res103 fun (s330:Int×(List Edj)×(List Bool)×Reg)=>bnd (DZ (⟨(⟨q74.vars,q74.init,q74.goal,q74.ops⟩:Tsk),s330.2.2.2,s330.2.1,s330.2.2.1,([]:List Int),([]:List Int),([]:List Int)⟩:Spa)) fun q341=>some ((some q341),(⟨0⟩:Err))))))
theorem Jk (x0:Tsk) (x1:Int):Le (Fo x0 x1) (BQ x0 x1):=by
  unfold Fo BQ
  repeat' (first|apply MA|apply Hj|apply Jz|apply KC|apply Hf|apply DU|apply GA|apply FI|apply KT|apply Iy|apply Le.ite|apply Le.bnd|apply Le.fin|apply Le.rng|apply Le.rngN|apply Le.lop|exact Le.rf|intro _)
noncomputable def EP (x0:Spa):Option Int :=
  bnd (CL x0.states) fun q45=>some q45
theorem Il (x0:Spa):Le (EP x0) (Du x0):=by
  unfold EP Du
  repeat' (first|apply DU|apply Le.ite|apply Le.bnd|apply Le.fin|apply Le.rng|apply Le.rngN|apply Le.lop|exact Le.rf|intro _)
noncomputable def IA  : Option Bool :=
  bnd (Fo (⟨([2]:List Int),([0]:List Int),([]:List Fct),[(⟨(⟨#[]⟩:ByteArray),0,([]:List Fct),[(⟨([]:List Fct),0,1⟩:Eff)]⟩:Opr)]⟩:Tsk) 5) fun q33=>bnd (if q33.2.n=0 then (if q33.1.isNone=false then (bnd q33.1 fun o53=>bnd (EP o53) fun q57=>if q57=2 then (some true) else (some false)) else (some false)) else (some false):Option Bool) fun y47=>some y47
theorem KU  : Le (IA ) (CT ):=by
  unfold IA CT
  repeat' (first|apply Jk|apply Il|apply Le.ite|apply Le.bnd|apply Le.fin|apply Le.rng|apply Le.rngN|apply Le.lop|exact Le.rf|intro _)
set_option maxRecDepth 100000 in
theorem awake25:CT=some true:=KU true (by kernel_rfl)
end
section
set_option linter.unusedVariables false
set_option linter.unusedSimpArgs false
open Go Go.RowKit
theorem Qt {t:Tsk} (h:SmallOk t):Ew t=some true:=by unfold Ew;rw [Bf h]
theorem Qu {t:Tsk} (h:¬ SmallOk t):Ew t=some false:=by unfold Ew;rw [AU h]
theorem lim512:512≤limE 512:=by unfold limE;omega
theorem SpX.find {t:Tsk} {L:List (List Int)} {x:Spa} (h:SpX t L x) (hok:TaskOk t) {s:List Int} (hs:StateOk t.vars s):(∃ i:Nat,L[i]?=some s∧Cg x s=some ((i:Int),⟨0⟩))∨(¬ s∈L∧Cg x s=some (0,⟨3⟩)):=by
  unfold Cg CH
  obtain ⟨ws,hh,_,_,hf⟩:=KA hok.1 h.reg hs
  rcases hf with ⟨i,hi,hf⟩|⟨hno,hf⟩
  · rw [hf,Ar]
    refine .inl ⟨i,hi,?_⟩
    dsimp only
    rw [if_neg (by simp),if_neg (by omega),Ar]
  · rw [hf,Ar]
    refine .inr ⟨fun hm=>?_,?_⟩
    · obtain ⟨i,hi⟩:=List.getElem?_of_mem hm
      exact hno i hi
    · dsimp only
      rw [if_neg (by simp),if_pos (by omega),Ar]
end
section
set_option linter.unusedVariables false
set_option linter.unusedSimpArgs false
open Go Go.RowKit
abbrev PS:=List (List Arc)×List Int
noncomputable def pfG (x0:Tsk) (k65:Int):Suc→List (List Arc)→Option (Ctl (List (List Arc)) (Ctl PS (List Int×Err))):=fun a144 s141=>bnd (Gn x0 a144.state) fun q177=>if q177.2.n≠0 then (some (.ret (.ret (([]:List Int),(⟨q177.2.n⟩:Err))))) else (bnd (atI s141 q177.1) fun a191=>bnd (atI x0.ops a144.op) fun a206=>bnd (appI 24 a191 [(⟨q177.1,k65,a206.cost⟩:Arc)]) fun u237=>bnd (atI s141 q177.1) fun a248=>some (.next (s141.set (q177.1:Int).toNat u237)))
noncomputable def pfF (x0:Tsk) (gen:Option Gnr):Nat→PS→Option (Ctl PS (List Int×Err)):=fun k65 s63=>bnd (Fx x0 (k65:Int)) fun q84=>if q84.2.n≠0 then (some (.ret (([]:List Int),(⟨q84.2.n⟩:Err)))) else (bnd (bnd (CF x0.goal q84.1) fun q105=>if q105=true then bnd (appI 8 s63.2 [(k65:Int)]) fun u112=>some u112 else some s63.2:Option (List Int)) fun y99=>bnd (Bd gen q84.1) fun q128=>bnd (rng (ρ:=Ctl PS (List Int×Err)) (fun (_:Nat) (a144:Suc) (s141:(List (List Arc)))=>pfG x0 (k65:Int) a144 s141) q128 0 s63.1) fun res139=>fin res139 fun (s267:(List (List Arc)))=>some (.next (s267,y99)))
theorem OA (x0:Tsk):CP x0=bnd (CJ x0) fun q24=>if q24.2.n≠0 then (some (([]:List Int),(⟨q24.2.n⟩:Err))) else (bnd (DD x0) fun q39=>if 65536 < q39 then (some (([]:List Int),(⟨5⟩:Err))) else (bnd (mkI 24 ([]:List Arc) q39) fun u48=>bnd (natI q39) fun N74=>bnd (rngN (ρ:=(List Int)×Err) (fun (k65:Nat) (s63:PS)=>pfF x0 q24.1 k65 s63) N74 (u48,([]:List Int))) fun res61=>fin res61 fun (s273:PS)=>bnd (BB s273.1 s273.2) fun q279=>some (q279.1,(⟨0⟩:Err)))):=rfl
end
section
open Go Go.RowKit
theorem Hk {p q:Prop}:(bof p || bof q)=bof (p∨q):=by
  by_cases h:p
  · rw [Bf h,Bf (p:=p∨q) (.inl h)];rfl
  · by_cases h2:q
    · rw [AU h,Bf h2,Bf (p:=p∨q) (.inr h2)];rfl
    · rw [AU h,AU h2,AU (p:=p∨q) (fun hh=>hh.elim h h2)];rfl
theorem Se:bof False=false:=AU id
theorem Gv {α ρ:Type} {f:Nat→α→Bool→Option (Ctl Bool ρ)} {xs:List α} {b:Bool} (P:α→Prop) (h:∀ k x s,xs[k]?=some x→f k x s=some (.next (s || bof (P x)))):rng f xs 0 b=some (.done (b || bof (∃ x∈xs,P x))):=by
  rw [En (fun k=>b || bof (∃ x∈xs.take k,P x)) ?a ?b,List.take_length]
  case a=>simp [Se]
  case b =>
    intro k x hk
    rw [h k x _ hk,Bool.or_assoc,Hk]
    congr 3
    rw [FL]
    rw [List.take_add_one,hk]
    constructor
    · rintro (⟨y,hy,hp⟩|hp)
      · exact ⟨y,List.mem_append.2 (.inl hy),hp⟩
      · exact ⟨x,List.mem_append.2 (.inr (by simp)),hp⟩
    · rintro ⟨y,hy,hp⟩
      rcases List.mem_append.1 hy with hy|hy
      · exact .inl ⟨y,hy,hp⟩
      · obtain rfl:y=x:=by simpa using hy
        exact .inr hp
theorem Qv {ρ:Type} {f:Nat→Bool→Option (Ctl Bool ρ)} {n:Nat} {b:Bool} (P:Nat→Prop) (h:∀ k s,k < n→f k s=some (.next (s || bof (P k)))):rngN f n b=some (.done (b || bof (∃ k,k < n∧P k))):=by
  unfold rngN
  rw [Gv P (fun k x s hk=>h x s (List.mem_range.1 (List.mem_of_getElem? hk)))]
  congr 3
  rw [FL]
  exact ⟨fun ⟨x,hx,hp⟩=>⟨x,List.mem_range.1 hx,hp⟩,fun ⟨x,hx,hp⟩=>⟨x,List.mem_range.2 hx,hp⟩⟩
theorem Qw {p:Prop} {s:Bool}:(if s=true then some true else some (bof p))=some (s || bof p):=by cases s<;>rfl
theorem large5 (t:Tsk):EH t=some (bof (Large t)):=by
  unfold EH
  have e1:(if 64 < (t.vars.length:Int) then (some true) else (if 4096 < (t.ops.length:Int) then (some true) else (if 64 < (t.goal.length:Int) then (some true) else (some false))):Option Bool)=some (bof (64 < t.vars.length∨4096 < t.ops.length∨64 < t.goal.length)):=by
    by_cases h1:64 < t.vars.length
    · rw [if_pos (by omega),Bf (.inl h1)]
    · by_cases h2:4096 < t.ops.length
      · rw [if_neg (by omega),if_pos (by omega),Bf (.inr (.inl h2))]
      · by_cases h3:64 < t.goal.length
        · rw [if_neg (by omega),if_neg (by omega),if_pos (by omega),Bf (.inr (.inr h3))]
        · rw [if_neg (by omega),if_neg (by omega),if_neg (by omega),AU (by omega)]
  rw [e1, Ar,Gv (fun o:Opr=>64 < o.pre.length∨64 < o.effs.length∨∃ e∈o.effs,64 < e.cond.length) (fun k o s hk=>by
    have e2:(if s=true then (some true) else (if 64 < (o.pre.length:Int) then (some true) else (if 64 < (o.effs.length:Int) then (some true) else (some false))):Option Bool)=some (s || bof (64 < o.pre.length∨64 < o.effs.length)):=by
      cases s with
      | true=>rfl
      | false =>
        rw [Cx,Bool.false_or]
        by_cases h1:64 < o.pre.length
        · rw [if_pos (by omega),Bf (.inl h1)]
        · by_cases h2:64 < o.effs.length
          · rw [if_neg (by omega),if_pos (by omega),Bf (.inr h2)]
          · rw [if_neg (by omega),if_neg (by omega),AU (by omega)]
    rw [e2,Ar,Gv (fun e:Eff=>64 < e.cond.length) (fun k e s hk=>by
      cases s with
      | true=>rfl
      | false =>
        rw [Cx,Bool.false_or]
        by_cases h:64 < e.cond.length
        · rw [if_pos (by omega),Bf h]
        · rw [if_neg (by omega),AU h]),Ar,Ci,Bool.or_assoc,Hk,FL or_assoc]),Ar,Ci,Hk]
  refine congrArg some (FL ?_)
  unfold Large
  constructor
  · rintro ((h|h|h)|⟨o,ho,h⟩)
    · exact .inl h
    · exact .inr (.inl h)
    · exact .inr (.inr (.inr ⟨_,DA.2 (.inl rfl),h⟩))
    · obtain ⟨i,hi⟩:=List.getElem?_of_mem ho
      rcases h with h|h|⟨e,he,h⟩
      · exact .inr (.inr (.inr ⟨_,DA.2 (.inr ⟨i,o,hi,.inl rfl⟩),h⟩))
      · exact .inr (.inr (.inl ⟨i,o,hi,h⟩))
      · obtain ⟨j,hj⟩:=List.getElem?_of_mem he
        exact .inr (.inr (.inr ⟨_,DA.2 (.inr ⟨i,o,hi,.inr ⟨j,e,hj,rfl⟩⟩),h⟩))
  · rintro (h|h|⟨i,o,ho,h⟩|⟨f,hf,h⟩)
    · exact .inl (.inl h)
    · exact .inl (.inr (.inl h))
    · exact .inr ⟨o,List.mem_of_getElem? ho,.inr (.inl h)⟩
    · rcases DA.1 hf with rfl|⟨i,o,ho,rfl|⟨j,e,he,rfl⟩⟩
      · exact .inl (.inr (.inr h))
      · exact .inr ⟨o,List.mem_of_getElem? ho,.inl h⟩
      · exact .inr ⟨o,List.mem_of_getElem? ho,.inr (.inr ⟨e,List.mem_of_getElem? he,h⟩)⟩
theorem outside5 (t:Tsk):Eg t=some (bof (¬ (VarsOk t∧CostsOk t))):=by
  unfold Eg
  rw [Gv (fun n:Int=>n < 1∨64 < n) (fun k n s hk=>by
    cases s with
    | true=>rfl
    | false =>
      rw [Cx,Bool.false_or]
      by_cases h1:n < 1
      · rw [if_pos h1,Bf (.inl h1)]
      · by_cases h2:64 < n
        · rw [if_neg h1,if_pos h2,Bf (.inr h2)]
        · rw [if_neg h1,if_neg h2,AU (by omega)]),Ar,Ci,Gv (fun o:Opr=>o.cost < 0∨1048576 < o.cost) (fun k o s hk=>by
    cases s with
    | true=>rfl
    | false =>
      rw [Cx,Bool.false_or]
      by_cases h1:o.cost < 0
      · rw [if_pos h1,Bf (.inl h1)]
      · by_cases h2:1048576 < o.cost
        · rw [if_neg h1,if_pos h2,Bf (.inr h2)]
        · rw [if_neg h1,if_neg h2,AU (by omega)]),Ar,Ci,Bool.false_or,Hk]
  refine congrArg some (FL ?_)
  constructor
  · rintro (⟨n,hn,h⟩|⟨o,ho,h⟩) ⟨h1,h2⟩
    · obtain ⟨i,hi⟩:=List.getElem?_of_mem hn
      have:=h1 i n hi;omega
    · obtain ⟨i,hi⟩:=List.getElem?_of_mem ho
      have:=h2 i o hi;omega
  · intro h
    refine Classical.byContradiction fun hn=>h ⟨fun i n hi=>?_,fun i o hi=>?_⟩
    · refine Classical.byContradiction fun hh=>hn (.inl ⟨n,List.mem_of_getElem? hi,by omega⟩)
    · refine Classical.byContradiction fun hh=>hn (.inr ⟨o,List.mem_of_getElem? hi,by omega⟩)
theorem Nj {p:Prop}:(if bof p=true then some false else some true)=some (bof (¬ p)):=by
  by_cases h:p
  · rw [Bf h,AU (fun hh=>hh h)];rfl
  · rw [AU h,Bf h];rfl
theorem malformed5 (t:Tsk):DF t=some (bof (¬ (StateOk t.vars t.init∧CondsOk t∧EffsOk t))):=by
  unfold DF DQ Ea
  have e1:(bnd (some (bof (StateOk t.vars t.init))) fun q27=>if q27=true then bnd (some (bof (FactsOk t.vars t.goal))) fun q34=>if q34=true then some false else some true else some true:Option Bool)=some (bof (¬ StateOk t.vars t.init∨¬ FactsOk t.vars t.goal)):=by
    rw [Ar,Ar,Nj]
    by_cases h:StateOk t.vars t.init
    · rw [Bf h,Dj]
      exact congrArg some (FL ⟨fun h=>.inr h,fun hh=>hh.resolve_left (fun hn=>hn h)⟩)
    · rw [AU h,Cx,Bf (.inl h)]
  rw [e1, Ar,Gv (fun o:Opr=>¬ FactsOk t.vars o.pre∨∃ e∈o.effs,¬ EffOk t.vars e) (fun k o s hk=>by
    rw [Ar,Nj,Qw,Ar,Gv (fun e:Eff=>¬ EffOk t.vars e) (fun k e s hk=>by
      cases s with
      | true=>rfl
      | false =>
        rw [Cx,Bool.false_or,Ar]
        by_cases h1:FactsOk t.vars e.cond
        · rw [Bf h1,Dj,Ar]
          by_cases h2:FactsOk t.vars [⟨e.var,e.val⟩]
          · rw [Bf h2,Dj,AU (fun h=>h ⟨h1,EK.1 h2⟩)]
          · rw [AU h2,Cx,Bf (fun h=>h2 (EK.2 h.2))]
        · rw [AU h1,Cx,Bf (fun h=>h1 h.1)]),Ar,Ci,Bool.or_assoc,Hk]),Ar,Ci,Hk]
  refine congrArg some (FL ?_)
  constructor
  · rintro ((h|h)|⟨o,ho,h⟩) ⟨h1,h2,h3⟩
    · exact h h1
    · exact h (h2 0 _ rfl)
    · obtain ⟨i,hi⟩:=List.getElem?_of_mem ho
      have hc:∀ f∈conds t,FactsOk t.vars f:=fun f hf=>by
        obtain ⟨i,hi⟩:=List.getElem?_of_mem hf
        exact h2 i f hi
      rcases h with h|⟨e,he,h⟩
      · exact h (hc _ (DA.2 (.inr ⟨i,o,hi,.inl rfl⟩)))
      · obtain ⟨j,hj⟩:=List.getElem?_of_mem he
        exact h ⟨hc _ (DA.2 (.inr ⟨i,o,hi,.inr ⟨j,e,hj,rfl⟩⟩)),h3 i o hi j e hj⟩
  · intro h
    refine Classical.byContradiction fun hn=>h ?_
    have g1:StateOk t.vars t.init:=Classical.byContradiction fun hh=>hn (.inl (.inl hh))
    have g2:FactsOk t.vars t.goal:=Classical.byContradiction fun hh=>hn (.inl (.inr hh))
    have g3:∀ o∈t.ops,FactsOk t.vars o.pre:=fun o ho=>Classical.byContradiction fun hh=>hn (.inr ⟨o,ho,.inl hh⟩)
    have g4:∀ o∈t.ops,∀ e∈o.effs,EffOk t.vars e:=fun o ho e he=>Classical.byContradiction fun hh=>hn (.inr ⟨o,ho,.inr ⟨e,he,hh⟩⟩)
    refine ⟨g1,fun i f hf=>?_,fun i o ho j e he=>(g4 o (List.mem_of_getElem? ho) e (List.mem_of_getElem? he)).2⟩
    rcases DA.1 (List.mem_of_getElem? hf) with rfl|⟨i,o,ho,rfl|⟨j,e,he,rfl⟩⟩
    · exact g2
    · exact g3 o (List.mem_of_getElem? ho)
    · exact (g4 o (List.mem_of_getElem? ho) e (List.mem_of_getElem? he)).1
theorem misnamed5 (t:Tsk):DS t=some (bof (¬ NamesOk t)):=by
  unfold DS
  rw [Gv (fun o:Opr=>256 < o.name.size∨∃ k,k < o.name.size∧∃ h:k < o.name.size,(o.name[k]'h).toNat < 32∨126 < (o.name[k]'h).toNat) (fun k o s hk=>by
    have e2:(if s=true then (some true) else (if 256 < (o.name.size:Int) then (some true) else (some false)):Option Bool)=some (s || bof (256 < o.name.size)):=by
      cases s with
      | true=>rfl
      | false =>
        rw [Cx,Bool.false_or]
        by_cases h:256 < o.name.size
        · rw [if_pos (by omega),Bf h]
        · rw [if_neg (by omega),AU h]
    rw [e2,Ar,Qv (fun k=>∃ h:k < o.name.size,(o.name[k]'h).toNat < 32∨126 < (o.name[k]'h).toNat) (fun k s hk=>by
      cases s with
      | true=>rfl
      | false =>
        rw [Cx,Bool.false_or,PR hk,Ar,Ar]
        by_cases h1:(o.name[k]'hk).toNat < 32
        · rw [if_pos (by omega),Bf ⟨hk,.inl h1⟩]
        · by_cases h2:126 < (o.name[k]'hk).toNat
          · rw [if_neg (by omega),if_pos (by omega),Bf ⟨hk,.inr h2⟩]
          · rw [if_neg (by omega),if_neg (by omega),AU (fun ⟨_,h⟩=>by omega)]),Ar,Ci,Bool.or_assoc,Hk]),Ar,Ci,Bool.false_or]
  refine congrArg some (FL ?_)
  constructor
  · rintro ⟨o,ho,h⟩ hn
    obtain ⟨i,hi⟩:=List.getElem?_of_mem ho
    obtain ⟨h1,h2⟩:=hn i o hi
    rcases h with h|⟨k,hk,_,h⟩
    · omega
    · have:=h2 k hk;omega
  · intro h
    refine Classical.byContradiction fun hn=>h fun i o ho=>?_
    have hm:=List.mem_of_getElem? ho
    refine ⟨Nat.le_of_not_lt fun hh=>hn ⟨o,hm,.inl hh⟩,fun k hk=>?_⟩
    refine Classical.byContradiction fun hh=>hn ⟨o,hm,.inr ⟨k,hk,hk,by omega⟩⟩
theorem KV {p:Prop}:bof (¬ p)=!bof p:=by
  by_cases h:p
  · rw [Bf h,AU (fun hh=>hh h)];rfl
  · rw [AU h,Bf h];rfl
theorem check5 (t:Tsk):EI t=some (checkN t):=by
  unfold EI checkN
  rw [large5,outside5,malformed5,misnamed5,KV,KV,KV]
  cases bof (Large t)<;>cases bof (VarsOk t∧CostsOk t)<;>cases bof (StateOk t.vars t.init∧CondsOk t∧EffsOk t)<;>cases bof (NamesOk t)<;>rfl
end
section
set_option linter.unusedVariables false
set_option linter.unusedSimpArgs false
open Go Go.RowKit
theorem Qx {vars:List Int} {p:Pkr} (h:PkOk vars p) (hl:vars.length≤64) {s:List Int} (hs:¬ StateOk vars s):Bz p s=some ([],⟨2⟩):=by
  obtain ⟨W,hW,hW1,hW2,hF⟩:=h.2.1
  have hfl:=h.1
  unfold Bz
  by_cases hlen:s.length=vars.length
  · rw [if_neg (by omega),hW,HF (by omega) (by omega),Ar]
    have key:∃ r,(bnd (rng (ρ:=(List U64)×Err) (fun (k50:Nat) (a51:PFd) (s48:(List U64))=>bnd (bnd (s[k50]?) fun a87=>if a87 < 0 then (some true) else (bnd (s[k50]?) fun a98=>if a51.size≤a98 then (some true) else (some false)):Option Bool) fun y83=>if y83=true then (some (.ret (([]:List U64),(⟨2⟩:Err)))) else (bnd (atI s48 a51.word) fun a114=>bnd (s[k50]?) fun a125=>bnd (shlU (BitVec.ofInt 64 a125) a51.bit) fun n135=>bnd (atI s48 a51.word) fun a137=>some (.next (s48.set (a51.word:Int).toNat (a114 ||| n135))))) p.fields 0 (List.replicate W (0:U64))) fun res46=>fin res46 fun (s154:(List U64))=>some (s154,(⟨0⟩:Err)))=some r∧r=(([]:List U64),(⟨2⟩:Err)):=by
      refine Gs (fun m ws=>ws.length=W∧∀ (i:Nat) x y,i < m→s[i]?=some x→vars[i]?=some y→0≤x∧x < y) (fun r=>r=(([]:List U64),(⟨2⟩:Err))) ⟨by simp,fun i x y hi=>by omega⟩ ?_ ?_ (fun q hq=>⟨_,rfl,hq⟩)
      · rintro m f ws hm ⟨hwl,hb⟩
        have hml:=AD hm
        obtain ⟨n,hn⟩:=AF (l:=vars) (k:=m) (by omega)
        obtain ⟨x,hx⟩:=AF (l:=s) (k:=m) (by omega)
        obtain ⟨k,b,w,rfl,hk,hbw,hw,hnw⟩:=hF m f n hm hn
        dsimp only
        rw [hx,Ar]
        by_cases h0:x < 0
        · rw [if_pos h0,Ar,Dj];exact .inr ⟨_,rfl,rfl⟩
        · rw [if_neg h0,Ar]
          by_cases h1:n≤x
          · rw [if_pos h1,Ar,Dj];exact .inr ⟨_,rfl,rfl⟩
          · obtain ⟨a,ha⟩:=AF (l:=ws) (k:=k) (by omega)
            rw [if_neg h1,Ar,Cx,BY,ha,Ar,Ar]
            unfold shlU
            rw [if_pos (by omega),Ar,Ar]
            refine .inl ⟨_,rfl,by simpa using hwl,fun i u v hi hu hv=>?_⟩
            by_cases e:i=m
            · subst e
              rw [hx] at hu;rw [hn] at hv
              obtain rfl:=Option.some.inj hu
              obtain rfl:=Option.some.inj hv
              omega
            · exact hb i u v (by omega) hu hv
      · rintro ws ⟨_,hb⟩
        exact (hs ⟨hlen,fun i x y hx hy=>hb i x y (by have:=AD hy;omega) hx hy⟩).elim
    obtain ⟨r,k1,k2⟩:=key
    rw [k1,k2]
  · rw [if_pos (by omega)]
theorem SpX.findno {t:Tsk} {L:List (List Int)} {x:Spa} (h:SpX t L x) (hok:TaskOk t) {s:List Int} (hs:¬ StateOk t.vars s):Cg x s=some (0,⟨2⟩):=by
  unfold Cg CH Bq
  rw [Qx h.reg.pk hok.1 hs,Ar]
  rfl
def capP (vars:List Int):Int:=vars.foldl (fun c n=>min (c * n) 65537) 1
theorem MB:∀ (l:List Int),(∀ n∈l,1≤n∧n≤64)→l.foldl (fun c n=>min (c * n) 65537) (65537:Int)=65537
  | [],_=>rfl
  | n :: l,h=>by
    have hn:=h n List.mem_cons_self
    have:(65537:Int) * 1≤65537 * n:=Int.mul_le_mul_of_nonneg_left hn.1 (by omega)
    rw [List.foldl_cons,show min ((65537:Int) * n) 65537=65537 from by omega]
    exact MB l fun m hm=>h m (List.mem_cons_of_mem _ hm)
theorem MC:∀ (l:List Int) (c:Int),0≤c→c≤65537→(∀ n∈l,1≤n∧n≤64)→0≤l.foldl (fun c n=>min (c * n) 65537) c∧l.foldl (fun c n=>min (c * n) 65537) c≤65537
  | [],c,h0,h,_=>⟨h0,h⟩
  | n :: l,c,h0,h,hl=>by
    have hn:=hl n List.mem_cons_self
    have:0≤c * n:=Int.mul_nonneg h0 (by omega)
    exact MC l (min (c * n) 65537) (by omega) (by omega) fun m hm=>hl m (List.mem_cons_of_mem _ hm)
theorem MD {vars:List Int} {k:Nat} {n:Int} (h:vars[k]?=some n):capP (vars.take (k + 1))=min (capP (vars.take k) * n) 65537:=by
  unfold capP;rw [List.take_add_one,h,List.foldl_append];rfl
theorem MR {t:Tsk} (hok:TaskOk t):DD t=some (capP t.vars):=by
  have hv:∀ n∈t.vars,1≤n∧n≤64:=fun n hn=>by obtain ⟨i,hi⟩:=List.getElem?_of_mem hn;exact hok.2.2.1 i n hi
  unfold DD FP
  rw [Ar,Fz.2 hok,if_neg (by simp),En (fun k=>capP (t.vars.take k)) (by simp [capP]) (fun k n hk=>?_),Ar,Ci,List.take_length]
  have hn:=hok.2.2.1 k n hk
  have hc:=MC (t.vars.take k) 1 (by omega) (by omega) fun m hm=>hv m (List.mem_of_mem_take hm)
  replace hc:0≤capP (t.vars.take k)∧capP (t.vars.take k)≤65537:=hc
  have h1:0≤capP (t.vars.take k) * n:=Int.mul_nonneg hc.1 (by omega)
  have h2:capP (t.vars.take k) * n≤65537 * 64:=Int.le_trans (Int.mul_le_mul_of_nonneg_right hc.2 (by omega)) (Int.mul_le_mul_of_nonneg_left hn.2 (by omega))
  rw [Cb (by unfold inI64;omega),Ar,MD hk]
theorem Pt {t:Tsk} (hok:TaskOk t):Dz t.vars 65536=some (capP t.vars):=by
  have hv:∀ n∈t.vars,1≤n∧n≤64:=fun n hn=>by obtain ⟨i,hi⟩:=List.getElem?_of_mem hn;exact hok.2.2.1 i n hi
  have key:∃ r,Dz t.vars 65536=some r∧r=capP t.vars:=by
    unfold Dz
    refine Gs (fun k s=>s=capP (t.vars.take k)∧s≤65536) (fun r=>r=capP t.vars) ⟨by simp [capP],by omega⟩ ?_ (fun s hs=>⟨s,rfl,by rw [hs.1,List.take_length]⟩) (fun q hq=>⟨q,rfl,hq⟩)
    rintro k n s hk ⟨rfl,hs⟩
    have hn:=hok.2.2.1 k n hk
    have hc:=MC (t.vars.take k) 1 (by omega) (by omega) fun m hm=>hv m (List.mem_of_mem_take hm)
    replace hc:0≤capP (t.vars.take k)∧capP (t.vars.take k)≤65537:=hc
    have h1:0≤capP (t.vars.take k) * n:=Int.mul_nonneg hc.1 (by omega)
    have h2:capP (t.vars.take k) * n≤65537 * 64:=Int.le_trans (Int.mul_le_mul_of_nonneg_right hc.2 (by omega)) (Int.mul_le_mul_of_nonneg_left hn.2 (by omega))
    rw [Cb (by unfold inI64;omega),Ar,show min (max n 0) (65536 + 1)=n from by omega,Cb (by unfold inI64;omega),Ar]
    have hst:=MD hk
    by_cases hb:65536 < capP (t.vars.take k) * n
    · rw [if_pos hb,Ar]
      refine .inr ⟨_,rfl,?_⟩
      have e:capP (t.vars.take (k + 1))=65537:=by rw [hst];omega
      have:capP t.vars=(t.vars.drop (k + 1)).foldl (fun c n=>min (c * n) 65537) (capP (t.vars.take (k + 1))):=by
        unfold capP;rw [← List.foldl_append,List.take_append_drop]
      rw [this,e,MB _ fun m hm=>hv m (List.mem_of_mem_drop hm)]
      rfl
    · rw [if_neg hb]
      exact .inl ⟨_,rfl,by rw [hst];omega,by omega⟩
  obtain ⟨r,h1,h2⟩:=key
  rw [h1,h2]
theorem NH {t:Tsk} (hok:¬ TaskOk t) (hn:checkN t≠0):CP t=some ([],⟨checkN t⟩):=by
  rw [OA,Oc hok,Ar]
  dsimp only
  rw [if_pos hn]
theorem LC {t:Tsk} (hok:TaskOk t) (hn:65536 < capP t.vars):CP t=some ([],⟨5⟩):=by
  rw [OA,Mk hok,Ar]
  dsimp only
  rw [if_neg (by simp),MR hok,Ar,if_pos hn]
theorem EndL.mem {t:Tsk} {lim:Int} {L:List (List Int)} (h:EndL t lim L) {s:List Int}:s∈L↔Rch t s:=by
  refine ⟨h.bl.rch s,fun hr=>?_⟩
  induction hr with
  | init=>exact List.mem_of_getElem? h.bl.root
  | @step s k o _ ho hp ih =>
    obtain ⟨j,hj⟩:=List.getElem?_of_mem ih
    have:=h.clo j s k (AD hj) hj (by rw [(KR ho).1];exact hp)
    rwa [(KR (s:=s) ho).2] at this
theorem KW {n:Int} (h:n≠0):Db (⟨n⟩:Err) n=some true:=by
  unfold Db Ff
  dsimp only
  rw [if_pos h,Ar,if_pos rfl,Ar]
theorem NI (t:Tsk) (s:List Int):DC t s=some true:=by
  unfold DC
  by_cases hg:70 < (t.vars.length:Int)∨20 < (t.ops.length:Int)
  · have e:(if 70 < (t.vars.length:Int) then (some true) else (if 20 < (t.ops.length:Int) then (some true) else (bnd (CT) fun q37=>if q37=true then some false else some true)):Option Bool)=some true:=by
      by_cases h1:70 < (t.vars.length:Int)
      · rw [if_pos h1]
      · rw [if_neg h1,if_pos (hg.resolve_left h1)]
    rw [e]
    simp only [awake25,Ar,if_true]
  · have e:(if 70 < (t.vars.length:Int) then (some true) else (if 20 < (t.ops.length:Int) then (some true) else (bnd (CT) fun q37=>if q37=true then some false else some true)):Option Bool)=some false:=by
      rw [if_neg (by omega),if_neg (by omega),awake25,Ar,if_pos rfl]
    have hz:chkI ((0:Int) + (([]:List Int).length:Int))=some 0:=Cb (by decide)
    have hz2:chkI ((0:Int) + (([]:List Edj).length:Int))=some 0:=Cb (by decide)
    have hz3:chkI ((0:Int) + 0)=some 0:=Cb (by decide)
    have i3:Db (⟨3⟩:Err) 3=some true:=KW (by decide)
    have i2:Db (⟨2⟩:Err) 2=some true:=KW (by decide)
    have i5:Db (⟨5⟩:Err) 5=some true:=KW (by decide)
    simp only [e,Ar,Bool.false_eq_true,if_false,Dd,Dk,Dl,Dr,De,Df,CC,CU,i3,if_true,hz,hz2,hz3,ne_eq,not_true_eq_false,check5]
    by_cases hc:checkN t=0
    · have hok:=Fz.1 hc
      rw [if_neg (fun h=>h hc),Pt hok,Ar]
      by_cases hm:65536 < capP t.vars
      · rw [if_pos hm,LC hok hm,Ar]
        simp only [List.length_nil,i5,Ar,if_true]
        rfl
      · rw [if_neg hm]
        by_cases hs:SmallOk t
        · obtain ⟨L,x,e1,e2,e3,e4⟩:=MP hs lim512
          simp only [Qt hs,Ar,if_true,e1,not_true_eq_false,if_false]
          by_cases hst:StateOk t.vars s
          · obtain ⟨r,r1,r2⟩:=HH hs.mid hst
            obtain ⟨bs',b1,b2,b3⟩:=NE hs.mid
            obtain ⟨b,hb⟩:=AF (l:=bs') (k:=r) (by rw [b2];exact AD r2)
            have hbr:=b3 r s r2
            rcases e2.find hok hst with ⟨i,hi,hf⟩|⟨hno,hf⟩
            · have hr:=e3.mem.1 (List.mem_of_getElem? hi)
              have hbt:=hbr.2 hr
              rw [hf,Ar]
              unfold DQ
              rw [Ar,Bf hst,Dj,b1,Ar,r1,Ar,BY,hbt,Ar]
              rfl
            · have hbf:b=false:=by
                cases b with
                | false=>rfl
                | true=>exact (hno (e3.mem.2 (hbr.1 hb))).elim
              subst hbf
              rw [hf,Ar]
              unfold DQ
              rw [Ar,Bf hst,Dj,b1,Ar,r1,Ar,BY,hb,Ar]
              simp only [i3,Ar,if_true,Bool.false_eq_true,if_false]
          · rw [e2.findno hok hst,Ar]
            unfold DQ
            rw [Ar,AU hst]
            simp only [i2,Ar,if_true,Bool.false_eq_true,if_false]
        · simp only [Qu hs,Ar,Bool.false_eq_true,if_false]
    · have hok:¬ TaskOk t:=fun h=>hc (Fz.2 h)
      rw [if_pos hc,NG hok hc,NH hok hc]
      simp only [Ar,Ff,List.length_nil,if_true]
      rfl
end
section
open Go Go.RowKit Go.ChangeShapes Go.WideShapes Go.Deep
theorem lawEErrors {w:World} {v0:Value} {a0:Tsk} (h0:V w v0 a0) {v1:Value} {a1:List Int} (h1:V w v1 a1):Fn Tryz.prog 9 [v0,v1] w fun v w'=>v=.bool true∧Ext w w':=by
  exact (HK (fun _ h=>h) h0 h1 (NI a0 a1)).mono fun _ _ h=>⟨h.2.bool,h.1⟩
set_option maxRecDepth 100000 in
theorem Im (os:Os) (started:os.Started) (H:Type) (enc:TypeId×Value→H) :
    ReturnsInHanded {} Tryz.checked os 9 .any (Rows.exploreErrorsSpec.pre6 enc Tryz.prog Tryz.f9 Rows.exploreErrorsRow.domain false) (Rows.exploreErrorsSpec.post enc Tryz.prog Tryz.f9 false true false false):=by
  refine returnsInHanded_of_change (C:=Tryz.checked) ownTry started (by kernel_rfl) Tryz.func9 (ChangeSpec.witness6 (enc:=enc) (C:=Tryz.checked) false ⟨#[],#[(.agg #[.slice none 0 0,.slice none 0 0,.slice none 0 0,.slice none 0 0]),.slice none 0 0],[]⟩ 8 (by kernel_rfl) (by kernel_rfl) (by kernel_rfl) (by kernel_rfl)) ?_
  intro W base args ds gs before hval hW _ _
  have hopen:∀ p,DataW.TrodAll enc Tryz.prog W 0 (fun _=>true) true Tryz.f9.params.toList args.toList ds p→∃ v0 v1 d0 d1,args=#[v0,v1]∧ds=[d0,d1]∧(∃ a:Tsk,V W v0 a)∧(∃ a:List Int,V W v1 a):=by
    intro p hA
    rw [Tryz.params9] at hA
    replace hval:∀ (j:Nat) t v,(#[26,22]:Array TypeId)[j]?=some t→args[j]?=some v→Value.okWide Tryz.prog W .any base t v:=by rw [← Tryz.params9];exact hval
    obtain ⟨v0,vs0,d0,ds0,p0,q0,g0,e0,_,h0,r0⟩:=trodAll_cons hA
    obtain ⟨v1,vs1,d1,ds1,p1,q1,g1,e1,_,h1,r1⟩:=trodAll_cons r0
    obtain ⟨g,e,_⟩:=trodAll_nil r1
    rw [g] at g1;rw [e] at e1
    rw [g1] at g0;rw [e1] at e0
    obtain rfl:args=#[v0,v1]:=by cases args;simp_all
    exact ⟨v0,v1,d0,d1,rfl,e0,(by first|exact openAgg rfl (hval 0 26 v0 rfl rfl) h0|exact openOne rfl (hval 0 26 v0 rfl rfl) h0),(by first|exact openAgg rfl (hval 1 22 v1 rfl rfl) h1|exact openOne rfl (hval 1 22 v1 rfl rfl) h1)⟩
  refine lawPost rfl (by kernel_rfl) (by rw [Tryz.params9];exact of_decide_eq_true (by kernel_rfl)) hW ?_ ?_
  · intro p hA
    obtain ⟨v0,v1,d0,d1,_,rfl,_⟩:=hopen p hA
    rfl
  · intro p hA
    obtain ⟨v0,v1,d0,d1,rfl,_,⟨a0,h0⟩,⟨a1,h1⟩⟩:=hopen p hA
    exact lawEErrors h0 h1
theorem exploreErrors_holds:Rows.ExploreErrorsSaid :=
  OpenClaim.holds_of_wide 9 Tryz.f9 rfl rfl rfl rfl rfl rfl rfl ⟨rfl,rfl,rfl,rfl,rfl⟩ rfl rfl rfl rfl rfl (by kernel_rfl) Tryz.func9 (by kernel_rfl)
    (of_decide_eq_true (by kernel_rfl)) (by unfold Func.isWrapper;first|(rw [if_pos (by decide +kernel)];kernel_rfl)|(rw [if_neg (by decide +kernel)];exact ⟨rfl,rfl⟩))
    (fun os started H enc _=>Im os started H enc)
#print axioms exploreErrors_holds
end
end Go.Proofs.YtkbmbcblgdgjlaaGreat

/- BreadthLimits returns true for every task and every limit, and the task reads behind the call as before. No conditions. -/
import Derived.Test.YthomfnkaicjmbaaPLimE
import Derived.Test.YthomfnkaicjmbaaRows
set_option linter.unusedVariables false
set_option linter.unusedSimpArgs false
namespace Go.Proofs.Ythomfnkaicjmbaa
open Go Go.RowKit
section
open Go Go.RowKit
set_option maxRecDepth 20000
def Do (x:List U64):Option (List U64):=BW x
theorem EM (x:List U64):Le (Do x) (BW x):=Le.rf
def Ha (t:Tsk):Option (Option Gnr×Err):=if taskB t=true then some (some ⟨t⟩,⟨0⟩) else none
theorem IQ (t:Tsk):Le (Ha t) (DJ t):=fun r h=>by
  obtain ⟨h1,rfl⟩:=Fz h
  exact LA (Mb h1)
def CA (x:Option Gnr) (s:List Int):Option (List Int):=match x with
  | some g=>if stateB g.t.vars s=true then (if s.length≤1000000 then some (appl g.t s) else none) else none
  | none=>none
theorem EE (x:Option Gnr) (s:List Int):Le (CA x s) (BN x s):=fun r h=>by
  cases x with
  | none=>cases h
  | some g =>
    unfold CA at h
    dsimp only at h
    split at h
    · rename_i h1
      obtain ⟨h3,rfl⟩:=Fz h
      unfold BN
      rw [if_pos h3]
      show some (appS g.t s)=_
      rw [Gn (HC h1)]
    · cases h
noncomputable def CI (x0:List Itm):Option Int :=
  some (x0.length:Int)
theorem DD (x0:List Itm):Le (CI x0) (Be x0):=by
  unfold CI Be
  repeat' (first|apply Le.ite|apply Le.bnd|apply Le.fin|apply Le.rng|apply Le.rngN|apply Le.lop|exact Le.rf|intro _)
noncomputable def CB (x0:List Itm) (x1:Int) (x2:Int):Option Bool :=
  bnd (bnd (atI x0 x1) fun a10=>bnd (atI x0 x2) fun a24=>if a10.cost < a24.cost then (some true) else (bnd (atI x0 x1) fun a39=>bnd (atI x0 x2) fun a53=>if a39.cost=a53.cost then (bnd (atI x0 x1) fun a68=>bnd (atI x0 x2) fun a82=>if a68.order < a82.order then (some true) else (some false)) else (some false)):Option Bool) fun y6=>some y6
theorem ED (x0:List Itm) (x1:Int) (x2:Int):Le (CB x0 x1 x2) (Bg x0 x1 x2):=by
  unfold CB Bg
  repeat' (first|apply Le.ite|apply Le.bnd|apply Le.fin|apply Le.rng|apply Le.rngN|apply Le.lop|exact Le.rf|intro _)
noncomputable def CC (x0:List Itm) (x1:Int) (x2:Int):Option (List Itm) :=
  bnd (atI x0 x2) fun a4=>bnd (atI x0 x1) fun a18=>bnd (atI x0 x1) fun a32=>bnd (atI (x0.set (x1:Int).toNat a4) x2) fun a48=>some ((x0.set (x1:Int).toNat a4).set (x2:Int).toNat a18)
theorem Dt (x0:List Itm) (x1:Int) (x2:Int):Le (CC x0 x1 x2) (Bb x0 x1 x2):=by
  unfold CC Bb
  repeat' (first|apply Le.ite|apply Le.bnd|apply Le.fin|apply Le.rng|apply Le.rngN|apply Le.lop|exact Le.rf|intro _)
noncomputable def DE (x0:BxR 98 96 Itm) (x1:An 96 Itm):Option (BxR 98 96 Itm) :=
  bnd (appI 24 x0.l [x1.x]) fun u31=>some (⟨u31⟩:BxR 98 96 Itm)
theorem Gq (x0:BxR 98 96 Itm) (x1:An 96 Itm):Le (DE x0 x1) (Co x0 x1):=by
  unfold DE Co
  repeat' (first|apply Le.ite|apply Le.bnd|apply Le.fin|apply Le.rng|apply Le.rngN|apply Le.lop|exact Le.rf|intro _)
noncomputable def DQ (x0:BxR 98 96 Itm):Option ((An 96 Itm)×(BxR 98 96 Itm)) :=
  bnd (chkI ((x0.l.length:Int) - 1)) fun n13=>bnd (atI x0.l n13) fun a16=>bnd (cutI x0.l 0 n13) fun u37=>some ((⟨a16⟩:An 96 Itm),(⟨u37⟩:BxR 98 96 Itm))
theorem GK (x0:BxR 98 96 Itm):Le (DQ x0) (Ct x0):=by
  unfold DQ Ct
  repeat' (first|apply Le.ite|apply Le.bnd|apply Le.fin|apply Le.rng|apply Le.rngN|apply Le.lop|exact Le.rf|intro _)
noncomputable def DR (x0:BxR 98 96 Itm) (x1:Int):Option (BxR 98 96 Itm) :=
  bnd (lopE (ρ:=(BxR 98 96 Itm)) (fun (s5:Int×(BxR 98 96 Itm))=>bnd (chkI (s5.1 - 1)) fun n22=>bnd (quoT n22 2) fun n25=>bnd (if n25=s5.1 then (some true) else (bnd (CB s5.2.l s5.1 n25) fun q42=>if q42=true then some false else some true):Option Bool) fun y28=>if y28=true then (some (.brk (s5.1,s5.2))) else (bnd (CC s5.2.l n25 s5.1) fun q73=>some (.next (n25,(⟨q73⟩:BxR 98 96 Itm))))) (x1,x0)) fun res3=>fin res3 fun (s90:Int×(BxR 98 96 Itm))=>some s90.2
theorem GL (x0:BxR 98 96 Itm) (x1:Int):Le (DR x0 x1) (Ch x0 x1):=by
  unfold DR Ch
  repeat' (first|apply ED|apply Dt|apply Le.ite|apply Le.bnd|apply Le.fin|apply Le.rng|apply Le.rngN|apply Le.lop|exact Le.rf|intro _)
noncomputable def Du (x0:BxR 98 96 Itm) (x1:Int) (x2:Int):Option (Bool×(BxR 98 96 Itm)) :=
  bnd (lopE (ρ:=Bool×(BxR 98 96 Itm)) (fun (s6:Int×(BxR 98 96 Itm))=>bnd (chkI (2 * s6.1)) fun n23=>bnd (chkI (n23 + 1)) fun n26=>bnd (if x2≤n26 then (some true) else (if n26 < 0 then (some true) else (some false)):Option Bool) fun y29=>if y29=true then (some (.brk (s6.1,s6.2))) else (bnd (bnd (chkI (n26 + 1)) fun n45=>bnd (if n45 < x2 then (bnd (CB s6.2.l n45 n26) fun q62=>if q62=true then some true else some false) else (some false):Option Bool) fun y48=>if y48=true then (some n45) else (some n26):Option Int) fun y40=>bnd (CB s6.2.l y40 s6.1) fun q97=>if q97=true then bnd (CC s6.2.l s6.1 y40) fun q109=>some (.next (y40,(⟨q109⟩:BxR 98 96 Itm))) else some (.brk (s6.1,s6.2)))) (x1,x0)) fun res4=>fin res4 fun (s126:Int×(BxR 98 96 Itm))=>bnd (if x1 < s126.1 then (some true) else (some false):Option Bool) fun y128=>some (y128,s126.2)
theorem Gb (x0:BxR 98 96 Itm) (x1:Int) (x2:Int):Le (Du x0 x1 x2) (BZ x0 x1 x2):=by
  unfold Du BZ
  repeat' (first|apply ED|apply Dt|apply Le.ite|apply Le.bnd|apply Le.fin|apply Le.rng|apply Le.rngN|apply Le.lop|exact Le.rf|intro _)
noncomputable def Dv (x0:BxR 98 96 Itm) (x1:An 96 Itm):Option (BxR 98 96 Itm) :=
  bnd (DE x0 (⟨x1.x⟩:An 96 Itm)) fun q9=>bnd (CI q9.l) fun q26=>bnd (chkI (q26 - 1)) fun n34=>bnd (DR q9 n34) fun q42=>some q42
theorem Gc (x0:BxR 98 96 Itm) (x1:An 96 Itm):Le (Dv x0 x1) (BH x0 x1):=by
  unfold Dv BH
  repeat' (first|apply DD|apply Gq|apply GL|apply Le.ite|apply Le.bnd|apply Le.fin|apply Le.rng|apply Le.rngN|apply Le.lop|exact Le.rf|intro _)
noncomputable def DF (x0:BxR 98 96 Itm):Option ((An 96 Itm)×(BxR 98 96 Itm)) :=
  bnd (CI x0.l) fun q11=>bnd (chkI (q11 - 1)) fun n19=>bnd (CC x0.l 0 n19) fun q22=>bnd (Du (⟨q22⟩:BxR 98 96 Itm) 0 n19) fun q35=>bnd (DQ q35.2) fun q44=>some ((⟨q44.1.x⟩:An 96 Itm),q44.2)
theorem Gr (x0:BxR 98 96 Itm):Le (DF x0) (BL x0):=by
  unfold DF BL
  repeat' (first|apply DD|apply GK|apply Dt|apply Gb|apply Le.ite|apply Le.bnd|apply Le.fin|apply Le.rng|apply Le.rngN|apply Le.lop|exact Le.rf|intro _)
noncomputable def GM (x0:List Int):Option ((Option Pkr)×Err) :=
  if 64 < (x0.length:Int) then (some (none,(⟨5⟩:Err))) else (bnd (rng (ρ:=(Option Pkr)×Err) (fun (k25:Nat) (a26:Int) (s23:Int×Pkr)=>bnd (if a26 < 1 then (some true) else (if 64 < a26 then (some true) else (some false)):Option Bool) fun y48=>if y48=true then (some (.ret (none,(⟨1⟩:Err)))) else (bnd (lopE (ρ:=Ctl (Int×Pkr) ((Option Pkr)×Err)) (fun (s61:Int)=>bnd (shlI 1 s61) fun n76=>if n76 < a26 then (bnd (chkI (s61 + 1)) fun n80=>some (.next n80)) else (some (.brk s61))) 0) fun res59=>fin res59 fun (s87:Int)=>bnd (bnd (chkI (s23.1 + s87)) fun n95=>if 64 < n95 then (bnd (chkI (s23.2.words + 1)) fun n109=>some (0,(⟨s23.2.fields,n109⟩:Pkr))) else (some (s23.1,s23.2)):Option (Int×Pkr)) fun y89=>bnd (chkI (y89.2.words - 1)) fun n133=>bnd (appI 32 y89.2.fields [(⟨n133,y89.1,s87,a26⟩:PFd)]) fun u142=>bnd (chkI (y89.1 + s87)) fun n155=>some (.next (n155,(⟨u142,y89.2.words⟩:Pkr))))) x0 0 (0,(⟨([]:List PFd),1⟩:Pkr))) fun res21=>fin res21 fun (s167:Int×Pkr)=>some ((some s167.2),(⟨0⟩:Err)))
theorem Ki (x0:List Int):Le (GM x0) (DA x0):=by
  unfold GM DA
  repeat' (first|apply Le.ite|apply Le.bnd|apply Le.fin|apply Le.rng|apply Le.rngN|apply Le.lop|exact Le.rf|intro _)
noncomputable def Dp (x0:PFd):Option U64 :=
  bnd (shlU (1:U64) x0.width) fun n12=>bnd (shlU (n12 - (1:U64)) x0.bit) fun n14=>some n14
theorem Fg (x0:PFd):Le (Dp x0) (Cg x0):=by
  unfold Dp Cg
  repeat' (first|apply Le.ite|apply Le.bnd|apply Le.fin|apply Le.rng|apply Le.rngN|apply Le.lop|exact Le.rf|intro _)
noncomputable def Eu (x0:PFd) (x1:List U64):Option Int :=
  bnd (atI x1 x0.word) fun a15=>bnd (Dp x0) fun q26=>bnd (shrU (a15 &&& q26) x0.bit) fun n33=>some n33.toInt
theorem HK (x0:PFd) (x1:List U64):Le (Eu x0 x1) (Cv x0 x1):=by
  unfold Eu Cv
  repeat' (first|apply Fg|apply Le.ite|apply Le.bnd|apply Le.fin|apply Le.rng|apply Le.rngN|apply Le.lop|exact Le.rf|intro _)
noncomputable def DX (x0:Pkr) (x1:List Int):Option ((List U64)×Err) :=
  if (x1.length:Int)≠(x0.fields.length:Int) then (some (([]:List U64),(⟨2⟩:Err))) else (bnd (mkI 8 ((0:U64):U64) x0.words) fun u25=>bnd (rng (ρ:=(List U64)×Err) (fun (k50:Nat) (a51:PFd) (s48:(List U64))=>bnd (bnd (x1[k50]?) fun a87=>if a87 < 0 then (some true) else (bnd (x1[k50]?) fun a98=>if a51.size≤a98 then (some true) else (some false)):Option Bool) fun y83=>if y83=true then (some (.ret (([]:List U64),(⟨2⟩:Err)))) else (bnd (atI s48 a51.word) fun a114=>bnd (x1[k50]?) fun a125=>bnd (shlU (BitVec.ofInt 64 a125) a51.bit) fun n135=>bnd (atI s48 a51.word) fun a137=>some (.next (s48.set (a51.word:Int).toNat (a114 ||| n135))))) x0.fields 0 u25) fun res46=>fin res46 fun (s154:(List U64))=>some (s154,(⟨0⟩:Err)))
theorem Hf (x0:Pkr) (x1:List Int):Le (DX x0 x1) (Bv x0 x1):=by
  unfold DX Bv
  repeat' (first|apply Le.ite|apply Le.bnd|apply Le.fin|apply Le.rng|apply Le.rngN|apply Le.lop|exact Le.rf|intro _)
noncomputable def DG (x0:Pkr) (x1:List U64):Option ((List Int)×Err) :=
  if (x1.length:Int)≠x0.words then (some (([]:List Int),(⟨2⟩:Err))) else (bnd (mkI 8 (0:Int) (x0.fields.length:Int)) fun u25=>bnd (Do x1) fun q38=>bnd (rng (ρ:=(List Int)×Err) (fun (k60:Nat) (a61:PFd) (s58:(List Int)×(List U64))=>bnd (Eu a61 x1) fun q97=>bnd (s58.1[k60]?) fun a105=>bnd ((s58.1.set k60 q97)[k60]?) fun a117=>if a61.size≤a117 then (some (.ret (([]:List Int),(⟨2⟩:Err)))) else (bnd (atI s58.2 a61.word) fun a128=>bnd (Dp a61) fun q139=>bnd (atI s58.2 a61.word) fun a146=>some (.next ((s58.1.set k60 q97),(s58.2.set (a61.word:Int).toNat (a128 &&& ~~~q139)))))) x0.fields 0 (u25,q38)) fun res56=>fin res56 fun (s163:(List Int)×(List U64))=>bnd (rng (ρ:=(List Int)×Err) (fun (k171:Nat) (a172:U64) (s169:Unit)=>bnd (s163.2[k171]?) fun a182=>if (a182.toNat:Int)≠((0:U64).toNat:Int) then (some (.ret (([]:List Int),(⟨2⟩:Err)))) else (some (.next ()))) q38 0 ()) fun res167=>fin res167 fun (s196:Unit)=>some (s163.1,(⟨0⟩:Err)))
theorem Gs (x0:Pkr) (x1:List U64):Le (DG x0 x1) (Ce x0 x1):=by
  unfold DG Ce
  repeat' (first|apply HK|apply Fg|apply EM|apply Le.ite|apply Le.bnd|apply Le.fin|apply Le.rng|apply Le.rngN|apply Le.lop|exact Le.rf|intro _)
noncomputable def DY (x0:Pkr) (x1:List U64):Option Int :=
  bnd (rng (ρ:=Int) (fun (k13:Nat) (a14:U64) (s11:U64)=>bnd (shrU ((s11 ^^^ a14) * (13787848793156543929:U64)) 29) fun n31=>some (.next (((s11 ^^^ a14) * (13787848793156543929:U64)) ^^^ n31))) x1 0 ((BitVec.ofInt 64 (x1.length:Int)) + (11400714819323198485:U64))) fun res9=>fin res9 fun (s37:U64)=>bnd (shrU s37 2) fun n39=>some n39.toInt
theorem Hg (x0:Pkr) (x1:List U64):Le (DY x0 x1) (BB x0 x1):=by
  unfold DY BB
  repeat' (first|apply Le.ite|apply Le.bnd|apply Le.fin|apply Le.rng|apply Le.rngN|apply Le.lop|exact Le.rf|intro _)
noncomputable def CE (x0:List U64) (x1:List U64):Option Bool :=
  if (x0.length:Int)≠(x1.length:Int) then (some false) else (bnd (rng (ρ:=Bool) (fun (k18:Nat) (a19:U64) (s16:Unit)=>bnd (x1[k18]?) fun a36=>if (a19.toNat:Int)≠(a36.toNat:Int) then (some (.ret false)) else (some (.next ()))) x0 0 ()) fun res14=>fin res14 fun (s50:Unit)=>some true)
theorem EN (x0:List U64) (x1:List U64):Le (CE x0 x1) (Br x0 x1):=by
  unfold CE Br
  repeat' (first|apply Le.ite|apply Le.bnd|apply Le.fin|apply Le.rng|apply Le.rngN|apply Le.lop|exact Le.rf|intro _)
noncomputable def EU (x0:List Int):Option ((Option Reg)×Err) :=
  bnd (GM x0) fun q4=>if q4.2.n≠0 then (some (none,(⟨q4.2.n⟩:Err))) else (bnd q4.1 fun o22=>some ((some (⟨o22,([]:List REn),(⟨[]⟩:MapR 3 Int Int)⟩:Reg)),(⟨0⟩:Err)))
theorem IF (x0:List Int):Le (EU x0) (CJ x0):=by
  unfold EU CJ
  repeat' (first|apply Ki|apply Le.ite|apply Le.bnd|apply Le.fin|apply Le.rng|apply Le.rngN|apply Le.lop|exact Le.rf|intro _)
noncomputable def Df (x0:Reg) (x1:List Int):Option ((List U64)×Int×Int×Err) :=
  bnd (DX x0.packer x1) fun q20=>if q20.2.n≠0 then (some (([]:List U64),0,(-1),(⟨2⟩:Err))) else (bnd (DY x0.packer q20.1) fun q41=>bnd (rng (ρ:=(List U64)×Int×Int×Err) (fun (k66:Nat) (a67:Int) (s64:Unit)=>bnd (atI x0.entries a67) fun a100=>bnd (CE a100.words q20.1) fun q118=>if q118=true then some (.ret (q20.1,q41,a67,(⟨0⟩:Err))) else some (.next ())) (mget ([]:List Int) x0.table.l q41) 0 ()) fun res62=>fin res62 fun (s139:Unit)=>some (q20.1,q41,(-1),(⟨0⟩:Err)))
theorem Ft (x0:Reg) (x1:List Int):Le (Df x0 x1) (Bl x0 x1):=by
  unfold Df Bl
  repeat' (first|apply Hg|apply Hf|apply EN|apply Le.ite|apply Le.bnd|apply Le.fin|apply Le.rng|apply Le.rngN|apply Le.lop|exact Le.rf|intro _)
noncomputable def Cc (x0:Reg) (x1:List Int):Option (Int×Bool×Err×Reg) :=
  bnd (Df x0 x1) fun q5=>if q5.2.2.2.n≠0 then (some (0,false,(⟨q5.2.2.2.n⟩:Err),x0)) else (if 0≤q5.2.2.1 then (some (q5.2.2.1,false,(⟨0⟩:Err),x0)) else (if 65536≤(x0.entries.length:Int) then (some (0,false,(⟨10⟩:Err),x0)) else (bnd (appI 48 x0.entries [(⟨q5.1,(⟨(-1),(-1),0⟩:RLk)⟩:REn)]) fun u53=>bnd (appI 8 (mget ([]:List Int) x0.table.l q5.2.1) ([(x0.entries.length:Int)]:List Int)) fun u82=>some ((x0.entries.length:Int),true,(⟨0⟩:Err),(⟨x0.packer,u53,(⟨mput x0.table.l q5.2.1 u82⟩:MapR 3 Int Int)⟩:Reg)))))
theorem CD (x0:Reg) (x1:List Int):Le (Cc x0 x1) (AX x0 x1):=by
  unfold Cc AX
  repeat' (first|apply Ft|apply Le.ite|apply Le.bnd|apply Le.fin|apply Le.rng|apply Le.rngN|apply Le.lop|exact Le.rf|intro _)
noncomputable def BA (x0:Reg):Option Int :=
  some (x0.entries.length:Int)
theorem DZ (x0:Reg):Le (BA x0) (Bi x0):=by
  unfold BA Bi
  repeat' (first|apply Le.ite|apply Le.bnd|apply Le.fin|apply Le.rng|apply Le.rngN|apply Le.lop|exact Le.rf|intro _)
noncomputable def Cd (x0:Reg) (x1:Int):Option Bool :=
  bnd (if 0≤x1 then (if x1 < (x0.entries.length:Int) then (some true) else (some false)) else (some false):Option Bool) fun y3=>some y3
theorem Dg (x0:Reg) (x1:Int):Le (Cd x0 x1) (AY x0 x1):=by
  unfold Cd AY
  repeat' (first|apply Le.ite|apply Le.bnd|apply Le.fin|apply Le.rng|apply Le.rngN|apply Le.lop|exact Le.rf|intro _)
noncomputable def Ci (x0:Reg) (x1:Int):Option ((List Int)×Err) :=
  bnd (Cd x0 x1) fun q3=>if q3=true then bnd (atI x0.entries x1) fun a27=>bnd (DG x0.packer a27.words) fun q45=>some (q45.1,(⟨q45.2.n⟩:Err)) else some (([]:List Int),(⟨1⟩:Err))
theorem CS (x0:Reg) (x1:Int):Le (Ci x0 x1) (Bc x0 x1):=by
  unfold Ci Bc
  repeat' (first|apply Gs|apply Dg|apply Le.ite|apply Le.bnd|apply Le.fin|apply Le.rng|apply Le.rngN|apply Le.lop|exact Le.rf|intro _)
noncomputable def Cs (x0:Reg) (x1:Int) (x2:Int) (x3:Int) (x4:Int):Option (Err×Reg) :=
  bnd (bnd (Cd x0 x1) fun q10=>if q10=true then if x2≠(-1) then (bnd (Cd x0 x2) fun q20=>if q20=true then some false else some true) else (some false) else some true:Option Bool) fun y6=>if y6=true then (some ((⟨1⟩:Err),x0)) else (bnd (atI x0.entries x1) fun a49=>some ((⟨0⟩:Err),(⟨x0.packer,(x0.entries.set (x1:Int).toNat ({ a49 with link:=(⟨x2,x3,x4⟩:RLk) }:REn)),x0.table⟩:Reg)))
theorem Dw (x0:Reg) (x1:Int) (x2:Int) (x3:Int) (x4:Int):Le (Cs x0 x1 x2 x3 x4) (Bd x0 x1 x2 x3 x4):=by
  unfold Cs Bd
  repeat' (first|apply Dg|apply Le.ite|apply Le.bnd|apply Le.fin|apply Le.rng|apply Le.rngN|apply Le.lop|exact Le.rf|intro _)
noncomputable def CU (x0:List Int):Option (List Int) :=
  bnd (chkI ((x0.length:Int) - 1)) fun n4=>bnd (lopE (ρ:=(List Int)) (fun (s9:(List Int)×Int×Int)=>if s9.2.1 < s9.2.2 then (bnd (atI s9.1 s9.2.2) fun a31=>bnd (atI s9.1 s9.2.1) fun a43=>bnd (atI s9.1 s9.2.1) fun a55=>bnd (atI (s9.1.set (s9.2.1:Int).toNat a31) s9.2.2) fun a69=>bnd (chkI (s9.2.1 + 1)) fun n83=>bnd (chkI (s9.2.2 - 1)) fun n86=>some (.next (((s9.1.set (s9.2.1:Int).toNat a31).set (s9.2.2:Int).toNat a43),n83,n86))) else (some (.brk (s9.1,s9.2.1,s9.2.2)))) (x0,0,n4)) fun res7=>fin res7 fun (s93:(List Int)×Int×Int)=>some s93.1
theorem Fj (x0:List Int):Le (CU x0) (Bt x0):=by
  unfold CU Bt
  repeat' (first|apply Le.ite|apply Le.bnd|apply Le.fin|apply Le.rng|apply Le.rngN|apply Le.lop|exact Le.rf|intro _)
noncomputable def Dh (x0:Reg) (x1:Int):Option ((List Int)×Err) :=
  bnd (Cd x0 x1) fun q3=>if q3=true then bnd (lopE (ρ:=(List Int)×Err) (fun (s14:Int×(List Int))=>bnd (atI x0.entries s14.1) fun a48=>if a48.link.parent < 0 then (bnd (CU s14.2) fun q74=>some (.ret (q74,(⟨0⟩:Err)))) else (bnd (appI 8 s14.2 [a48.link.op]) fun u89=>if (x0.entries.length:Int) < (u89.length:Int) then (some (.ret (([]:List Int),(⟨21⟩:Err)))) else (some (.next (a48.link.parent,u89))))) (x1,([]:List Int))) fun res12=>fin res12 fun (_:Int×(List Int))=>none else some (([]:List Int),(⟨1⟩:Err))
theorem Fu (x0:Reg) (x1:Int):Le (Dh x0 x1) (BC x0 x1):=by
  unfold Dh BC
  repeat' (first|apply Dg|apply Fj|apply Le.ite|apply Le.bnd|apply Le.fin|apply Le.rng|apply Le.rngN|apply Le.lop|exact Le.rf|intro _)
noncomputable def BO (x0:Option Gnr) (x1:List Int):Option (List Suc) :=
  bnd (CA x0 x1) fun q7=>bnd (rng (ρ:=(List Suc)) (fun (k23:Nat) (a24:Int) (s21:(List Suc))=>bnd (Ee x1) fun q46=>bnd (x0) fun o56=>bnd (atI o56.t.ops a24) fun a88=>bnd (rng (ρ:=Ctl (List Suc) (List Suc)) (fun (k115:Nat) (a116:Eff) (s113:(List Int))=>bnd (EK a116.cond x1) fun q150=>if q150=true then bnd (atI s113 a116.var) fun a157=>some (.next (s113.set (a116.var:Int).toNat a116.val)) else some (.next s113)) a88.effs 0 q46) fun res111=>fin res111 fun (s175:(List Int))=>bnd (appI 32 s21 [(⟨a24,s175⟩:Suc)]) fun u179=>some (.next u179)) q7 0 ([]:List Suc)) fun res19=>fin res19 fun (s195:(List Suc))=>some s195
theorem Cw (x0:Option Gnr) (x1:List Int):Le (BO x0 x1) (AS x0 x1):=by
  unfold BO AS
  repeat' (first|apply FH|apply EE|apply Fi|apply Le.ite|apply Le.bnd|apply Le.fin|apply Le.rng|apply Le.rngN|apply Le.lop|exact Le.rf|intro _)
noncomputable def Dj (x0:Tsk):Option ((Option Spc)×Err) :=
  bnd (Ha x0) fun q24=>if q24.2.n≠0 then (some (none,(⟨q24.2.n⟩:Err))) else (bnd (EU x0.vars) fun q39=>if q39.2.n≠0 then (some (none,(⟨q39.2.n⟩:Err))) else (bnd q39.1 fun o52=>bnd (Cc o52 x0.init) fun q55=>if q55.2.2.1.n≠0 then (some (none,(⟨q55.2.2.1.n⟩:Err))) else (some ((some (⟨(⟨x0.vars,x0.init,x0.goal,x0.ops⟩:Tsk),q55.2.2.2,q24.1⟩:Spc)),(⟨0⟩:Err)))))
theorem Ew (x0:Tsk):Le (Dj x0) (Ca x0):=by
  unfold Dj Ca
  repeat' (first|apply IF|apply CD|apply IQ|apply Le.ite|apply Le.bnd|apply Le.fin|apply Le.rng|apply Le.rngN|apply Le.lop|exact Le.rf|intro _)
noncomputable def CL (x0:Spc) (x1:Int) (x2:Int):Option (Rsl×Err) :=
  bnd (Dh x0.reg x1) fun q36=>if q36.2.n≠0 then (some ((⟨0,([]:List Int),0,0⟩:Rsl),(⟨q36.2.n⟩:Err))) else (bnd (rng (ρ:=Rsl×Err) (fun (k77:Nat) (a78:Int) (s75:Int)=>bnd (atI x0.t.ops a78) fun a125=>bnd (chkI (s75 + a125.cost)) fun n146=>some (.next n146)) q36.1 0 0) fun res73=>fin res73 fun (s160:Int)=>some ((⟨1,q36.1,s160,x2⟩:Rsl),(⟨0⟩:Err)))
theorem Ef (x0:Spc) (x1:Int) (x2:Int):Le (CL x0 x1 x2) (Bu x0 x1 x2):=by
  unfold CL Bu
  repeat' (first|apply Fu|apply Le.ite|apply Le.bnd|apply Le.fin|apply Le.rng|apply Le.rngN|apply Le.lop|exact Le.rf|intro _)
noncomputable def Cm (x0:Int) (x1:Int):Option (Rsl×Err) :=
  some ((⟨x0,([]:List Int),0,x1⟩:Rsl),(⟨0⟩:Err))
theorem Fo (x0:Int) (x1:Int):Le (Cm x0 x1) (Bn x0 x1):=by
  unfold Cm Bn
  repeat' (first|apply Le.ite|apply Le.bnd|apply Le.fin|apply Le.rng|apply Le.rngN|apply Le.lop|exact Le.rf|intro _)
noncomputable def Ex (x0:Tsk) (x1:Int):Option (Rsl×Err) :=
  bnd (Dj x0) fun q30=>if q30.2.n≠0 then (some ((⟨0,([]:List Int),0,0⟩:Rsl),(⟨q30.2.n⟩:Err))) else (bnd q30.1 fun o45=>bnd (lopE (ρ:=Rsl×Err) (fun (s50:Int×Spc)=>bnd (BA s50.2.reg) fun q94=>if s50.1 < q94 then (bnd (Ci s50.2.reg s50.1) fun q105=>if q105.2.n≠0 then (some (.ret ((⟨0,([]:List Int),0,0⟩:Rsl),(⟨q105.2.n⟩:Err)))) else (bnd (EK x0.goal q105.1) fun q123=>if q123=true then bnd (CL s50.2 s50.1 s50.1) fun q312=>some (.ret (q312.1,(⟨q312.2.n⟩:Err))) else if x1≤s50.1 then (bnd (Cm 3 s50.1) fun q131=>some (.ret (q131.1,(⟨q131.2.n⟩:Err)))) else (bnd (BO s50.2.gen q105.1) fun q153=>bnd (rng (ρ:=Ctl (Int×Spc) (Rsl×Err)) (fun (k173:Nat) (a174:Suc) (s171:Spc)=>bnd (Cc s171.reg a174.state) fun q232=>if q232.2.2.1.n≠0 then (bnd (chkI (s50.1 + 1)) fun n249=>bnd (Cm 3 n249) fun q252=>some (.ret (.ret (q252.1,(⟨q252.2.n⟩:Err))))) else (if q232.2.1=true then (bnd (Cs q232.2.2.2 q232.1 s50.1 a174.op 0) fun q275=>if q275.1.n≠0 then (some (.ret (.ret ((⟨0,([]:List Int),0,0⟩:Rsl),(⟨q275.1.n⟩:Err))))) else (some (.next (⟨(⟨s171.t.vars,s171.t.init,s171.t.goal,s171.t.ops⟩:Tsk),q275.2,s171.gen⟩:Spc)))) else (some (.next (⟨(⟨s171.t.vars,s171.t.init,s171.t.goal,s171.t.ops⟩:Tsk),q232.2.2.2,s171.gen⟩:Spc))))) q153 0 s50.2) fun res169=>fin res169 fun (s302:Spc)=>bnd (chkI (s50.1 + 1)) fun n304=>some (.next (n304,s302))))) else (some (.brk (s50.1,s50.2)))) (0,o45)) fun res48=>fin res48 fun (s344:Int×Spc)=>bnd (BA s344.2.reg) fun q373=>bnd (Cm 2 q373) fun q383=>some (q383.1,(⟨q383.2.n⟩:Err)))
theorem HL (x0:Tsk) (x1:Int):Le (Ex x0 x1) (De x0 x1):=by
  unfold Ex De
  repeat' (first|apply Ew|apply Fo|apply Ef|apply CD|apply DZ|apply Dw|apply CS|apply Cw|apply Fi|apply Le.ite|apply Le.bnd|apply Le.fin|apply Le.rng|apply Le.rngN|apply Le.lop|exact Le.rf|intro _)
noncomputable def Eh (x0:Tsk) (x1:Int):Option (Rsl×Err) :=
  bnd (Dj x0) fun q30=>if q30.2.n≠0 then (some ((⟨0,([]:List Int),0,0⟩:Rsl),(⟨q30.2.n⟩:Err))) else (bnd q30.1 fun o68=>bnd (lopE (ρ:=Rsl×Err) (fun (s78:(List Int)×(List Bool)×Int×Int×Spc×(BxR 98 96 Itm))=>bnd (CI s78.2.2.2.2.2.l) fun q116=>if 0 < q116 then (bnd (DF s78.2.2.2.2.2) fun q130=>bnd (atI s78.2.1 q130.1.x.id) fun a152=>if a152=true then (some (.next (s78.1,s78.2.1,s78.2.2.1,s78.2.2.2.1,s78.2.2.2.2.1,q130.2))) else (bnd (Ci s78.2.2.2.2.1.reg q130.1.x.id) fun q191=>if q191.2.n≠0 then (some (.ret ((⟨0,([]:List Int),0,0⟩:Rsl),(⟨q191.2.n⟩:Err)))) else (bnd (EK x0.goal q191.1) fun q209=>if q209=true then bnd (CL s78.2.2.2.2.1 q130.1.x.id s78.2.2.2.1) fun q581=>some (.ret (q581.1,(⟨q581.2.n⟩:Err))) else if x1≤s78.2.2.2.1 then (bnd (Cm 3 s78.2.2.2.1) fun q217=>some (.ret (q217.1,(⟨q217.2.n⟩:Err)))) else (bnd (atI s78.2.1 q130.1.x.id) fun a239=>bnd (chkI (s78.2.2.2.1 + 1)) fun n252=>bnd (BO s78.2.2.2.2.1.gen q191.1) fun q255=>bnd (rng (ρ:=Ctl ((List Int)×(List Bool)×Int×Int×Spc×(BxR 98 96 Itm)) (Rsl×Err)) (fun (k275:Nat) (a276:Suc) (s273:(List Int)×(List Bool)×Int×Spc×(BxR 98 96 Itm))=>bnd (Cc s273.2.2.2.1.reg a276.state) fun q346=>if q346.2.2.1.n≠0 then (bnd (Cm 3 n252) fun q363=>some (.ret (.ret (q363.1,(⟨q363.2.n⟩:Err))))) else (bnd (atI x0.ops a276.op) fun a385=>bnd (chkI (q130.1.x.cost + a385.cost)) fun n406=>bnd (if q346.2.1=true then (bnd (appI 8 s273.1 [n406]) fun u418=>bnd (appI 1 s273.2.1 [false]) fun u430=>some (.done (u418,u430))) else (bnd (bnd (atI s273.2.1 q346.1) fun a451=>if a451=true then (some true) else (bnd (atI s273.1 q346.1) fun a468=>if a468≤n406 then (some true) else (some false)):Option Bool) fun y447=>if y447=true then (some (.ret (.next (s273.1,s273.2.1,s273.2.2.1,(⟨(⟨s273.2.2.2.1.t.vars,s273.2.2.2.1.t.init,s273.2.2.2.1.t.goal,s273.2.2.2.1.t.ops⟩:Tsk),q346.2.2.2,s273.2.2.2.1.gen⟩:Spc),s273.2.2.2.2)))) else (some (.done (s273.1,s273.2.1)))):Option (Fin ((List Int)×(List Bool)) (Ctl ((List Int)×(List Bool)×Int×Spc×(BxR 98 96 Itm)) (Ctl ((List Int)×(List Bool)×Int×Int×Spc×(BxR 98 96 Itm)) (Rsl×Err))))) fun y409=>fin y409 fun (s411:(List Int)×(List Bool))=>bnd (atI s411.1 q346.1) fun a500=>bnd (Cs ((⟨(⟨s273.2.2.2.1.t.vars,s273.2.2.2.1.t.init,s273.2.2.2.1.t.goal,s273.2.2.2.1.t.ops⟩:Tsk),q346.2.2.2,s273.2.2.2.1.gen⟩:Spc).reg) q346.1 q130.1.x.id a276.op n406) fun q541=>if q541.1.n≠0 then (some (.ret (.ret ((⟨0,([]:List Int),0,0⟩:Rsl),(⟨q541.1.n⟩:Err))))) else (bnd (Dv s273.2.2.2.2 (⟨(⟨n406,s273.2.2.1,q346.1⟩:Itm)⟩:An 96 Itm)) fun q554=>bnd (chkI (s273.2.2.1 + 1)) fun n562=>some (.next ((s411.1.set (q346.1:Int).toNat n406),s411.2,n562,(⟨(⟨(⟨(⟨s273.2.2.2.1.t.vars,s273.2.2.2.1.t.init,s273.2.2.2.1.t.goal,s273.2.2.2.1.t.ops⟩:Tsk),q346.2.2.2,s273.2.2.2.1.gen⟩:Spc).t.vars,(⟨(⟨s273.2.2.2.1.t.vars,s273.2.2.2.1.t.init,s273.2.2.2.1.t.goal,s273.2.2.2.1.t.ops⟩:Tsk),q346.2.2.2,s273.2.2.2.1.gen⟩:Spc).t.init,(⟨(⟨s273.2.2.2.1.t.vars,s273.2.2.2.1.t.init,s273.2.2.2.1.t.goal,s273.2.2.2.1.t.ops⟩:Tsk),q346.2.2.2,s273.2.2.2.1.gen⟩:Spc).t.goal,(⟨(⟨s273.2.2.2.1.t.vars,s273.2.2.2.1.t.init,s273.2.2.2.1.t.goal,s273.2.2.2.1.t.ops⟩:Tsk),q346.2.2.2,s273.2.2.2.1.gen⟩:Spc).t.ops⟩:Tsk),q541.2,(⟨(⟨s273.2.2.2.1.t.vars,s273.2.2.2.1.t.init,s273.2.2.2.1.t.goal,s273.2.2.2.1.t.ops⟩:Tsk),q346.2.2.2,s273.2.2.2.1.gen⟩:Spc).gen⟩:Spc),q554))))) q255 0 (s78.1,(s78.2.1.set (q130.1.x.id:Int).toNat true),s78.2.2.1,s78.2.2.2.2.1,q130.2)) fun res271=>fin res271 fun (s574:(List Int)×(List Bool)×Int×Spc×(BxR 98 96 Itm))=>some (.next (s574.1,s574.2.1,s574.2.2.1,n252,s574.2.2.2.1,s574.2.2.2.2)))))) else (some (.brk (s78.1,s78.2.1,s78.2.2.1,s78.2.2.2.1,s78.2.2.2.2.1,s78.2.2.2.2.2)))) (([0]:List Int),[false],1,0,o68,(⟨[(⟨0,0,0⟩:Itm)]⟩:BxR 98 96 Itm))) fun res76=>fin res76 fun (s613:(List Int)×(List Bool)×Int×Int×Spc×(BxR 98 96 Itm))=>bnd (Cm 2 s613.2.2.2.1) fun q615=>some (q615.1,(⟨q615.2.n⟩:Err)))
theorem HD (x0:Tsk) (x1:Int):Le (Eh x0 x1) (BI x0 x1):=by
  unfold Eh BI
  repeat' (first|apply Ew|apply Fo|apply DD|apply Ef|apply Gr|apply Gc|apply CD|apply Dw|apply CS|apply Cw|apply Fi|apply Le.ite|apply Le.bnd|apply Le.fin|apply Le.rng|apply Le.rngN|apply Le.lop|exact Le.rf|intro _)
noncomputable def DS (x0:Tsk) (x1:Int):Option (Int×Err) :=
  bnd (Dj x0) fun q25=>if q25.2.n≠0 then (some (0,(⟨q25.2.n⟩:Err))) else (bnd q25.1 fun o38=>bnd (lopE (ρ:=Int×Err) (fun (s43:Int×Spc)=>bnd (BA s43.2.reg) fun q87=>if s43.1 < q87 then (bnd (BA s43.2.reg) fun q98=>if x1 < q98 then (some (.ret (0,(⟨10⟩:Err)))) else (bnd (Ci s43.2.reg s43.1) fun q109=>if q109.2.n≠0 then (some (.ret (0,(⟨q109.2.n⟩:Err)))) else (bnd (BO s43.2.gen q109.1) fun q125=>bnd (rng (ρ:=Ctl (Int×Spc) (Int×Err)) (fun (k145:Nat) (a146:Suc) (s143:Spc)=>bnd (Cc s143.reg a146.state) fun q204=>if q204.2.2.1.n≠0 then (some (.ret (.ret (0,(⟨10⟩:Err))))) else (some (.next (⟨(⟨s143.t.vars,s143.t.init,s143.t.goal,s143.t.ops⟩:Tsk),q204.2.2.2,s143.gen⟩:Spc)))) q125 0 s43.2) fun res141=>fin res141 fun (s230:Spc)=>bnd (chkI (s43.1 + 1)) fun n232=>some (.next (n232,s230))))) else (some (.brk (s43.1,s43.2)))) (0,o38)) fun res41=>fin res41 fun (s244:Int×Spc)=>bnd (BA s244.2.reg) fun q273=>if x1 < q273 then (some (0,(⟨10⟩:Err))) else (bnd (BA s244.2.reg) fun q284=>some (q284,(⟨0⟩:Err))))
theorem GN (x0:Tsk) (x1:Int):Le (DS x0 x1) (CH x0 x1):=by
  unfold DS CH
  repeat' (first|apply Ew|apply CD|apply DZ|apply CS|apply Cw|apply Le.ite|apply Le.bnd|apply Le.fin|apply Le.rng|apply Le.rngN|apply Le.lop|exact Le.rf|intro _)
noncomputable def FI (x0:Tsk) (x1:List Int) (x2:Int):Option ((List Int)×Bool) :=
  bnd (if x2 < 0 then (some true) else (if (x0.ops.length:Int)≤x2 then (some true) else (bnd (atI x0.ops x2) fun a36=>bnd (EL a36.pre x1) fun q57=>if q57=true then some false else some true)):Option Bool) fun y28=>if y28=true then (some (([]:List Int),false)) else (bnd (appI 8 ([]:List Int) x1) fun u75=>bnd (atI x0.ops x2) fun a86=>bnd (rng (ρ:=(List Int)×Bool) (fun (k113:Nat) (a114:Eff) (s111:(List Int))=>bnd (EL a114.cond x1) fun q148=>if q148=true then bnd (atI s111 a114.var) fun a155=>some (.next (s111.set (a114.var:Int).toNat a114.val)) else some (.next s111)) a86.effs 0 u75) fun res109=>fin res109 fun (s173:(List Int))=>some (s173,true))
theorem Jm (x0:Tsk) (x1:List Int) (x2:Int):Le (FI x0 x1 x2) (BM x0 x1 x2):=by
  unfold FI BM
  repeat' (first|apply GZ|apply Le.ite|apply Le.bnd|apply Le.fin|apply Le.rng|apply Le.rngN|apply Le.lop|exact Le.rf|intro _)
noncomputable def Gd (x0:Tsk) (x1:List Int) (x2:List Int):Option (Int×Bool) :=
  bnd (rng (ρ:=Int×Bool) (fun (k36:Nat) (a37:Int) (s34:(List Int)×Int)=>bnd (FI x0 s34.1 a37) fun q59=>if (!q59.2)=true then (some (.ret (0,false))) else (bnd (atI x0.ops a37) fun a73=>bnd (chkI (s34.2 + a73.cost)) fun n94=>some (.next (q59.1,n94)))) x2 0 (x1,0)) fun res32=>fin res32 fun (s101:(List Int)×Int)=>bnd (bnd (EL x0.goal s101.1) fun q107=>if q107=true then some true else some false:Option Bool) fun y103=>some (s101.2,y103)
theorem JT (x0:Tsk) (x1:List Int) (x2:List Int):Le (Gd x0 x1 x2) (Dn x0 x1 x2):=by
  unfold Gd Dn
  repeat' (first|apply Jm|apply GZ|apply Le.ite|apply Le.bnd|apply Le.fin|apply Le.rng|apply Le.rngN|apply Le.lop|exact Le.rf|intro _)
noncomputable def Fk (x0:Tsk) (x1:Rsl) (x2:Int):Option Bool :=
  if 1125899906842624≤x2 then (bnd (if x1.verdict=2 then (if (x1.plan.length:Int)=0 then (if x1.cost=0 then (some true) else (some false)) else (some false)) else (some false):Option Bool) fun y40=>some y40) else (bnd (Gd x0 x0.init x1.plan) fun q53=>bnd (if x1.verdict=1 then (if q53.2=true then (if q53.1=x2 then (if x1.cost=x2 then (some true) else (some false)) else (some false)) else (some false)) else (some false):Option Bool) fun y65=>some y65)
theorem IR (x0:Tsk) (x1:Rsl) (x2:Int):Le (Fk x0 x1 x2) (Cn x0 x1 x2):=by
  unfold Fk Cn
  repeat' (first|apply JT|apply Le.ite|apply Le.bnd|apply Le.fin|apply Le.rng|apply Le.rngN|apply Le.lop|exact Le.rf|intro _)
noncomputable def Dk:Option Tsk:=Cr
theorem Ih:Le Dk Cr:=Le.rf
noncomputable def Hb  : Option Bool :=
  bnd (Dk) fun q1=>bnd (Ex q1 100) fun q25=>bnd (Dk) fun q52=>bnd (Eh q52 100) fun q76=>bnd (Dk) fun q103=>bnd (DS q103 100) fun q127=>bnd (if q25.2.n=0 then (if q76.2.n=0 then (if q127.2.n=0 then (bnd (Ga q25.1.plan ([3]:List Int)) fun q153=>if q153=true then if q25.1.cost=5 then (if q25.1.expanded=2 then (bnd (Dk) fun q162=>bnd (Fk q162 q76.1 3) fun q186=>if q186=true then if q127.1=4 then (some true) else (some false) else some false) else (some false)) else (some false) else some false) else (some false)) else (some false)) else (some false):Option Bool) fun y140=>some y140
theorem IS  : Le (Hb ) (CR ):=by
  unfold Hb CR
  repeat' (first|apply JS|apply IR|apply GN|apply HL|apply HD|apply Ih|apply Le.ite|apply Le.bnd|apply Le.fin|apply Le.rng|apply Le.rngN|apply Le.lop|exact Le.rf|intro _)
set_option maxRecDepth 100000 in
theorem awake48:CR=some true:=IS true (by kernel_rfl)
end
section
open Go Go.RowKit
def cntI (p:Int→Bool) (l:List Int):Nat:=(l.filter p).length
theorem Jj {p:Int→Bool} {l:List Int} {k:Nat} {x:Int} (h:l[k]?=some x):cntI p (l.take (k + 1))=cntI p (l.take k) + if p x=true then 1 else 0:=by
  unfold cntI
  rw [List.take_add_one,h]
  by_cases hp:p x=true<;>simp [hp]
def pickL (p:Int→Bool):List (List Int)→List Int→List (List Int)
  | s :: l,c :: d=>if p c=true then s :: pickL p l d else pickL p l d
  | _,_=>[]
theorem FJ {p:Int→Bool}:∀ (l:List (List Int)) (d:List Int),d.length=l.length→(pickL p l d).length=cntI p d
  | [],d,h=>by have:d=[]:=List.length_eq_zero_iff.1 h;subst this;rfl
  | s :: l,[],h=>by simp at h
  | s :: l,c :: d,h=>by
    have:=FJ (p:=p) l d (by simpa using h)
    simp only [pickL,cntI] at this ⊢
    by_cases hp:p c=true<;>simp [hp,this]
theorem FV {p:Int→Bool}:∀ {l:List (List Int)} {d:List Int} {s:List Int},s∈pickL p l d↔∃ (i:Nat) (c:Int),l[i]?=some s∧d[i]?=some c∧p c=true
  | [],d,s=>by simp [pickL]
  | s :: l,[],s'=>by simp [pickL]
  | s :: l,c :: d,s'=>by
    have ih:=FV (p:=p) (l:=l) (d:=d) (s:=s')
    simp only [pickL]
    constructor
    · intro h
      by_cases hp:p c=true
      · rw [if_pos hp] at h
        rcases List.mem_cons.1 h with rfl|h
        · exact ⟨0,c,rfl,rfl,hp⟩
        · obtain ⟨i,c',h1,h2,h3⟩:=ih.1 h;exact ⟨i + 1,c',by simpa using h1,by simpa using h2,h3⟩
      · rw [if_neg hp] at h
        obtain ⟨i,c',h1,h2,h3⟩:=ih.1 h;exact ⟨i + 1,c',by simpa using h1,by simpa using h2,h3⟩
    · rintro ⟨i,c',h1,h2,h3⟩
      cases i with
      | zero =>
        have e1:s=s':=by simpa using h1
        have e2:c=c':=by simpa using h2
        subst e1;subst e2
        rw [if_pos h3];exact List.mem_cons_self
      | succ i =>
        have:=ih.2 ⟨i,c',by simpa using h1,by simpa using h2,h3⟩
        split
        · exact List.mem_cons_of_mem _ this
        · exact this
theorem Ii {p:Int→Bool}:∀ (l:List (List Int)) (d:List Int),(pickL p l d).Sublist l
  | [],d=>by simp [pickL]
  | s :: l,[]=>by simp [pickL]
  | s :: l,c :: d=>by
    have ih:=Ii (p:=p) l d
    simp only [pickL]
    split
    · exact ih.cons_cons s
    · exact ih.cons s
theorem KQ (t:Tsk) (lim:Int):CP t lim=some true:=by
  unfold CP FC
  rw [AB,awake48,AB,if_t]
  by_cases hs:SmallOk t
  case neg=>rw [bof_f hs,if_f,AB,if_t,AB,if_t,AB]
  have hok:=hs.ok
  rw [bof_t hs,if_t,AB,if_f]
  obtain ⟨r,r1,r2,_⟩:=KO hs lim
  obtain ⟨b,b1,b2,b3,b4,b5⟩:=Mv hs
  obtain ⟨d,d1,d2⟩:=LZ hs
  have hml:=hs.many
  have hdl:=d2.1.1
  rw [r1,AB,if_neg (by simp),b1,AB,d1,AB]
  have loop : rng (ρ:=Bool) (fun (_:Nat) (a115:Int) (s112:Int×Int)=>bnd (bnd (if a115 < 1125899906842624 then (if a115 < b then (some true) else (some false)) else (some false):Option Bool) fun y142=>if y142=true then (bnd (chkI (s112.1 + 1)) fun n153=>some n153) else (some s112.1):Option Int) fun y137=>bnd (if a115 < 1125899906842624 then (if a115≤b then (some true) else (some false)) else (some false):Option Bool) fun y160=>if y160=true then (bnd (chkI (s112.2 + 1)) fun n171=>some (.next (y137,n171))) else (some (.next (y137,s112.2)))) d 0 (0,0)=some (.done ((cntI (fun c=>decide (c < Inf∧c < b)) d:Int),(cntI (fun c=>decide (c < Inf∧c≤b)) d:Int))):=by
    have := FF (ρ:=Bool) (xs:=d) (s₀:=((0:Int),(0:Int))) (f:=fun (_:Nat) (a115:Int) (s112:Int×Int)=>bnd (bnd (if a115 < 1125899906842624 then (if a115 < b then (some true) else (some false)) else (some false):Option Bool) fun y142=>if y142=true then (bnd (chkI (s112.1 + 1)) fun n153=>some n153) else (some s112.1):Option Int) fun y137=>bnd (if a115 < 1125899906842624 then (if a115≤b then (some true) else (some false)) else (some false):Option Bool) fun y160=>if y160=true then (bnd (chkI (s112.2 + 1)) fun n171=>some (.next (y137,n171))) else (some (.next (y137,s112.2)))) (fun k=>((cntI (fun c=>decide (c < Inf∧c < b)) (d.take k):Int),(cntI (fun c=>decide (c < Inf∧c≤b)) (d.take k):Int))) (by simp [cntI]) (fun k c hk=>by
      have hkl:=AJ hk
      have n1:cntI (fun c=>decide (c < Inf∧c < b)) (d.take k)≤k:=Nat.le_trans (List.length_filter_le _ _) (by simp;omega)
      have n2:cntI (fun c=>decide (c < Inf∧c≤b)) (d.take k)≤k:=Nat.le_trans (List.length_filter_le _ _) (by simp;omega)
      have e0:(1125899906842624:Int)=Inf:=rfl
      rw [Jj hk,Jj hk,e0]
      by_cases h1:c < Inf
      · rw [if_pos h1,if_pos h1]
        by_cases h2:c < b
        · have h3:c≤b:=by omega
          rw [if_pos h2,AB,if_t,Bp (by unfold inI64;omega),AB,AB,if_pos h3,AB,if_t,Bp (by unfold inI64;omega),AB]
          simp [h1,h2,h3]
        · rw [if_neg h2,AB,if_f,AB]
          by_cases h3:c≤b
          · rw [if_pos h3,AB,if_t,Bp (by unfold inI64;omega),AB]
            simp [h1,h2,h3]
          · rw [if_neg h3,AB,if_f]
            simp [h1,h2,h3]
      · rw [if_neg h1,if_neg h1,AB,if_f,AB,AB,if_f]
        simp [h1])
    rw [this,List.take_length]
  rw [loop,AB,fin_d]
  dsimp only
  obtain ⟨q0,q1,M,m1,m2,m3,m4⟩:=r2
  have hcp:∀ s,Cheap t s→s∈pickL (fun c=>decide (c < Inf∧c≤b)) (statesL t.vars) d:=fun s hc=>by
    obtain ⟨p,c,hp,hci,hcw⟩:=hc
    obtain ⟨i,hi⟩:=List.getElem?_of_mem (En.2 ((hp.rch .init).ok hok))
    obtain ⟨x,x1,x2,x3,_⟩:=d2.1.2 i s hi
    have hxc:=d2.2 i s x p c hi x1 hp
    refine FV.2 ⟨i,x,hi,x1,?_⟩
    have h1:x < Inf:=by unfold Inf;omega
    have h2:x≤b:=by
      by_cases hb:b < Inf
      · have:=hcw b (b4 hb);omega
      · omega
    simp [h1,h2]
  have hcheap:M.length≤cntI (fun c=>decide (c < Inf∧c≤b)) d:=by
    rw [← FJ (statesL t.vars) d hdl]
    exact EC m1 fun s hm=>hcp s (m3 s hm)
  rw [if_neg (by omega),if_neg (by omega),if_neg (by omega),AB,if_f]
  rcases m4 with ⟨v1,v2,⟨s',v3,v4⟩,v5,v6⟩|⟨v1,v2,v3,v4,v5⟩|⟨v1,v2,v3,v4,s,v5,v6⟩
  · have hbw:=b5 _ (v3.walk v4)
    have hcb:r.cost≤b:=by
      have h1:=v3.bound hok
      have:b < Inf:=by unfold Inf;omega
      exact v5 b (b4 this)
    have hge:cntI (fun c=>decide (c < Inf∧c < b)) d≤M.length:=by
      rw [← FJ (statesL t.vars) d hdl]
      refine EC ((GY hok).sublist (Ii _ _)) fun s hm=>?_
      obtain ⟨i,c,h1,h2,h3⟩:=FV.1 hm
      simp at h3
      obtain ⟨x,x1,x2,x3,x4,_⟩:=d2.1.2 i s h1
      rw [h2] at x1
      obtain rfl:=Option.some.inj x1
      obtain ⟨p,hp⟩:=x4 h3.1
      exact v6 s p c hp (by omega)
    rw [if_neg (by omega),if_pos (by omega),LP hs b4 b5 v1 (by omega) v3 v4 v5,AB,if_t,AB]
  · have hge:cntI (fun c=>decide (c < Inf∧c < b)) d≤M.length:=by
      rw [← FJ (statesL t.vars) d hdl]
      refine EC ((GY hok).sublist (Ii _ _)) fun s hm=>?_
      obtain ⟨i,c,h1,h2,h3⟩:=FV.1 hm
      simp at h3
      obtain ⟨x,x1,x2,x3,x4,_⟩:=d2.1.2 i s h1
      rw [h2] at x1
      obtain rfl:=Option.some.inj x1
      obtain ⟨p,hp⟩:=x4 h3.1
      exact v5 s p c hp
    rw [if_neg (by omega),if_pos (by omega),LQ b4 v1 v2 v3 v4,AB,if_t,AB]
  · have hmore:M.length + 1≤cntI (fun c=>decide (c < Inf∧c≤b)) d:=by
      rw [← FJ (statesL t.vars) d hdl,← List.length_cons (a:=s)]
      refine EC (List.nodup_cons.2 ⟨v5,m1⟩) fun s' hm=>?_
      rcases List.mem_cons.1 hm with rfl|hm
      · exact hcp _ v6
      · exact hcp s' (m3 s' hm)
    rw [if_pos v1,if_pos (by omega),if_pos (by rw [v2];rfl),if_pos v3,AB]
end
section
open Go Go.RowKit Go.ChangeShapes Go.WideShapes Go.Deep
theorem lawBLimits {w:World} {v0:Value} {a0:Tsk} (h0:V w v0 a0) {v1:Value} {a1:Int} (h1:V w v1 a1):Fn Try.prog 6 [v0,v1] w fun v w'=>v=.bool true∧Ext w w':=by
  obtain ⟨rfl,r1⟩:=Vb.int h1
  exact (Gp (fun _ h=>h) h0 r1 (KQ a0 a1)).mono fun _ _ h=>⟨h.2.bool,h.1⟩
set_option maxRecDepth 100000 in
theorem GO (os:Os) (started:os.Started) (H:Type) (enc:TypeId×Value→H) :
    ReturnsInHanded {} Try.checked os 6 .any (Rows.breadthLimitsSpec.pre6 enc Try.prog Try.f6 Rows.breadthLimitsRow.domain false) (Rows.breadthLimitsSpec.post enc Try.prog Try.f6 false true false false):=by
  refine returnsInHanded_of_change (C:=Try.checked) ownTry started (by kernel_rfl) Try.func6 (ChangeSpec.witness6 (enc:=enc) (C:=Try.checked) false ⟨#[],#[(.agg #[.slice none 0 0,.slice none 0 0,.slice none 0 0,.slice none 0 0]),(.int .i64 0)],[]⟩ 8 (by kernel_rfl) (by kernel_rfl) (by kernel_rfl) (by kernel_rfl)) ?_
  intro W base args ds gs before hval hW _ _
  have hopen:∀ p,DataW.TrodAll enc Try.prog W 0 (fun _=>true) true Try.f6.params.toList args.toList ds p→∃ v0 v1 d0 d1,args=#[v0,v1]∧ds=[d0,d1]∧(∃ a:Tsk,V W v0 a)∧(∃ a:Int,V W v1 a):=by
    intro p hA
    rw [Try.params6] at hA
    replace hval:∀ (j:Nat) t v,(#[26,3]:Array TypeId)[j]?=some t→args[j]?=some v→Value.okWide Try.prog W .any base t v:=by rw [← Try.params6];exact hval
    obtain ⟨v0,vs0,d0,ds0,p0,q0,g0,e0,_,h0,r0⟩:=trodAll_cons hA
    obtain ⟨v1,vs1,d1,ds1,p1,q1,g1,e1,_,h1,r1⟩:=trodAll_cons r0
    obtain ⟨g,e,_⟩:=trodAll_nil r1
    rw [g] at g1;rw [e] at e1
    rw [g1] at g0;rw [e1] at e0
    obtain rfl:args=#[v0,v1]:=by cases args;simp_all
    exact ⟨v0,v1,d0,d1,rfl,e0,(by first|exact openAgg rfl (hval 0 26 v0 rfl rfl) h0|exact openOne rfl (hval 0 26 v0 rfl rfl) h0),(by first|exact openAgg rfl (hval 1 3 v1 rfl rfl) h1|exact openOne rfl (hval 1 3 v1 rfl rfl) h1)⟩
  refine lawPost rfl (by kernel_rfl) (by rw [Try.params6];exact of_decide_eq_true (by kernel_rfl)) hW ?_ ?_
  · intro p hA
    obtain ⟨v0,v1,d0,d1,_,rfl,_⟩:=hopen p hA
    rfl
  · intro p hA
    obtain ⟨v0,v1,d0,d1,rfl,_,⟨a0,h0⟩,⟨a1,h1⟩⟩:=hopen p hA
    exact lawBLimits h0 h1
theorem breadthLimits_holds:Rows.BreadthLimitsSaid :=
  OpenClaim.holds_of_wide 6 Try.f6 rfl rfl rfl rfl rfl rfl rfl ⟨rfl,rfl,rfl,rfl,rfl⟩ rfl rfl rfl rfl rfl (by kernel_rfl) Try.func6 (by kernel_rfl)
    (of_decide_eq_true (by kernel_rfl)) (by unfold Func.isWrapper;first|(rw [if_pos (by decide +kernel)];kernel_rfl)|(rw [if_neg (by decide +kernel)];exact ⟨rfl,rfl⟩))
    (fun os started H enc _=>GO os started H enc)
#print axioms breadthLimits_holds
end
end Go.Proofs.Ythomfnkaicjmbaa

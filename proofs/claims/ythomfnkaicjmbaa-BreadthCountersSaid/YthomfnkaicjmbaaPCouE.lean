/- BreadthCounters returns true for every number of bits and every limit. No conditions. -/
import Derived.Test.YthomfnkaicjmbaaPCouD
import Derived.Test.YthomfnkaicjmbaaRows
set_option linter.unusedVariables false
set_option linter.unusedSimpArgs false
namespace Go.Proofs.Ythomfnkaicjmbaa
open Go Go.RowKit
section
open Go Go.RowKit
set_option maxRecDepth 20000
def Dg (x:List U64):Option (List U64):=BS x
theorem EE (x:List U64):Le (Dg x) (BS x):=Le.rf
def GP (t:Tsk):Option (Option Gnr×Err):=if taskB t=true then some (some ⟨t⟩,⟨0⟩) else none
theorem IH (t:Tsk):Le (GP t) (DE t):=fun r h=>by
  obtain ⟨h1,rfl⟩:=Fv h
  exact LG (JV h1)
def Cy (x:Option Gnr) (s:List Int):Option (List Int):=match x with
  | some g=>if stateB g.t.vars s=true then (if s.length≤1000000 then some (appl g.t s) else none) else none
  | none=>none
theorem Ew (x:Option Gnr) (s:List Int):Le (Cy x s) (BL x s):=fun r h=>by
  cases x with
  | none=>cases h
  | some g =>
    unfold Cy at h
    dsimp only at h
    split at h
    · rename_i h1
      obtain ⟨h3,rfl⟩:=Fv h
      unfold BL
      rw [if_pos h3]
      show some (appS g.t s)=_
      rw [EN (Hq h1)]
    · cases h
noncomputable def CJ (x0:List Itm):Option Int :=
  some (x0.length:Int)
theorem Dz (x0:List Itm):Le (CJ x0) (Bh x0):=by
  unfold CJ Bh
  repeat' (first|apply Le.ite|apply Le.bnd|apply Le.fin|apply Le.rng|apply Le.rngN|apply Le.lop|exact Le.rf|intro _)
noncomputable def Cz (x0:List Itm) (x1:Int) (x2:Int):Option Bool :=
  bnd (bnd (atI x0 x1) fun a10=>bnd (atI x0 x2) fun a24=>if a10.cost < a24.cost then (some true) else (bnd (atI x0 x1) fun a39=>bnd (atI x0 x2) fun a53=>if a39.cost=a53.cost then (bnd (atI x0 x1) fun a68=>bnd (atI x0 x2) fun a82=>if a68.order < a82.order then (some true) else (some false)) else (some false)):Option Bool) fun y6=>some y6
theorem Eu (x0:List Itm) (x1:Int) (x2:Int):Le (Cz x0 x1 x2) (Bj x0 x1 x2):=by
  unfold Cz Bj
  repeat' (first|apply Le.ite|apply Le.bnd|apply Le.fin|apply Le.rng|apply Le.rngN|apply Le.lop|exact Le.rf|intro _)
noncomputable def CA (x0:List Itm) (x1:Int) (x2:Int):Option (List Itm) :=
  bnd (atI x0 x2) fun a4=>bnd (atI x0 x1) fun a18=>bnd (atI x0 x1) fun a32=>bnd (atI (x0.set (x1:Int).toNat a4) x2) fun a48=>some ((x0.set (x1:Int).toNat a4).set (x2:Int).toNat a18)
theorem Dn (x0:List Itm) (x1:Int) (x2:Int):Le (CA x0 x1 x2) (Bg x0 x1 x2):=by
  unfold CA Bg
  repeat' (first|apply Le.ite|apply Le.bnd|apply Le.fin|apply Le.rng|apply Le.rngN|apply Le.lop|exact Le.rf|intro _)
noncomputable def DA (x0:BxR 98 96 Itm) (x1:An 96 Itm):Option (BxR 98 96 Itm) :=
  bnd (appI 24 x0.l [x1.x]) fun u31=>some (⟨u31⟩:BxR 98 96 Itm)
theorem Gj (x0:BxR 98 96 Itm) (x1:An 96 Itm):Le (DA x0 x1) (Cl x0 x1):=by
  unfold DA Cl
  repeat' (first|apply Le.ite|apply Le.bnd|apply Le.fin|apply Le.rng|apply Le.rngN|apply Le.lop|exact Le.rf|intro _)
noncomputable def DI (x0:BxR 98 96 Itm):Option ((An 96 Itm)×(BxR 98 96 Itm)) :=
  bnd (chkI ((x0.l.length:Int) - 1)) fun n13=>bnd (atI x0.l n13) fun a16=>bnd (cutI x0.l 0 n13) fun u37=>some ((⟨a16⟩:An 96 Itm),(⟨u37⟩:BxR 98 96 Itm))
theorem GC (x0:BxR 98 96 Itm):Le (DI x0) (Cp x0):=by
  unfold DI Cp
  repeat' (first|apply Le.ite|apply Le.bnd|apply Le.fin|apply Le.rng|apply Le.rngN|apply Le.lop|exact Le.rf|intro _)
noncomputable def DJ (x0:BxR 98 96 Itm) (x1:Int):Option (BxR 98 96 Itm) :=
  bnd (lopE (ρ:=(BxR 98 96 Itm)) (fun (s5:Int×(BxR 98 96 Itm))=>bnd (chkI (s5.1 - 1)) fun n22=>bnd (quoT n22 2) fun n25=>bnd (if n25=s5.1 then (some true) else (bnd (Cz s5.2.l s5.1 n25) fun q42=>if q42=true then some false else some true):Option Bool) fun y28=>if y28=true then (some (.brk (s5.1,s5.2))) else (bnd (CA s5.2.l n25 s5.1) fun q73=>some (.next (n25,(⟨q73⟩:BxR 98 96 Itm))))) (x1,x0)) fun res3=>fin res3 fun (s90:Int×(BxR 98 96 Itm))=>some s90.2
theorem GD (x0:BxR 98 96 Itm) (x1:Int):Le (DJ x0 x1) (Cc x0 x1):=by
  unfold DJ Cc
  repeat' (first|apply Eu|apply Dn|apply Le.ite|apply Le.bnd|apply Le.fin|apply Le.rng|apply Le.rngN|apply Le.lop|exact Le.rf|intro _)
noncomputable def Do (x0:BxR 98 96 Itm) (x1:Int) (x2:Int):Option (Bool×(BxR 98 96 Itm)) :=
  bnd (lopE (ρ:=Bool×(BxR 98 96 Itm)) (fun (s6:Int×(BxR 98 96 Itm))=>bnd (chkI (2 * s6.1)) fun n23=>bnd (chkI (n23 + 1)) fun n26=>bnd (if x2≤n26 then (some true) else (if n26 < 0 then (some true) else (some false)):Option Bool) fun y29=>if y29=true then (some (.brk (s6.1,s6.2))) else (bnd (bnd (chkI (n26 + 1)) fun n45=>bnd (if n45 < x2 then (bnd (Cz s6.2.l n45 n26) fun q62=>if q62=true then some true else some false) else (some false):Option Bool) fun y48=>if y48=true then (some n45) else (some n26):Option Int) fun y40=>bnd (Cz s6.2.l y40 s6.1) fun q97=>if q97=true then bnd (CA s6.2.l s6.1 y40) fun q109=>some (.next (y40,(⟨q109⟩:BxR 98 96 Itm))) else some (.brk (s6.1,s6.2)))) (x1,x0)) fun res4=>fin res4 fun (s126:Int×(BxR 98 96 Itm))=>bnd (if x1 < s126.1 then (some true) else (some false):Option Bool) fun y128=>some (y128,s126.2)
theorem FV (x0:BxR 98 96 Itm) (x1:Int) (x2:Int):Le (Do x0 x1 x2) (BU x0 x1 x2):=by
  unfold Do BU
  repeat' (first|apply Eu|apply Dn|apply Le.ite|apply Le.bnd|apply Le.fin|apply Le.rng|apply Le.rngN|apply Le.lop|exact Le.rf|intro _)
noncomputable def Dp (x0:BxR 98 96 Itm) (x1:An 96 Itm):Option (BxR 98 96 Itm) :=
  bnd (DA x0 (⟨x1.x⟩:An 96 Itm)) fun q9=>bnd (CJ q9.l) fun q26=>bnd (chkI (q26 - 1)) fun n34=>bnd (DJ q9 n34) fun q42=>some q42
theorem FW (x0:BxR 98 96 Itm) (x1:An 96 Itm):Le (Dp x0 x1) (BD x0 x1):=by
  unfold Dp BD
  repeat' (first|apply Dz|apply Gj|apply GD|apply Le.ite|apply Le.bnd|apply Le.fin|apply Le.rng|apply Le.rngN|apply Le.lop|exact Le.rf|intro _)
noncomputable def DB (x0:BxR 98 96 Itm):Option ((An 96 Itm)×(BxR 98 96 Itm)) :=
  bnd (CJ x0.l) fun q11=>bnd (chkI (q11 - 1)) fun n19=>bnd (CA x0.l 0 n19) fun q22=>bnd (Do (⟨q22⟩:BxR 98 96 Itm) 0 n19) fun q35=>bnd (DI q35.2) fun q44=>some ((⟨q44.1.x⟩:An 96 Itm),q44.2)
theorem Gk (x0:BxR 98 96 Itm):Le (DB x0) (BM x0):=by
  unfold DB BM
  repeat' (first|apply Dz|apply GC|apply Dn|apply FV|apply Le.ite|apply Le.bnd|apply Le.fin|apply Le.rng|apply Le.rngN|apply Le.lop|exact Le.rf|intro _)
noncomputable def GE (x0:List Int):Option ((Option Pkr)×Err) :=
  if 64 < (x0.length:Int) then (some (none,(⟨5⟩:Err))) else (bnd (rng (ρ:=(Option Pkr)×Err) (fun (k25:Nat) (a26:Int) (s23:Int×Pkr)=>bnd (if a26 < 1 then (some true) else (if 64 < a26 then (some true) else (some false)):Option Bool) fun y48=>if y48=true then (some (.ret (none,(⟨1⟩:Err)))) else (bnd (lopE (ρ:=Ctl (Int×Pkr) ((Option Pkr)×Err)) (fun (s61:Int)=>bnd (shlI 1 s61) fun n76=>if n76 < a26 then (bnd (chkI (s61 + 1)) fun n80=>some (.next n80)) else (some (.brk s61))) 0) fun res59=>fin res59 fun (s87:Int)=>bnd (bnd (chkI (s23.1 + s87)) fun n95=>if 64 < n95 then (bnd (chkI (s23.2.words + 1)) fun n109=>some (0,(⟨s23.2.fields,n109⟩:Pkr))) else (some (s23.1,s23.2)):Option (Int×Pkr)) fun y89=>bnd (chkI (y89.2.words - 1)) fun n133=>bnd (appI 32 y89.2.fields [(⟨n133,y89.1,s87,a26⟩:PFd)]) fun u142=>bnd (chkI (y89.1 + s87)) fun n155=>some (.next (n155,(⟨u142,y89.2.words⟩:Pkr))))) x0 0 (0,(⟨([]:List PFd),1⟩:Pkr))) fun res21=>fin res21 fun (s167:Int×Pkr)=>some ((some s167.2),(⟨0⟩:Err)))
theorem Kn (x0:List Int):Le (GE x0) (Dw x0):=by
  unfold GE Dw
  repeat' (first|apply Le.ite|apply Le.bnd|apply Le.fin|apply Le.rng|apply Le.rngN|apply Le.lop|exact Le.rf|intro _)
noncomputable def Dh (x0:PFd):Option U64 :=
  bnd (shlU (1:U64) x0.width) fun n12=>bnd (shlU (n12 - (1:U64)) x0.bit) fun n14=>some n14
theorem Fa (x0:PFd):Le (Dh x0) (Cb x0):=by
  unfold Dh Cb
  repeat' (first|apply Le.ite|apply Le.bnd|apply Le.fin|apply Le.rng|apply Le.rngN|apply Le.lop|exact Le.rf|intro _)
noncomputable def Ej (x0:PFd) (x1:List U64):Option Int :=
  bnd (atI x1 x0.word) fun a15=>bnd (Dh x0) fun q26=>bnd (shrU (a15 &&& q26) x0.bit) fun n33=>some n33.toInt
theorem HC (x0:PFd) (x1:List U64):Le (Ej x0 x1) (Cr x0 x1):=by
  unfold Ej Cr
  repeat' (first|apply Fa|apply Le.ite|apply Le.bnd|apply Le.fin|apply Le.rng|apply Le.rngN|apply Le.lop|exact Le.rf|intro _)
noncomputable def DP (x0:Pkr) (x1:List Int):Option ((List U64)×Err) :=
  if (x1.length:Int)≠(x0.fields.length:Int) then (some (([]:List U64),(⟨2⟩:Err))) else (bnd (mkI 8 ((0:U64):U64) x0.words) fun u25=>bnd (rng (ρ:=(List U64)×Err) (fun (k50:Nat) (a51:PFd) (s48:(List U64))=>bnd (bnd (x1[k50]?) fun a87=>if a87 < 0 then (some true) else (bnd (x1[k50]?) fun a98=>if a51.size≤a98 then (some true) else (some false)):Option Bool) fun y83=>if y83=true then (some (.ret (([]:List U64),(⟨2⟩:Err)))) else (bnd (atI s48 a51.word) fun a114=>bnd (x1[k50]?) fun a125=>bnd (shlU (BitVec.ofInt 64 a125) a51.bit) fun n135=>bnd (atI s48 a51.word) fun a137=>some (.next (s48.set (a51.word:Int).toNat (a114 ||| n135))))) x0.fields 0 u25) fun res46=>fin res46 fun (s154:(List U64))=>some (s154,(⟨0⟩:Err)))
theorem GT (x0:Pkr) (x1:List Int):Le (DP x0 x1) (Bt x0 x1):=by
  unfold DP Bt
  repeat' (first|apply Le.ite|apply Le.bnd|apply Le.fin|apply Le.rng|apply Le.rngN|apply Le.lop|exact Le.rf|intro _)
noncomputable def DC (x0:Pkr) (x1:List U64):Option ((List Int)×Err) :=
  if (x1.length:Int)≠x0.words then (some (([]:List Int),(⟨2⟩:Err))) else (bnd (mkI 8 (0:Int) (x0.fields.length:Int)) fun u25=>bnd (Dg x1) fun q38=>bnd (rng (ρ:=(List Int)×Err) (fun (k60:Nat) (a61:PFd) (s58:(List Int)×(List U64))=>bnd (Ej a61 x1) fun q97=>bnd (s58.1[k60]?) fun a105=>bnd ((s58.1.set k60 q97)[k60]?) fun a117=>if a61.size≤a117 then (some (.ret (([]:List Int),(⟨2⟩:Err)))) else (bnd (atI s58.2 a61.word) fun a128=>bnd (Dh a61) fun q139=>bnd (atI s58.2 a61.word) fun a146=>some (.next ((s58.1.set k60 q97),(s58.2.set (a61.word:Int).toNat (a128 &&& ~~~q139)))))) x0.fields 0 (u25,q38)) fun res56=>fin res56 fun (s163:(List Int)×(List U64))=>bnd (rng (ρ:=(List Int)×Err) (fun (k171:Nat) (a172:U64) (s169:Unit)=>bnd (s163.2[k171]?) fun a182=>if (a182.toNat:Int)≠((0:U64).toNat:Int) then (some (.ret (([]:List Int),(⟨2⟩:Err)))) else (some (.next ()))) q38 0 ()) fun res167=>fin res167 fun (s196:Unit)=>some (s163.1,(⟨0⟩:Err)))
theorem Gl (x0:Pkr) (x1:List U64):Le (DC x0 x1) (BZ x0 x1):=by
  unfold DC BZ
  repeat' (first|apply HC|apply Fa|apply EE|apply Le.ite|apply Le.bnd|apply Le.fin|apply Le.rng|apply Le.rngN|apply Le.lop|exact Le.rf|intro _)
noncomputable def DQ (x0:Pkr) (x1:List U64):Option Int :=
  bnd (rng (ρ:=Int) (fun (k13:Nat) (a14:U64) (s11:U64)=>bnd (shrU ((s11 ^^^ a14) * (13787848793156543929:U64)) 29) fun n31=>some (.next (((s11 ^^^ a14) * (13787848793156543929:U64)) ^^^ n31))) x1 0 ((BitVec.ofInt 64 (x1.length:Int)) + (11400714819323198485:U64))) fun res9=>fin res9 fun (s37:U64)=>bnd (shrU s37 2) fun n39=>some n39.toInt
theorem GU (x0:Pkr) (x1:List U64):Le (DQ x0 x1) (Bz x0 x1):=by
  unfold DQ Bz
  repeat' (first|apply Le.ite|apply Le.bnd|apply Le.fin|apply Le.rng|apply Le.rngN|apply Le.lop|exact Le.rf|intro _)
noncomputable def CD (x0:List U64) (x1:List U64):Option Bool :=
  if (x0.length:Int)≠(x1.length:Int) then (some false) else (bnd (rng (ρ:=Bool) (fun (k18:Nat) (a19:U64) (s16:Unit)=>bnd (x1[k18]?) fun a36=>if (a19.toNat:Int)≠(a36.toNat:Int) then (some (.ret false)) else (some (.next ()))) x0 0 ()) fun res14=>fin res14 fun (s50:Unit)=>some true)
theorem EF (x0:List U64) (x1:List U64):Le (CD x0 x1) (Bo x0 x1):=by
  unfold CD Bo
  repeat' (first|apply Le.ite|apply Le.bnd|apply Le.fin|apply Le.rng|apply Le.rngN|apply Le.lop|exact Le.rf|intro _)
noncomputable def EO (x0:List Int):Option ((Option Reg)×Err) :=
  bnd (GE x0) fun q4=>if q4.2.n≠0 then (some (none,(⟨q4.2.n⟩:Err))) else (bnd q4.1 fun o22=>some ((some (⟨o22,([]:List REn),(⟨[]⟩:MapR 3 Int Int)⟩:Reg)),(⟨0⟩:Err)))
theorem Iv (x0:List Int):Le (EO x0) (CK x0):=by
  unfold EO CK
  repeat' (first|apply Kn|apply Le.ite|apply Le.bnd|apply Le.fin|apply Le.rng|apply Le.rngN|apply Le.lop|exact Le.rf|intro _)
noncomputable def CW (x0:Reg) (x1:List Int):Option ((List U64)×Int×Int×Err) :=
  bnd (DP x0.packer x1) fun q20=>if q20.2.n≠0 then (some (([]:List U64),0,(-1),(⟨2⟩:Err))) else (bnd (DQ x0.packer q20.1) fun q41=>bnd (rng (ρ:=(List U64)×Int×Int×Err) (fun (k66:Nat) (a67:Int) (s64:Unit)=>bnd (atI x0.entries a67) fun a100=>bnd (CD a100.words q20.1) fun q118=>if q118=true then some (.ret (q20.1,q41,a67,(⟨0⟩:Err))) else some (.next ())) (mget ([]:List Int) x0.table.l q41) 0 ()) fun res62=>fin res62 fun (s139:Unit)=>some (q20.1,q41,(-1),(⟨0⟩:Err)))
theorem Fp (x0:Reg) (x1:List Int):Le (CW x0 x1) (Bn x0 x1):=by
  unfold CW Bn
  repeat' (first|apply GU|apply GT|apply EF|apply Le.ite|apply Le.bnd|apply Le.fin|apply Le.rng|apply Le.rngN|apply Le.lop|exact Le.rf|intro _)
noncomputable def BX (x0:Reg) (x1:List Int):Option (Int×Bool×Err×Reg) :=
  bnd (CW x0 x1) fun q5=>if q5.2.2.2.n≠0 then (some (0,false,(⟨q5.2.2.2.n⟩:Err),x0)) else (if 0≤q5.2.2.1 then (some (q5.2.2.1,false,(⟨0⟩:Err),x0)) else (if 65536≤(x0.entries.length:Int) then (some (0,false,(⟨10⟩:Err),x0)) else (bnd (appI 48 x0.entries [(⟨q5.1,(⟨(-1),(-1),0⟩:RLk)⟩:REn)]) fun u53=>bnd (appI 8 (mget ([]:List Int) x0.table.l q5.2.1) ([(x0.entries.length:Int)]:List Int)) fun u82=>some ((x0.entries.length:Int),true,(⟨0⟩:Err),(⟨x0.packer,u53,(⟨mput x0.table.l q5.2.1 u82⟩:MapR 3 Int Int)⟩:Reg)))))
theorem CB (x0:Reg) (x1:List Int):Le (BX x0 x1) (AU x0 x1):=by
  unfold BX AU
  repeat' (first|apply Fp|apply Le.ite|apply Le.bnd|apply Le.fin|apply Le.rng|apply Le.rngN|apply Le.lop|exact Le.rf|intro _)
noncomputable def Bv (x0:Reg):Option Int :=
  some (x0.entries.length:Int)
theorem DR (x0:Reg):Le (Bv x0) (AM x0):=by
  unfold Bv AM
  repeat' (first|apply Le.ite|apply Le.bnd|apply Le.fin|apply Le.rng|apply Le.rngN|apply Le.lop|exact Le.rf|intro _)
noncomputable def BY (x0:Reg) (x1:Int):Option Bool :=
  bnd (if 0≤x1 then (if x1 < (x0.entries.length:Int) then (some true) else (some false)) else (some false):Option Bool) fun y3=>some y3
theorem CX (x0:Reg) (x1:Int):Le (BY x0 x1) (Bb x0 x1):=by
  unfold BY Bb
  repeat' (first|apply Le.ite|apply Le.bnd|apply Le.fin|apply Le.rng|apply Le.rngN|apply Le.lop|exact Le.rf|intro _)
noncomputable def Cd (x0:Reg) (x1:Int):Option ((List Int)×Err) :=
  bnd (BY x0 x1) fun q3=>if q3=true then bnd (atI x0.entries x1) fun a27=>bnd (DC x0.packer a27.words) fun q45=>some (q45.1,(⟨q45.2.n⟩:Err)) else some (([]:List Int),(⟨1⟩:Err))
theorem CP (x0:Reg) (x1:Int):Le (Cd x0 x1) (AY x0 x1):=by
  unfold Cd AY
  repeat' (first|apply Gl|apply CX|apply Le.ite|apply Le.bnd|apply Le.fin|apply Le.rng|apply Le.rngN|apply Le.lop|exact Le.rf|intro _)
noncomputable def Co (x0:Reg) (x1:Int) (x2:Int) (x3:Int) (x4:Int):Option (Err×Reg) :=
  bnd (bnd (BY x0 x1) fun q10=>if q10=true then if x2≠(-1) then (bnd (BY x0 x2) fun q20=>if q20=true then some false else some true) else (some false) else some true:Option Bool) fun y6=>if y6=true then (some ((⟨1⟩:Err),x0)) else (bnd (atI x0.entries x1) fun a49=>some ((⟨0⟩:Err),(⟨x0.packer,(x0.entries.set (x1:Int).toNat ({ a49 with link:=(⟨x2,x3,x4⟩:RLk) }:REn)),x0.table⟩:Reg)))
theorem Dq (x0:Reg) (x1:Int) (x2:Int) (x3:Int) (x4:Int):Le (Co x0 x1 x2 x3 x4) (Bc x0 x1 x2 x3 x4):=by
  unfold Co Bc
  repeat' (first|apply CX|apply Le.ite|apply Le.bnd|apply Le.fin|apply Le.rng|apply Le.rngN|apply Le.lop|exact Le.rf|intro _)
noncomputable def CR (x0:List Int):Option (List Int) :=
  bnd (chkI ((x0.length:Int) - 1)) fun n4=>bnd (lopE (ρ:=(List Int)) (fun (s9:(List Int)×Int×Int)=>if s9.2.1 < s9.2.2 then (bnd (atI s9.1 s9.2.2) fun a31=>bnd (atI s9.1 s9.2.1) fun a43=>bnd (atI s9.1 s9.2.1) fun a55=>bnd (atI (s9.1.set (s9.2.1:Int).toNat a31) s9.2.2) fun a69=>bnd (chkI (s9.2.1 + 1)) fun n83=>bnd (chkI (s9.2.2 - 1)) fun n86=>some (.next (((s9.1.set (s9.2.1:Int).toNat a31).set (s9.2.2:Int).toNat a43),n83,n86))) else (some (.brk (s9.1,s9.2.1,s9.2.2)))) (x0,0,n4)) fun res7=>fin res7 fun (s93:(List Int)×Int×Int)=>some s93.1
theorem Fg (x0:List Int):Le (CR x0) (Bp x0):=by
  unfold CR Bp
  repeat' (first|apply Le.ite|apply Le.bnd|apply Le.fin|apply Le.rng|apply Le.rngN|apply Le.lop|exact Le.rf|intro _)
noncomputable def CY (x0:Reg) (x1:Int):Option ((List Int)×Err) :=
  bnd (BY x0 x1) fun q3=>if q3=true then bnd (lopE (ρ:=(List Int)×Err) (fun (s14:Int×(List Int))=>bnd (atI x0.entries s14.1) fun a48=>if a48.link.parent < 0 then (bnd (CR s14.2) fun q74=>some (.ret (q74,(⟨0⟩:Err)))) else (bnd (appI 8 s14.2 [a48.link.op]) fun u89=>if (x0.entries.length:Int) < (u89.length:Int) then (some (.ret (([]:List Int),(⟨21⟩:Err)))) else (some (.next (a48.link.parent,u89))))) (x1,([]:List Int))) fun res12=>fin res12 fun (_:Int×(List Int))=>none else some (([]:List Int),(⟨1⟩:Err))
theorem Fq (x0:Reg) (x1:Int):Le (CY x0 x1) (BC x0 x1):=by
  unfold CY BC
  repeat' (first|apply CX|apply Fg|apply Le.ite|apply Le.bnd|apply Le.fin|apply Le.rng|apply Le.rngN|apply Le.lop|exact Le.rf|intro _)
noncomputable def BN (x0:Option Gnr) (x1:List Int):Option (List Suc) :=
  bnd (Cy x0 x1) fun q7=>bnd (rng (ρ:=(List Suc)) (fun (k23:Nat) (a24:Int) (s21:(List Suc))=>bnd (DV x1) fun q46=>bnd (x0) fun o56=>bnd (atI o56.t.ops a24) fun a88=>bnd (rng (ρ:=Ctl (List Suc) (List Suc)) (fun (k115:Nat) (a116:Eff) (s113:(List Int))=>bnd (EC a116.cond x1) fun q150=>if q150=true then bnd (atI s113 a116.var) fun a157=>some (.next (s113.set (a116.var:Int).toNat a116.val)) else some (.next s113)) a88.effs 0 q46) fun res111=>fin res111 fun (s175:(List Int))=>bnd (appI 32 s21 [(⟨a24,s175⟩:Suc)]) fun u179=>some (.next u179)) q7 0 ([]:List Suc)) fun res19=>fin res19 fun (s195:(List Suc))=>some s195
theorem Ct (x0:Option Gnr) (x1:List Int):Le (BN x0 x1) (AS x0 x1):=by
  unfold BN AS
  repeat' (first|apply FC|apply Ew|apply Ff|apply Le.ite|apply Le.bnd|apply Le.fin|apply Le.rng|apply Le.rngN|apply Le.lop|exact Le.rf|intro _)
noncomputable def Dc (x0:Tsk):Option ((Option Spc)×Err) :=
  bnd (GP x0) fun q24=>if q24.2.n≠0 then (some (none,(⟨q24.2.n⟩:Err))) else (bnd (EO x0.vars) fun q39=>if q39.2.n≠0 then (some (none,(⟨q39.2.n⟩:Err))) else (bnd q39.1 fun o52=>bnd (BX o52 x0.init) fun q55=>if q55.2.2.1.n≠0 then (some (none,(⟨q55.2.2.1.n⟩:Err))) else (some ((some (⟨(⟨x0.vars,x0.init,x0.goal,x0.ops⟩:Tsk),q55.2.2.2,q24.1⟩:Spc)),(⟨0⟩:Err)))))
theorem Ek (x0:Tsk):Le (Dc x0) (BB x0):=by
  unfold Dc BB
  repeat' (first|apply Iv|apply CB|apply IH|apply Le.ite|apply Le.bnd|apply Le.fin|apply Le.rng|apply Le.rngN|apply Le.lop|exact Le.rf|intro _)
noncomputable def CM (x0:Spc) (x1:Int) (x2:Int):Option (Rsl×Err) :=
  bnd (CY x0.reg x1) fun q36=>if q36.2.n≠0 then (some ((⟨0,([]:List Int),0,0⟩:Rsl),(⟨q36.2.n⟩:Err))) else (bnd (rng (ρ:=Rsl×Err) (fun (k77:Nat) (a78:Int) (s75:Int)=>bnd (atI x0.t.ops a78) fun a125=>bnd (chkI (s75 + a125.cost)) fun n146=>some (.next n146)) q36.1 0 0) fun res73=>fin res73 fun (s160:Int)=>some ((⟨1,q36.1,s160,x2⟩:Rsl),(⟨0⟩:Err)))
theorem DW (x0:Spc) (x1:Int) (x2:Int):Le (CM x0 x1 x2) (Bd x0 x1 x2):=by
  unfold CM Bd
  repeat' (first|apply Fq|apply Le.ite|apply Le.bnd|apply Le.fin|apply Le.rng|apply Le.rngN|apply Le.lop|exact Le.rf|intro _)
noncomputable def Ck (x0:Int) (x1:Int):Option (Rsl×Err) :=
  some ((⟨x0,([]:List Int),0,x1⟩:Rsl),(⟨0⟩:Err))
theorem Fk (x0:Int) (x1:Int):Le (Ck x0 x1) (AZ x0 x1):=by
  unfold Ck AZ
  repeat' (first|apply Le.ite|apply Le.bnd|apply Le.fin|apply Le.rng|apply Le.rngN|apply Le.lop|exact Le.rf|intro _)
noncomputable def El (x0:Tsk) (x1:Int):Option (Rsl×Err) :=
  bnd (Dc x0) fun q30=>if q30.2.n≠0 then (some ((⟨0,([]:List Int),0,0⟩:Rsl),(⟨q30.2.n⟩:Err))) else (bnd q30.1 fun o45=>bnd (lopE (ρ:=Rsl×Err) (fun (s50:Int×Spc)=>bnd (Bv s50.2.reg) fun q94=>if s50.1 < q94 then (bnd (Cd s50.2.reg s50.1) fun q105=>if q105.2.n≠0 then (some (.ret ((⟨0,([]:List Int),0,0⟩:Rsl),(⟨q105.2.n⟩:Err)))) else (bnd (EC x0.goal q105.1) fun q123=>if q123=true then bnd (CM s50.2 s50.1 s50.1) fun q312=>some (.ret (q312.1,(⟨q312.2.n⟩:Err))) else if x1≤s50.1 then (bnd (Ck 3 s50.1) fun q131=>some (.ret (q131.1,(⟨q131.2.n⟩:Err)))) else (bnd (BN s50.2.gen q105.1) fun q153=>bnd (rng (ρ:=Ctl (Int×Spc) (Rsl×Err)) (fun (k173:Nat) (a174:Suc) (s171:Spc)=>bnd (BX s171.reg a174.state) fun q232=>if q232.2.2.1.n≠0 then (bnd (chkI (s50.1 + 1)) fun n249=>bnd (Ck 3 n249) fun q252=>some (.ret (.ret (q252.1,(⟨q252.2.n⟩:Err))))) else (if q232.2.1=true then (bnd (Co q232.2.2.2 q232.1 s50.1 a174.op 0) fun q275=>if q275.1.n≠0 then (some (.ret (.ret ((⟨0,([]:List Int),0,0⟩:Rsl),(⟨q275.1.n⟩:Err))))) else (some (.next (⟨(⟨s171.t.vars,s171.t.init,s171.t.goal,s171.t.ops⟩:Tsk),q275.2,s171.gen⟩:Spc)))) else (some (.next (⟨(⟨s171.t.vars,s171.t.init,s171.t.goal,s171.t.ops⟩:Tsk),q232.2.2.2,s171.gen⟩:Spc))))) q153 0 s50.2) fun res169=>fin res169 fun (s302:Spc)=>bnd (chkI (s50.1 + 1)) fun n304=>some (.next (n304,s302))))) else (some (.brk (s50.1,s50.2)))) (0,o45)) fun res48=>fin res48 fun (s344:Int×Spc)=>bnd (Bv s344.2.reg) fun q373=>bnd (Ck 2 q373) fun q383=>some (q383.1,(⟨q383.2.n⟩:Err)))
theorem HD (x0:Tsk) (x1:Int):Le (El x0 x1) (BP x0 x1):=by
  unfold El BP
  repeat' (first|apply Ek|apply Fk|apply DW|apply CB|apply DR|apply Dq|apply CP|apply Ct|apply Ff|apply Le.ite|apply Le.bnd|apply Le.fin|apply Le.rng|apply Le.rngN|apply Le.lop|exact Le.rf|intro _)
noncomputable def DY (x0:Tsk) (x1:Int):Option (Rsl×Err) :=
  bnd (Dc x0) fun q30=>if q30.2.n≠0 then (some ((⟨0,([]:List Int),0,0⟩:Rsl),(⟨q30.2.n⟩:Err))) else (bnd q30.1 fun o68=>bnd (lopE (ρ:=Rsl×Err) (fun (s78:(List Int)×(List Bool)×Int×Int×Spc×(BxR 98 96 Itm))=>bnd (CJ s78.2.2.2.2.2.l) fun q116=>if 0 < q116 then (bnd (DB s78.2.2.2.2.2) fun q130=>bnd (atI s78.2.1 q130.1.x.id) fun a152=>if a152=true then (some (.next (s78.1,s78.2.1,s78.2.2.1,s78.2.2.2.1,s78.2.2.2.2.1,q130.2))) else (bnd (Cd s78.2.2.2.2.1.reg q130.1.x.id) fun q191=>if q191.2.n≠0 then (some (.ret ((⟨0,([]:List Int),0,0⟩:Rsl),(⟨q191.2.n⟩:Err)))) else (bnd (EC x0.goal q191.1) fun q209=>if q209=true then bnd (CM s78.2.2.2.2.1 q130.1.x.id s78.2.2.2.1) fun q581=>some (.ret (q581.1,(⟨q581.2.n⟩:Err))) else if x1≤s78.2.2.2.1 then (bnd (Ck 3 s78.2.2.2.1) fun q217=>some (.ret (q217.1,(⟨q217.2.n⟩:Err)))) else (bnd (atI s78.2.1 q130.1.x.id) fun a239=>bnd (chkI (s78.2.2.2.1 + 1)) fun n252=>bnd (BN s78.2.2.2.2.1.gen q191.1) fun q255=>bnd (rng (ρ:=Ctl ((List Int)×(List Bool)×Int×Int×Spc×(BxR 98 96 Itm)) (Rsl×Err)) (fun (k275:Nat) (a276:Suc) (s273:(List Int)×(List Bool)×Int×Spc×(BxR 98 96 Itm))=>bnd (BX s273.2.2.2.1.reg a276.state) fun q346=>if q346.2.2.1.n≠0 then (bnd (Ck 3 n252) fun q363=>some (.ret (.ret (q363.1,(⟨q363.2.n⟩:Err))))) else (bnd (atI x0.ops a276.op) fun a385=>bnd (chkI (q130.1.x.cost + a385.cost)) fun n406=>bnd (if q346.2.1=true then (bnd (appI 8 s273.1 [n406]) fun u418=>bnd (appI 1 s273.2.1 [false]) fun u430=>some (.done (u418,u430))) else (bnd (bnd (atI s273.2.1 q346.1) fun a451=>if a451=true then (some true) else (bnd (atI s273.1 q346.1) fun a468=>if a468≤n406 then (some true) else (some false)):Option Bool) fun y447=>if y447=true then (some (.ret (.next (s273.1,s273.2.1,s273.2.2.1,(⟨(⟨s273.2.2.2.1.t.vars,s273.2.2.2.1.t.init,s273.2.2.2.1.t.goal,s273.2.2.2.1.t.ops⟩:Tsk),q346.2.2.2,s273.2.2.2.1.gen⟩:Spc),s273.2.2.2.2)))) else (some (.done (s273.1,s273.2.1)))):Option (Fin ((List Int)×(List Bool)) (Ctl ((List Int)×(List Bool)×Int×Spc×(BxR 98 96 Itm)) (Ctl ((List Int)×(List Bool)×Int×Int×Spc×(BxR 98 96 Itm)) (Rsl×Err))))) fun y409=>fin y409 fun (s411:(List Int)×(List Bool))=>bnd (atI s411.1 q346.1) fun a500=>bnd (Co ((⟨(⟨s273.2.2.2.1.t.vars,s273.2.2.2.1.t.init,s273.2.2.2.1.t.goal,s273.2.2.2.1.t.ops⟩:Tsk),q346.2.2.2,s273.2.2.2.1.gen⟩:Spc).reg) q346.1 q130.1.x.id a276.op n406) fun q541=>if q541.1.n≠0 then (some (.ret (.ret ((⟨0,([]:List Int),0,0⟩:Rsl),(⟨q541.1.n⟩:Err))))) else (bnd (Dp s273.2.2.2.2 (⟨(⟨n406,s273.2.2.1,q346.1⟩:Itm)⟩:An 96 Itm)) fun q554=>bnd (chkI (s273.2.2.1 + 1)) fun n562=>some (.next ((s411.1.set (q346.1:Int).toNat n406),s411.2,n562,(⟨(⟨(⟨(⟨s273.2.2.2.1.t.vars,s273.2.2.2.1.t.init,s273.2.2.2.1.t.goal,s273.2.2.2.1.t.ops⟩:Tsk),q346.2.2.2,s273.2.2.2.1.gen⟩:Spc).t.vars,(⟨(⟨s273.2.2.2.1.t.vars,s273.2.2.2.1.t.init,s273.2.2.2.1.t.goal,s273.2.2.2.1.t.ops⟩:Tsk),q346.2.2.2,s273.2.2.2.1.gen⟩:Spc).t.init,(⟨(⟨s273.2.2.2.1.t.vars,s273.2.2.2.1.t.init,s273.2.2.2.1.t.goal,s273.2.2.2.1.t.ops⟩:Tsk),q346.2.2.2,s273.2.2.2.1.gen⟩:Spc).t.goal,(⟨(⟨s273.2.2.2.1.t.vars,s273.2.2.2.1.t.init,s273.2.2.2.1.t.goal,s273.2.2.2.1.t.ops⟩:Tsk),q346.2.2.2,s273.2.2.2.1.gen⟩:Spc).t.ops⟩:Tsk),q541.2,(⟨(⟨s273.2.2.2.1.t.vars,s273.2.2.2.1.t.init,s273.2.2.2.1.t.goal,s273.2.2.2.1.t.ops⟩:Tsk),q346.2.2.2,s273.2.2.2.1.gen⟩:Spc).gen⟩:Spc),q554))))) q255 0 (s78.1,(s78.2.1.set (q130.1.x.id:Int).toNat true),s78.2.2.1,s78.2.2.2.2.1,q130.2)) fun res271=>fin res271 fun (s574:(List Int)×(List Bool)×Int×Spc×(BxR 98 96 Itm))=>some (.next (s574.1,s574.2.1,s574.2.2.1,n252,s574.2.2.2.1,s574.2.2.2.2)))))) else (some (.brk (s78.1,s78.2.1,s78.2.2.1,s78.2.2.2.1,s78.2.2.2.2.1,s78.2.2.2.2.2)))) (([0]:List Int),[false],1,0,o68,(⟨[(⟨0,0,0⟩:Itm)]⟩:BxR 98 96 Itm))) fun res76=>fin res76 fun (s613:(List Int)×(List Bool)×Int×Int×Spc×(BxR 98 96 Itm))=>bnd (Ck 2 s613.2.2.2.1) fun q615=>some (q615.1,(⟨q615.2.n⟩:Err)))
theorem Hr (x0:Tsk) (x1:Int):Le (DY x0 x1) (Bq x0 x1):=by
  unfold DY Bq
  repeat' (first|apply Ek|apply Fk|apply Dz|apply DW|apply Gk|apply FW|apply CB|apply Dq|apply CP|apply Ct|apply Ff|apply Le.ite|apply Le.bnd|apply Le.fin|apply Le.rng|apply Le.rngN|apply Le.lop|exact Le.rf|intro _)
noncomputable def DK (x0:Tsk) (x1:Int):Option (Int×Err) :=
  bnd (Dc x0) fun q25=>if q25.2.n≠0 then (some (0,(⟨q25.2.n⟩:Err))) else (bnd q25.1 fun o38=>bnd (lopE (ρ:=Int×Err) (fun (s43:Int×Spc)=>bnd (Bv s43.2.reg) fun q87=>if s43.1 < q87 then (bnd (Bv s43.2.reg) fun q98=>if x1 < q98 then (some (.ret (0,(⟨10⟩:Err)))) else (bnd (Cd s43.2.reg s43.1) fun q109=>if q109.2.n≠0 then (some (.ret (0,(⟨q109.2.n⟩:Err)))) else (bnd (BN s43.2.gen q109.1) fun q125=>bnd (rng (ρ:=Ctl (Int×Spc) (Int×Err)) (fun (k145:Nat) (a146:Suc) (s143:Spc)=>bnd (BX s143.reg a146.state) fun q204=>if q204.2.2.1.n≠0 then (some (.ret (.ret (0,(⟨10⟩:Err))))) else (some (.next (⟨(⟨s143.t.vars,s143.t.init,s143.t.goal,s143.t.ops⟩:Tsk),q204.2.2.2,s143.gen⟩:Spc)))) q125 0 s43.2) fun res141=>fin res141 fun (s230:Spc)=>bnd (chkI (s43.1 + 1)) fun n232=>some (.next (n232,s230))))) else (some (.brk (s43.1,s43.2)))) (0,o38)) fun res41=>fin res41 fun (s244:Int×Spc)=>bnd (Bv s244.2.reg) fun q273=>if x1 < q273 then (some (0,(⟨10⟩:Err))) else (bnd (Bv s244.2.reg) fun q284=>some (q284,(⟨0⟩:Err))))
theorem GF (x0:Tsk) (x1:Int):Le (DK x0 x1) (Be x0 x1):=by
  unfold DK Be
  repeat' (first|apply Ek|apply CB|apply DR|apply CP|apply Ct|apply Le.ite|apply Le.bnd|apply Le.fin|apply Le.rng|apply Le.rngN|apply Le.lop|exact Le.rf|intro _)
noncomputable def FD (x0:Tsk) (x1:List Int) (x2:Int):Option ((List Int)×Bool) :=
  bnd (if x2 < 0 then (some true) else (if (x0.ops.length:Int)≤x2 then (some true) else (bnd (atI x0.ops x2) fun a36=>bnd (ED a36.pre x1) fun q57=>if q57=true then some false else some true)):Option Bool) fun y28=>if y28=true then (some (([]:List Int),false)) else (bnd (appI 8 ([]:List Int) x1) fun u75=>bnd (atI x0.ops x2) fun a86=>bnd (rng (ρ:=(List Int)×Bool) (fun (k113:Nat) (a114:Eff) (s111:(List Int))=>bnd (ED a114.cond x1) fun q148=>if q148=true then bnd (atI s111 a114.var) fun a155=>some (.next (s111.set (a114.var:Int).toNat a114.val)) else some (.next s111)) a86.effs 0 u75) fun res109=>fin res109 fun (s173:(List Int))=>some (s173,true))
theorem Jj (x0:Tsk) (x1:List Int) (x2:Int):Le (FD x0 x1 x2) (DO x0 x1 x2):=by
  unfold FD DO
  repeat' (first|apply GO|apply Le.ite|apply Le.bnd|apply Le.fin|apply Le.rng|apply Le.rngN|apply Le.lop|exact Le.rf|intro _)
noncomputable def FX (x0:Tsk) (x1:List Int) (x2:List Int):Option (Int×Bool) :=
  bnd (rng (ρ:=Int×Bool) (fun (k36:Nat) (a37:Int) (s34:(List Int)×Int)=>bnd (FD x0 s34.1 a37) fun q59=>if (!q59.2)=true then (some (.ret (0,false))) else (bnd (atI x0.ops a37) fun a73=>bnd (chkI (s34.2 + a73.cost)) fun n94=>some (.next (q59.1,n94)))) x2 0 (x1,0)) fun res32=>fin res32 fun (s101:(List Int)×Int)=>bnd (bnd (ED x0.goal s101.1) fun q107=>if q107=true then some true else some false:Option Bool) fun y103=>some (s101.2,y103)
theorem JX (x0:Tsk) (x1:List Int) (x2:List Int):Le (FX x0 x1 x2) (Ee x0 x1 x2):=by
  unfold FX Ee
  repeat' (first|apply Jj|apply GO|apply Le.ite|apply Le.bnd|apply Le.fin|apply Le.rng|apply Le.rngN|apply Le.lop|exact Le.rf|intro _)
noncomputable def Fh (x0:Tsk) (x1:Rsl) (x2:Int):Option Bool :=
  if 1125899906842624≤x2 then (bnd (if x1.verdict=2 then (if (x1.plan.length:Int)=0 then (if x1.cost=0 then (some true) else (some false)) else (some false)) else (some false):Option Bool) fun y40=>some y40) else (bnd (FX x0 x0.init x1.plan) fun q53=>bnd (if x1.verdict=1 then (if q53.2=true then (if q53.1=x2 then (if x1.cost=x2 then (some true) else (some false)) else (some false)) else (some false)) else (some false):Option Bool) fun y65=>some y65)
theorem II (x0:Tsk) (x1:Rsl) (x2:Int):Le (Fh x0 x1 x2) (DD x0 x1 x2):=by
  unfold Fh DD
  repeat' (first|apply JX|apply Le.ite|apply Le.bnd|apply Le.fin|apply Le.rng|apply Le.rngN|apply Le.lop|exact Le.rf|intro _)
noncomputable def Dd:Option Tsk:=Cn
theorem HT:Le Dd Cn:=Le.rf
noncomputable def GQ  : Option Bool :=
  bnd (Dd) fun q1=>bnd (El q1 100) fun q25=>bnd (Dd) fun q52=>bnd (DY q52 100) fun q76=>bnd (Dd) fun q103=>bnd (DK q103 100) fun q127=>bnd (if q25.2.n=0 then (if q76.2.n=0 then (if q127.2.n=0 then (bnd (FU q25.1.plan ([3]:List Int)) fun q153=>if q153=true then if q25.1.cost=5 then (if q25.1.expanded=2 then (bnd (Dd) fun q162=>bnd (Fh q162 q76.1 3) fun q186=>if q186=true then if q127.1=4 then (some true) else (some false) else some false) else (some false)) else (some false) else some false) else (some false)) else (some false)) else (some false):Option Bool) fun y140=>some y140
theorem IJ  : Le (GQ ) (CZ ):=by
  unfold GQ CZ
  repeat' (first|apply JW|apply II|apply GF|apply HD|apply Hr|apply HT|apply Le.ite|apply Le.bnd|apply Le.fin|apply Le.rng|apply Le.rngN|apply Le.lop|exact Le.rf|intro _)
set_option maxRecDepth 100000 in
theorem awake48:CZ=some true:=IJ true (by kernel_rfl)
end
section
open Go Go.RowKit
noncomputable def rcF (x0:Tsk) (x1:Int):(Int×Spc)→Option (Ctl (Int×Spc) (Int×Err)):=fun (s43:Int×Spc)=>bnd (AM s43.2.reg) fun q87=>if s43.1 < q87 then (bnd (AM s43.2.reg) fun q98=>if x1 < q98 then (some (.ret (0,(⟨10⟩:Err)))) else (bnd (AY s43.2.reg s43.1) fun q109=>if q109.2.n≠0 then (some (.ret (0,(⟨q109.2.n⟩:Err)))) else (bnd (AS s43.2.gen q109.1) fun q125=>bnd (rng (ρ:=Ctl (Int×Spc) (Int×Err)) (fun (k145:Nat) (a146:Suc) (s143:Spc)=>bnd (AU s143.reg a146.state) fun q204=>if q204.2.2.1.n≠0 then (some (.ret (.ret (0,(⟨10⟩:Err))))) else (some (.next (⟨(⟨s143.t.vars,s143.t.init,s143.t.goal,s143.t.ops⟩:Tsk),q204.2.2.2,s143.gen⟩:Spc)))) q125 0 s43.2) fun res141=>fin res141 fun (s230:Spc)=>bnd (chkI (s43.1 + 1)) fun n232=>some (.next (n232,s230))))) else (some (.brk (s43.1,s43.2)))
noncomputable def rcE (x0:Tsk) (x1:Int):Fin (Int×Spc) (Int×Err)→Option (Int×Err):=fun res41=>fin res41 fun (s244:Int×Spc)=>bnd (AM s244.2.reg) fun q273=>if x1 < q273 then (some (0,(⟨10⟩:Err))) else (bnd (AM s244.2.reg) fun q284=>some (q284,(⟨0⟩:Err)))
theorem NG (x0:Tsk) (x1:Int):Be x0 x1=bnd (BB x0) fun q25=>if q25.2.n≠0 then (some (0,(⟨q25.2.n⟩:Err))) else (bnd q25.1 fun o38=>bnd (lop (rcF x0 x1) (0,o38)) (rcE x0 x1)):=rfl
theorem rcInn {t:Tsk} (hs:Few t) {i:Nat} {lp:LP} {s p:List Int} (h:BI t i lp) (his:lp.1[i]?=some s) (hip:lp.2[i]?=some p) {x:Spc} (hx:SQ t lp.1 x):∃ x',rng (ρ:=Ctl (Int×Spc) (Int×Err)) (fun (_:Nat) (a146:Suc) (s143:Spc)=>bnd (AU s143.reg a146.state) fun q204=>if q204.2.2.1.n≠0 then (some (.ret (.ret (0,(⟨10⟩:Err))))) else (some (.next (⟨(⟨s143.t.vars,s143.t.init,s143.t.goal,s143.t.ops⟩:Tsk),q204.2.2.2,s143.gen⟩:Spc)))) ((appS t s).map (sucOf t s)) 0 x=some (.done x')∧SQ t (expN t s i t.ops.length lp).1 x':=by
  have hsok:=(h.rch his).ok hs.ok
  have hap:(appS t s).map (sucOf t s)=(appN t s t.ops.length).map fun k:Nat=>(⟨(k:Int),sucN t s k⟩:Suc):=by
    rw [EN hsok,JQ,List.map_map];rfl
  rw [hap]
  obtain ⟨x',h1,h2⟩:=Ge (ρ:=Ctl (Int×Spc) (Int×Err)) (f:=fun (_:Nat) (a146:Suc) (s143:Spc)=>bnd (AU s143.reg a146.state) fun q204=>if q204.2.2.1.n≠0 then (some (.ret (.ret (0,(⟨10⟩:Err))))) else (some (.next (⟨(⟨s143.t.vars,s143.t.init,s143.t.goal,s143.t.ops⟩:Tsk),q204.2.2.2,s143.gen⟩:Spc)))) (xs:=(appN t s t.ops.length).map fun k:Nat=>(⟨(k:Int),sucN t s k⟩:Suc)) (s₀:=x) (fun j y=>SQ t (((appN t s t.ops.length).take j).foldl (addK t s i) lp).1 y) (by simpa using hx) (fun j a y hj hy=>by
    rw [List.getElem?_map] at hj
    obtain ⟨k,hk,rfl⟩:=Option.map_eq_some_iff.1 hj
    obtain ⟨t1,t2⟩:=Hn hk
    rw [t1] at hy
    change SQ t (expN t s i k lp).1 y at hy
    have hJ:=h.part his hip k
    obtain ⟨o,ho,hpre,hsuc⟩:=FO t2
    have hso:StateOk t.vars (sucN t s k):=by rw [hsuc];exact Hz hs.ok hsok ho
    have hfew:(expN t s i k lp).1.length≤512:=by
      refine Nat.le_trans (Db hJ.nodup fun s' hm=>?_) hs.many
      obtain ⟨j,hj⟩:=List.getElem?_of_mem hm
      exact ER.2 (hy.reg.st j s' hj)
    have e:(((appN t s t.ops.length).take (j + 1)).foldl (addK t s i) lp)=addK t s i (expN t s i k lp) k:=by
      rw [List.take_add_one,hk,List.foldl_append,t1];rfl
    rw [e]
    dsimp only
    unfold addK
    rcases FM hs.ok.1 hy.reg hso (by omega) with ⟨j',hj',hadd⟩|⟨hno,r',hadd,hr',hlk⟩
    · rw [if_pos (List.mem_of_getElem? hj'),hadd,Az,if_neg (by simp)]
      exact ⟨_,rfl,hy⟩
    · have hnm:¬ sucN t s k∈(expN t s i k lp).1:=fun hm=>by
        obtain ⟨j,hj⟩:=List.getElem?_of_mem hm
        exact hno j hj
      rw [if_neg hnm,hadd,Az,if_neg (by simp)]
      exact ⟨_,rfl,hy.tt,hy.gen,hr'⟩)
  refine ⟨x',h1,?_⟩
  rw [List.length_map,List.take_length] at h2
  exact h2
theorem NH {t:Tsk} (hs:Few t) (lim:Int):∀ (n i:Nat) (lp:LP) (x:Spc),513 - i≤n→i≤lp.1.length→BI t i lp→SQ t lp.1 x→∃ L:List (List Int),L.Nodup∧(∀ s∈L,Rch t s)∧((lim < (L.length:Int)∧bnd (lop (rcF t lim) ((i:Int),x)) (rcE t lim)=some (0,⟨10⟩))∨((L.length:Int)≤lim∧(∀ s,Rch t s→s∈L)∧bnd (lop (rcF t lim) ((i:Int),x)) (rcE t lim)=some ((L.length:Int),⟨0⟩))):=by
  have hok:=hs.ok
  intro n
  induction n with
  | zero=>intro i lp x hn hi h;have:=h.few hs;omega
  | succ n ih =>
    intro i lp x hn hi h hx
    have hf:=h.few hs
    have hall:∀ s∈lp.1,Rch t s:=fun s hm=>by obtain ⟨j,hj⟩:=List.getElem?_of_mem hm;exact h.rch hj
    by_cases he:i=lp.1.length
    · have:rcF t lim ((i:Int),x)=some (.brk ((i:Int),x)):=by
        unfold rcF AM
        dsimp only
        rw [Az,hx.reg.len,if_neg (by omega)]
      rw [Cw,this,Az]
      refine ⟨lp.1,h.nodup,hall,?_⟩
      unfold rcE AM
      rw [fin_d,Az,hx.reg.len,Az]
      by_cases hl:lim < (lp.1.length:Int)
      · exact .inl ⟨hl,by rw [if_pos hl]⟩
      · refine .inr ⟨by omega,fun s hr=>?_,by rw [if_neg hl]⟩
        obtain ⟨p,C,hp⟩:=hr.plan
        subst he
        exact h.all hp
    obtain ⟨s,hsi⟩:=AH (l:=lp.1) (k:=i) (by omega)
    obtain ⟨p,hpi⟩:=AH (l:=lp.2) (k:=i) (by rw [h.len];omega)
    by_cases hl:lim < (lp.1.length:Int)
    · have:rcF t lim ((i:Int),x)=some (.ret (0,⟨10⟩)):=by
        unfold rcF AM
        dsimp only
        rw [Az,hx.reg.len,if_pos (by omega),Az,if_pos hl]
      rw [Cw,this,Az]
      exact ⟨lp.1,h.nodup,hall,.inl ⟨hl,rfl⟩⟩
    · obtain ⟨x',e1,e2⟩:=rcInn hs h hsi hpi hx
      have:rcF t lim ((i:Int),x)=some (.next (((i + 1:Nat):Int),x')):=by
        unfold rcF AM
        dsimp only
        rw [Az,hx.reg.len,if_pos (by omega),Az,if_neg hl,Ef hok.1 hx.reg hsi,Az,if_neg (by simp),hx.gen,IF hok (Ho hok ((h.rch hsi).ok hok)),Az,e1,Az,fin_d,Bw (by unfold inI64;omega),Az]
        rfl
      have hJ:=h.part hsi hpi t.ops.length
      obtain ⟨A,hA⟩:=hJ.pre1
      rw [Cw,this]
      exact ih (i + 1) (expN t s i t.ops.length lp) x' (by omega) (by rw [hA];simp;omega) (h.next hsi hpi) e2
theorem Mk {t:Tsk} (hs:Few t) (lim:Int):∃ L:List (List Int),L.Nodup∧(∀ s∈L,Rch t s)∧((lim < (L.length:Int)∧Be t lim=some (0,⟨10⟩))∨((L.length:Int)≤lim∧(∀ s,Rch t s→s∈L)∧Be t lim=some ((L.length:Int),⟨0⟩))):=by
  obtain ⟨reg,b1,b2,b3⟩:=HS hs.ok
  have unf:Be t lim=bnd (lop (rcF t lim) (((0:Nat):Int),(⟨t,reg,some ⟨t⟩⟩:Spc))) (rcE t lim):=by
    rw [NG,b1,Az,if_neg (by simp),Az];rfl
  rw [unf]
  exact NH hs lim 513 0 ([t.init],[[]]) _ (by omega) (by simp) (Gg t) ⟨rfl,rfl,b2⟩
end
section
open Go Go.RowKit
theorem MP {t:Tsk} (hs:Few t) {lim:Int} {i:Nat} {lp:LP} {r:Rsl} (hb:Bfs t lim i lp r):BI t i lp→(∀ (j:Nat) s,j < i→lp.1[j]?=some s→holdsB t.goal s=false) →
    (r.verdict=2∧r.plan=[]∧r.cost=0∧∀ p s C,PlanR t t.init p s C→holdsB t.goal s=false)∨(r.verdict=1∧r.plan.length≤512∧(∃ s,PlanR t t.init r.plan s r.cost∧holdsB t.goal s=true)∧∀ p' s' C',PlanR t t.init p' s' C'→holdsB t.goal s'=true→sle r.plan p')∨(r.verdict=3∧r.plan=[]∧r.cost=0∧lim < 512):=by
  induction hb with
  | @none i lp he =>
    intro h hno
    subst he
    refine .inl ⟨rfl,rfl,rfl,fun p s C hp=>?_⟩
    obtain ⟨j,hj⟩:=List.getElem?_of_mem (h.all hp)
    exact hno j s (AK hj) hj
  | @goal i lp s p C hsi hpi hg hC =>
    intro h hno
    have hpl:=(h.pl i s p hsi hpi).2
    have:=AK hsi
    have:=h.few hs
    exact .inr (.inl ⟨rfl,by show p.length≤512;omega,⟨s,hC,hg⟩,fun p' s' C' hp' hg'=>h.first hpi hno hp' hg'⟩)
  | @full i lp s hsi hg hl =>
    intro h hno
    have:=AK hsi
    have:=h.few hs
    exact .inr (.inr ⟨rfl,rfl,rfl,by omega⟩)
  | @step i lp s r hsi hg hl hb ih =>
    intro h hno
    obtain ⟨p,hpi⟩:=AH (l:=lp.2) (k:=i) (by rw [h.len];exact AK hsi)
    have hJ:=h.part hsi hpi t.ops.length
    refine ih (h.next hsi hpi) fun j s' hj hs'=>?_
    have hjl:j < lp.1.length:=by have:=AK hsi;omega
    obtain ⟨s0,hs0⟩:=AH (l:=lp.1) (k:=j) hjl
    rw [Cg hJ.pre1 hs0] at hs'
    obtain rfl:=Option.some.inj hs'
    by_cases e:j=i
    · subst e
      rw [hsi] at hs0
      obtain rfl:=Option.some.inj hs0
      exact hg
    · exact hno j s0 (by omega) hs0
end
section
open Go Go.RowKit
abbrev BQ:=BxR 98 96 Itm
abbrev AI:=An 96 Itm
def toQ (x:Itm):QEn:=⟨x.cost,0,x.id,x.order⟩
def qs (l:List Itm):List QEn:=l.map toQ
theorem Eh (l:List Itm):(qs l).length=l.length:=by simp [qs]
theorem Fb {l:List Itm} {i:Nat} {x:Itm} (h:l[i]?=some x):(qs l)[i]?=some (toQ x):=by unfold qs;rw [List.getElem?_map,h];rfl
theorem Hs (l:List Itm) (i:Nat) (x:Itm):qs (l.set i x)=(qs l).set i (toQ x):=by unfold qs;rw [List.map_set]
theorem MQ (l:List Itm) (n:Nat):qs (l.take n)=(qs l).take n:=by unfold qs;rw [List.map_take]
theorem HU {l:List Itm} {i j:Nat} {a b:Itm} (ha:l[i]?=some a) (hb:l[j]?=some b):Bj l (i:Int) (j:Int)=some (decide (bfr (toQ a) (toQ b))):=by
  unfold Bj
  rw [BH,ha,Az,BH,hb,Az,Az,Az,Az,Az]
  unfold bfr toQ
  by_cases h1:a.cost < b.cost
  · rw [if_pos h1,Az];simp [h1]
  · rw [if_neg h1]
    by_cases h2:a.cost=b.cost
    · rw [if_pos h2]
      by_cases h3:a.order < b.order
      · rw [if_pos h3,Az];simp [h2,h3]
      · rw [if_neg h3,Az];simp [h2,h3]
    · rw [if_neg h2,Az];simp [h1,h2]
theorem HV {l:List Itm} {i j:Nat} {a b:Itm} (ha:l[i]?=some a) (hb:l[j]?=some b):Bg l (i:Int) (j:Int)=some ((l.set i b).set j a):=by
  have hil:=AK ha
  have hjl:=AK hb
  obtain ⟨c,hc⟩:=AH (l:=l.set i b) (k:=j) (by simp;exact hjl)
  unfold Bg
  rw [BH,hb,Az,BH,ha,Az,Az,Int.toNat_natCast,BH,hc,Az,Int.toNat_natCast]
theorem NI {q:BQ} {i:Nat} (hi:i < q.l.length) (hl:q.l.length≤1000000) (h:UpI (qs q.l) i):∃ r,Cc q (i:Int)=some r∧HeapOk (qs r.l)∧(qs r.l).Perm (qs q.l):=by
  unfold Cc
  refine JD (fun s=>∃ i:Nat,s.1=(i:Int)∧i < s.2.l.length∧UpI (qs s.2.l) i∧(qs s.2.l).Perm (qs q.l)) (fun s=>HeapOk (qs s.2.l)∧(qs s.2.l).Perm (qs q.l)) (fun _=>False) (fun s=>s.1.toNat) ⟨i,rfl,hi,h,List.Perm.refl _⟩ ?_ (fun s hs=>⟨_,rfl,hs⟩) (fun s hs=>hs.elim)
  rintro ⟨c,s⟩ ⟨i,hc,hi,hu,hp⟩
  dsimp only at hc hi hu hp ⊢
  subst hc
  have hlen:=hp.length_eq
  rw [Eh,Eh] at hlen
  rw [Bw (by unfold inI64;omega),Az]
  by_cases h0:0 < (i:Int)
  · have hq:quoT ((i:Int) - 1) 2=some (((i - 1) / 2:Nat):Int):=by
      unfold quoT;rw [if_pos (by omega),if_pos (by omega)];congr 1;omega
    obtain ⟨a,ha⟩:=AH (l:=s.l) (k:=i) hi
    obtain ⟨b,hb⟩:=AH (l:=s.l) (k:=(i - 1) / 2) (by omega)
    rw [hq,Az,if_neg (by omega),HU ha hb,Az]
    by_cases hab:bfr (toQ a) (toQ b)
    · rw [decide_eq_true hab,if_t,Az,if_f,HV hb ha,Az]
      have e1:qs ((s.l.set ((i - 1) / 2) a).set i b)=((qs s.l).set i (toQ b)).set ((i - 1) / 2) (toQ a):=by
        rw [Hs,Hs,List.set_comm _ _ (by omega)]
      refine .inl ⟨_,rfl,⟨(i - 1) / 2,rfl,by simp;omega,?_,?_⟩,?_⟩
      · dsimp only;rw [e1];exact hu.step (by omega) (Fb ha) (Fb hb) hab
      · dsimp only;rw [e1];exact (JG (Fb ha) (Fb hb)).trans hp
      · dsimp only;omega
    · rw [decide_eq_false hab,if_f,Az,if_t]
      refine .inr (.inl ⟨_,rfl,hu.heap (.inr fun x y hx hy=>?_),hp⟩)
      rw [Fb ha] at hx
      rw [Fb hb] at hy
      obtain rfl:=Option.some.inj hx
      obtain rfl:=Option.some.inj hy
      exact hab
  · have h00:i=0:=by omega
    subst h00
    have hq:quoT (((0:Nat):Int) - 1) 2=some 0:=rfl
    rw [hq,Az,if_pos (show (0:Int)=((0:Nat):Int) from rfl),Az,if_t]
    exact .inr (.inl ⟨_,rfl,hu.heap (.inl rfl),hp⟩)
theorem JY {q:BQ} (h:HeapOk (qs q.l)) (hl:q.l.length≤900000) (x:Itm):∃ r,BD q ⟨x⟩=some r∧HeapOk (qs r.l)∧(qs r.l).Perm (toQ x :: qs q.l):=by
  unfold BD Cl Bh
  rw [Cs (by simp;omega) (by simp;omega),Az,Az,Az,Bw (by unfold inI64;simp;omega),Az]
  have hlen:(((q.l ++ [x]).length:Int) - 1)=((q.l.length:Nat):Int):=by simp
  rw [hlen]
  have eq1:qs (q.l ++ [x])=qs q.l ++ [toQ x]:=by simp [qs]
  obtain ⟨r,r1,r2,r3⟩:=NI (q:=⟨q.l ++ [x]⟩) (i:=q.l.length) (by simp) (by simp;omega) ⟨fun j y z hj hji hx hy=>by
    dsimp only at hx hy
    rw [eq1] at hx hy
    have hjl:j < (qs q.l).length:=by have:=AK hx;simp at this;rw [Eh] at this ⊢;omega
    rw [List.getElem?_append_left hjl] at hx
    rw [List.getElem?_append_left (by omega)] at hy
    exact h j y z hj hx hy,fun j y z h1 h2 h3 hx hy=>by
    dsimp only at hx
    have:=AK hx
    rw [Eh] at this
    simp at this
    omega⟩
  rw [r1,Az]
  refine ⟨_,rfl,r2,r3.trans ?_⟩
  dsimp only
  rw [eq1]
  exact List.perm_append_comm (l₁:=qs q.l) (l₂:=[_])
theorem Ml {q:BQ} {n:Nat} (hn:n≤q.l.length) (hl:q.l.length≤1000000) (h:DownI (qs (q.l.take n)) 0):∃ r,BU q 0 (n:Int)=some r∧HeapOk (qs (r.2.l.take n))∧(qs (r.2.l.take n)).Perm (qs (q.l.take n))∧r.2.l.drop n=q.l.drop n∧r.2.l.length=q.l.length:=by
  unfold BU
  refine JD (fun s=>∃ i:Nat,s.1=(i:Int)∧DownI (qs (s.2.l.take n)) i∧i≤n∧(qs (s.2.l.take n)).Perm (qs (q.l.take n))∧s.2.l.drop n=q.l.drop n∧s.2.l.length=q.l.length) (fun s=>HeapOk (qs (s.2.l.take n))∧(qs (s.2.l.take n)).Perm (qs (q.l.take n))∧s.2.l.drop n=q.l.drop n∧s.2.l.length=q.l.length) (fun _=>False) (fun s=>n - s.1.toNat) ⟨0,rfl,h,by omega,List.Perm.refl _,rfl,rfl⟩ ?_ ?_ (fun s hs=>hs.elim)
  · rintro ⟨c,s⟩ ⟨i,hc,hd,hi,hp,hdr,hsl⟩
    dsimp only at hc hd hi hp hdr hsl ⊢
    subst hc
    rw [Bw (by unfold inI64;omega),Az,Bw (by unfold inI64;omega),Az]
    by_cases h1:(n:Int)≤2 * (i:Int) + 1
    · rw [if_pos h1,Az,if_t]
      refine .inr (.inl ⟨_,rfl,hd.heap fun j x y hj hji hx _=>?_,hp,hdr,hsl⟩)
      have:=AK hx
      rw [Eh,List.length_take] at this
      omega
    rw [if_neg h1,if_neg (by omega),Az,if_f]
    obtain ⟨a,ha⟩:=AH (l:=s.l) (k:=i) (by omega)
    obtain ⟨b,hb⟩:=AH (l:=s.l) (k:=2 * i + 1) (by omega)
    have tk:∀ {k:Nat} {x:Itm},k < n→s.l[k]?=some x→(qs (s.l.take n))[k]?=some (toQ x):=fun {k x} hk hx=>Fb (by rw [List.getElem?_take_of_lt hk];exact hx)
    have cast1:2 * (i:Int) + 1=((2 * i + 1:Nat):Int):=by omega
    have cast2:2 * (i:Int) + 1 + 1=((2 * i + 2:Nat):Int):=by omega
    have rest:∀ (c:Nat) (d:Itm),(c=2 * i + 1∨c=2 * i + 2)→c < n→s.l[c]?=some d→(∀ (j:Nat) x,0 < j→(j - 1) / 2=i→(qs (s.l.take n))[j]?=some x→nb x (toQ d))→(∃ s',(bnd (Bj s.l (c:Int) (i:Int)) fun q97=>if q97=true then bnd (Bg s.l (i:Int) (c:Int)) fun q109=>some (Ctl.next (ρ:=Bool×BQ) ((c:Int),(⟨q109⟩:BQ))) else some (.brk ((i:Int),s)))=some (.next s')∧(∃ i:Nat,s'.1=(i:Int)∧DownI (qs (s'.2.l.take n)) i∧i≤n∧(qs (s'.2.l.take n)).Perm (qs (q.l.take n))∧s'.2.l.drop n=q.l.drop n∧s'.2.l.length=q.l.length)∧n - s'.1.toNat < n - ((i:Int)).toNat)∨(∃ s',(bnd (Bj s.l (c:Int) (i:Int)) fun q97=>if q97=true then bnd (Bg s.l (i:Int) (c:Int)) fun q109=>some (Ctl.next (ρ:=Bool×BQ) ((c:Int),(⟨q109⟩:BQ))) else some (.brk ((i:Int),s)))=some (.brk s')∧HeapOk (qs (s'.2.l.take n))∧(qs (s'.2.l.take n)).Perm (qs (q.l.take n))∧s'.2.l.drop n=q.l.drop n∧s'.2.l.length=q.l.length)∨∃ r,(bnd (Bj s.l (c:Int) (i:Int)) fun q97=>if q97=true then bnd (Bg s.l (i:Int) (c:Int)) fun q109=>some (Ctl.next (ρ:=Bool×BQ) ((c:Int),(⟨q109⟩:BQ))) else some (.brk ((i:Int),s)))=some (.ret r)∧False:=by
      intro c d hc hcn hd' hs
      rw [HU hd' ha,Az]
      have e1:qs (((s.l.set i d).set c a).take n)=((qs (s.l.take n)).set i (toQ d)).set c (toQ a):=by
        rw [List.take_set,List.take_set,Hs,Hs]
      by_cases hda:bfr (toQ d) (toQ a)
      · rw [decide_eq_true hda,if_t,HV ha hd',Az]
        refine .inl ⟨_,rfl,⟨c,rfl,?_,by omega,?_,?_,by simp;exact hsl⟩,?_⟩
        · dsimp only;rw [e1];exact hd.step hc (tk (by omega) ha) (tk hcn hd') hda hs
        · dsimp only;rw [e1];exact (JG (tk (by omega) ha) (tk hcn hd')).trans hp
        · dsimp only
          rw [← hdr]
          apply List.ext_getElem?
          intro k
          rw [List.getElem?_drop,List.getElem?_drop,List.getElem?_set_ne (by omega),List.getElem?_set_ne (by omega)]
        · dsimp only;omega
      · rw [decide_eq_false hda,if_f]
        refine .inr (.inl ⟨_,rfl,hd.heap fun j x y hj hji hx hy=>?_,hp,hdr,hsl⟩)
        rw [tk (by omega) ha] at hy
        obtain rfl:=Option.some.inj hy
        exact Gv (hs j x hj hji hx) hda
    rw [Bw (by unfold inI64;omega),Az]
    by_cases h2:2 * (i:Int) + 1 + 1 < (n:Int)
    · obtain ⟨d,hd'⟩:=AH (l:=s.l) (k:=2 * i + 2) (by omega)
      rw [if_pos h2,cast2,cast1,HU hd' hb,Az]
      by_cases hdb:bfr (toQ d) (toQ b)
      · rw [decide_eq_true hdb,if_t,Az,if_t,Az]
        refine rest (2 * i + 2) d (.inr rfl) (by omega) hd' fun j x hj hji hx=>?_
        have:j=2 * i + 1∨j=2 * i + 2:=by omega
        rcases this with rfl|rfl
        · rw [tk (by omega) hb] at hx;obtain rfl:=Option.some.inj hx;exact nb_of hdb
        · rw [tk (by omega) hd'] at hx;obtain rfl:=Option.some.inj hx;exact In _
      · rw [decide_eq_false hdb,if_f,Az,if_f,Az]
        refine rest (2 * i + 1) b (.inl rfl) (by omega) hb fun j x hj hji hx=>?_
        have:j=2 * i + 1∨j=2 * i + 2:=by omega
        rcases this with rfl|rfl
        · rw [tk (by omega) hb] at hx;obtain rfl:=Option.some.inj hx;exact In _
        · rw [tk (by omega) hd'] at hx;obtain rfl:=Option.some.inj hx;exact hdb
    · rw [if_neg h2,Az,if_f,Az,cast1]
      refine rest (2 * i + 1) b (.inl rfl) (by omega) hb fun j x hj hji hx=>?_
      have:j=2 * i + 1:=by have:=AK hx;rw [Eh,List.length_take] at this;omega
      subst this
      rw [tk (by omega) hb] at hx;obtain rfl:=Option.some.inj hx;exact In _
  · intro s hs
    by_cases hz:0 < s.1
    · rw [fin_d,if_pos hz,Az];exact ⟨_,rfl,hs⟩
    · rw [fin_d,if_neg hz,Az];exact ⟨_,rfl,hs⟩
theorem MR {q:BQ} (h:HeapOk (qs q.l)) (h0:0 < q.l.length) (hl:q.l.length≤900000):∃ r,BM q=some r∧∃ (e:Itm) (q':BQ),r=((⟨e⟩:AI),q')∧HeapOk (qs q'.l)∧(qs q.l).Perm (toQ e :: qs q'.l)∧∀ x∈qs q.l,nb x (toQ e):=by
  obtain ⟨e,he⟩:=AH (l:=q.l) (k:=0) h0
  obtain ⟨z,hz⟩:=AH (l:=q.l) (k:=q.l.length - 1) (by omega)
  have cz:((q.l.length:Int) - 1)=((q.l.length - 1:Nat):Int):=by omega
  have sw:Bg q.l 0 ((q.l.length - 1:Nat):Int)=some ((q.l.set 0 z).set (q.l.length - 1) e):=HV (i:=0) he hz
  unfold BM Bh
  rw [Az,Bw (by unfold inI64;omega),Az,cz,sw,Az]
  have tk:((q.l.set 0 z).set (q.l.length - 1) e).take (q.l.length - 1)=(q.l.set 0 z).take (q.l.length - 1):=by
    rw [List.take_set]
    exact List.set_eq_of_length_le (by simp)
  have hperm:(qs q.l).Perm (toQ e :: qs ((q.l.set 0 z).take (q.l.length - 1))):=by
    have:q.l.Perm (e :: (q.l.set 0 z).take (q.l.length - 1)):=by
      cases hq:q.l with
      | nil=>rw [hq] at h0;simp at h0
      | cons a tl =>
        rw [hq] at he hz
        simp at he
        subst he
        cases htl:tl.reverse with
        | nil =>
          have:tl=[]:=by simpa using htl
          subst this
          simp
        | cons w r =>
          have htl':tl=r.reverse ++ [w]:=by have:=congrArg List.reverse htl;simpa using this
          subst htl'
          simp at hz
          subst hz
          simp
    exact this.map toQ
  obtain ⟨r,r1,r2,r3,r4,r5⟩:=Ml (q:=⟨(q.l.set 0 z).set (q.l.length - 1) e⟩) (n:=q.l.length - 1) (by simp) (by simp;omega) (by
    dsimp only
    rw [tk]
    refine ⟨fun j x y hj hjp hx hy=>?_,fun j x y h1=>by omega⟩
    rw [MQ,Hs] at hx hy
    have hx':=He hx
    have hy':=He hy
    rw [List.getElem?_set_ne (by omega)] at hx' hy'
    exact h j x y hj hx' hy')
  dsimp only at r3 r4 r5
  rw [tk] at r3
  simp only [List.length_set] at r5
  rw [r1,Az]
  unfold Cp
  have hlast:r.2.l[q.l.length - 1]?=some e:=by
    have:(r.2.l.drop (q.l.length - 1))[0]?=some e:=by
      rw [r4,List.getElem?_drop,Nat.add_zero,List.getElem?_set_self (by simp;omega)]
    rwa [List.getElem?_drop,Nat.add_zero] at this
  have hcut:cutI r.2.l 0 ((q.l.length - 1:Nat):Int)=some (r.2.l.take (q.l.length - 1)):=by
    unfold cutI
    rw [if_pos (by simp;omega)]
    simp
  rw [r5,cz,Bw (by unfold inI64;omega),Az,BH,hlast,Az,hcut,Az,Az]
  exact ⟨_,rfl,e,⟨r.2.l.take (q.l.length - 1)⟩,rfl,r2,hperm.trans (List.Perm.cons _ r3.symm),Lt h (Fb he)⟩
end
section
open Go Go.RowKit
abbrev US:=(List Int)×(List Bool)×Int×Int×Spc×BQ
abbrev UT:=(List Int)×(List Bool)×Int×Spc×BQ
noncomputable def uIn (t:Tsk) (n2 cst idd:Int) (s:UT) (a:Suc):Option (Ctl UT (Ctl US (Rsl×Err))):=bnd (AU s.2.2.2.1.reg a.state) fun q=>if q.2.2.1.n≠0 then (bnd (AZ 3 n2) fun z=>some (.ret (.ret (z.1,(⟨z.2.n⟩:Err))))) else (bnd (atI t.ops a.op) fun o=>bnd (chkI (cst + o.cost)) fun n=>bnd (if q.2.1=true then (bnd (appI 8 s.1 [n]) fun u=>bnd (appI 1 s.2.1 [false]) fun v=>some (.done (u,v))) else (bnd (bnd (atI s.2.1 q.1) fun b=>if b=true then (some true) else (bnd (atI s.1 q.1) fun c=>if c≤n then (some true) else (some false)):Option Bool) fun y=>if y=true then (some (.ret (.next (s.1,s.2.1,s.2.2.1,(⟨s.2.2.2.1.t,q.2.2.2,s.2.2.2.1.gen⟩:Spc),s.2.2.2.2)))) else (some (.done (s.1,s.2.1)))):Option (Fin ((List Int)×(List Bool)) (Ctl UT (Ctl US (Rsl×Err))))) fun y=>fin y fun (z:(List Int)×(List Bool))=>bnd (atI z.1 q.1) fun _=>bnd (Bc q.2.2.2 q.1 idd a.op n) fun k=>if k.1.n≠0 then (some (.ret (.ret ((⟨0,([]:List Int),0,0⟩:Rsl),(⟨k.1.n⟩:Err))))) else (bnd (BD s.2.2.2.2 (⟨(⟨n,s.2.2.1,q.1⟩:Itm)⟩:AI)) fun h=>bnd (chkI (s.2.2.1 + 1)) fun m=>some (.next ((z.1.set (q.1:Int).toNat n),z.2,m,(⟨s.2.2.2.1.t,k.2,s.2.2.2.1.gen⟩:Spc),h))))
noncomputable def uniF (t:Tsk) (lim:Int):US→Option (Ctl US (Rsl×Err)):=fun s=>bnd (Bh s.2.2.2.2.2.l) fun q=>if 0 < q then (bnd (BM s.2.2.2.2.2) fun e=>bnd (atI s.2.1 e.1.x.id) fun b=>if b=true then (some (.next (s.1,s.2.1,s.2.2.1,s.2.2.2.1,s.2.2.2.2.1,e.2))) else (bnd (AY s.2.2.2.2.1.reg e.1.x.id) fun w=>if w.2.n≠0 then (some (.ret ((⟨0,([]:List Int),0,0⟩:Rsl),(⟨w.2.n⟩:Err)))) else (bnd (Cq t.goal w.1) fun g=>if g=true then bnd (Bd s.2.2.2.2.1 e.1.x.id s.2.2.2.1) fun z=>some (.ret (z.1,(⟨z.2.n⟩:Err))) else if lim≤s.2.2.2.1 then (bnd (AZ 3 s.2.2.2.1) fun z=>some (.ret (z.1,(⟨z.2.n⟩:Err)))) else (bnd (atI s.2.1 e.1.x.id) fun _=>bnd (chkI (s.2.2.2.1 + 1)) fun n2=>bnd (AS s.2.2.2.2.1.gen w.1) fun l=>bnd (rng (ρ:=Ctl US (Rsl×Err)) (fun (_:Nat) (a:Suc) (y:UT)=>uIn t n2 e.1.x.cost e.1.x.id y a) l 0 (s.1,(s.2.1.set (e.1.x.id:Int).toNat true),s.2.2.1,s.2.2.2.2.1,e.2)) fun r=>fin r fun (z:UT)=>some (.next (z.1,z.2.1,z.2.2.1,n2,z.2.2.2.1,z.2.2.2.2)))))) else (some (.brk s))
noncomputable def uniE:Fin US (Rsl×Err)→Option (Rsl×Err):=fun r=>fin r fun (s:US)=>bnd (AZ 2 s.2.2.2.1) fun q=>some (q.1,(⟨q.2.n⟩:Err))
theorem MS (t:Tsk) (lim:Int):Bq t lim=bnd (BB t) fun q=>if q.2.n≠0 then (some ((⟨0,([]:List Int),0,0⟩:Rsl),(⟨q.2.n⟩:Err))) else (bnd q.1 fun o=>bnd (lop (uniF t lim) (([0]:List Int),[false],1,0,o,(⟨[(⟨0,0,0⟩:Itm)]⟩:BQ))) uniE):=rfl
theorem JZ {t:Tsk} {s:List Int} {k:Nat} {o:Opr} (ho:t.ops[k]?=some o) (hp:holdsB o.pre s=true):(k:Int)∈appl t s:=by
  rw [JQ,List.mem_map]
  exact ⟨k,List.mem_filter.2 ⟨List.mem_range.2 (AK ho),by rw [(IG ho).1];exact hp⟩,rfl⟩
theorem Ht {t:Tsk} {s:List Int} {C:Int} (hw:Walk t s C):WalkS t (appl t) s C:=by
  induction hw with
  | goal h=>exact .goal h
  | step ho hp _ ih=>exact .step ho (JZ ho hp) ih
theorem GG {t:Tsk} (hs:Few t) {r:Reg} {L:List (List Int)} (h:RegI t.vars r L):L.length≤512:=by
  refine Nat.le_trans (Db (JK h.nodup) fun s hm=>?_) hs.many
  obtain ⟨i,hi⟩:=List.getElem?_of_mem hm
  exact ER.2 (h.st i s hi)
def KP (L:List (List Int)) (g:List Int) (fn:List Bool) (L':List (List Int)) (g':List Int) (fn':List Bool):Prop:=∀ j:Nat,fn'[j]?=some true→fn[j]?=some true∧g'[j]?=g[j]?∧L'[j]?=L[j]?
def HM (g:List Int) (fn:List Bool) (c:Int):Prop:=∀ (j:Nat) c',fn[j]?=some true→g[j]?=some c'→c'≤c
def CO (t:Tsk) (g:List Int) (fn:List Bool):Prop:=∀ (j:Nat) c',fn[j]?=some true→g[j]?=some c'→∀ C,Walk t t.init C→c'≤C
theorem KP.rfl {L:List (List Int)} {g:List Int} {fn:List Bool}:KP L g fn L g fn:=fun _ h=>⟨h,Eq.refl _,Eq.refl _⟩
theorem KP.upd {L L':List (List Int)} {g g':List Int} {fn fn':List Bool} {i:Nat} {s:List Int} {x:Int} (h1:UpL i s L L') (h2:UpL i x g g') (h3:UpL i false fn fn'):KP L g fn L' g' fn':=fun j hj=>by
  have hne:j≠i:=fun e=>by subst e;rw [h3.1] at hj;cases hj
  exact ⟨by rw [← h3.2 j hne];exact hj,h2.2 j hne,h1.2 j hne⟩
theorem HM.kp {L L':List (List Int)} {g g':List Int} {fn fn':List Bool} {c:Int} (h:HM g fn c) (k:KP L g fn L' g' fn'):HM g' fn' c:=fun j c' hj hc=>by
  obtain ⟨k1,k2,_⟩:=k j hj
  exact h j c' k1 (by rw [← k2];exact hc)
theorem CO.kp {t:Tsk} {L L':List (List Int)} {g g':List Int} {fn fn':List Bool} (h:CO t g fn) (k:KP L g fn L' g' fn'):CO t g' fn':=fun j c' hj hc=>by
  obtain ⟨k1,k2,_⟩:=k j hj
  exact h j c' k1 (by rw [← k2];exact hc)
theorem u_one {t:Tsk} (hs:Few t) {D:Nat→Int→Prop} {ord:Nat→Nat} {L:List (List Int)} {E:Nat} {g:List Int} {fn:List Bool} {order:Int} {x:Spc} {q:BQ} (hx:SQ t L x) (hinv:SrI t (appl t) D L (links x.reg) g fn (qs q.l) ord E) (hh:HeapOk (qs q.l)) (ho0:0≤order) (ho1:order≤100000) (hql:q.l.length≤100000) (hE:E≤513)
    {p k:Nat} {o:Opr} {sp:List Int} {cp n2:Int} (ho:t.ops[k]?=some o) (hsp:L[p]?=some sp) (hfp:fn[p]?=some true) (hpre:holdsB o.pre sp=true) (hgp:g[p]?=some cp) (hmax:HM g fn cp) (hcb:cp + 1048576≤(E:Int) * 1048576) :
    ∃ y:UT,uIn t n2 cp (p:Int) (g,fn,order,x,q) ⟨(k:Int),succ o sp⟩=some (.next y)∧∃ L',SQ t L' y.2.2.2.1∧SrI t (appl t) D L' (links y.2.2.2.1.reg) y.1 y.2.1 (qs y.2.2.2.2.l) ord E∧HeapOk (qs y.2.2.2.2.l)∧0≤y.2.2.1∧y.2.2.1≤order + 1∧y.2.2.2.2.l.length≤q.l.length + 1∧KP L g fn L' y.1 y.2.1∧L'[p]?=some sp∧y.2.1[p]?=some true∧y.1[p]?=some cp∧∃ (i:Nat) (c':Int),L'[i]?=some (succ o sp)∧y.1[i]?=some c'∧c'≤cp + o.cost:=by
  have hok:=hs.ok
  have hoo:=hok.2.2.2.2.2 k o ho
  have ho1':=hoo.1
  have ho2:=hoo.2.1
  have hL:=GG hs hx.reg
  have hcp:=(hinv.bound p cp hgp).1
  have hsok:StateOk t.vars (succ o sp):=Hz hok (hx.reg.st p sp hsp) ho
  have hgl:=hinv.leng
  have hfl:=hinv.lenf
  have hlkl:=Hm hx.reg
  have hpl:=AK hsp
  unfold uIn
  dsimp only
  rcases FM hok.1 hx.reg hsok (by omega) with ⟨i,hi,hadd⟩|⟨hno,r',hadd,hr',hlk⟩
  · have hil:=AK hi
    obtain ⟨ci,hci⟩:=AH (l:=g) (k:=i) (by omega)
    obtain ⟨b,hb⟩:=AH (l:=fn) (k:=i) (by omega)
    rw [hadd,Az,if_neg (by simp),BH,ho,Az,Bw (by unfold inI64;omega),Az]
    dsimp only
    rw [if_f,BH,hb,Az,BH,hci,Az]
    have keep:ci≤cp + o.cost→∃ y:UT,(some (.next (g,fn,order,(⟨x.t,x.reg,x.gen⟩:Spc),q)):Option (Ctl UT (Ctl US (Rsl×Err))))=some (.next y)∧∃ L',SQ t L' y.2.2.2.1∧SrI t (appl t) D L' (links y.2.2.2.1.reg) y.1 y.2.1 (qs y.2.2.2.2.l) ord E∧HeapOk (qs y.2.2.2.2.l)∧0≤y.2.2.1∧y.2.2.1≤order + 1∧y.2.2.2.2.l.length≤q.l.length + 1∧KP L g fn L' y.1 y.2.1∧L'[p]?=some sp∧y.2.1[p]?=some true∧y.1[p]?=some cp∧∃ (i:Nat) (c':Int),L'[i]?=some (succ o sp)∧y.1[i]?=some c'∧c'≤cp + o.cost:=fun hle =>
      ⟨_,rfl,L,hx,hinv,hh,ho0,by dsimp only;omega,by dsimp only;omega,KP.rfl,hsp,hfp,hgp,i,ci,hi,hci,hle⟩
    cases b with
    | true =>
      rw [if_t,Az,if_t,Az]
      exact keep (by have:=hmax i ci hb hci;omega)
    | false =>
      rw [if_f]
      by_cases hle:ci≤cp + o.cost
      · rw [if_pos hle,Az,if_t,Az]
        exact keep hle
      · have hip:p≠i:=fun e=>by subst e;rw [hfp] at hb;cases hb
        obtain ⟨reg',s1,s2,s3⟩:=Gx hx.reg hil (p:=(p:Int)) (o:=(k:Int)) (c:=cp + o.cost) (.inr ⟨p,rfl,hpl⟩)
        obtain ⟨q',u1,u2,u3⟩:=JY hh (by omega) ⟨cp + o.cost,order,(i:Int)⟩
        have hplen:=u3.length_eq
        simp only [List.length_cons,Eh] at hplen
        rw [if_neg hle,Az,if_f,Az,fin_d]
        dsimp only
        rw [BH,hci,Az,s1,Az,if_neg (by simp),u1,Az,Bw (by unfold inI64;omega),Az,Int.toNat_natCast]
        have v1:UpL i (succ o sp) L L:=JJ hi
        have v3:UpL i (cp + o.cost) g (g.set i (cp + o.cost)):=KB (by omega)
        have v4:UpL i false fn fn:=JJ hb
        refine ⟨_,rfl,L,⟨hx.tt,hx.gen,s2⟩,?_,u2,by dsimp only;omega,by dsimp only;omega,by dsimp only;omega,KP.upd v1 v3 v4,hsp,hfp,?_,i,cp + o.cost,hi,v3.1,Int.le_refl _⟩
        · dsimp only
          rw [s3]
          exact hinv.upd hok v1 (KB (by omega)) v3 v4 u3 rfl rfl (by simp;omega) (by simp;omega) (by omega) (by omega) rfl (.inr ⟨hi,hb,fun c hc=>by rw [hci] at hc;have:=Option.some.inj hc;omega⟩) ho hsp hfp hpre rfl hgp rfl hmax (by omega)
        · dsimp only;rw [v3.2 p hip];exact hgp
  · rw [hadd,Az,if_neg (by simp),BH,ho,Az,Bw (by unfold inI64;omega),Az]
    dsimp only
    have hg2:(g ++ [cp + o.cost])[L.length]?=some (cp + o.cost):=by rw [← hgl];simp
    obtain ⟨reg',s1,s2,s3⟩:=Gx hr' (i:=L.length) (by simp) (p:=(p:Int)) (o:=(k:Int)) (c:=cp + o.cost) (.inr ⟨p,rfl,by simp;omega⟩)
    obtain ⟨q',u1,u2,u3⟩:=JY hh (by omega) ⟨cp + o.cost,order,((L.length:Nat):Int)⟩
    have hplen:=u3.length_eq
    simp only [List.length_cons,Eh] at hplen
    rw [if_t,Cs (by simp;omega) (by simp;omega),Az,Cs (by simp;omega) (by simp;omega),Az,Az,fin_d]
    dsimp only
    rw [BH,hg2,Az,s1,Az,if_neg (by simp),u1,Az,Bw (by unfold inI64;omega),Az,Int.toNat_natCast]
    have sc:(g ++ [cp + o.cost]).set L.length (cp + o.cost)=g ++ [cp + o.cost]:=by rw [← hgl];simp
    rw [sc]
    have hlk2:links reg'=links x.reg ++ [⟨(p:Int),(k:Int),cp + o.cost⟩]:=by rw [s3,hlk,← hlkl];simp
    have v1:UpL L.length (succ o sp) L (L ++ [succ o sp]):=HB
    have v2:UpL L.length (⟨(p:Int),(k:Int),cp + o.cost⟩:RLk) (links x.reg) (links x.reg ++ [⟨(p:Int),(k:Int),cp + o.cost⟩]):=by rw [← hlkl];exact HB
    have v3:UpL L.length (cp + o.cost) g (g ++ [cp + o.cost]):=by rw [← hgl];exact HB
    have v4:UpL L.length false fn (fn ++ [false]):=by rw [← hfl];exact HB
    have hne:p≠L.length:=by omega
    refine ⟨_,rfl,L ++ [succ o sp],⟨hx.tt,hx.gen,s2⟩,?_,u2,by dsimp only;omega,by dsimp only;omega,by dsimp only;omega,KP.upd v1 v3 v4,by rw [v1.2 p hne];exact hsp,by dsimp only;rw [v4.2 p hne];exact hfp,by dsimp only;rw [v3.2 p hne];exact hgp,L.length,cp + o.cost,v1.1,v3.1,Int.le_refl _⟩
    dsimp only
    rw [hlk2]
    exact hinv.upd hok v1 v2 v3 v4 u3 rfl rfl (by simp;omega) (by simp;omega) (by simp;omega) (by simp) (MI _) (.inl (List.getElem?_eq_none (Nat.le_refl _))) ho hsp hfp hpre rfl hgp rfl hmax (by omega)
structure UJ (t:Tsk) (D:Nat→Int→Prop) (ord:Nat→Nat) (E N:Nat) (i:Nat) (s:List Int) (c:Int) (L:List (List Int)) (y:UT):Prop where
  sq:SQ t L y.2.2.2.1
  inv:SrI t (appl t) D L (links y.2.2.2.1.reg) y.1 y.2.1 (qs y.2.2.2.2.l) ord E
  heap:HeapOk (qs y.2.2.2.2.l)
  ord0:0≤y.2.2.1
  ord1:y.2.2.1≤(N:Int) + 1
  qlen:y.2.2.2.2.l.length≤N
  hi:L[i]?=some s
  hf:y.2.1[i]?=some true
  hc:y.1[i]?=some c
  hm:HM y.1 y.2.1 c
  co:CO t y.1 y.2.1
theorem u_exp {t:Tsk} (hs:Few t) {ord:Nat→Nat} {E N i:Nat} {s:List Int} {c n2:Int} {L:List (List Int)} {y:UT} (h:UJ t (fun j _=>j≠i) ord E N i s c L y) (hN:N≤90000) (hE:E≤513) (hcb:c + 1048576≤(E:Int) * 1048576) :
    ∃ y':UT,rng (ρ:=Ctl US (Rsl×Err)) (fun (_:Nat) (a:Suc) (y:UT)=>uIn t n2 c (i:Int) y a) ((appS t s).map (sucOf t s)) 0 y=some (.done y')∧∃ L',UJ t (fun _ _=>True) ord E (N + 20) i s c L' y':=by
  have hok:=hs.ok
  have hops:t.ops.length≤20:=hs.ops
  have hsok:=h.sq.reg.st i s h.hi
  have hlen:(appl t s).length≤20:=Nat.le_trans (JP t s) hops
  rw [EN hsok]
  obtain ⟨y',h1,h2⟩:=Ge (ρ:=Ctl US (Rsl×Err)) (f:=fun (_:Nat) (a:Suc) (y:UT)=>uIn t n2 c (i:Int) y a) (xs:=(appl t s).map (sucOf t s)) (s₀:=y) (fun m z=>∃ L',UJ t (fun j q=>j≠i∨q∈(appl t s).take m) ord E (N + m) i s c L' z)
    ⟨L, { h with inv:={ h.inv with rel:=fun j s' q hj hs' hq hd=>h.inv.rel j s' q hj hs' hq (by rcases hd with hd|hd;exact hd;simp at hd) } }⟩ (fun m a z hm hz=>by
      rw [List.getElem?_map] at hm
      obtain ⟨op,hop,rfl⟩:=Option.map_eq_some_iff.1 hm
      obtain ⟨L',hz⟩:=hz
      obtain ⟨k,o,rfl,ho,hp⟩:=JO (List.mem_of_getElem? hop)
      have hml:=AK hop
      have hq:=hz.qlen
      have hoo:=hz.ord1
      have e1:sucOf t s (k:Int)=⟨(k:Int),succ o s⟩:=by rw [MM,(IG ho).2]
      obtain ⟨g,fn,order,x,q⟩:=z
      obtain ⟨z',z1,L'',z2,z3,z4,z5,z6,z7,z8,z9,z10,z11,i',c',z12,z13,z14⟩:=u_one hs (n2:=n2) hz.sq hz.inv hz.heap hz.ord0 (by have:=hz.ord1;dsimp only at this;omega) (by have:=hz.qlen;dsimp only at this;omega) hE ho hz.hi hz.hf hp hz.hc hz.hm hcb
      try dsimp only at hq
      try dsimp only at hoo
      try dsimp only at z6
      try dsimp only at z7
      refine ⟨z',by rw [e1];exact z1,L'',⟨z2,?_,z4,z5,by omega,by omega,z9,z10,z11,hz.hm.kp z8,hz.co.kp z8⟩⟩
      refine z3.more (j₀:=i) (q₀:=(k:Int)) (fun j q hd=>?_) z9 rfl ho z12 z11 z13 z14
      rcases hd with hd|hd
      · exact .inl (.inl hd)
      · rcases (JE hop).1 hd with hd|rfl
        · exact .inl (.inr hd)
        · by_cases e:j=i
          · exact .inr ⟨e,rfl⟩
          · exact .inl (.inl e))
  obtain ⟨L',h2⟩:=h2
  rw [List.length_map] at h2
  refine ⟨y',h1,L',?_⟩
  have hinv:=h2.inv
  have hq:=h2.qlen
  have hoo:=h2.ord1
  exact { h2 with
    inv:={ hinv with rel:=fun j s' q hj hs' hq hd=>hinv.rel j s' q hj hs' hq (by
      by_cases e:j=i
      · right;rw [List.take_length];subst e;rw [h2.hi] at hs';obtain rfl:=Option.some.inj hs';exact hq
      · exact .inl e) }
    ord1:=by omega
    qlen:=by omega }
structure UI (t:Tsk) (ord:Nat→Nat) (N:Nat) (L:List (List Int)) (s:US):Prop where
  sq:SQ t L s.2.2.2.2.1
  inv:SrI t (appl t) (fun _ _=>True) L (links s.2.2.2.2.1.reg) s.1 s.2.1 (qs s.2.2.2.2.2.l) ord s.2.2.2.1.toNat
  heap:HeapOk (qs s.2.2.2.2.2.l)
  ord0:0≤s.2.2.1
  ord1:s.2.2.1≤(N:Int) + 1
  qlen:s.2.2.2.2.2.l.length≤N
  exp0:0≤s.2.2.2.1
  co:CO t s.1 s.2.1
  nn:(N:Int)≤1 + 20 * s.2.2.2.1
theorem UI.exp {t:Tsk} (hs:Few t) {ord:Nat→Nat} {N:Nat} {L:List (List Int)} {s:US} (h:UI t ord N L s):s.2.2.2.1≤512:=by
  have h1:=h.inv.num
  have h2:=LB s.2.1
  have h3:=h.inv.lenf
  have h4:=GG hs h.sq.reg
  have:=h.exp0
  omega
theorem SrI.ways {t:Tsk} {L:List (List Int)} {lk:List RLk} {g:List Int} {fn:List Bool} {hp:List QEn} {ord:Nat→Nat} {E:Nat} (h:SrI t (appl t) (fun _ _=>True) L lk g fn hp ord E) (hok:TaskOk t) {s0 p s:List Int} {C:Int} (hw:PlanR t s0 p s C):∀ (i:Nat) c,L[i]?=some s0→g[i]?=some c→(∃ e∈hp,e.key≤c + C)∨∃ i:Nat,L[i]?=some s∧fn[i]?=some true:=by
  induction hw with
  | nil =>
    intro i c hi hc
    obtain ⟨b,hb⟩:=AH (l:=fn) (k:=i) (by rw [h.lenf];exact AK hi)
    cases b with
    | false=>obtain ⟨e,m,k1,_⟩:=h.opn i c hb hc;exact .inl ⟨e,m,by omega⟩
    | true=>exact .inr ⟨i,hi,hb⟩
  | @cons s0 rest s' k o C ho hpre hr ih =>
    intro i c hi hc
    have h1:=(hr.bound hok).1
    have h2:=(hok.2.2.2.2.2 k o ho).1
    obtain ⟨b,hb⟩:=AH (l:=fn) (k:=i) (by rw [h.lenf];exact AK hi)
    cases b with
    | false=>obtain ⟨e,m,k1,_⟩:=h.opn i c hb hc;exact .inl ⟨e,m,by omega⟩
    | true =>
      obtain ⟨k',o',i',c0,c',a1,a2,a3,a4,a5,a6⟩:=h.rel i s0 _ hb hi (JZ ho hpre) trivial
      have e1:k=k':=by omega
      subst e1
      rw [ho] at a2
      obtain rfl:=Option.some.inj a2
      rw [hc] at a4
      obtain rfl:=Option.some.inj a4
      rcases ih i' c' a3 a5 with ⟨e,m,k1⟩|h3
      · exact .inl ⟨e,m,by omega⟩
      · exact .inr h3
theorem NJ {t:Tsk} (hs:Few t) {ord:Nat→Nat} {N:Nat} {L:List (List Int)} {st:US} (h:UI t ord N L st) :
    (∃ st':US,(∀ lim,uniF t lim st=some (.next st'))∧UI t ord N L st'∧st'.2.2.2.1=st.2.2.2.1∧st'.2.2.2.2.2.l.length < st.2.2.2.2.2.l.length) ∨
    ((∀ lim,uniF t lim st=some (.brk st))∧st.2.2.2.2.2.l.length=0) ∨
    (∃ p c,(∀ lim,uniF t lim st=some (.ret (⟨1,p,c,st.2.2.2.1⟩,⟨0⟩)))∧p.length≤512∧(∃ s',PlanR t t.init p s' c∧holdsB t.goal s'=true)∧(∀ e∈qs st.2.2.2.2.2.l,c≤e.key)) ∨
    (∃ (st':US) (ord':Nat→Nat) (N':Nat) (L':List (List Int)),(∀ lim,uniF t lim st=if lim≤st.2.2.2.1 then some (.ret (⟨3,[],0,st.2.2.2.1⟩,⟨0⟩)) else some (.next st'))∧UI t ord' N' L' st'∧st'.2.2.2.1=st.2.2.2.1 + 1∧∃ (i:Nat) (s:List Int) (c:Int),L[i]?=some s∧st.2.1[i]?=some false∧st.1[i]?=some c∧holdsB t.goal s=false∧∀ C,Walk t t.init C→c≤C):=by
  have hok:=hs.ok
  have hE:=h.exp hs
  have hE0:=h.exp0
  have hnn:=h.nn
  have hql:=h.qlen
  obtain ⟨g,fn,order,exp,x,q⟩:=st
  dsimp only at hE hE0 hnn hql ⊢
  by_cases h0:q.l.length=0
  · refine .inr (.inl ⟨fun lim=>?_,h0⟩)
    unfold uniF Bh
    dsimp only
    rw [Az,if_neg (by omega)]
  obtain ⟨pr,p1,e,q',rfl,p3,p4,p5⟩:=MR (q:=q) h.heap (by omega) (by omega)
  have hem:toQ e∈qs q.l:=p4.mem_iff.2 List.mem_cons_self
  obtain ⟨i,hei,hil,hek⟩:=h.inv.ent _ hem
  change e.id=(i:Int) at hei
  obtain ⟨s,hsi⟩:=AH (l:=L) (k:=i) hil
  obtain ⟨b,hb⟩:=AH (l:=fn) (k:=i) (by have:=h.inv.lenf;dsimp only at this;omega)
  obtain ⟨c,hc⟩:=AH (l:=g) (k:=i) (by have:=h.inv.leng;dsimp only at this;omega)
  have hpl:=p4.length_eq
  simp only [List.length_cons,Eh] at hpl
  cases b with
  | true =>
    refine .inl ⟨(g,fn,order,exp,x,q'),fun lim=>?_,⟨h.sq,h.inv.drop p4 hei (.inl hb),p3,h.ord0,h.ord1,by dsimp only;omega,h.exp0,h.co,h.nn⟩,rfl,by dsimp only;omega⟩
    unfold uniF Bh
    dsimp only
    rw [Az,if_pos (by omega),p1,Az]
    dsimp only
    rw [hei,BH,hb,Az,if_t]
  | false =>
    have hke:e.cost=c:=by
      obtain ⟨e',m,k1,_⟩:=h.inv.opn i c hb hc
      have h1:=JF (p5 e' m)
      have h2:=hek c hc
      change c≤e.cost at h2
      change e.cost≤e'.key at h1
      omega
    have start:∀ lim,uniF t lim (g,fn,order,exp,x,q)=if holdsB t.goal s=true then bnd (Bd x (i:Int) exp) fun z=>some (.ret (z.1,(⟨z.2.n⟩:Err))) else if lim≤exp then (some (.ret (⟨3,[],0,exp⟩,⟨0⟩))) else (bnd (atI fn (i:Int)) fun _=>bnd (chkI (exp + 1)) fun n2=>bnd (AS x.gen s) fun l=>bnd (rng (ρ:=Ctl US (Rsl×Err)) (fun (_:Nat) (a:Suc) (y:UT)=>uIn t n2 c (i:Int) y a) l 0 (g,(fn.set i true),order,x,q')) fun r=>fin r fun (z:UT)=>some (.next (z.1,z.2.1,z.2.2.1,n2,z.2.2.2.1,z.2.2.2.2))):=by
      intro lim
      unfold uniF Bh AZ
      dsimp only
      rw [Az,if_pos (by omega),p1,Az]
      dsimp only
      rw [hei,hke,BH,hb,Az,if_f,Ef hok.1 h.sq.reg hsi,Az,if_neg (by simp),FL,Az,Int.toNat_natCast,Az]
    have hkey:g[i]?=some (toQ e).key:=by rw [hc,← hke];rfl
    have hleast:∀ e'∈qs q.l,c≤e'.key:=fun e' m=>by have:=JF (p5 e' m);change e.cost≤e'.key at this;omega
    have hchp:∀ C,Walk t t.init C→c≤C:=fun C hw=>by
      obtain ⟨e',m,k1⟩:=h.inv.front hok (Ht hw) 0 0 h.inv.root h.inv.root0
      have:=hleast e' m
      omega
    by_cases hg:holdsB t.goal s=true
    · obtain ⟨p,g1,g2,g3⟩:=h.inv.path hsi hc
      have hL:=GG hs h.sq.reg
      have hnum:=h.inv.num
      have hcl:=LB fn
      have hfl:=h.inv.lenf
      dsimp only at g1 g2 g3 hnum hcl hfl
      refine .inr (.inr (.inl ⟨p,c,fun lim=>?_,by omega,⟨s,g2,hg⟩,hleast⟩))
      rw [start,if_pos hg]
      unfold Bd
      rw [KA h.sq.reg (by omega) g1 (by omega),Az,if_neg (by simp),h.sq.tt,LJ hok g2 0 0 (by omega) (by omega),Az,fin_d,Int.zero_add,Az]
    · have hgf:holdsB t.goal s=false:=by simpa using hg
      have hm:=h.inv.mark p4 p5 hei hb hkey hsi hgf
      have hbd:=h.inv.bound i c hc
      dsimp only at hm hbd
      rw [Int.toNat_of_nonneg hE0] at hbd
      have hfl:i < fn.length:=AK hb
      have hset:∀ (j:Nat) c',(fn.set i true)[j]?=some true→g[j]?=some c'→c'≤c∧∀ C,Walk t t.init C→c'≤C:=fun j c' hj hc'=>by
        by_cases e1:i=j
        · subst e1
          rw [hc] at hc'
          obtain rfl:=Option.some.inj hc'
          exact ⟨Int.le_refl _,hchp⟩
        · rw [List.getElem?_set_ne e1] at hj
          exact ⟨by have:=h.inv.lower j c' hj hc' _ hem;change c'≤e.cost at this;omega,h.co j c' hj hc'⟩
      obtain ⟨y',y1,L',y2⟩:=u_exp hs (n2:=exp + 1) (E:=exp.toNat + 1) (N:=N) (i:=i) (s:=s) (c:=c) (L:=L) (y:=(g,fn.set i true,order,x,q')) ⟨h.sq,hm,p3,h.ord0,h.ord1,by dsimp only;omega,hsi,List.getElem?_set_self hfl,hc,fun j c' hj hc'=>(hset j c' hj hc').1,fun j c' hj hc'=>(hset j c' hj hc').2⟩ (by omega) (by omega) (by
        have:((exp.toNat + 1:Nat):Int)=exp + 1:=by omega
        rw [this];omega)
      have hsok:=h.sq.reg.st i s hsi
      refine .inr (.inr (.inr ⟨(y'.1,y'.2.1,y'.2.2.1,exp + 1,y'.2.2.2.1,y'.2.2.2.2),(fun j=>if j=i then exp.toNat else ord j),N + 20,L',fun lim=>?_,⟨y2.sq,?_,y2.heap,y2.ord0,y2.ord1,y2.qlen,by dsimp only;omega,y2.co,by dsimp only;omega⟩,rfl,i,s,c,hsi,hb,hc,hgf,hchp⟩))
      · rw [start,if_neg hg]
        by_cases hlim:lim≤exp
        · rw [if_pos hlim,if_pos hlim]
        · rw [if_neg hlim,if_neg hlim,BH,hb,Az,Bw (by unfold inI64;omega),Az,h.sq.gen,IF hok (Ho hok hsok),Az,y1,Az,fin_d]
      · dsimp only
        rw [show (exp + 1).toNat=exp.toNat + 1 from by omega]
        exact y2.inv
end
section
open Go Go.RowKit
def Cheap (t:Tsk) (s:List Int):Prop:=holdsB t.goal s=false∧∃ p c,PlanR t t.init p s c∧c≤1000000000∧∀ C,Walk t t.init C→c≤C
def ResU (t:Tsk) (m:Int) (r:Rsl):Prop:=0≤r.expanded∧r.expanded≤m∧∃ M:List (List Int),M.Nodup∧(M.length:Int)=r.expanded∧(∀ s∈M,Cheap t s) ∧
  ((r.verdict=1∧r.plan.length≤512∧(∃ s',PlanR t t.init r.plan s' r.cost∧holdsB t.goal s'=true)∧(∀ C,Walk t t.init C→r.cost≤C)∧∀ s p c,PlanR t t.init p s c→c < r.cost→s∈M) ∨
   (r.verdict=2∧r.plan=[]∧r.cost=0∧(∀ C,¬ Walk t t.init C)∧∀ s p c,PlanR t t.init p s c→s∈M) ∨
   (r.verdict=3∧r.plan=[]∧r.cost=0∧m≤r.expanded∧∃ s,¬ s∈M∧Cheap t s))
def outU:Fin US (Rsl×Err)→Rsl
  | .done s=>⟨2,[],0,s.2.2.2.1⟩
  | .ret r=>r.1
section
variable {t : Tsk} {ord : Nat → Nat} {N : Nat} {L : List (List Int)} {st : US}
theorem UI.set (hs:Few t) (h:UI t ord N L st):(marked L st.2.1).Nodup∧((marked L st.2.1).length:Int)=st.2.2.2.1∧∀ s∈marked L st.2.1,Cheap t s:=by
  have hE:=h.exp hs
  have hE0:=h.exp0
  refine ⟨(JK h.sq.reg.nodup).sublist (Iu _ _),?_,fun s hm=>?_⟩
  · rw [Ip L st.2.1 h.inv.lenf,h.inv.num,Int.toNat_of_nonneg h.exp0]
  · obtain ⟨i,hi,hb⟩:=Fo hm
    obtain ⟨c,hc⟩:=AH (l:=st.1) (k:=i) (by rw [h.inv.leng];exact AK hi)
    obtain ⟨p,_,g2,_⟩:=h.inv.path hi hc
    have:=h.inv.bound i c hc
    rw [Int.toNat_of_nonneg hE0] at this
    exact ⟨h.inv.nogoal i s hb hi,p,c,g2,by omega,h.co i c hb hc⟩
theorem UI.len (hs:Few t) (h:UI t ord N L st):st.2.2.2.2.2.l.length≤90000:=by
  have h1:=h.exp hs
  have h2:=h.qlen
  have h3:=h.nn
  have:=h.exp0
  omega
end
theorem MT {M K a q q' n:Nat} (ha:a < M) (h:(M - a) * K + q < n + 1) (hq:q' < K):(M - (a + 1)) * K + q' < n:=by
  obtain ⟨b,hb⟩:∃ b,M - a=b + 1:=⟨M - a - 1,by omega⟩
  have hb':M - (a + 1)=b:=by omega
  rw [hb,Nat.add_mul,Nat.one_mul] at h
  rw [hb']
  omega
theorem u_all {t:Tsk} (hs:Few t) (lim:Int):∀ (n:Nat) (st:US) (ord:Nat→Nat) (N:Nat) (L:List (List Int)),UI t ord N L st→st.2.2.2.1≤max lim 0→(513 - st.2.2.2.1.toNat) * 100000 + st.2.2.2.2.2.l.length < n→∃ f,lop (uniF t lim) st=some f∧uniE f=some (outU f,⟨0⟩)∧ResU t (max lim 0) (outU f)∧st.2.2.2.1≤(outU f).expanded∧∀ lim',(outU f).verdict≠3→(outU f).expanded≤lim'→lop (uniF t lim') st=some f:=by
  intro n
  induction n with
  | zero=>intro st ord N L _ _ hn;omega
  | succ n ih =>
    intro st ord N L h hsl hn
    have hE:=h.exp hs
    have hE0:=h.exp0
    have hok:=hs.ok
    obtain ⟨m1,m2,m3⟩:=h.set hs
    rcases NJ hs h with ⟨st',h1,h2,h3,h4⟩|⟨h1,h2⟩|⟨p,c,h1,h2,h3,h4⟩|⟨st',ord',N',L',h1,h2,h3,i,s,c,h4,h5,h6,h7,h8⟩
    · obtain ⟨f,f1,f0,f2,f3,f4⟩:=ih st' ord N L h2 (by omega) (by rw [h3];omega)
      refine ⟨f,by rw [Cw,h1];exact f1,f0,f2,by omega,fun lim' hv hl=>?_⟩
      rw [Cw,h1];exact f4 lim' hv hl
    · have hnil:∀ e,¬ e∈qs st.2.2.2.2.2.l:=fun e he=>by
        have:=List.length_pos_of_mem he
        rw [Eh] at this
        omega
      refine ⟨.done st,by rw [Cw,h1],rfl,⟨hE0,hsl,marked L st.2.1,m1,m2,m3,.inr (.inl ⟨rfl,rfl,rfl,fun C hw=>?_,fun s p c hp=>?_⟩)⟩,Int.le_refl _,fun lim' _ _=>by rw [Cw,h1]⟩
      · obtain ⟨e',m,_⟩:=h.inv.front hok (Ht hw) 0 0 h.inv.root h.inv.root0
        exact hnil e' m
      · rcases h.inv.ways hok hp 0 0 h.inv.root h.inv.root0 with ⟨e,m,_⟩|⟨i,i1,i2⟩
        · exact absurd m (hnil e)
        · exact Gy i1 i2
    · refine ⟨.ret (⟨1,p,c,st.2.2.2.1⟩,⟨0⟩),by rw [Cw,h1],rfl,⟨hE0,hsl,marked L st.2.1,m1,m2,m3,.inl ⟨rfl,h2,h3,fun C hw=>?_,fun s p' c' hp hlt=>?_⟩⟩,Int.le_refl _,fun lim' _ _=>by rw [Cw,h1]⟩
      · obtain ⟨e',m,k⟩:=h.inv.front hok (Ht hw) 0 0 h.inv.root h.inv.root0
        have:=h4 e' m
        show c≤C
        omega
      · rcases h.inv.ways hok hp 0 0 h.inv.root h.inv.root0 with ⟨e,m,k⟩|⟨i,i1,i2⟩
        · have:=h4 e m
          change c' < c at hlt
          omega
        · exact Gy i1 i2
    · by_cases hlim:lim≤st.2.2.2.1
      · refine ⟨.ret (⟨3,[],0,st.2.2.2.1⟩,⟨0⟩),by rw [Cw,h1,if_pos hlim],rfl,⟨hE0,hsl,marked L st.2.1,m1,m2,m3,.inr (.inr ⟨rfl,rfl,rfl,by show max lim 0≤st.2.2.2.1;omega,s,fun hm=>?_,?_⟩)⟩,Int.le_refl _,fun lim' hv _=>absurd rfl hv⟩
        · obtain ⟨j,j1,j2⟩:=Fo hm
          have:=h.sq.reg.nodup i j s h4 j1
          subst this
          rw [h5] at j2
          cases j2
        · obtain ⟨p,_,g2,_⟩:=h.inv.path h4 h6
          have:=h.inv.bound i c h6
          rw [Int.toNat_of_nonneg hE0] at this
          exact ⟨h7,p,c,g2,by omega,h8⟩
      · have hmany:=h2.len hs
        obtain ⟨f,f1,f0,f2,f3,f4⟩:=ih st' ord' N' L' h2 (by omega) (by
          have:st'.2.2.2.1.toNat=st.2.2.2.1.toNat + 1:=by omega
          rw [this];exact MT (by omega) hn (by omega))
        refine ⟨f,by rw [Cw,h1,if_neg hlim];exact f1,f0,f2,by omega,fun lim' hv hl=>?_⟩
        rw [Cw,h1,if_neg (by omega)];exact f4 lim' hv hl
theorem NK {t:Tsk} {reg:Reg} (hr:RegI t.vars reg [t.init]) (hlk:links reg=[⟨-1,-1,0⟩]):UI t (fun _=>0) 1 [t.init] (([0]:List Int),[false],1,0,⟨t,reg,some ⟨t⟩⟩,(⟨[(⟨0,0,0⟩:Itm)]⟩:BQ)):=by
  have one:∀ {α:Type} {a b:α} {i:Nat},[a][i]?=some b→i=0∧b=a:=fun {α a b i} h=>by
    cases i with
    | zero=>simp at h;exact ⟨rfl,h.symm⟩
    | succ i=>simp at h
  refine ⟨⟨rfl,rfl,hr⟩,?_,fun j x y hj hx=>by have:=(one hx).1;omega,by simp,by simp,by simp,by simp,(fun j c hj=>by have:=(one hj).2;cases this),by simp⟩
  dsimp only
  rw [hlk]
  refine ⟨rfl,rfl,rfl,rfl,rfl,fun i s k c hi hk hc=>?_,fun i hi=>?_,fun j c hj=>?_,fun e he=>?_,fun i c hi hc=>?_,fun i c hc=>?_,fun j s hj=>?_,fun j s q hj=>?_,rfl,fun i s hi=>?_,fun hE=>by simp at hE⟩
  · obtain ⟨rfl,rfl⟩:=one hi
    obtain ⟨_,rfl⟩:=one hk
    obtain ⟨_,rfl⟩:=one hc
    exact .inl ⟨rfl,rfl,rfl⟩
  · have:=(one hi).2;cases this
  · have:=(one hj).2;cases this
  · have he':e=toQ ⟨0,0,0⟩:=by simpa [qs] using he
    subst he'
    refine ⟨0,rfl,by simp,fun c hc=>?_⟩
    have:=(one hc).2
    rw [this]
    decide
  · obtain ⟨rfl,_⟩:=one hi
    have:=(one hc).2
    refine ⟨toQ ⟨0,0,0⟩,by simp [qs],?_,rfl⟩
    rw [this];rfl
  · have:=(one hc).2
    rw [this]
    decide
  · have:=(one hj).2;cases this
  · have:=(one hj).2;cases this
  · obtain ⟨_,rfl⟩:=one hi;exact .init
theorem Lh {t:Tsk} (hs:Few t) (lim:Int):∃ r,Bq t lim=some (r,⟨0⟩)∧ResU t (max lim 0) r∧(r.verdict≠3→∀ lim',r.expanded≤lim'→Bq t lim'=some (r,⟨0⟩)):=by
  obtain ⟨reg,b1,b2,b3⟩:=HS hs.ok
  have unf:∀ l,Bq t l=bnd (lop (uniF t l) (([0]:List Int),[false],1,0,(⟨t,reg,some ⟨t⟩⟩:Spc),(⟨[(⟨0,0,0⟩:Itm)]⟩:BQ))) uniE:=fun l=>by
    rw [MS,b1,Az,if_neg (by simp),Az]
  obtain ⟨f,f1,f0,f2,f3,f4⟩:=u_all hs lim _ _ _ _ _ (NK b2 b3) (by dsimp only;omega) (Nat.lt_succ_self _)
  refine ⟨outU f,by rw [unf,f1,Az,f0],f2,fun hv lim' hl=>?_⟩
  rw [unf,f4 lim' hv hl,Az,f0]
end
section
open Go Go.RowKit
def bit (m v:Nat):Nat:=m / 2 ^ v % 2
def bits (n m:Nat):List Int:=(List.range n).map fun v=>((bit m v:Nat):Int)
def low (v:Nat):List Fct:=(List.range v).map fun u:Nat=>(⟨(u:Int),1⟩:Fct)
def effV (v:Nat):List Eff:=[(⟨low v ++ [⟨(v:Int),0⟩],(v:Int),1⟩:Eff),(⟨low v ++ [⟨(v:Int),1⟩],(v:Int),0⟩:Eff)]
def effN (n:Nat):List Eff:=(List.range n).flatMap effV
def opN (n:Nat):Opr:=⟨⟨#[]⟩,1,[],effN n⟩
def cntT (n:Nat):Tsk:=⟨List.replicate n 2,List.replicate n 0,low n,[opN n]⟩
def Carry (m v:Nat):Prop:=∀ u,u < v→bit m u=1
theorem Hu (m v:Nat):bit m v < 2:=Nat.mod_lt _ (by decide)
theorem FQ (m:Nat):∀ v,Carry m v↔m % 2 ^ v + 1=2 ^ v
  | 0=>by
    constructor
    · intro _;simp [Nat.mod_one]
    · intro _ u hu;omega
  | v + 1 => by
    have ih:=FQ m v
    have h1:m % 2 ^ (v + 1)=m % 2 ^ v + 2 ^ v * (m / 2 ^ v % 2):=Nat.mod_pow_succ
    have h2:=Hu m v
    have h3:m % 2 ^ v < 2 ^ v:=Nat.mod_lt _ (Nat.two_pow_pos v)
    have h4:2 ^ (v + 1)=2 ^ v * 2:=Nat.pow_succ 2 v
    unfold bit at h2
    constructor
    · intro h
      have hv:m / 2 ^ v % 2=1:=h v (by omega)
      have:=ih.1 fun u hu=>h u (by omega)
      rw [h1,hv,h4];omega
    · intro h
      rw [h1,h4] at h
      have hv:m / 2 ^ v % 2=1:=by
        rcases Nat.lt_or_ge (m / 2 ^ v % 2) 1 with hh|hh
        · have:m / 2 ^ v % 2=0:=by omega
          rw [this] at h;omega
        · omega
      rw [hv] at h
      have hc:=ih.2 (by omega)
      intro u hu
      by_cases e:u=v
      · subst e;exact hv
      · exact hc u (by omega)
theorem Mm (m c:Nat) (hc:0 < c):(m + 1) / c=m / c + if m % c + 1=c then 1 else 0:=by
  have h1:=Nat.div_add_mod m c
  have h2:=Nat.mod_lt m hc
  have:m + 1=(m % c + 1) + c * (m / c):=by omega
  rw [this,Nat.add_mul_div_left _ _ hc]
  by_cases h:m % c + 1=c
  · rw [if_pos h,h,Nat.div_self hc];omega
  · rw [if_neg h,Nat.div_eq_of_lt (by omega)];omega
open Classical in
theorem Mn (m v:Nat):bit (m + 1) v=if Carry m v then 1 - bit m v else bit m v:=by
  have h:=Mm m (2 ^ v) (Nat.two_pow_pos v)
  have h2:=Hu m v
  unfold bit at *
  rw [h]
  by_cases hc:Carry m v
  · rw [if_pos hc,if_pos ((FQ m v).1 hc)];omega
  · rw [if_neg hc,if_neg (fun e=>hc ((FQ m v).2 e))];omega
theorem HW {n m v:Nat} (h:v < n):(bits n m)[v]?=some (bit m v:Int):=by simp [bits,h]
theorem HX {n m u:Nat} (h:u < n) (x:Int):hasB (bits n m) ⟨(u:Int),x⟩=decide ((bit m u:Int)=x):=by
  unfold hasB
  simp [HW h]
theorem Jb {n m v:Nat} (h:v≤n):holdsB (low v) (bits n m)=true↔Carry m v:=by
  unfold holdsB low
  rw [List.all_eq_true]
  constructor
  · intro hh u hu
    have:=hh ⟨(u:Int),1⟩ (List.mem_map.2 ⟨u,List.mem_range.2 hu,rfl⟩)
    rw [HX (by omega)] at this
    simp at this
    omega
  · intro hh f hf
    obtain ⟨u,hu,rfl⟩:=List.mem_map.1 hf
    have hu':=List.mem_range.1 hu
    rw [HX (by omega)]
    have:=hh u hu'
    simp [this]
theorem Jc {n m v:Nat} (h:v < n) (x:Int):holdsB (low v ++ [⟨(v:Int),x⟩]) (bits n m)=true↔Carry m v∧(bit m v:Int)=x:=by
  have h1:=Jb (m:=m) (n:=n) (v:=v) (by omega)
  unfold holdsB at *
  rw [List.all_append,Bool.and_eq_true,h1]
  simp [HX h]
def mid (n m v:Nat):List Int:=(List.range n).map fun u=>((if u < v then bit (m + 1) u else bit m u:Nat):Int)
theorem KK {n m v u:Nat} (h:u < n):(mid n m v)[u]?=some ((if u < v then bit (m + 1) u else bit m u:Nat):Int):=by simp [mid,h]
theorem IK (n m v:Nat):(mid n m v).length=n:=by simp [mid]
theorem KL {n m v:Nat} (h:v < n) {x:Int} (hx:(bit (m + 1) v:Int)=x):(mid n m v).set v x=mid n m (v + 1):=by
  apply List.ext_getElem?
  intro u
  by_cases hu:u < n
  · rw [KK hu]
    by_cases e:v=u
    · subst e
      rw [List.getElem?_set_self (by rw [IK];exact h),if_pos (by omega),hx]
    · rw [List.getElem?_set_ne e,KK hu]
      by_cases hl:u < v
      · rw [if_pos hl,if_pos (by omega)]
      · rw [if_neg hl,if_neg (by omega)]
  · rw [List.getElem?_eq_none (by simp [IK];omega),List.getElem?_eq_none (by simp [IK];omega)]
theorem Mo {n m v:Nat} (h:bit (m + 1) v=bit m v):mid n m (v + 1)=mid n m v:=by
  unfold mid
  apply List.map_congr_left
  intro u _
  by_cases e:u=v
  · subst e;simp [h]
  · by_cases hl:u < v
    · rw [if_pos hl,if_pos (by omega)]
    · rw [if_neg hl,if_neg (by omega)]
theorem Ka {n m:Nat}:∀ v,v≤n→effsOn (bits n m) ((List.range v).flatMap effV) (bits n m)=mid n m v
  | 0,_=>by simp [effsOn,mid,bits]
  | v + 1,h=>by
    have ih:=Ka (n:=n) (m:=m) v (by omega)
    have hs:=Mn m v
    have hb:=Hu m v
    rw [List.range_succ,List.flatMap_append,Fe,ih]
    simp only [List.flatMap_cons,List.flatMap_nil,List.append_nil,effV,effsOn]
    have g0:=Jc (n:=n) (m:=m) (v:=v) (by omega) 0
    have g1:=Jc (n:=n) (m:=m) (v:=v) (by omega) 1
    by_cases hc:Carry m v
    · rw [if_pos hc] at hs
      rcases Nat.lt_or_ge (bit m v) 1 with h0|h0
      · have e0:bit m v=0:=by omega
        have n0:holdsB (low v ++ [⟨(v:Int),0⟩]) (bits n m)=true:=g0.2 ⟨hc,by rw [e0];rfl⟩
        have n1:¬ holdsB (low v ++ [⟨(v:Int),1⟩]) (bits n m)=true:=fun hh=>by have:=(g1.1 hh).2;omega
        rw [if_pos n0,if_neg n1,Int.toNat_natCast]
        exact KL (by omega) (by rw [hs,e0];rfl)
      · have e1:bit m v=1:=by omega
        have n0:¬ holdsB (low v ++ [⟨(v:Int),0⟩]) (bits n m)=true:=fun hh=>by have:=(g0.1 hh).2;omega
        have n1:holdsB (low v ++ [⟨(v:Int),1⟩]) (bits n m)=true:=g1.2 ⟨hc,by rw [e1];rfl⟩
        rw [if_neg n0,if_pos n1,Int.toNat_natCast]
        exact KL (by omega) (by rw [hs,e1];rfl)
    · rw [if_neg hc] at hs
      have n0:¬ holdsB (low v ++ [⟨(v:Int),0⟩]) (bits n m)=true:=fun hh=>hc (g0.1 hh).1
      have n1:¬ holdsB (low v ++ [⟨(v:Int),1⟩]) (bits n m)=true:=fun hh=>hc (g1.1 hh).1
      rw [if_neg n0,if_neg n1]
      exact (Mo hs).symm
theorem Jd (n m:Nat):succ (opN n) (bits n m)=bits n (m + 1):=by
  show effsOn (bits n m) ((List.range n).flatMap effV) (bits n m)=_
  rw [Ka n (Nat.le_refl _)]
  unfold mid bits
  apply List.map_congr_left
  intro u hu
  rw [if_pos (List.mem_range.1 hu)]
theorem Fc (n:Nat):(cntT n).init=bits n 0:=by
  show List.replicate n (0:Int)=_
  unfold bits
  apply List.ext_getElem?
  intro u
  by_cases hu:u < n
  · simp [hu,bit]
  · simp [hu]
theorem Hv {n m:Nat}:holdsB (cntT n).goal (bits n m)=true↔m % 2 ^ n + 1=2 ^ n:=(Jb (Nat.le_refl n)).trans (FQ m n)
theorem NL {n k:Nat} {o:Opr} (h:(cntT n).ops[k]?=some o):k=0∧o=opN n:=by
  have h':[opN n][k]?=some o:=h
  cases k with
  | zero=>simp at h';exact ⟨rfl,h'.symm⟩
  | succ k=>simp at h'
theorem Kb {n:Nat} {s p s':List Int} {C:Int} (h:PlanR (cntT n) s p s' C):∀ m,s=bits n m→s'=bits n (m + p.length)∧C=(p.length:Int):=by
  induction h with
  | nil=>intro m hm;exact ⟨by simpa using hm,rfl⟩
  | cons ho _ _ ih =>
    intro m hm
    obtain ⟨rfl,rfl⟩:=NL ho
    subst hm
    obtain ⟨h1,h2⟩:=ih (m + 1) (Jd n m)
    refine ⟨by rw [h1,List.length_cons];congr 1;omega,?_⟩
    rw [h2,List.length_cons]
    show (1:Int) + _=_
    omega
theorem GH {n:Nat}:∀ (k m:Nat),PlanR (cntT n) (bits n m) (List.replicate k 0) (bits n (m + k)) (k:Int)
  | 0,m=>.nil
  | k + 1,m=>by
    have:=PlanR.cons (t:=cntT n) (s:=bits n m) (k:=0) (o:=opN n) rfl rfl (by rw [Jd];exact GH k (m + 1))
    rw [List.replicate_succ]
    have e:m + 1 + k=m + (k + 1):=by omega
    rw [e] at this
    have e2:(opN n).cost + (k:Int)=((k + 1:Nat):Int):=by show (1:Int) + _=_;omega
    rw [e2] at this
    exact this
theorem MU {n m v:Nat} (h:v < n):bit (m % 2 ^ n) v=bit m v:=by
  have h1:=Nat.testBit_mod_two_pow m n v
  rw [Nat.testBit_eq_decide_div_mod_eq,Nat.testBit_eq_decide_div_mod_eq] at h1
  simp only [h,decide_true,Bool.true_and,decide_eq_decide] at h1
  have h2:=Hu (m % 2 ^ n) v
  have h3:=Hu m v
  unfold bit at *
  omega
theorem Mp (n m:Nat):bits n (m % 2 ^ n)=bits n m:=by
  unfold bits
  apply List.map_congr_left
  intro u hu
  rw [MU (List.mem_range.1 hu)]
theorem Mq {n m m':Nat} (hm:m < 2 ^ n) (hm':m' < 2 ^ n) (h:bits n m=bits n m'):m=m':=by
  apply Nat.eq_of_testBit_eq
  intro i
  by_cases hi:i < n
  · have h1:=HW (m:=m) hi
    rw [h,HW hi] at h1
    have h2:=Option.some.inj h1
    rw [Nat.testBit_eq_decide_div_mod_eq,Nat.testBit_eq_decide_div_mod_eq]
    unfold bit at h2
    congr 1
    have:m' / 2 ^ i % 2=m / 2 ^ i % 2:=by omega
    rw [this]
  · have hp:2 ^ n≤2 ^ i:=Nat.pow_le_pow_right (by decide) (by omega)
    rw [Nat.testBit_lt_two_pow (by omega),Nat.testBit_lt_two_pow (by omega)]
theorem LL {n:Nat} (h1:1≤n) (h2:n≤9):TaskOk (cntT n)∧(statesL (cntT n).vars).length≤512:=by
  have:n=1∨n=2∨n=3∨n=4∨n=5∨n=6∨n=7∨n=8∨n=9:=by omega
  rcases this with rfl|rfl|rfl|rfl|rfl|rfl|rfl|rfl|rfl<;>exact ⟨JV (by kernel_rfl),of_decide_eq_true (by kernel_rfl)⟩
end
section
open Go Go.RowKit
attribute [local irreducible] ewp owp hwp hwq hws Ev Evg Fn retPost loud loudS Res1
attribute [local irreducible] hwx loudX
noncomputable def CG (x0:Byt) (x1:Int):Option Bool :=
  bnd (CZ) fun q3=>if q3=true then bnd (remI x0.n 9) fun n10=>bnd (chkI (n10 + 1)) fun n13=>bnd (natI n13) fun N43=>bnd (rngN (ρ:=Bool) (fun (k34:Nat) (s32:(List Fct)×(List Eff)×(List Int)×(List Int)×(List Fct))=>bnd (appI 8 s32.2.2.1 ([2]:List Int)) fun u65=>bnd (appI 8 s32.2.2.2.1 ([0]:List Int)) fun u67=>bnd (appI 16 s32.2.2.2.2 [(⟨(k34:Int),1⟩:Fct)]) fun u69=>bnd (some (u65,u67,u69):Option ((List Int)×(List Int)×(List Fct))) fun y71=>bnd (rngN (ρ:=Ctl ((List Fct)×(List Eff)×(List Int)×(List Int)×(List Fct)) Bool) (fun (k704:Nat) (s702:(List Eff))=>bnd (chkI (1 - (k704:Int))) fun n719=>bnd (appI 16 ([]:List Fct) s32.1) fun u721=>bnd (appI 16 u721 [(⟨(k34:Int),(k704:Int)⟩:Fct)]) fun u723=>bnd (appI 40 s702 [(⟨u723,(k34:Int),n719⟩:Eff)]) fun u725=>some (.next u725)) 2 s32.2.1) fun res700=>fin res700 fun (s873:(List Eff))=>bnd (appI 16 s32.1 [(⟨(k34:Int),1⟩:Fct)]) fun u875=>some (.next (u875,s873,y71.1,y71.2.1,y71.2.2))) N43 (([]:List Fct),([]:List Eff),([]:List Int),([]:List Int),([]:List Fct))) fun res30=>fin res30 fun (s891:(List Fct)×(List Eff)×(List Int)×(List Int)×(List Fct))=>bnd (shlI 1 n13) fun n903=>bnd (chkI (n903 - 1)) fun n906=>bnd (BP (⟨s891.2.2.1,s891.2.2.2.1,s891.2.2.2.2,[(⟨(⟨#[]⟩:ByteArray),1,([]:List Fct),s891.2.1⟩:Opr)]⟩:Tsk) x1) fun q917=>bnd (Bq (⟨s891.2.2.1,s891.2.2.2.1,s891.2.2.2.2,[(⟨(⟨#[]⟩:ByteArray),1,([]:List Fct),s891.2.1⟩:Opr)]⟩:Tsk) x1) fun q944=>bnd (Be (⟨s891.2.2.1,s891.2.2.2.1,s891.2.2.2.2,[(⟨(⟨#[]⟩:ByteArray),1,([]:List Fct),s891.2.1⟩:Opr)]⟩:Tsk) x1) fun q971=>bnd (if q917.2.n≠0 then (some true) else (if q944.2.n≠0 then (some true) else (some false)):Option Bool) fun y984=>if y984=true then (some false) else (if x1 < n906 then (bnd (if q917.1.verdict=3 then (if q944.1.verdict=3 then (if q917.1.expanded=(max x1 0) then (bnd (EZ (⟨q971.2.n⟩:Err) 10) fun q1003=>if q1003=true then some true else some false) else (some false)) else (some false)) else (some false):Option Bool) fun y996=>some y996) else (bnd (if x1=n906 then (bnd (EZ (⟨q971.2.n⟩:Err) 10) fun q1019=>if q1019=true then if n906 < x1 then (if q971.2.n≠0 then (some true) else (bnd (chkI (n906 + 1)) fun n1028=>if q971.1≠n1028 then (some true) else (some false))) else (some false) else some true) else (if n906 < x1 then (if q971.2.n≠0 then (some true) else (bnd (chkI (n906 + 1)) fun n1034=>if q971.1≠n1034 then (some true) else (some false))) else (some false)):Option Bool) fun y1014=>if y1014=true then (some false) else (bnd (if q917.1.verdict=1 then (if q917.1.cost=n906 then (if (q917.1.plan.length:Int)=n906 then (if q917.1.expanded=n906 then (if q944.1.verdict=1 then (if q944.1.cost=n906 then (some true) else (some false)) else (some false)) else (some false)) else (some false)) else (some false)) else (some false):Option Bool) fun y1043=>some y1043))) else some false
theorem FF {w:World} {A:Nat→Prop} (hA:∀ k,A k→k < w.heap.size) {x0:Byt} {x1:Int} (rx1:inI64 x1) {r:Bool} (hm:CG x0 x1=some r) :
    Fn Try.prog 8 [(.int .u8 x0.n),(.int .i64 x1)] w fun v w'=>Ext w w'∧Vb w' (upA A w w') v r:=by
 obtain ⟨O,hB,hA0⟩:=enter hA
 refine AN Try.func8 rfl Try.ntmps8 rfl ?_
 unfold CG at hm
 refine Ah (Ae (o_as rfl rfl (o_z ?_)))
 refine Ah (Ah (Ae ?_))
 obtain ⟨q3,e4,hm⟩:=bs hm
 refine Cf (O:=O) (A:=All w) (R:=fun w' F v=>Vb w' F v q3) (Ji (fun _ h=>h)  e4) rfl rfl fun v9 w5 O6 S7 h8=>?_
 obtain rfl:=h8.bool
 cases q3
 case false =>
  replace hm:=iF hm
  refine o_nf rfl rfl (o_z ?_)
  refine Ar rfl (Ah (Ae (o_as rfl rfl (o_z ?_))))
  refine At ?_
  obtain rfl:=sm hm
  replace hB:=hB.st S7
  exact ret1v rfl (AF rfl) ⟨hB.ext,vBool⟩
 replace hm:=iT hm
 refine o_nt rfl rfl (o_z ?_)
 refine Aj rfl (Am (Ah (Ae (o_mv rfl rfl (o_cv (hr:=(x0.rng)) rfl rfl ?_)))))
 obtain ⟨n10,e11,hm⟩:=bs hm
 have r12:=Mw e11 (x0.rng)
 refine o_rmE (he:=e11) rfl rfl rfl ?_
 obtain ⟨n13,e14,hm⟩:=bs hm
 have r15:=(Bl e14)
 refine o_adE (he:=e14) rfl rfl rfl ?_
 refine o_as rfl rfl (o_z ?_)
 refine Ah (Ae (o_bd rfl rfl rfl ?_))
 refine BR 2 O6 rfl fun g16 w17 O18 S19 h20=>?_
 refine AL h20 rfl rfl rfl (Nat.le_of_ble_eq_true rfl) (by first|exact allOne rfl|simp [Value.cells,Value.oneCell',AJ]) fun w21 S22 h20=>?_
 replace h20:Lc 2 w21 O18 g16 55 [(.string (⟨#[]⟩:ByteArray)),(.int .i64 1),(.slice none 0 0),(.slice none 0 0)]:=h20
 refine o_z ?_
 refine Ah (Ae (o_bd rfl rfl rfl ?_))
 refine BR 3 O18 rfl fun g23 w24 O25 S26 h27=>?_
 refine AL h27 rfl rfl rfl (Nat.le_of_ble_eq_true rfl) (by first|exact allOne rfl|simp [Value.cells,Value.oneCell',AJ]) fun w28 S29 h27=>?_
 replace h27:Lc 3 w28 O25 g23 26 [(.slice none 0 0),(.slice none 0 0),(.slice none 0 0),(.slice none 0 0)]:=h27
 refine o_z ?_
 refine Ah (Ae (o_as rfl rfl (o_z ?_)))
 refine Ah (Ah (Ae (o_mv rfl rfl (o_mv rfl rfl (o_z ?_)))))
 obtain ⟨N43,hN44,hm⟩:=bs hm
 replace hN44:=Lr hN44
 obtain ⟨res30,hL31,hm⟩:=bs hm
 refine AT (aft res30 (fun (s32:(List Fct)×(List Eff)×(List Int)×(List Int)×(List Fct)) (x33:(Option Addr×Nat)×(Option Addr×Nat)×(Option Addr×Nat)×(Option Addr×Nat)×(Option Addr×Nat))=>[(1,(.int .i64 x1)),(5,(.int .i64 n13)),(6,(.pointer (some ⟨g16,0,none⟩))),(7,(.pointer (some ⟨g23,0,none⟩)))]) (fun s32 x33 w'=>∃ O':Lab,Bs w A w' O'∧Lc 2 w' O' g16 55 [(.string (⟨#[]⟩:ByteArray)),(.int .i64 1),(.slice none 0 0),(.slice x33.2.1.1 s32.2.1.length x33.2.1.2)]∧Rw 13 w' O' 59 (.slice x33.2.1.1 s32.2.1.length x33.2.1.2) s32.2.1∧Lc 3 w' O' g23 26 [(.slice x33.2.2.1.1 s32.2.2.1.length x33.2.2.1.2),(.slice x33.2.2.2.1.1 s32.2.2.2.1.length x33.2.2.2.1.2),(.slice x33.2.2.2.2.1 s32.2.2.2.2.length x33.2.2.2.2.2),(.slice none 0 0)]∧Rw 5 w' O' 3 (.slice x33.2.2.1.1 s32.2.2.1.length x33.2.2.1.2) s32.2.2.1∧Rw 7 w' O' 3 (.slice x33.2.2.2.1.1 s32.2.2.2.1.length x33.2.2.2.1.2) s32.2.2.2.1∧Rw 9 w' O' 57 (.slice x33.2.2.2.2.1 s32.2.2.2.2.length x33.2.2.2.2.2) s32.2.2.2.2)) ?_ ?_
 ·
  refine Al ?_
  replace hB:=((((hB.st S7).st S19).st S22).st S26).st S29
  replace h20:=(h20.st S26).st S29
  refine LR (σ:=(List Fct)×(List Eff)×(List Int)×(List Int)×(List Fct)) (X:=(Option Addr×Nat)×(Option Addr×Nat)×(Option Addr×Nat)×(Option Addr×Nat)×(Option Addr×Nat)) N43 hL31 (Ks hN44 r15) (fun (s32:(List Fct)×(List Eff)×(List Int)×(List Int)×(List Fct)) (x33:(Option Addr×Nat)×(Option Addr×Nat)×(Option Addr×Nat)×(Option Addr×Nat)×(Option Addr×Nat))=>[(1,(.int .i64 x1)),(5,(.int .i64 n13)),(6,(.pointer (some ⟨g16,0,none⟩))),(7,(.pointer (some ⟨g23,0,none⟩))),(8,(.slice x33.1.1 s32.1.length x33.1.2))]) _ (fun s32 x33 w'=>∃ O':Lab,Bs w A w' O'∧Lc 2 w' O' g16 55 [(.string (⟨#[]⟩:ByteArray)),(.int .i64 1),(.slice none 0 0),(.slice x33.2.1.1 s32.2.1.length x33.2.1.2)]∧Rw 13 w' O' 59 (.slice x33.2.1.1 s32.2.1.length x33.2.1.2) s32.2.1∧Lc 3 w' O' g23 26 [(.slice x33.2.2.1.1 s32.2.2.1.length x33.2.2.1.2),(.slice x33.2.2.2.1.1 s32.2.2.2.1.length x33.2.2.2.1.2),(.slice x33.2.2.2.2.1 s32.2.2.2.2.length x33.2.2.2.2.2),(.slice none 0 0)]∧Rw 5 w' O' 3 (.slice x33.2.2.1.1 s32.2.2.1.length x33.2.2.1.2) s32.2.2.1∧Rw 7 w' O' 3 (.slice x33.2.2.2.1.1 s32.2.2.2.1.length x33.2.2.2.1.2) s32.2.2.2.1∧Rw 9 w' O' 57 (.slice x33.2.2.2.2.1 s32.2.2.2.2.length x33.2.2.2.2.2) s32.2.2.2.2∧Rw 14 w' O' 57 (.slice x33.1.1 s32.1.length x33.1.2) s32.1) _ ((none,0),(none,0),(none,0),(none,0),(none,0)) ⟨O25,hB,h20,(Rw.nil 13 (by decide)),h27,(Rw.nil 5 (by decide)),(Rw.nil 7 (by decide)),(Rw.nil 9 (by decide)),(Rw.nil 14 (by decide))⟩ ⟨rfl,(congrArg (fun z=>some (Value.int .i64 z)) hN44),rfl,rfl,rfl,rfl,rfl,trivial⟩ (fun _ _=>⟨rfl,rfl⟩) (fun _ _=>⟨rfl,rfl,rfl,rfl,trivial⟩) (fun _ _ _ ⟨O',hB,h20,h57,h27,h59,h61,h63,h55⟩=>⟨O',hB,h20,h57,h27,h59,h61,h63⟩) ⟨rfl,rfl,rfl⟩ ⟨rfl,rfl⟩ ?_
  rintro k34 s32 x33 w36 cc38 hx39 ⟨O37,hB,h20,h57,h27,h59,h61,h63,h55⟩ hf40 hret41 hbrk42
  have rk34:inI64 (k34:Int):=rngKN hx39 (Ks hN44 r15)
  refine Ah (Ae (o_mv rfl rfl (o_as rfl rfl (o_z ?_))))
  refine Ah ?_
  obtain ⟨u65,e66,hf40⟩:=bs hf40
  obtain ⟨u67,e68,hf40⟩:=bs hf40
  obtain ⟨u69,e70,hf40⟩:=bs hf40
  obtain ⟨y71,hy72,hf40⟩:=bs hf40
  refine AT (fun l' w'=>∃ (x74:(Option Addr×Nat)×(Option Addr×Nat)×(Option Addr×Nat)) (O':Lab),subs l' [(1,(.int .i64 x1)),(5,(.int .i64 n13)),(6,(.pointer (some ⟨g16,0,none⟩))),(7,(.pointer (some ⟨g23,0,none⟩))),(8,(.slice x33.1.1 s32.1.length x33.1.2)),(9,(.int .i64 (k34:Int))),(26,(.int .i64 (N43:Int))),(27,(.int .i64 (k34:Int)))]∧Bs w A w' O'∧Lc 2 w' O' g16 55 [(.string (⟨#[]⟩:ByteArray)),(.int .i64 1),(.slice none 0 0),(.slice x33.2.1.1 s32.2.1.length x33.2.1.2)]∧Rw 13 w' O' 59 (.slice x33.2.1.1 s32.2.1.length x33.2.1.2) s32.2.1∧Lc 3 w' O' g23 26 [(.slice x74.1.1 y71.1.length x74.1.2),(.slice x74.2.1.1 y71.2.1.length x74.2.1.2),(.slice x74.2.2.1 y71.2.2.length x74.2.2.2),(.slice none 0 0)]∧Rw 5 w' O' 3 (.slice x74.1.1 y71.1.length x74.1.2) y71.1∧Rw 7 w' O' 3 (.slice x74.2.1.1 y71.2.1.length x74.2.1.2) y71.2.1∧Rw 9 w' O' 57 (.slice x74.2.2.1 y71.2.2.length x74.2.2.2) y71.2.2∧Rw 14 w' O' 57 (.slice x33.1.1 s32.1.length x33.1.2) s32.1) ?_ ?_
  ·
   refine BK [(2,[]),(3,[5]),(6,[]),(7,[7]),(12,[]),(13,[9]),(15,[3]),(17,[3])] O37 ?_
   refine x_pre (fuel:=18) [] [(0,true),(1,true)] (by kernel_rfl) rfl ?_
   refine h_fa rfl rfl rfl (h_ldC (hc:=fun w' ⟨O',hq⟩=>Blk.cell (i:=0) ((h27.st hq (by decide)).1) rfl) rfl rfl rfl ?_)
   refine AE ?_
   refine x_pre (fuel:=16) [5] [(4,true),(5,true)] (by kernel_rfl) rfl ?_
   refine h_fa rfl rfl rfl (h_ldC (hc:=fun w' ⟨O',hq⟩=>Blk.cell (i:=1) ((h27.st hq (by decide)).1) rfl) rfl rfl rfl ?_)
   refine AE ?_
   refine x_pre (fuel:=12) [5,7] [(8,true),(9,true),(10,true),(11,true)] (by kernel_rfl) rfl ?_
   refine h_fa rfl rfl rfl (h_ldC (hc:=fun w' ⟨O',hq⟩=>Blk.cell (i:=2) ((h27.st hq (by decide)).1) rfl) rfl rfl rfl ?_)
   refine h_mv rfl rfl rfl (h_bd rfl rfl rfl rfl ?_)
   refine AE ?_
   refine Ku (i:=2) (j:=6) (k:=12) (by kernel_rfl) rfl rfl rfl ?_ ?_ ?_
   ·
    refine AR 4 (by decide) O37 (xs:=(([2]:List Int):List Int)) rfl rfl rfl rfl ⟨(vInt (show inI64 (2) from by decide)),trivial⟩ (by decide) (by decide) rfl fun g81 w82 O83 S84 h85=>?_
    have hZ:=S84.lst [] (fun _ h=>h.elim)
    refine x_go [(3,[5]),(6,[]),(7,[7]),(12,[]),(13,[9]),(15,[3]),(17,[3])] hZ (by kernel_rfl) ?_
    refine Ku (i:=3) (j:=6) (k:=12) (by kernel_rfl) rfl rfl rfl ?_ ?_ ?_
    ·
     obtain ⟨e66,e87,e88⟩:=AO e66
     replace h59:=h59.st S84
     refine AQ rfl h59 (h85.rd) rfl rfl (by decide) e87 e88 rfl fun A89 c90 w91 O92 S93 h94=>?_
     rw [← e66] at h94 ⊢
     have hZ:=S93.lst [5] (fun _ h=>by cases h;decide)
     refine x_go [(6,[]),(7,[7]),(12,[]),(13,[9]),(15,[3]),(17,[3])] hZ (by kernel_rfl) ?_
     refine x_pre (fuel:=9) [7,9] [(14,true)] (by kernel_rfl) rfl ?_
     refine h_fa rfl rfl rfl (AE ?_)
     refine x_two (i:=6) (j:=12) (by kernel_rfl) rfl rfl ?_ ?_
     ·
      refine AR 6 (by decide) O92 (xs:=(([0]:List Int):List Int)) rfl rfl rfl rfl ⟨(vInt (show inI64 (0) from by decide)),trivial⟩ (by decide) (by decide) rfl fun g96 w97 O98 S99 h100=>?_
      have hZ:=S99.lst [] (fun _ h=>h.elim)
      refine x_go [(7,[7]),(12,[]),(13,[9]),(15,[3]),(17,[3])] hZ (by kernel_rfl) ?_
      refine x_two (i:=7) (j:=12) (by kernel_rfl) rfl rfl ?_ ?_
      ·
       obtain ⟨e68,e102,e103⟩:=AO e68
       replace h61:=((h61.st S84).st S93).st S99
       refine AQ rfl h61 (h100.rd) rfl rfl (by decide) e102 e103 rfl fun A104 c105 w106 O107 S108 h109=>?_
       rw [← e68] at h109 ⊢
       have hZ:=S108.lst [7] (fun _ h=>by cases h;decide)
       refine x_go [(12,[]),(13,[9]),(15,[3]),(17,[3])] hZ (by kernel_rfl) ?_
       refine x_one (i:=12) (by kernel_rfl) rfl ?_
       refine AR 8 (by decide) O107 (xs:=([(⟨(k34:Int),1⟩:Fct)]:List Fct)) rfl rfl rfl rfl ⟨(Vb.ofAgg (cs:=[(.int .i64 (k34:Int)),(.int .i64 1)]) (x:=(⟨(k34:Int),1⟩:Fct)) rfl ⟨rfl,rk34,(show inI64 (1) from by decide)⟩),trivial⟩ (by decide) (by decide) rfl fun g111 w112 O113 S114 h115=>?_
       have hZ:=S114.lst [] (fun _ h=>h.elim)
       refine x_go [(13,[9]),(15,[3]),(17,[3])] hZ (by kernel_rfl) ?_
       refine x_one (i:=13) (by kernel_rfl) rfl ?_
       obtain ⟨e70,e117,e118⟩:=AO e70
       replace h63:=((((h63.st S84).st S93).st S99).st S108).st S114
       refine AQ rfl h63 (h115.rd) rfl rfl (by decide) e117 e118 rfl fun A119 c120 w121 O122 S123 h124=>?_
       rw [← e70] at h124 ⊢
       have hZ:=S123.lst [9] (fun _ h=>by cases h;decide)
       refine x_go [(15,[3]),(17,[3])] hZ (by kernel_rfl) ?_
       refine x_one (i:=15) (by kernel_rfl) rfl ?_
       replace h27:=(((((h27.st S84).st S93).st S99).st S108).st S114).st S123
       refine AL h27 rfl rfl rfl (Nat.le_of_ble_eq_true rfl) (by first|exact allOne rfl|simp [Value.cells,Value.oneCell',AJ]) fun w126 S127 h27=>?_
       replace h27:Lc 3 w126 O122 g23 26 [(.slice A89 u65.length c90),(.slice x33.2.2.2.1.1 s32.2.2.2.1.length x33.2.2.2.1.2),(.slice x33.2.2.2.2.1 s32.2.2.2.2.length x33.2.2.2.2.2),(.slice none 0 0)]:=h27
       have hZ:=S127.lst [3] (fun _ h=>by cases h;decide)
       refine x_go [(17,[3])] hZ (by kernel_rfl) ?_
       refine x_pre (fuel:=3) [] [(16,true)] (by kernel_rfl) rfl ?_
       refine h_fa rfl rfl rfl (AE ?_)
       refine x_one (i:=17) (by kernel_rfl) rfl ?_
       refine AL h27 rfl rfl rfl (Nat.le_of_ble_eq_true rfl) (by first|exact allOne rfl|simp [Value.cells,Value.oneCell',AJ]) fun w128 S129 h27=>?_
       replace h27:Lc 3 w128 O122 g23 26 [(.slice A89 u65.length c90),(.slice A104 u67.length c105),(.slice x33.2.2.2.2.1 s32.2.2.2.2.length x33.2.2.2.2.2),(.slice none 0 0)]:=h27
       have hZ:=S129.lst [3] (fun _ h=>by cases h;decide)
       refine x_go [] hZ (by kernel_rfl) ?_
       refine x_pre (fuel:=1) [] [(18,true)] (by kernel_rfl) rfl ?_
       refine h_fa rfl rfl rfl (AE ?_)
       refine x_one (i:=19) (by kernel_rfl) rfl ?_
       refine AL h27 rfl rfl rfl (Nat.le_of_ble_eq_true rfl) (by first|exact allOne rfl|simp [Value.cells,Value.oneCell',AJ]) fun w130 S131 h27=>?_
       replace h27:Lc 3 w130 O122 g23 26 [(.slice A89 u65.length c90),(.slice A104 u67.length c105),(.slice A119 u69.length c120),(.slice none 0 0)]:=h27
       refine x_end (by kernel_rfl) ?_
       refine x_nil (by kernel_rfl) ?_
       obtain rfl:=sm hy72
       replace hB:=((((((((hB.st S84).st S93).st S99).st S108).st S114).st S123).st S127).st S129).st S131
       replace h20:=((((((((h20.st S84).st S93).st S99).st S108).st S114).st S123).st S127).st S129).st S131
       replace h55:=((((((((h55.st S84).st S93).st S99).st S108).st S114).st S123).st S127).st S129).st S131
       replace h57:=((((((((h57.st S84).st S93).st S99).st S108).st S114).st S123).st S127).st S129).st S131
       replace h94:=((((((h94.st S99).st S108).st S114).st S123).st S127).st S129).st S131
       replace h109:=((((h109.st S114).st S123).st S127).st S129).st S131
       replace h124:=((h124.st S127).st S129).st S131
       exact ⟨((A89,c90),(A104,c105),(A119,c120)),_,⟨rfl,rfl,rfl,rfl,rfl,rfl,rfl,rfl,trivial⟩,hB,h20,h57,h27,h94,h109,h124,h55⟩
      ·
       refine AR 8 (by decide) O98 (xs:=([(⟨(k34:Int),1⟩:Fct)]:List Fct)) rfl rfl rfl rfl ⟨(Vb.ofAgg (cs:=[(.int .i64 (k34:Int)),(.int .i64 1)]) (x:=(⟨(k34:Int),1⟩:Fct)) rfl ⟨rfl,rk34,(show inI64 (1) from by decide)⟩),trivial⟩ (by decide) (by decide) rfl fun g132 w133 O134 S135 h136=>?_
       have hZ:=S135.lst [] (fun _ h=>h.elim)
       refine x_go [(7,[7]),(13,[9]),(15,[3]),(17,[3])] hZ (by kernel_rfl) ?_
       refine x_one (i:=7) (by kernel_rfl) rfl ?_
       obtain ⟨e68,e138,e139⟩:=AO e68
       replace h61:=(((h61.st S84).st S93).st S99).st S135
       replace h100:=h100.st S135
       refine AQ rfl h61 (h100.rd) rfl rfl (by decide) e138 e139 rfl fun A140 c141 w142 O143 S144 h145=>?_
       rw [← e68] at h145 ⊢
       have hZ:=S144.lst [7] (fun _ h=>by cases h;decide)
       refine x_go [(13,[9]),(15,[3]),(17,[3])] hZ (by kernel_rfl) ?_
       refine x_one (i:=13) (by kernel_rfl) rfl ?_
       obtain ⟨e70,e147,e148⟩:=AO e70
       replace h63:=((((h63.st S84).st S93).st S99).st S135).st S144
       replace h136:=h136.st S144
       refine AQ rfl h63 (h136.rd) rfl rfl (by decide) e147 e148 rfl fun A149 c150 w151 O152 S153 h154=>?_
       rw [← e70] at h154 ⊢
       have hZ:=S153.lst [9] (fun _ h=>by cases h;decide)
       refine x_go [(15,[3]),(17,[3])] hZ (by kernel_rfl) ?_
       refine x_one (i:=15) (by kernel_rfl) rfl ?_
       replace h27:=(((((h27.st S84).st S93).st S99).st S135).st S144).st S153
       refine AL h27 rfl rfl rfl (Nat.le_of_ble_eq_true rfl) (by first|exact allOne rfl|simp [Value.cells,Value.oneCell',AJ]) fun w156 S157 h27=>?_
       replace h27:Lc 3 w156 O152 g23 26 [(.slice A89 u65.length c90),(.slice x33.2.2.2.1.1 s32.2.2.2.1.length x33.2.2.2.1.2),(.slice x33.2.2.2.2.1 s32.2.2.2.2.length x33.2.2.2.2.2),(.slice none 0 0)]:=h27
       have hZ:=S157.lst [3] (fun _ h=>by cases h;decide)
       refine x_go [(17,[3])] hZ (by kernel_rfl) ?_
       refine x_pre (fuel:=3) [] [(16,true)] (by kernel_rfl) rfl ?_
       refine h_fa rfl rfl rfl (AE ?_)
       refine x_one (i:=17) (by kernel_rfl) rfl ?_
       refine AL h27 rfl rfl rfl (Nat.le_of_ble_eq_true rfl) (by first|exact allOne rfl|simp [Value.cells,Value.oneCell',AJ]) fun w158 S159 h27=>?_
       replace h27:Lc 3 w158 O152 g23 26 [(.slice A89 u65.length c90),(.slice A140 u67.length c141),(.slice x33.2.2.2.2.1 s32.2.2.2.2.length x33.2.2.2.2.2),(.slice none 0 0)]:=h27
       have hZ:=S159.lst [3] (fun _ h=>by cases h;decide)
       refine x_go [] hZ (by kernel_rfl) ?_
       refine x_pre (fuel:=1) [] [(18,true)] (by kernel_rfl) rfl ?_
       refine h_fa rfl rfl rfl (AE ?_)
       refine x_one (i:=19) (by kernel_rfl) rfl ?_
       refine AL h27 rfl rfl rfl (Nat.le_of_ble_eq_true rfl) (by first|exact allOne rfl|simp [Value.cells,Value.oneCell',AJ]) fun w160 S161 h27=>?_
       replace h27:Lc 3 w160 O152 g23 26 [(.slice A89 u65.length c90),(.slice A140 u67.length c141),(.slice A149 u69.length c150),(.slice none 0 0)]:=h27
       refine x_end (by kernel_rfl) ?_
       refine x_nil (by kernel_rfl) ?_
       obtain rfl:=sm hy72
       replace hB:=((((((((hB.st S84).st S93).st S99).st S135).st S144).st S153).st S157).st S159).st S161
       replace h20:=((((((((h20.st S84).st S93).st S99).st S135).st S144).st S153).st S157).st S159).st S161
       replace h55:=((((((((h55.st S84).st S93).st S99).st S135).st S144).st S153).st S157).st S159).st S161
       replace h57:=((((((((h57.st S84).st S93).st S99).st S135).st S144).st S153).st S157).st S159).st S161
       replace h94:=((((((h94.st S99).st S135).st S144).st S153).st S157).st S159).st S161
       replace h145:=(((h145.st S153).st S157).st S159).st S161
       replace h154:=((h154.st S157).st S159).st S161
       exact ⟨((A89,c90),(A140,c141),(A149,c150)),_,⟨rfl,rfl,rfl,rfl,rfl,rfl,rfl,rfl,trivial⟩,hB,h20,h57,h27,h94,h145,h154,h55⟩
     ·
      refine AR 8 (by decide) O92 (xs:=([(⟨(k34:Int),1⟩:Fct)]:List Fct)) rfl rfl rfl rfl ⟨(Vb.ofAgg (cs:=[(.int .i64 (k34:Int)),(.int .i64 1)]) (x:=(⟨(k34:Int),1⟩:Fct)) rfl ⟨rfl,rk34,(show inI64 (1) from by decide)⟩),trivial⟩ (by decide) (by decide) rfl fun g162 w163 O164 S165 h166=>?_
      have hZ:=S165.lst [] (fun _ h=>h.elim)
      refine x_go [(6,[]),(7,[7]),(13,[9]),(15,[3]),(17,[3])] hZ (by kernel_rfl) ?_
      refine x_one (i:=6) (by kernel_rfl) rfl ?_
      refine AR 6 (by decide) O164 (xs:=(([0]:List Int):List Int)) rfl rfl rfl rfl ⟨(vInt (show inI64 (0) from by decide)),trivial⟩ (by decide) (by decide) rfl fun g168 w169 O170 S171 h172=>?_
      have hZ:=S171.lst [] (fun _ h=>h.elim)
      refine x_go [(7,[7]),(13,[9]),(15,[3]),(17,[3])] hZ (by kernel_rfl) ?_
      refine x_one (i:=7) (by kernel_rfl) rfl ?_
      obtain ⟨e68,e174,e175⟩:=AO e68
      replace h61:=(((h61.st S84).st S93).st S165).st S171
      refine AQ rfl h61 (h172.rd) rfl rfl (by decide) e174 e175 rfl fun A176 c177 w178 O179 S180 h181=>?_
      rw [← e68] at h181 ⊢
      have hZ:=S180.lst [7] (fun _ h=>by cases h;decide)
      refine x_go [(13,[9]),(15,[3]),(17,[3])] hZ (by kernel_rfl) ?_
      refine x_one (i:=13) (by kernel_rfl) rfl ?_
      obtain ⟨e70,e183,e184⟩:=AO e70
      replace h63:=((((h63.st S84).st S93).st S165).st S171).st S180
      replace h166:=(h166.st S171).st S180
      refine AQ rfl h63 (h166.rd) rfl rfl (by decide) e183 e184 rfl fun A185 c186 w187 O188 S189 h190=>?_
      rw [← e70] at h190 ⊢
      have hZ:=S189.lst [9] (fun _ h=>by cases h;decide)
      refine x_go [(15,[3]),(17,[3])] hZ (by kernel_rfl) ?_
      refine x_one (i:=15) (by kernel_rfl) rfl ?_
      replace h27:=(((((h27.st S84).st S93).st S165).st S171).st S180).st S189
      refine AL h27 rfl rfl rfl (Nat.le_of_ble_eq_true rfl) (by first|exact allOne rfl|simp [Value.cells,Value.oneCell',AJ]) fun w192 S193 h27=>?_
      replace h27:Lc 3 w192 O188 g23 26 [(.slice A89 u65.length c90),(.slice x33.2.2.2.1.1 s32.2.2.2.1.length x33.2.2.2.1.2),(.slice x33.2.2.2.2.1 s32.2.2.2.2.length x33.2.2.2.2.2),(.slice none 0 0)]:=h27
      have hZ:=S193.lst [3] (fun _ h=>by cases h;decide)
      refine x_go [(17,[3])] hZ (by kernel_rfl) ?_
      refine x_pre (fuel:=3) [] [(16,true)] (by kernel_rfl) rfl ?_
      refine h_fa rfl rfl rfl (AE ?_)
      refine x_one (i:=17) (by kernel_rfl) rfl ?_
      refine AL h27 rfl rfl rfl (Nat.le_of_ble_eq_true rfl) (by first|exact allOne rfl|simp [Value.cells,Value.oneCell',AJ]) fun w194 S195 h27=>?_
      replace h27:Lc 3 w194 O188 g23 26 [(.slice A89 u65.length c90),(.slice A176 u67.length c177),(.slice x33.2.2.2.2.1 s32.2.2.2.2.length x33.2.2.2.2.2),(.slice none 0 0)]:=h27
      have hZ:=S195.lst [3] (fun _ h=>by cases h;decide)
      refine x_go [] hZ (by kernel_rfl) ?_
      refine x_pre (fuel:=1) [] [(18,true)] (by kernel_rfl) rfl ?_
      refine h_fa rfl rfl rfl (AE ?_)
      refine x_one (i:=19) (by kernel_rfl) rfl ?_
      refine AL h27 rfl rfl rfl (Nat.le_of_ble_eq_true rfl) (by first|exact allOne rfl|simp [Value.cells,Value.oneCell',AJ]) fun w196 S197 h27=>?_
      replace h27:Lc 3 w196 O188 g23 26 [(.slice A89 u65.length c90),(.slice A176 u67.length c177),(.slice A185 u69.length c186),(.slice none 0 0)]:=h27
      refine x_end (by kernel_rfl) ?_
      refine x_nil (by kernel_rfl) ?_
      obtain rfl:=sm hy72
      replace hB:=((((((((hB.st S84).st S93).st S165).st S171).st S180).st S189).st S193).st S195).st S197
      replace h20:=((((((((h20.st S84).st S93).st S165).st S171).st S180).st S189).st S193).st S195).st S197
      replace h55:=((((((((h55.st S84).st S93).st S165).st S171).st S180).st S189).st S193).st S195).st S197
      replace h57:=((((((((h57.st S84).st S93).st S165).st S171).st S180).st S189).st S193).st S195).st S197
      replace h94:=((((((h94.st S165).st S171).st S180).st S189).st S193).st S195).st S197
      replace h181:=(((h181.st S189).st S193).st S195).st S197
      replace h190:=((h190.st S193).st S195).st S197
      exact ⟨((A89,c90),(A176,c177),(A185,c186)),_,⟨rfl,rfl,rfl,rfl,rfl,rfl,rfl,rfl,trivial⟩,hB,h20,h57,h27,h94,h181,h190,h55⟩
    ·
     refine AR 6 (by decide) O83 (xs:=(([0]:List Int):List Int)) rfl rfl rfl rfl ⟨(vInt (show inI64 (0) from by decide)),trivial⟩ (by decide) (by decide) rfl fun g198 w199 O200 S201 h202=>?_
     have hZ:=S201.lst [] (fun _ h=>h.elim)
     refine x_go [(3,[5]),(7,[7]),(12,[]),(13,[9]),(15,[3]),(17,[3])] hZ (by kernel_rfl) ?_
     refine x_two (i:=3) (j:=12) (by kernel_rfl) rfl rfl ?_ ?_
     ·
      obtain ⟨e66,e204,e205⟩:=AO e66
      replace h59:=(h59.st S84).st S201
      replace h85:=h85.st S201
      refine AQ rfl h59 (h85.rd) rfl rfl (by decide) e204 e205 rfl fun A206 c207 w208 O209 S210 h211=>?_
      rw [← e66] at h211 ⊢
      have hZ:=S210.lst [5] (fun _ h=>by cases h;decide)
      refine x_go [(7,[7]),(12,[]),(13,[9]),(15,[3]),(17,[3])] hZ (by kernel_rfl) ?_
      refine x_pre (fuel:=8) [7,9] [(14,true)] (by kernel_rfl) rfl ?_
      refine h_fa rfl rfl rfl (AE ?_)
      refine x_two (i:=7) (j:=12) (by kernel_rfl) rfl rfl ?_ ?_
      ·
       obtain ⟨e68,e213,e214⟩:=AO e68
       replace h61:=((h61.st S84).st S201).st S210
       replace h202:=h202.st S210
       refine AQ rfl h61 (h202.rd) rfl rfl (by decide) e213 e214 rfl fun A215 c216 w217 O218 S219 h220=>?_
       rw [← e68] at h220 ⊢
       have hZ:=S219.lst [7] (fun _ h=>by cases h;decide)
       refine x_go [(12,[]),(13,[9]),(15,[3]),(17,[3])] hZ (by kernel_rfl) ?_
       refine x_one (i:=12) (by kernel_rfl) rfl ?_
       refine AR 8 (by decide) O218 (xs:=([(⟨(k34:Int),1⟩:Fct)]:List Fct)) rfl rfl rfl rfl ⟨(Vb.ofAgg (cs:=[(.int .i64 (k34:Int)),(.int .i64 1)]) (x:=(⟨(k34:Int),1⟩:Fct)) rfl ⟨rfl,rk34,(show inI64 (1) from by decide)⟩),trivial⟩ (by decide) (by decide) rfl fun g222 w223 O224 S225 h226=>?_
       have hZ:=S225.lst [] (fun _ h=>h.elim)
       refine x_go [(13,[9]),(15,[3]),(17,[3])] hZ (by kernel_rfl) ?_
       refine x_one (i:=13) (by kernel_rfl) rfl ?_
       obtain ⟨e70,e228,e229⟩:=AO e70
       replace h63:=((((h63.st S84).st S201).st S210).st S219).st S225
       refine AQ rfl h63 (h226.rd) rfl rfl (by decide) e228 e229 rfl fun A230 c231 w232 O233 S234 h235=>?_
       rw [← e70] at h235 ⊢
       have hZ:=S234.lst [9] (fun _ h=>by cases h;decide)
       refine x_go [(15,[3]),(17,[3])] hZ (by kernel_rfl) ?_
       refine x_one (i:=15) (by kernel_rfl) rfl ?_
       replace h27:=(((((h27.st S84).st S201).st S210).st S219).st S225).st S234
       refine AL h27 rfl rfl rfl (Nat.le_of_ble_eq_true rfl) (by first|exact allOne rfl|simp [Value.cells,Value.oneCell',AJ]) fun w237 S238 h27=>?_
       replace h27:Lc 3 w237 O233 g23 26 [(.slice A206 u65.length c207),(.slice x33.2.2.2.1.1 s32.2.2.2.1.length x33.2.2.2.1.2),(.slice x33.2.2.2.2.1 s32.2.2.2.2.length x33.2.2.2.2.2),(.slice none 0 0)]:=h27
       have hZ:=S238.lst [3] (fun _ h=>by cases h;decide)
       refine x_go [(17,[3])] hZ (by kernel_rfl) ?_
       refine x_pre (fuel:=3) [] [(16,true)] (by kernel_rfl) rfl ?_
       refine h_fa rfl rfl rfl (AE ?_)
       refine x_one (i:=17) (by kernel_rfl) rfl ?_
       refine AL h27 rfl rfl rfl (Nat.le_of_ble_eq_true rfl) (by first|exact allOne rfl|simp [Value.cells,Value.oneCell',AJ]) fun w239 S240 h27=>?_
       replace h27:Lc 3 w239 O233 g23 26 [(.slice A206 u65.length c207),(.slice A215 u67.length c216),(.slice x33.2.2.2.2.1 s32.2.2.2.2.length x33.2.2.2.2.2),(.slice none 0 0)]:=h27
       have hZ:=S240.lst [3] (fun _ h=>by cases h;decide)
       refine x_go [] hZ (by kernel_rfl) ?_
       refine x_pre (fuel:=1) [] [(18,true)] (by kernel_rfl) rfl ?_
       refine h_fa rfl rfl rfl (AE ?_)
       refine x_one (i:=19) (by kernel_rfl) rfl ?_
       refine AL h27 rfl rfl rfl (Nat.le_of_ble_eq_true rfl) (by first|exact allOne rfl|simp [Value.cells,Value.oneCell',AJ]) fun w241 S242 h27=>?_
       replace h27:Lc 3 w241 O233 g23 26 [(.slice A206 u65.length c207),(.slice A215 u67.length c216),(.slice A230 u69.length c231),(.slice none 0 0)]:=h27
       refine x_end (by kernel_rfl) ?_
       refine x_nil (by kernel_rfl) ?_
       obtain rfl:=sm hy72
       replace hB:=((((((((hB.st S84).st S201).st S210).st S219).st S225).st S234).st S238).st S240).st S242
       replace h20:=((((((((h20.st S84).st S201).st S210).st S219).st S225).st S234).st S238).st S240).st S242
       replace h55:=((((((((h55.st S84).st S201).st S210).st S219).st S225).st S234).st S238).st S240).st S242
       replace h57:=((((((((h57.st S84).st S201).st S210).st S219).st S225).st S234).st S238).st S240).st S242
       replace h211:=(((((h211.st S219).st S225).st S234).st S238).st S240).st S242
       replace h220:=((((h220.st S225).st S234).st S238).st S240).st S242
       replace h235:=((h235.st S238).st S240).st S242
       exact ⟨((A206,c207),(A215,c216),(A230,c231)),_,⟨rfl,rfl,rfl,rfl,rfl,rfl,rfl,rfl,trivial⟩,hB,h20,h57,h27,h211,h220,h235,h55⟩
      ·
       refine AR 8 (by decide) O209 (xs:=([(⟨(k34:Int),1⟩:Fct)]:List Fct)) rfl rfl rfl rfl ⟨(Vb.ofAgg (cs:=[(.int .i64 (k34:Int)),(.int .i64 1)]) (x:=(⟨(k34:Int),1⟩:Fct)) rfl ⟨rfl,rk34,(show inI64 (1) from by decide)⟩),trivial⟩ (by decide) (by decide) rfl fun g243 w244 O245 S246 h247=>?_
       have hZ:=S246.lst [] (fun _ h=>h.elim)
       refine x_go [(7,[7]),(13,[9]),(15,[3]),(17,[3])] hZ (by kernel_rfl) ?_
       refine x_one (i:=7) (by kernel_rfl) rfl ?_
       obtain ⟨e68,e249,e250⟩:=AO e68
       replace h61:=(((h61.st S84).st S201).st S210).st S246
       replace h202:=(h202.st S210).st S246
       refine AQ rfl h61 (h202.rd) rfl rfl (by decide) e249 e250 rfl fun A251 c252 w253 O254 S255 h256=>?_
       rw [← e68] at h256 ⊢
       have hZ:=S255.lst [7] (fun _ h=>by cases h;decide)
       refine x_go [(13,[9]),(15,[3]),(17,[3])] hZ (by kernel_rfl) ?_
       refine x_one (i:=13) (by kernel_rfl) rfl ?_
       obtain ⟨e70,e258,e259⟩:=AO e70
       replace h63:=((((h63.st S84).st S201).st S210).st S246).st S255
       replace h247:=h247.st S255
       refine AQ rfl h63 (h247.rd) rfl rfl (by decide) e258 e259 rfl fun A260 c261 w262 O263 S264 h265=>?_
       rw [← e70] at h265 ⊢
       have hZ:=S264.lst [9] (fun _ h=>by cases h;decide)
       refine x_go [(15,[3]),(17,[3])] hZ (by kernel_rfl) ?_
       refine x_one (i:=15) (by kernel_rfl) rfl ?_
       replace h27:=(((((h27.st S84).st S201).st S210).st S246).st S255).st S264
       refine AL h27 rfl rfl rfl (Nat.le_of_ble_eq_true rfl) (by first|exact allOne rfl|simp [Value.cells,Value.oneCell',AJ]) fun w267 S268 h27=>?_
       replace h27:Lc 3 w267 O263 g23 26 [(.slice A206 u65.length c207),(.slice x33.2.2.2.1.1 s32.2.2.2.1.length x33.2.2.2.1.2),(.slice x33.2.2.2.2.1 s32.2.2.2.2.length x33.2.2.2.2.2),(.slice none 0 0)]:=h27
       have hZ:=S268.lst [3] (fun _ h=>by cases h;decide)
       refine x_go [(17,[3])] hZ (by kernel_rfl) ?_
       refine x_pre (fuel:=3) [] [(16,true)] (by kernel_rfl) rfl ?_
       refine h_fa rfl rfl rfl (AE ?_)
       refine x_one (i:=17) (by kernel_rfl) rfl ?_
       refine AL h27 rfl rfl rfl (Nat.le_of_ble_eq_true rfl) (by first|exact allOne rfl|simp [Value.cells,Value.oneCell',AJ]) fun w269 S270 h27=>?_
       replace h27:Lc 3 w269 O263 g23 26 [(.slice A206 u65.length c207),(.slice A251 u67.length c252),(.slice x33.2.2.2.2.1 s32.2.2.2.2.length x33.2.2.2.2.2),(.slice none 0 0)]:=h27
       have hZ:=S270.lst [3] (fun _ h=>by cases h;decide)
       refine x_go [] hZ (by kernel_rfl) ?_
       refine x_pre (fuel:=1) [] [(18,true)] (by kernel_rfl) rfl ?_
       refine h_fa rfl rfl rfl (AE ?_)
       refine x_one (i:=19) (by kernel_rfl) rfl ?_
       refine AL h27 rfl rfl rfl (Nat.le_of_ble_eq_true rfl) (by first|exact allOne rfl|simp [Value.cells,Value.oneCell',AJ]) fun w271 S272 h27=>?_
       replace h27:Lc 3 w271 O263 g23 26 [(.slice A206 u65.length c207),(.slice A251 u67.length c252),(.slice A260 u69.length c261),(.slice none 0 0)]:=h27
       refine x_end (by kernel_rfl) ?_
       refine x_nil (by kernel_rfl) ?_
       obtain rfl:=sm hy72
       replace hB:=((((((((hB.st S84).st S201).st S210).st S246).st S255).st S264).st S268).st S270).st S272
       replace h20:=((((((((h20.st S84).st S201).st S210).st S246).st S255).st S264).st S268).st S270).st S272
       replace h55:=((((((((h55.st S84).st S201).st S210).st S246).st S255).st S264).st S268).st S270).st S272
       replace h57:=((((((((h57.st S84).st S201).st S210).st S246).st S255).st S264).st S268).st S270).st S272
       replace h211:=(((((h211.st S246).st S255).st S264).st S268).st S270).st S272
       replace h256:=(((h256.st S264).st S268).st S270).st S272
       replace h265:=((h265.st S268).st S270).st S272
       exact ⟨((A206,c207),(A251,c252),(A260,c261)),_,⟨rfl,rfl,rfl,rfl,rfl,rfl,rfl,rfl,trivial⟩,hB,h20,h57,h27,h211,h256,h265,h55⟩
     ·
      refine AR 8 (by decide) O200 (xs:=([(⟨(k34:Int),1⟩:Fct)]:List Fct)) rfl rfl rfl rfl ⟨(Vb.ofAgg (cs:=[(.int .i64 (k34:Int)),(.int .i64 1)]) (x:=(⟨(k34:Int),1⟩:Fct)) rfl ⟨rfl,rk34,(show inI64 (1) from by decide)⟩),trivial⟩ (by decide) (by decide) rfl fun g273 w274 O275 S276 h277=>?_
      have hZ:=S276.lst [] (fun _ h=>h.elim)
      refine x_go [(3,[5]),(7,[7]),(13,[9]),(15,[3]),(17,[3])] hZ (by kernel_rfl) ?_
      refine x_one (i:=3) (by kernel_rfl) rfl ?_
      obtain ⟨e66,e279,e280⟩:=AO e66
      replace h59:=((h59.st S84).st S201).st S276
      replace h85:=(h85.st S201).st S276
      refine AQ rfl h59 (h85.rd) rfl rfl (by decide) e279 e280 rfl fun A281 c282 w283 O284 S285 h286=>?_
      rw [← e66] at h286 ⊢
      have hZ:=S285.lst [5] (fun _ h=>by cases h;decide)
      refine x_go [(7,[7]),(13,[9]),(15,[3]),(17,[3])] hZ (by kernel_rfl) ?_
      refine x_pre (fuel:=7) [7,9] [(14,true)] (by kernel_rfl) rfl ?_
      refine h_fa rfl rfl rfl (AE ?_)
      refine x_one (i:=7) (by kernel_rfl) rfl ?_
      obtain ⟨e68,e288,e289⟩:=AO e68
      replace h61:=(((h61.st S84).st S201).st S276).st S285
      replace h202:=(h202.st S276).st S285
      refine AQ rfl h61 (h202.rd) rfl rfl (by decide) e288 e289 rfl fun A290 c291 w292 O293 S294 h295=>?_
      rw [← e68] at h295 ⊢
      have hZ:=S294.lst [7] (fun _ h=>by cases h;decide)
      refine x_go [(13,[9]),(15,[3]),(17,[3])] hZ (by kernel_rfl) ?_
      refine x_one (i:=13) (by kernel_rfl) rfl ?_
      obtain ⟨e70,e297,e298⟩:=AO e70
      replace h63:=((((h63.st S84).st S201).st S276).st S285).st S294
      replace h277:=(h277.st S285).st S294
      refine AQ rfl h63 (h277.rd) rfl rfl (by decide) e297 e298 rfl fun A299 c300 w301 O302 S303 h304=>?_
      rw [← e70] at h304 ⊢
      have hZ:=S303.lst [9] (fun _ h=>by cases h;decide)
      refine x_go [(15,[3]),(17,[3])] hZ (by kernel_rfl) ?_
      refine x_one (i:=15) (by kernel_rfl) rfl ?_
      replace h27:=(((((h27.st S84).st S201).st S276).st S285).st S294).st S303
      refine AL h27 rfl rfl rfl (Nat.le_of_ble_eq_true rfl) (by first|exact allOne rfl|simp [Value.cells,Value.oneCell',AJ]) fun w306 S307 h27=>?_
      replace h27:Lc 3 w306 O302 g23 26 [(.slice A281 u65.length c282),(.slice x33.2.2.2.1.1 s32.2.2.2.1.length x33.2.2.2.1.2),(.slice x33.2.2.2.2.1 s32.2.2.2.2.length x33.2.2.2.2.2),(.slice none 0 0)]:=h27
      have hZ:=S307.lst [3] (fun _ h=>by cases h;decide)
      refine x_go [(17,[3])] hZ (by kernel_rfl) ?_
      refine x_pre (fuel:=3) [] [(16,true)] (by kernel_rfl) rfl ?_
      refine h_fa rfl rfl rfl (AE ?_)
      refine x_one (i:=17) (by kernel_rfl) rfl ?_
      refine AL h27 rfl rfl rfl (Nat.le_of_ble_eq_true rfl) (by first|exact allOne rfl|simp [Value.cells,Value.oneCell',AJ]) fun w308 S309 h27=>?_
      replace h27:Lc 3 w308 O302 g23 26 [(.slice A281 u65.length c282),(.slice A290 u67.length c291),(.slice x33.2.2.2.2.1 s32.2.2.2.2.length x33.2.2.2.2.2),(.slice none 0 0)]:=h27
      have hZ:=S309.lst [3] (fun _ h=>by cases h;decide)
      refine x_go [] hZ (by kernel_rfl) ?_
      refine x_pre (fuel:=1) [] [(18,true)] (by kernel_rfl) rfl ?_
      refine h_fa rfl rfl rfl (AE ?_)
      refine x_one (i:=19) (by kernel_rfl) rfl ?_
      refine AL h27 rfl rfl rfl (Nat.le_of_ble_eq_true rfl) (by first|exact allOne rfl|simp [Value.cells,Value.oneCell',AJ]) fun w310 S311 h27=>?_
      replace h27:Lc 3 w310 O302 g23 26 [(.slice A281 u65.length c282),(.slice A290 u67.length c291),(.slice A299 u69.length c300),(.slice none 0 0)]:=h27
      refine x_end (by kernel_rfl) ?_
      refine x_nil (by kernel_rfl) ?_
      obtain rfl:=sm hy72
      replace hB:=((((((((hB.st S84).st S201).st S276).st S285).st S294).st S303).st S307).st S309).st S311
      replace h20:=((((((((h20.st S84).st S201).st S276).st S285).st S294).st S303).st S307).st S309).st S311
      replace h55:=((((((((h55.st S84).st S201).st S276).st S285).st S294).st S303).st S307).st S309).st S311
      replace h57:=((((((((h57.st S84).st S201).st S276).st S285).st S294).st S303).st S307).st S309).st S311
      replace h286:=((((h286.st S294).st S303).st S307).st S309).st S311
      replace h295:=(((h295.st S303).st S307).st S309).st S311
      replace h304:=((h304.st S307).st S309).st S311
      exact ⟨((A281,c282),(A290,c291),(A299,c300)),_,⟨rfl,rfl,rfl,rfl,rfl,rfl,rfl,rfl,trivial⟩,hB,h20,h57,h27,h286,h295,h304,h55⟩
    ·
     refine AR 8 (by decide) O83 (xs:=([(⟨(k34:Int),1⟩:Fct)]:List Fct)) rfl rfl rfl rfl ⟨(Vb.ofAgg (cs:=[(.int .i64 (k34:Int)),(.int .i64 1)]) (x:=(⟨(k34:Int),1⟩:Fct)) rfl ⟨rfl,rk34,(show inI64 (1) from by decide)⟩),trivial⟩ (by decide) (by decide) rfl fun g312 w313 O314 S315 h316=>?_
     have hZ:=S315.lst [] (fun _ h=>h.elim)
     refine x_go [(3,[5]),(6,[]),(7,[7]),(13,[9]),(15,[3]),(17,[3])] hZ (by kernel_rfl) ?_
     refine x_two (i:=3) (j:=6) (by kernel_rfl) rfl rfl ?_ ?_
     ·
      obtain ⟨e66,e318,e319⟩:=AO e66
      replace h59:=(h59.st S84).st S315
      replace h85:=h85.st S315
      refine AQ rfl h59 (h85.rd) rfl rfl (by decide) e318 e319 rfl fun A320 c321 w322 O323 S324 h325=>?_
      rw [← e66] at h325 ⊢
      have hZ:=S324.lst [5] (fun _ h=>by cases h;decide)
      refine x_go [(6,[]),(7,[7]),(13,[9]),(15,[3]),(17,[3])] hZ (by kernel_rfl) ?_
      refine x_pre (fuel:=8) [7,9] [(14,true)] (by kernel_rfl) rfl ?_
      refine h_fa rfl rfl rfl (AE ?_)
      refine x_one (i:=6) (by kernel_rfl) rfl ?_
      refine AR 6 (by decide) O323 (xs:=(([0]:List Int):List Int)) rfl rfl rfl rfl ⟨(vInt (show inI64 (0) from by decide)),trivial⟩ (by decide) (by decide) rfl fun g327 w328 O329 S330 h331=>?_
      have hZ:=S330.lst [] (fun _ h=>h.elim)
      refine x_go [(7,[7]),(13,[9]),(15,[3]),(17,[3])] hZ (by kernel_rfl) ?_
      refine x_one (i:=7) (by kernel_rfl) rfl ?_
      obtain ⟨e68,e333,e334⟩:=AO e68
      replace h61:=(((h61.st S84).st S315).st S324).st S330
      refine AQ rfl h61 (h331.rd) rfl rfl (by decide) e333 e334 rfl fun A335 c336 w337 O338 S339 h340=>?_
      rw [← e68] at h340 ⊢
      have hZ:=S339.lst [7] (fun _ h=>by cases h;decide)
      refine x_go [(13,[9]),(15,[3]),(17,[3])] hZ (by kernel_rfl) ?_
      refine x_one (i:=13) (by kernel_rfl) rfl ?_
      obtain ⟨e70,e342,e343⟩:=AO e70
      replace h63:=((((h63.st S84).st S315).st S324).st S330).st S339
      replace h316:=((h316.st S324).st S330).st S339
      refine AQ rfl h63 (h316.rd) rfl rfl (by decide) e342 e343 rfl fun A344 c345 w346 O347 S348 h349=>?_
      rw [← e70] at h349 ⊢
      have hZ:=S348.lst [9] (fun _ h=>by cases h;decide)
      refine x_go [(15,[3]),(17,[3])] hZ (by kernel_rfl) ?_
      refine x_one (i:=15) (by kernel_rfl) rfl ?_
      replace h27:=(((((h27.st S84).st S315).st S324).st S330).st S339).st S348
      refine AL h27 rfl rfl rfl (Nat.le_of_ble_eq_true rfl) (by first|exact allOne rfl|simp [Value.cells,Value.oneCell',AJ]) fun w351 S352 h27=>?_
      replace h27:Lc 3 w351 O347 g23 26 [(.slice A320 u65.length c321),(.slice x33.2.2.2.1.1 s32.2.2.2.1.length x33.2.2.2.1.2),(.slice x33.2.2.2.2.1 s32.2.2.2.2.length x33.2.2.2.2.2),(.slice none 0 0)]:=h27
      have hZ:=S352.lst [3] (fun _ h=>by cases h;decide)
      refine x_go [(17,[3])] hZ (by kernel_rfl) ?_
      refine x_pre (fuel:=3) [] [(16,true)] (by kernel_rfl) rfl ?_
      refine h_fa rfl rfl rfl (AE ?_)
      refine x_one (i:=17) (by kernel_rfl) rfl ?_
      refine AL h27 rfl rfl rfl (Nat.le_of_ble_eq_true rfl) (by first|exact allOne rfl|simp [Value.cells,Value.oneCell',AJ]) fun w353 S354 h27=>?_
      replace h27:Lc 3 w353 O347 g23 26 [(.slice A320 u65.length c321),(.slice A335 u67.length c336),(.slice x33.2.2.2.2.1 s32.2.2.2.2.length x33.2.2.2.2.2),(.slice none 0 0)]:=h27
      have hZ:=S354.lst [3] (fun _ h=>by cases h;decide)
      refine x_go [] hZ (by kernel_rfl) ?_
      refine x_pre (fuel:=1) [] [(18,true)] (by kernel_rfl) rfl ?_
      refine h_fa rfl rfl rfl (AE ?_)
      refine x_one (i:=19) (by kernel_rfl) rfl ?_
      refine AL h27 rfl rfl rfl (Nat.le_of_ble_eq_true rfl) (by first|exact allOne rfl|simp [Value.cells,Value.oneCell',AJ]) fun w355 S356 h27=>?_
      replace h27:Lc 3 w355 O347 g23 26 [(.slice A320 u65.length c321),(.slice A335 u67.length c336),(.slice A344 u69.length c345),(.slice none 0 0)]:=h27
      refine x_end (by kernel_rfl) ?_
      refine x_nil (by kernel_rfl) ?_
      obtain rfl:=sm hy72
      replace hB:=((((((((hB.st S84).st S315).st S324).st S330).st S339).st S348).st S352).st S354).st S356
      replace h20:=((((((((h20.st S84).st S315).st S324).st S330).st S339).st S348).st S352).st S354).st S356
      replace h55:=((((((((h55.st S84).st S315).st S324).st S330).st S339).st S348).st S352).st S354).st S356
      replace h57:=((((((((h57.st S84).st S315).st S324).st S330).st S339).st S348).st S352).st S354).st S356
      replace h325:=(((((h325.st S330).st S339).st S348).st S352).st S354).st S356
      replace h340:=(((h340.st S348).st S352).st S354).st S356
      replace h349:=((h349.st S352).st S354).st S356
      exact ⟨((A320,c321),(A335,c336),(A344,c345)),_,⟨rfl,rfl,rfl,rfl,rfl,rfl,rfl,rfl,trivial⟩,hB,h20,h57,h27,h325,h340,h349,h55⟩
     ·
      refine AR 6 (by decide) O314 (xs:=(([0]:List Int):List Int)) rfl rfl rfl rfl ⟨(vInt (show inI64 (0) from by decide)),trivial⟩ (by decide) (by decide) rfl fun g357 w358 O359 S360 h361=>?_
      have hZ:=S360.lst [] (fun _ h=>h.elim)
      refine x_go [(3,[5]),(7,[7]),(13,[9]),(15,[3]),(17,[3])] hZ (by kernel_rfl) ?_
      refine x_one (i:=3) (by kernel_rfl) rfl ?_
      obtain ⟨e66,e363,e364⟩:=AO e66
      replace h59:=((h59.st S84).st S315).st S360
      replace h85:=(h85.st S315).st S360
      refine AQ rfl h59 (h85.rd) rfl rfl (by decide) e363 e364 rfl fun A365 c366 w367 O368 S369 h370=>?_
      rw [← e66] at h370 ⊢
      have hZ:=S369.lst [5] (fun _ h=>by cases h;decide)
      refine x_go [(7,[7]),(13,[9]),(15,[3]),(17,[3])] hZ (by kernel_rfl) ?_
      refine x_pre (fuel:=7) [7,9] [(14,true)] (by kernel_rfl) rfl ?_
      refine h_fa rfl rfl rfl (AE ?_)
      refine x_one (i:=7) (by kernel_rfl) rfl ?_
      obtain ⟨e68,e372,e373⟩:=AO e68
      replace h61:=(((h61.st S84).st S315).st S360).st S369
      replace h361:=h361.st S369
      refine AQ rfl h61 (h361.rd) rfl rfl (by decide) e372 e373 rfl fun A374 c375 w376 O377 S378 h379=>?_
      rw [← e68] at h379 ⊢
      have hZ:=S378.lst [7] (fun _ h=>by cases h;decide)
      refine x_go [(13,[9]),(15,[3]),(17,[3])] hZ (by kernel_rfl) ?_
      refine x_one (i:=13) (by kernel_rfl) rfl ?_
      obtain ⟨e70,e381,e382⟩:=AO e70
      replace h63:=((((h63.st S84).st S315).st S360).st S369).st S378
      replace h316:=((h316.st S360).st S369).st S378
      refine AQ rfl h63 (h316.rd) rfl rfl (by decide) e381 e382 rfl fun A383 c384 w385 O386 S387 h388=>?_
      rw [← e70] at h388 ⊢
      have hZ:=S387.lst [9] (fun _ h=>by cases h;decide)
      refine x_go [(15,[3]),(17,[3])] hZ (by kernel_rfl) ?_
      refine x_one (i:=15) (by kernel_rfl) rfl ?_
      replace h27:=(((((h27.st S84).st S315).st S360).st S369).st S378).st S387
      refine AL h27 rfl rfl rfl (Nat.le_of_ble_eq_true rfl) (by first|exact allOne rfl|simp [Value.cells,Value.oneCell',AJ]) fun w390 S391 h27=>?_
      replace h27:Lc 3 w390 O386 g23 26 [(.slice A365 u65.length c366),(.slice x33.2.2.2.1.1 s32.2.2.2.1.length x33.2.2.2.1.2),(.slice x33.2.2.2.2.1 s32.2.2.2.2.length x33.2.2.2.2.2),(.slice none 0 0)]:=h27
      have hZ:=S391.lst [3] (fun _ h=>by cases h;decide)
      refine x_go [(17,[3])] hZ (by kernel_rfl) ?_
      refine x_pre (fuel:=3) [] [(16,true)] (by kernel_rfl) rfl ?_
      refine h_fa rfl rfl rfl (AE ?_)
      refine x_one (i:=17) (by kernel_rfl) rfl ?_
      refine AL h27 rfl rfl rfl (Nat.le_of_ble_eq_true rfl) (by first|exact allOne rfl|simp [Value.cells,Value.oneCell',AJ]) fun w392 S393 h27=>?_
      replace h27:Lc 3 w392 O386 g23 26 [(.slice A365 u65.length c366),(.slice A374 u67.length c375),(.slice x33.2.2.2.2.1 s32.2.2.2.2.length x33.2.2.2.2.2),(.slice none 0 0)]:=h27
      have hZ:=S393.lst [3] (fun _ h=>by cases h;decide)
      refine x_go [] hZ (by kernel_rfl) ?_
      refine x_pre (fuel:=1) [] [(18,true)] (by kernel_rfl) rfl ?_
      refine h_fa rfl rfl rfl (AE ?_)
      refine x_one (i:=19) (by kernel_rfl) rfl ?_
      refine AL h27 rfl rfl rfl (Nat.le_of_ble_eq_true rfl) (by first|exact allOne rfl|simp [Value.cells,Value.oneCell',AJ]) fun w394 S395 h27=>?_
      replace h27:Lc 3 w394 O386 g23 26 [(.slice A365 u65.length c366),(.slice A374 u67.length c375),(.slice A383 u69.length c384),(.slice none 0 0)]:=h27
      refine x_end (by kernel_rfl) ?_
      refine x_nil (by kernel_rfl) ?_
      obtain rfl:=sm hy72
      replace hB:=((((((((hB.st S84).st S315).st S360).st S369).st S378).st S387).st S391).st S393).st S395
      replace h20:=((((((((h20.st S84).st S315).st S360).st S369).st S378).st S387).st S391).st S393).st S395
      replace h55:=((((((((h55.st S84).st S315).st S360).st S369).st S378).st S387).st S391).st S393).st S395
      replace h57:=((((((((h57.st S84).st S315).st S360).st S369).st S378).st S387).st S391).st S393).st S395
      replace h370:=((((h370.st S378).st S387).st S391).st S393).st S395
      replace h379:=(((h379.st S387).st S391).st S393).st S395
      replace h388:=((h388.st S391).st S393).st S395
      exact ⟨((A365,c366),(A374,c375),(A383,c384)),_,⟨rfl,rfl,rfl,rfl,rfl,rfl,rfl,rfl,trivial⟩,hB,h20,h57,h27,h370,h379,h388,h55⟩
   ·
    refine AR 6 (by decide) O37 (xs:=(([0]:List Int):List Int)) rfl rfl rfl rfl ⟨(vInt (show inI64 (0) from by decide)),trivial⟩ (by decide) (by decide) rfl fun g396 w397 O398 S399 h400=>?_
    have hZ:=S399.lst [] (fun _ h=>h.elim)
    refine x_go [(2,[]),(3,[5]),(7,[7]),(12,[]),(13,[9]),(15,[3]),(17,[3])] hZ (by kernel_rfl) ?_
    refine x_two (i:=2) (j:=12) (by kernel_rfl) rfl rfl ?_ ?_
    ·
     refine AR 4 (by decide) O398 (xs:=(([2]:List Int):List Int)) rfl rfl rfl rfl ⟨(vInt (show inI64 (2) from by decide)),trivial⟩ (by decide) (by decide) rfl fun g402 w403 O404 S405 h406=>?_
     have hZ:=S405.lst [] (fun _ h=>h.elim)
     refine x_go [(3,[5]),(7,[7]),(12,[]),(13,[9]),(15,[3]),(17,[3])] hZ (by kernel_rfl) ?_
     refine x_two (i:=3) (j:=12) (by kernel_rfl) rfl rfl ?_ ?_
     ·
      obtain ⟨e66,e408,e409⟩:=AO e66
      replace h59:=(h59.st S399).st S405
      refine AQ rfl h59 (h406.rd) rfl rfl (by decide) e408 e409 rfl fun A410 c411 w412 O413 S414 h415=>?_
      rw [← e66] at h415 ⊢
      have hZ:=S414.lst [5] (fun _ h=>by cases h;decide)
      refine x_go [(7,[7]),(12,[]),(13,[9]),(15,[3]),(17,[3])] hZ (by kernel_rfl) ?_
      refine x_pre (fuel:=8) [7,9] [(14,true)] (by kernel_rfl) rfl ?_
      refine h_fa rfl rfl rfl (AE ?_)
      refine x_two (i:=7) (j:=12) (by kernel_rfl) rfl rfl ?_ ?_
      ·
       obtain ⟨e68,e417,e418⟩:=AO e68
       replace h61:=((h61.st S399).st S405).st S414
       replace h400:=(h400.st S405).st S414
       refine AQ rfl h61 (h400.rd) rfl rfl (by decide) e417 e418 rfl fun A419 c420 w421 O422 S423 h424=>?_
       rw [← e68] at h424 ⊢
       have hZ:=S423.lst [7] (fun _ h=>by cases h;decide)
       refine x_go [(12,[]),(13,[9]),(15,[3]),(17,[3])] hZ (by kernel_rfl) ?_
       refine x_one (i:=12) (by kernel_rfl) rfl ?_
       refine AR 8 (by decide) O422 (xs:=([(⟨(k34:Int),1⟩:Fct)]:List Fct)) rfl rfl rfl rfl ⟨(Vb.ofAgg (cs:=[(.int .i64 (k34:Int)),(.int .i64 1)]) (x:=(⟨(k34:Int),1⟩:Fct)) rfl ⟨rfl,rk34,(show inI64 (1) from by decide)⟩),trivial⟩ (by decide) (by decide) rfl fun g426 w427 O428 S429 h430=>?_
       have hZ:=S429.lst [] (fun _ h=>h.elim)
       refine x_go [(13,[9]),(15,[3]),(17,[3])] hZ (by kernel_rfl) ?_
       refine x_one (i:=13) (by kernel_rfl) rfl ?_
       obtain ⟨e70,e432,e433⟩:=AO e70
       replace h63:=((((h63.st S399).st S405).st S414).st S423).st S429
       refine AQ rfl h63 (h430.rd) rfl rfl (by decide) e432 e433 rfl fun A434 c435 w436 O437 S438 h439=>?_
       rw [← e70] at h439 ⊢
       have hZ:=S438.lst [9] (fun _ h=>by cases h;decide)
       refine x_go [(15,[3]),(17,[3])] hZ (by kernel_rfl) ?_
       refine x_one (i:=15) (by kernel_rfl) rfl ?_
       replace h27:=(((((h27.st S399).st S405).st S414).st S423).st S429).st S438
       refine AL h27 rfl rfl rfl (Nat.le_of_ble_eq_true rfl) (by first|exact allOne rfl|simp [Value.cells,Value.oneCell',AJ]) fun w441 S442 h27=>?_
       replace h27:Lc 3 w441 O437 g23 26 [(.slice A410 u65.length c411),(.slice x33.2.2.2.1.1 s32.2.2.2.1.length x33.2.2.2.1.2),(.slice x33.2.2.2.2.1 s32.2.2.2.2.length x33.2.2.2.2.2),(.slice none 0 0)]:=h27
       have hZ:=S442.lst [3] (fun _ h=>by cases h;decide)
       refine x_go [(17,[3])] hZ (by kernel_rfl) ?_
       refine x_pre (fuel:=3) [] [(16,true)] (by kernel_rfl) rfl ?_
       refine h_fa rfl rfl rfl (AE ?_)
       refine x_one (i:=17) (by kernel_rfl) rfl ?_
       refine AL h27 rfl rfl rfl (Nat.le_of_ble_eq_true rfl) (by first|exact allOne rfl|simp [Value.cells,Value.oneCell',AJ]) fun w443 S444 h27=>?_
       replace h27:Lc 3 w443 O437 g23 26 [(.slice A410 u65.length c411),(.slice A419 u67.length c420),(.slice x33.2.2.2.2.1 s32.2.2.2.2.length x33.2.2.2.2.2),(.slice none 0 0)]:=h27
       have hZ:=S444.lst [3] (fun _ h=>by cases h;decide)
       refine x_go [] hZ (by kernel_rfl) ?_
       refine x_pre (fuel:=1) [] [(18,true)] (by kernel_rfl) rfl ?_
       refine h_fa rfl rfl rfl (AE ?_)
       refine x_one (i:=19) (by kernel_rfl) rfl ?_
       refine AL h27 rfl rfl rfl (Nat.le_of_ble_eq_true rfl) (by first|exact allOne rfl|simp [Value.cells,Value.oneCell',AJ]) fun w445 S446 h27=>?_
       replace h27:Lc 3 w445 O437 g23 26 [(.slice A410 u65.length c411),(.slice A419 u67.length c420),(.slice A434 u69.length c435),(.slice none 0 0)]:=h27
       refine x_end (by kernel_rfl) ?_
       refine x_nil (by kernel_rfl) ?_
       obtain rfl:=sm hy72
       replace hB:=((((((((hB.st S399).st S405).st S414).st S423).st S429).st S438).st S442).st S444).st S446
       replace h20:=((((((((h20.st S399).st S405).st S414).st S423).st S429).st S438).st S442).st S444).st S446
       replace h55:=((((((((h55.st S399).st S405).st S414).st S423).st S429).st S438).st S442).st S444).st S446
       replace h57:=((((((((h57.st S399).st S405).st S414).st S423).st S429).st S438).st S442).st S444).st S446
       replace h415:=(((((h415.st S423).st S429).st S438).st S442).st S444).st S446
       replace h424:=((((h424.st S429).st S438).st S442).st S444).st S446
       replace h439:=((h439.st S442).st S444).st S446
       exact ⟨((A410,c411),(A419,c420),(A434,c435)),_,⟨rfl,rfl,rfl,rfl,rfl,rfl,rfl,rfl,trivial⟩,hB,h20,h57,h27,h415,h424,h439,h55⟩
      ·
       refine AR 8 (by decide) O413 (xs:=([(⟨(k34:Int),1⟩:Fct)]:List Fct)) rfl rfl rfl rfl ⟨(Vb.ofAgg (cs:=[(.int .i64 (k34:Int)),(.int .i64 1)]) (x:=(⟨(k34:Int),1⟩:Fct)) rfl ⟨rfl,rk34,(show inI64 (1) from by decide)⟩),trivial⟩ (by decide) (by decide) rfl fun g447 w448 O449 S450 h451=>?_
       have hZ:=S450.lst [] (fun _ h=>h.elim)
       refine x_go [(7,[7]),(13,[9]),(15,[3]),(17,[3])] hZ (by kernel_rfl) ?_
       refine x_one (i:=7) (by kernel_rfl) rfl ?_
       obtain ⟨e68,e453,e454⟩:=AO e68
       replace h61:=(((h61.st S399).st S405).st S414).st S450
       replace h400:=((h400.st S405).st S414).st S450
       refine AQ rfl h61 (h400.rd) rfl rfl (by decide) e453 e454 rfl fun A455 c456 w457 O458 S459 h460=>?_
       rw [← e68] at h460 ⊢
       have hZ:=S459.lst [7] (fun _ h=>by cases h;decide)
       refine x_go [(13,[9]),(15,[3]),(17,[3])] hZ (by kernel_rfl) ?_
       refine x_one (i:=13) (by kernel_rfl) rfl ?_
       obtain ⟨e70,e462,e463⟩:=AO e70
       replace h63:=((((h63.st S399).st S405).st S414).st S450).st S459
       replace h451:=h451.st S459
       refine AQ rfl h63 (h451.rd) rfl rfl (by decide) e462 e463 rfl fun A464 c465 w466 O467 S468 h469=>?_
       rw [← e70] at h469 ⊢
       have hZ:=S468.lst [9] (fun _ h=>by cases h;decide)
       refine x_go [(15,[3]),(17,[3])] hZ (by kernel_rfl) ?_
       refine x_one (i:=15) (by kernel_rfl) rfl ?_
       replace h27:=(((((h27.st S399).st S405).st S414).st S450).st S459).st S468
       refine AL h27 rfl rfl rfl (Nat.le_of_ble_eq_true rfl) (by first|exact allOne rfl|simp [Value.cells,Value.oneCell',AJ]) fun w471 S472 h27=>?_
       replace h27:Lc 3 w471 O467 g23 26 [(.slice A410 u65.length c411),(.slice x33.2.2.2.1.1 s32.2.2.2.1.length x33.2.2.2.1.2),(.slice x33.2.2.2.2.1 s32.2.2.2.2.length x33.2.2.2.2.2),(.slice none 0 0)]:=h27
       have hZ:=S472.lst [3] (fun _ h=>by cases h;decide)
       refine x_go [(17,[3])] hZ (by kernel_rfl) ?_
       refine x_pre (fuel:=3) [] [(16,true)] (by kernel_rfl) rfl ?_
       refine h_fa rfl rfl rfl (AE ?_)
       refine x_one (i:=17) (by kernel_rfl) rfl ?_
       refine AL h27 rfl rfl rfl (Nat.le_of_ble_eq_true rfl) (by first|exact allOne rfl|simp [Value.cells,Value.oneCell',AJ]) fun w473 S474 h27=>?_
       replace h27:Lc 3 w473 O467 g23 26 [(.slice A410 u65.length c411),(.slice A455 u67.length c456),(.slice x33.2.2.2.2.1 s32.2.2.2.2.length x33.2.2.2.2.2),(.slice none 0 0)]:=h27
       have hZ:=S474.lst [3] (fun _ h=>by cases h;decide)
       refine x_go [] hZ (by kernel_rfl) ?_
       refine x_pre (fuel:=1) [] [(18,true)] (by kernel_rfl) rfl ?_
       refine h_fa rfl rfl rfl (AE ?_)
       refine x_one (i:=19) (by kernel_rfl) rfl ?_
       refine AL h27 rfl rfl rfl (Nat.le_of_ble_eq_true rfl) (by first|exact allOne rfl|simp [Value.cells,Value.oneCell',AJ]) fun w475 S476 h27=>?_
       replace h27:Lc 3 w475 O467 g23 26 [(.slice A410 u65.length c411),(.slice A455 u67.length c456),(.slice A464 u69.length c465),(.slice none 0 0)]:=h27
       refine x_end (by kernel_rfl) ?_
       refine x_nil (by kernel_rfl) ?_
       obtain rfl:=sm hy72
       replace hB:=((((((((hB.st S399).st S405).st S414).st S450).st S459).st S468).st S472).st S474).st S476
       replace h20:=((((((((h20.st S399).st S405).st S414).st S450).st S459).st S468).st S472).st S474).st S476
       replace h55:=((((((((h55.st S399).st S405).st S414).st S450).st S459).st S468).st S472).st S474).st S476
       replace h57:=((((((((h57.st S399).st S405).st S414).st S450).st S459).st S468).st S472).st S474).st S476
       replace h415:=(((((h415.st S450).st S459).st S468).st S472).st S474).st S476
       replace h460:=(((h460.st S468).st S472).st S474).st S476
       replace h469:=((h469.st S472).st S474).st S476
       exact ⟨((A410,c411),(A455,c456),(A464,c465)),_,⟨rfl,rfl,rfl,rfl,rfl,rfl,rfl,rfl,trivial⟩,hB,h20,h57,h27,h415,h460,h469,h55⟩
     ·
      refine AR 8 (by decide) O404 (xs:=([(⟨(k34:Int),1⟩:Fct)]:List Fct)) rfl rfl rfl rfl ⟨(Vb.ofAgg (cs:=[(.int .i64 (k34:Int)),(.int .i64 1)]) (x:=(⟨(k34:Int),1⟩:Fct)) rfl ⟨rfl,rk34,(show inI64 (1) from by decide)⟩),trivial⟩ (by decide) (by decide) rfl fun g477 w478 O479 S480 h481=>?_
      have hZ:=S480.lst [] (fun _ h=>h.elim)
      refine x_go [(3,[5]),(7,[7]),(13,[9]),(15,[3]),(17,[3])] hZ (by kernel_rfl) ?_
      refine x_one (i:=3) (by kernel_rfl) rfl ?_
      obtain ⟨e66,e483,e484⟩:=AO e66
      replace h59:=((h59.st S399).st S405).st S480
      replace h406:=h406.st S480
      refine AQ rfl h59 (h406.rd) rfl rfl (by decide) e483 e484 rfl fun A485 c486 w487 O488 S489 h490=>?_
      rw [← e66] at h490 ⊢
      have hZ:=S489.lst [5] (fun _ h=>by cases h;decide)
      refine x_go [(7,[7]),(13,[9]),(15,[3]),(17,[3])] hZ (by kernel_rfl) ?_
      refine x_pre (fuel:=7) [7,9] [(14,true)] (by kernel_rfl) rfl ?_
      refine h_fa rfl rfl rfl (AE ?_)
      refine x_one (i:=7) (by kernel_rfl) rfl ?_
      obtain ⟨e68,e492,e493⟩:=AO e68
      replace h61:=(((h61.st S399).st S405).st S480).st S489
      replace h400:=((h400.st S405).st S480).st S489
      refine AQ rfl h61 (h400.rd) rfl rfl (by decide) e492 e493 rfl fun A494 c495 w496 O497 S498 h499=>?_
      rw [← e68] at h499 ⊢
      have hZ:=S498.lst [7] (fun _ h=>by cases h;decide)
      refine x_go [(13,[9]),(15,[3]),(17,[3])] hZ (by kernel_rfl) ?_
      refine x_one (i:=13) (by kernel_rfl) rfl ?_
      obtain ⟨e70,e501,e502⟩:=AO e70
      replace h63:=((((h63.st S399).st S405).st S480).st S489).st S498
      replace h481:=(h481.st S489).st S498
      refine AQ rfl h63 (h481.rd) rfl rfl (by decide) e501 e502 rfl fun A503 c504 w505 O506 S507 h508=>?_
      rw [← e70] at h508 ⊢
      have hZ:=S507.lst [9] (fun _ h=>by cases h;decide)
      refine x_go [(15,[3]),(17,[3])] hZ (by kernel_rfl) ?_
      refine x_one (i:=15) (by kernel_rfl) rfl ?_
      replace h27:=(((((h27.st S399).st S405).st S480).st S489).st S498).st S507
      refine AL h27 rfl rfl rfl (Nat.le_of_ble_eq_true rfl) (by first|exact allOne rfl|simp [Value.cells,Value.oneCell',AJ]) fun w510 S511 h27=>?_
      replace h27:Lc 3 w510 O506 g23 26 [(.slice A485 u65.length c486),(.slice x33.2.2.2.1.1 s32.2.2.2.1.length x33.2.2.2.1.2),(.slice x33.2.2.2.2.1 s32.2.2.2.2.length x33.2.2.2.2.2),(.slice none 0 0)]:=h27
      have hZ:=S511.lst [3] (fun _ h=>by cases h;decide)
      refine x_go [(17,[3])] hZ (by kernel_rfl) ?_
      refine x_pre (fuel:=3) [] [(16,true)] (by kernel_rfl) rfl ?_
      refine h_fa rfl rfl rfl (AE ?_)
      refine x_one (i:=17) (by kernel_rfl) rfl ?_
      refine AL h27 rfl rfl rfl (Nat.le_of_ble_eq_true rfl) (by first|exact allOne rfl|simp [Value.cells,Value.oneCell',AJ]) fun w512 S513 h27=>?_
      replace h27:Lc 3 w512 O506 g23 26 [(.slice A485 u65.length c486),(.slice A494 u67.length c495),(.slice x33.2.2.2.2.1 s32.2.2.2.2.length x33.2.2.2.2.2),(.slice none 0 0)]:=h27
      have hZ:=S513.lst [3] (fun _ h=>by cases h;decide)
      refine x_go [] hZ (by kernel_rfl) ?_
      refine x_pre (fuel:=1) [] [(18,true)] (by kernel_rfl) rfl ?_
      refine h_fa rfl rfl rfl (AE ?_)
      refine x_one (i:=19) (by kernel_rfl) rfl ?_
      refine AL h27 rfl rfl rfl (Nat.le_of_ble_eq_true rfl) (by first|exact allOne rfl|simp [Value.cells,Value.oneCell',AJ]) fun w514 S515 h27=>?_
      replace h27:Lc 3 w514 O506 g23 26 [(.slice A485 u65.length c486),(.slice A494 u67.length c495),(.slice A503 u69.length c504),(.slice none 0 0)]:=h27
      refine x_end (by kernel_rfl) ?_
      refine x_nil (by kernel_rfl) ?_
      obtain rfl:=sm hy72
      replace hB:=((((((((hB.st S399).st S405).st S480).st S489).st S498).st S507).st S511).st S513).st S515
      replace h20:=((((((((h20.st S399).st S405).st S480).st S489).st S498).st S507).st S511).st S513).st S515
      replace h55:=((((((((h55.st S399).st S405).st S480).st S489).st S498).st S507).st S511).st S513).st S515
      replace h57:=((((((((h57.st S399).st S405).st S480).st S489).st S498).st S507).st S511).st S513).st S515
      replace h490:=((((h490.st S498).st S507).st S511).st S513).st S515
      replace h499:=(((h499.st S507).st S511).st S513).st S515
      replace h508:=((h508.st S511).st S513).st S515
      exact ⟨((A485,c486),(A494,c495),(A503,c504)),_,⟨rfl,rfl,rfl,rfl,rfl,rfl,rfl,rfl,trivial⟩,hB,h20,h57,h27,h490,h499,h508,h55⟩
    ·
     refine AR 8 (by decide) O398 (xs:=([(⟨(k34:Int),1⟩:Fct)]:List Fct)) rfl rfl rfl rfl ⟨(Vb.ofAgg (cs:=[(.int .i64 (k34:Int)),(.int .i64 1)]) (x:=(⟨(k34:Int),1⟩:Fct)) rfl ⟨rfl,rk34,(show inI64 (1) from by decide)⟩),trivial⟩ (by decide) (by decide) rfl fun g516 w517 O518 S519 h520=>?_
     have hZ:=S519.lst [] (fun _ h=>h.elim)
     refine x_go [(2,[]),(3,[5]),(7,[7]),(13,[9]),(15,[3]),(17,[3])] hZ (by kernel_rfl) ?_
     refine x_one (i:=2) (by kernel_rfl) rfl ?_
     refine AR 4 (by decide) O518 (xs:=(([2]:List Int):List Int)) rfl rfl rfl rfl ⟨(vInt (show inI64 (2) from by decide)),trivial⟩ (by decide) (by decide) rfl fun g522 w523 O524 S525 h526=>?_
     have hZ:=S525.lst [] (fun _ h=>h.elim)
     refine x_go [(3,[5]),(7,[7]),(13,[9]),(15,[3]),(17,[3])] hZ (by kernel_rfl) ?_
     refine x_one (i:=3) (by kernel_rfl) rfl ?_
     obtain ⟨e66,e528,e529⟩:=AO e66
     replace h59:=((h59.st S399).st S519).st S525
     refine AQ rfl h59 (h526.rd) rfl rfl (by decide) e528 e529 rfl fun A530 c531 w532 O533 S534 h535=>?_
     rw [← e66] at h535 ⊢
     have hZ:=S534.lst [5] (fun _ h=>by cases h;decide)
     refine x_go [(7,[7]),(13,[9]),(15,[3]),(17,[3])] hZ (by kernel_rfl) ?_
     refine x_pre (fuel:=7) [7,9] [(14,true)] (by kernel_rfl) rfl ?_
     refine h_fa rfl rfl rfl (AE ?_)
     refine x_one (i:=7) (by kernel_rfl) rfl ?_
     obtain ⟨e68,e537,e538⟩:=AO e68
     replace h61:=(((h61.st S399).st S519).st S525).st S534
     replace h400:=((h400.st S519).st S525).st S534
     refine AQ rfl h61 (h400.rd) rfl rfl (by decide) e537 e538 rfl fun A539 c540 w541 O542 S543 h544=>?_
     rw [← e68] at h544 ⊢
     have hZ:=S543.lst [7] (fun _ h=>by cases h;decide)
     refine x_go [(13,[9]),(15,[3]),(17,[3])] hZ (by kernel_rfl) ?_
     refine x_one (i:=13) (by kernel_rfl) rfl ?_
     obtain ⟨e70,e546,e547⟩:=AO e70
     replace h63:=((((h63.st S399).st S519).st S525).st S534).st S543
     replace h520:=((h520.st S525).st S534).st S543
     refine AQ rfl h63 (h520.rd) rfl rfl (by decide) e546 e547 rfl fun A548 c549 w550 O551 S552 h553=>?_
     rw [← e70] at h553 ⊢
     have hZ:=S552.lst [9] (fun _ h=>by cases h;decide)
     refine x_go [(15,[3]),(17,[3])] hZ (by kernel_rfl) ?_
     refine x_one (i:=15) (by kernel_rfl) rfl ?_
     replace h27:=(((((h27.st S399).st S519).st S525).st S534).st S543).st S552
     refine AL h27 rfl rfl rfl (Nat.le_of_ble_eq_true rfl) (by first|exact allOne rfl|simp [Value.cells,Value.oneCell',AJ]) fun w555 S556 h27=>?_
     replace h27:Lc 3 w555 O551 g23 26 [(.slice A530 u65.length c531),(.slice x33.2.2.2.1.1 s32.2.2.2.1.length x33.2.2.2.1.2),(.slice x33.2.2.2.2.1 s32.2.2.2.2.length x33.2.2.2.2.2),(.slice none 0 0)]:=h27
     have hZ:=S556.lst [3] (fun _ h=>by cases h;decide)
     refine x_go [(17,[3])] hZ (by kernel_rfl) ?_
     refine x_pre (fuel:=3) [] [(16,true)] (by kernel_rfl) rfl ?_
     refine h_fa rfl rfl rfl (AE ?_)
     refine x_one (i:=17) (by kernel_rfl) rfl ?_
     refine AL h27 rfl rfl rfl (Nat.le_of_ble_eq_true rfl) (by first|exact allOne rfl|simp [Value.cells,Value.oneCell',AJ]) fun w557 S558 h27=>?_
     replace h27:Lc 3 w557 O551 g23 26 [(.slice A530 u65.length c531),(.slice A539 u67.length c540),(.slice x33.2.2.2.2.1 s32.2.2.2.2.length x33.2.2.2.2.2),(.slice none 0 0)]:=h27
     have hZ:=S558.lst [3] (fun _ h=>by cases h;decide)
     refine x_go [] hZ (by kernel_rfl) ?_
     refine x_pre (fuel:=1) [] [(18,true)] (by kernel_rfl) rfl ?_
     refine h_fa rfl rfl rfl (AE ?_)
     refine x_one (i:=19) (by kernel_rfl) rfl ?_
     refine AL h27 rfl rfl rfl (Nat.le_of_ble_eq_true rfl) (by first|exact allOne rfl|simp [Value.cells,Value.oneCell',AJ]) fun w559 S560 h27=>?_
     replace h27:Lc 3 w559 O551 g23 26 [(.slice A530 u65.length c531),(.slice A539 u67.length c540),(.slice A548 u69.length c549),(.slice none 0 0)]:=h27
     refine x_end (by kernel_rfl) ?_
     refine x_nil (by kernel_rfl) ?_
     obtain rfl:=sm hy72
     replace hB:=((((((((hB.st S399).st S519).st S525).st S534).st S543).st S552).st S556).st S558).st S560
     replace h20:=((((((((h20.st S399).st S519).st S525).st S534).st S543).st S552).st S556).st S558).st S560
     replace h55:=((((((((h55.st S399).st S519).st S525).st S534).st S543).st S552).st S556).st S558).st S560
     replace h57:=((((((((h57.st S399).st S519).st S525).st S534).st S543).st S552).st S556).st S558).st S560
     replace h535:=((((h535.st S543).st S552).st S556).st S558).st S560
     replace h544:=(((h544.st S552).st S556).st S558).st S560
     replace h553:=((h553.st S556).st S558).st S560
     exact ⟨((A530,c531),(A539,c540),(A548,c549)),_,⟨rfl,rfl,rfl,rfl,rfl,rfl,rfl,rfl,trivial⟩,hB,h20,h57,h27,h535,h544,h553,h55⟩
   ·
    refine AR 8 (by decide) O37 (xs:=([(⟨(k34:Int),1⟩:Fct)]:List Fct)) rfl rfl rfl rfl ⟨(Vb.ofAgg (cs:=[(.int .i64 (k34:Int)),(.int .i64 1)]) (x:=(⟨(k34:Int),1⟩:Fct)) rfl ⟨rfl,rk34,(show inI64 (1) from by decide)⟩),trivial⟩ (by decide) (by decide) rfl fun g561 w562 O563 S564 h565=>?_
    have hZ:=S564.lst [] (fun _ h=>h.elim)
    refine x_go [(2,[]),(3,[5]),(6,[]),(7,[7]),(13,[9]),(15,[3]),(17,[3])] hZ (by kernel_rfl) ?_
    refine x_two (i:=2) (j:=6) (by kernel_rfl) rfl rfl ?_ ?_
    ·
     refine AR 4 (by decide) O563 (xs:=(([2]:List Int):List Int)) rfl rfl rfl rfl ⟨(vInt (show inI64 (2) from by decide)),trivial⟩ (by decide) (by decide) rfl fun g567 w568 O569 S570 h571=>?_
     have hZ:=S570.lst [] (fun _ h=>h.elim)
     refine x_go [(3,[5]),(6,[]),(7,[7]),(13,[9]),(15,[3]),(17,[3])] hZ (by kernel_rfl) ?_
     refine x_two (i:=3) (j:=6) (by kernel_rfl) rfl rfl ?_ ?_
     ·
      obtain ⟨e66,e573,e574⟩:=AO e66
      replace h59:=(h59.st S564).st S570
      refine AQ rfl h59 (h571.rd) rfl rfl (by decide) e573 e574 rfl fun A575 c576 w577 O578 S579 h580=>?_
      rw [← e66] at h580 ⊢
      have hZ:=S579.lst [5] (fun _ h=>by cases h;decide)
      refine x_go [(6,[]),(7,[7]),(13,[9]),(15,[3]),(17,[3])] hZ (by kernel_rfl) ?_
      refine x_pre (fuel:=8) [7,9] [(14,true)] (by kernel_rfl) rfl ?_
      refine h_fa rfl rfl rfl (AE ?_)
      refine x_one (i:=6) (by kernel_rfl) rfl ?_
      refine AR 6 (by decide) O578 (xs:=(([0]:List Int):List Int)) rfl rfl rfl rfl ⟨(vInt (show inI64 (0) from by decide)),trivial⟩ (by decide) (by decide) rfl fun g582 w583 O584 S585 h586=>?_
      have hZ:=S585.lst [] (fun _ h=>h.elim)
      refine x_go [(7,[7]),(13,[9]),(15,[3]),(17,[3])] hZ (by kernel_rfl) ?_
      refine x_one (i:=7) (by kernel_rfl) rfl ?_
      obtain ⟨e68,e588,e589⟩:=AO e68
      replace h61:=(((h61.st S564).st S570).st S579).st S585
      refine AQ rfl h61 (h586.rd) rfl rfl (by decide) e588 e589 rfl fun A590 c591 w592 O593 S594 h595=>?_
      rw [← e68] at h595 ⊢
      have hZ:=S594.lst [7] (fun _ h=>by cases h;decide)
      refine x_go [(13,[9]),(15,[3]),(17,[3])] hZ (by kernel_rfl) ?_
      refine x_one (i:=13) (by kernel_rfl) rfl ?_
      obtain ⟨e70,e597,e598⟩:=AO e70
      replace h63:=((((h63.st S564).st S570).st S579).st S585).st S594
      replace h565:=(((h565.st S570).st S579).st S585).st S594
      refine AQ rfl h63 (h565.rd) rfl rfl (by decide) e597 e598 rfl fun A599 c600 w601 O602 S603 h604=>?_
      rw [← e70] at h604 ⊢
      have hZ:=S603.lst [9] (fun _ h=>by cases h;decide)
      refine x_go [(15,[3]),(17,[3])] hZ (by kernel_rfl) ?_
      refine x_one (i:=15) (by kernel_rfl) rfl ?_
      replace h27:=(((((h27.st S564).st S570).st S579).st S585).st S594).st S603
      refine AL h27 rfl rfl rfl (Nat.le_of_ble_eq_true rfl) (by first|exact allOne rfl|simp [Value.cells,Value.oneCell',AJ]) fun w606 S607 h27=>?_
      replace h27:Lc 3 w606 O602 g23 26 [(.slice A575 u65.length c576),(.slice x33.2.2.2.1.1 s32.2.2.2.1.length x33.2.2.2.1.2),(.slice x33.2.2.2.2.1 s32.2.2.2.2.length x33.2.2.2.2.2),(.slice none 0 0)]:=h27
      have hZ:=S607.lst [3] (fun _ h=>by cases h;decide)
      refine x_go [(17,[3])] hZ (by kernel_rfl) ?_
      refine x_pre (fuel:=3) [] [(16,true)] (by kernel_rfl) rfl ?_
      refine h_fa rfl rfl rfl (AE ?_)
      refine x_one (i:=17) (by kernel_rfl) rfl ?_
      refine AL h27 rfl rfl rfl (Nat.le_of_ble_eq_true rfl) (by first|exact allOne rfl|simp [Value.cells,Value.oneCell',AJ]) fun w608 S609 h27=>?_
      replace h27:Lc 3 w608 O602 g23 26 [(.slice A575 u65.length c576),(.slice A590 u67.length c591),(.slice x33.2.2.2.2.1 s32.2.2.2.2.length x33.2.2.2.2.2),(.slice none 0 0)]:=h27
      have hZ:=S609.lst [3] (fun _ h=>by cases h;decide)
      refine x_go [] hZ (by kernel_rfl) ?_
      refine x_pre (fuel:=1) [] [(18,true)] (by kernel_rfl) rfl ?_
      refine h_fa rfl rfl rfl (AE ?_)
      refine x_one (i:=19) (by kernel_rfl) rfl ?_
      refine AL h27 rfl rfl rfl (Nat.le_of_ble_eq_true rfl) (by first|exact allOne rfl|simp [Value.cells,Value.oneCell',AJ]) fun w610 S611 h27=>?_
      replace h27:Lc 3 w610 O602 g23 26 [(.slice A575 u65.length c576),(.slice A590 u67.length c591),(.slice A599 u69.length c600),(.slice none 0 0)]:=h27
      refine x_end (by kernel_rfl) ?_
      refine x_nil (by kernel_rfl) ?_
      obtain rfl:=sm hy72
      replace hB:=((((((((hB.st S564).st S570).st S579).st S585).st S594).st S603).st S607).st S609).st S611
      replace h20:=((((((((h20.st S564).st S570).st S579).st S585).st S594).st S603).st S607).st S609).st S611
      replace h55:=((((((((h55.st S564).st S570).st S579).st S585).st S594).st S603).st S607).st S609).st S611
      replace h57:=((((((((h57.st S564).st S570).st S579).st S585).st S594).st S603).st S607).st S609).st S611
      replace h580:=(((((h580.st S585).st S594).st S603).st S607).st S609).st S611
      replace h595:=(((h595.st S603).st S607).st S609).st S611
      replace h604:=((h604.st S607).st S609).st S611
      exact ⟨((A575,c576),(A590,c591),(A599,c600)),_,⟨rfl,rfl,rfl,rfl,rfl,rfl,rfl,rfl,trivial⟩,hB,h20,h57,h27,h580,h595,h604,h55⟩
     ·
      refine AR 6 (by decide) O569 (xs:=(([0]:List Int):List Int)) rfl rfl rfl rfl ⟨(vInt (show inI64 (0) from by decide)),trivial⟩ (by decide) (by decide) rfl fun g612 w613 O614 S615 h616=>?_
      have hZ:=S615.lst [] (fun _ h=>h.elim)
      refine x_go [(3,[5]),(7,[7]),(13,[9]),(15,[3]),(17,[3])] hZ (by kernel_rfl) ?_
      refine x_one (i:=3) (by kernel_rfl) rfl ?_
      obtain ⟨e66,e618,e619⟩:=AO e66
      replace h59:=((h59.st S564).st S570).st S615
      replace h571:=h571.st S615
      refine AQ rfl h59 (h571.rd) rfl rfl (by decide) e618 e619 rfl fun A620 c621 w622 O623 S624 h625=>?_
      rw [← e66] at h625 ⊢
      have hZ:=S624.lst [5] (fun _ h=>by cases h;decide)
      refine x_go [(7,[7]),(13,[9]),(15,[3]),(17,[3])] hZ (by kernel_rfl) ?_
      refine x_pre (fuel:=7) [7,9] [(14,true)] (by kernel_rfl) rfl ?_
      refine h_fa rfl rfl rfl (AE ?_)
      refine x_one (i:=7) (by kernel_rfl) rfl ?_
      obtain ⟨e68,e627,e628⟩:=AO e68
      replace h61:=(((h61.st S564).st S570).st S615).st S624
      replace h616:=h616.st S624
      refine AQ rfl h61 (h616.rd) rfl rfl (by decide) e627 e628 rfl fun A629 c630 w631 O632 S633 h634=>?_
      rw [← e68] at h634 ⊢
      have hZ:=S633.lst [7] (fun _ h=>by cases h;decide)
      refine x_go [(13,[9]),(15,[3]),(17,[3])] hZ (by kernel_rfl) ?_
      refine x_one (i:=13) (by kernel_rfl) rfl ?_
      obtain ⟨e70,e636,e637⟩:=AO e70
      replace h63:=((((h63.st S564).st S570).st S615).st S624).st S633
      replace h565:=(((h565.st S570).st S615).st S624).st S633
      refine AQ rfl h63 (h565.rd) rfl rfl (by decide) e636 e637 rfl fun A638 c639 w640 O641 S642 h643=>?_
      rw [← e70] at h643 ⊢
      have hZ:=S642.lst [9] (fun _ h=>by cases h;decide)
      refine x_go [(15,[3]),(17,[3])] hZ (by kernel_rfl) ?_
      refine x_one (i:=15) (by kernel_rfl) rfl ?_
      replace h27:=(((((h27.st S564).st S570).st S615).st S624).st S633).st S642
      refine AL h27 rfl rfl rfl (Nat.le_of_ble_eq_true rfl) (by first|exact allOne rfl|simp [Value.cells,Value.oneCell',AJ]) fun w645 S646 h27=>?_
      replace h27:Lc 3 w645 O641 g23 26 [(.slice A620 u65.length c621),(.slice x33.2.2.2.1.1 s32.2.2.2.1.length x33.2.2.2.1.2),(.slice x33.2.2.2.2.1 s32.2.2.2.2.length x33.2.2.2.2.2),(.slice none 0 0)]:=h27
      have hZ:=S646.lst [3] (fun _ h=>by cases h;decide)
      refine x_go [(17,[3])] hZ (by kernel_rfl) ?_
      refine x_pre (fuel:=3) [] [(16,true)] (by kernel_rfl) rfl ?_
      refine h_fa rfl rfl rfl (AE ?_)
      refine x_one (i:=17) (by kernel_rfl) rfl ?_
      refine AL h27 rfl rfl rfl (Nat.le_of_ble_eq_true rfl) (by first|exact allOne rfl|simp [Value.cells,Value.oneCell',AJ]) fun w647 S648 h27=>?_
      replace h27:Lc 3 w647 O641 g23 26 [(.slice A620 u65.length c621),(.slice A629 u67.length c630),(.slice x33.2.2.2.2.1 s32.2.2.2.2.length x33.2.2.2.2.2),(.slice none 0 0)]:=h27
      have hZ:=S648.lst [3] (fun _ h=>by cases h;decide)
      refine x_go [] hZ (by kernel_rfl) ?_
      refine x_pre (fuel:=1) [] [(18,true)] (by kernel_rfl) rfl ?_
      refine h_fa rfl rfl rfl (AE ?_)
      refine x_one (i:=19) (by kernel_rfl) rfl ?_
      refine AL h27 rfl rfl rfl (Nat.le_of_ble_eq_true rfl) (by first|exact allOne rfl|simp [Value.cells,Value.oneCell',AJ]) fun w649 S650 h27=>?_
      replace h27:Lc 3 w649 O641 g23 26 [(.slice A620 u65.length c621),(.slice A629 u67.length c630),(.slice A638 u69.length c639),(.slice none 0 0)]:=h27
      refine x_end (by kernel_rfl) ?_
      refine x_nil (by kernel_rfl) ?_
      obtain rfl:=sm hy72
      replace hB:=((((((((hB.st S564).st S570).st S615).st S624).st S633).st S642).st S646).st S648).st S650
      replace h20:=((((((((h20.st S564).st S570).st S615).st S624).st S633).st S642).st S646).st S648).st S650
      replace h55:=((((((((h55.st S564).st S570).st S615).st S624).st S633).st S642).st S646).st S648).st S650
      replace h57:=((((((((h57.st S564).st S570).st S615).st S624).st S633).st S642).st S646).st S648).st S650
      replace h625:=((((h625.st S633).st S642).st S646).st S648).st S650
      replace h634:=(((h634.st S642).st S646).st S648).st S650
      replace h643:=((h643.st S646).st S648).st S650
      exact ⟨((A620,c621),(A629,c630),(A638,c639)),_,⟨rfl,rfl,rfl,rfl,rfl,rfl,rfl,rfl,trivial⟩,hB,h20,h57,h27,h625,h634,h643,h55⟩
    ·
     refine AR 6 (by decide) O563 (xs:=(([0]:List Int):List Int)) rfl rfl rfl rfl ⟨(vInt (show inI64 (0) from by decide)),trivial⟩ (by decide) (by decide) rfl fun g651 w652 O653 S654 h655=>?_
     have hZ:=S654.lst [] (fun _ h=>h.elim)
     refine x_go [(2,[]),(3,[5]),(7,[7]),(13,[9]),(15,[3]),(17,[3])] hZ (by kernel_rfl) ?_
     refine x_one (i:=2) (by kernel_rfl) rfl ?_
     refine AR 4 (by decide) O653 (xs:=(([2]:List Int):List Int)) rfl rfl rfl rfl ⟨(vInt (show inI64 (2) from by decide)),trivial⟩ (by decide) (by decide) rfl fun g657 w658 O659 S660 h661=>?_
     have hZ:=S660.lst [] (fun _ h=>h.elim)
     refine x_go [(3,[5]),(7,[7]),(13,[9]),(15,[3]),(17,[3])] hZ (by kernel_rfl) ?_
     refine x_one (i:=3) (by kernel_rfl) rfl ?_
     obtain ⟨e66,e663,e664⟩:=AO e66
     replace h59:=((h59.st S564).st S654).st S660
     refine AQ rfl h59 (h661.rd) rfl rfl (by decide) e663 e664 rfl fun A665 c666 w667 O668 S669 h670=>?_
     rw [← e66] at h670 ⊢
     have hZ:=S669.lst [5] (fun _ h=>by cases h;decide)
     refine x_go [(7,[7]),(13,[9]),(15,[3]),(17,[3])] hZ (by kernel_rfl) ?_
     refine x_pre (fuel:=7) [7,9] [(14,true)] (by kernel_rfl) rfl ?_
     refine h_fa rfl rfl rfl (AE ?_)
     refine x_one (i:=7) (by kernel_rfl) rfl ?_
     obtain ⟨e68,e672,e673⟩:=AO e68
     replace h61:=(((h61.st S564).st S654).st S660).st S669
     replace h655:=(h655.st S660).st S669
     refine AQ rfl h61 (h655.rd) rfl rfl (by decide) e672 e673 rfl fun A674 c675 w676 O677 S678 h679=>?_
     rw [← e68] at h679 ⊢
     have hZ:=S678.lst [7] (fun _ h=>by cases h;decide)
     refine x_go [(13,[9]),(15,[3]),(17,[3])] hZ (by kernel_rfl) ?_
     refine x_one (i:=13) (by kernel_rfl) rfl ?_
     obtain ⟨e70,e681,e682⟩:=AO e70
     replace h63:=((((h63.st S564).st S654).st S660).st S669).st S678
     replace h565:=(((h565.st S654).st S660).st S669).st S678
     refine AQ rfl h63 (h565.rd) rfl rfl (by decide) e681 e682 rfl fun A683 c684 w685 O686 S687 h688=>?_
     rw [← e70] at h688 ⊢
     have hZ:=S687.lst [9] (fun _ h=>by cases h;decide)
     refine x_go [(15,[3]),(17,[3])] hZ (by kernel_rfl) ?_
     refine x_one (i:=15) (by kernel_rfl) rfl ?_
     replace h27:=(((((h27.st S564).st S654).st S660).st S669).st S678).st S687
     refine AL h27 rfl rfl rfl (Nat.le_of_ble_eq_true rfl) (by first|exact allOne rfl|simp [Value.cells,Value.oneCell',AJ]) fun w690 S691 h27=>?_
     replace h27:Lc 3 w690 O686 g23 26 [(.slice A665 u65.length c666),(.slice x33.2.2.2.1.1 s32.2.2.2.1.length x33.2.2.2.1.2),(.slice x33.2.2.2.2.1 s32.2.2.2.2.length x33.2.2.2.2.2),(.slice none 0 0)]:=h27
     have hZ:=S691.lst [3] (fun _ h=>by cases h;decide)
     refine x_go [(17,[3])] hZ (by kernel_rfl) ?_
     refine x_pre (fuel:=3) [] [(16,true)] (by kernel_rfl) rfl ?_
     refine h_fa rfl rfl rfl (AE ?_)
     refine x_one (i:=17) (by kernel_rfl) rfl ?_
     refine AL h27 rfl rfl rfl (Nat.le_of_ble_eq_true rfl) (by first|exact allOne rfl|simp [Value.cells,Value.oneCell',AJ]) fun w692 S693 h27=>?_
     replace h27:Lc 3 w692 O686 g23 26 [(.slice A665 u65.length c666),(.slice A674 u67.length c675),(.slice x33.2.2.2.2.1 s32.2.2.2.2.length x33.2.2.2.2.2),(.slice none 0 0)]:=h27
     have hZ:=S693.lst [3] (fun _ h=>by cases h;decide)
     refine x_go [] hZ (by kernel_rfl) ?_
     refine x_pre (fuel:=1) [] [(18,true)] (by kernel_rfl) rfl ?_
     refine h_fa rfl rfl rfl (AE ?_)
     refine x_one (i:=19) (by kernel_rfl) rfl ?_
     refine AL h27 rfl rfl rfl (Nat.le_of_ble_eq_true rfl) (by first|exact allOne rfl|simp [Value.cells,Value.oneCell',AJ]) fun w694 S695 h27=>?_
     replace h27:Lc 3 w694 O686 g23 26 [(.slice A665 u65.length c666),(.slice A674 u67.length c675),(.slice A683 u69.length c684),(.slice none 0 0)]:=h27
     refine x_end (by kernel_rfl) ?_
     refine x_nil (by kernel_rfl) ?_
     obtain rfl:=sm hy72
     replace hB:=((((((((hB.st S564).st S654).st S660).st S669).st S678).st S687).st S691).st S693).st S695
     replace h20:=((((((((h20.st S564).st S654).st S660).st S669).st S678).st S687).st S691).st S693).st S695
     replace h55:=((((((((h55.st S564).st S654).st S660).st S669).st S678).st S687).st S691).st S693).st S695
     replace h57:=((((((((h57.st S564).st S654).st S660).st S669).st S678).st S687).st S691).st S693).st S695
     replace h670:=((((h670.st S678).st S687).st S691).st S693).st S695
     replace h679:=(((h679.st S687).st S691).st S693).st S695
     replace h688:=((h688.st S691).st S693).st S695
     exact ⟨((A665,c666),(A674,c675),(A683,c684)),_,⟨rfl,rfl,rfl,rfl,rfl,rfl,rfl,rfl,trivial⟩,hB,h20,h57,h27,h670,h679,h688,h55⟩
  rintro l696 w697 ⟨x74,O698,hs699,hB,h20,h57,h27,h75,h77,h79,h55⟩
  refine AW _ hs699 ?_
  refine Ah (Ah (Ae (o_mv rfl rfl (o_z ?_))))
  obtain ⟨res700,hL701,hf40⟩:=bs hf40
  refine AT (aft res700 (fun (s702:(List Eff)) (x703:(Option Addr×Nat))=>[(1,(.int .i64 x1)),(5,(.int .i64 n13)),(6,(.pointer (some ⟨g16,0,none⟩))),(7,(.pointer (some ⟨g23,0,none⟩))),(8,(.slice x33.1.1 s32.1.length x33.1.2)),(9,(.int .i64 (k34:Int))),(26,(.int .i64 (N43:Int))),(27,(.int .i64 (k34:Int)))]) (fun s702 x703 w'=>∃ O':Lab,Bs w A w' O'∧Lc 2 w' O' g16 55 [(.string (⟨#[]⟩:ByteArray)),(.int .i64 1),(.slice none 0 0),(.slice x703.1 s702.length x703.2)]∧Rw 13 w' O' 59 (.slice x703.1 s702.length x703.2) s702∧Lc 3 w' O' g23 26 [(.slice x74.1.1 y71.1.length x74.1.2),(.slice x74.2.1.1 y71.2.1.length x74.2.1.2),(.slice x74.2.2.1 y71.2.2.length x74.2.2.2),(.slice none 0 0)]∧Rw 5 w' O' 3 (.slice x74.1.1 y71.1.length x74.1.2) y71.1∧Rw 7 w' O' 3 (.slice x74.2.1.1 y71.2.1.length x74.2.1.2) y71.2.1∧Rw 9 w' O' 57 (.slice x74.2.2.1 y71.2.2.length x74.2.2.2) y71.2.2∧Rw 14 w' O' 57 (.slice x33.1.1 s32.1.length x33.1.2) s32.1)) ?_ ?_
  ·
   refine Al (Jw (σ:=(List Eff)) (X:=(Option Addr×Nat)) (N:=2) rfl hL701 (by decide) (fun (s702:(List Eff)) (x703:(Option Addr×Nat))=>[(1,(.int .i64 x1)),(5,(.int .i64 n13)),(6,(.pointer (some ⟨g16,0,none⟩))),(7,(.pointer (some ⟨g23,0,none⟩))),(8,(.slice x33.1.1 s32.1.length x33.1.2)),(9,(.int .i64 (k34:Int))),(26,(.int .i64 (N43:Int))),(27,(.int .i64 (k34:Int)))]) _ (fun s702 x703 w'=>∃ O':Lab,Bs w A w' O'∧Lc 2 w' O' g16 55 [(.string (⟨#[]⟩:ByteArray)),(.int .i64 1),(.slice none 0 0),(.slice x703.1 s702.length x703.2)]∧Rw 13 w' O' 59 (.slice x703.1 s702.length x703.2) s702∧Lc 3 w' O' g23 26 [(.slice x74.1.1 y71.1.length x74.1.2),(.slice x74.2.1.1 y71.2.1.length x74.2.1.2),(.slice x74.2.2.1 y71.2.2.length x74.2.2.2),(.slice none 0 0)]∧Rw 5 w' O' 3 (.slice x74.1.1 y71.1.length x74.1.2) y71.1∧Rw 7 w' O' 3 (.slice x74.2.1.1 y71.2.1.length x74.2.1.2) y71.2.1∧Rw 9 w' O' 57 (.slice x74.2.2.1 y71.2.2.length x74.2.2.2) y71.2.2∧Rw 14 w' O' 57 (.slice x33.1.1 s32.1.length x33.1.2) s32.1) _ (x33.2.1.1,x33.2.1.2) ⟨O698,hB,h20,h57,h27,h75,h77,h79,h55⟩ ⟨rfl,rfl,rfl,rfl,rfl,rfl,rfl,rfl,rfl,trivial⟩ (fun _ _=>⟨rfl,rfl⟩) (fun _ _=>⟨rfl,rfl,rfl,rfl,rfl,rfl,rfl,rfl,trivial⟩) (fun _ _ _ ⟨O',hB,h20,h717,h27,h75,h77,h79,h55⟩=>⟨O',hB,h20,h717,h27,h75,h77,h79,h55⟩) ⟨rfl,rfl,rfl⟩ ?_)
   rintro k704 s702 x703 w706 cc708 hx709 ⟨O707,hB,h20,h717,h27,h75,h77,h79,h55⟩ hf710 hret711 hbrk712
   have rk704:inI64 (k704:Int):=rngKN hx709 (by decide)
   refine Ah (Ae (o_mv rfl rfl (o_as rfl rfl (o_z ?_))))
   obtain ⟨n719,e720,hf710⟩:=bs hf710
   obtain ⟨u721,e722,hf710⟩:=bs hf710
   obtain ⟨u723,e724,hf710⟩:=bs hf710
   obtain ⟨u725,e726,hf710⟩:=bs hf710
   refine BK [(2,[]),(4,[10]),(8,[]),(9,[10]),(14,[10]),(15,[13])] O707 ?_
   refine x_pre (fuel:=17) [] [(3,true)] (by kernel_rfl) rfl ?_
   refine h_mv rfl rfl rfl (AE ?_)
   refine x_pre (fuel:=9) [10] [(0,true),(1,true),(5,true),(6,true),(7,true),(10,true),(11,true),(12,true)] (by kernel_rfl) rfl ?_
   refine h_fa rfl rfl rfl (h_ldC (hc:=fun w' ⟨O',hq⟩=>Blk.cell (i:=3) ((h20.st hq (by decide)).1) rfl) rfl rfl rfl ?_)
   refine h_mv rfl rfl rfl (h_mv rfl rfl rfl (h_bd rfl rfl rfl rfl ?_))
   refine h_mv rfl rfl rfl (h_mv rfl rfl rfl ?_)
   have r727:=(Bl e720)
   refine h_sbE (he:=e720) rfl rfl rfl rfl ?_
   refine AE ?_
   refine x_two (i:=2) (j:=8) (by kernel_rfl) rfl rfl ?_ ?_
   ·
    refine AR 10 (by decide) O707 (xs:=(([]:List Fct):List Fct)) rfl rfl rfl rfl trivial (by decide) (by decide) rfl fun g728 w729 O730 S731 h732=>?_
    have hZ:=S731.lst [] (fun _ h=>h.elim)
    refine x_go [(4,[10]),(8,[]),(9,[10]),(14,[10]),(15,[13])] hZ (by kernel_rfl) ?_
    refine x_two (i:=4) (j:=8) (by kernel_rfl) rfl rfl ?_ ?_
    ·
     obtain ⟨e722,e734,e735⟩:=AO e722
     replace h55:=h55.st S731
     refine AQ rfl h732 (h55.rd) rfl rfl (by decide) e734 e735 rfl fun A736 c737 w738 O739 S740 h741=>?_
     rw [← e722] at h741 ⊢
     have hZ:=S740.lst [10] (fun _ h=>by cases h;decide)
     refine x_go [(8,[]),(9,[10]),(14,[10]),(15,[13])] hZ (by kernel_rfl) ?_
     refine x_one (i:=8) (by kernel_rfl) rfl ?_
     refine AR 11 (by decide) O739 (xs:=([(⟨(k34:Int),(k704:Int)⟩:Fct)]:List Fct)) rfl rfl rfl rfl ⟨(Vb.ofAgg (cs:=[(.int .i64 (k34:Int)),(.int .i64 (k704:Int))]) (x:=(⟨(k34:Int),(k704:Int)⟩:Fct)) rfl ⟨rfl,rk34,rk704⟩),trivial⟩ (by decide) (by decide) rfl fun g743 w744 O745 S746 h747=>?_
     have hZ:=S746.lst [] (fun _ h=>h.elim)
     refine x_go [(9,[10]),(14,[10]),(15,[13])] hZ (by kernel_rfl) ?_
     refine x_one (i:=9) (by kernel_rfl) rfl ?_
     obtain ⟨e724,e749,e750⟩:=AO e724
     replace h741:=h741.st S746
     refine AQ rfl h741 (h747.rd) rfl rfl (by decide) e749 e750 rfl fun A751 c752 w753 O754 S755 h756=>?_
     rw [← e724] at h756 ⊢
     have hZ:=S755.lst [10] (fun _ h=>by cases h;decide)
     refine x_go [(14,[10]),(15,[13])] hZ (by kernel_rfl) ?_
     refine x_pre (fuel:=4) [] [(13,true)] (by kernel_rfl) rfl ?_
     refine h_bd rfl rfl rfl rfl ?_
     refine AE ?_
     refine x_one (i:=14) (by kernel_rfl) rfl ?_
     obtain ⟨O758,S759,h756⟩:=h756.freeze
     have hZ:=S759.lst [10] (fun _ h=>by cases h;decide)
     refine AR 12 (by decide) O758 (xs:=([(⟨u723,(k34:Int),n719⟩:Eff)]:List Eff)) rfl rfl rfl rfl ⟨(Vb.ofAgg (cs:=[(.slice A751 u723.length c752),(.int .i64 (k34:Int)),(.int .i64 n719)]) (x:=(⟨u723,(k34:Int),n719⟩:Eff)) rfl ⟨_,rfl,h756,rk34,r727⟩),trivial⟩ (by decide) (by decide) rfl fun g760 w761 O762 S763 h764=>?_
     replace hZ:=hZ.cmp S763 [10] (fun _ h=>h.elim) rfl
     refine x_go [(15,[13])] hZ (by kernel_rfl) ?_
     refine x_one (i:=15) (by kernel_rfl) rfl ?_
     obtain ⟨e726,e766,e767⟩:=AO e726
     replace h717:=(((((h717.st S731).st S740).st S746).st S755).st S759).st S763
     refine AQ rfl h717 (h764.rd) rfl rfl (by decide) e766 e767 rfl fun A768 c769 w770 O771 S772 h773=>?_
     rw [← e726] at h773 ⊢
     have hZ:=S772.lst [13] (fun _ h=>by cases h;decide)
     refine x_go [] hZ (by kernel_rfl) ?_
     refine x_pre (fuel:=1) [] [(16,true)] (by kernel_rfl) rfl ?_
     refine h_fa rfl rfl rfl (AE ?_)
     refine x_one (i:=17) (by kernel_rfl) rfl ?_
     replace h20:=((((((h20.st S731).st S740).st S746).st S755).st S759).st S763).st S772
     refine AL h20 rfl rfl rfl (Nat.le_of_ble_eq_true rfl) (by first|exact allOne rfl|simp [Value.cells,Value.oneCell',AJ]) fun w775 S776 h20=>?_
     replace h20:Lc 2 w775 O771 g16 55 [(.string (⟨#[]⟩:ByteArray)),(.int .i64 1),(.slice none 0 0),(.slice A768 u725.length c769)]:=h20
     refine x_end (by kernel_rfl) ?_
     refine x_nil (by kernel_rfl) ?_
     obtain rfl:=sm hf710
     refine (?_:Exists _)
     replace hB:=(((((((hB.st S731).st S740).st S746).st S755).st S759).st S763).st S772).st S776
     replace h27:=(((((((h27.st S731).st S740).st S746).st S755).st S759).st S763).st S772).st S776
     replace h55:=((((((h55.st S740).st S746).st S755).st S759).st S763).st S772).st S776
     replace h75:=(((((((h75.st S731).st S740).st S746).st S755).st S759).st S763).st S772).st S776
     replace h77:=(((((((h77.st S731).st S740).st S746).st S755).st S759).st S763).st S772).st S776
     replace h79:=(((((((h79.st S731).st S740).st S746).st S755).st S759).st S763).st S772).st S776
     replace h773:=h773.st S776
     exact ⟨_,(A768,c769),rfl,⟨rfl,rfl,rfl,rfl,rfl,rfl,rfl,rfl,rfl,trivial⟩,_,hB,h20,h773,h27,h75,h77,h79,h55⟩
    ·
     refine AR 11 (by decide) O730 (xs:=([(⟨(k34:Int),(k704:Int)⟩:Fct)]:List Fct)) rfl rfl rfl rfl ⟨(Vb.ofAgg (cs:=[(.int .i64 (k34:Int)),(.int .i64 (k704:Int))]) (x:=(⟨(k34:Int),(k704:Int)⟩:Fct)) rfl ⟨rfl,rk34,rk704⟩),trivial⟩ (by decide) (by decide) rfl fun g777 w778 O779 S780 h781=>?_
     have hZ:=S780.lst [] (fun _ h=>h.elim)
     refine x_go [(4,[10]),(9,[10]),(14,[10]),(15,[13])] hZ (by kernel_rfl) ?_
     refine x_one (i:=4) (by kernel_rfl) rfl ?_
     obtain ⟨e722,e783,e784⟩:=AO e722
     replace h55:=(h55.st S731).st S780
     replace h732:=h732.st S780
     refine AQ rfl h732 (h55.rd) rfl rfl (by decide) e783 e784 rfl fun A785 c786 w787 O788 S789 h790=>?_
     rw [← e722] at h790 ⊢
     have hZ:=S789.lst [10] (fun _ h=>by cases h;decide)
     refine x_go [(9,[10]),(14,[10]),(15,[13])] hZ (by kernel_rfl) ?_
     refine x_one (i:=9) (by kernel_rfl) rfl ?_
     obtain ⟨e724,e792,e793⟩:=AO e724
     replace h781:=h781.st S789
     refine AQ rfl h790 (h781.rd) rfl rfl (by decide) e792 e793 rfl fun A794 c795 w796 O797 S798 h799=>?_
     rw [← e724] at h799 ⊢
     have hZ:=S798.lst [10] (fun _ h=>by cases h;decide)
     refine x_go [(14,[10]),(15,[13])] hZ (by kernel_rfl) ?_
     refine x_pre (fuel:=4) [] [(13,true)] (by kernel_rfl) rfl ?_
     refine h_bd rfl rfl rfl rfl ?_
     refine AE ?_
     refine x_one (i:=14) (by kernel_rfl) rfl ?_
     obtain ⟨O801,S802,h799⟩:=h799.freeze
     have hZ:=S802.lst [10] (fun _ h=>by cases h;decide)
     refine AR 12 (by decide) O801 (xs:=([(⟨u723,(k34:Int),n719⟩:Eff)]:List Eff)) rfl rfl rfl rfl ⟨(Vb.ofAgg (cs:=[(.slice A794 u723.length c795),(.int .i64 (k34:Int)),(.int .i64 n719)]) (x:=(⟨u723,(k34:Int),n719⟩:Eff)) rfl ⟨_,rfl,h799,rk34,r727⟩),trivial⟩ (by decide) (by decide) rfl fun g803 w804 O805 S806 h807=>?_
     replace hZ:=hZ.cmp S806 [10] (fun _ h=>h.elim) rfl
     refine x_go [(15,[13])] hZ (by kernel_rfl) ?_
     refine x_one (i:=15) (by kernel_rfl) rfl ?_
     obtain ⟨e726,e809,e810⟩:=AO e726
     replace h717:=(((((h717.st S731).st S780).st S789).st S798).st S802).st S806
     refine AQ rfl h717 (h807.rd) rfl rfl (by decide) e809 e810 rfl fun A811 c812 w813 O814 S815 h816=>?_
     rw [← e726] at h816 ⊢
     have hZ:=S815.lst [13] (fun _ h=>by cases h;decide)
     refine x_go [] hZ (by kernel_rfl) ?_
     refine x_pre (fuel:=1) [] [(16,true)] (by kernel_rfl) rfl ?_
     refine h_fa rfl rfl rfl (AE ?_)
     refine x_one (i:=17) (by kernel_rfl) rfl ?_
     replace h20:=((((((h20.st S731).st S780).st S789).st S798).st S802).st S806).st S815
     refine AL h20 rfl rfl rfl (Nat.le_of_ble_eq_true rfl) (by first|exact allOne rfl|simp [Value.cells,Value.oneCell',AJ]) fun w818 S819 h20=>?_
     replace h20:Lc 2 w818 O814 g16 55 [(.string (⟨#[]⟩:ByteArray)),(.int .i64 1),(.slice none 0 0),(.slice A811 u725.length c812)]:=h20
     refine x_end (by kernel_rfl) ?_
     refine x_nil (by kernel_rfl) ?_
     obtain rfl:=sm hf710
     refine (?_:Exists _)
     replace hB:=(((((((hB.st S731).st S780).st S789).st S798).st S802).st S806).st S815).st S819
     replace h27:=(((((((h27.st S731).st S780).st S789).st S798).st S802).st S806).st S815).st S819
     replace h55:=(((((h55.st S789).st S798).st S802).st S806).st S815).st S819
     replace h75:=(((((((h75.st S731).st S780).st S789).st S798).st S802).st S806).st S815).st S819
     replace h77:=(((((((h77.st S731).st S780).st S789).st S798).st S802).st S806).st S815).st S819
     replace h79:=(((((((h79.st S731).st S780).st S789).st S798).st S802).st S806).st S815).st S819
     replace h816:=h816.st S819
     exact ⟨_,(A811,c812),rfl,⟨rfl,rfl,rfl,rfl,rfl,rfl,rfl,rfl,rfl,trivial⟩,_,hB,h20,h816,h27,h75,h77,h79,h55⟩
   ·
    refine AR 11 (by decide) O707 (xs:=([(⟨(k34:Int),(k704:Int)⟩:Fct)]:List Fct)) rfl rfl rfl rfl ⟨(Vb.ofAgg (cs:=[(.int .i64 (k34:Int)),(.int .i64 (k704:Int))]) (x:=(⟨(k34:Int),(k704:Int)⟩:Fct)) rfl ⟨rfl,rk34,rk704⟩),trivial⟩ (by decide) (by decide) rfl fun g820 w821 O822 S823 h824=>?_
    have hZ:=S823.lst [] (fun _ h=>h.elim)
    refine x_go [(2,[]),(4,[10]),(9,[10]),(14,[10]),(15,[13])] hZ (by kernel_rfl) ?_
    refine x_one (i:=2) (by kernel_rfl) rfl ?_
    refine AR 10 (by decide) O822 (xs:=(([]:List Fct):List Fct)) rfl rfl rfl rfl trivial (by decide) (by decide) rfl fun g826 w827 O828 S829 h830=>?_
    have hZ:=S829.lst [] (fun _ h=>h.elim)
    refine x_go [(4,[10]),(9,[10]),(14,[10]),(15,[13])] hZ (by kernel_rfl) ?_
    refine x_one (i:=4) (by kernel_rfl) rfl ?_
    obtain ⟨e722,e832,e833⟩:=AO e722
    replace h55:=(h55.st S823).st S829
    refine AQ rfl h830 (h55.rd) rfl rfl (by decide) e832 e833 rfl fun A834 c835 w836 O837 S838 h839=>?_
    rw [← e722] at h839 ⊢
    have hZ:=S838.lst [10] (fun _ h=>by cases h;decide)
    refine x_go [(9,[10]),(14,[10]),(15,[13])] hZ (by kernel_rfl) ?_
    refine x_one (i:=9) (by kernel_rfl) rfl ?_
    obtain ⟨e724,e841,e842⟩:=AO e724
    replace h824:=(h824.st S829).st S838
    refine AQ rfl h839 (h824.rd) rfl rfl (by decide) e841 e842 rfl fun A843 c844 w845 O846 S847 h848=>?_
    rw [← e724] at h848 ⊢
    have hZ:=S847.lst [10] (fun _ h=>by cases h;decide)
    refine x_go [(14,[10]),(15,[13])] hZ (by kernel_rfl) ?_
    refine x_pre (fuel:=4) [] [(13,true)] (by kernel_rfl) rfl ?_
    refine h_bd rfl rfl rfl rfl ?_
    refine AE ?_
    refine x_one (i:=14) (by kernel_rfl) rfl ?_
    obtain ⟨O850,S851,h848⟩:=h848.freeze
    have hZ:=S851.lst [10] (fun _ h=>by cases h;decide)
    refine AR 12 (by decide) O850 (xs:=([(⟨u723,(k34:Int),n719⟩:Eff)]:List Eff)) rfl rfl rfl rfl ⟨(Vb.ofAgg (cs:=[(.slice A843 u723.length c844),(.int .i64 (k34:Int)),(.int .i64 n719)]) (x:=(⟨u723,(k34:Int),n719⟩:Eff)) rfl ⟨_,rfl,h848,rk34,r727⟩),trivial⟩ (by decide) (by decide) rfl fun g852 w853 O854 S855 h856=>?_
    replace hZ:=hZ.cmp S855 [10] (fun _ h=>h.elim) rfl
    refine x_go [(15,[13])] hZ (by kernel_rfl) ?_
    refine x_one (i:=15) (by kernel_rfl) rfl ?_
    obtain ⟨e726,e858,e859⟩:=AO e726
    replace h717:=(((((h717.st S823).st S829).st S838).st S847).st S851).st S855
    refine AQ rfl h717 (h856.rd) rfl rfl (by decide) e858 e859 rfl fun A860 c861 w862 O863 S864 h865=>?_
    rw [← e726] at h865 ⊢
    have hZ:=S864.lst [13] (fun _ h=>by cases h;decide)
    refine x_go [] hZ (by kernel_rfl) ?_
    refine x_pre (fuel:=1) [] [(16,true)] (by kernel_rfl) rfl ?_
    refine h_fa rfl rfl rfl (AE ?_)
    refine x_one (i:=17) (by kernel_rfl) rfl ?_
    replace h20:=((((((h20.st S823).st S829).st S838).st S847).st S851).st S855).st S864
    refine AL h20 rfl rfl rfl (Nat.le_of_ble_eq_true rfl) (by first|exact allOne rfl|simp [Value.cells,Value.oneCell',AJ]) fun w867 S868 h20=>?_
    replace h20:Lc 2 w867 O863 g16 55 [(.string (⟨#[]⟩:ByteArray)),(.int .i64 1),(.slice none 0 0),(.slice A860 u725.length c861)]:=h20
    refine x_end (by kernel_rfl) ?_
    refine x_nil (by kernel_rfl) ?_
    obtain rfl:=sm hf710
    refine (?_:Exists _)
    replace hB:=(((((((hB.st S823).st S829).st S838).st S847).st S851).st S855).st S864).st S868
    replace h27:=(((((((h27.st S823).st S829).st S838).st S847).st S851).st S855).st S864).st S868
    replace h55:=(((((h55.st S838).st S847).st S851).st S855).st S864).st S868
    replace h75:=(((((((h75.st S823).st S829).st S838).st S847).st S851).st S855).st S864).st S868
    replace h77:=(((((((h77.st S823).st S829).st S838).st S847).st S851).st S855).st S864).st S868
    replace h79:=(((((((h79.st S823).st S829).st S838).st S847).st S851).st S855).st S864).st S868
    replace h865:=h865.st S868
    exact ⟨_,(A860,c861),rfl,⟨rfl,rfl,rfl,rfl,rfl,rfl,rfl,rfl,rfl,trivial⟩,_,hB,h20,h865,h27,h75,h77,h79,h55⟩
  rintro l869 w870 ⟨s873,x874,rfl,hs872,O871,hB,h20,h717,h27,h75,h77,h79,h55⟩
  replace hf40:=Br hf40
  refine AW _ hs872 ?_
  refine Ae (o_mv rfl rfl (o_mv rfl rfl (o_bd rfl rfl rfl ?_)))
  obtain ⟨u875,e876,hf40⟩:=bs hf40
  obtain ⟨e876,e877,e878⟩:=AO e876
  refine Ds rfl (a:=(⟨(k34:Int),1⟩:Fct)) h55 (Vb.ofAgg (cs:=[(.int .i64 (k34:Int)),(.int .i64 1)]) (x:=(⟨(k34:Int),1⟩:Fct)) rfl ⟨rfl,rk34,(show inI64 (1) from by decide)⟩) (fun _=>rfl) rfl (by decide) (by decide) e877 e878 ⟨rfl,rfl⟩ fun g879 A880 c881 w882 O883 S884 h885=>?_
  rw [← e876] at h885 ⊢
  refine o_as rfl rfl (o_z ?_)
  obtain rfl:=sm hf40
  refine (?_:Exists _)
  replace hB:=hB.st S884
  replace h20:=h20.st S884
  replace h27:=h27.st S884
  replace h75:=h75.st S884
  replace h77:=h77.st S884
  replace h79:=h79.st S884
  replace h717:=h717.st S884
  exact ⟨_,((A880,c881),(x874.1,x874.2),(x74.1.1,x74.1.2),(x74.2.1.1,x74.2.1.2),(x74.2.2.1,x74.2.2.2)),rfl,⟨rfl,rfl,rfl,rfl,rfl,rfl,rfl,trivial⟩,_,hB,h20,h717,h27,h75,h77,h79,h885⟩
 replace hB:=((((hB.st S7).st S19).st S22).st S26).st S29
 replace h20:=(h20.st S26).st S29
 rintro l887 w888 ⟨s891,x892,rfl,hs890,O889,hB,h20,h57,h27,h59,h61,h63⟩
 replace hm:=Br hm
 refine AW _ hs890 ?_
 refine Ah (Ae (o_la (hl:=rfl) (hc:=(h20.1).cellsAt) rfl rfl ?_))
 obtain ⟨O893,S894,h57⟩:=h57.freeze
 refine AR 15 (by decide) O893 (xs:=([(⟨(⟨#[]⟩:ByteArray),1,([]:List Fct),s891.2.1⟩:Opr)]:List Opr)) rfl rfl rfl rfl ⟨(Vb.ofAgg (cs:=[(.string (⟨#[]⟩:ByteArray)),(.int .i64 1),(.slice none 0 0),(.slice x892.2.1.1 s891.2.1.length x892.2.1.2)]) (x:=(⟨(⟨#[]⟩:ByteArray),1,([]:List Fct),s891.2.1⟩:Opr)) rfl ⟨_,_,rfl,(Vb.nil _ _),h57,(show inI64 (1) from by decide),(show (⟨#[]⟩:ByteArray).size≤9223372036854775807 from by decide)⟩),trivial⟩ (by decide) (by decide) rfl fun g895 w896 O897 S898 h899=>?_
 refine o_fa rfl rfl ?_
 replace h27:=(h27.st S894).st S898
 refine AL h27 rfl rfl rfl (Nat.le_of_ble_eq_true rfl) (by first|exact allOne rfl|simp [Value.cells,Value.oneCell',AJ]) fun w901 S902 h27=>?_
 replace h27:Lc 3 w901 O897 g23 26 [(.slice x892.2.2.1.1 s891.2.2.1.length x892.2.2.1.2),(.slice x892.2.2.2.1.1 s891.2.2.2.1.length x892.2.2.2.1.2),(.slice x892.2.2.2.2.1 s891.2.2.2.2.length x892.2.2.2.2.2),(.slice (some ⟨g895,0,none⟩) [(⟨(⟨#[]⟩:ByteArray),1,([]:List Fct),s891.2.1⟩:Opr)].length 1)]:=h27
 refine o_z ?_
 refine Ah (Ae (o_mv rfl rfl ?_))
 obtain ⟨n903,e904,hm⟩:=bs hm
 have r905:=JH e904
 refine o_ish (he:=e904) rfl rfl rfl ?_
 obtain ⟨n906,e907,hm⟩:=bs hm
 have r908:=(Bl e907)
 refine o_sbE (he:=e907) rfl rfl rfl ?_
 refine o_as rfl rfl (o_z ?_)
 refine Ah (Ae (o_la (hl:=rfl) (hc:=(h27.1).cellsAt) rfl rfl ?_))
 refine o_mv rfl rfl ?_
 replace h59:=((h59.st S894).st S898).st S902
 obtain ⟨O909,S910,h59⟩:=h59.freeze
 replace h61:=(((h61.st S894).st S898).st S902).st S910
 obtain ⟨O911,S912,h61⟩:=h61.freeze
 replace h63:=((((h63.st S894).st S898).st S902).st S910).st S912
 obtain ⟨O913,S914,h63⟩:=h63.freeze
 replace h899:=(((h899.st S902).st S910).st S912).st S914
 obtain ⟨O915,S916,h899⟩:=h899.freeze
 obtain ⟨q917,e918,hm⟩:=bs hm
 replace h59:=((h59.st S912).st S914).st S916
 replace h61:=(h61.st S914).st S916
 replace h63:=h63.st S916
 refine Cv (O:=O915) (R:=fun w' F v=>T2 w' F v q917) (FB Fr.lt (Vb.ofAgg (cs:=[(.slice x892.2.2.1.1 s891.2.2.1.length x892.2.2.1.2),(.slice x892.2.2.2.1.1 s891.2.2.2.1.length x892.2.2.2.1.2),(.slice x892.2.2.2.2.1 s891.2.2.2.2.length x892.2.2.2.2.2),(.slice (some ⟨g895,0,none⟩) [(⟨(⟨#[]⟩:ByteArray),1,([]:List Fct),s891.2.1⟩:Opr)].length 1)]) (x:=(⟨s891.2.2.1,s891.2.2.2.1,s891.2.2.2.2,[(⟨(⟨#[]⟩:ByteArray),1,([]:List Fct),s891.2.1⟩:Opr)]⟩:Tsk)) rfl ⟨_,_,_,_,rfl,h59,h61,h63,h899⟩) rx1 e918) rfl rfl fun v923 w919 O920 S921 h922=>?_
 obtain ⟨v924,v925,rfl,h926,h927⟩:=h922
 obtain ⟨cs928,rfl,v929,rfl,h930,r933,r934,r935⟩:=h926
 obtain ⟨A931,c932,rfl⟩:=h930.form
 obtain ⟨rfl,r936⟩:=h927.err
 refine o_mv rfl rfl (o_ex rfl rfl rfl (o_ex rfl rfl rfl (BR 16 O920 rfl fun g937 w938 O939 S940 h941=>?_)))
 refine AL h941 rfl rfl rfl (Nat.le_of_ble_eq_true rfl) (by first|exact allOne rfl|simp [Value.cells,Value.oneCell',AJ]) fun w942 S943 h941=>?_
 replace h941:Lc 16 w942 O939 g937 30 [(.int .i64 q917.1.verdict),(.slice A931 q917.1.plan.length c932),(.int .i64 q917.1.cost),(.int .i64 q917.1.expanded)]:=h941
 refine o_as rfl rfl (o_z ?_)
 refine Ah (Ae ?_)
 replace h27:=((((((h27.st S910).st S912).st S914).st S916).st S921).st S940).st S943
 refine o_la (hl:=rfl) (hc:=(h27.1).cellsAt) rfl rfl ?_
 refine o_mv rfl rfl ?_
 obtain ⟨q944,e945,hm⟩:=bs hm
 replace h59:=((h59.st S921).st S940).st S943
 replace h61:=((h61.st S921).st S940).st S943
 replace h63:=((h63.st S921).st S940).st S943
 replace h899:=((h899.st S921).st S940).st S943
 refine Cv (O:=O939) (R:=fun w' F v=>T2 w' F v q944) (Fj Fr.lt (Vb.ofAgg (cs:=[(.slice x892.2.2.1.1 s891.2.2.1.length x892.2.2.1.2),(.slice x892.2.2.2.1.1 s891.2.2.2.1.length x892.2.2.2.1.2),(.slice x892.2.2.2.2.1 s891.2.2.2.2.length x892.2.2.2.2.2),(.slice (some ⟨g895,0,none⟩) [(⟨(⟨#[]⟩:ByteArray),1,([]:List Fct),s891.2.1⟩:Opr)].length 1)]) (x:=(⟨s891.2.2.1,s891.2.2.2.1,s891.2.2.2.2,[(⟨(⟨#[]⟩:ByteArray),1,([]:List Fct),s891.2.1⟩:Opr)]⟩:Tsk)) rfl ⟨_,_,_,_,rfl,h59,h61,h63,h899⟩) rx1 e945) rfl rfl fun v950 w946 O947 S948 h949=>?_
 obtain ⟨v951,v952,rfl,h953,h954⟩:=h949
 obtain ⟨cs955,rfl,v956,rfl,h957,r960,r961,r962⟩:=h953
 obtain ⟨A958,c959,rfl⟩:=h957.form
 obtain ⟨rfl,r963⟩:=h954.err
 refine o_mv rfl rfl (o_ex rfl rfl rfl (o_ex rfl rfl rfl (BR 17 O947 rfl fun g964 w965 O966 S967 h968=>?_)))
 refine AL h968 rfl rfl rfl (Nat.le_of_ble_eq_true rfl) (by first|exact allOne rfl|simp [Value.cells,Value.oneCell',AJ]) fun w969 S970 h968=>?_
 replace h968:Lc 17 w969 O966 g964 30 [(.int .i64 q944.1.verdict),(.slice A958 q944.1.plan.length c959),(.int .i64 q944.1.cost),(.int .i64 q944.1.expanded)]:=h968
 refine o_as rfl rfl (o_z ?_)
 refine Ah (Ae ?_)
 replace h27:=((h27.st S948).st S967).st S970
 refine o_la (hl:=rfl) (hc:=(h27.1).cellsAt) rfl rfl ?_
 refine o_mv rfl rfl ?_
 obtain ⟨q971,e972,hm⟩:=bs hm
 replace h59:=((h59.st S948).st S967).st S970
 replace h61:=((h61.st S948).st S967).st S970
 replace h63:=((h63.st S948).st S967).st S970
 replace h899:=((h899.st S948).st S967).st S970
 refine Cf (O:=O966) (A:=All w969) (R:=fun w' F v=>T2 w' F v q971) (EI (fun _ h=>h) (Vb.mono (F:=Fr 0 w969 O966) (Vb.ofAgg (cs:=[(.slice x892.2.2.1.1 s891.2.2.1.length x892.2.2.1.2),(.slice x892.2.2.2.1.1 s891.2.2.2.1.length x892.2.2.2.1.2),(.slice x892.2.2.2.2.1 s891.2.2.2.2.length x892.2.2.2.2.2),(.slice (some ⟨g895,0,none⟩) [(⟨(⟨#[]⟩:ByteArray),1,([]:List Fct),s891.2.1⟩:Opr)].length 1)]) (x:=(⟨s891.2.2.1,s891.2.2.2.1,s891.2.2.2.2,[(⟨(⟨#[]⟩:ByteArray),1,([]:List Fct),s891.2.1⟩:Opr)]⟩:Tsk)) rfl ⟨_,_,_,_,rfl,h59,h61,h63,h899⟩) Fr.lt) rx1 e972) rfl rfl fun v977 w973 O974 S975 h976=>?_
 obtain ⟨v978,v979,rfl,h980,h981⟩:=h976
 obtain ⟨rfl,r982⟩:=h980.int
 obtain ⟨rfl,r983⟩:=h981.err
 refine o_mv rfl rfl (o_ex rfl rfl rfl (o_ex rfl rfl rfl (o_as rfl rfl (o_as rfl rfl (o_z ?_)))))
 refine Ah (Ah ?_)
 obtain ⟨y984,hy985,hm⟩:=bs hm
 refine AT (fun l' w'=>∃ (x987:Unit) (O':Lab),subs l' [(1,(.int .i64 x1)),(11,(.int .i64 n906)),(12,(.pointer (some ⟨g937,0,none⟩))),(14,(.pointer (some ⟨g964,0,none⟩))),(16,(.int .i64 q971.1)),(17,(errV q971.2.n)),(103,(.bool y984))]∧Bs w A w' O'∧Lc 16 w' O' g937 30 [(.int .i64 q917.1.verdict),(.slice A931 q917.1.plan.length c932),(.int .i64 q917.1.cost),(.int .i64 q917.1.expanded)]∧Vb w' (Fr 0 w' O') (.slice A931 q917.1.plan.length c932) q917.1.plan∧Lc 17 w' O' g964 30 [(.int .i64 q944.1.verdict),(.slice A958 q944.1.plan.length c959),(.int .i64 q944.1.cost),(.int .i64 q944.1.expanded)]∧Vb w' (Fr 0 w' O') (.slice A958 q944.1.plan.length c959) q944.1.plan) ?_ ?_
 ·
  refine Ae (o_mv rfl rfl (o_rnS rfl rfl (fun c988=>?_) fun c988=>?_))
  ·
   replace hy985:=ip hy985 c988
   refine o_mv rfl rfl (AC rfl rfl rfl rfl (AC rfl rfl rfl rfl (o_pt rfl rfl rfl (o_z ?_))))
   obtain rfl:=sm hy985
   replace hB:=(((((((((((((hB.st S894).st S898).st S902).st S910).st S912).st S914).st S916).st S921).st S940).st S943).st S948).st S967).st S970).st S975
   replace h930:=(((((h930.st S940).st S943).st S948).st S967).st S970).st S975
   replace h941:=(((h941.st S948).st S967).st S970).st S975
   replace h957:=((h957.st S967).st S970).st S975
   replace h968:=h968.st S975
   exact ⟨(),_,⟨rfl,rfl,rfl,rfl,rfl,rfl,rfl,trivial⟩,hB,h941,h930,h968,h957⟩
  ·
   replace hy985:=im hy985 c988
   refine o_mv rfl rfl (AD rfl rfl (o_mv rfl rfl (AD rfl rfl (o_rnS rfl rfl (fun c989=>?_) fun c989=>?_))))
   ·
    replace hy985:=ip hy985 c989
    refine o_pf rfl rfl rfl (o_z ?_)
    obtain rfl:=sm hy985
    replace hB:=(((((((((((((hB.st S894).st S898).st S902).st S910).st S912).st S914).st S916).st S921).st S940).st S943).st S948).st S967).st S970).st S975
    replace h930:=(((((h930.st S940).st S943).st S948).st S967).st S970).st S975
    replace h941:=(((h941.st S948).st S967).st S970).st S975
    replace h957:=((h957.st S967).st S970).st S975
    replace h968:=h968.st S975
    exact ⟨(),_,⟨rfl,rfl,rfl,rfl,rfl,rfl,rfl,trivial⟩,hB,h941,h930,h968,h957⟩
   ·
    replace hy985:=im hy985 c989
    refine o_pf rfl rfl rfl (o_z ?_)
    obtain rfl:=sm hy985
    replace hB:=(((((((((((((hB.st S894).st S898).st S902).st S910).st S912).st S914).st S916).st S921).st S940).st S943).st S948).st S967).st S970).st S975
    replace h930:=(((((h930.st S940).st S943).st S948).st S967).st S970).st S975
    replace h941:=(((h941.st S948).st S967).st S970).st S975
    replace h957:=((h957.st S967).st S970).st S975
    replace h968:=h968.st S975
    exact ⟨(),_,⟨rfl,rfl,rfl,rfl,rfl,rfl,rfl,trivial⟩,hB,h941,h930,h968,h957⟩
 replace hB:=(((((((((((((hB.st S894).st S898).st S902).st S910).st S912).st S914).st S916).st S921).st S940).st S943).st S948).st S967).st S970).st S975
 replace h930:=(((((h930.st S940).st S943).st S948).st S967).st S970).st S975
 replace h941:=(((h941.st S948).st S967).st S970).st S975
 replace h957:=((h957.st S967).st S970).st S975
 replace h968:=h968.st S975
 rintro l990 w991 ⟨x987,O992,hs993,hB,h941,h930,h968,h957⟩
 refine AW _ hs993 ?_
 refine Cu rfl (fun c994=>?_) (fun c994=>?_)
 ·
  replace hm:=ip hm c994
  refine Ah (Ae (o_as rfl rfl (o_z ?_)))
  refine At ?_
  obtain rfl:=sm hm
  exact ret1v rfl (AF rfl) ⟨hB.ext,vBool⟩
 ·
  replace hm:=im' hm c994
  refine Am (Ah (Ah (Ae (o_mv rfl rfl (o_mv rfl rfl (o_ltS rfl rfl rfl (fun c995=>?_) fun c995=>?_))))))
  ·
   replace hm:=ip hm c995
   refine o_z ?_
   refine Ar rfl (Ah ?_)
   obtain ⟨y996,hy997,hm⟩:=bs hm
   refine AT (fun l' w'=>∃ (x999:Unit) (O':Lab),subs l' [(4,(.bool y996))]∧Bs w A w' O') ?_ ?_
   ·
    refine Ae (o_fa rfl rfl (o_ld (hc:=Blk.cell (i:=0) (h941.1) rfl) rfl rfl ?_))
    refine o_eeS rfl rfl rfl (fun c1000=>?_) fun c1000=>?_
    ·
     replace hy997:=ip hy997 c1000
     refine o_mv rfl rfl (AD rfl rfl (o_fa rfl rfl (AD rfl rfl (o_ld (hc:=Blk.cell (i:=0) (h968.1) rfl) rfl rfl ?_))))
     refine AD rfl rfl (o_eeS rfl rfl rfl (fun c1001=>?_) fun c1001=>?_)
     ·
      replace hy997:=ip hy997 c1001
      refine o_pt rfl rfl rfl (o_mv rfl rfl (AD rfl rfl (o_fa rfl rfl (AD rfl rfl (o_ld (hc:=Blk.cell (i:=3) (h941.1) rfl) rfl rfl ?_)))))
      refine AD rfl rfl (o_mv rfl rfl (AD rfl rfl (o_max rfl rfl rfl ?_)))
      refine AD rfl rfl (o_eeS rfl rfl rfl (fun c1002=>?_) fun c1002=>?_)
      ·
       replace hy997:=ip hy997 c1002
       refine o_pt rfl rfl rfl (o_mv rfl rfl (AD rfl rfl (o_mv rfl rfl (AD rfl rfl ?_))))
       obtain ⟨q1003,e1004,hy997⟩:=bs hy997
       refine Cf (O:=O992) (A:=All w991) (R:=fun w' F v=>Vb w' F v q1003) (IY (fun _ h=>h) r983 (show inI64 (10) from by decide) e1004) rfl rfl fun v1009 w1005 O1006 S1007 h1008=>?_
       obtain rfl:=h1008.bool
       cases q1003
       case false =>
        replace hy997:=iF hy997
        refine o_pt rfl rfl rfl (o_as rfl rfl (o_z ?_))
        obtain rfl:=sm hy997
        replace hB:=hB.st S1007
        exact ⟨(),_,⟨rfl,trivial⟩,hB⟩
       replace hy997:=iT hy997
       refine o_pt rfl rfl rfl (o_as rfl rfl (o_z ?_))
       obtain rfl:=sm hy997
       replace hB:=hB.st S1007
       exact ⟨(),_,⟨rfl,trivial⟩,hB⟩
      ·
       replace hy997:=im hy997 c1002
       refine o_pt rfl rfl rfl (o_mv rfl rfl (AC rfl rfl rfl rfl (AC rfl rfl rfl rfl (o_pf rfl rfl rfl (o_as rfl rfl (o_z ?_))))))
       obtain rfl:=sm hy997
       exact ⟨(),_,⟨rfl,trivial⟩,hB⟩
     ·
      replace hy997:=im hy997 c1001
      refine o_pt rfl rfl rfl (o_mv rfl rfl (AC rfl rfl rfl rfl (AC rfl rfl rfl rfl (AC rfl rfl rfl rfl (AC rfl rfl rfl rfl (AC rfl rfl rfl rfl (o_pf rfl rfl rfl (o_mv rfl rfl (AC rfl rfl rfl rfl (AC rfl rfl rfl rfl (o_pf rfl rfl rfl (o_as rfl rfl (o_z ?_)))))))))))))
      obtain rfl:=sm hy997
      exact ⟨(),_,⟨rfl,trivial⟩,hB⟩
    ·
     replace hy997:=im hy997 c1000
     refine o_mv rfl rfl (AC rfl rfl rfl rfl (AC rfl rfl rfl rfl (AC rfl rfl rfl rfl (o_pf rfl rfl rfl (o_mv rfl rfl (AC rfl rfl rfl rfl (AC rfl rfl rfl rfl (AC rfl rfl rfl rfl (AC rfl rfl rfl rfl (AC rfl rfl rfl rfl (o_pf rfl rfl rfl (o_mv rfl rfl (AC rfl rfl rfl rfl (AC rfl rfl rfl rfl ?_))))))))))))))
     refine o_pf rfl rfl rfl (o_as rfl rfl (o_z ?_))
     obtain rfl:=sm hy997
     exact ⟨(),_,⟨rfl,trivial⟩,hB⟩
   rintro l1010 w1011 ⟨x999,O1012,hs1013,hB⟩
   refine AW _ hs1013 ?_
   refine At ?_
   obtain rfl:=sm hm
   exact ret1v rfl (AF rfl) ⟨hB.ext,vBool⟩
  ·
   replace hm:=im hm c995
   refine o_z ?_
   refine Aj rfl (Am (Ah (Ah ?_)))
   obtain ⟨y1014,hy1015,hm⟩:=bs hm
   refine AT (fun l' w'=>∃ (x1017:Unit) (O':Lab),subs l' [(11,(.int .i64 n906)),(12,(.pointer (some ⟨g937,0,none⟩))),(14,(.pointer (some ⟨g964,0,none⟩))),(148,(.bool y1014))]∧Bs w A w' O'∧Lc 16 w' O' g937 30 [(.int .i64 q917.1.verdict),(.slice A931 q917.1.plan.length c932),(.int .i64 q917.1.cost),(.int .i64 q917.1.expanded)]∧Vb w' (Fr 0 w' O') (.slice A931 q917.1.plan.length c932) q917.1.plan∧Lc 17 w' O' g964 30 [(.int .i64 q944.1.verdict),(.slice A958 q944.1.plan.length c959),(.int .i64 q944.1.cost),(.int .i64 q944.1.expanded)]∧Vb w' (Fr 0 w' O') (.slice A958 q944.1.plan.length c959) q944.1.plan) ?_ ?_
   ·
    refine Ae (o_mv rfl rfl (o_mv rfl rfl (o_eeS rfl rfl rfl (fun c1018=>?_) fun c1018=>?_)))
    ·
     replace hy1015:=ip hy1015 c1018
     refine o_mv rfl rfl (AD rfl rfl (o_mv rfl rfl (AD rfl rfl ?_)))
     obtain ⟨q1019,e1020,hy1015⟩:=bs hy1015
     refine Cf (O:=O992) (A:=All w991) (R:=fun w' F v=>Vb w' F v q1019) (IY (fun _ h=>h) r983 (show inI64 (10) from by decide) e1020) rfl rfl fun v1025 w1021 O1022 S1023 h1024=>?_
     obtain rfl:=h1024.bool
     cases q1019
     case false =>
      replace hy1015:=iF hy1015
      refine AD rfl rfl (o_nf rfl rfl (o_pt rfl rfl rfl (o_mv rfl rfl (AC rfl rfl rfl rfl (AC rfl rfl rfl rfl (AC rfl rfl rfl rfl (AC rfl rfl rfl rfl (AC rfl rfl rfl rfl (AC rfl rfl rfl rfl (AC rfl rfl rfl rfl (AC rfl rfl rfl rfl (AC rfl rfl rfl rfl (AC rfl rfl rfl rfl (AC rfl rfl rfl rfl ?_))))))))))))))
      refine AC rfl rfl rfl rfl (AC rfl rfl rfl rfl (o_pt rfl rfl rfl (o_z ?_)))
      obtain rfl:=sm hy1015
      replace hB:=hB.st S1023
      replace h930:=h930.st S1023
      replace h941:=h941.st S1023
      replace h957:=h957.st S1023
      replace h968:=h968.st S1023
      exact ⟨(),_,⟨rfl,rfl,rfl,rfl,trivial⟩,hB,h941,h930,h968,h957⟩
     replace hy1015:=iT hy1015
     refine AD rfl rfl (o_nt rfl rfl (o_pt rfl rfl rfl (o_mv rfl rfl (AD rfl rfl (o_mv rfl rfl (AD rfl rfl (o_mv rfl rfl (AD rfl rfl (o_gtS rfl rfl rfl (fun c1026=>?_) fun c1026=>?_)))))))))
     ·
      replace hy1015:=ip hy1015 c1026
      refine AD rfl rfl (o_mv rfl rfl (AD rfl rfl (o_mv rfl rfl (AD rfl rfl (o_rnS rfl rfl (fun c1027=>?_) fun c1027=>?_)))))
      ·
       replace hy1015:=ip hy1015 c1027
       refine AD rfl rfl (o_mv rfl rfl (AC rfl rfl rfl rfl (AC rfl rfl rfl rfl (AC rfl rfl rfl rfl (AC rfl rfl rfl rfl (AD rfl rfl (o_pt rfl rfl rfl (AD rfl rfl (o_pt rfl rfl rfl (o_pf rfl rfl rfl (o_z ?_)))))))))))
       obtain rfl:=sm hy1015
       replace hB:=hB.st S1023
       replace h930:=h930.st S1023
       replace h941:=h941.st S1023
       replace h957:=h957.st S1023
       replace h968:=h968.st S1023
       exact ⟨(),_,⟨rfl,rfl,rfl,rfl,trivial⟩,hB,h941,h930,h968,h957⟩
      ·
       replace hy1015:=im hy1015 c1027
       refine AD rfl rfl (o_mv rfl rfl (AD rfl rfl (o_mv rfl rfl (AD rfl rfl (o_mv rfl rfl (AD rfl rfl ?_))))))
       obtain ⟨n1028,e1029,hy1015⟩:=bs hy1015
       have r1030:=(Bl e1029)
       refine o_adE (he:=e1029) rfl rfl rfl ?_
       refine AD rfl rfl (o_neS rfl rfl rfl (fun c1031=>?_) fun c1031=>?_)
       ·
        replace hy1015:=ip hy1015 c1031
        refine AD rfl rfl (o_pf rfl rfl rfl (AD rfl rfl (o_pt rfl rfl rfl (o_pf rfl rfl rfl (o_z ?_)))))
        obtain rfl:=sm hy1015
        replace hB:=hB.st S1023
        replace h930:=h930.st S1023
        replace h941:=h941.st S1023
        replace h957:=h957.st S1023
        replace h968:=h968.st S1023
        exact ⟨(),_,⟨rfl,rfl,rfl,rfl,trivial⟩,hB,h941,h930,h968,h957⟩
       ·
        replace hy1015:=im hy1015 c1031
        refine AD rfl rfl (o_pf rfl rfl rfl (AD rfl rfl (o_pt rfl rfl rfl (o_pf rfl rfl rfl (o_z ?_)))))
        obtain rfl:=sm hy1015
        replace hB:=hB.st S1023
        replace h930:=h930.st S1023
        replace h941:=h941.st S1023
        replace h957:=h957.st S1023
        replace h968:=h968.st S1023
        exact ⟨(),_,⟨rfl,rfl,rfl,rfl,trivial⟩,hB,h941,h930,h968,h957⟩
     ·
      replace hy1015:=im hy1015 c1026
      refine AD rfl rfl (o_mv rfl rfl (AC rfl rfl rfl rfl (AC rfl rfl rfl rfl (AC rfl rfl rfl rfl (AC rfl rfl rfl rfl (AC rfl rfl rfl rfl (AC rfl rfl rfl rfl (AC rfl rfl rfl rfl (AC rfl rfl rfl rfl (AD rfl rfl (o_pf rfl rfl rfl (o_pf rfl rfl rfl (o_z ?_)))))))))))))
      obtain rfl:=sm hy1015
      replace hB:=hB.st S1023
      replace h930:=h930.st S1023
      replace h941:=h941.st S1023
      replace h957:=h957.st S1023
      replace h968:=h968.st S1023
      exact ⟨(),_,⟨rfl,rfl,rfl,rfl,trivial⟩,hB,h941,h930,h968,h957⟩
    ·
     replace hy1015:=im hy1015 c1018
     refine o_mv rfl rfl (AC rfl rfl rfl rfl (AC rfl rfl rfl rfl (AC rfl rfl rfl rfl (o_pf rfl rfl rfl (o_mv rfl rfl (AD rfl rfl (o_mv rfl rfl (AD rfl rfl (o_mv rfl rfl (AD rfl rfl (o_gtS rfl rfl rfl (fun c1032=>?_) fun c1032=>?_)))))))))))
     ·
      replace hy1015:=ip hy1015 c1032
      refine AD rfl rfl (o_mv rfl rfl (AD rfl rfl (o_mv rfl rfl (AD rfl rfl (o_rnS rfl rfl (fun c1033=>?_) fun c1033=>?_)))))
      ·
       replace hy1015:=ip hy1015 c1033
       refine AD rfl rfl (o_mv rfl rfl (AC rfl rfl rfl rfl (AC rfl rfl rfl rfl (AC rfl rfl rfl rfl (AC rfl rfl rfl rfl (AD rfl rfl (o_pt rfl rfl rfl (AD rfl rfl (o_pt rfl rfl rfl (o_pf rfl rfl rfl (o_z ?_)))))))))))
       obtain rfl:=sm hy1015
       exact ⟨(),_,⟨rfl,rfl,rfl,rfl,trivial⟩,hB,h941,h930,h968,h957⟩
      ·
       replace hy1015:=im hy1015 c1033
       refine AD rfl rfl (o_mv rfl rfl (AD rfl rfl (o_mv rfl rfl (AD rfl rfl (o_mv rfl rfl (AD rfl rfl ?_))))))
       obtain ⟨n1034,e1035,hy1015⟩:=bs hy1015
       have r1036:=(Bl e1035)
       refine o_adE (he:=e1035) rfl rfl rfl ?_
       refine AD rfl rfl (o_neS rfl rfl rfl (fun c1037=>?_) fun c1037=>?_)
       ·
        replace hy1015:=ip hy1015 c1037
        refine AD rfl rfl (o_pf rfl rfl rfl (AD rfl rfl (o_pt rfl rfl rfl (o_pf rfl rfl rfl (o_z ?_)))))
        obtain rfl:=sm hy1015
        exact ⟨(),_,⟨rfl,rfl,rfl,rfl,trivial⟩,hB,h941,h930,h968,h957⟩
       ·
        replace hy1015:=im hy1015 c1037
        refine AD rfl rfl (o_pf rfl rfl rfl (AD rfl rfl (o_pt rfl rfl rfl (o_pf rfl rfl rfl (o_z ?_)))))
        obtain rfl:=sm hy1015
        exact ⟨(),_,⟨rfl,rfl,rfl,rfl,trivial⟩,hB,h941,h930,h968,h957⟩
     ·
      replace hy1015:=im hy1015 c1032
      refine AD rfl rfl (o_mv rfl rfl (AC rfl rfl rfl rfl (AC rfl rfl rfl rfl (AC rfl rfl rfl rfl (AC rfl rfl rfl rfl (AC rfl rfl rfl rfl (AC rfl rfl rfl rfl (AC rfl rfl rfl rfl (AC rfl rfl rfl rfl (AD rfl rfl (o_pf rfl rfl rfl (o_pf rfl rfl rfl (o_z ?_)))))))))))))
      obtain rfl:=sm hy1015
      exact ⟨(),_,⟨rfl,rfl,rfl,rfl,trivial⟩,hB,h941,h930,h968,h957⟩
   rintro l1038 w1039 ⟨x1017,O1040,hs1041,hB,h941,h930,h968,h957⟩
   refine AW _ hs1041 ?_
   refine Cu rfl (fun c1042=>?_) (fun c1042=>?_)
   ·
    replace hm:=ip hm c1042
    refine Ah (Ae (o_as rfl rfl (o_z ?_)))
    refine At ?_
    obtain rfl:=sm hm
    exact ret1v rfl (AF rfl) ⟨hB.ext,vBool⟩
   ·
    replace hm:=im' hm c1042
    refine Am (Ah ?_)
    obtain ⟨y1043,hy1044,hm⟩:=bs hm
    refine AT (fun l' w'=>∃ (x1046:Unit) (O':Lab),subs l' [(4,(.bool y1043))]∧Bs w A w' O') ?_ ?_
    ·
     refine Ae (o_fa rfl rfl (o_ld (hc:=Blk.cell (i:=0) (h941.1) rfl) rfl rfl ?_))
     refine o_eeS rfl rfl rfl (fun c1047=>?_) fun c1047=>?_
     ·
      replace hy1044:=ip hy1044 c1047
      refine o_mv rfl rfl (AD rfl rfl (o_fa rfl rfl (AD rfl rfl (o_ld (hc:=Blk.cell (i:=2) (h941.1) rfl) rfl rfl ?_))))
      refine AD rfl rfl (o_mv rfl rfl (AD rfl rfl (o_eeS rfl rfl rfl (fun c1048=>?_) fun c1048=>?_)))
      ·
       replace hy1044:=ip hy1044 c1048
       refine o_pt rfl rfl rfl (o_mv rfl rfl (AD rfl rfl (o_fa rfl rfl (AD rfl rfl (o_ld (hc:=Blk.cell (i:=1) (h941.1) rfl) rfl rfl ?_)))))
       refine AD rfl rfl (o_ln rfl rfl ?_)
       have l1050:q917.1.plan.length≤9223372036854775807:=Nat.le_trans h930.len.2.1 h930.len.2.2
       have r1049:inI64 (q917.1.plan.length:Int):=rngNat l1050
       refine AD rfl rfl (o_mv rfl rfl (AD rfl rfl (o_eeS rfl rfl rfl (fun c1051=>?_) fun c1051=>?_)))
       ·
        replace hy1044:=ip hy1044 c1051
        refine o_pt rfl rfl rfl (o_mv rfl rfl (AD rfl rfl (o_fa rfl rfl (AD rfl rfl (o_ld (hc:=Blk.cell (i:=3) (h941.1) rfl) rfl rfl ?_)))))
        refine AD rfl rfl (o_mv rfl rfl (AD rfl rfl (o_eeS rfl rfl rfl (fun c1052=>?_) fun c1052=>?_)))
        ·
         replace hy1044:=ip hy1044 c1052
         refine o_pt rfl rfl rfl (o_mv rfl rfl (AD rfl rfl (o_fa rfl rfl (AD rfl rfl (o_ld (hc:=Blk.cell (i:=0) (h968.1) rfl) rfl rfl ?_)))))
         refine AD rfl rfl (o_eeS rfl rfl rfl (fun c1053=>?_) fun c1053=>?_)
         ·
          replace hy1044:=ip hy1044 c1053
          refine o_pt rfl rfl rfl (o_mv rfl rfl (AD rfl rfl (o_fa rfl rfl (AD rfl rfl (o_ld (hc:=Blk.cell (i:=2) (h968.1) rfl) rfl rfl ?_)))))
          refine AD rfl rfl (o_mv rfl rfl (AD rfl rfl (o_eeS rfl rfl rfl (fun c1054=>?_) fun c1054=>?_)))
          ·
           replace hy1044:=ip hy1044 c1054
           refine o_pt rfl rfl rfl (o_as rfl rfl (o_z ?_))
           obtain rfl:=sm hy1044
           exact ⟨(),_,⟨rfl,trivial⟩,hB⟩
          ·
           replace hy1044:=im hy1044 c1054
           refine o_pt rfl rfl rfl (o_as rfl rfl (o_z ?_))
           obtain rfl:=sm hy1044
           exact ⟨(),_,⟨rfl,trivial⟩,hB⟩
         ·
          replace hy1044:=im hy1044 c1053
          refine o_pt rfl rfl rfl (o_mv rfl rfl (AC rfl rfl rfl rfl (AC rfl rfl rfl rfl (AC rfl rfl rfl rfl (AC rfl rfl rfl rfl (o_pf rfl rfl rfl (o_as rfl rfl (o_z ?_))))))))
          obtain rfl:=sm hy1044
          exact ⟨(),_,⟨rfl,trivial⟩,hB⟩
        ·
         replace hy1044:=im hy1044 c1052
         refine o_pt rfl rfl rfl (o_mv rfl rfl (AC rfl rfl rfl rfl (AC rfl rfl rfl rfl (AC rfl rfl rfl rfl (o_pf rfl rfl rfl (o_mv rfl rfl (AC rfl rfl rfl rfl (AC rfl rfl rfl rfl (AC rfl rfl rfl rfl (AC rfl rfl rfl rfl (o_pf rfl rfl rfl (o_as rfl rfl (o_z ?_)))))))))))))
         obtain rfl:=sm hy1044
         exact ⟨(),_,⟨rfl,trivial⟩,hB⟩
       ·
        replace hy1044:=im hy1044 c1051
        refine o_pt rfl rfl rfl (o_mv rfl rfl (AC rfl rfl rfl rfl (AC rfl rfl rfl rfl (AC rfl rfl rfl rfl (AC rfl rfl rfl rfl (o_pf rfl rfl rfl (o_mv rfl rfl (AC rfl rfl rfl rfl (AC rfl rfl rfl rfl (AC rfl rfl rfl rfl (o_pf rfl rfl rfl (o_mv rfl rfl (AC rfl rfl rfl rfl (AC rfl rfl rfl rfl ?_))))))))))))))
        refine AC rfl rfl rfl rfl (AC rfl rfl rfl rfl (o_pf rfl rfl rfl (o_as rfl rfl (o_z ?_))))
        obtain rfl:=sm hy1044
        exact ⟨(),_,⟨rfl,trivial⟩,hB⟩
      ·
       replace hy1044:=im hy1044 c1048
       refine o_pt rfl rfl rfl (o_mv rfl rfl (AC rfl rfl rfl rfl (AC rfl rfl rfl rfl (AC rfl rfl rfl rfl (AC rfl rfl rfl rfl (AC rfl rfl rfl rfl (o_pf rfl rfl rfl (o_mv rfl rfl (AC rfl rfl rfl rfl (AC rfl rfl rfl rfl (AC rfl rfl rfl rfl (AC rfl rfl rfl rfl (o_pf rfl rfl rfl (o_mv rfl rfl ?_))))))))))))))
       refine AC rfl rfl rfl rfl (AC rfl rfl rfl rfl (AC rfl rfl rfl rfl (o_pf rfl rfl rfl (o_mv rfl rfl (AC rfl rfl rfl rfl (AC rfl rfl rfl rfl (AC rfl rfl rfl rfl (AC rfl rfl rfl rfl (o_pf rfl rfl rfl (o_as rfl rfl (o_z ?_)))))))))))
       obtain rfl:=sm hy1044
       exact ⟨(),_,⟨rfl,trivial⟩,hB⟩
     ·
      replace hy1044:=im hy1044 c1047
      refine o_mv rfl rfl (AC rfl rfl rfl rfl (AC rfl rfl rfl rfl (AC rfl rfl rfl rfl (AC rfl rfl rfl rfl (o_pf rfl rfl rfl (o_mv rfl rfl (AC rfl rfl rfl rfl (AC rfl rfl rfl rfl (AC rfl rfl rfl rfl (AC rfl rfl rfl rfl (AC rfl rfl rfl rfl (o_pf rfl rfl rfl (o_mv rfl rfl (AC rfl rfl rfl rfl ?_))))))))))))))
      refine AC rfl rfl rfl rfl (AC rfl rfl rfl rfl (AC rfl rfl rfl rfl (o_pf rfl rfl rfl (o_mv rfl rfl (AC rfl rfl rfl rfl (AC rfl rfl rfl rfl (AC rfl rfl rfl rfl (o_pf rfl rfl rfl (o_mv rfl rfl (AC rfl rfl rfl rfl (AC rfl rfl rfl rfl (AC rfl rfl rfl rfl (AC rfl rfl rfl rfl (o_pf rfl rfl rfl ?_))))))))))))))
      refine o_as rfl rfl (o_z ?_)
      obtain rfl:=sm hy1044
      exact ⟨(),_,⟨rfl,trivial⟩,hB⟩
    rintro l1055 w1056 ⟨x1046,O1057,hs1058,hB⟩
    refine AW _ hs1058 ?_
    refine At ?_
    obtain rfl:=sm hm
    exact ret1v rfl (AF rfl) ⟨hB.ext,vBool⟩
end
section
open Go Go.RowKit
theorem Mr {t:Tsk} (hs:Few t) {lim:Int} {i:Nat} {lp:LP} {r:Rsl} (hb:Bfs t lim i lp r):BI t i lp→(∀ (j:Nat) s,j < i→lp.1[j]?=some s→holdsB t.goal s=false)→(i:Int)≤max lim 0 →
    (r.verdict=1→(r.plan.length:Int)≤r.expanded∧r.expanded≤max lim 0∧∃ L:List (List Int),L.Nodup∧(∀ s∈L,Rch t s)∧r.expanded < (L.length:Int)) ∧
    (r.verdict=3→lim≤r.expanded∧r.expanded≤max lim 0∧0≤r.expanded∧∃ M:List (List Int),M.Nodup∧(∀ s∈M,Rch t s∧holdsB t.goal s=false)∧(M.length:Int)=r.expanded + 1):=by
  induction hb with
  | @none i lp he=>intro h hno hi;exact ⟨(fun hv=>by cases hv),(fun hv=>by cases hv)⟩
  | @goal i lp s p C hsi hpi hg hC =>
    intro h hno hi
    have hpl:=(h.pl i s p hsi hpi).2
    have:=AK hsi
    refine ⟨fun _=>⟨by show (p.length:Int)≤(i:Int);omega,hi,lp.1,h.nodup,fun s' hm=>?_,by show (i:Int) < _;omega⟩,fun hv=>by cases hv⟩
    obtain ⟨j,hj⟩:=List.getElem?_of_mem hm
    exact h.rch hj
  | @full i lp s hsi hg hl =>
    intro h hno hi
    have:=AK hsi
    refine ⟨(fun hv=>by cases hv),fun _=>⟨hl,hi,by show (0:Int)≤(i:Int);omega,lp.1.take (i + 1),h.nodup.sublist (List.take_sublist _ _),fun s' hm=>?_,by show _=(i:Int) + 1;rw [List.length_take];omega⟩⟩
    rcases (JE hsi).1 hm with hm|rfl
    · obtain ⟨j,hj⟩:=List.getElem?_of_mem hm
      have hjl:=AK hj
      rw [List.length_take] at hjl
      have hj':=He hj
      exact ⟨h.rch hj',hno j s' (by omega) hj'⟩
    · exact ⟨h.rch hsi,hg⟩
  | @step i lp s r hsi hg hl hb ih =>
    intro h hno hi
    obtain ⟨p,hpi⟩:=AH (l:=lp.2) (k:=i) (by rw [h.len];exact AK hsi)
    have hJ:=h.part hsi hpi t.ops.length
    refine ih (h.next hsi hpi) (fun j s' hj hs'=>?_) (by omega)
    have hjl:j < lp.1.length:=by have:=AK hsi;omega
    obtain ⟨s0,hs0⟩:=AH (l:=lp.1) (k:=j) hjl
    rw [Cg hJ.pre1 hs0] at hs'
    obtain rfl:=Option.some.inj hs'
    by_cases e:j=i
    · subst e
      rw [hsi] at hs0
      obtain rfl:=Option.some.inj hs0
      exact hg
    · exact hno j s0 (by omega) hs0
section
variable {n : Nat}
theorem IL (h1:1≤n) (h2:n≤9):Few (cntT n):=⟨(LL h1 h2).1,(LL h1 h2).2,by show (1:Nat)≤20;decide⟩
theorem KM {s:List Int} (h:Rch (cntT n) s):∃ m,m < 2 ^ n∧s=bits n m:=by
  obtain ⟨p,C,hp⟩:=h.plan
  have:=(Kb hp 0 (Fc n)).1
  refine ⟨(0 + p.length) % 2 ^ n,Nat.mod_lt _ (Nat.two_pow_pos n),?_⟩
  rw [Mp];exact this
theorem MV (m:Nat):Rch (cntT n) (bits n m):=by
  have:=GH (n:=n) m 0
  rw [Nat.zero_add,← Fc] at this
  exact this.rch .init
def allB (n k:Nat):List (List Int):=(List.range k).map (bits n)
theorem Iw {k:Nat} (h:k≤2 ^ n):(allB n k).Nodup:=by
  unfold allB
  rw [List.nodup_iff_pairwise_ne,List.pairwise_map]
  have:=List.nodup_range (n:=k)
  rw [List.nodup_iff_pairwise_ne] at this
  exact this.imp_of_mem fun {a b} ha hb hne e=>hne (Mq (by have:=List.mem_range.1 ha;omega) (by have:=List.mem_range.1 hb;omega) e)
theorem GI {k:Nat} {s:List Int}:s∈allB n k↔∃ m,m < k∧s=bits n m:=by
  unfold allB
  rw [List.mem_map]
  exact ⟨fun ⟨m,h1,h2⟩=>⟨m,List.mem_range.1 h1,h2.symm⟩,fun ⟨m,h1,h2⟩=>⟨m,List.mem_range.2 h1,h2.symm⟩⟩
theorem Kc {L:List (List Int)} (hn:L.Nodup) (hr:∀ s∈L,Rch (cntT n) s):L.length≤2 ^ n:=by
  have:=Db hn (b:=allB n (2 ^ n)) fun s hs=>GI.2 (KM (hr s hs))
  simpa [allB] using this
theorem KN {L:List (List Int)} (hn:L.Nodup) (hr:∀ s∈L,Rch (cntT n) s∧holdsB (cntT n).goal s=false):L.length≤2 ^ n - 1:=by
  have:=Db hn (b:=allB n (2 ^ n - 1)) fun s hs=>by
    obtain ⟨h1,h2⟩:=hr s hs
    obtain ⟨m,hm,rfl⟩:=KM h1
    refine GI.2 ⟨m,?_,rfl⟩
    have:¬ m % 2 ^ n + 1=2 ^ n:=fun e=>by rw [Hv.2 e] at h2;cases h2
    rw [Nat.mod_eq_of_lt hm] at this
    omega
  simpa [allB] using this
theorem HY {p s:List Int} {C:Int} (hp:PlanR (cntT n) (cntT n).init p s C) (hg:holdsB (cntT n).goal s=true):C=(p.length:Int)∧2 ^ n - 1≤p.length:=by
  obtain ⟨h1,h2⟩:=Kb hp 0 (Fc n)
  rw [h1,Nat.zero_add] at hg
  have:=Hv.1 hg
  have h3:=Nat.mod_le p.length (2 ^ n)
  exact ⟨h2,by omega⟩
theorem Je:∃ s,PlanR (cntT n) (cntT n).init (List.replicate (2 ^ n - 1) 0) s ((2 ^ n - 1:Nat):Int)∧holdsB (cntT n).goal s=true:=by
  have:=GH (n:=n) (2 ^ n - 1) 0
  rw [Nat.zero_add,← Fc] at this
  have hp:=Nat.two_pow_pos n
  refine ⟨_,this,Hv.2 ?_⟩
  rw [Nat.mod_eq_of_lt (by omega)];omega
theorem Li (h1:1≤n) (h2:n≤9) (lim:Int):∃ r,BP (cntT n) lim=some (r,⟨0⟩)∧(lim < ((2 ^ n - 1:Nat):Int)→r.verdict=3∧r.expanded=max lim 0)∧(((2 ^ n - 1:Nat):Int)≤lim→r.verdict=1∧r.cost=((2 ^ n - 1:Nat):Int)∧(r.plan.length:Int)=((2 ^ n - 1:Nat):Int)∧r.expanded=((2 ^ n - 1:Nat):Int)):=by
  have hf:=IL h1 h2
  obtain ⟨r,r1,r2⟩:=Lg hf lim
  have hres:=MP hf r2 (Gg _) (fun j s hj=>by omega)
  obtain ⟨m1,m3⟩:=Mr hf r2 (Gg _) (fun j s hj=>by omega) (by simp;omega)
  obtain ⟨gs,g1,g2⟩:=Je (n:=n)
  have hp2:2≤2 ^ n:=by have:=Nat.pow_le_pow_right (n:=2) (by decide) h1;simpa using this
  have key1:r.verdict=1→r.cost=((2 ^ n - 1:Nat):Int)∧(r.plan.length:Int)=((2 ^ n - 1:Nat):Int)∧r.expanded=((2 ^ n - 1:Nat):Int)∧r.expanded≤max lim 0:=fun hv=>by
    obtain ⟨a1,a2,L,a3,a4,a5⟩:=m1 hv
    have hL:=Kc a3 a4
    rcases hres with ⟨v1,_⟩|⟨_,_,⟨s,v3,v4⟩,_⟩|⟨v1,_⟩
    · omega
    · obtain ⟨c1,c2⟩:=HY v3 v4
      exact ⟨by omega,by omega,by omega,a2⟩
    · omega
  refine ⟨r,r1,fun hl=>?_,fun hl=>?_⟩
  · rcases hres with ⟨_,_,_,v4⟩|⟨v1,_⟩|⟨v1,_⟩
    · have:=v4 _ _ _ g1;rw [g2] at this;cases this
    · have:=key1 v1;omega
    · obtain ⟨a1,a2,a3,_⟩:=m3 v1
      exact ⟨v1,by omega⟩
  · rcases hres with ⟨_,_,_,v4⟩|⟨v1,_⟩|⟨v1,_⟩
    · have:=v4 _ _ _ g1;rw [g2] at this;cases this
    · obtain ⟨k1,k2,k3,_⟩:=key1 v1;exact ⟨v1,k1,k2,k3⟩
    · obtain ⟨a1,a2,a3,M,b1,b2,b3⟩:=m3 v1
      have:=KN b1 b2
      omega
theorem Ko (h1:1≤n) (h2:n≤9) (lim:Int):∃ r,Bq (cntT n) lim=some (r,⟨0⟩)∧(lim < ((2 ^ n - 1:Nat):Int)→r.verdict=3)∧(((2 ^ n - 1:Nat):Int)≤lim→r.verdict=1∧r.cost=((2 ^ n - 1:Nat):Int)):=by
  have hf:=IL h1 h2
  obtain ⟨r,r1,⟨e0,e1,M,b1,b2,b3,b4⟩,_⟩:=Lh hf lim
  obtain ⟨gs,g1,g2⟩:=Je (n:=n)
  have hp2:2≤2 ^ n:=by have:=Nat.pow_le_pow_right (n:=2) (by decide) h1;simpa using this
  have chp:∀ s,Cheap (cntT n) s→Rch (cntT n) s∧holdsB (cntT n).goal s=false:=fun s hc=>by
    obtain ⟨c1,p,c,c2,_⟩:=hc
    exact ⟨c2.rch .init,c1⟩
  refine ⟨r,r1,fun hl=>?_,fun hl=>?_⟩
  · rcases b4 with ⟨_,_,⟨s,v3,v4⟩,_,v6⟩|⟨_,_,_,v4,_⟩|⟨v1,_⟩
    · exfalso
      obtain ⟨c1,c2⟩:=HY v3 v4
      have:(allB n (2 ^ n - 1)).length≤M.length:=Db (Iw (by omega)) fun s hs=>by
        obtain ⟨m,hm,rfl⟩:=GI.1 hs
        have hpl:=GH (n:=n) m 0
        rw [Nat.zero_add,← Fc] at hpl
        exact v6 _ _ _ hpl (by omega)
      have hlen:(allB n (2 ^ n - 1)).length=2 ^ n - 1:=by simp [allB]
      omega
    · exact absurd (g1.walk g2) (v4 _)
    · exact v1
  · rcases b4 with ⟨v1,_,⟨s,v3,v4⟩,v5,_⟩|⟨_,_,_,v4,_⟩|⟨v1,_,_,v4,s,v5,v6⟩
    · obtain ⟨c1,c2⟩:=HY v3 v4
      have:=v5 _ (g1.walk g2)
      exact ⟨v1,by omega⟩
    · exact absurd (g1.walk g2) (v4 _)
    · exfalso
      have:=KN (n:=n) (List.nodup_cons.2 ⟨v5,b1⟩) fun s' hm=>by
        rcases List.mem_cons.1 hm with rfl|hm
        · exact chp _ v6
        · exact chp s' (b3 s' hm)
      rw [List.length_cons] at this
      omega
theorem LM (h1:1≤n) (h2:n≤9) (lim:Int):(lim≤((2 ^ n - 1:Nat):Int)→Be (cntT n) lim=some (0,⟨10⟩))∧(((2 ^ n - 1:Nat):Int) < lim→Be (cntT n) lim=some (((2 ^ n - 1:Nat):Int) + 1,⟨0⟩)):=by
  have hf:=IL h1 h2
  have hp2:2≤2 ^ n:=by have:=Nat.pow_le_pow_right (n:=2) (by decide) h1;simpa using this
  obtain ⟨L,l1,l2,l3⟩:=Mk hf lim
  have hL:=Kc l1 l2
  rcases l3 with ⟨h3,h4⟩|⟨h3,h4,h5⟩
  · exact ⟨fun _=>h4,fun hl=>by omega⟩
  · have:(allB n (2 ^ n)).length≤L.length:=Db (Iw (Nat.le_refl _)) fun s hs=>by
      obtain ⟨m,hm,rfl⟩:=GI.1 hs
      exact h4 _ (MV m)
    have hlen:(allB n (2 ^ n)).length=2 ^ n:=by simp [allB]
    refine ⟨fun hl=>by omega,fun _=>?_⟩
    rw [h5]
    congr 2
    omega
end
theorem MW (n:Nat) (h:n≤9):shlI 1 (n:Int)=some ((2 ^ n:Nat):Int):=by
  have:n=0∨n=1∨n=2∨n=3∨n=4∨n=5∨n=6∨n=7∨n=8∨n=9:=by omega
  rcases this with rfl|rfl|rfl|rfl|rfl|rfl|rfl|rfl|rfl|rfl<;>rfl
theorem Ms {ρ:Type} (v:Nat) (hv:v≤100) (es:List Eff) (he:es.length≤1000):rngN (ρ:=ρ) (fun (k704:Nat) (s702:(List Eff))=>bnd (chkI (1 - (k704:Int))) fun n719=>bnd (appI 16 ([]:List Fct) (low v)) fun u721=>bnd (appI 16 u721 [(⟨(v:Int),(k704:Int)⟩:Fct)]) fun u723=>bnd (appI 40 s702 [(⟨u723,(v:Int),n719⟩:Eff)]) fun u725=>some (.next u725)) 2 es=some (.done (es ++ effV v)):=by
  rw [IV (fun j=>es ++ (effV v).take j) (by simp) (fun j hj=>?_)]
  · rfl
  have hll:(low v).length=v:=by simp [low]
  have:j=0∨j=1:=by omega
  rcases this with rfl|rfl
  · rw [Bw (by unfold inI64;simp),Az,Cs (by simp;omega) (by simp;omega),Az,Cs (by simp;omega) (by simp;omega),Az,Cs (by simp [effV];omega) (by simp [effV];omega),Az]
    simp [effV]
  · rw [Bw (by unfold inI64;simp),Az,Cs (by simp;omega) (by simp;omega),Az,Cs (by simp;omega) (by simp;omega),Az,Cs (by simp [effV];omega) (by simp [effV];omega),Az]
    simp [effV]
theorem Jf (v:Nat):effN (v + 1)=effN v ++ effV v:=by unfold effN;rw [List.range_succ,List.flatMap_append];simp
theorem Mt (v:Nat):(effN v).length=2 * v:=by
  induction v with
  | zero=>rfl
  | succ v ih=>rw [Jf,List.length_append,ih];simp [effV];omega
theorem Mu (v:Nat):low (v + 1)=low v ++ [⟨(v:Int),1⟩]:=by unfold low;rw [List.range_succ,List.map_append];rfl
theorem Kd (x:Byt) (lim:Int):CG x lim=some true:=by
  have hx0:=x.lo
  have hx1:=x.hi
  obtain ⟨n,hn⟩:∃ n:Nat,x.n % 9 + 1=(n:Int):=⟨(x.n % 9 + 1).toNat,by omega⟩
  have h1:1≤n:=by omega
  have h2:n≤9:=by omega
  unfold CG
  rw [awake48,Az,if_t]
  have hr:remI x.n 9=some (x.n % 9):=if_pos ⟨hx0,by decide⟩
  rw [hr,Az,Bw (by unfold inI64;omega),Az,hn,Mx,Az]
  rw [IV (fun v=>(low v,effN v,List.replicate v (2:Int),List.replicate v (0:Int),low v)) (by simp [low,effN]) (fun v hv=>?_)]
  · have hp2:2≤2 ^ n:=by have:=Nat.pow_le_pow_right (n:=2) (by decide) h1;simpa using this
    have hp9:2 ^ n≤512:=by have:=Nat.pow_le_pow_right (n:=2) (by decide) h2;simpa using this
    have hpm:((2 ^ n:Nat):Int) - 1=((2 ^ n - 1:Nat):Int):=by omega
    obtain ⟨r,r1,r2,r3⟩:=Li h1 h2 lim
    obtain ⟨u,u1,u2,u3⟩:=Ko h1 h2 lim
    obtain ⟨q1,q2⟩:=LM h1 h2 lim
    have is10:EZ ⟨10⟩ 10=some true:=rfl
    have r1':BP (⟨List.replicate n 2,List.replicate n 0,low n,[(⟨(⟨#[]⟩:ByteArray),1,([]:List Fct),effN n⟩:Opr)]⟩:Tsk) lim=some (r,⟨0⟩):=r1
    have u1':Bq (⟨List.replicate n 2,List.replicate n 0,low n,[(⟨(⟨#[]⟩:ByteArray),1,([]:List Fct),effN n⟩:Opr)]⟩:Tsk) lim=some (u,⟨0⟩):=u1
    have q1':lim≤((2 ^ n - 1:Nat):Int)→Be (⟨List.replicate n 2,List.replicate n 0,low n,[(⟨(⟨#[]⟩:ByteArray),1,([]:List Fct),effN n⟩:Opr)]⟩:Tsk) lim=some (0,⟨10⟩):=q1
    have q2':((2 ^ n - 1:Nat):Int) < lim→Be (⟨List.replicate n 2,List.replicate n 0,low n,[(⟨(⟨#[]⟩:ByteArray),1,([]:List Fct),effN n⟩:Opr)]⟩:Tsk) lim=some (((2 ^ n - 1:Nat):Int) + 1,⟨0⟩):=q2
    rw [Az,fin_d,MW n h2,Az,Bw (by unfold inI64;omega),Az,hpm]
    dsimp only
    rw [r1',Az,u1',Az]
    by_cases hl:lim < ((2 ^ n - 1:Nat):Int)
    · obtain ⟨a1,a2⟩:=r2 hl
      rw [q1' (by omega),Az,if_neg (by simp),if_neg (by simp),Az,if_f,if_pos hl,if_pos a1,if_pos (u2 hl),if_pos a2,is10,Az,if_t,Az]
    · obtain ⟨a1,a2,a3,a4⟩:=r3 (by omega)
      obtain ⟨b1,b2⟩:=u3 (by omega)
      have tail:(bnd (if r.verdict=1 then (if r.cost=((2 ^ n - 1:Nat):Int) then (if (r.plan.length:Int)=((2 ^ n - 1:Nat):Int) then (if r.expanded=((2 ^ n - 1:Nat):Int) then (if u.verdict=1 then (if u.cost=((2 ^ n - 1:Nat):Int) then (some true) else (some false)) else (some false)) else (some false)) else (some false)) else (some false)) else (some false):Option Bool) fun y1043=>some y1043)=some true:=by
        rw [if_pos a1,if_pos a2,if_pos a3,if_pos a4,if_pos b1,if_pos b2,Az]
      by_cases he:lim=((2 ^ n - 1:Nat):Int)
      · rw [q1' (by omega),Az,if_neg (by simp),if_neg (by simp),Az,if_f,if_neg hl,if_pos he,is10,Az,if_t,if_neg (by omega),Az,if_f]
        exact tail
      · rw [q2' (by omega),Az,if_neg (by simp),if_neg (by simp),Az,if_f,if_neg hl,if_neg he,if_pos (by omega),if_neg (by simp),Bw (by unfold inI64;omega),Az,if_neg (by simp),Az,if_f]
        exact tail
  · have hll:(low v).length=v:=by simp [low]
    rw [Cs (by simp;omega) (by simp;omega),Az,Cs (by simp;omega) (by simp;omega),Az,Cs (by simp;omega) (by simp;omega),Az,Az]
    dsimp only
    rw [Ms v (by omega) (effN v) (by rw [Mt];omega),Az,fin_d,Az]
    rw [Mu,Jf,List.replicate_succ',List.replicate_succ']
end
section
open Go Go.RowKit Go.ChangeShapes Go.WideShapes Go.Deep
theorem lawBCounters {w:World} {v0:Value} {a0:Byt} (h0:V w v0 a0) {v1:Value} {a1:Int} (h1:V w v1 a1):Fn Try.prog 8 [v0,v1] w fun v w'=>v=.bool true∧Ext w w':=by
  obtain rfl:=Vb.byte h0
  obtain ⟨rfl,r1⟩:=Vb.int h1
  exact (FF (fun _ h=>h) r1 (Kd a0 a1)).mono fun _ _ h=>⟨h.2.bool,h.1⟩
set_option maxRecDepth 100000 in
theorem FY (os:Os) (started:os.Started) (H:Type) (enc:TypeId×Value→H) :
    ReturnsInHanded {} Try.checked os 8 .any (Rows.breadthCountersSpec.pre6 enc Try.prog Try.f8 Rows.breadthCountersRow.domain false) (Rows.breadthCountersSpec.post enc Try.prog Try.f8 false true false false):=by
  refine returnsInHanded_of_change (C:=Try.checked) ownTry started (by kernel_rfl) Try.func8 (ChangeSpec.witness6 (enc:=enc) (C:=Try.checked) false ⟨#[],#[(.int .u8 0),(.int .i64 0)],[]⟩ 8 (by kernel_rfl) (by kernel_rfl) (by kernel_rfl) (by kernel_rfl)) ?_
  intro W base args ds gs before hval hW _ _
  have hopen:∀ p,DataW.TrodAll enc Try.prog W 0 (fun _=>true) true Try.f8.params.toList args.toList ds p→∃ v0 v1 d0 d1,args=#[v0,v1]∧ds=[d0,d1]∧(∃ a:Byt,V W v0 a)∧(∃ a:Int,V W v1 a):=by
    intro p hA
    rw [Try.params8] at hA
    replace hval:∀ (j:Nat) t v,(#[5,3]:Array TypeId)[j]?=some t→args[j]?=some v→Value.okWide Try.prog W .any base t v:=by rw [← Try.params8];exact hval
    obtain ⟨v0,vs0,d0,ds0,p0,q0,g0,e0,_,h0,r0⟩:=trodAll_cons hA
    obtain ⟨v1,vs1,d1,ds1,p1,q1,g1,e1,_,h1,r1⟩:=trodAll_cons r0
    obtain ⟨g,e,_⟩:=trodAll_nil r1
    rw [g] at g1;rw [e] at e1
    rw [g1] at g0;rw [e1] at e0
    obtain rfl:args=#[v0,v1]:=by cases args;simp_all
    exact ⟨v0,v1,d0,d1,rfl,e0,(by first|exact openAgg rfl (hval 0 5 v0 rfl rfl) h0|exact openOne rfl (hval 0 5 v0 rfl rfl) h0),(by first|exact openAgg rfl (hval 1 3 v1 rfl rfl) h1|exact openOne rfl (hval 1 3 v1 rfl rfl) h1)⟩
  refine lawPost rfl (by kernel_rfl) (by rw [Try.params8];exact of_decide_eq_true (by kernel_rfl)) hW ?_ ?_
  · intro p hA
    obtain ⟨v0,v1,d0,d1,_,rfl,_⟩:=hopen p hA
    rfl
  · intro p hA
    obtain ⟨v0,v1,d0,d1,rfl,_,⟨a0,h0⟩,⟨a1,h1⟩⟩:=hopen p hA
    exact lawBCounters h0 h1
theorem breadthCounters_holds:Rows.BreadthCountersSaid :=
  OpenClaim.holds_of_wide 8 Try.f8 rfl rfl rfl rfl rfl rfl rfl ⟨rfl,rfl,rfl,rfl,rfl⟩ rfl rfl rfl rfl rfl (by kernel_rfl) Try.func8 (by kernel_rfl)
    (of_decide_eq_true (by kernel_rfl)) (by unfold Func.isWrapper;first|(rw [if_pos (by decide +kernel)];kernel_rfl)|(rw [if_neg (by decide +kernel)];exact ⟨rfl,rfl⟩))
    (fun os started H enc _=>FY os started H enc)
#print axioms breadthCounters_holds
end
end Go.Proofs.Ythomfnkaicjmbaa

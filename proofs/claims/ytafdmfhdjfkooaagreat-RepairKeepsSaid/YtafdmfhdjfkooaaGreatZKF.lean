/- RepairKeeps returns true for every task, every list of numbers and every weight, and these read behind the call as before. No conditions. -/
import Derived.Test.YtafdmfhdjfkooaaGreatZKE
import Derived.Test.YtafdmfhdjfkooaaGreatRows
set_option linter.unusedVariables false
set_option linter.unusedSimpArgs false
namespace Go.Proofs.YtafdmfhdjfkooaaGreat
open Go Go.RowKit
section
open Go Go.RowKit
set_option maxRecDepth 20000
attribute [local irreducible] bnd fin rng rngN chkI mkI appI atI natI quoT Bd Bn BI BY
def En (x:List U64):Option (List U64):=BY x
theorem FT (x:List U64):Le (En x) (BY x):=Le.rf
def II (t:Tsk):Option (Option Gnr×Err):=if taskB t=true then some (some ⟨t⟩,⟨0⟩) else none
theorem Ln (t:Tsk):Le (II t) (EN t):=fun r h=>by
  obtain ⟨h1,rfl⟩:=EX h
  exact Pa (MV h1)
def Df (x:Option Gnr) (s:List Int):Option (List Int):=match x with
  | some g=>if stateB g.t.vars s=true then (if s.length≤1000000 then some (appl g.t s) else none) else none
  | none=>none
theorem FK (x:Option Gnr) (s:List Int):Le (Df x s) (Co x s):=fun r h=>by
  cases x with
  | none=>cases h
  | some g =>
    unfold Df at h
    dsimp only at h
    split at h
    · rename_i h1
      obtain ⟨h3,rfl⟩:=EX h
      unfold Co
      rw [if_pos h3]
      show some (appS g.t s)=_
      rw [HR (Ju h1)]
    · cases h
noncomputable def Dr (x0:List Itm):Option Int :=
  some (x0.length:Int)
theorem EH (x0:List Itm):Le (Dr x0) (Bt x0):=by
  unfold Dr Bt
  repeat' (first|apply Le.ite|apply Le.bnd|apply Le.fin|apply Le.rng|apply Le.rngN|apply Le.lop|exact Le.rf|intro _)
noncomputable def Dg (x0:List Itm) (x1:Int) (x2:Int):Option Bool :=
  bnd (bnd (atI x0 x1) fun a10=>bnd (atI x0 x2) fun a24=>if a10.cost < a24.cost then (some true) else (bnd (atI x0 x1) fun a39=>bnd (atI x0 x2) fun a53=>if a39.cost=a53.cost then (bnd (atI x0 x1) fun a68=>bnd (atI x0 x2) fun a82=>if a68.order < a82.order then (some true) else (some false)) else (some false)):Option Bool) fun y6=>some y6
theorem FJ (x0:List Itm) (x1:Int) (x2:Int):Le (Dg x0 x1 x2) (Bx x0 x1 x2):=by
  unfold Dg Bx
  repeat' (first|apply Le.ite|apply Le.bnd|apply Le.fin|apply Le.rng|apply Le.rngN|apply Le.lop|exact Le.rf|intro _)
noncomputable def Dh (x0:List Itm) (x1:Int) (x2:Int):Option (List Itm) :=
  bnd (atI x0 x2) fun a4=>bnd (atI x0 x1) fun a18=>bnd (atI x0 x1) fun a32=>bnd (atI (x0.set (x1:Int).toNat a4) x2) fun a48=>some ((x0.set (x1:Int).toNat a4).set (x2:Int).toNat a18)
theorem Ex (x0:List Itm) (x1:Int) (x2:Int):Le (Dh x0 x1 x2) (Bp x0 x1 x2):=by
  unfold Dh Bp
  repeat' (first|apply Le.ite|apply Le.bnd|apply Le.fin|apply Le.rng|apply Le.rngN|apply Le.lop|exact Le.rf|intro _)
noncomputable def EI (x0:BxR 99 97 Itm) (x1:An 97 Itm):Option (BxR 99 97 Itm) :=
  bnd (appI 24 x0.l [x1.x]) fun u31=>some (⟨u31⟩:BxR 99 97 Itm)
theorem HV (x0:BxR 99 97 Itm) (x1:An 97 Itm):Le (EI x0 x1) (CS x0 x1):=by
  unfold EI CS
  repeat' (first|apply Le.ite|apply Le.bnd|apply Le.fin|apply Le.rng|apply Le.rngN|apply Le.lop|exact Le.rf|intro _)
noncomputable def EU (x0:BxR 99 97 Itm):Option ((An 97 Itm)×(BxR 99 97 Itm)) :=
  bnd (chkI ((x0.l.length:Int) - 1)) fun n13=>bnd (atI x0.l n13) fun a16=>bnd (cutI x0.l 0 n13) fun u37=>some ((⟨a16⟩:An 97 Itm),(⟨u37⟩:BxR 99 97 Itm))
theorem Iw (x0:BxR 99 97 Itm):Le (EU x0) (CX x0):=by
  unfold EU CX
  repeat' (first|apply Le.ite|apply Le.bnd|apply Le.fin|apply Le.rng|apply Le.rngN|apply Le.lop|exact Le.rf|intro _)
noncomputable def EV (x0:BxR 99 97 Itm) (x1:Int):Option (BxR 99 97 Itm) :=
  bnd (lopE (ρ:=(BxR 99 97 Itm)) (fun (s5:Int×(BxR 99 97 Itm))=>bnd (chkI (s5.1 - 1)) fun n22=>bnd (quoT n22 2) fun n25=>bnd (if n25=s5.1 then (some true) else (bnd (Dg s5.2.l s5.1 n25) fun q42=>if q42=true then some false else some true):Option Bool) fun y28=>if y28=true then (some (.brk (s5.1,s5.2))) else (bnd (Dh s5.2.l n25 s5.1) fun q73=>some (.next (n25,(⟨q73⟩:BxR 99 97 Itm))))) (x1,x0)) fun res3=>fin res3 fun (s90:Int×(BxR 99 97 Itm))=>some s90.2
theorem Ix (x0:BxR 99 97 Itm) (x1:Int):Le (EV x0 x1) (CE x0 x1):=by
  unfold EV CE
  repeat' (first|apply FJ|apply Ex|apply Le.ite|apply Le.bnd|apply Le.fin|apply Le.rng|apply Le.rngN|apply Le.lop|exact Le.rf|intro _)
noncomputable def Ey (x0:BxR 99 97 Itm) (x1:Int) (x2:Int):Option (Bool×(BxR 99 97 Itm)) :=
  bnd (lopE (ρ:=Bool×(BxR 99 97 Itm)) (fun (s6:Int×(BxR 99 97 Itm))=>bnd (chkI (2 * s6.1)) fun n23=>bnd (chkI (n23 + 1)) fun n26=>bnd (if x2≤n26 then (some true) else (if n26 < 0 then (some true) else (some false)):Option Bool) fun y29=>if y29=true then (some (.brk (s6.1,s6.2))) else (bnd (bnd (chkI (n26 + 1)) fun n45=>bnd (if n45 < x2 then (bnd (Dg s6.2.l n45 n26) fun q62=>if q62=true then some true else some false) else (some false):Option Bool) fun y48=>if y48=true then (some n45) else (some n26):Option Int) fun y40=>bnd (Dg s6.2.l y40 s6.1) fun q97=>if q97=true then bnd (Dh s6.2.l s6.1 y40) fun q109=>some (.next (y40,(⟨q109⟩:BxR 99 97 Itm))) else some (.brk (s6.1,s6.2)))) (x1,x0)) fun res4=>fin res4 fun (s126:Int×(BxR 99 97 Itm))=>bnd (if x1 < s126.1 then (some true) else (some false):Option Bool) fun y128=>some (y128,s126.2)
theorem HH (x0:BxR 99 97 Itm) (x1:Int) (x2:Int):Le (Ey x0 x1 x2) (Cu x0 x1 x2):=by
  unfold Ey Cu
  repeat' (first|apply FJ|apply Ex|apply Le.ite|apply Le.bnd|apply Le.fin|apply Le.rng|apply Le.rngN|apply Le.lop|exact Le.rf|intro _)
noncomputable def Ez (x0:BxR 99 97 Itm) (x1:An 97 Itm):Option (BxR 99 97 Itm) :=
  bnd (EI x0 (⟨x1.x⟩:An 97 Itm)) fun q9=>bnd (Dr q9.l) fun q26=>bnd (chkI (q26 - 1)) fun n34=>bnd (EV q9 n34) fun q42=>some q42
theorem HI (x0:BxR 99 97 Itm) (x1:An 97 Itm):Le (Ez x0 x1) (Ck x0 x1):=by
  unfold Ez Ck
  repeat' (first|apply EH|apply HV|apply Ix|apply Le.ite|apply Le.bnd|apply Le.fin|apply Le.rng|apply Le.rngN|apply Le.lop|exact Le.rf|intro _)
noncomputable def EJ (x0:BxR 99 97 Itm):Option ((An 97 Itm)×(BxR 99 97 Itm)) :=
  bnd (Dr x0.l) fun q11=>bnd (chkI (q11 - 1)) fun n19=>bnd (Dh x0.l 0 n19) fun q22=>bnd (Ey (⟨q22⟩:BxR 99 97 Itm) 0 n19) fun q35=>bnd (EU q35.2) fun q44=>some ((⟨q44.1.x⟩:An 97 Itm),q44.2)
theorem HW (x0:BxR 99 97 Itm):Le (EJ x0) (Cn x0):=by
  unfold EJ Cn
  repeat' (first|apply EH|apply Iw|apply Ex|apply HH|apply Le.ite|apply Le.bnd|apply Le.fin|apply Le.rng|apply Le.rngN|apply Le.lop|exact Le.rf|intro _)
noncomputable def Iy (x0:List Int):Option ((Option Pkr)×Err) :=
  if 64 < (x0.length:Int) then (some (none,(⟨5⟩:Err))) else (bnd (rng (ρ:=(Option Pkr)×Err) (fun (k25:Nat) (a26:Int) (s23:Int×Pkr)=>bnd (if a26 < 1 then (some true) else (if 64 < a26 then (some true) else (some false)):Option Bool) fun y48=>if y48=true then (some (.ret (none,(⟨1⟩:Err)))) else (bnd (lopE (ρ:=Ctl (Int×Pkr) ((Option Pkr)×Err)) (fun (s61:Int)=>bnd (shlI 1 s61) fun n76=>if n76 < a26 then (bnd (chkI (s61 + 1)) fun n80=>some (.next n80)) else (some (.brk s61))) 0) fun res59=>fin res59 fun (s87:Int)=>bnd (bnd (chkI (s23.1 + s87)) fun n95=>if 64 < n95 then (bnd (chkI (s23.2.words + 1)) fun n109=>some (0,(⟨s23.2.fields,n109⟩:Pkr))) else (some (s23.1,s23.2)):Option (Int×Pkr)) fun y89=>bnd (chkI (y89.2.words - 1)) fun n133=>bnd (appI 32 y89.2.fields [(⟨n133,y89.1,s87,a26⟩:PFd)]) fun u142=>bnd (chkI (y89.1 + s87)) fun n155=>some (.next (n155,(⟨u142,y89.2.words⟩:Pkr))))) x0 0 (0,(⟨([]:List PFd),1⟩:Pkr))) fun res21=>fin res21 fun (s167:Int×Pkr)=>some ((some s167.2),(⟨0⟩:Err)))
theorem Np (x0:List Int):Le (Iy x0) (EE x0):=by
  unfold Iy EE
  repeat' (first|apply Le.ite|apply Le.bnd|apply Le.fin|apply Le.rng|apply Le.rngN|apply Le.lop|exact Le.rf|intro _)
noncomputable def Er (x0:PFd):Option U64 :=
  bnd (shlU (1:U64) x0.width) fun n12=>bnd (shlU (n12 - (1:U64)) x0.bit) fun n14=>some n14
theorem GA (x0:PFd):Le (Er x0) (CA x0):=by
  unfold Er CA
  repeat' (first|apply Le.ite|apply Le.bnd|apply Le.fin|apply Le.rng|apply Le.rngN|apply Le.lop|exact Le.rf|intro _)
noncomputable def FC (x0:PFd) (x1:List U64):Option Int :=
  bnd (atI x1 x0.word) fun a15=>bnd (Er x0) fun q26=>bnd (shrU (a15 &&& q26) x0.bit) fun n33=>some n33.toInt
theorem JM (x0:PFd) (x1:List U64):Le (FC x0 x1) (Db x0 x1):=by
  unfold FC Db
  repeat' (first|apply GA|apply Le.ite|apply Le.bnd|apply Le.fin|apply Le.rng|apply Le.rngN|apply Le.lop|exact Le.rf|intro _)
noncomputable def Fc (x0:Pkr) (x1:List Int):Option ((List U64)×Err) :=
  if (x1.length:Int)≠(x0.fields.length:Int) then (some (([]:List U64),(⟨2⟩:Err))) else (bnd (mkI 8 ((0:U64):U64) x0.words) fun u25=>bnd (rng (ρ:=(List U64)×Err) (fun (k50:Nat) (a51:PFd) (s48:(List U64))=>bnd (bnd (x1[k50]?) fun a87=>if a87 < 0 then (some true) else (bnd (x1[k50]?) fun a98=>if a51.size≤a98 then (some true) else (some false)):Option Bool) fun y83=>if y83=true then (some (.ret (([]:List U64),(⟨2⟩:Err)))) else (bnd (atI s48 a51.word) fun a114=>bnd (x1[k50]?) fun a125=>bnd (shlU (BitVec.ofInt 64 a125) a51.bit) fun n135=>bnd (atI s48 a51.word) fun a137=>some (.next (s48.set (a51.word:Int).toNat (a114 ||| n135))))) x0.fields 0 u25) fun res46=>fin res46 fun (s154:(List U64))=>some (s154,(⟨0⟩:Err)))
theorem IO (x0:Pkr) (x1:List Int):Le (Fc x0 x1) (BO x0 x1):=by
  unfold Fc BO
  repeat' (first|apply Le.ite|apply Le.bnd|apply Le.fin|apply Le.rng|apply Le.rngN|apply Le.lop|exact Le.rf|intro _)
noncomputable def EK (x0:Pkr) (x1:List U64):Option ((List Int)×Err) :=
  if (x1.length:Int)≠x0.words then (some (([]:List Int),(⟨2⟩:Err))) else (bnd (mkI 8 (0:Int) (x0.fields.length:Int)) fun u25=>bnd (En x1) fun q38=>bnd (rng (ρ:=(List Int)×Err) (fun (k60:Nat) (a61:PFd) (s58:(List Int)×(List U64))=>bnd (FC a61 x1) fun q97=>bnd (s58.1[k60]?) fun a105=>bnd ((s58.1.set k60 q97)[k60]?) fun a117=>if a61.size≤a117 then (some (.ret (([]:List Int),(⟨2⟩:Err)))) else (bnd (atI s58.2 a61.word) fun a128=>bnd (Er a61) fun q139=>bnd (atI s58.2 a61.word) fun a146=>some (.next ((s58.1.set k60 q97),(s58.2.set (a61.word:Int).toNat (a128 &&& ~~~q139)))))) x0.fields 0 (u25,q38)) fun res56=>fin res56 fun (s163:(List Int)×(List U64))=>bnd (rng (ρ:=(List Int)×Err) (fun (k171:Nat) (a172:U64) (s169:Unit)=>bnd (s163.2[k171]?) fun a182=>if (a182.toNat:Int)≠((0:U64).toNat:Int) then (some (.ret (([]:List Int),(⟨2⟩:Err)))) else (some (.next ()))) q38 0 ()) fun res167=>fin res167 fun (s196:Unit)=>some (s163.1,(⟨0⟩:Err)))
theorem HX (x0:Pkr) (x1:List U64):Le (EK x0 x1) (Cy x0 x1):=by
  unfold EK Cy
  repeat' (first|apply JM|apply GA|apply FT|apply Le.ite|apply Le.bnd|apply Le.fin|apply Le.rng|apply Le.rngN|apply Le.lop|exact Le.rf|intro _)
noncomputable def Fd (x0:Pkr) (x1:List U64):Option Int :=
  bnd (rng (ρ:=Int) (fun (k13:Nat) (a14:U64) (s11:U64)=>bnd (shrU ((s11 ^^^ a14) * (13787848793156543929:U64)) 29) fun n31=>some (.next (((s11 ^^^ a14) * (13787848793156543929:U64)) ^^^ n31))) x1 0 ((BitVec.ofInt 64 (x1.length:Int)) + (11400714819323198485:U64))) fun res9=>fin res9 fun (s37:U64)=>bnd (shrU s37 2) fun n39=>some n39.toInt
theorem IP (x0:Pkr) (x1:List U64):Le (Fd x0 x1) (Ca x0 x1):=by
  unfold Fd Ca
  repeat' (first|apply Le.ite|apply Le.bnd|apply Le.fin|apply Le.rng|apply Le.rngN|apply Le.lop|exact Le.rf|intro _)
noncomputable def Dm (x0:List U64) (x1:List U64):Option Bool :=
  if (x0.length:Int)≠(x1.length:Int) then (some false) else (bnd (rng (ρ:=Bool) (fun (k18:Nat) (a19:U64) (s16:Unit)=>bnd (x1[k18]?) fun a36=>if (a19.toNat:Int)≠(a36.toNat:Int) then (some (.ret false)) else (some (.next ()))) x0 0 ()) fun res14=>fin res14 fun (s50:Unit)=>some true)
theorem FU (x0:List U64) (x1:List U64):Le (Dm x0 x1) (BH x0 x1):=by
  unfold Dm BH
  repeat' (first|apply Le.ite|apply Le.bnd|apply Le.fin|apply Le.rng|apply Le.rngN|apply Le.lop|exact Le.rf|intro _)
noncomputable def Gf (x0:List Int):Option ((Option Reg)×Err) :=
  bnd (Iy x0) fun q4=>if q4.2.n≠0 then (some (none,(⟨q4.2.n⟩:Err))) else (bnd q4.1 fun o22=>some ((some (⟨o22,([]:List REn),(⟨[]⟩:MapR 3 Int Int)⟩:Reg)),(⟨0⟩:Err)))
theorem KV (x0:List Int):Le (Gf x0) (Dt x0):=by
  unfold Gf Dt
  repeat' (first|apply Np|apply Le.ite|apply Le.bnd|apply Le.fin|apply Le.rng|apply Le.rngN|apply Le.lop|exact Le.rf|intro _)
noncomputable def DT (x0:Reg) (x1:List Int):Option ((List U64)×Int×Int×Err) :=
  bnd (Fc x0.packer x1) fun q20=>if q20.2.n≠0 then (some (([]:List U64),0,(-1),(⟨2⟩:Err))) else (bnd (Fd x0.packer q20.1) fun q41=>bnd (rng (ρ:=(List U64)×Int×Int×Err) (fun (k66:Nat) (a67:Int) (s64:Unit)=>bnd (atI x0.entries a67) fun a100=>bnd (Dm a100.words q20.1) fun q118=>if q118=true then some (.ret (q20.1,q41,a67,(⟨0⟩:Err))) else some (.next ())) (mget ([]:List Int) x0.table.l q41) 0 ()) fun res62=>fin res62 fun (s139:Unit)=>some (q20.1,q41,(-1),(⟨0⟩:Err)))
theorem GP (x0:Reg) (x1:List Int):Le (DT x0 x1) (BE x0 x1):=by
  unfold DT BE
  repeat' (first|apply IP|apply IO|apply FU|apply Le.ite|apply Le.bnd|apply Le.fin|apply Le.rng|apply Le.rngN|apply Le.lop|exact Le.rf|intro _)
noncomputable def Dp (x0:Reg) (x1:List Int):Option (Int×Bool×Err×Reg) :=
  bnd (DT x0 x1) fun q5=>if q5.2.2.2.n≠0 then (some (0,false,(⟨q5.2.2.2.n⟩:Err),x0)) else (if 0≤q5.2.2.1 then (some (q5.2.2.1,false,(⟨0⟩:Err),x0)) else (if 65536≤(x0.entries.length:Int) then (some (0,false,(⟨10⟩:Err),x0)) else (bnd (appI 48 x0.entries [(⟨q5.1,(⟨(-1),(-1),0⟩:RLk)⟩:REn)]) fun u53=>bnd (appI 8 (mget ([]:List Int) x0.table.l q5.2.1) ([(x0.entries.length:Int)]:List Int)) fun u82=>some ((x0.entries.length:Int),true,(⟨0⟩:Err),(⟨x0.packer,u53,(⟨mput x0.table.l q5.2.1 u82⟩:MapR 3 Int Int)⟩:Reg)))))
theorem Fe (x0:Reg) (x1:List Int):Le (Dp x0 x1) (By x0 x1):=by
  unfold Dp By
  repeat' (first|apply GP|apply Le.ite|apply Le.bnd|apply Le.fin|apply Le.rng|apply Le.rngN|apply Le.lop|exact Le.rf|intro _)
noncomputable def Cx (x0:Reg) (x1:Int):Option Bool :=
  bnd (if 0≤x1 then (if x1 < (x0.entries.length:Int) then (some true) else (some false)) else (some false):Option Bool) fun y3=>some y3
theorem DU (x0:Reg) (x1:Int):Le (Cx x0 x1) (Bj x0 x1):=by
  unfold Cx Bj
  repeat' (first|apply Le.ite|apply Le.bnd|apply Le.fin|apply Le.rng|apply Le.rngN|apply Le.lop|exact Le.rf|intro _)
noncomputable def DI (x0:Reg) (x1:Int):Option ((List Int)×Err) :=
  bnd (Cx x0 x1) fun q3=>if q3=true then bnd (atI x0.entries x1) fun a27=>bnd (EK x0.packer a27.words) fun q45=>some (q45.1,(⟨q45.2.n⟩:Err)) else some (([]:List Int),(⟨1⟩:Err))
theorem GG (x0:Reg) (x1:Int):Le (DI x0 x1) (BJ x0 x1):=by
  unfold DI BJ
  repeat' (first|apply HX|apply DU|apply Le.ite|apply Le.bnd|apply Le.fin|apply Le.rng|apply Le.rngN|apply Le.lop|exact Le.rf|intro _)
noncomputable def Dz (x0:Reg) (x1:Int) (x2:Int) (x3:Int) (x4:Int):Option (Err×Reg) :=
  bnd (bnd (Cx x0 x1) fun q10=>if q10=true then if x2≠(-1) then (bnd (Cx x0 x2) fun q20=>if q20=true then some false else some true) else (some false) else some true:Option Bool) fun y6=>if y6=true then (some ((⟨1⟩:Err),x0)) else (bnd (atI x0.entries x1) fun a49=>some ((⟨0⟩:Err),(⟨x0.packer,(x0.entries.set (x1:Int).toNat ({ a49 with link:=(⟨x2,x3,x4⟩:RLk) }:REn)),x0.table⟩:Reg)))
theorem Gg (x0:Reg) (x1:Int) (x2:Int) (x3:Int) (x4:Int):Le (Dz x0 x1 x2 x3 x4) (BD x0 x1 x2 x3 x4):=by
  unfold Dz BD
  repeat' (first|apply DU|apply Le.ite|apply Le.bnd|apply Le.fin|apply Le.rng|apply Le.rngN|apply Le.lop|exact Le.rf|intro _)
noncomputable def DJ (x0:List Int):Option (List Int) :=
  bnd (chkI ((x0.length:Int) - 1)) fun n4=>bnd (lopE (ρ:=(List Int)) (fun (s9:(List Int)×Int×Int)=>if s9.2.1 < s9.2.2 then (bnd (atI s9.1 s9.2.2) fun a31=>bnd (atI s9.1 s9.2.1) fun a43=>bnd (atI s9.1 s9.2.1) fun a55=>bnd (atI (s9.1.set (s9.2.1:Int).toNat a31) s9.2.2) fun a69=>bnd (chkI (s9.2.1 + 1)) fun n83=>bnd (chkI (s9.2.2 - 1)) fun n86=>some (.next (((s9.1.set (s9.2.1:Int).toNat a31).set (s9.2.2:Int).toNat a43),n83,n86))) else (some (.brk (s9.1,s9.2.1,s9.2.2)))) (x0,0,n4)) fun res7=>fin res7 fun (s93:(List Int)×Int×Int)=>some s93.1
theorem GH (x0:List Int):Le (DJ x0) (BK x0):=by
  unfold DJ BK
  repeat' (first|apply Le.ite|apply Le.bnd|apply Le.fin|apply Le.rng|apply Le.rngN|apply Le.lop|exact Le.rf|intro _)
noncomputable def DV (x0:Reg) (x1:Int):Option ((List Int)×Err) :=
  bnd (Cx x0 x1) fun q3=>if q3=true then bnd (lopE (ρ:=(List Int)×Err) (fun (s14:Int×(List Int))=>bnd (atI x0.entries s14.1) fun a48=>if a48.link.parent < 0 then (bnd (DJ s14.2) fun q74=>some (.ret (q74,(⟨0⟩:Err)))) else (bnd (appI 8 s14.2 [a48.link.op]) fun u89=>if (x0.entries.length:Int) < (u89.length:Int) then (some (.ret (([]:List Int),(⟨21⟩:Err)))) else (some (.next (a48.link.parent,u89))))) (x1,([]:List Int))) fun res12=>fin res12 fun (_:Int×(List Int))=>none else some (([]:List Int),(⟨1⟩:Err))
theorem GQ (x0:Reg) (x1:Int):Le (DV x0 x1) (Ce x0 x1):=by
  unfold DV Ce
  repeat' (first|apply DU|apply GH|apply Le.ite|apply Le.bnd|apply Le.fin|apply Le.rng|apply Le.rngN|apply Le.lop|exact Le.rf|intro _)
noncomputable def Di (x0:Option Gnr) (x1:List Int):Option (List Suc) :=
  bnd (Df x0 x1) fun q7=>bnd (rng (ρ:=(List Suc)) (fun (k23:Nat) (a24:Int) (s21:(List Suc))=>bnd (Do x1) fun q46=>bnd (x0) fun o56=>bnd (atI o56.t.ops a24) fun a88=>bnd (rng (ρ:=Ctl (List Suc) (List Suc)) (fun (k115:Nat) (a116:Eff) (s113:(List Int))=>bnd (Hl a116.cond x1) fun q150=>if q150=true then bnd (atI s113 a116.var) fun a157=>some (.next (s113.set (a116.var:Int).toNat a116.val)) else some (.next s113)) a88.effs 0 q46) fun res111=>fin res111 fun (s175:(List Int))=>bnd (appI 32 s21 [(⟨a24,s175⟩:Suc)]) fun u179=>some (.next u179)) q7 0 ([]:List Suc)) fun res19=>fin res19 fun (s195:(List Suc))=>some s195
theorem FL (x0:Option Gnr) (x1:List Int):Le (Di x0 x1) (Bi x0 x1):=by
  unfold Di Bi
  repeat' (first|apply Fb|apply FK|apply IH|apply Le.ite|apply Le.bnd|apply Le.fin|apply Le.rng|apply Le.rngN|apply Le.lop|exact Le.rf|intro _)
noncomputable def FV (x0:Tsk):Option ((Option Spc)×Err) :=
  bnd (II x0) fun q24=>if q24.2.n≠0 then (some (none,(⟨q24.2.n⟩:Err))) else (bnd (Gf x0.vars) fun q39=>if q39.2.n≠0 then (some (none,(⟨q39.2.n⟩:Err))) else (bnd q39.1 fun o52=>bnd (Dp o52 x0.init) fun q55=>if q55.2.2.1.n≠0 then (some (none,(⟨q55.2.2.1.n⟩:Err))) else (some ((some (⟨(⟨x0.vars,x0.init,x0.goal,x0.ops⟩:Tsk),q55.2.2.2,q24.1⟩:Spc)),(⟨0⟩:Err)))))
theorem Kq (x0:Tsk):Le (FV x0) (CW x0):=by
  unfold FV CW
  repeat' (first|apply KV|apply Fe|apply Ln|apply Le.ite|apply Le.bnd|apply Le.fin|apply Le.rng|apply Le.rngN|apply Le.lop|exact Le.rf|intro _)
noncomputable def Em (x0:Spc) (x1:Int) (x2:Int):Option (Rsl×Err) :=
  bnd (DV x0.reg x1) fun q36=>if q36.2.n≠0 then (some ((⟨0,([]:List Int),0,0⟩:Rsl),(⟨q36.2.n⟩:Err))) else (bnd (rng (ρ:=Rsl×Err) (fun (k77:Nat) (a78:Int) (s75:Int)=>bnd (atI x0.t.ops a78) fun a125=>bnd (chkI (s75 + a125.cost)) fun n146=>some (.next n146)) q36.1 0 0) fun res73=>fin res73 fun (s160:Int)=>some ((⟨1,q36.1,s160,x2⟩:Rsl),(⟨0⟩:Err)))
theorem Hm (x0:Spc) (x1:Int) (x2:Int):Le (Em x0 x1 x2) (Cb x0 x1 x2):=by
  unfold Em Cb
  repeat' (first|apply GQ|apply Le.ite|apply Le.bnd|apply Le.fin|apply Le.rng|apply Le.rngN|apply Le.lop|exact Le.rf|intro _)
noncomputable def DW (x0:Int) (x1:Int):Option (Rsl×Err) :=
  some ((⟨x0,([]:List Int),0,x1⟩:Rsl),(⟨0⟩:Err))
theorem JN (x0:Int) (x1:Int):Le (DW x0 x1) (Cf x0 x1):=by
  unfold DW Cf
  repeat' (first|apply Le.ite|apply Le.bnd|apply Le.fin|apply Le.rng|apply Le.rngN|apply Le.lop|exact Le.rf|intro _)
noncomputable def Fl (x0:Tsk) (x1:Int):Option (Rsl×Err) :=
  bnd (FV x0) fun q30=>if q30.2.n≠0 then (some ((⟨0,([]:List Int),0,0⟩:Rsl),(⟨q30.2.n⟩:Err))) else (bnd q30.1 fun o68=>bnd (lopE (ρ:=Rsl×Err) (fun (s78:(List Int)×(List Bool)×Int×Int×Spc×(BxR 99 97 Itm))=>bnd (Dr s78.2.2.2.2.2.l) fun q116=>if 0 < q116 then (bnd (EJ s78.2.2.2.2.2) fun q130=>bnd (atI s78.2.1 q130.1.x.id) fun a152=>if a152=true then (some (.next (s78.1,s78.2.1,s78.2.2.1,s78.2.2.2.1,s78.2.2.2.2.1,q130.2))) else (bnd (DI s78.2.2.2.2.1.reg q130.1.x.id) fun q191=>if q191.2.n≠0 then (some (.ret ((⟨0,([]:List Int),0,0⟩:Rsl),(⟨q191.2.n⟩:Err)))) else (bnd (Hl x0.goal q191.1) fun q209=>if q209=true then bnd (Em s78.2.2.2.2.1 q130.1.x.id s78.2.2.2.1) fun q581=>some (.ret (q581.1,(⟨q581.2.n⟩:Err))) else if x1≤s78.2.2.2.1 then (bnd (DW 3 s78.2.2.2.1) fun q217=>some (.ret (q217.1,(⟨q217.2.n⟩:Err)))) else (bnd (atI s78.2.1 q130.1.x.id) fun a239=>bnd (chkI (s78.2.2.2.1 + 1)) fun n252=>bnd (Di s78.2.2.2.2.1.gen q191.1) fun q255=>bnd (rng (ρ:=Ctl ((List Int)×(List Bool)×Int×Int×Spc×(BxR 99 97 Itm)) (Rsl×Err)) (fun (k275:Nat) (a276:Suc) (s273:(List Int)×(List Bool)×Int×Spc×(BxR 99 97 Itm))=>bnd (Dp s273.2.2.2.1.reg a276.state) fun q346=>if q346.2.2.1.n≠0 then (bnd (DW 3 n252) fun q363=>some (.ret (.ret (q363.1,(⟨q363.2.n⟩:Err))))) else (bnd (atI x0.ops a276.op) fun a385=>bnd (chkI (q130.1.x.cost + a385.cost)) fun n406=>bnd (if q346.2.1=true then (bnd (appI 8 s273.1 [n406]) fun u418=>bnd (appI 1 s273.2.1 [false]) fun u430=>some (.done (u418,u430))) else (bnd (bnd (atI s273.2.1 q346.1) fun a451=>if a451=true then (some true) else (bnd (atI s273.1 q346.1) fun a468=>if a468≤n406 then (some true) else (some false)):Option Bool) fun y447=>if y447=true then (some (.ret (.next (s273.1,s273.2.1,s273.2.2.1,(⟨(⟨s273.2.2.2.1.t.vars,s273.2.2.2.1.t.init,s273.2.2.2.1.t.goal,s273.2.2.2.1.t.ops⟩:Tsk),q346.2.2.2,s273.2.2.2.1.gen⟩:Spc),s273.2.2.2.2)))) else (some (.done (s273.1,s273.2.1)))):Option (Fin ((List Int)×(List Bool)) (Ctl ((List Int)×(List Bool)×Int×Spc×(BxR 99 97 Itm)) (Ctl ((List Int)×(List Bool)×Int×Int×Spc×(BxR 99 97 Itm)) (Rsl×Err))))) fun y409=>fin y409 fun (s411:(List Int)×(List Bool))=>bnd (atI s411.1 q346.1) fun a500=>bnd (Dz ((⟨(⟨s273.2.2.2.1.t.vars,s273.2.2.2.1.t.init,s273.2.2.2.1.t.goal,s273.2.2.2.1.t.ops⟩:Tsk),q346.2.2.2,s273.2.2.2.1.gen⟩:Spc).reg) q346.1 q130.1.x.id a276.op n406) fun q541=>if q541.1.n≠0 then (some (.ret (.ret ((⟨0,([]:List Int),0,0⟩:Rsl),(⟨q541.1.n⟩:Err))))) else (bnd (Ez s273.2.2.2.2 (⟨(⟨n406,s273.2.2.1,q346.1⟩:Itm)⟩:An 97 Itm)) fun q554=>bnd (chkI (s273.2.2.1 + 1)) fun n562=>some (.next ((s411.1.set (q346.1:Int).toNat n406),s411.2,n562,(⟨(⟨(⟨(⟨s273.2.2.2.1.t.vars,s273.2.2.2.1.t.init,s273.2.2.2.1.t.goal,s273.2.2.2.1.t.ops⟩:Tsk),q346.2.2.2,s273.2.2.2.1.gen⟩:Spc).t.vars,(⟨(⟨s273.2.2.2.1.t.vars,s273.2.2.2.1.t.init,s273.2.2.2.1.t.goal,s273.2.2.2.1.t.ops⟩:Tsk),q346.2.2.2,s273.2.2.2.1.gen⟩:Spc).t.init,(⟨(⟨s273.2.2.2.1.t.vars,s273.2.2.2.1.t.init,s273.2.2.2.1.t.goal,s273.2.2.2.1.t.ops⟩:Tsk),q346.2.2.2,s273.2.2.2.1.gen⟩:Spc).t.goal,(⟨(⟨s273.2.2.2.1.t.vars,s273.2.2.2.1.t.init,s273.2.2.2.1.t.goal,s273.2.2.2.1.t.ops⟩:Tsk),q346.2.2.2,s273.2.2.2.1.gen⟩:Spc).t.ops⟩:Tsk),q541.2,(⟨(⟨s273.2.2.2.1.t.vars,s273.2.2.2.1.t.init,s273.2.2.2.1.t.goal,s273.2.2.2.1.t.ops⟩:Tsk),q346.2.2.2,s273.2.2.2.1.gen⟩:Spc).gen⟩:Spc),q554))))) q255 0 (s78.1,(s78.2.1.set (q130.1.x.id:Int).toNat true),s78.2.2.1,s78.2.2.2.2.1,q130.2)) fun res271=>fin res271 fun (s574:(List Int)×(List Bool)×Int×Spc×(BxR 99 97 Itm))=>some (.next (s574.1,s574.2.1,s574.2.2.1,n252,s574.2.2.2.1,s574.2.2.2.2)))))) else (some (.brk (s78.1,s78.2.1,s78.2.2.1,s78.2.2.2.1,s78.2.2.2.2.1,s78.2.2.2.2.2)))) (([0]:List Int),[false],1,0,o68,(⟨[(⟨0,0,0⟩:Itm)]⟩:BxR 99 97 Itm))) fun res76=>fin res76 fun (s613:(List Int)×(List Bool)×Int×Int×Spc×(BxR 99 97 Itm))=>bnd (DW 2 s613.2.2.2.1) fun q615=>some (q615.1,(⟨q615.2.n⟩:Err)))
theorem Jv (x0:Tsk) (x1:Int):Le (Fl x0 x1) (BW x0 x1):=by
  unfold Fl BW
  repeat' (first|apply Kq|apply JN|apply EH|apply Hm|apply HW|apply HI|apply Fe|apply Gg|apply GG|apply FL|apply IH|apply Le.ite|apply Le.bnd|apply Le.fin|apply Le.rng|apply Le.rngN|apply Le.lop|exact Le.rf|intro _)
def Cc (x:List Fct):Option (List Fct):=Bd x
theorem CU (x:List Fct):Le (Cc x) (Bd x):=Le.rf
def CH (x:List Eff):Option (List Eff):=Bn x
theorem Ds (x:List Eff):Le (CH x) (Bn x):=Le.rf
noncomputable def Fm (x0:List ByteArray) (x1:List ByteArray):Option Int :=
  bnd (chkI ((x1.length:Int) + 1)) fun n9=>bnd (mkI 8 (0:Int) n9) fun u12=>bnd (rngN (ρ:=Int) (fun (k31:Nat) (s29:(List Int))=>bnd (s29[k31]?) fun a50=>some (.next (s29.set k31 (k31:Int)))) u12.length u12) fun res27=>fin res27 fun (s66:(List Int))=>bnd (rng (ρ:=Int) (fun (k74:Nat) (a75:ByteArray) (s72:(List Int))=>bnd (chkI ((x1.length:Int) + 1)) fun n99=>bnd (mkI 8 (0:Int) n99) fun u102=>bnd (chkI ((k74:Int) + 1)) fun n115=>bnd (atI u102 0) fun a118=>bnd (rng (ρ:=Ctl (List Int) Int) (fun (k138:Nat) (a139:ByteArray) (s136:(List Int))=>bnd (chkI ((k138:Int) + 1)) fun n161=>bnd (s136[k138]?) fun a164=>bnd (chkI ((k138:Int) + 1)) fun n174=>bnd (atI s72 n174) fun a177=>bnd (chkI ((min a164 a177) + 1)) fun n189=>bnd (atI s136 n161) fun a192=>if a75=a139 then (bnd (chkI ((k138:Int) + 1)) fun n207=>bnd (chkI ((k138:Int) + 1)) fun n210=>bnd (atI (s136.set (n161:Int).toNat n189) n210) fun a213=>bnd (s72[k138]?) fun a225=>bnd (atI (s136.set (n161:Int).toNat n189) n207) fun a235=>some (.next ((s136.set (n161:Int).toNat n189).set (n207:Int).toNat (min a213 a225)))) else (some (.next (s136.set (n161:Int).toNat n189)))) x1 0 (u102.set (0:Int).toNat n115)) fun res134=>fin res134 fun (s253:(List Int))=>some (.next s253)) x0 0 s66) fun res70=>fin res70 fun (s261:(List Int))=>bnd (s261[x1.length]?) fun a265=>some a265
theorem Jw (x0:List ByteArray) (x1:List ByteArray):Le (Fm x0 x1) (CT x0 x1):=by
  unfold Fm CT
  repeat' (first|apply Le.ite|apply Le.bnd|apply Le.fin|apply Le.rng|apply Le.rngN|apply Le.lop|exact Le.rf|intro _)
noncomputable def Fz (x0:Opr) (x1:Int) (x2:Int):Option Opr :=
  bnd (Cc x0.pre) fun q25=>bnd (appI 16 q25 [(⟨x1,x2⟩:Fct)]) fun u35=>bnd (CH x0.effs) fun q49=>bnd (chkI (x2 + 1)) fun n59=>bnd (appI 40 q49 [(⟨([]:List Fct),x1,n59⟩:Eff)]) fun u62=>some (⟨x0.name,x0.cost,u35,u62⟩:Opr)
theorem Lo (x0:Opr) (x1:Int) (x2:Int):Le (Fz x0 x1 x2) (Dk x0 x1 x2):=by
  unfold Fz Dk
  repeat' (first|apply Ds|apply CU|apply Le.ite|apply Le.bnd|apply Le.fin|apply Le.rng|apply Le.rngN|apply Le.lop|exact Le.rf|intro _)
noncomputable def EW (x0:List Eff):Option (List Eff) :=
  bnd (rngN (ρ:=(List Eff)) (fun (k8:Nat) (s6:(List Eff))=>bnd (s6[k8]?) fun a27=>bnd (Cc a27.cond) fun q42=>bnd (s6[k8]?) fun a52=>some (.next (s6.set k8 ({ a52 with cond:=q42 }:Eff)))) x0.length x0) fun res4=>fin res4 fun (s81:(List Eff))=>some s81
theorem Iz (x0:List Eff):Le (EW x0) (CD x0):=by
  unfold EW CD
  repeat' (first|apply CU|apply Le.ite|apply Le.bnd|apply Le.fin|apply Le.rng|apply Le.rngN|apply Le.lop|exact Le.rf|intro _)
noncomputable def FD (x0:Tsk) (x1:List ByteArray) (x2:Int):Option (Tsk×(List Prt)×Err) :=
  bnd (Hk x0) fun q33=>if q33.n≠0 then (some ((⟨([]:List Int),([]:List Int),([]:List Fct),([]:List Opr)⟩:Tsk),([]:List Prt),(⟨q33.n⟩:Err))) else (bnd (if x2 < 0 then (some true) else (if 1000 < x2 then (some true) else (some false)):Option Bool) fun y44=>if y44=true then (some ((⟨([]:List Int),([]:List Int),([]:List Fct),([]:List Opr)⟩:Tsk),([]:List Prt),(⟨1⟩:Err))) else (if 63 < (x1.length:Int) then (some ((⟨([]:List Int),([]:List Int),([]:List Fct),([]:List Opr)⟩:Tsk),([]:List Prt),(⟨5⟩:Err))) else (bnd (chkI ((x1.length:Int) + 1)) fun n64=>bnd (Do x0.vars) fun q66=>bnd (appI 8 q66 ([n64]:List Int)) fun u68=>bnd (Do x0.init) fun q70=>bnd (appI 8 q70 ([0]:List Int)) fun u72=>bnd (Cc x0.goal) fun q74=>bnd (appI 16 q74 ([(⟨(x0.vars.length:Int),(x1.length:Int)⟩:Fct)]:List Fct)) fun u76=>bnd (some (u68,u72,u76):Option ((List Int)×(List Int)×(List Fct))) fun y78=>bnd (rng (ρ:=Tsk×(List Prt)×Err) (fun (k214:Nat) (a215:Opr) (s212:(List Prt)×(List Opr))=>bnd (chkI (a215.cost + x2)) fun n257=>bnd (Cc a215.pre) fun q262=>bnd (CH a215.effs) fun q272=>bnd (appI 72 s212.2 [(⟨a215.name,n257,q262,q272⟩:Opr)]) fun u288=>bnd (appI 8 s212.1 [(⟨(k214:Int)⟩:Prt)]) fun u300=>some (.next (u300,u288))) x0.ops 0 (([]:List Prt),([]:List Opr))) fun res210=>fin res210 fun (s318:(List Prt)×(List Opr))=>bnd (rng (ρ:=Tsk×(List Prt)×Err) (fun (k326:Nat) (a327:ByteArray) (s324:(List Prt)×(List Opr))=>bnd (rng (ρ:=Ctl ((List Prt)×(List Opr)) (Tsk×(List Prt)×Err)) (fun (k359:Nat) (a360:Opr) (s357:(List Prt)×(List Opr))=>if a360.name=a327 then (bnd (Fz a360 (x0.vars.length:Int) (k326:Int)) fun q403=>bnd (appI 72 s357.2 [q403]) fun u405=>bnd (appI 8 s357.1 [(⟨(k359:Int)⟩:Prt)]) fun u407=>some (.next (u407,u405))) else (some (.next (s357.1,s357.2)))) x0.ops 0 (s324.1,s324.2)) fun res355=>fin res355 fun (s563:(List Prt)×(List Opr))=>bnd (Fz (⟨(⟨#[]⟩:ByteArray),x2,([]:List Fct),([]:List Eff)⟩:Opr) (x0.vars.length:Int) (k326:Int)) fun q565=>bnd (appI 72 s563.2 [q565]) fun u587=>bnd (appI 8 s563.1 [(⟨(-1)⟩:Prt)]) fun u600=>if 4096 < (u587.length:Int) then (some (.brk (u600,u587))) else (some (.next (u600,u587)))) x1 0 (s318.1,s318.2)) fun res322=>fin res322 fun (s619:(List Prt)×(List Opr))=>bnd (rngN (ρ:=Tsk×(List Prt)×Err) (fun (k627:Nat) (s625:(List Opr))=>bnd (s625[k627]?) fun a646=>bnd (EW a646.effs) fun q663=>bnd (s625[k627]?) fun a671=>some (.next (s625.set k627 ({ a671 with effs:=q663 }:Opr)))) s619.2.length s619.2) fun res623=>fin res623 fun (s688:(List Opr))=>bnd (Hk (⟨y78.1,y78.2.1,y78.2.2,s688⟩:Tsk)) fun q698=>if q698.n≠0 then (some ((⟨([]:List Int),([]:List Int),([]:List Fct),([]:List Opr)⟩:Tsk),([]:List Prt),(⟨q698.n⟩:Err))) else (some ((⟨y78.1,y78.2.1,y78.2.2,s688⟩:Tsk),s619.1,(⟨0⟩:Err))))))
theorem JO (x0:Tsk) (x1:List ByteArray) (x2:Int):Le (FD x0 x1 x2) (Da x0 x1 x2):=by
  unfold FD Da
  repeat' (first|apply Iz|apply Lo|apply Ds|apply CU|apply Fb|apply LR|apply Le.ite|apply Le.bnd|apply Le.fin|apply Le.rng|apply Le.rngN|apply Le.lop|exact Le.rf|intro _)
noncomputable def FW (x0:Tsk) (x1:List ByteArray) (x2:Int) (x3:Int):Option (Rsl×Int×Err) :=
  bnd (FD x0 x1 x2) fun q34=>if q34.2.2.n≠0 then (some ((⟨0,([]:List Int),0,0⟩:Rsl),0,(⟨q34.2.2.n⟩:Err))) else (bnd (Fl q34.1 x3) fun q77=>if q77.2.n≠0 then (some ((⟨0,([]:List Int),0,0⟩:Rsl),0,(⟨q77.2.n⟩:Err))) else (if q77.1.verdict≠1 then (some (q77.1,0,(⟨0⟩:Err))) else (bnd (rng (ρ:=Rsl×Int×Err) (fun (k116:Nat) (a117:Int) (s114:(List Int)×(List ByteArray))=>bnd (atI q34.2.1 a117) fun a143=>if 0≤a143.op then (bnd (atI x0.ops a143.op) fun a156=>bnd (appI 8 s114.1 ([a143.op]:List Int)) fun u158=>bnd (appI 16 s114.2 [a156.name]) fun u160=>some (.next (u158,u160))) else (some (.next (s114.1,s114.2)))) q77.1.plan 0 (([]:List Int),([]:List ByteArray))) fun res112=>fin res112 fun (s269:(List Int)×(List ByteArray))=>bnd (Fm s269.2 x1) fun q273=>some ((⟨q77.1.verdict,s269.1,q77.1.cost,q77.1.expanded⟩:Rsl),q273,(⟨0⟩:Err)))))
theorem Kr (x0:Tsk) (x1:List ByteArray) (x2:Int) (x3:Int):Le (FW x0 x1 x2 x3) (Cp x0 x1 x2 x3):=by
  unfold FW Cp
  repeat' (first|apply Jv|apply Jw|apply JO|apply Le.ite|apply Le.bnd|apply Le.fin|apply Le.rng|apply Le.rngN|apply Le.lop|exact Le.rf|intro _)
noncomputable def IJ  : Option Bool :=
  bnd (FW (⟨([2]:List Int),([0]:List Int),[(⟨0,1⟩:Fct)],[(⟨(⟨#[97]⟩:ByteArray),3,([]:List Fct),[(⟨([]:List Fct),0,1⟩:Eff)]⟩:Opr)]⟩:Tsk) [(⟨#[97]⟩:ByteArray)] 5 100) fun q56=>bnd (if q56.2.2.n=0 then (if q56.2.1=0 then (if q56.1.verdict=1 then (if q56.1.cost=3 then (bnd (HG q56.1.plan ([0]:List Int)) fun q100=>if q100=true then some true else some false) else (some false)) else (some false)) else (some false)) else (some false):Option Bool) fun y86=>some y86
theorem Lp  : Le (IJ ) (DE ):=by
  unfold IJ DE
  repeat' (first|apply MW|apply Kr|apply Le.ite|apply Le.bnd|apply Le.fin|apply Le.rng|apply Le.rngN|apply Le.lop|exact Le.rf|intro _)
set_option maxRecDepth 100000 in
theorem awake60:DE=some true:=Lp true (by kernel_rfl)
end
section
open Go Go.RowKit
def repR (t:Tsk) (old:List ByteArray) (w:Int) (r:Rsl):Rsl×Int×Err:=if r.verdict≠1 then (r,0,⟨0⟩) else (⟨r.verdict,mapP (cmpL t old w) r.plan,r.cost,r.expanded⟩,(dist2 ((mapP (cmpL t old w) r.plan).map (nmO t)) old:Int),⟨0⟩)
section
variable {t : Tsk} {old : List ByteArray} {w : Int} {r : Rsl}
theorem PX:(repR t old w r).2.2.n=0:=by unfold repR;split<;>rfl
theorem PY:(repR t old w r).1.verdict=r.verdict:=by unfold repR;split<;>rfl
theorem Pp:(repR t old w r).1.cost=r.cost:=by unfold repR;split<;>rfl
theorem PZ (h:r.verdict=1):repR t old w r=(⟨r.verdict,mapP (cmpL t old w) r.plan,r.cost,r.expanded⟩,(dist2 ((mapP (cmpL t old w) r.plan).map (nmO t)) old:Int),⟨0⟩):=if_neg (fun h'=>h' h)
end
end
section
open Go Go.RowKit
theorem Qa {t:Tsk} {old:List ByteArray} {w:Int} (hok:TaskOk t) (hw0:0≤w) (hold:old.length≤63) (hn:checkN (cmpT t old w)≠0):checkN (cmpT t old w)=1∨checkN (cmpT t old w)=5:=by
  have hvl:(cmpT t old w).vars=t.vars ++ [(old.length:Int) + 1]:=rfl
  have hf1:∀ f,FactOk t.vars f→FactOk (cmpT t old w).vars f:=fun f ⟨h1,h2,y,h3,h4⟩=>⟨h1,h2,y,by rw [hvl,List.getElem?_append_left (AD h3)];exact h3,h4⟩
  have hfs:∀ fs,FactsOk t.vars fs→FactsOk (cmpT t old w).vars fs:=fun fs ⟨h1,h2⟩=>⟨fun i x hx=>hf1 x (h1 i x hx),h2⟩
  have hpos:∀ p:Int,0≤p→p≤(old.length:Int)→FactOk (cmpT t old w).vars ⟨(t.vars.length:Int),p⟩:=fun p h0 h1=>⟨by simp,h0,(old.length:Int) + 1,by rw [hvl];simp,by simp;omega⟩
  have hsn:∀ (fs:List Fct) (p:Int),FactsOk t.vars fs→0≤p→p≤(old.length:Int)→FactsOk (cmpT t old w).vars (fs ++ [⟨(t.vars.length:Int),p⟩]):=fun fs p hf h0 h1=>by
    refine ⟨fun i x hx=>?_,fun i x y hx hy=>?_⟩
    · rcases Nat.lt_or_ge i fs.length with hi|hi
      · rw [List.getElem?_append_left hi] at hx;exact hf1 x (hf.1 i x hx)
      · rw [List.getElem?_append_right hi] at hx
        have hx2:=AD hx
        simp only [List.length_singleton] at hx2
        have:i - fs.length=0:=by omega
        rw [this] at hx
        obtain rfl:(⟨(t.vars.length:Int),p⟩:Fct)=x:=by simpa using hx
        exact hpos p h0 h1
    · have hy2:=AD hy
      rw [List.length_append,List.length_singleton] at hy2
      rw [List.getElem?_append_left (by omega)] at hx
      rcases Nat.lt_or_ge (i + 1) fs.length with hi|hi
      · rw [List.getElem?_append_left hi] at hy;exact hf.2 i x y hx hy
      · rw [List.getElem?_append_right hi] at hy
        have:i + 1 - fs.length=0:=by omega
        rw [this] at hy
        obtain rfl:(⟨(t.vars.length:Int),p⟩:Fct)=y:=by simpa using hy
        obtain ⟨_,_,z,h5,_⟩:=hf.1 i x hx
        have:=AD h5
        obtain ⟨h6,_⟩:=hf.1 i x hx
        show x.var < (t.vars.length:Int)
        omega
  have hop:∀ o∈(cmpT t old w).ops,NameOk o.name∧FactsOk (cmpT t old w).vars o.pre∧∀ e∈o.effs,EffOk (cmpT t old w).vars e:=fun o ho=>by
    have ho':o∈(cmpL t old w).map (·.1):=ho
    obtain ⟨q,hq,rfl⟩:=List.mem_map.1 ho'
    have hkept:∀ (p:Nat) (o:Opr),p < old.length→NameOk o.name→FactsOk t.vars o.pre→(∀ e∈o.effs,EffOk t.vars e)→NameOk (keptO o (t.vars.length:Int) (p:Int)).name∧FactsOk (cmpT t old w).vars (keptO o (t.vars.length:Int) (p:Int)).pre∧∀ e∈(keptO o (t.vars.length:Int) (p:Int)).effs,EffOk (cmpT t old w).vars e:=fun p o hp h1 h2 h3=>by
      refine ⟨h1,hsn _ _ h2 (by omega) (by omega),fun e he=>?_⟩
      rcases List.mem_append.1 he with he|he
      · exact ⟨hfs _ (h3 e he).1,hf1 _ (h3 e he).2⟩
      · have:e=⟨[],(t.vars.length:Int),(p:Int) + 1⟩:=by simpa using he
        subst this
        exact ⟨⟨fun i x h=>by simp at h,fun i x y h=>by simp at h⟩,hpos ((p:Int) + 1) (by omega) (by omega)⟩
    rcases Ge.1 hq with ⟨i,o,hi,rfl⟩|⟨p,i,o,hn,hi,rfl⟩|⟨p,name,hn,rfl⟩
    · obtain ⟨_,_,_,h4,h5,h6⟩:=hok.2.2.2.2.2 i o hi
      exact ⟨h4,hfs _ h5,fun e he=>by obtain ⟨h7,h8⟩:=JJ hok hi e he;exact ⟨hfs _ h7,hf1 _ h8⟩⟩
    · obtain ⟨_,_,_,h4,h5,h6⟩:=hok.2.2.2.2.2 i o hi
      exact hkept p o (AD hn) h4 h5 (JJ hok hi)
    · exact hkept p _ (AD hn) ⟨show (⟨#[]⟩:ByteArray).size≤256 from by decide,fun i h=>absurd h (Nat.not_lt_zero i)⟩ ⟨fun i x h=>by simp at h,fun i x y h=>by simp at h⟩ (fun e he=>by simp at he)
  have hst:StateOk (cmpT t old w).vars (cmpT t old w).init:=by
    obtain ⟨h1,h2⟩:=hok.2.2.2.1
    show StateOk (t.vars ++ [(old.length:Int) + 1]) (t.init ++ [0])
    refine ⟨by simp [h1],fun i x y hx hy=>?_⟩
    rcases Nat.lt_or_ge i t.vars.length with hi|hi
    · rw [List.getElem?_append_left (by omega)] at hx
      rw [List.getElem?_append_left hi] at hy
      exact h2 i x y hx hy
    · rw [List.getElem?_append_right (by omega)] at hx
      rw [List.getElem?_append_right hi] at hy
      have h3:=AD hy
      simp only [List.length_singleton] at h3
      have h4:i - t.vars.length=0:=by omega
      rw [h4] at hy
      rw [show i - t.init.length=0 from by omega] at hx
      simp at hx hy
      omega
  have hall:StateOk (cmpT t old w).vars (cmpT t old w).init∧CondsOk (cmpT t old w)∧EffsOk (cmpT t old w):=by
    refine ⟨hst,fun i f hf=>?_,fun i o ho j e he=>((hop o (List.mem_of_getElem? ho)).2.2 e (List.mem_of_getElem? he)).2⟩
    have hm:=List.mem_of_getElem? hf
    have hgoal:FactsOk (cmpT t old w).vars (cmpT t old w).goal:=hsn t.goal _ hok.2.2.2.2.1 (by omega) (by omega)
    rcases Gv.1 hm with rfl|⟨i,o,ho,rfl|⟨j,e,he,rfl⟩⟩
    · exact hgoal
    · exact (hop o (List.mem_of_getElem? ho)).2.1
    · exact ((hop o (List.mem_of_getElem? ho)).2.2 e (List.mem_of_getElem? he)).1
  have hnm:NamesOk (cmpT t old w):=fun i o ho=>(hop o (List.mem_of_getElem? ho)).1
  unfold checkN at hn ⊢
  by_cases h1:Large (cmpT t old w)
  · rw [if_pos (GU.2 h1)];exact .inr rfl
  rw [if_neg (fun hh=>h1 (GU.1 hh))] at hn ⊢
  by_cases h2:VarsOk (cmpT t old w)∧CostsOk (cmpT t old w)
  case neg=>rw [if_pos (Dj.2 h2)];exact .inl rfl
  rw [if_neg (fun hh=>Dj.1 hh h2),if_neg (fun hh=>Dj.1 hh hall),if_neg (fun hh=>Dj.1 hh hnm)] at hn
  exact absurd rfl hn
theorem Qb {t:Tsk} (hok:TaskOk t) {p:List Int} (hp:∀ (i:Nat) (k:Int),p[i]?=some k→∃ (j:Nat) (o:Opr),k=(j:Int)∧t.ops[j]?=some o) (hl:p.length≤1000) :
    ∃ r,Fs t t.init p=some r∧(r.2=true→∃ x,PlanR t t.init p x r.1∧holdsB t.goal x=true):=by
  unfold Fs
  refine Hj (fun k s=>StateOk t.vars s.1∧PlanR t t.init (p.take k) s.1 s.2) (fun q=>q=(0,false)) ⟨hok.2.2.2.1,by simpa using PlanR.nil⟩ ?_ ?_ ?_
  · rintro i k ⟨s,c⟩ hk ⟨hs,hpl⟩
    have hkl:=AD hk
    dsimp only at hs hpl ⊢
    obtain ⟨j,o,rfl,hj⟩:=hp i k hk
    rw [LD hok hs hj,Ar]
    by_cases hb:holdsB o.pre s=true
    · have hbd:=hpl.bound hok
      have hcl:(p.take i).length≤1000:=by simp;omega
      have hoo:=hok.2.2.2.2.2 j o hj
      have h1:=hoo.1
      have h2:=hoo.2.1
      rw [if_pos hb,if_neg (by simp),Bv,hj,Ar,BF (by unfold inI64;omega),Ar]
      refine .inl ⟨_,rfl,HS hok hs hj,?_⟩
      have:=hpl.snoc hj hb
      rw [List.take_add_one,hk]
      exact this
    · rw [if_neg hb]
      exact .inr ⟨(0,false),by rw [if_pos (by simp)],rfl⟩
  · rintro ⟨s,c⟩ ⟨hs,hpl⟩
    rw [List.take_length] at hpl
    rw [Cq,Hi,Ar]
    cases hg:holdsB t.goal s with
    | true=>exact ⟨(c,true),rfl,fun _=>⟨s,hpl,hg⟩⟩
    | false=>exact ⟨(c,false),rfl,fun h=>by cases h⟩
  · rintro q rfl
    exact ⟨(0,false),rfl,fun h=>by cases h⟩
def insP (t:Tsk) (p:List Int):List Int:=p.filter fun a=>decide (0≤a∧a < (t.ops.length:Int))
theorem Pq {t:Tsk} {p:List Int} (hl:p.length≤1000):DM t p=some (insP t p):=by
  unfold DM
  rw [El (fun k=>insP t (p.take k)) (by simp [insP]) ?gg1,Ar,Cq,List.take_length]
  intro k a ha
  have hk:=AD ha
  have hle:(insP t (p.take k)).length≤1000:=by
    have:=List.length_filter_le (fun a=>decide (0≤a∧a < (t.ops.length:Int))) (p.take k)
    unfold insP
    rw [List.length_take] at this
    omega
  have hst:insP t (p.take (k + 1))=insP t (p.take k) ++ if 0≤a∧a < (t.ops.length:Int) then [a] else []:=by
    unfold insP
    rw [List.take_add_one,ha,List.filter_append]
    by_cases h:0≤a∧a < (t.ops.length:Int)
    · rw [if_pos h];simp [h]
    · rw [if_neg h]
      congr 1
      simp only [Option.toList_some,List.filter_cons,List.filter_nil]
      rw [if_neg (by simpa using h)]
  by_cases h0:0≤a
  · by_cases h1:a < (t.ops.length:Int)
    · rw [if_pos h0,if_pos h1,Ar,Du,BX (by simp;omega) (by simp;omega),Ar,hst,if_pos ⟨h0,h1⟩]
    · rw [if_pos h0,if_neg h1,Ar,DH,hst,if_neg (fun h=>h1 h.2),List.append_nil]
  · rw [if_neg h0,Ar,DH,hst,if_neg (fun h=>h0 h.1),List.append_nil]
theorem NT {t:Tsk} {p:List Int} (i:Nat) (k:Int) (h:(insP t p)[i]?=some k):∃ (j:Nat) (o:Opr),k=(j:Int)∧t.ops[j]?=some o:=by
  have hm:=(List.mem_filter.1 (List.mem_of_getElem? h)).2
  simp only [decide_eq_true_eq] at hm
  obtain ⟨j,rfl⟩:=Int.eq_ofNat_of_zero_le hm.1
  obtain ⟨o,ho⟩:=AE (l:=t.ops) (k:=j) (by omega)
  exact ⟨j,o,rfl,ho⟩
theorem Pr (t:Tsk) (p:List Int) (w0:Int):DY t p w0=some true:=by
  unfold DY
  obtain ⟨b,hb,hfit⟩:=PU t []
  rw [hb,awake60]
  cases b with
  | false=>rfl
  | true =>
  obtain ⟨hs,hf0⟩:=hfit rfl
  by_cases hpl:6 < (p.length:Int)
  · rw [if_pos hpl];rfl
  rw [if_neg hpl,Ar,Du,Ar,Du,Ar,DH]
  unfold Gs
  obtain ⟨w,hw⟩:∃ w,w=max 0 (min w0 1000):=⟨_,rfl⟩
  rw [← hw,Ar,Pq (by omega),Ar]
  have hw0:0≤w:=by omega
  have hw1:w≤1000:=by omega
  clear hw
  have hil:(insP t p).length≤6:=by
    have:=List.length_filter_le (fun a=>decide (0≤a∧a < (t.ops.length:Int))) p
    unfold insP;omega
  obtain ⟨⟨c,ok⟩,e1,e2⟩:=Qb hf0.ok (NT (t:=t) (p:=p)) (by omega)
  rw [e1,Ar]
  dsimp only at e2 ⊢
  cases ok with
  | false=>rw [if_pos (by simp),Ar,Du]
  | true =>
  obtain ⟨x,hx,hg⟩:=e2 rfl
  obtain ⟨best,b1,b2,b3,b4,b5⟩:=QV hs.mid
  rw [if_neg (by simp),b1,Ar]
  by_cases hcb:c≠best
  · rw [if_pos hcb,Ar,Du]
  rw [if_neg hcb,Ar,DH,Ar,MT (NT (t:=t) (p:=p)) (by omega),Ar]
  have hcb':c=best:=Classical.byContradiction hcb
  subst hcb'
  have hol:((insP t p).map (nmO t)).length≤6:=by rw [List.length_map];exact hil
  have hf:Fit t ((insP t p).map (nmO t)):=⟨hf0.ok,hf0.ops,hol,hf0.states⟩
  by_cases hu:TaskOk (cmpT t ((insP t p).map (nmO t)) w)
  case neg =>
    obtain ⟨g1,hn⟩:=Oy hf hw0 hw1 hu 5000
    rw [g1,Ar,if_pos hn]
    unfold Gy Ik
    rcases Qa hf.ok hw0 (by omega) hn with h|h
    · rw [h];rfl
    · rw [h];rfl
  obtain ⟨r,a1,a2,a3,a4⟩:=Oz hf hw0 hw1 hu 5000
  have a4':Cp t ((insP t p).map (nmO t)) w 5000=some (repR t ((insP t p).map (nmO t)) w r):=a4
  have hv:r.verdict=1:=by
    rcases a2.verd with h|h|h
    · exact h
    · exact ((PV hf a2 h).2.2 _ _ _ hx hg).elim
    · exact absurd h (Ov (hf.mid hu) a2 (by decide))
  obtain ⟨y,c',p1,p2,p3,p4⟩:=QZ hf hw0 a2 hv
  have k1:=p4 _ _ _ hx hg
  have k2:=b5 _ (p1.walk p2)
  have hz:dist2 ((insP t p).map (nmO t)) ((insP t p).map (nmO t))=0:=Nat.le_zero.1 (MK (Scr.refl _))
  rw [hz] at k1
  have l1:(mapP (cmpL t ((insP t p).map (nmO t)) w) r.plan).length≤600:=by
    obtain ⟨_,_,M,_,_,_,⟨_,hl,_⟩|⟨h3,_⟩|⟨h3,_⟩⟩:=a2
    · have:=Iv (cmpL t ((insP t p).map (nmO t)) w) r.plan;omega
    · omega
    · omega
  rw [a4',Ar,PX,PY,Pp,if_neg (by simp),if_pos hv,PZ hv]
  dsimp only
  have m0:0≤w * (dist2 ((mapP (cmpL t ((insP t p).map (nmO t)) w) r.plan).map (nmO t)) ((insP t p).map (nmO t)):Int):=Int.mul_nonneg hw0 (by omega)
  have hz2:w * ((0:Nat):Int)=0:=by simp
  rw [hz2] at k1
  rw [if_pos (by omega)]
  by_cases hwz:w=0
  · rw [if_pos hwz,Ar]
  rw [if_neg hwz]
  have hd:dist2 ((mapP (cmpL t ((insP t p).map (nmO t)) w) r.plan).map (nmO t)) ((insP t p).map (nmO t))=0:=by
    have h1:w * (dist2 ((mapP (cmpL t ((insP t p).map (nmO t)) w) r.plan).map (nmO t)) ((insP t p).map (nmO t)):Int)=0:=by omega
    rcases Int.mul_eq_zero.1 h1 with h|h
    · exact absurd h hwz
    · omega
  have heq:(mapP (cmpL t ((insP t p).map (nmO t)) w) r.plan).map (nmO t)=(insP t p).map (nmO t):=List.reverse_inj.1 ((QK _ _).1 hd)
  rw [if_pos (by rw [hd];rfl),MT (NQ p1) (by omega),Ar,PN,heq]
  simp [Ar]
end
section
open Go Go.RowKit Go.ChangeShapes Go.WideShapes Go.Deep
theorem lawRKeeps {w:World} {v0:Value} {a0:Tsk} (h0:V w v0 a0) {v1:Value} {a1:List Int} (h1:V w v1 a1) {v2:Value} {a2:Int} (h2:V w v2 a2):Fn Tryz.prog 5 [v0,v1,v2] w fun v w'=>v=.bool true∧Ext w w':=by
  obtain ⟨rfl,r2⟩:=Vb.int h2
  exact (IN (fun _ h=>h) h0 h1 r2 (Pr a0 a1 a2)).mono fun _ _ h=>⟨h.2.bool,h.1⟩
set_option maxRecDepth 100000 in
theorem Jx (os:Os) (started:os.Started) (H:Type) (enc:TypeId×Value→H) :
    ReturnsInHanded {} Tryz.checked os 5 .any (Rows.repairKeepsSpec.pre6 enc Tryz.prog Tryz.f5 Rows.repairKeepsRow.domain false) (Rows.repairKeepsSpec.post enc Tryz.prog Tryz.f5 false true false false):=by
  refine returnsInHanded_of_change (C:=Tryz.checked) ownTry started (by kernel_rfl) Tryz.func5 (ChangeSpec.witness6 (enc:=enc) (C:=Tryz.checked) false ⟨#[],#[(.agg #[.slice none 0 0,.slice none 0 0,.slice none 0 0,.slice none 0 0]),.slice none 0 0,(.int .i64 0)],[]⟩ 8 (by kernel_rfl) (by kernel_rfl) (by kernel_rfl) (by kernel_rfl)) ?_
  intro W base args ds gs before hval hW _ _
  have hopen:∀ p,DataW.TrodAll enc Tryz.prog W 0 (fun _=>true) true Tryz.f5.params.toList args.toList ds p→∃ v0 v1 v2 d0 d1 d2,args=#[v0,v1,v2]∧ds=[d0,d1,d2]∧(∃ a:Tsk,V W v0 a)∧(∃ a:List Int,V W v1 a)∧(∃ a:Int,V W v2 a):=by
    intro p hA
    rw [Tryz.params5] at hA
    replace hval:∀ (j:Nat) t v,(#[26,22,3]:Array TypeId)[j]?=some t→args[j]?=some v→Value.okWide Tryz.prog W .any base t v:=by rw [← Tryz.params5];exact hval
    obtain ⟨v0,vs0,d0,ds0,p0,q0,g0,e0,_,h0,r0⟩:=trodAll_cons hA
    obtain ⟨v1,vs1,d1,ds1,p1,q1,g1,e1,_,h1,r1⟩:=trodAll_cons r0
    obtain ⟨v2,vs2,d2,ds2,p2,q2,g2,e2,_,h2,r2⟩:=trodAll_cons r1
    obtain ⟨g,e,_⟩:=trodAll_nil r2
    rw [g] at g2;rw [e] at e2
    rw [g2] at g1;rw [e2] at e1
    rw [g1] at g0;rw [e1] at e0
    obtain rfl:args=#[v0,v1,v2]:=by cases args;simp_all
    exact ⟨v0,v1,v2,d0,d1,d2,rfl,e0,(by first|exact openAgg rfl (hval 0 26 v0 rfl rfl) h0|exact openOne rfl (hval 0 26 v0 rfl rfl) h0),(by first|exact openAgg rfl (hval 1 22 v1 rfl rfl) h1|exact openOne rfl (hval 1 22 v1 rfl rfl) h1),(by first|exact openAgg rfl (hval 2 3 v2 rfl rfl) h2|exact openOne rfl (hval 2 3 v2 rfl rfl) h2)⟩
  refine lawPost rfl (by kernel_rfl) (by rw [Tryz.params5];exact of_decide_eq_true (by kernel_rfl)) hW ?_ ?_
  · intro p hA
    obtain ⟨v0,v1,v2,d0,d1,d2,_,rfl,_⟩:=hopen p hA
    rfl
  · intro p hA
    obtain ⟨v0,v1,v2,d0,d1,d2,rfl,_,⟨a0,h0⟩,⟨a1,h1⟩,⟨a2,h2⟩⟩:=hopen p hA
    exact lawRKeeps h0 h1 h2
theorem repairKeeps_holds:Rows.RepairKeepsSaid :=
  OpenClaim.holds_of_wide 5 Tryz.f5 rfl rfl rfl rfl rfl rfl rfl ⟨rfl,rfl,rfl,rfl,rfl⟩ rfl rfl rfl rfl rfl (by kernel_rfl) Tryz.func5 (by kernel_rfl)
    (of_decide_eq_true (by kernel_rfl)) (by unfold Func.isWrapper;first|(rw [if_pos (by decide +kernel)];kernel_rfl)|(rw [if_neg (by decide +kernel)];exact ⟨rfl,rfl⟩))
    (fun os started H enc _=>Jx os started H enc)
#print axioms repairKeeps_holds
end
end Go.Proofs.YtafdmfhdjfkooaaGreat

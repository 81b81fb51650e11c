/- RepairCompiles returns true for every task, every list of texts and every weight, and these read behind the call as before. No conditions. -/
import Derived.Test.YtafdmfhdjfkooaaGreatZCE
import Derived.Test.YtafdmfhdjfkooaaGreatRows
set_option linter.unusedVariables false
set_option linter.unusedSimpArgs false
namespace Go.Proofs.YtafdmfhdjfkooaaGreat
open Go Go.RowKit
section
open Go Go.RowKit
set_option maxRecDepth 20000
attribute [local irreducible] bnd fin rng rngN chkI mkI appI atI quoT AU AY Bl Bx
def Dr (x:List U64):Option (List U64):=Bx x
theorem EL (x:List U64):Le (Dr x) (Bx x):=Le.rf
def GO (t:Tsk):Option (Option Gnr×Err):=if taskB t=true then some (some ⟨t⟩,⟨0⟩) else none
theorem IE (t:Tsk):Le (GO t) (DM t):=fun r h=>by
  obtain ⟨h1,rfl⟩:=DV h
  exact Mc (JH h1)
def Ci (x:Option Gnr) (s:List Int):Option (List Int):=match x with
  | some g=>if stateB g.t.vars s=true then (if s.length≤1000000 then some (appl g.t s) else none) else none
  | none=>none
theorem EC (x:Option Gnr) (s:List Int):Le (Ci x s) (BR x s):=fun r h=>by
  cases x with
  | none=>cases h
  | some g =>
    unfold Ci at h
    dsimp only at h
    split at h
    · rename_i h1
      obtain ⟨h3,rfl⟩:=DV h
      unfold BR
      rw [if_pos h3]
      show some (appS g.t s)=_
      rw [Kg (Ho h1)]
    · cases h
noncomputable def Cw (x0:List Itm):Option Int :=
  some (x0.length:Int)
theorem DH (x0:List Itm):Le (Cw x0) (BN x0):=by
  unfold Cw BN
  repeat' (first|apply Le.ite|apply Le.bnd|apply Le.fin|apply Le.rng|apply Le.rngN|apply Le.lop|exact Le.rf|intro _)
noncomputable def Cj (x0:List Itm) (x1:Int) (x2:Int):Option Bool :=
  bnd (bnd (atI x0 x1) fun a10=>bnd (atI x0 x2) fun a24=>if a10.cost < a24.cost then (some true) else (bnd (atI x0 x1) fun a39=>bnd (atI x0 x2) fun a53=>if a39.cost=a53.cost then (bnd (atI x0 x1) fun a68=>bnd (atI x0 x2) fun a82=>if a68.order < a82.order then (some true) else (some false)) else (some false)):Option Bool) fun y6=>some y6
theorem EB (x0:List Itm) (x1:Int) (x2:Int):Le (Cj x0 x1 x2) (BJ x0 x1 x2):=by
  unfold Cj BJ
  repeat' (first|apply Le.ite|apply Le.bnd|apply Le.fin|apply Le.rng|apply Le.rngN|apply Le.lop|exact Le.rf|intro _)
noncomputable def Ck (x0:List Itm) (x1:Int) (x2:Int):Option (List Itm) :=
  bnd (atI x0 x2) fun a4=>bnd (atI x0 x1) fun a18=>bnd (atI x0 x1) fun a32=>bnd (atI (x0.set (x1:Int).toNat a4) x2) fun a48=>some ((x0.set (x1:Int).toNat a4).set (x2:Int).toNat a18)
theorem Dz (x0:List Itm) (x1:Int) (x2:Int):Le (Ck x0 x1 x2) (BK x0 x1 x2):=by
  unfold Ck BK
  repeat' (first|apply Le.ite|apply Le.bnd|apply Le.fin|apply Le.rng|apply Le.rngN|apply Le.lop|exact Le.rf|intro _)
noncomputable def DI (x0:BxR 99 97 Itm) (x1:An 97 Itm):Option (BxR 99 97 Itm) :=
  bnd (appI 24 x0.l [x1.x]) fun u31=>some (⟨u31⟩:BxR 99 97 Itm)
theorem Gf (x0:BxR 99 97 Itm) (x1:An 97 Itm):Le (DI x0 x1) (Cg x0 x1):=by
  unfold DI Cg
  repeat' (first|apply Le.ite|apply Le.bnd|apply Le.fin|apply Le.rng|apply Le.rngN|apply Le.lop|exact Le.rf|intro _)
noncomputable def DR (x0:BxR 99 97 Itm):Option ((An 97 Itm)×(BxR 99 97 Itm)) :=
  bnd (chkI ((x0.l.length:Int) - 1)) fun n13=>bnd (atI x0.l n13) fun a16=>bnd (cutI x0.l 0 n13) fun u37=>some ((⟨a16⟩:An 97 Itm),(⟨u37⟩:BxR 99 97 Itm))
theorem GC (x0:BxR 99 97 Itm):Le (DR x0) (Cu x0):=by
  unfold DR Cu
  repeat' (first|apply Le.ite|apply Le.bnd|apply Le.fin|apply Le.rng|apply Le.rngN|apply Le.lop|exact Le.rf|intro _)
noncomputable def DS (x0:BxR 99 97 Itm) (x1:Int):Option (BxR 99 97 Itm) :=
  bnd (lopE (ρ:=(BxR 99 97 Itm)) (fun (s5:Int×(BxR 99 97 Itm))=>bnd (chkI (s5.1 - 1)) fun n22=>bnd (quoT n22 2) fun n25=>bnd (if n25=s5.1 then (some true) else (bnd (Cj s5.2.l s5.1 n25) fun q42=>if q42=true then some false else some true):Option Bool) fun y28=>if y28=true then (some (.brk (s5.1,s5.2))) else (bnd (Ck s5.2.l n25 s5.1) fun q73=>some (.next (n25,(⟨q73⟩:BxR 99 97 Itm))))) (x1,x0)) fun res3=>fin res3 fun (s90:Int×(BxR 99 97 Itm))=>some s90.2
theorem GD (x0:BxR 99 97 Itm) (x1:Int):Le (DS x0 x1) (Cv x0 x1):=by
  unfold DS Cv
  repeat' (first|apply EB|apply Dz|apply Le.ite|apply Le.bnd|apply Le.fin|apply Le.rng|apply Le.rngN|apply Le.lop|exact Le.rf|intro _)
noncomputable def DA (x0:BxR 99 97 Itm) (x1:Int) (x2:Int):Option (Bool×(BxR 99 97 Itm)) :=
  bnd (lopE (ρ:=Bool×(BxR 99 97 Itm)) (fun (s6:Int×(BxR 99 97 Itm))=>bnd (chkI (2 * s6.1)) fun n23=>bnd (chkI (n23 + 1)) fun n26=>bnd (if x2≤n26 then (some true) else (if n26 < 0 then (some true) else (some false)):Option Bool) fun y29=>if y29=true then (some (.brk (s6.1,s6.2))) else (bnd (bnd (chkI (n26 + 1)) fun n45=>bnd (if n45 < x2 then (bnd (Cj s6.2.l n45 n26) fun q62=>if q62=true then some true else some false) else (some false):Option Bool) fun y48=>if y48=true then (some n45) else (some n26):Option Int) fun y40=>bnd (Cj s6.2.l y40 s6.1) fun q97=>if q97=true then bnd (Ck s6.2.l s6.1 y40) fun q109=>some (.next (y40,(⟨q109⟩:BxR 99 97 Itm))) else some (.brk (s6.1,s6.2)))) (x1,x0)) fun res4=>fin res4 fun (s126:Int×(BxR 99 97 Itm))=>bnd (if x1 < s126.1 then (some true) else (some false):Option Bool) fun y128=>some (y128,s126.2)
theorem FX (x0:BxR 99 97 Itm) (x1:Int) (x2:Int):Le (DA x0 x1 x2) (Cc x0 x1 x2):=by
  unfold DA Cc
  repeat' (first|apply EB|apply Dz|apply Le.ite|apply Le.bnd|apply Le.fin|apply Le.rng|apply Le.rngN|apply Le.lop|exact Le.rf|intro _)
noncomputable def DB (x0:BxR 99 97 Itm) (x1:An 97 Itm):Option (BxR 99 97 Itm) :=
  bnd (DI x0 (⟨x1.x⟩:An 97 Itm)) fun q9=>bnd (Cw q9.l) fun q26=>bnd (chkI (q26 - 1)) fun n34=>bnd (DS q9 n34) fun q42=>some q42
theorem FY (x0:BxR 99 97 Itm) (x1:An 97 Itm):Le (DB x0 x1) (Cd x0 x1):=by
  unfold DB Cd
  repeat' (first|apply DH|apply Gf|apply GD|apply Le.ite|apply Le.bnd|apply Le.fin|apply Le.rng|apply Le.rngN|apply Le.lop|exact Le.rf|intro _)
noncomputable def DJ (x0:BxR 99 97 Itm):Option ((An 97 Itm)×(BxR 99 97 Itm)) :=
  bnd (Cw x0.l) fun q11=>bnd (chkI (q11 - 1)) fun n19=>bnd (Ck x0.l 0 n19) fun q22=>bnd (DA (⟨q22⟩:BxR 99 97 Itm) 0 n19) fun q35=>bnd (DR q35.2) fun q44=>some ((⟨q44.1.x⟩:An 97 Itm),q44.2)
theorem Gg (x0:BxR 99 97 Itm):Le (DJ x0) (Ch x0):=by
  unfold DJ Ch
  repeat' (first|apply DH|apply GC|apply Dz|apply FX|apply Le.ite|apply Le.bnd|apply Le.fin|apply Le.rng|apply Le.rngN|apply Le.lop|exact Le.rf|intro _)
noncomputable def GE (x0:List Int):Option ((Option Pkr)×Err) :=
  if 64 < (x0.length:Int) then (some (none,(⟨5⟩:Err))) else (bnd (rng (ρ:=(Option Pkr)×Err) (fun (k25:Nat) (a26:Int) (s23:Int×Pkr)=>bnd (if a26 < 1 then (some true) else (if 64 < a26 then (some true) else (some false)):Option Bool) fun y48=>if y48=true then (some (.ret (none,(⟨1⟩:Err)))) else (bnd (lopE (ρ:=Ctl (Int×Pkr) ((Option Pkr)×Err)) (fun (s61:Int)=>bnd (shlI 1 s61) fun n76=>if n76 < a26 then (bnd (chkI (s61 + 1)) fun n80=>some (.next n80)) else (some (.brk s61))) 0) fun res59=>fin res59 fun (s87:Int)=>bnd (bnd (chkI (s23.1 + s87)) fun n95=>if 64 < n95 then (bnd (chkI (s23.2.words + 1)) fun n109=>some (0,(⟨s23.2.fields,n109⟩:Pkr))) else (some (s23.1,s23.2)):Option (Int×Pkr)) fun y89=>bnd (chkI (y89.2.words - 1)) fun n133=>bnd (appI 32 y89.2.fields [(⟨n133,y89.1,s87,a26⟩:PFd)]) fun u142=>bnd (chkI (y89.1 + s87)) fun n155=>some (.next (n155,(⟨u142,y89.2.words⟩:Pkr))))) x0 0 (0,(⟨([]:List PFd),1⟩:Pkr))) fun res21=>fin res21 fun (s167:Int×Pkr)=>some ((some s167.2),(⟨0⟩:Err)))
theorem JQ (x0:List Int):Le (GE x0) (EI x0):=by
  unfold GE EI
  repeat' (first|apply Le.ite|apply Le.bnd|apply Le.fin|apply Le.rng|apply Le.rngN|apply Le.lop|exact Le.rf|intro _)
noncomputable def Ds (x0:PFd):Option U64 :=
  bnd (shlU (1:U64) x0.width) fun n12=>bnd (shlU (n12 - (1:U64)) x0.bit) fun n14=>some n14
theorem Fc (x0:PFd):Le (Ds x0) (Co x0):=by
  unfold Ds Co
  repeat' (first|apply Le.ite|apply Le.bnd|apply Le.fin|apply Le.rng|apply Le.rngN|apply Le.lop|exact Le.rf|intro _)
noncomputable def Et (x0:PFd) (x1:List U64):Option Int :=
  bnd (atI x1 x0.word) fun a15=>bnd (Ds x0) fun q26=>bnd (shrU (a15 &&& q26) x0.bit) fun n33=>some n33.toInt
theorem Hy (x0:PFd) (x1:List U64):Le (Et x0 x1) (CS x0 x1):=by
  unfold Et CS
  repeat' (first|apply Fc|apply Le.ite|apply Le.bnd|apply Le.fin|apply Le.rng|apply Le.rngN|apply Le.lop|exact Le.rf|intro _)
noncomputable def Ea (x0:Pkr) (x1:List Int):Option ((List U64)×Err) :=
  if (x1.length:Int)≠(x0.fields.length:Int) then (some (([]:List U64),(⟨2⟩:Err))) else (bnd (mkI 8 ((0:U64):U64) x0.words) fun u25=>bnd (rng (ρ:=(List U64)×Err) (fun (k50:Nat) (a51:PFd) (s48:(List U64))=>bnd (bnd (x1[k50]?) fun a87=>if a87 < 0 then (some true) else (bnd (x1[k50]?) fun a98=>if a51.size≤a98 then (some true) else (some false)):Option Bool) fun y83=>if y83=true then (some (.ret (([]:List U64),(⟨2⟩:Err)))) else (bnd (atI s48 a51.word) fun a114=>bnd (x1[k50]?) fun a125=>bnd (shlU (BitVec.ofInt 64 a125) a51.bit) fun n135=>bnd (atI s48 a51.word) fun a137=>some (.next (s48.set (a51.word:Int).toNat (a114 ||| n135))))) x0.fields 0 u25) fun res46=>fin res46 fun (s154:(List U64))=>some (s154,(⟨0⟩:Err)))
theorem GT (x0:Pkr) (x1:List Int):Le (Ea x0 x1) (CE x0 x1):=by
  unfold Ea CE
  repeat' (first|apply Le.ite|apply Le.bnd|apply Le.fin|apply Le.rng|apply Le.rngN|apply Le.lop|exact Le.rf|intro _)
noncomputable def DK (x0:Pkr) (x1:List U64):Option ((List Int)×Err) :=
  if (x1.length:Int)≠x0.words then (some (([]:List Int),(⟨2⟩:Err))) else (bnd (mkI 8 (0:Int) (x0.fields.length:Int)) fun u25=>bnd (Dr x1) fun q38=>bnd (rng (ρ:=(List Int)×Err) (fun (k60:Nat) (a61:PFd) (s58:(List Int)×(List U64))=>bnd (Et a61 x1) fun q97=>bnd (s58.1[k60]?) fun a105=>bnd ((s58.1.set k60 q97)[k60]?) fun a117=>if a61.size≤a117 then (some (.ret (([]:List Int),(⟨2⟩:Err)))) else (bnd (atI s58.2 a61.word) fun a128=>bnd (Ds a61) fun q139=>bnd (atI s58.2 a61.word) fun a146=>some (.next ((s58.1.set k60 q97),(s58.2.set (a61.word:Int).toNat (a128 &&& ~~~q139)))))) x0.fields 0 (u25,q38)) fun res56=>fin res56 fun (s163:(List Int)×(List U64))=>bnd (rng (ρ:=(List Int)×Err) (fun (k171:Nat) (a172:U64) (s169:Unit)=>bnd (s163.2[k171]?) fun a182=>if (a182.toNat:Int)≠((0:U64).toNat:Int) then (some (.ret (([]:List Int),(⟨2⟩:Err)))) else (some (.next ()))) q38 0 ()) fun res167=>fin res167 fun (s196:Unit)=>some (s163.1,(⟨0⟩:Err)))
theorem Gh (x0:Pkr) (x1:List U64):Le (DK x0 x1) (Cf x0 x1):=by
  unfold DK Cf
  repeat' (first|apply Hy|apply Fc|apply EL|apply Le.ite|apply Le.bnd|apply Le.fin|apply Le.rng|apply Le.rngN|apply Le.lop|exact Le.rf|intro _)
noncomputable def Eb (x0:Pkr) (x1:List U64):Option Int :=
  bnd (rng (ρ:=Int) (fun (k13:Nat) (a14:U64) (s11:U64)=>bnd (shrU ((s11 ^^^ a14) * (13787848793156543929:U64)) 29) fun n31=>some (.next (((s11 ^^^ a14) * (13787848793156543929:U64)) ^^^ n31))) x1 0 ((BitVec.ofInt 64 (x1.length:Int)) + (11400714819323198485:U64))) fun res9=>fin res9 fun (s37:U64)=>bnd (shrU s37 2) fun n39=>some n39.toInt
theorem GU (x0:Pkr) (x1:List U64):Le (Eb x0 x1) (CF x0 x1):=by
  unfold Eb CF
  repeat' (first|apply Le.ite|apply Le.bnd|apply Le.fin|apply Le.rng|apply Le.rngN|apply Le.lop|exact Le.rf|intro _)
noncomputable def Cq (x0:List U64) (x1:List U64):Option Bool :=
  if (x0.length:Int)≠(x1.length:Int) then (some false) else (bnd (rng (ρ:=Bool) (fun (k18:Nat) (a19:U64) (s16:Unit)=>bnd (x1[k18]?) fun a36=>if (a19.toNat:Int)≠(a36.toNat:Int) then (some (.ret false)) else (some (.next ()))) x0 0 ()) fun res14=>fin res14 fun (s50:Unit)=>some true)
theorem EM (x0:List U64) (x1:List U64):Le (Cq x0 x1) (By x0 x1):=by
  unfold Cq By
  repeat' (first|apply Le.ite|apply Le.bnd|apply Le.fin|apply Le.rng|apply Le.rngN|apply Le.lop|exact Le.rf|intro _)
noncomputable def ES (x0:List Int):Option ((Option Reg)×Err) :=
  bnd (GE x0) fun q4=>if q4.2.n≠0 then (some (none,(⟨q4.2.n⟩:Err))) else (bnd q4.1 fun o22=>some ((some (⟨o22,([]:List REn),(⟨[]⟩:MapR 3 Int Int)⟩:Reg)),(⟨0⟩:Err)))
theorem Iq (x0:List Int):Le (ES x0) (Dx x0):=by
  unfold ES Dx
  repeat' (first|apply JQ|apply Le.ite|apply Le.bnd|apply Le.fin|apply Le.rng|apply Le.rngN|apply Le.lop|exact Le.rf|intro _)
noncomputable def CW (x0:Reg) (x1:List Int):Option ((List U64)×Int×Int×Err) :=
  bnd (Ea x0.packer x1) fun q20=>if q20.2.n≠0 then (some (([]:List U64),0,(-1),(⟨2⟩:Err))) else (bnd (Eb x0.packer q20.1) fun q41=>bnd (rng (ρ:=(List U64)×Int×Int×Err) (fun (k66:Nat) (a67:Int) (s64:Unit)=>bnd (atI x0.entries a67) fun a100=>bnd (Cq a100.words q20.1) fun q118=>if q118=true then some (.ret (q20.1,q41,a67,(⟨0⟩:Err))) else some (.next ())) (mget ([]:List Int) x0.table.l q41) 0 ()) fun res62=>fin res62 fun (s139:Unit)=>some (q20.1,q41,(-1),(⟨0⟩:Err)))
theorem Fl (x0:Reg) (x1:List Int):Le (CW x0 x1) (BU x0 x1):=by
  unfold CW BU
  repeat' (first|apply GU|apply GT|apply EM|apply Le.ite|apply Le.bnd|apply Le.fin|apply Le.rng|apply Le.rngN|apply Le.lop|exact Le.rf|intro _)
noncomputable def Ct (x0:Reg) (x1:List Int):Option (Int×Bool×Err×Reg) :=
  bnd (CW x0 x1) fun q5=>if q5.2.2.2.n≠0 then (some (0,false,(⟨q5.2.2.2.n⟩:Err),x0)) else (if 0≤q5.2.2.1 then (some (q5.2.2.1,false,(⟨0⟩:Err),x0)) else (if 65536≤(x0.entries.length:Int) then (some (0,false,(⟨10⟩:Err),x0)) else (bnd (appI 48 x0.entries [(⟨q5.1,(⟨(-1),(-1),0⟩:RLk)⟩:REn)]) fun u53=>bnd (appI 8 (mget ([]:List Int) x0.table.l q5.2.1) ([(x0.entries.length:Int)]:List Int)) fun u82=>some ((x0.entries.length:Int),true,(⟨0⟩:Err),(⟨x0.packer,u53,(⟨mput x0.table.l q5.2.1 u82⟩:MapR 3 Int Int)⟩:Reg)))))
theorem Ec (x0:Reg) (x1:List Int):Le (Ct x0 x1) (BF x0 x1):=by
  unfold Ct BF
  repeat' (first|apply Fl|apply Le.ite|apply Le.bnd|apply Le.fin|apply Le.rng|apply Le.rngN|apply Le.lop|exact Le.rf|intro _)
noncomputable def BG (x0:Reg) (x1:Int):Option Bool :=
  bnd (if 0≤x1 then (if x1 < (x0.entries.length:Int) then (some true) else (some false)) else (some false):Option Bool) fun y3=>some y3
theorem CX (x0:Reg) (x1:Int):Le (BG x0 x1) (Bn x0 x1):=by
  unfold BG Bn
  repeat' (first|apply Le.ite|apply Le.bnd|apply Le.fin|apply Le.rng|apply Le.rngN|apply Le.lop|exact Le.rf|intro _)
noncomputable def CM (x0:Reg) (x1:Int):Option ((List Int)×Err) :=
  bnd (BG x0 x1) fun q3=>if q3=true then bnd (atI x0.entries x1) fun a27=>bnd (DK x0.packer a27.words) fun q45=>some (q45.1,(⟨q45.2.n⟩:Err)) else some (([]:List Int),(⟨1⟩:Err))
theorem Ff (x0:Reg) (x1:Int):Le (CM x0 x1) (BP x0 x1):=by
  unfold CM BP
  repeat' (first|apply Gh|apply CX|apply Le.ite|apply Le.bnd|apply Le.fin|apply Le.rng|apply Le.rngN|apply Le.lop|exact Le.rf|intro _)
noncomputable def CG (x0:Reg) (x1:Int) (x2:Int) (x3:Int) (x4:Int):Option (Err×Reg) :=
  bnd (bnd (BG x0 x1) fun q10=>if q10=true then if x2≠(-1) then (bnd (BG x0 x2) fun q20=>if q20=true then some false else some true) else (some false) else some true:Option Bool) fun y6=>if y6=true then (some ((⟨1⟩:Err),x0)) else (bnd (atI x0.entries x1) fun a49=>some ((⟨0⟩:Err),(⟨x0.packer,(x0.entries.set (x1:Int).toNat ({ a49 with link:=(⟨x2,x3,x4⟩:RLk) }:REn)),x0.table⟩:Reg)))
theorem ET (x0:Reg) (x1:Int) (x2:Int) (x3:Int) (x4:Int):Le (CG x0 x1 x2 x3 x4) (BD x0 x1 x2 x3 x4):=by
  unfold CG BD
  repeat' (first|apply CX|apply Le.ite|apply Le.bnd|apply Le.fin|apply Le.rng|apply Le.rngN|apply Le.lop|exact Le.rf|intro _)
noncomputable def CN (x0:List Int):Option (List Int) :=
  bnd (chkI ((x0.length:Int) - 1)) fun n4=>bnd (lopE (ρ:=(List Int)) (fun (s9:(List Int)×Int×Int)=>if s9.2.1 < s9.2.2 then (bnd (atI s9.1 s9.2.2) fun a31=>bnd (atI s9.1 s9.2.1) fun a43=>bnd (atI s9.1 s9.2.1) fun a55=>bnd (atI (s9.1.set (s9.2.1:Int).toNat a31) s9.2.2) fun a69=>bnd (chkI (s9.2.1 + 1)) fun n83=>bnd (chkI (s9.2.2 - 1)) fun n86=>some (.next (((s9.1.set (s9.2.1:Int).toNat a31).set (s9.2.2:Int).toNat a43),n83,n86))) else (some (.brk (s9.1,s9.2.1,s9.2.2)))) (x0,0,n4)) fun res7=>fin res7 fun (s93:(List Int)×Int×Int)=>some s93.1
theorem Fg (x0:List Int):Le (CN x0) (BQ x0):=by
  unfold CN BQ
  repeat' (first|apply Le.ite|apply Le.bnd|apply Le.fin|apply Le.rng|apply Le.rngN|apply Le.lop|exact Le.rf|intro _)
noncomputable def CY (x0:Reg) (x1:Int):Option ((List Int)×Err) :=
  bnd (BG x0 x1) fun q3=>if q3=true then bnd (lopE (ρ:=(List Int)×Err) (fun (s14:Int×(List Int))=>bnd (atI x0.entries s14.1) fun a48=>if a48.link.parent < 0 then (bnd (CN s14.2) fun q74=>some (.ret (q74,(⟨0⟩:Err)))) else (bnd (appI 8 s14.2 [a48.link.op]) fun u89=>if (x0.entries.length:Int) < (u89.length:Int) then (some (.ret (([]:List Int),(⟨21⟩:Err)))) else (some (.next (a48.link.parent,u89))))) (x1,([]:List Int))) fun res12=>fin res12 fun (_:Int×(List Int))=>none else some (([]:List Int),(⟨1⟩:Err))
theorem Fm (x0:Reg) (x1:Int):Le (CY x0 x1) (BV x0 x1):=by
  unfold CY BV
  repeat' (first|apply CX|apply Fg|apply Le.ite|apply Le.bnd|apply Le.fin|apply Le.rng|apply Le.rngN|apply Le.lop|exact Le.rf|intro _)
noncomputable def Cl (x0:Option Gnr) (x1:List Int):Option (List Suc) :=
  bnd (Ci x0 x1) fun q7=>bnd (rng (ρ:=(List Suc)) (fun (k23:Nat) (a24:Int) (s21:(List Suc))=>bnd (Cs x1) fun q46=>bnd (x0) fun o56=>bnd (atI o56.t.ops a24) fun a88=>bnd (rng (ρ:=Ctl (List Suc) (List Suc)) (fun (k115:Nat) (a116:Eff) (s113:(List Int))=>bnd (FH a116.cond x1) fun q150=>if q150=true then bnd (atI s113 a116.var) fun a157=>some (.next (s113.set (a116.var:Int).toNat a116.val)) else some (.next s113)) a88.effs 0 q46) fun res111=>fin res111 fun (s175:(List Int))=>bnd (appI 32 s21 [(⟨a24,s175⟩:Suc)]) fun u179=>some (.next u179)) q7 0 ([]:List Suc)) fun res19=>fin res19 fun (s195:(List Suc))=>some s195
theorem ED (x0:Option Gnr) (x1:List Int):Le (Cl x0 x1) (Bv x0 x1):=by
  unfold Cl Bv
  repeat' (first|apply DZ|apply EC|apply GN|apply Le.ite|apply Le.bnd|apply Le.fin|apply Le.rng|apply Le.rngN|apply Le.lop|exact Le.rf|intro _)
noncomputable def EN (x0:Tsk):Option ((Option Spc)×Err) :=
  bnd (GO x0) fun q24=>if q24.2.n≠0 then (some (none,(⟨q24.2.n⟩:Err))) else (bnd (ES x0.vars) fun q39=>if q39.2.n≠0 then (some (none,(⟨q39.2.n⟩:Err))) else (bnd q39.1 fun o52=>bnd (Ct o52 x0.init) fun q55=>if q55.2.2.1.n≠0 then (some (none,(⟨q55.2.2.1.n⟩:Err))) else (some ((some (⟨(⟨x0.vars,x0.init,x0.goal,x0.ops⟩:Tsk),q55.2.2.2,q24.1⟩:Spc)),(⟨0⟩:Err)))))
theorem HR (x0:Tsk):Le (EN x0) (Dj x0):=by
  unfold EN Dj
  repeat' (first|apply Iq|apply Ec|apply IE|apply Le.ite|apply Le.bnd|apply Le.fin|apply Le.rng|apply Le.rngN|apply Le.lop|exact Le.rf|intro _)
noncomputable def Dq (x0:Spc) (x1:Int) (x2:Int):Option (Rsl×Err) :=
  bnd (CY x0.reg x1) fun q36=>if q36.2.n≠0 then (some ((⟨0,([]:List Int),0,0⟩:Rsl),(⟨q36.2.n⟩:Err))) else (bnd (rng (ρ:=Rsl×Err) (fun (k77:Nat) (a78:Int) (s75:Int)=>bnd (atI x0.t.ops a78) fun a125=>bnd (chkI (s75 + a125.cost)) fun n146=>some (.next n146)) q36.1 0 0) fun res73=>fin res73 fun (s160:Int)=>some ((⟨1,q36.1,s160,x2⟩:Rsl),(⟨0⟩:Err)))
theorem FI (x0:Spc) (x1:Int) (x2:Int):Le (Dq x0 x1 x2) (BZ x0 x1 x2):=by
  unfold Dq BZ
  repeat' (first|apply Fm|apply Le.ite|apply Le.bnd|apply Le.fin|apply Le.rng|apply Le.rngN|apply Le.lop|exact Le.rf|intro _)
noncomputable def CZ (x0:Int) (x1:Int):Option (Rsl×Err) :=
  some ((⟨x0,([]:List Int),0,x1⟩:Rsl),(⟨0⟩:Err))
theorem Hz (x0:Int) (x1:Int):Le (CZ x0 x1) (Cb x0 x1):=by
  unfold CZ Cb
  repeat' (first|apply Le.ite|apply Le.bnd|apply Le.fin|apply Le.rng|apply Le.rngN|apply Le.lop|exact Le.rf|intro _)
noncomputable def Ej (x0:Tsk) (x1:Int):Option (Rsl×Err) :=
  bnd (EN x0) fun q30=>if q30.2.n≠0 then (some ((⟨0,([]:List Int),0,0⟩:Rsl),(⟨q30.2.n⟩:Err))) else (bnd q30.1 fun o68=>bnd (lopE (ρ:=Rsl×Err) (fun (s78:(List Int)×(List Bool)×Int×Int×Spc×(BxR 99 97 Itm))=>bnd (Cw s78.2.2.2.2.2.l) fun q116=>if 0 < q116 then (bnd (DJ s78.2.2.2.2.2) fun q130=>bnd (atI s78.2.1 q130.1.x.id) fun a152=>if a152=true then (some (.next (s78.1,s78.2.1,s78.2.2.1,s78.2.2.2.1,s78.2.2.2.2.1,q130.2))) else (bnd (CM s78.2.2.2.2.1.reg q130.1.x.id) fun q191=>if q191.2.n≠0 then (some (.ret ((⟨0,([]:List Int),0,0⟩:Rsl),(⟨q191.2.n⟩:Err)))) else (bnd (FH x0.goal q191.1) fun q209=>if q209=true then bnd (Dq s78.2.2.2.2.1 q130.1.x.id s78.2.2.2.1) fun q581=>some (.ret (q581.1,(⟨q581.2.n⟩:Err))) else if x1≤s78.2.2.2.1 then (bnd (CZ 3 s78.2.2.2.1) fun q217=>some (.ret (q217.1,(⟨q217.2.n⟩:Err)))) else (bnd (atI s78.2.1 q130.1.x.id) fun a239=>bnd (chkI (s78.2.2.2.1 + 1)) fun n252=>bnd (Cl s78.2.2.2.2.1.gen q191.1) fun q255=>bnd (rng (ρ:=Ctl ((List Int)×(List Bool)×Int×Int×Spc×(BxR 99 97 Itm)) (Rsl×Err)) (fun (k275:Nat) (a276:Suc) (s273:(List Int)×(List Bool)×Int×Spc×(BxR 99 97 Itm))=>bnd (Ct s273.2.2.2.1.reg a276.state) fun q346=>if q346.2.2.1.n≠0 then (bnd (CZ 3 n252) fun q363=>some (.ret (.ret (q363.1,(⟨q363.2.n⟩:Err))))) else (bnd (atI x0.ops a276.op) fun a385=>bnd (chkI (q130.1.x.cost + a385.cost)) fun n406=>bnd (if q346.2.1=true then (bnd (appI 8 s273.1 [n406]) fun u418=>bnd (appI 1 s273.2.1 [false]) fun u430=>some (.done (u418,u430))) else (bnd (bnd (atI s273.2.1 q346.1) fun a451=>if a451=true then (some true) else (bnd (atI s273.1 q346.1) fun a468=>if a468≤n406 then (some true) else (some false)):Option Bool) fun y447=>if y447=true then (some (.ret (.next (s273.1,s273.2.1,s273.2.2.1,(⟨(⟨s273.2.2.2.1.t.vars,s273.2.2.2.1.t.init,s273.2.2.2.1.t.goal,s273.2.2.2.1.t.ops⟩:Tsk),q346.2.2.2,s273.2.2.2.1.gen⟩:Spc),s273.2.2.2.2)))) else (some (.done (s273.1,s273.2.1)))):Option (Fin ((List Int)×(List Bool)) (Ctl ((List Int)×(List Bool)×Int×Spc×(BxR 99 97 Itm)) (Ctl ((List Int)×(List Bool)×Int×Int×Spc×(BxR 99 97 Itm)) (Rsl×Err))))) fun y409=>fin y409 fun (s411:(List Int)×(List Bool))=>bnd (atI s411.1 q346.1) fun a500=>bnd (CG ((⟨(⟨s273.2.2.2.1.t.vars,s273.2.2.2.1.t.init,s273.2.2.2.1.t.goal,s273.2.2.2.1.t.ops⟩:Tsk),q346.2.2.2,s273.2.2.2.1.gen⟩:Spc).reg) q346.1 q130.1.x.id a276.op n406) fun q541=>if q541.1.n≠0 then (some (.ret (.ret ((⟨0,([]:List Int),0,0⟩:Rsl),(⟨q541.1.n⟩:Err))))) else (bnd (DB s273.2.2.2.2 (⟨(⟨n406,s273.2.2.1,q346.1⟩:Itm)⟩:An 97 Itm)) fun q554=>bnd (chkI (s273.2.2.1 + 1)) fun n562=>some (.next ((s411.1.set (q346.1:Int).toNat n406),s411.2,n562,(⟨(⟨(⟨(⟨s273.2.2.2.1.t.vars,s273.2.2.2.1.t.init,s273.2.2.2.1.t.goal,s273.2.2.2.1.t.ops⟩:Tsk),q346.2.2.2,s273.2.2.2.1.gen⟩:Spc).t.vars,(⟨(⟨s273.2.2.2.1.t.vars,s273.2.2.2.1.t.init,s273.2.2.2.1.t.goal,s273.2.2.2.1.t.ops⟩:Tsk),q346.2.2.2,s273.2.2.2.1.gen⟩:Spc).t.init,(⟨(⟨s273.2.2.2.1.t.vars,s273.2.2.2.1.t.init,s273.2.2.2.1.t.goal,s273.2.2.2.1.t.ops⟩:Tsk),q346.2.2.2,s273.2.2.2.1.gen⟩:Spc).t.goal,(⟨(⟨s273.2.2.2.1.t.vars,s273.2.2.2.1.t.init,s273.2.2.2.1.t.goal,s273.2.2.2.1.t.ops⟩:Tsk),q346.2.2.2,s273.2.2.2.1.gen⟩:Spc).t.ops⟩:Tsk),q541.2,(⟨(⟨s273.2.2.2.1.t.vars,s273.2.2.2.1.t.init,s273.2.2.2.1.t.goal,s273.2.2.2.1.t.ops⟩:Tsk),q346.2.2.2,s273.2.2.2.1.gen⟩:Spc).gen⟩:Spc),q554))))) q255 0 (s78.1,(s78.2.1.set (q130.1.x.id:Int).toNat true),s78.2.2.1,s78.2.2.2.2.1,q130.2)) fun res271=>fin res271 fun (s574:(List Int)×(List Bool)×Int×Spc×(BxR 99 97 Itm))=>some (.next (s574.1,s574.2.1,s574.2.2.1,n252,s574.2.2.2.1,s574.2.2.2.2)))))) else (some (.brk (s78.1,s78.2.1,s78.2.2.1,s78.2.2.2.1,s78.2.2.2.2.1,s78.2.2.2.2.2)))) (([0]:List Int),[false],1,0,o68,(⟨[(⟨0,0,0⟩:Itm)]⟩:BxR 99 97 Itm))) fun res76=>fin res76 fun (s613:(List Int)×(List Bool)×Int×Int×Spc×(BxR 99 97 Itm))=>bnd (CZ 2 s613.2.2.2.1) fun q615=>some (q615.1,(⟨q615.2.n⟩:Err)))
theorem Hp (x0:Tsk) (x1:Int):Le (Ej x0 x1) (CJ x0 x1):=by
  unfold Ej CJ
  repeat' (first|apply HR|apply Hz|apply DH|apply FI|apply Gg|apply FY|apply Ec|apply ET|apply Ff|apply ED|apply GN|apply Le.ite|apply Le.bnd|apply Le.fin|apply Le.rng|apply Le.rngN|apply Le.lop|exact Le.rf|intro _)
def Bo (x:List Fct):Option (List Fct):=AU x
theorem BX (x:List Fct):Le (Bo x) (AU x):=Le.rf
def BS (x:List Eff):Option (List Eff):=AY x
theorem Cx (x:List Eff):Le (BS x) (AY x):=Le.rf
noncomputable def Ek (x0:List ByteArray) (x1:List ByteArray):Option Int :=
  bnd (chkI ((x1.length:Int) + 1)) fun n9=>bnd (mkI 8 (0:Int) n9) fun u12=>bnd (rngN (ρ:=Int) (fun (k31:Nat) (s29:(List Int))=>bnd (s29[k31]?) fun a50=>some (.next (s29.set k31 (k31:Int)))) u12.length u12) fun res27=>fin res27 fun (s66:(List Int))=>bnd (rng (ρ:=Int) (fun (k74:Nat) (a75:ByteArray) (s72:(List Int))=>bnd (chkI ((x1.length:Int) + 1)) fun n99=>bnd (mkI 8 (0:Int) n99) fun u102=>bnd (chkI ((k74:Int) + 1)) fun n115=>bnd (atI u102 0) fun a118=>bnd (rng (ρ:=Ctl (List Int) Int) (fun (k138:Nat) (a139:ByteArray) (s136:(List Int))=>bnd (chkI ((k138:Int) + 1)) fun n161=>bnd (s136[k138]?) fun a164=>bnd (chkI ((k138:Int) + 1)) fun n174=>bnd (atI s72 n174) fun a177=>bnd (chkI ((min a164 a177) + 1)) fun n189=>bnd (atI s136 n161) fun a192=>if a75=a139 then (bnd (chkI ((k138:Int) + 1)) fun n207=>bnd (chkI ((k138:Int) + 1)) fun n210=>bnd (atI (s136.set (n161:Int).toNat n189) n210) fun a213=>bnd (s72[k138]?) fun a225=>bnd (atI (s136.set (n161:Int).toNat n189) n207) fun a235=>some (.next ((s136.set (n161:Int).toNat n189).set (n207:Int).toNat (min a213 a225)))) else (some (.next (s136.set (n161:Int).toNat n189)))) x1 0 (u102.set (0:Int).toNat n115)) fun res134=>fin res134 fun (s253:(List Int))=>some (.next s253)) x0 0 s66) fun res70=>fin res70 fun (s261:(List Int))=>bnd (s261[x1.length]?) fun a265=>some a265
theorem Hq (x0:List ByteArray) (x1:List ByteArray):Le (Ek x0 x1) (CK x0 x1):=by
  unfold Ek CK
  repeat' (first|apply Le.ite|apply Le.bnd|apply Le.fin|apply Le.rng|apply Le.rngN|apply Le.lop|exact Le.rf|intro _)
noncomputable def Eq (x0:Opr) (x1:Int) (x2:Int):Option Opr :=
  bnd (Bo x0.pre) fun q25=>bnd (appI 16 q25 [(⟨x1,x2⟩:Fct)]) fun u35=>bnd (BS x0.effs) fun q49=>bnd (chkI (x2 + 1)) fun n59=>bnd (appI 40 q49 [(⟨([]:List Fct),x1,n59⟩:Eff)]) fun u62=>some (⟨x0.name,x0.cost,u35,u62⟩:Opr)
theorem IF (x0:Opr) (x1:Int) (x2:Int):Le (Eq x0 x1 x2) (Cp x0 x1 x2):=by
  unfold Eq Cp
  repeat' (first|apply Cx|apply BX|apply Le.ite|apply Le.bnd|apply Le.fin|apply Le.rng|apply Le.rngN|apply Le.lop|exact Le.rf|intro _)
noncomputable def DT (x0:List Eff):Option (List Eff) :=
  bnd (rngN (ρ:=(List Eff)) (fun (k8:Nat) (s6:(List Eff))=>bnd (s6[k8]?) fun a27=>bnd (Bo a27.cond) fun q42=>bnd (s6[k8]?) fun a52=>some (.next (s6.set k8 ({ a52 with cond:=q42 }:Eff)))) x0.length x0) fun res4=>fin res4 fun (s81:(List Eff))=>some s81
theorem GF (x0:List Eff):Le (DT x0) (BM x0):=by
  unfold DT BM
  repeat' (first|apply BX|apply Le.ite|apply Le.bnd|apply Le.fin|apply Le.rng|apply Le.rngN|apply Le.lop|exact Le.rf|intro _)
noncomputable def Eu (x0:Tsk) (x1:List ByteArray) (x2:Int):Option (Tsk×(List Prt)×Err) :=
  bnd (FG x0) fun q33=>if q33.n≠0 then (some ((⟨([]:List Int),([]:List Int),([]:List Fct),([]:List Opr)⟩:Tsk),([]:List Prt),(⟨q33.n⟩:Err))) else (bnd (if x2 < 0 then (some true) else (if 1000 < x2 then (some true) else (some false)):Option Bool) fun y44=>if y44=true then (some ((⟨([]:List Int),([]:List Int),([]:List Fct),([]:List Opr)⟩:Tsk),([]:List Prt),(⟨1⟩:Err))) else (if 63 < (x1.length:Int) then (some ((⟨([]:List Int),([]:List Int),([]:List Fct),([]:List Opr)⟩:Tsk),([]:List Prt),(⟨5⟩:Err))) else (bnd (chkI ((x1.length:Int) + 1)) fun n64=>bnd (Cs x0.vars) fun q66=>bnd (appI 8 q66 ([n64]:List Int)) fun u68=>bnd (Cs x0.init) fun q70=>bnd (appI 8 q70 ([0]:List Int)) fun u72=>bnd (Bo x0.goal) fun q74=>bnd (appI 16 q74 ([(⟨(x0.vars.length:Int),(x1.length:Int)⟩:Fct)]:List Fct)) fun u76=>bnd (some (u68,u72,u76):Option ((List Int)×(List Int)×(List Fct))) fun y78=>bnd (rng (ρ:=Tsk×(List Prt)×Err) (fun (k214:Nat) (a215:Opr) (s212:(List Prt)×(List Opr))=>bnd (chkI (a215.cost + x2)) fun n257=>bnd (Bo a215.pre) fun q262=>bnd (BS a215.effs) fun q272=>bnd (appI 72 s212.2 [(⟨a215.name,n257,q262,q272⟩:Opr)]) fun u288=>bnd (appI 8 s212.1 [(⟨(k214:Int)⟩:Prt)]) fun u300=>some (.next (u300,u288))) x0.ops 0 (([]:List Prt),([]:List Opr))) fun res210=>fin res210 fun (s318:(List Prt)×(List Opr))=>bnd (rng (ρ:=Tsk×(List Prt)×Err) (fun (k326:Nat) (a327:ByteArray) (s324:(List Prt)×(List Opr))=>bnd (rng (ρ:=Ctl ((List Prt)×(List Opr)) (Tsk×(List Prt)×Err)) (fun (k359:Nat) (a360:Opr) (s357:(List Prt)×(List Opr))=>if a360.name=a327 then (bnd (Eq a360 (x0.vars.length:Int) (k326:Int)) fun q403=>bnd (appI 72 s357.2 [q403]) fun u405=>bnd (appI 8 s357.1 [(⟨(k359:Int)⟩:Prt)]) fun u407=>some (.next (u407,u405))) else (some (.next (s357.1,s357.2)))) x0.ops 0 (s324.1,s324.2)) fun res355=>fin res355 fun (s563:(List Prt)×(List Opr))=>bnd (Eq (⟨(⟨#[]⟩:ByteArray),x2,([]:List Fct),([]:List Eff)⟩:Opr) (x0.vars.length:Int) (k326:Int)) fun q565=>bnd (appI 72 s563.2 [q565]) fun u587=>bnd (appI 8 s563.1 [(⟨(-1)⟩:Prt)]) fun u600=>if 4096 < (u587.length:Int) then (some (.brk (u600,u587))) else (some (.next (u600,u587)))) x1 0 (s318.1,s318.2)) fun res322=>fin res322 fun (s619:(List Prt)×(List Opr))=>bnd (rngN (ρ:=Tsk×(List Prt)×Err) (fun (k627:Nat) (s625:(List Opr))=>bnd (s625[k627]?) fun a646=>bnd (DT a646.effs) fun q663=>bnd (s625[k627]?) fun a671=>some (.next (s625.set k627 ({ a671 with effs:=q663 }:Opr)))) s619.2.length s619.2) fun res623=>fin res623 fun (s688:(List Opr))=>bnd (FG (⟨y78.1,y78.2.1,y78.2.2,s688⟩:Tsk)) fun q698=>if q698.n≠0 then (some ((⟨([]:List Int),([]:List Int),([]:List Fct),([]:List Opr)⟩:Tsk),([]:List Prt),(⟨q698.n⟩:Err))) else (some ((⟨y78.1,y78.2.1,y78.2.2,s688⟩:Tsk),s619.1,(⟨0⟩:Err))))))
theorem HA (x0:Tsk) (x1:List ByteArray) (x2:Int):Le (Eu x0 x1 x2) (Bi x0 x1 x2):=by
  unfold Eu Bi
  repeat' (first|apply GF|apply IF|apply Cx|apply BX|apply DZ|apply Ja|apply Le.ite|apply Le.bnd|apply Le.fin|apply Le.rng|apply Le.rngN|apply Le.lop|exact Le.rf|intro _)
noncomputable def EO (x0:Tsk) (x1:List ByteArray) (x2:Int) (x3:Int):Option (Rsl×Int×Err) :=
  bnd (Eu x0 x1 x2) fun q34=>if q34.2.2.n≠0 then (some ((⟨0,([]:List Int),0,0⟩:Rsl),0,(⟨q34.2.2.n⟩:Err))) else (bnd (Ej q34.1 x3) fun q77=>if q77.2.n≠0 then (some ((⟨0,([]:List Int),0,0⟩:Rsl),0,(⟨q77.2.n⟩:Err))) else (if q77.1.verdict≠1 then (some (q77.1,0,(⟨0⟩:Err))) else (bnd (rng (ρ:=Rsl×Int×Err) (fun (k116:Nat) (a117:Int) (s114:(List Int)×(List ByteArray))=>bnd (atI q34.2.1 a117) fun a143=>if 0≤a143.op then (bnd (atI x0.ops a143.op) fun a156=>bnd (appI 8 s114.1 ([a143.op]:List Int)) fun u158=>bnd (appI 16 s114.2 [a156.name]) fun u160=>some (.next (u158,u160))) else (some (.next (s114.1,s114.2)))) q77.1.plan 0 (([]:List Int),([]:List ByteArray))) fun res112=>fin res112 fun (s269:(List Int)×(List ByteArray))=>bnd (Ek s269.2 x1) fun q273=>some ((⟨q77.1.verdict,s269.1,q77.1.cost,q77.1.expanded⟩:Rsl),q273,(⟨0⟩:Err)))))
theorem HS (x0:Tsk) (x1:List ByteArray) (x2:Int) (x3:Int):Le (EO x0 x1 x2 x3) (Dl x0 x1 x2 x3):=by
  unfold EO Dl
  repeat' (first|apply Hp|apply Hq|apply HA|apply Le.ite|apply Le.bnd|apply Le.fin|apply Le.rng|apply Le.rngN|apply Le.lop|exact Le.rf|intro _)
noncomputable def GP  : Option Bool :=
  bnd (EO (⟨([2]:List Int),([0]:List Int),[(⟨0,1⟩:Fct)],[(⟨(⟨#[97]⟩:ByteArray),3,([]:List Fct),[(⟨([]:List Fct),0,1⟩:Eff)]⟩:Opr)]⟩:Tsk) [(⟨#[97]⟩:ByteArray)] 5 100) fun q56=>bnd (if q56.2.2.n=0 then (if q56.2.1=0 then (if q56.1.verdict=1 then (if q56.1.cost=3 then (bnd (FW q56.1.plan ([0]:List Int)) fun q100=>if q100=true then some true else some false) else (some false)) else (some false)) else (some false)) else (some false):Option Bool) fun y86=>some y86
theorem IG  : Le (GP ) (CI ):=by
  unfold GP CI
  repeat' (first|apply JI|apply HS|apply Le.ite|apply Le.bnd|apply Le.fin|apply Le.rng|apply Le.rngN|apply Le.lop|exact Le.rf|intro _)
set_option maxRecDepth 100000 in
theorem awake60:CI=some true:=IG true (by kernel_rfl)
end
section
open Go Go.RowKit
theorem Kx {t:Tsk} {old:List ByteArray} {w:Int} (h:¬ TaskOk t∨w < 0∨1000 < w∨63 < old.length):∃ e,e≠0∧Bi t old w=some (⟨[],[],[],[]⟩,[],⟨e⟩)∧BC t old w=some (⟨[],[],[],[]⟩,e):=by
  by_cases hok:TaskOk t
  case neg =>
    have hn:checkN t≠0:=fun h=>hok (Ce.1 h)
    refine ⟨checkN t,hn,?_,?_⟩
    · unfold Bi BY;rw [AE,if_pos hn]
    · unfold BC;rw [check5,AE,if_pos hn]
  by_cases h0:w < 0
  · refine ⟨1,by decide,?_,?_⟩
    · unfold Bi BY;rw [Ce.2 hok,AE,if_neg (by simp),if_pos h0,AE,if_t]
    · unfold BC;rw [check5,Ce.2 hok,AE,if_neg (by simp),if_pos h0,AE,if_t]
  by_cases h1:1000 < w
  · refine ⟨1,by decide,?_,?_⟩
    · unfold Bi BY;rw [Ce.2 hok,AE,if_neg (by simp),if_neg h0,if_pos h1,AE,if_t]
    · unfold BC;rw [check5,Ce.2 hok,AE,if_neg (by simp),if_neg h0,if_pos h1,AE,if_t]
  have h2:63 < (old.length:Int):=by rcases h with h|h|h|h<;>first|exact absurd hok h|omega
  refine ⟨5,by decide,?_,?_⟩
  · unfold Bi BY;rw [Ce.2 hok,AE,if_neg (by simp),if_neg h0,if_neg h1,AE,if_f,if_pos h2]
  · unfold BC;rw [check5,Ce.2 hok,AE,if_neg (by simp),if_neg h0,if_neg h1,AE,if_f,if_pos h2]
theorem JJ (t:Tsk) (old:List ByteArray) (w:Int):CA t old w=some true:=by
  unfold CA
  obtain ⟨l,hl⟩:=KS old
  rw [hl,awake60]
  by_cases g1:70 < (t.vars.length:Int)
  · rw [if_pos g1];rfl
  by_cases g2:20 < (t.ops.length:Int)
  · rw [if_neg g1,if_pos g2];rfl
  rw [if_neg g1,if_neg g2]
  cases l with
  | true=>rfl
  | false =>
  rw [AE,if_f,AE,if_t,AE,if_f]
  unfold DG Gu
  by_cases hn:¬ TaskOk t∨w < 0∨1000 < w∨63 < old.length
  · obtain ⟨e,he,e1,e2⟩:=Kx hn
    rw [e1,AE,AE,e2,AE,AE,if_pos rfl,GB,AE,if_t,AE]
  have hok:TaskOk t:=Classical.byContradiction fun h=>hn (.inl h)
  have hw0:0≤w:=Int.not_lt.1 fun h=>hn (.inr (.inl h))
  have hw1:w≤1000:=Int.not_lt.1 fun h=>hn (.inr (.inr (.inl h)))
  have hol:old.length≤63:=Nat.not_lt.1 fun h=>hn (.inr (.inr (.inr h)))
  rw [Kw hok (by omega) hol hw0 hw1,AE,AE,IZ hok (by omega) hol hw0 hw1,AE]
  by_cases hc:checkN (cmpT t old w)≠0
  · rw [if_pos hc,if_pos hc,AE,if_pos rfl,GB,AE,if_t,AE]
  · rw [if_neg hc,if_neg hc,AE,if_pos rfl,GB,AE,if_t,AE]
end
section
open Go Go.RowKit Go.ChangeShapes Go.WideShapes Go.Deep
theorem lawRCompiles {w:World} {v0:Value} {a0:Tsk} (h0:V w v0 a0) {v1:Value} {a1:List ByteArray} (h1:V w v1 a1) {v2:Value} {a2:Int} (h2:V w v2 a2):Fn Tryz.prog 6 [v0,v1,v2] w fun v w'=>v=.bool true∧Ext w w':=by
  obtain ⟨rfl,r2⟩:=Vb.int h2
  exact (FV (fun _ h=>h) h0 h1 r2 (JJ a0 a1 a2)).mono fun _ _ h=>⟨h.2.bool,h.1⟩
set_option maxRecDepth 100000 in
theorem Gi (os:Os) (started:os.Started) (H:Type) (enc:TypeId×Value→H) :
    ReturnsInHanded {} Tryz.checked os 6 .any (Rows.repairCompilesSpec.pre6 enc Tryz.prog Tryz.f6 Rows.repairCompilesRow.domain false) (Rows.repairCompilesSpec.post enc Tryz.prog Tryz.f6 false true false false):=by
  refine returnsInHanded_of_change (C:=Tryz.checked) ownTry started (by kernel_rfl) Tryz.func6 (ChangeSpec.witness6 (enc:=enc) (C:=Tryz.checked) false ⟨#[],#[(.agg #[.slice none 0 0,.slice none 0 0,.slice none 0 0,.slice none 0 0]),.slice none 0 0,(.int .i64 0)],[]⟩ 8 (by kernel_rfl) (by kernel_rfl) (by kernel_rfl) (by kernel_rfl)) ?_
  intro W base args ds gs before hval hW _ _
  have hopen:∀ p,DataW.TrodAll enc Tryz.prog W 0 (fun _=>true) true Tryz.f6.params.toList args.toList ds p→∃ v0 v1 v2 d0 d1 d2,args=#[v0,v1,v2]∧ds=[d0,d1,d2]∧(∃ a:Tsk,V W v0 a)∧(∃ a:List ByteArray,V W v1 a)∧(∃ a:Int,V W v2 a):=by
    intro p hA
    rw [Tryz.params6] at hA
    replace hval:∀ (j:Nat) t v,(#[26,27,3]:Array TypeId)[j]?=some t→args[j]?=some v→Value.okWide Tryz.prog W .any base t v:=by rw [← Tryz.params6];exact hval
    obtain ⟨v0,vs0,d0,ds0,p0,q0,g0,e0,_,h0,r0⟩:=trodAll_cons hA
    obtain ⟨v1,vs1,d1,ds1,p1,q1,g1,e1,_,h1,r1⟩:=trodAll_cons r0
    obtain ⟨v2,vs2,d2,ds2,p2,q2,g2,e2,_,h2,r2⟩:=trodAll_cons r1
    obtain ⟨g,e,_⟩:=trodAll_nil r2
    rw [g] at g2;rw [e] at e2
    rw [g2] at g1;rw [e2] at e1
    rw [g1] at g0;rw [e1] at e0
    obtain rfl:args=#[v0,v1,v2]:=by cases args;simp_all
    exact ⟨v0,v1,v2,d0,d1,d2,rfl,e0,(by first|exact openAgg rfl (hval 0 26 v0 rfl rfl) h0|exact openOne rfl (hval 0 26 v0 rfl rfl) h0),(by first|exact openAgg rfl (hval 1 27 v1 rfl rfl) h1|exact openOne rfl (hval 1 27 v1 rfl rfl) h1),(by first|exact openAgg rfl (hval 2 3 v2 rfl rfl) h2|exact openOne rfl (hval 2 3 v2 rfl rfl) h2)⟩
  refine lawPost rfl (by kernel_rfl) (by rw [Tryz.params6];exact of_decide_eq_true (by kernel_rfl)) hW ?_ ?_
  · intro p hA
    obtain ⟨v0,v1,v2,d0,d1,d2,_,rfl,_⟩:=hopen p hA
    rfl
  · intro p hA
    obtain ⟨v0,v1,v2,d0,d1,d2,rfl,_,⟨a0,h0⟩,⟨a1,h1⟩,⟨a2,h2⟩⟩:=hopen p hA
    exact lawRCompiles h0 h1 h2
theorem repairCompiles_holds:Rows.RepairCompilesSaid :=
  OpenClaim.holds_of_wide 6 Tryz.f6 rfl rfl rfl rfl rfl rfl rfl ⟨rfl,rfl,rfl,rfl,rfl⟩ rfl rfl rfl rfl rfl (by kernel_rfl) Tryz.func6 (by kernel_rfl)
    (of_decide_eq_true (by kernel_rfl)) (by unfold Func.isWrapper;first|(rw [if_pos (by decide +kernel)];kernel_rfl)|(rw [if_neg (by decide +kernel)];exact ⟨rfl,rfl⟩))
    (fun os started H enc _=>Gi os started H enc)
#print axioms repairCompiles_holds
end
end Go.Proofs.YtafdmfhdjfkooaaGreat

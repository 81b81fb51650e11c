/- CompilePlans returns true for every temporal task and all launches, and these read behind the call as before. No conditions. -/
import Derived.Test.YtjohlgjklmagnaaGreatDoorCPF
import Derived.Test.YtjohlgjklmagnaaGreatDoorRows
set_option linter.unusedVariables false
set_option linter.unusedSimpArgs false
namespace Go.Proofs.YtjohlgjklmagnaaGreatDoor
open Go Go.RowKit
section
open Go Go.RowKit
def toO (t:Tpl) (o:KO):Opr:=⟨o.name,o.cost,AI (o.pre.map (toF t)),o.effs.map (toE t)⟩
def jvs (js:List Job):List Int:=js.flatMap fun j=>[j.dur + 2,2]
def vrs (t:Tpl):List Int:=t.vars ++ (jvs t.jobs ++ (List.replicate (ksM t t.vars.length).length (2:Int) ++ [(t.jobs.length:Int) + 2]))
def wrP (t:Tpl) (n:Nat):List Int:=(List.range n).map fun v:Nat=>if wrT t (v:Int)=true then (kpos t (3,v):Int) else -1
def rdP (t:Tpl) (n:Nat):List Int:=(List.range n).map fun v:Nat=>if wrT t (v:Int)=true∧rdT t (v:Int)=true then (kpos t (4,v):Int) else -1
def layP (t:Tpl):Lay:=⟨(t.vars.length:Int),wrP t t.vars.length,rdP t t.vars.length,(kpos t (5,0):Int),vrs t⟩
def cTask (t:Tpl):Tsk:=⟨vrs t,enc t (gst t t.init (fun _=>0) [] 0),(factsK t.goal ++ (List.range t.jobs.length).map (fun i=>(((1,i):Ky),(0:Int))) ++ [((5,0),0)]).map (toF t),(opsK t).map (toO t)⟩
section
variable {t : Tpl}
theorem boolI (b:Bool):(if b=true then some true else some false:Option Bool)=some b:=by cases b<;>rfl
theorem GF (l:List Fct) (v:Int):Ck l v=some (hasV l v):=by
  unfold Ck Bd Bk
  rw [Gs (fun f:Fct=>decide (f.var=v)) fun k a hk=>by
    unfold Dp
    by_cases h:a.var=v<;>simp [h,Ae]]
  rw [Ae,boolI,Ae]
  rfl
theorem UZ (v:Int):AU t.jobs v=some (wrT t v):=by
  unfold AU Bt
  rw [Gs (fun j:Job=>hasV j.atStart v || hasV j.atEnd v) fun k a hk=>by
    unfold El
    rw [GF,GF,Ae,Ae]
    cases hasV a.atStart v<;>cases hasV a.atEnd v<;>rfl]
  rfl
theorem Va (v:Int):AZ t.jobs v=some (rdT t v):=by
  unfold AZ Bu
  rw [Gs (fun j:Job=>hasV j.start v || hasV j.fin v) fun k a hk=>by
    unfold Em
    rw [GF,GF,Ae,Ae]
    cases hasV a.start v<;>cases hasV a.fin v<;>rfl]
  rfl
theorem JN:∀ js:List Job,(jvs js).length=2 * js.length
  | []=>rfl
  | j :: js=>by
    have:=JN js
    unfold jvs at *
    rw [List.flatMap_cons,List.length_append,this]
    simp;omega
theorem Uh (v:Nat):(mkK t v).length≤2:=by
  unfold mkK
  split
  · split<;>simp
  · simp
theorem IK:∀ n,(ksM t n).length≤2 * n
  | 0=>by simp [ksM]
  | n + 1=>by
    have:=IK n
    have:=Uh (t:=t) n
    rw [Kb,List.length_append];omega
theorem Qf (a b:Nat):List.replicate (a + b) (2:Int)=List.replicate a 2 ++ List.replicate b 2:=by rw [List.replicate_append_replicate]
theorem Vc (ht:TplOk t):Dy t=some (layP t):=by
  have hn:=ht.nv
  have hj:=ht.nj
  unfold Dy
  rw [Qe (by omega),Ae,Ae]
  rw [CF (fun k=>t.vars ++ jvs (t.jobs.take k)) (by simp [jvs]) (fun k j hk=>by
    have hd:=ht.durs j (List.mem_of_getElem? hk)
    have hl:(t.vars ++ jvs (t.jobs.take k)).length≤200:=by rw [List.length_append,JN,List.length_take];omega
    rw [Ba (by unfold inI64;omega),Ae,Bb (by simp only [List.length_cons,List.length_nil];omega) (by simp only [List.length_cons,List.length_nil];omega),Ae,List.take_add_one,hk]
    unfold jvs
    simp)]
  rw [Ae,BH,List.take_length]
  have hk3:∀ k,(t.vars ++ (jvs t.jobs ++ List.replicate (ksM t k).length (2:Int))).length=kpos t (3,k):=fun k=>by
    rw [kpos3];simp [JN];omega
  rw [CF (fun k=>(wrP t k,rdP t k,t.vars ++ (jvs t.jobs ++ List.replicate (ksM t k).length (2:Int)))) (by simp [wrP,rdP,ksM]) (fun k x hk=>by
    have hlt:=Bl hk
    have hl:=hk3 k
    have hle:=IK (t:=t) k
    have hb:kpos t (3,k)≤300:=by rw [kpos3];omega
    have e1:(wrP t k).length=k:=by unfold wrP;simp
    have e2:(rdP t k).length=k:=by unfold rdP;simp
    have ew:wrP t (k + 1)=wrP t k ++ [if wrT t (k:Int)=true then (kpos t (3,k):Int) else -1]:=by unfold wrP;rw [List.range_succ,List.map_append];rfl
    have er:rdP t (k + 1)=rdP t k ++ [if wrT t (k:Int)=true∧rdT t (k:Int)=true then (kpos t (4,k):Int) else -1]:=by unfold rdP;rw [List.range_succ,List.map_append];rfl
    dsimp only
    rw [UZ,Ae,hl,ew,er,Kb]
    by_cases h1:wrT t (k:Int)=true
    · rw [if_pos h1,if_pos h1,Bb (by rw [hl];simp;omega) (by rw [hl];simp;omega),Ae,Va,Ae]
      by_cases h2:rdT t (k:Int)=true
      · rw [if_pos h2,if_pos ⟨h1,h2⟩,Bb (by rw [List.length_append,hl];simp;omega) (by rw [List.length_append,hl];simp;omega),Ae,Ae]
        dsimp only
        rw [Bb (by rw [e1];simp;omega) (by rw [e1];simp;omega),Ae,Bb (by rw [e2];simp;omega) (by rw [e2];simp;omega),Ae]
        have em:mkK t k=[(3,k),(4,k)]:=by unfold mkK;rw [if_pos h1,if_pos h2]
        have e4:(((t.vars ++ (jvs t.jobs ++ List.replicate (ksM t k).length (2:Int)) ++ [2]).length:Nat):Int)=(kpos t (4,k):Int):=by rw [List.length_append,hl,kpos3,kpos4];simp
        rw [e4,em,List.length_append,Qf]
        simp
      · rw [if_neg h2,if_neg (fun h=>h2 h.2),Ae]
        dsimp only
        rw [Bb (by rw [e1];simp;omega) (by rw [e1];simp;omega),Ae,Bb (by rw [e2];simp;omega) (by rw [e2];simp;omega),Ae]
        have em:mkK t k=[(3,k)]:=by unfold mkK;rw [if_pos h1,if_neg h2]
        rw [em,List.length_append,Qf]
        simp
    · rw [if_neg h1,if_neg h1,if_neg (fun h=>h1 h.1),Ae]
      dsimp only
      rw [Bb (by rw [e1];simp;omega) (by rw [e1];simp;omega),Ae,Bb (by rw [e2];simp;omega) (by rw [e2];simp;omega),Ae]
      have em:mkK t k=[]:=by unfold mkK;rw [if_neg h1]
      rw [em,List.append_nil])]
  rw [Ae,BH]
  dsimp only
  have hl:=hk3 t.vars.length
  have hle:=IK (t:=t) t.vars.length
  have e5:kpos t (3,t.vars.length)=kpos t (5,0):=by rw [kpos3,kpos5]
  have hb:kpos t (3,t.vars.length)≤300:=by rw [kpos3];omega
  rw [Ba (by unfold inI64;omega),Ae,hl,Bb (by rw [hl];simp;omega) (by rw [hl];simp;omega),Ae,e5]
  unfold layP vrs
  simp
theorem NY (ht:TplOk t) {i:Nat} (hi:i < t.jobs.length):BF (layP t) (i:Int)=some (kpos t (1,i):Int):=by
  have:=ht.nv
  have:=ht.nj
  unfold BF layP
  rw [Ba (by unfold inI64;omega),Ae,Ba (by unfold inI64;dsimp only;omega),Ae,kpos1]
  dsimp only
  congr 1
theorem Pm (ht:TplOk t) {i:Nat} (hi:i < t.jobs.length):Cv (layP t) (i:Int)=some (kpos t (2,i):Int):=by
  have:=ht.nv
  have:=ht.nj
  unfold Cv layP
  rw [Ba (by unfold inI64;omega),Ae,Ba (by unfold inI64;dsimp only;omega),Ae,Ba (by unfold inI64;dsimp only;omega),Ae,kpos2]
  dsimp only
  congr 1
theorem Nc (r w:List Fct) (n:Nat):needK t r w (n + 1)=needK t r w n ++ needK1 t r w n:=by
  unfold needK;rw [List.range_succ,List.flatMap_append];simp
theorem NZ (r w:List Fct) (n:Nat):becK t r w (n + 1)=becK t r w n ++ becK1 t r w n:=by
  unfold becK;rw [List.range_succ,List.flatMap_append];simp
theorem Lo (r w:List Fct):∀ n,(needK t r w n).length≤2 * n
  | 0=>by simp [needK]
  | n + 1=>by
    have:=Lo r w n
    rw [Nc,List.length_append]
    have:(needK1 t r w n).length≤2:=by
      unfold needK1
      split
      · split<;>simp
      · split<;>simp
    omega
theorem Mu (r w:List Fct):∀ n,(becK t r w n).length≤2 * n
  | 0=>by simp [becK]
  | n + 1=>by
    have:=Mu r w n
    rw [NZ,List.length_append]
    have:(becK1 t r w n).length≤2:=by
      unfold becK1
      split
      · simp
      · split<;>simp
    omega
theorem Qg {v:Nat} (hv:v < t.vars.length):(wrP t t.vars.length)[v]?=some (if wrT t (v:Int)=true then (kpos t (3,v):Int) else -1):=by
  unfold wrP;rw [List.getElem?_map,List.getElem?_range hv];rfl
theorem Qh {v:Nat} (hv:v < t.vars.length):(rdP t t.vars.length)[v]?=some (if wrT t (v:Int)=true∧rdT t (v:Int)=true then (kpos t (4,v):Int) else -1):=by
  unfold rdP;rw [List.getElem?_map,List.getElem?_range hv];rfl
theorem Ly:(wrP t t.vars.length).length=t.vars.length:=by unfold wrP;simp
theorem SQ (ht:TplOk t) {r w:List Fct} (hw:∀ v,hasV w v=true→wrT t v=true) (hr:∀ v,hasV r v=true→rdT t v=true):CI (layP t) r w=some ((needK t r w t.vars.length).map (toF t),(becK t r w t.vars.length).map (toE t)):=by
  have hn:=ht.nv
  unfold CI
  rw [show (layP t).write=wrP t t.vars.length from rfl,show (layP t).read=rdP t t.vars.length from rfl]
  rw [CF (fun k=>((needK t r w k).map (toF t),(becK t r w k).map (toE t))) (by rfl) (fun k a hk=>by
    have hlt:k < t.vars.length:=by have:=Bl hk;rwa [Ly] at this
    rw [Qg hlt] at hk
    have ha:=(Option.some.inj hk).symm
    have n1:((needK t r w k).map (toF t)).length≤200:=by have:=Lo (t:=t) r w k;rw [List.length_map];omega
    have n2:((becK t r w k).map (toE t)).length≤200:=by have:=Mu (t:=t) r w k;rw [List.length_map];omega
    dsimp only
    rw [GF,GF,Qh hlt,Ae,Ae,Nc,NZ,List.map_append,List.map_append]
    by_cases h1:hasV w (k:Int)=true
    · have hk1:=hw _ h1
      rw [if_pos hk1] at ha
      subst ha
      rw [if_pos h1,Bb (by simp only [List.length_cons,List.length_nil];omega) (by simp only [List.length_cons,List.length_nil];omega),Ae]
      have e2:becK1 t r w k=[((3,k),1)]:=by unfold becK1;rw [if_pos h1]
      by_cases h2:rdT t (k:Int)=true
      · have e1:needK1 t r w k=[((3,k),0),((4,k),0)]:=by unfold needK1;rw [if_pos h1,if_pos h2]
        rw [if_pos ⟨hk1,h2⟩,Ae,if_pos (by omega),Ae,Bb (by rw [List.length_append];simp only [List.length_cons,List.length_nil];omega) (by rw [List.length_append];simp only [List.length_cons,List.length_nil];omega),Ae,Ae]
        rw [Bb (by simp only [List.length_cons,List.length_nil];omega) (by simp only [List.length_cons,List.length_nil];omega),Ae,e1,e2]
        simp [toF,toE]
      · have e1:needK1 t r w k=[((3,k),0)]:=by unfold needK1;rw [if_pos h1,if_neg h2]
        rw [if_neg (fun h=>h2 h.2),Ae,if_neg (by omega),Ae]
        rw [Bb (by simp only [List.length_cons,List.length_nil];omega) (by simp only [List.length_cons,List.length_nil];omega),Ae,e1,e2]
        simp [toF,toE]
    · rw [if_neg h1]
      by_cases h3:hasV r (k:Int)=true∧wrT t (k:Int)=true
      · have e1:needK1 t r w k=[((3,k),0)]:=by unfold needK1;rw [if_neg h1,if_pos h3]
        have e2:becK1 t r w k=[((4,k),1)]:=by unfold becK1;rw [if_neg h1,if_pos h3]
        rw [if_pos h3.2] at ha
        subst ha
        rw [if_pos h3.1,if_pos (by omega),Ae,if_pos rfl,Bb (by simp only [List.length_cons,List.length_nil];omega) (by simp only [List.length_cons,List.length_nil];omega),Ae,if_pos ⟨h3.2,hr _ h3.1⟩,Ae]
        rw [Bb (by simp only [List.length_cons,List.length_nil];omega) (by simp only [List.length_cons,List.length_nil];omega),Ae,e1,e2]
        simp [toF,toE]
      · have e1:needK1 t r w k=[]:=by unfold needK1;rw [if_neg h1,if_neg h3]
        have e2:becK1 t r w k=[]:=by unfold becK1;rw [if_neg h1,if_neg h3]
        have key:(if hasV r (k:Int)=true then if 0≤a then (some true) else (some false) else some false:Option Bool)=some false:=by
          by_cases h4:hasV r (k:Int)=true
          · rw [if_pos h4,if_neg]
            rw [ha,if_neg fun h=>h3 ⟨h4,h⟩];decide
          · rw [if_neg h4]
        rw [key,Ae,if_neg (by decide),e1,e2]
        simp)]
  rw [Ae,BH,Ly]
theorem factsF {l:List Fct} (hl:FactsOk t.vars l):(factsK l).map (toF t)=l:=by
  unfold factsK
  rw [List.map_map]
  refine (List.map_congr_left fun f hf=>?_).trans (List.map_id l)
  have:=(Fz ((factsPw.1 hl).1 f hf)).1
  unfold toF
  simp only [Function.comp,kpos0]
  rw [Int.toNat_of_nonneg this]
  rfl
theorem factsE {l:List Fct} (hl:FactsOk t.vars l):(factsK l).map (toE t)=l.map fun f=>(⟨[],f.var,f.val⟩:Eff):=by
  unfold factsK
  rw [List.map_map]
  refine List.map_congr_left fun f hf=>?_
  have:=(Fz ((factsPw.1 hl).1 f hf)).1
  unfold toE
  simp only [Function.comp,kpos0]
  rw [Int.toNat_of_nonneg this]
theorem concatF {a b c:List Fct} (h:a.length + b.length + c.length≤1000):BM [a,b,c]=some (a ++ b ++ c):=by
  unfold BM CC
  simp only [rng]
  rw [Ba (by unfold inI64;omega),Ae,if_neg (by omega)]
  dsimp only
  rw [Ba (by unfold inI64;omega),Ae,if_neg (by omega)]
  dsimp only
  rw [Ba (by unfold inI64;omega),Ae,if_neg (by omega)]
  dsimp only
  rw [Ae,BH,if_pos ⟨by omega,by omega⟩,Ae]
  rw [Bb (by simp;omega) (by simp;omega),Ae]
  dsimp only
  rw [Bb (by simp;omega) (by simp;omega),Ae]
  dsimp only
  rw [Bb (by simp;omega) (by simp;omega),Ae]
  dsimp only
  rw [Ae,BH,List.nil_append]
theorem concatE {a b c:List Eff} (h:a.length + b.length + c.length≤1000):BI [a,b,c]=some (a ++ b ++ c):=by
  unfold BI Cp
  simp only [rng]
  rw [Ba (by unfold inI64;omega),Ae,if_neg (by omega)]
  dsimp only
  rw [Ba (by unfold inI64;omega),Ae,if_neg (by omega)]
  dsimp only
  rw [Ba (by unfold inI64;omega),Ae,if_neg (by omega)]
  dsimp only
  rw [Ae,BH,if_pos ⟨by omega,by omega⟩,Ae]
  rw [Bb (by simp;omega) (by simp;omega),Ae]
  dsimp only
  rw [Bb (by simp;omega) (by simp;omega),Ae]
  dsimp only
  rw [Bb (by simp;omega) (by simp;omega),Ae]
  dsimp only
  rw [Ae,BH,List.nil_append]
theorem Qi (ht:TplOk t) {h:Hh} (hi:h.1 < t.jobs.length) {name:ByteArray} (hn:name=(if h.2=true then enN else stN) ++ (jb t h.1).name) {more:List Fct} (hm:more=(ownP t h).map (toF t)) {ef:List Eff} (he:ef=(ownE t h).map (toE t)) :
    Ca (layP t) name (hR t h) (hW t h) more ef=some (toO t (hapO t h)):=by
  have fr:=ht.hR h
  have fw:=ht.hW h
  have lr:=HR fr
  have lw:=HR fw
  have hv:=ht.nv
  have l1:(ownP t h).length≤2:=by unfold ownP;split<;>simp
  have l2:(ownE t h).length≤2:=by unfold ownE;split<;>simp
  have l3:=Lo (t:=t) (hR t h) (hW t h) t.vars.length
  have l4:=Mu (t:=t) (hR t h) (hW t h) t.vars.length
  have l5:more.length≤2:=by rw [hm,List.length_map];exact l1
  have l6:ef.length≤2:=by rw [he,List.length_map];exact l2
  unfold Ca
  rw [concatF (by simp only [List.length_cons,List.length_nil];omega),Ae]
  rw [CF (fun k=>((hW t h).take k).map fun f=>(⟨[],f.var,f.val⟩:Eff)) (by rfl) (fun k f hk=>by
    have:=Bl hk
    rw [Bb (by simp;omega) (by simp;omega),Ae,List.take_add_one,hk]
    simp)]
  rw [Ae,BH,List.take_length,SQ ht (fun v hv=>KY hi hv) (fun v hv=>OV hi hv),Ae]
  dsimp only
  rw [Bb (by simp;omega) (by simp;omega),Ae,concatE (by simp;omega),Ae,if_pos (by simp;omega),Ae]
  unfold toO hapO
  simp only [List.map_append,factsF fr,factsE fw,← hm,← he,← hn]
  rfl
theorem Lp {a b:ByteArray} (h:a.size + b.size≤1000):catI a b=some (a ++ b):=if_pos (by omega)
theorem Qj (f:Fct):AI [f]=[f]:=Nu (.refl _) (List.pairwise_singleton _ _)
theorem SR (ht:TplOk t) {i:Nat} (hi:i < t.jobs.length) {l:List Fct} (hl:FactsOk t.vars l) (a b:Int):AI (l ++ [⟨(kpos t (1,i):Int),a⟩,⟨(kpos t (5,0):Int),b⟩])=l ++ [⟨(kpos t (1,i):Int),a⟩,⟨(kpos t (5,0):Int),b⟩]:=by
  refine Nu (.refl _) ?_
  rw [List.pairwise_append]
  refine ⟨(factsPw.1 hl).2,?_,fun x hx y hy=>?_⟩
  · refine .cons (fun y hy=>?_) (List.pairwise_singleton _ _)
    have:y=⟨(kpos t (5,0):Int),b⟩:=by simpa using hy
    subst this
    show (kpos t (1,i):Int) < (kpos t (5,0):Int)
    rw [kpos1,kpos5];omega
  · have h1:=Fz ((factsPw.1 hl).1 x hx)
    have:y=⟨(kpos t (1,i):Int),a⟩∨y=⟨(kpos t (5,0):Int),b⟩:=by simpa using hy
    rcases this with rfl|rfl
    · show x.var < (kpos t (1,i):Int)
      rw [kpos1];omega
    · show x.var < (kpos t (5,0):Int)
      rw [kpos5];omega
theorem ST (k:Nat):(itoaB k).size≤2:=Kf k
theorem Ui (ht:TplOk t) {i:Nat} (hi:i < t.jobs.length) (hnm:(jb t i).name.size≤300) {k:Nat} (hk:k≤(jb t i).dur.toNat):CD (layP t) (jb t i) (i:Int) (k:Int)=some (toO t (waitO t i k)):=by
  have hd:=ht.dur i
  have hv:=ht.nv
  have hj:=ht.nj
  have fo:=ht.over i
  have lo:=HR fo
  have hs:=ST k
  have z1:waN.size=5:=rfl
  have z2:spN.size=1:=rfl
  unfold CD
  rw [show (⟨#[119,97,105,116,32]⟩:ByteArray)=waN from rfl,show (⟨#[32]⟩:ByteArray)=spN from rfl]
  rw [Lp (by omega),Ae,Lp (by rw [ByteArray.size_append];omega),Ae,PW,if_pos ⟨by omega,by omega⟩,Ae,Int.toNat_natCast,Lp (by rw [ByteArray.size_append,ByteArray.size_append];omega),Ae,Ae]
  have e1:(if 0 < (k:Int) then (bnd (BJ (jb t i).over) fun q108=>some q108) else (some ([]:List Fct)):Option (List Fct))=some (if 0 < k then (jb t i).over else []):=by
    by_cases h0:0 < k
    · rw [if_pos (by omega),if_pos h0,Mt (by omega),Ae]
    · rw [if_neg (by omega),if_neg h0]
  have lz:(if 0 < k then (jb t i).over else []).length≤64:=by
    split
    · omega
    · simp
  rw [e1,Ae,Ba (by unfold inI64;omega),Ae,NY ht hi,Ae,Bb (by simp only [List.length_cons,List.length_nil];omega) (by simp only [List.length_cons,List.length_nil];omega),Ae]
  have e2:(if 1 < (k:Int) then (bnd (chkI ((k:Int) - 1)) fun n161=>bnd (some (kpos t (1,i):Int)) fun q164=>bnd (appI 40 ([]:List Eff) [(⟨([]:List Fct),q164,n161⟩:Eff)]) fun u180=>some u180) else (if (k:Int)=1 then (bnd (chkI ((jb t i).dur + 1)) fun n194=>bnd (some (kpos t (1,i):Int)) fun q197=>bnd (appI 40 ([]:List Eff) [(⟨([]:List Fct),q197,n194⟩:Eff)]) fun u213=>some u213) else (some ([]:List Eff))):Option (List Eff))=some ((waitE t i k).map (toE t)):=by
    unfold waitE
    by_cases h1:1 < k
    · rw [if_pos (by omega),if_pos h1,Ba (by unfold inI64;omega),Ae,Ae,Bb (by simp) (by simp),Ae];rfl
    · rw [if_neg (by omega),if_neg h1]
      by_cases h2:k=1
      · rw [if_pos (by omega),if_pos h2,Ba (by unfold inI64;omega),Ae,Ae,Bb (by simp) (by simp),Ae];rfl
      · rw [if_neg (by omega),if_neg h2];rfl
  have lw:(waitE t i k).length≤1:=by
    unfold waitE
    split
    · simp
    · split<;>simp
  rw [e2,Ae,Ba (by unfold inI64;omega),Ae,Bb (by simp;omega) (by simp;omega),Ae]
  unfold toO waitO
  have e3:((if 0 < k then factsK (jb t i).over else []) ++ [((1,i),(k:Int)),((5,0),(i:Int) + 1)]:List KF).map (toF t)=(if 0 < k then (jb t i).over else []) ++ [⟨(kpos t (1,i):Int),(k:Int)⟩,⟨(kpos t (5,0):Int),(i:Int) + 1⟩]:=by
    rw [List.map_append]
    congr 1
    split
    · exact factsF fo
    · rfl
  rw [e3]
  dsimp only
  have hf:FactsOk t.vars (if 0 < k then (jb t i).over else []):=by
    split
    · exact fo
    · exact nilOk _
  rw [SR ht hi hf,List.map_append]
  rfl
theorem Vd (ht:TplOk t):Cr (layP t) (t.jobs.length:Int)=some (toO t (advO t)):=by
  have hv:=ht.nv
  have hj:=ht.nj
  unfold Cr
  rw [Ba (by unfold inI64;omega),Ae,show natI (t.jobs.length:Int)=some t.jobs.length from by unfold natI;rw [if_pos (by omega)];simp,Ae]
  rw [HY (fun k=>((List.range k).map (fun i=>(((2,i):Ky),(0:Int)))).map (toE t)) (by rfl) (fun k hk=>by
    rw [Pm ht hk,Ae,Bb (by simp;omega) (by simp;omega),Ae,List.range_succ]
    simp [toE])]
  rw [Ae,BH]
  rw [show (layP t).write=wrP t t.vars.length from rfl,show (layP t).read=rdP t t.vars.length from rfl]
  rw [CF (fun k=>((List.range t.jobs.length).map (fun i=>(((2,i):Ky),(0:Int)))).map (toE t) ++ ((ksM t k).map fun y=>(y,(0:Int))).map (toE t)) (by simp [ksM]) (fun k a hk=>by
    have hlt:k < t.vars.length:=by have:=Bl hk;rwa [Ly] at this
    rw [Qg hlt] at hk
    have ha:=(Option.some.inj hk).symm
    have hle:=IK (t:=t) k
    have lm:(((List.range t.jobs.length).map (fun i=>(((2,i):Ky),(0:Int)))).map (toE t) ++ ((ksM t k).map fun y=>(y,(0:Int))).map (toE t)).length≤200:=by simp;omega
    rw [Qh hlt,Kb]
    simp only [Ae]
    by_cases h1:wrT t (k:Int)=true
    · rw [if_pos h1] at ha
      subst ha
      rw [if_pos (by omega),Bb (by simp only [List.length_cons,List.length_nil];omega) (by simp only [List.length_cons,List.length_nil];omega),Ae,Ae]
      by_cases h2:rdT t (k:Int)=true
      · have em:mkK t k=[(3,k),(4,k)]:=by unfold mkK;rw [if_pos h1,if_pos h2]
        rw [if_pos (show wrT t (k:Int)=true∧rdT t (k:Int)=true from ⟨h1,h2⟩),if_pos (by omega),Bb (by rw [List.length_append];simp only [List.length_cons,List.length_nil];omega) (by rw [List.length_append];simp only [List.length_cons,List.length_nil];omega),Ae,em]
        simp [toE]
      · have em:mkK t k=[(3,k)]:=by unfold mkK;rw [if_pos h1,if_neg h2]
        rw [if_neg (show ¬ (wrT t (k:Int)=true∧rdT t (k:Int)=true) from fun h=>h2 h.2),if_neg (by omega),em]
        simp [toE]
    · rw [if_neg h1] at ha
      have em:mkK t k=[]:=by unfold mkK;rw [if_neg h1]
      rw [if_neg (show ¬ (wrT t (k:Int)=true∧rdT t (k:Int)=true) from fun h=>h1 h.1),if_neg (show ¬ (0:Int)≤a by omega),Ae,if_neg (show ¬ (0:Int)≤-1 by omega),em,List.append_nil])]
  have hle:=IK (t:=t) t.vars.length
  rw [Ae,BH,Ly,Bb (by simp;omega) (by simp;omega),Ae]
  unfold toO advO
  rw [show ([((5,0),(t.jobs.length:Int) + 1)]:List KF).map (toF t)=[(⟨(kpos t (5,0):Int),(t.jobs.length:Int) + 1⟩:Fct)] from rfl]
  dsimp only
  rw [Qj,List.map_append,List.map_append]
  rfl
theorem GA (ht:TplOk t):∀ n,(waitL t n).length≤63 * n
  | 0=>by simp [waitL]
  | n + 1=>by
    have:=GA ht n
    have:=ht.dur n
    rw [Hn];omega
theorem Uj (ht:TplOk t):cpyL (List.replicate (vrs t).length (0:Int)) t.init=enc t (gst t t.init (fun _=>0) [] 0):=by
  have hi:=ht.init.1
  have hl:(vrs t).length=(keys t).length:=by rw [Kc];unfold vrs;simp [JN];omega
  refine List.ext_getElem? fun i=>?_
  unfold cpyL enc
  rw [List.length_replicate,hl,List.getElem?_map]
  by_cases h1:i < t.vars.length
  · rw [List.getElem?_append_left (by rw [List.length_take,Kc];omega),List.getElem?_take]
    rw [if_pos (by rw [Kc];omega)]
    have hk:=Kd (t:=t) (k:=(0,i)) (Ei.2 (.inl ⟨rfl,h1⟩))
    rw [kpos0] at hk
    rw [hk]
    obtain ⟨x,hx⟩:=BB (l:=t.init) (k:=i) (by omega)
    rw [hx]
    show some x=some ((t.init[i]?).getD 0)
    rw [hx];rfl
  · rw [List.getElem?_append_right (by rw [List.length_take];omega),List.length_take,Nat.min_eq_right (by rw [Kc];omega),List.drop_replicate,List.getElem?_replicate]
    by_cases h2:i < (keys t).length
    · rw [if_pos (by omega),List.getElem?_eq_getElem h2]
      have hm:=List.getElem_mem h2
      have hp:=Mg t i _ (List.getElem?_eq_getElem h2)
      generalize (keys t)[i]=k at hm hp
      show some 0=some (gst t t.init (fun _=>0) [] 0 k)
      rcases Ei.1 hm with ⟨g1,g2⟩|⟨g1|g1,_⟩|⟨g1,_⟩|⟨g1,_⟩|g1
      · obtain ⟨a,v⟩:=k;simp only at g1 g2;subst g1;rw [kpos0] at hp;omega
      · obtain ⟨a,v⟩:=k;simp only at g1;subst g1;rfl
      · obtain ⟨a,v⟩:=k;simp only at g1;subst g1;rfl
      · obtain ⟨a,v⟩:=k;simp only at g1;subst g1;rfl
      · obtain ⟨a,v⟩:=k;simp only at g1;subst g1;rfl
      · subst g1;rfl
    · rw [if_neg (by omega),List.getElem?_eq_none (by omega)];rfl
theorem Ks (h0:tck t=0) (hnm:∀ j∈t.jobs,j.name.size≤300):BN t=some (if checkN (cTask t)≠0 then (⟨[],[],[],[]⟩,⟨checkN (cTask t)⟩) else (cTask t,⟨0⟩)):=by
  have ht:=JA h0
  have hv:=ht.nv
  have hj:=ht.nj
  have hg:=ht.goal
  have gl:=hg.1
  have lv:(vrs t).length≤300:=by
    have:=IK (t:=t) t.vars.length
    unfold vrs;simp [JN];omega
  unfold BN
  rw [HZ (by omega),h0,Ae,if_neg (by simp),Vc ht,Ae]
  rw [show (layP t).vars=vrs t from rfl,show (layP t).phase=(kpos t (5,0):Int) from rfl]
  rw [OG (by omega) (by omega),Ae,Mt (by omega),Ae,Ae]
  dsimp only
  have z1:stN.size=6:=rfl
  have z2:enN.size=4:=rfl
  rw [CF (fun k=>(t.goal ++ ((List.range k).map (fun i=>(((1,i):Ky),(0:Int)))).map (toF t),(hapL t k).map (toO t))) (by simp [hapL]) (fun k j hk=>by
    have hlt:=Bl hk
    have ej:=QG hk
    have hn:=hnm j (List.mem_of_getElem? hk)
    have hd:=ht.durs j (List.mem_of_getElem? hk)
    have lh:((hapL t k).map (toO t)).length≤100:=by rw [List.length_map,CX];omega
    dsimp only
    rw [NY ht hlt,Pm ht hlt]
    simp only [Ae]
    rw [show (⟨#[115,116,97,114,116,32]⟩:ByteArray)=stN from rfl,show (⟨#[101,110,100,32]⟩:ByteArray)=enN from rfl]
    rw [Lp (by omega),Ae]
    have s1:=Qi ht (h:=(k,false)) hlt (name:=stN ++ j.name) (by rw [ej];rfl) (more:=[(⟨(kpos t (1,k):Int),0⟩:Fct),(⟨(kpos t (2,k):Int),0⟩:Fct)]) rfl (ef:=[(⟨([]:List Fct),(kpos t (1,k):Int),j.dur⟩:Eff)]) (by rw [← ej];rfl)
    have s2:=Qi ht (h:=(k,true)) hlt (name:=enN ++ j.name) (by rw [ej];rfl) (more:=[(⟨(kpos t (1,k):Int),j.dur + 1⟩:Fct)]) (by rw [← ej];rfl) (ef:=[(⟨([]:List Fct),(kpos t (1,k):Int),0⟩:Eff),(⟨([]:List Fct),(kpos t (2,k):Int),1⟩:Eff)]) rfl
    rw [show hR t (k,false)=j.start from by rw [← ej];rfl,show hW t (k,false)=j.atStart from by rw [← ej];rfl] at s1
    rw [show hR t (k,true)=j.fin from by rw [← ej];rfl,show hW t (k,true)=j.atEnd from by rw [← ej];rfl] at s2
    rw [s1,Ae,Bb (by simp only [List.length_cons,List.length_nil];omega) (by simp only [List.length_cons,List.length_nil];omega),Ae,Ba (by unfold inI64;omega),Ae,Lp (by omega),Ae,s2,Ae]
    rw [Bb (by rw [List.length_append];simp only [List.length_cons,List.length_nil];omega) (by rw [List.length_append];simp only [List.length_cons,List.length_nil];omega),Ae]
    rw [Bb (by simp;omega) (by simp;omega),Ae,KX,List.range_succ]
    simp [toF])]
  rw [Ae,BH]
  dsimp only
  rw [Bb (by simp;omega) (by simp;omega),Ae]
  have eg:t.goal ++ ((List.range t.jobs.length).map (fun i=>(((1,i):Ky),(0:Int)))).map (toF t) ++ [(⟨(kpos t (5,0):Int),0⟩:Fct)]=(cTask t).goal:=by
    unfold cTask
    simp only [List.map_append,factsF hg.2]
    rfl
  have key:(if 0 < (t.jobs.length:Int) then (bnd (appI 72 ((hapL t t.jobs.length).map (toO t)) [(⟨(⟨#[116,105,99,107]⟩:ByteArray),0,[(⟨(kpos t (5,0):Int),0⟩:Fct)],[(⟨([]:List Fct),(kpos t (5,0):Int),1⟩:Eff)]⟩:Opr)]) fun u1057=>bnd (rng (ρ:=(List Opr)) (fun (k1077:Nat) (a1078:Job) (s1075:(List Opr))=>bnd (chkI (a1078.dur + 1)) fun n1128=>bnd (natI n1128) fun N1144=>bnd (rngN (ρ:=Ctl (List Opr) (List Opr)) (fun (k1135:Nat) (s1133:(List Opr))=>bnd (CD (layP t) a1078 (k1077:Int) (k1135:Int)) fun q1150=>bnd (appI 72 s1133 [q1150]) fun u1174=>some (.next u1174)) N1144 s1075) fun res1131=>fin res1131 fun (s1191:(List Opr))=>some (.next s1191)) t.jobs 0 u1057) fun res1073=>fin res1073 fun (s1197:(List Opr))=>bnd (Cr (layP t) (t.jobs.length:Int)) fun q1201=>bnd (appI 72 s1197 [q1201]) fun u1225=>some u1225) else (some ((hapL t t.jobs.length).map (toO t))):Option (List Opr))=some ((opsK t).map (toO t)):=by
    have lh:((hapL t t.jobs.length).map (toO t)).length≤100:=by rw [List.length_map,CX];omega
    unfold opsK
    by_cases hz:t.jobs.length=0
    · rw [if_neg (by omega),if_pos hz,List.append_nil]
    · rw [if_pos (by omega),if_neg hz]
      have et:(⟨(⟨#[116,105,99,107]⟩:ByteArray),0,[(⟨(kpos t (5,0):Int),0⟩:Fct)],[(⟨([]:List Fct),(kpos t (5,0):Int),1⟩:Eff)]⟩:Opr)=toO t tickO:=by
        unfold toO tickO
        rw [show ([((5,0),0)]:List KF).map (toF t)=[(⟨(kpos t (5,0):Int),0⟩:Fct)] from rfl]
        dsimp only
        rw [Qj];rfl
      rw [et,Bb (by simp only [List.length_cons,List.length_nil];omega) (by simp only [List.length_cons,List.length_nil];omega),Ae]
      rw [CF (fun k=>(hapL t t.jobs.length).map (toO t) ++ [toO t tickO] ++ (waitL t k).map (toO t)) (by simp [waitL]) (fun k j hk=>by
        have hlt:=Bl hk
        have ej:=QG hk
        have hn:=hnm j (List.mem_of_getElem? hk)
        have hd:=ht.durs j (List.mem_of_getElem? hk)
        have hw:=GA ht k
        have hN:natI (j.dur + 1)=some (j.dur.toNat + 1):=by unfold natI;rw [if_pos (by omega)];congr 1;omega
        rw [Ba (by unfold inI64;omega),Ae,hN,Ae]
        rw [HY (fun m=>(hapL t t.jobs.length).map (toO t) ++ [toO t tickO] ++ (waitL t k).map (toO t) ++ ((List.range m).map (waitO t k)).map (toO t)) (by simp) (fun m hm=>by
          have:=Ui ht hlt (by rw [ej];exact hn) (k:=m) (by rw [ej];omega)
          rw [ej] at this
          rw [this,Ae,Bb (by simp;rw [CX];omega) (by simp;rw [CX];omega),Ae,List.range_succ]
          simp)]
        rw [Ae,BH,Kg,ej]
        simp)]
      have hw:=GA ht t.jobs.length
      rw [Ae,BH,Vd ht,Ae,Bb (by simp;rw [CX];omega) (by simp;rw [CX];omega),Ae]
      simp
  rw [key,Ae,eg,Uj ht]
  unfold DM
  rw [Ae]
  show (if checkN (cTask t)≠0 then _ else _)=_
  by_cases hc:checkN (cTask t)≠0
  · rw [if_pos hc,if_pos hc];rfl
  · rw [if_neg hc,if_neg hc];rfl
theorem RG (hc:checkN (cTask t)=0):Cmd t (cTask t):=by
  refine ⟨by unfold cTask;simp,fun k o ho=>⟨toO t o,?_,rfl,?_,rfl⟩,rfl,rfl,FR.1 hc⟩
  · unfold cTask;rw [List.getElem?_map,ho];rfl
  · exact Jg _
end
end
section
open Go Go.RowKit
abbrev srtU (l:List Lch):List Lch:=AY l
theorem RH {x y:Lch} (h1:¬ lexU y x) (h2:¬ lexU x y):x=y:=by
  unfold lexU at *
  obtain ⟨a,b⟩:=x
  obtain ⟨c,d⟩:=y
  simp only at *
  have e1:a=c:=by omega
  have e2:b=d:=by omega
  rw [e1,e2]
theorem Qk {a b:List Lch} (h:a.Perm b) (hb:b.Pairwise fun x y=>¬ lexU y x):srtU a=b :=
  List.Perm.eq_of_pairwise (le:=fun x y=>¬ lexU y x) (fun _ _ _ _ h1 h2=>RH h1 h2) (HU a) hb ((ED a).trans h)
theorem QP {a b:List Lch} (h:a.Perm b):srtU a=srtU b:=Qk (h.trans (ED b).symm) (HU b)
theorem Oa {l:List Lch} (h:l.length≤1000000):Dm l=some (srtU l):=if_pos (by omega)
structure InsI (l₀:List Lch) (m:Nat) (s:List Lch×Int):Prop where
  perm:s.1.Perm l₀
  pos:∃ k:Nat,s.2=(k:Int)∧k≤m∧m < s.1.length∧(∀ (i j:Nat) a b,i < j→j≤m→i≠k→j≠k→s.1[i]?=some a→s.1[j]?=some b→¬ lexU b a)∧(∀ (j:Nat) a b,k < j→j≤m→s.1[k]?=some a→s.1[j]?=some b→¬ lexU b a)
theorem QQ {x y z:Lch} (h1:¬ lexU y x) (h2:¬ lexU z y):¬ lexU z x:=by unfold lexU at *;omega
theorem Uk {x y:Lch} (h:lexU x y):¬ lexU y x:=by unfold lexU at *;omega
theorem RI {l:List Lch} {k:Nat} {a b:Lch} (ha:l[k + 1]?=some a) (hb:l[k]?=some b):((l.set (k + 1) b).set k a).Perm l:=by
  have h1:=Bl ha
  obtain ⟨_,e1⟩:=List.getElem?_eq_some_iff.1 ha
  obtain ⟨_,e2⟩:=List.getElem?_eq_some_iff.1 hb
  have hl:l=l.take k ++ (b :: a :: l.drop (k + 2)):=by
    rw [← e1,← e2]
    rw [List.getElem_cons_drop,List.getElem_cons_drop,List.take_append_drop]
  have hs:(l.set (k + 1) b).set k a=l.take k ++ (a :: b :: l.drop (k + 2)):=by
    have hk:(l.take k).length=k:=by rw [List.length_take];omega
    conv=>lhs;rw [hl]
    rw [List.set_append_right _ _ (by omega),hk,show k + 1 - k=1 from by omega,List.set_append_right _ _ (by omega),hk,Nat.sub_self]
    rfl
  rw [hs]
  conv=>rhs;rw [hl]
  exact List.Perm.append_left _ (List.Perm.swap _ _ _)
theorem SU {l₀:List Lch} (hl:l₀.length≤1000000) {ρ:Type} {m:Nat} (s:List Lch×Int) (hI:InsI l₀ m s):∃ s':List Lch×Int,lop (ρ:=ρ) (fun (s48:(List Lch)×Int)=>bnd (if 0 < s48.2 then (bnd (atI s48.1 s48.2) fun a72=>bnd (chkI (s48.2 - 1)) fun n85=>bnd (atI s48.1 n85) fun a88=>if a72.tm < a88.tm then (some true) else (bnd (atI s48.1 s48.2) fun a102=>bnd (chkI (s48.2 - 1)) fun n115=>bnd (atI s48.1 n115) fun a118=>if a102.tm=a118.tm then (bnd (atI s48.1 s48.2) fun a132=>bnd (chkI (s48.2 - 1)) fun n145=>bnd (atI s48.1 n145) fun a148=>if a132.job < a148.job then (some true) else (some false)) else (some false))) else (some false):Option Bool) fun y67=>if y67=true then (bnd (chkI (s48.2 - 1)) fun n167=>bnd (atI s48.1 n167) fun a170=>bnd (atI s48.1 s48.2) fun a183=>bnd (atI s48.1 s48.2) fun a196=>bnd (chkI (s48.2 - 1)) fun n209=>bnd (atI (s48.1.set (s48.2:Int).toNat a170) n209) fun a214=>bnd (chkI (s48.2 - 1)) fun n229=>some (.next (((s48.1.set (s48.2:Int).toNat a170).set (n209:Int).toNat a183),n229))) else (some (.brk (s48.1,s48.2)))) s=some (.done s')∧s'.1.Perm l₀∧(∀ (i j:Nat) a b,i < j→j≤m→s'.1[i]?=some a→s'.1[j]?=some b→¬ lexU b a):=by
  have := TH (f:=fun (s48:(List Lch)×Int)=>bnd (if 0 < s48.2 then (bnd (atI s48.1 s48.2) fun a72=>bnd (chkI (s48.2 - 1)) fun n85=>bnd (atI s48.1 n85) fun a88=>if a72.tm < a88.tm then (some true) else (bnd (atI s48.1 s48.2) fun a102=>bnd (chkI (s48.2 - 1)) fun n115=>bnd (atI s48.1 n115) fun a118=>if a102.tm=a118.tm then (bnd (atI s48.1 s48.2) fun a132=>bnd (chkI (s48.2 - 1)) fun n145=>bnd (atI s48.1 n145) fun a148=>if a132.job < a148.job then (some true) else (some false)) else (some false))) else (some false):Option Bool) fun y67=>if y67=true then (bnd (chkI (s48.2 - 1)) fun n167=>bnd (atI s48.1 n167) fun a170=>bnd (atI s48.1 s48.2) fun a183=>bnd (atI s48.1 s48.2) fun a196=>bnd (chkI (s48.2 - 1)) fun n209=>bnd (atI (s48.1.set (s48.2:Int).toNat a170) n209) fun a214=>bnd (chkI (s48.2 - 1)) fun n229=>some (.next (ρ:=ρ) (((s48.1.set (s48.2:Int).toNat a170).set (n209:Int).toNat a183),n229))) else (some (.brk (s48.1,s48.2))))
    (I := InsI l₀ m) (B:=fun s'=>s'.1.Perm l₀∧(∀ (i j:Nat) a b,i < j→j≤m→s'.1[i]?=some a→s'.1[j]?=some b→¬ lexU b a)) (R:=fun _=>False) (μ:=fun s=>s.2.toNat) (fun s h=>by
      obtain ⟨l,k'⟩:=s
      obtain ⟨hp,k,rfl,hk,hm,h1,h2⟩:=h
      simp only at hp hm h1 h2
      have hlen:l.length≤1000000:=by rw [hp.length_eq];exact hl
      cases k with
      | zero =>
        refine .inr (.inl ⟨(l,0),by simp only;rw [if_neg (by simp)];rfl,hp,fun i j a b hij hj ha hb=>?_⟩)
        by_cases hi:i=0
        · subst hi;exact h2 j a b hij hj ha hb
        · exact h1 i j a b hij hj hi (by omega) ha hb
      | succ k =>
        obtain ⟨a,ha⟩:=BB (l:=l) (k:=k + 1) (by omega)
        obtain ⟨b,hb⟩:=BB (l:=l) (k:=k) (by omega)
        have g1:atI l ((k + 1:Nat):Int)=some a:=by rw [Fx];exact ha
        have g0:chkI (((k + 1:Nat):Int) - 1)=some (k:Int):=by rw [Ba (by unfold inI64;omega)];congr 1;omega
        have g2:atI l (k:Int)=some b:=by rw [Fx];exact hb
        have key:(if 0 < ((k + 1:Nat):Int) then (bnd (atI l ((k + 1:Nat):Int)) fun a72=>bnd (chkI (((k + 1:Nat):Int) - 1)) fun n85=>bnd (atI l n85) fun a88=>if a72.tm < a88.tm then (some true) else (bnd (atI l ((k + 1:Nat):Int)) fun a102=>bnd (chkI (((k + 1:Nat):Int) - 1)) fun n115=>bnd (atI l n115) fun a118=>if a102.tm=a118.tm then (bnd (atI l ((k + 1:Nat):Int)) fun a132=>bnd (chkI (((k + 1:Nat):Int) - 1)) fun n145=>bnd (atI l n145) fun a148=>if a132.job < a148.job then (some true) else (some false)) else (some false))) else (some false):Option Bool)=some (decide (lexU a b)):=by
          rw [if_pos (by omega)]
          simp only [g1,g0,g2,Ae]
          by_cases c1:a.tm < b.tm
          · rw [if_pos c1,decide_eq_true (show lexU a b from .inl c1)]
          · rw [if_neg c1]
            by_cases c2:a.tm=b.tm
            · rw [if_pos c2]
              by_cases c3:a.job < b.job
              · rw [if_pos c3,decide_eq_true (show lexU a b from .inr ⟨c2,c3⟩)]
              · rw [if_neg c3,decide_eq_false (show ¬ lexU a b by unfold lexU;omega)]
            · rw [if_neg c2,decide_eq_false (show ¬ lexU a b by unfold lexU;omega)]
        simp only
        rw [key,Ae]
        by_cases hab:lexU a b
        · rw [decide_eq_true hab,if_pos rfl]
          have g3:atI (l.set (k + 1) b) (k:Int)=some b:=by rw [Fx,List.getElem?_set_ne (by omega)];exact hb
          refine .inl ⟨((l.set (k + 1) b).set k a,(k:Int)),by simp only [g0,g1,g2,Ae,Int.toNat_natCast,g3],⟨(RI ha hb).trans hp,k,rfl,by omega,by simp;omega,?_,?_⟩,by simp⟩
          · intro i j x y hij hj hik hjk hx hy
            simp only at hx hy
            rw [List.getElem?_set_ne (Ne.symm hik)] at hx
            rw [List.getElem?_set_ne (Ne.symm hjk)] at hy
            by_cases hi1:i=k + 1
            · subst hi1
              rw [List.getElem?_set_self (by omega)] at hx
              rw [List.getElem?_set_ne (by omega)] at hy
              cases hx
              exact h1 k j b y (by omega) hj (by omega) (by omega) hb hy
            · rw [List.getElem?_set_ne (Ne.symm hi1)] at hx
              by_cases hj1:j=k + 1
              · subst hj1
                rw [List.getElem?_set_self (by omega)] at hy
                cases hy
                exact h1 i k x b (by omega) (by omega) hi1 (by omega) hx hb
              · rw [List.getElem?_set_ne (Ne.symm hj1)] at hy
                exact h1 i j x y hij hj hi1 hj1 hx hy
          · intro j x y hkj hj hx hy
            simp only at hx hy
            rw [List.getElem?_set_self (by simp;omega)] at hx
            rw [List.getElem?_set_ne (by omega)] at hy
            cases hx
            by_cases hj1:j=k + 1
            · subst hj1
              rw [List.getElem?_set_self (by omega)] at hy
              cases hy
              exact Uk hab
            · rw [List.getElem?_set_ne (Ne.symm hj1)] at hy
              exact h2 j a y (by omega) hj ha hy
        · rw [decide_eq_false hab,if_neg (by decide)]
          refine .inr (.inl ⟨(l,((k + 1:Nat):Int)),rfl,hp,fun i j x y hij hj hx hy=>?_⟩)
          simp only at hx hy
          by_cases hi1:i=k + 1
          · subst hi1;exact h2 j x y hij hj hx hy
          · by_cases hj1:j=k + 1
            · subst hj1
              rw [ha] at hy;cases hy
              by_cases hik:i=k
              · subst hik;rw [hb] at hx;cases hx;exact hab
              · exact QQ (h1 i k x b (by omega) (by omega) hi1 (by omega) hx hb) hab
            · exact h1 i j x y hij hj hi1 hj1 hx hy) s hI
  rcases this with ⟨s',h1,h2⟩|⟨_,_,h⟩
  · exact ⟨s',h1,h2⟩
  · exact h.elim
theorem RJ {l:List Lch} (hl:l.length≤1000000):FA l=some (srtU l):=by
  unfold FA
  rw [Bb (by simp;omega) (by simp;omega),Ae,List.nil_append]
  unfold rngN
  refine TI (I:=fun m (s:List Lch)=>s.Perm l∧∀ (i j:Nat) a b,i < j→j < m→s[i]?=some a→s[j]?=some b→¬ lexU b a) ⟨.refl _,fun i j a b h1 h2=>by omega⟩ (fun m x s hx ⟨h1,h2⟩=>?_) fun s ⟨h1,h2⟩=>?_
  · have hm:m < l.length:=by have:=Bl hx;simpa using this
    have hxm:x=m:=by
      obtain ⟨_,e⟩:=List.getElem?_eq_some_iff.1 hx
      simpa using e.symm
    subst hxm
    obtain ⟨s',g1,g2,g3⟩:=SU (ρ:=Ctl (List Lch) (List Lch)) hl (m:=x) (s,(x:Int)) ⟨h1,x,rfl,Nat.le_refl _,by rw [h1.length_eq];exact hm,fun i j a b hij hj _ hjk ha hb=>h2 i j a b hij (by omega) ha hb,fun j a b h3 h4=>by omega⟩
    refine ⟨s'.1,?_,g2,fun i j a b hij hj ha hb=>g3 i j a b hij (by omega) ha hb⟩
    dsimp only
    rw [g1,Ae,BH]
  · rw [BH]
    congr 1
    refine (Qk h1.symm ?_).symm
    rw [List.pairwise_iff_getElem]
    intro i j hi hj hij
    exact h2 i j _ _ hij (by have:=h1.length_eq;simp;omega) (List.getElem?_eq_getElem hi) (List.getElem?_eq_getElem hj)
end
section
open Go Go.RowKit
def lchL (n2 la:Int):Int→List Int→List Lch
  | _,[]=>[]
  | now,op :: p=>if op < n2∧op % 2=0 then ⟨now,op / 2⟩ :: lchL n2 la now p else if op=la then lchL n2 la (now + 1) p else lchL n2 la now p
def nowL (n2 la:Int):Int→List Int→Int
  | now,[]=>now
  | now,op :: p=>if op < n2∧op % 2=0 then nowL n2 la now p else if op=la then nowL n2 la (now + 1) p else nowL n2 la now p
section
variable {n2 la now op : Int} {p : List Int}
theorem lchS (h:op < n2∧op % 2=0):lchL n2 la now (op :: p)=⟨now,op / 2⟩ :: lchL n2 la now p∧nowL n2 la now (op :: p)=nowL n2 la now p:=⟨by rw [lchL,if_pos h],by rw [nowL,if_pos h]⟩
theorem lchA (h:¬ (op < n2∧op % 2=0)) (e:op=la):lchL n2 la now (op :: p)=lchL n2 la (now + 1) p∧nowL n2 la now (op :: p)=nowL n2 la (now + 1) p:=⟨by rw [lchL,if_neg h,if_pos e],by rw [nowL,if_neg h,if_pos e]⟩
theorem lchN (h:¬ (op < n2∧op % 2=0)) (e:op≠la):lchL n2 la now (op :: p)=lchL n2 la now p∧nowL n2 la now (op :: p)=nowL n2 la now p:=⟨by rw [lchL,if_neg h,if_neg e],by rw [nowL,if_neg h,if_neg e]⟩
end
theorem IL (n2 la:Int):∀ (p q:List Int) (now:Int),lchL n2 la now (p ++ q)=lchL n2 la now p ++ lchL n2 la (nowL n2 la now p) q
  | [],_,_=>rfl
  | op :: p,q,now=>by
    rw [List.cons_append,lchL,lchL,nowL]
    split
    · rw [IL,List.cons_append]
    · split<;>rw [IL]
theorem Mv (n2 la:Int):∀ (p q:List Int) (now:Int),nowL n2 la now (p ++ q)=nowL n2 la (nowL n2 la now p) q
  | [],_,_=>rfl
  | op :: p,q,now=>by
    rw [List.cons_append,nowL,nowL]
    split
    · rw [Mv]
    · split<;>rw [Mv]
theorem Kt (n2 la:Int):∀ (p:List Int) (now:Int),(lchL n2 la now p).length≤p.length
  | [],_=>Nat.le_refl _
  | op :: p,now=>by
    rw [lchL]
    split
    · have:=Kt n2 la p now;simp;omega
    · split
      · have:=Kt n2 la p (now + 1);simp;omega
      · have:=Kt n2 la p now;simp;omega
section
variable {t : Tpl} {u : Tsk}
def lchF {ρ:Type} (t:Tpl) (u:Tsk):Nat→Int→(List Lch)×Int→Option (Ctl ((List Lch)×Int) ρ):=fun (k88:Nat) (a89:Int) (s86:(List Lch)×Int)=>bnd (bnd (chkI (2 * (t.jobs.length:Int))) fun n119=>if a89 < n119 then (bnd (remI a89 2) fun n123=>if n123=0 then (some true) else (some false)) else (some false):Option Bool) fun y113=>if y113=true then (bnd (quoI a89 2) fun n132=>bnd (appI 16 s86.1 [(⟨s86.2,n132⟩:Lch)]) fun u135=>some (.next (u135,s86.2))) else (bnd (chkI ((u.ops.length:Int) - 1)) fun n149=>if a89=n149 then (bnd (chkI (s86.2 + 1)) fun n153=>some (.next (s86.1,n153))) else (some (.next (s86.1,s86.2))))
theorem Ul {ρ:Type} (hj:t.jobs.length≤30) (hu:u.ops.length≤4096) (k:Nat) {op:Int} (h0:0≤op) {acc:List Lch} {now:Int} (hn:0≤now) (hb:now≤1000000) (ha:acc.length≤1000000) :
    lchF (ρ:=ρ) t u k op (acc,now)=some (.next (if op < 2 * (t.jobs.length:Int)∧op % 2=0 then (acc ++ [⟨now,op / 2⟩],now) else if op=(u.ops.length:Int) - 1 then (acc,now + 1) else (acc,now))):=by
  unfold lchF
  rw [Ba (by unfold inI64;omega),Ae,Tu h0 (by omega),Ae,Tw h0 (by omega),Ae]
  by_cases h1:op < 2 * (t.jobs.length:Int)
  · rw [if_pos h1]
    by_cases h2:op % 2=0
    · rw [if_pos h2,Ae,if_pos rfl,if_pos ⟨h1,h2⟩]
      dsimp only
      rw [Bb (by simp;omega) (by simp;omega),Ae]
    · rw [if_neg h2,Ae,if_neg (by decide),Ba (by unfold inI64;omega),Ae,if_neg (fun h:op < 2 * (t.jobs.length:Int)∧op % 2=0=>h2 h.2)]
      dsimp only
      by_cases h3:op=(u.ops.length:Int) - 1
      · rw [if_pos h3,if_pos h3,Ba (by unfold inI64;omega),Ae]
      · rw [if_neg h3,if_neg h3]
  · rw [if_neg h1,Ae,if_neg (by decide),Ba (by unfold inI64;omega),Ae,if_neg (fun h:op < 2 * (t.jobs.length:Int)∧op % 2=0=>h1 h.1)]
    dsimp only
    by_cases h3:op=(u.ops.length:Int) - 1
    · rw [if_pos h3,if_pos h3,Ba (by unfold inI64;omega),Ae]
    · rw [if_neg h3,if_neg h3]
theorem Ku {ρ:Type} (hj:t.jobs.length≤30) (hu:u.ops.length≤4096):∀ (p:List Int) (j:Nat) (acc:List Lch) (now:Int),(∀ op∈p,0≤op)→0≤now→now + p.length≤1000000→acc.length + p.length≤1000000 →
    rng (lchF (ρ:=ρ) t u) p j (acc,now)=some (.done (acc ++ lchL (2 * (t.jobs.length:Int)) ((u.ops.length:Int) - 1) now p,nowL (2 * (t.jobs.length:Int)) ((u.ops.length:Int) - 1) now p))
  | [],j,acc,now,_,_,_,_=>by rw [rng,lchL,nowL,List.append_nil]
  | op :: p,j,acc,now,h,hn,hb,ha=>by
    have h0:=h op List.mem_cons_self
    have hp:=fun o ho=>h o (List.mem_cons_of_mem op ho)
    simp only [List.length_cons] at hb ha
    rw [rng,Ul hj hu j h0 hn (by omega) (by omega),lchL,nowL]
    by_cases h1:op < 2 * (t.jobs.length:Int)∧op % 2=0
    · rw [if_pos h1,if_pos h1,if_pos h1]
      dsimp only
      rw [Ku hj hu p (j + 1) _ now hp hn (by omega) (by simp;omega)]
      simp
    · rw [if_neg h1,if_neg h1,if_neg h1]
      by_cases h3:op=(u.ops.length:Int) - 1
      · rw [if_pos h3,if_pos h3,if_pos h3]
        dsimp only
        rw [Ku hj hu p (j + 1) acc (now + 1) hp (by omega) (by omega) (by omega)]
      · rw [if_neg h3,if_neg h3,if_neg h3]
        dsimp only
        rw [Ku hj hu p (j + 1) acc now hp hn (by omega) (by omega)]
theorem Oc {t:Tsk} (h:TaskOk t):∀ (plan:List Int) (j:Nat) (s:List Int) (c:Int),StateOk t.vars s→0≤c→c + plan.length * 1048576≤1000000000000000 →
    (∃ s' C,rng (ρ:=(List Int)×Int×Err) (fun (_:Nat) (a63:Int) (s60:(List Int)×Int)=>bnd (Dl t s60.1 a63) fun q87=>if q87.2.n≠0 then (some (.ret (([]:List Int),0,(⟨q87.2.n⟩:Err)))) else (bnd (atI t.ops a63) fun a102=>bnd (chkI (s60.2 + a102.cost)) fun n123=>some (.next (q87.1,n123)))) plan j (s,c)=some (.done (s',c + C))∧PlanR t s plan s' C) ∨
    ∃ n:Int,n≠0∧rng (ρ:=(List Int)×Int×Err) (fun (_:Nat) (a63:Int) (s60:(List Int)×Int)=>bnd (Dl t s60.1 a63) fun q87=>if q87.2.n≠0 then (some (.ret (([]:List Int),0,(⟨q87.2.n⟩:Err)))) else (bnd (atI t.ops a63) fun a102=>bnd (chkI (s60.2 + a102.cost)) fun n123=>some (.next (q87.1,n123)))) plan j (s,c)=some (.ret ([],0,⟨n⟩))
  | [],j,s,c,_,_,_=>.inl ⟨s,0,by simp [rng],.nil⟩
  | op :: plan,j,s,c,hs,hc,hb=>by
    simp only [List.length_cons] at hb
    rcases tapply h hs op with ⟨k,o,rfl,ho,hp,e⟩|⟨n,hn,e⟩
    · have hoo:=h.2.2.2.2.2 k o ho
      have h1:=hoo.1
      have h2:=hoo.2.1
      have e2:(bnd (Dl t s (k:Int)) fun q87=>if q87.2.n≠0 then (some (.ret (([]:List Int),0,(⟨q87.2.n⟩:Err)))) else (bnd (atI t.ops (k:Int)) fun a102=>bnd (chkI (c + a102.cost)) fun n123=>some (.next (q87.1,n123))):Option (Ctl (List Int×Int) (List Int×Int×Err)))=some (.next (Go.Proofs.YtjohlgjklmagnaaGreatDoor.succ o s,c + o.cost)):=by
        rw [e,Ae,if_neg (by simp),Fx,ho,Ae,Ba (by unfold inI64;omega),Ae]
      rcases Oc h plan (j + 1) (Go.Proofs.YtjohlgjklmagnaaGreatDoor.succ o s) (c + o.cost) (Nq h hs ho) (by omega) (by omega) with ⟨s',C,g1,g2⟩|⟨n,hn,g1⟩
      · refine .inl ⟨s',o.cost + C,?_,.cons ho hp g2⟩
        simp only [rng,e2]
        rw [g1,Int.add_assoc]
      · refine .inr ⟨n,hn,?_⟩
        simp only [rng,e2]
        rw [g1]
    · refine .inr ⟨n,hn,?_⟩
      simp only [rng]
      rw [e,Ae,if_pos hn]
theorem Um {t:Tsk} (h:TaskOk t) {plan:List Int} (hl:plan.length≤60000):(∃ s' C,PlanR t t.init plan s' C∧Es t t.init plan=some (s',C,⟨0⟩))∨∃ (n:Int),n≠0∧Es t t.init plan=some ([],0,⟨n⟩):=by
  unfold Es DM CT
  have hs:=h.2.2.2.1
  have hc:Bw t.init=some t.init:=if_pos ⟨by have:=hs.1;have:=h.1;omega,by have:=hs.1;have:=h.1;omega⟩
  rw [Ae,if_neg (by rw [FR.2 h];simp),Ae,Da hs,EG,if_neg (by omega),hc,Ae]
  rcases Oc h plan 0 t.init 0 hs (by omega) (by omega) with ⟨s',C,g1,g2⟩|⟨n,hn,g1⟩
  · rw [g1,Ae,BH]
    refine .inl ⟨s',C,g2,?_⟩
    rw [Int.zero_add]
  · exact .inr ⟨n,hn,by rw [g1,Ae];rfl⟩
theorem SV {t:Tsk} (h:TaskOk t) {s plan s':List Int} {C:Int} (hs:StateOk t.vars s) (hr:PlanR t s plan s' C) (hl:plan.length≤60000):GN t s plan=some (C,holdsB t.goal s'):=by
  unfold GN
  rw [Rk h hr 0 0 hs (by omega) (by omega),Ae,BH,Ka,Ae,Int.zero_add]
  cases holdsB t.goal s'<;>rfl
theorem SW {t:Tsk} {s p s':List Int} {C:Int} (h:PlanR t s p s' C):∀ op∈p,0≤op:=by
  induction h with
  | nil=>intro op h;cases h
  | cons _ _ _ ih =>
    intro op ho
    rcases List.mem_cons.1 ho with rfl|ho
    · omega
    · exact ih op ho
theorem PE (h0:tck t=0) (hnm:∀ j∈t.jobs,j.name.size≤300) (hc:checkN (cTask t)=0) {plan:List Int} (hl:plan.length≤60000) :
    (∃ s' C,PlanR (cTask t) (cTask t).init plan s' C∧Es (cTask t) (cTask t).init plan=some (s',C,⟨0⟩)∧DD t plan=some (srtU (lchL (2 * (t.jobs.length:Int)) (((cTask t).ops.length:Int) - 1) 0 plan),⟨0⟩)) ∨
    ∃ n:Int,n≠0∧Es (cTask t) (cTask t).init plan=some ([],0,⟨n⟩)∧DD t plan=some ([],⟨n⟩):=by
  have hok:=FR.1 hc
  have ht:=JA h0
  have hj:=ht.nj
  unfold DD
  rw [Ks h0 hnm,if_neg (by simpa using hc),Ae]
  dsimp only
  rw [if_neg (by simp)]
  rcases Um hok hl with ⟨s',C,g1,g2⟩|⟨n,hn,g1⟩
  · refine .inl ⟨s',C,g1,g2,?_⟩
    rw [g2,Ae]
    dsimp only
    rw [if_neg (by simp)]
    have hL:=Ku (ρ:=(List Lch)×Err) (t:=t) (u:=cTask t) (by omega) hok.2.1 plan 0 [] 0 (SW g1) (by omega) (by omega) (by simp;omega)
    unfold lchF at hL
    rw [hL,Ae,BH]
    dsimp only
    rw [List.nil_append,Oa (by have:=Kt (2 * (t.jobs.length:Int)) (((cTask t).ops.length:Int) - 1) plan 0;omega),Ae]
  · refine .inr ⟨n,hn,g1,?_⟩
    rw [g1,Ae]
    dsimp only
    rw [if_pos hn]
def lst (t:Tpl):Int:=((wNo t t.jobs.length:Nat):Int)
theorem Ve {h:Hh} (hi:h.1 < t.jobs.length):hNoI h < 2 * (t.jobs.length:Int):=by
  unfold hNoI hNo;split<;>omega
theorem Pn:2 * (t.jobs.length:Int) < lst t:=by unfold lst wNo;omega
theorem Lq:∀ (b:List Hh) (now:Nat),(∀ h∈b,h.1 < t.jobs.length)→lchL (2 * (t.jobs.length:Int)) (lst t) (now:Int) (b.map hNoI)=(b.filter fun h=>!h.2).map (fun h=>(⟨(now:Int),(h.1:Int)⟩:Lch))∧nowL (2 * (t.jobs.length:Int)) (lst t) (now:Int) (b.map hNoI)=(now:Int)
  | [],now,_=>⟨rfl,rfl⟩
  | h :: b,now,hb=>by
    obtain ⟨i1,i2⟩:=Lq b now fun g hg=>hb g (List.mem_cons_of_mem _ hg)
    have hlt:=Ve (hb h List.mem_cons_self)
    have hge:=Pn (t:=t)
    rw [List.map_cons,List.filter_cons]
    obtain ⟨i,e⟩:=h
    cases e
    · have e1:hNoI (i,false) % 2=0:=by unfold hNoI hNo;simp
      have e2:hNoI (i,false) / 2=(i:Int):=by unfold hNoI hNo;simp
      obtain ⟨g1,g2⟩:=lchS (la:=lst t) (now:=(now:Int)) (p:=b.map hNoI) ⟨hlt,e1⟩
      rw [g1,g2,i1,i2,e2]
      exact ⟨rfl,rfl⟩
    · have e1:¬ hNoI (i,true) % 2=0:=by unfold hNoI hNo;simp
      obtain ⟨g1,g2⟩:=lchN (la:=lst t) (now:=(now:Int)) (p:=b.map hNoI) (fun h:hNoI (i,true) < 2 * (t.jobs.length:Int)∧_=>e1 h.2) (by omega)
      rw [g1,g2,i1,i2]
      exact ⟨rfl,rfl⟩
theorem Po {n2 la:Int}:∀ {p:List Int} {now:Int},(∀ op∈p,n2≤op∧op≠la)→lchL n2 la now p=[]∧nowL n2 la now p=now
  | [],_,_=>⟨rfl,rfl⟩
  | op :: p,now,h=>by
    obtain ⟨h1,h2⟩:=h op List.mem_cons_self
    obtain ⟨i1,i2⟩:=Po (now:=now) fun o ho=>h o (List.mem_cons_of_mem op ho)
    obtain ⟨g1,g2⟩:=lchN (la:=la) (now:=now) (p:=p) (fun h:op < n2∧op % 2=0=>by omega) h2
    rw [g1,g2]
    exact ⟨i1,i2⟩
theorem RK {s:List Int} {q:Nat→Int} (hp:Pass t s q) (now:Int):lchL (2 * (t.jobs.length:Int)) (lst t) now (passP t q)=[]∧nowL (2 * (t.jobs.length:Int)) (lst t) now (passP t q)=now + 1:=by
  have hge:=Pn (t:=t)
  unfold passP
  have hw:∀ op∈waitsP t q 0 t.jobs.length,2 * (t.jobs.length:Int)≤op∧op≠lst t:=fun op ho=>by
    unfold waitsP at ho
    obtain ⟨i,hi,rfl⟩:=List.mem_map.1 ho
    have hi:i < t.jobs.length:=by have:=List.mem_range'.1 hi;omega
    obtain ⟨h1,h2,_⟩:=hp.2 i hi
    have h3:=MS t (a:=i + 1) (b:=t.jobs.length) (by omega)
    rw [Hn] at h3
    unfold lst wNo
    constructor<;>omega
  obtain ⟨w1,w2⟩:=Po (now:=now) hw
  have hl:((wNo t t.jobs.length:Nat):Int)=lst t:=rfl
  obtain ⟨g1,g2⟩:=lchN (n2:=2 * (t.jobs.length:Int)) (la:=lst t) (now:=now) (op:=((2 * t.jobs.length:Nat):Int)) (p:=waitsP t q 0 t.jobs.length ++ [((wNo t t.jobs.length:Nat):Int)]) (fun h=>by omega) (by omega)
  obtain ⟨k1,k2⟩:=lchA (n2:=2 * (t.jobs.length:Int)) (la:=lst t) (now:=now) (op:=((wNo t t.jobs.length:Nat):Int)) (p:=[]) (fun h=>by omega) hl
  rw [g1,g2,IL,Mv,w1,w2,k1,k2]
  exact ⟨rfl,rfl⟩
theorem Un {s:List Int} {q:Nat→Int} {b:List Hh} {bs:List (List Hh)} {s':List Int} {q':Nat→Int} (h:Trc t s q b bs s' q'):∀ now:Nat,lchL (2 * (t.jobs.length:Int)) (lst t) (now:Int) (pl t q b bs)=lau now (b :: bs):=by
  induction h with
  | @last s q b hb =>
    intro now
    unfold pl plR
    rw [List.append_nil,(Lq b now hb.jobs).1]
    simp [lau]
  | @more s q b b' bs s' q' hb hp _ ih =>
    intro now
    obtain ⟨h1,h2⟩:=Lq b now hb.jobs
    obtain ⟨p1,p2⟩:=RK hp (now:Int)
    unfold pl
    rw [plR,IL,h1,h2,IL,p1,p2,List.nil_append]
    rw [show (now:Int) + 1=((now + 1:Nat):Int) from by omega]
    have:=ih (now + 1)
    unfold pl at this
    rw [this]
    rfl
theorem Kv (h:0 < t.jobs.length):((cTask t).ops.length:Int) - 1=lst t:=by
  unfold cTask lst
  dsimp only
  rw [List.length_map,So t h];omega
theorem Od:∀ {bs:List (List Hh)} {τ:Nat},(∀ b∈bs,b.Nodup)→(lau τ bs).Nodup
  | [],_,_=>by simp [lau]
  | b :: bs,τ,h=>by
    rw [lau,List.nodup_append]
    refine ⟨?_,Od fun b' hb'=>h b' (List.mem_cons_of_mem _ hb'),fun x hx y hy e=>?_⟩
    · unfold List.Nodup
      rw [List.pairwise_map]
      refine List.Pairwise.imp_of_mem (fun {a c} ha hc hne e=>?_) (List.Pairwise.filter (fun h=>!h.2) (h b List.mem_cons_self))
      have h1:=(List.mem_filter.1 ha).2
      have h2:=(List.mem_filter.1 hc).2
      obtain ⟨a1,a2⟩:=a
      obtain ⟨c1,c2⟩:=c
      injection e with _ e
      have:a1=c1:=by simp only at e;omega
      subst this
      have e1:a2=false:=by simpa using h1
      have e2:c2=false:=by simpa using h2
      subst e1;subst e2
      exact hne rfl
    · obtain ⟨g,_,rfl⟩:=List.mem_map.1 hx
      have:=UQ hy
      rw [← e] at this
      simp only at this
      omega
theorem Trc.blocks {s:List Int} {q:Nat→Int} {b:List Hh} {bs:List (List Hh)} {s':List Int} {q':Nat→Int} (h:Trc t s q b bs s' q'):∀ c∈b :: bs,c.Nodup∧∀ x∈c,x.1 < t.jobs.length:=by
  induction h with
  | @last s q b hb =>
    intro c hc
    have:c=b:=by simpa using hc
    subst this;exact ⟨hb.nodup,hb.jobs⟩
  | more hb _ _ ih =>
    intro c hc
    rcases List.mem_cons.1 hc with rfl|hc
    · exact ⟨hb.nodup,hb.jobs⟩
    · exact ih c hc
end
end
section
open Go Go.RowKit
theorem SX (l:List Lch):(srtU l).length=l.length:=DF l
theorem QR (l:List Lch):FX l l=some true:=by
  unfold FX
  rw [if_neg (by simp)]
  rw [CF (fun _=>()) (by rfl) (fun k x hk=>by
    rw [hk,Ae,if_neg (by simp)])]
  rfl
theorem RL (n:Int):GC ⟨n⟩=some n:=rfl
theorem PF {t:Tpl} (hj:t.jobs.length≤30) (hnm:∀ j∈t.jobs,j.name.size≤300):(tck t=0∧checkN (cTask t)=0∧BN t=some (cTask t,⟨0⟩))∨∃ n:Int,n≠0∧BN t=some (⟨[],[],[],[]⟩,⟨n⟩):=by
  by_cases h0:tck t=0
  · have:=Ks h0 hnm
    by_cases hc:checkN (cTask t)=0
    · rw [if_neg (by simpa using hc)] at this
      exact .inl ⟨h0,hc,this⟩
    · rw [if_pos hc] at this
      exact .inr ⟨_,hc,this⟩
  · refine .inr ⟨tck t,h0,?_⟩
    unfold BN
    rw [HZ hj,Ae,if_pos h0]
end
section
open Go Go.RowKit
section
variable {t : Tpl} {l : List Lch}
def outP (t:Tpl) (l:List Lch):Nat→List Int
  | 0=>[]
  | k + 1=>outP t l k ++ ((blk t l k).map hNoI ++ passP t (stA t (qsV t l k) (blk t l k)))
theorem Pp:∀ (m τ:Nat),outP t l τ ++ ((blk t l τ).map hNoI ++ plR t (stA t (qsV t l τ) (blk t l τ)) (blks t l (τ + 1) m))=outP t l (τ + m) ++ (blk t l (τ + m)).map hNoI
  | 0,τ=>by unfold blks;rw [List.range'_zero,List.map_nil,plR,List.append_nil,Nat.add_zero]
  | m + 1,τ=>by
    have ih:=Pp m (τ + 1)
    rw [show τ + (m + 1)=τ + 1 + m from by omega,← ih]
    unfold blks
    rw [List.range'_succ,List.map_cons,plR]
    rw [outP]
    simp only [List.append_assoc]
    rfl
theorem Ji (M:Nat):planV t l M=outP t l M ++ (blk t l M).map hNoI:=by
  have:=Pp (t:=t) (l:=l) M 0
  simp only [Nat.zero_add] at this
  rw [← this]
  rfl
instance:DecidableEq Lch:=fun a b=>decidable_of_iff (a.tm=b.tm∧a.job=b.job) (by
  obtain ⟨p,q⟩:=a
  obtain ⟨r,s⟩:=b
  simp)
theorem PG (l:List Lch) (x:Lch):Br l x=some (decide (x∈l)):=by
  unfold Br BR
  have h:∀ a:Lch,(x.tm=a.tm∧x.job=a.job)↔x=a:=fun a=>by
    obtain ⟨p,q⟩:=x
    obtain ⟨r,s⟩:=a
    simp
  rw [Gs (fun a:Lch=>decide (x=a)) fun k a hk=>by
    by_cases hx:x=a
    · rw [if_pos ((h a).2 hx),if_pos (decide_eq_true hx)]
    · rw [if_neg (fun hh=>hx ((h a).1 hh)),if_neg (by simpa using hx)]]
  congr 1
  rw [Bool.eq_iff_iff,List.any_eq_true,decide_eq_true_eq]
  constructor
  · rintro ⟨a,ha,e⟩
    rw [of_decide_eq_true e];exact ha
  · intro hx
    exact ⟨x,hx,decide_eq_true rfl⟩
theorem Pq {H:List Hh} (hd:H.Nodup) (a:Hh):(H.filter fun h=>decide (h=a))=if a∈H then [a] else []:=by
  induction H with
  | nil=>simp
  | cons x H ih =>
    rw [List.nodup_cons] at hd
    rw [List.filter_cons,ih hd.2]
    by_cases hx:x=a
    · subst hx
      rw [if_pos (by simp),if_neg hd.1,if_pos List.mem_cons_self]
    · rw [if_neg (by simpa using hx)]
      by_cases ha:a∈H
      · rw [if_pos ha,if_pos (List.mem_cons_of_mem _ ha)]
      · rw [if_neg ha,if_neg (fun hm=>(List.mem_cons.1 hm).elim (fun e=>hx e.symm) ha)]
def endsL (t:Tpl) (l:List Lch) (τ:Nat) (n:Nat):List Int:=(List.range n).flatMap fun i=>if (i,true)∈hapA t l τ then [2 * (i:Int) + 1] else []
def stsL (t:Tpl) (l:List Lch) (τ:Nat) (n:Nat):List Int:=(List.range n).flatMap fun i=>if (i,false)∈hapA t l τ then [2 * (i:Int)] else []
theorem NA {τ:Nat} (hd:(hapA t l τ).Nodup):(blk t l τ).map hNoI=endsL t l τ t.jobs.length ++ stsL t l τ t.jobs.length:=by
  unfold blk cano endsL stsL
  rw [List.flatMap_cons,List.flatMap_cons,List.flatMap_nil,List.append_nil,List.map_append,List.map_flatMap,List.map_flatMap]
  congr 1
  · refine congrArg (fun f=>List.flatMap f _) (funext fun i=>?_)
    rw [Pq hd]
    split
    · unfold hNoI hNo;simp
    · rfl
  · refine congrArg (fun f=>List.flatMap f _) (funext fun i=>?_)
    rw [Pq hd]
    split
    · unfold hNoI hNo;simp
    · rfl
theorem Nd (τ n:Nat):endsL t l τ (n + 1)=endsL t l τ n ++ (if (n,true)∈hapA t l τ then [2 * (n:Int) + 1] else []):=by
  unfold endsL;rw [List.range_succ,List.flatMap_append];simp
theorem Oe (τ n:Nat):stsL t l τ (n + 1)=stsL t l τ n ++ (if (n,false)∈hapA t l τ then [2 * (n:Int)] else []):=by
  unfold stsL;rw [List.range_succ,List.flatMap_append];simp
theorem Jj (τ:Nat):∀ n,(endsL t l τ n).length≤n
  | 0=>by simp [endsL]
  | n + 1=>by
    have:=Jj τ n
    rw [Nd,List.length_append]
    split<;>simp<;>omega
theorem Mw (τ:Nat):∀ n,(stsL t l τ n).length≤n
  | 0=>by simp [stsL]
  | n + 1=>by
    have:=Mw τ n
    rw [Oe,List.length_append]
    split<;>simp<;>omega
theorem Vf:∀ {a b:List Int},a.Pairwise (· < ·)→b.Pairwise (· < ·)→(∀ x,x∈a↔x∈b)→a=b:=fun {a b} ha hb h=>by
  have na:a.Nodup:=ha.imp fun hh=>Int.ne_of_lt hh
  have nb:b.Nodup:=hb.imp fun hh=>Int.ne_of_lt hh
  exact HQ (ha.imp fun hh=>Int.le_of_lt hh) (hb.imp fun hh=>Int.le_of_lt hh) ((List.perm_ext_iff_of_nodup na nb).2 h)
theorem Pr {τ n:Nat} {x:Int}:x∈stsL t l τ n↔∃ i,i < n∧(i,false)∈hapA t l τ∧x=2 * (i:Int):=by
  unfold stsL
  simp only [List.mem_flatMap,List.mem_range]
  constructor
  · rintro ⟨i,hi,hx⟩
    split at hx
    · rename_i h;exact ⟨i,hi,h,by simpa using hx⟩
    · cases hx
  · rintro ⟨i,hi,h,rfl⟩
    exact ⟨i,hi,by rw [if_pos h];simp⟩
theorem LP (τ:Nat):∀ n,(stsL t l τ n).Pairwise (· < ·)
  | 0=>by simp [stsL]
  | n + 1=>by
    rw [Oe,List.pairwise_append]
    refine ⟨LP τ n,by split<;>simp,fun x hx y hy=>?_⟩
    obtain ⟨i,hi,_,rfl⟩:=Pr.1 hx
    split at hy
    · have:y=2 * (n:Int):=by simpa using hy
      omega
    · cases hy
theorem RM (h:VOk t l) (τ:Nat):((srtU l).filter fun x=>decide (x.tm=(τ:Int))).map (fun x=>2 * x.job)=stsL t l τ t.jobs.length:=by
  refine Vf ?_ (LP τ _) fun y=>?_
  · rw [List.pairwise_map]
    have hs:=HU l
    have hn:(srtU l).Nodup:=(ED l).nodup_iff.2 h.nd
    refine List.Pairwise.imp_of_mem (fun {a b} ha hb hh=>?_) (List.Pairwise.filter _ (List.Pairwise.imp₂ (fun a b h1 h2=>And.intro h1 h2) hs hn))
    have e1:=of_decide_eq_true (List.mem_filter.1 ha).2
    have e2:=of_decide_eq_true (List.mem_filter.1 hb).2
    obtain ⟨g1,g2⟩:=hh
    have:a.job≠b.job:=fun e=>g2 (by
      obtain ⟨p,q⟩:=a
      obtain ⟨r,s⟩:=b
      simp only at e e1 e2
      rw [e,e1,e2])
    unfold lexU at g1
    omega
  · rw [List.mem_map,Pr]
    constructor
    · rintro ⟨x,hx,rfl⟩
      obtain ⟨h1,h2⟩:=List.mem_filter.1 hx
      have hx:=(ED l).mem_iff.1 h1
      have:=h.rng x hx
      refine ⟨x.job.toNat,by omega,CY.2 ⟨x,hx,rfl,?_⟩,by omega⟩
      simpa using h2
    · rintro ⟨i,hi,h1,rfl⟩
      obtain ⟨x,hx,e1,e2⟩:=CY.1 h1
      have:=h.rng x hx
      refine ⟨x,List.mem_filter.2 ⟨(ED l).mem_iff.2 hx,by simpa using e2⟩,?_⟩
      simp only at e1
      omega
def lfc (d c:Int):Int:=if c=d + 1 then 0 else c
def firstL (t:Tpl) (n:Nat):List Int:=(List.range n).map fun i=>((wNo t i:Nat):Int)
def leftB (t:Tpl) (l:List Lch) (τ:Nat):List Int:=(List.range t.jobs.length).map fun i=>lfc (jb t i).dur (qsV t l τ i)
def leftA (t:Tpl) (l:List Lch) (τ:Nat):List Int:=(List.range t.jobs.length).map fun i=>stA t (qsV t l τ) (blk t l τ) i
def wtr (t:Tpl) (left out:List Int):Wtr:=⟨t,firstL t t.jobs.length,lst t,left,out⟩
theorem RN (q:Nat→Int):(passP t q).length=t.jobs.length + 2:=by unfold passP waitsP;simp
theorem JO {τ:Nat} (hd:(hapA t l τ).Nodup):(blk t l τ).length≤2 * t.jobs.length:=by
  have:=congrArg List.length (NA hd)
  rw [List.length_map,List.length_append] at this
  have:=Jj (t:=t) (l:=l) τ t.jobs.length
  have:=Mw (t:=t) (l:=l) τ t.jobs.length
  omega
theorem IM (ht:TplOk t) (h:VOk t l):∀ k,(outP t l k).length≤80 * k
  | 0=>by simp [outP]
  | k + 1=>by
    have:=IM ht h k
    have:=JO (t:=t) (l:=l) (τ:=k) (Fj ht h.rng h.nd (h.novs (k + 1)))
    have:=ht.nj
    rw [outP,List.length_append,List.length_append,List.length_map,RN]
    omega
theorem NB (ht:TplOk t) (h:VOk t l) (τ i:Nat) (hi:i < t.jobs.length):0≤stA t (qsV t l τ) (blk t l τ) i∧stA t (qsV t l τ) (blk t l τ) i≤(jb t i).dur:=by
  have:=OZ ht h (by omega) τ
  exact ⟨(this.2 i hi).1,(this.2 i hi).2.1⟩
theorem SY (ht:TplOk t) (h:VOk t l) (τ i:Nat) (hi:i < t.jobs.length):(if ∃ x∈l,x.tm=(τ:Int)∧x.job=(i:Int) then (jb t i).dur else lfc (jb t i).dur (qsV t l τ i))=stA t (qsV t l τ) (blk t l τ) i:=by
  obtain ⟨hq,hb,hm⟩:=IG ht h τ
  have hd:=ht.dur i
  have hst:(i,false)∈blk t l τ↔∃ x∈l,x.tm=(τ:Int)∧x.job=(i:Int):=by
    rw [Ga h,CY]
    constructor
    · rintro ⟨x,hx,e1,e2⟩
      have:=h.rng x hx
      exact ⟨x,hx,by simpa using e2,by simp only at e1;omega⟩
    · rintro ⟨x,hx,e1,e2⟩
      exact ⟨x,hx,by simp only;omega,by simpa using e1⟩
  by_cases hs:∃ x∈l,x.tm=(τ:Int)∧x.job=(i:Int)
  · rw [if_pos hs]
    have:=KZ (t:=t) (q:=qsV t l τ) hb.nod (hst.2 hs)
    simpa using this.symm
  · rw [if_neg hs]
    by_cases he:(i,true)∈blk t l τ
    · have h1:=KZ (t:=t) (q:=qsV t l τ) hb.nod he
      have h2:=hb.own _ he
      simp only [if_true] at h1 h2
      rw [h1];unfold lfc;rw [if_pos h2]
    · have hno:∀ g∈blk t l τ,g.1≠i:=fun g hg e=>by
        obtain ⟨a,b⟩:=g
        simp only at e;subst e
        cases b
        · exact hs (hst.1 hg)
        · exact he hg
      rw [Hv hno]
      have:=(NB ht h τ i hi).2
      rw [Hv hno] at this
      unfold lfc
      rw [if_neg (by omega)]
theorem Uo (ht:TplOk t) (h:VOk t l) (τ:Nat) {out:List Int} (ho:out.length≤5000000):CM (wtr t (leftA t l τ) out)=some (wtr t (leftB t l (τ + 1)) (out ++ passP t (stA t (qsV t l τ) (blk t l τ)))):=by
  have hj:=ht.nj
  unfold CM wtr
  dsimp only
  rw [Ba (by unfold inI64;omega),Ae,Bb (by simp;omega) (by simp;omega),Ae]
  rw [CF (fun k=>(⟨t,firstL t t.jobs.length,lst t,(List.range t.jobs.length).map (fun i=>if i < k then lfc (jb t i).dur (qsV t l (τ + 1) i) else stA t (qsV t l τ) (blk t l τ) i),out ++ [2 * (t.jobs.length:Int)] ++ waitsP t (stA t (qsV t l τ) (blk t l τ)) 0 k⟩:Wtr)) (by unfold waitsP leftA;simp) (fun k j hk=>by
    have hlt:=Bl hk
    have hm:=NB ht h τ k hlt
    have hd:=ht.dur k
    have hw:=GA ht k
    have hW:wNo t k≤10000:=by unfold wNo;omega
    have e1:(firstL t t.jobs.length)[k]?=some ((wNo t k:Nat):Int):=by unfold firstL;rw [List.getElem?_map,List.getElem?_range hlt];rfl
    have e2:((List.range t.jobs.length).map (fun i=>if i < k then lfc (jb t i).dur (qsV t l (τ + 1) i) else stA t (qsV t l τ) (blk t l τ) i))[k]?=some (stA t (qsV t l τ) (blk t l τ) k):=by rw [List.getElem?_map,List.getElem?_range hlt];simp
    have hwl:(waitsP t (stA t (qsV t l τ) (blk t l τ)) 0 k).length=k:=by unfold waitsP;simp
    dsimp only
    rw [e1,e2,Ae,Ae,Ba (by unfold inI64;omega),Ae,Bb (by simp;omega) (by simp;omega),Ae,Ae,Ba (by unfold inI64;omega),Ae,Ae]
    congr 3
    · refine List.ext_getElem? fun i=>?_
      rw [List.getElem?_set,List.getElem?_map,List.getElem?_map]
      by_cases hi:i < t.jobs.length
      · rw [List.getElem?_range hi]
        by_cases hki:k=i
        · subst hki
          rw [if_pos rfl,if_pos (by simp;omega)]
          simp only [Option.map_some,Nat.lt_succ_self,if_true]
          congr 1
          show max 0 (stA t (qsV t l τ) (blk t l τ) k - 1)=lfc (jb t k).dur (nxc (jb t k).dur (stA t (qsV t l τ) (blk t l τ) k))
          generalize stA t (qsV t l τ) (blk t l τ) k=c at hm
          unfold nxc
          by_cases c1:1 < c
          · rw [if_pos c1];unfold lfc;rw [if_neg (by omega)];omega
          · rw [if_neg c1]
            by_cases c2:c=1
            · rw [if_pos c2];unfold lfc;rw [if_pos rfl];omega
            · rw [if_neg c2];unfold lfc;rw [if_neg (by omega)];omega
        · rw [if_neg hki]
          simp only [Option.map_some]
          congr 1
          by_cases h2:i < k
          · rw [if_pos h2,if_pos (by omega)]
          · rw [if_neg h2,if_neg (by omega)]
      · rw [List.getElem?_eq_none (by simp;omega:(List.range t.jobs.length).length≤i),if_neg (by omega)];rfl
    · unfold waitsP
      rw [List.range'_1_concat,List.map_append,Nat.zero_add,← List.append_assoc]
      congr 2
      simp only [List.map_cons,List.map_nil]
      congr 1
      omega)]
  have hwl:(waitsP t (stA t (qsV t l τ) (blk t l τ)) 0 t.jobs.length).length=t.jobs.length:=by unfold waitsP;simp
  rw [Ae,BH]
  dsimp only
  rw [Bb (by simp;omega) (by simp;omega),Ae]
  congr 2
  · unfold leftB
    refine List.map_congr_left fun i hi=>?_
    rw [if_pos (List.mem_range.1 hi)]
  · unfold passP lst
    simp
end
end
section
open Go Go.RowKit
section
variable {t : Tpl} {l : List Lch}
theorem Tp {k:Nat} {j:Job} (hk:t.jobs[k]?=some j):j=jb t k:=(QG hk).symm
theorem Ql (ht:TplOk t) (h:VOk t l) {τ i:Nat} (hi:i < t.jobs.length):(⟨(τ:Int) - (jb t i).dur,(i:Int)⟩:Lch)∈l↔(i,true)∈hapA t l τ:=by
  rw [CY]
  constructor
  · intro hm
    refine ⟨_,hm,by simp,?_⟩
    simp only [if_true]
    unfold en
    simp
  · rintro ⟨x,hx,e1,e2⟩
    have:=h.rng x hx
    simp only [if_true] at e1 e2
    unfold en at e2
    rw [e1] at e2
    have:x=⟨(τ:Int) - (jb t i).dur,(i:Int)⟩:=by
      obtain ⟨p,q⟩:=x
      simp only at *
      congr 1<;>omega
    rw [← this];exact hx
theorem RO {ρ:Type} (ht:TplOk t) (h:VOk t l) {τ:Nat} (hτ:τ≤2000000) {left out:List Int} (ho:out.length≤5000000) :
    rng (ρ:=ρ) (fun (k296:Nat) (a297:Job) (s294:Wtr)=>bnd (chkI ((τ:Int) - a297.dur)) fun n345=>bnd (Br l (⟨n345,(k296:Int)⟩:Lch)) fun q348=>if q348=true then bnd (chkI (2 * (k296:Int))) fun n391=>bnd (chkI (n391 + 1)) fun n394=>bnd (appI 8 s294.out [n394]) fun u397=>some (.next (⟨(⟨s294.t.vars,s294.t.init,s294.t.goal,s294.t.jobs⟩:Tpl),s294.first,s294.last,s294.left,u397⟩:Wtr)) else some (.next s294)) t.jobs 0 (wtr t left out)=some (.done (wtr t left (out ++ endsL t l τ t.jobs.length))):=by
  have hj:=ht.nj
  refine CF (fun k=>wtr t left (out ++ endsL t l τ k)) (by unfold endsL;simp) fun k j hk=>?_
  have hlt:=Bl hk
  have ej:=Tp hk
  have hd:=ht.dur k
  have hl:=Jj (t:=t) (l:=l) τ k
  subst ej
  rw [Ba (by unfold inI64;omega),Ae,PG,Ae,Nd]
  by_cases hm:(k,true)∈hapA t l τ
  · rw [decide_eq_true ((Ql ht h hlt).2 hm),EG,if_pos hm,Ba (by unfold inI64;omega),Ae,Ba (by unfold inI64;omega),Ae]
    unfold wtr
    dsimp only
    rw [Bb (by simp;omega) (by simp;omega),Ae,List.append_assoc]
  · rw [decide_eq_false (fun hh=>hm ((Ql ht h hlt).1 hh)),GI,if_neg hm,List.append_nil]
def leftS (t:Tpl) (l:List Lch) (τ:Nat) (P:List Lch):List Int:=(List.range t.jobs.length).map fun i:Nat=>if ∃ x∈P,x.tm=(τ:Int)∧x.job=(i:Int) then (jb t i).dur else lfc (jb t i).dur (qsV t l τ i)
theorem PH          {ρ:Type} (ht:TplOk t) (h:VOk t l) {τ:Nat} {out:List Int} (ho:out.length + l.length≤5000000) :
    rng (ρ:=ρ) (fun (k428:Nat) (a429:Lch) (s426:Wtr)=>if a429.tm=(τ:Int) then (bnd (chkI (2 * a429.job)) fun n494=>bnd (appI 8 s426.out ([n494]:List Int)) fun u503=>bnd (atI t.jobs a429.job) fun a516=>bnd (atI s426.left a429.job) fun a549=>some (.next (⟨(⟨s426.t.vars,s426.t.init,s426.t.goal,s426.t.jobs⟩:Tpl),s426.first,s426.last,(s426.left.set (a429.job:Int).toNat a516.dur),u503⟩:Wtr))) else (some (.next s426))) (srtU l) 0 (wtr t (leftB t l τ) out)=some (.done (wtr t (leftA t l τ) (out ++ stsL t l τ t.jobs.length))):=by
  have hj:=ht.nj
  have hlen:=SX l
  have key := CF (ρ:=ρ) (f:=fun (k428:Nat) (a429:Lch) (s426:Wtr)=>if a429.tm=(τ:Int) then (bnd (chkI (2 * a429.job)) fun n494=>bnd (appI 8 s426.out ([n494]:List Int)) fun u503=>bnd (atI t.jobs a429.job) fun a516=>bnd (atI s426.left a429.job) fun a549=>some (.next (⟨(⟨s426.t.vars,s426.t.init,s426.t.goal,s426.t.jobs⟩:Tpl),s426.first,s426.last,(s426.left.set (a429.job:Int).toNat a516.dur),u503⟩:Wtr))) else (some (.next s426))) (xs:=srtU l) (s₀:=wtr t (leftB t l τ) out)
    (fun k => wtr t (leftS t l τ ((srtU l).take k)) (out ++ (((srtU l).take k).filter fun x=>decide (x.tm=(τ:Int))).map fun x=>2 * x.job)) (by
      have:leftS t l τ []=leftB t l τ:=by
        unfold leftS leftB
        refine List.map_congr_left fun i _=>?_
        rw [if_neg (fun ⟨x,hx,_⟩=>by cases hx)]
      simp [this]) fun k x hk=>by
      have hx:=(ED l).mem_iff.1 (List.mem_of_getElem? hk)
      have hr:=h.rng x hx
      have hlt:=Bl hk
      have htk:(srtU l).take (k + 1)=(srtU l).take k ++ [x]:=by rw [List.take_add_one,hk];rfl
      have hfl:((((srtU l).take k).filter fun x=>decide (x.tm=(τ:Int))).map fun x=>2 * x.job).length≤k:=by
        rw [List.length_map]
        have:=List.length_filter_le (fun x:Lch=>decide (x.tm=(τ:Int))) ((srtU l).take k)
        rw [List.length_take] at this
        omega
      rw [htk,List.filter_append,List.map_append]
      by_cases hx1:x.tm=(τ:Int)
      · have e1 : ([x].filter fun x=>decide (x.tm=(τ:Int)))=[x]:=by simp [hx1]
        rw [if_pos hx1,e1,Ba (by unfold inI64;omega),Ae]
        unfold wtr
        dsimp only
        obtain ⟨y,hy⟩:=BB (l:=leftS t l τ ((srtU l).take k)) (k:=x.job.toNat) (by unfold leftS;simp;omega)
        rw [Bb (by rw [List.length_append];simp only [List.length_cons,List.length_nil];omega) (by rw [List.length_append];simp only [List.length_cons,List.length_nil];omega),Ae,Lb hr.2.1 hr.2.2,Ae,show atI (leftS t l τ ((srtU l).take k)) x.job=some y from by unfold atI;rw [if_pos hr.2.1];exact hy,Ae]
        congr 3
        · unfold leftS
          refine List.ext_getElem? fun i=>?_
          rw [List.getElem?_set,List.getElem?_map,List.getElem?_map]
          by_cases hi:i < t.jobs.length
          · rw [List.getElem?_range hi]
            simp only [Option.map_some]
            by_cases he:x.job.toNat=i
            · rw [if_pos he,if_pos (by simp;omega),if_pos ⟨x,List.mem_append_right _ (by simp),hx1,by omega⟩,he]
            · rw [if_neg he]
              congr 1
              by_cases hh:∃ y∈(srtU l).take k,y.tm=(τ:Int)∧y.job=(i:Int)
              · rw [if_pos hh,if_pos (by obtain ⟨y,p1,p2⟩:=hh;exact ⟨y,List.mem_append_left _ p1,p2⟩)]
              · rw [if_neg hh,if_neg (by
                  rintro ⟨y,p1,p2,p3⟩
                  rcases List.mem_append.1 p1 with p1|p1
                  · exact hh ⟨y,p1,p2,p3⟩
                  · have:y=x:=by simpa using p1
                    subst this;omega)]
          · rw [List.getElem?_eq_none (by simp;omega:(List.range t.jobs.length).length≤i),if_neg (by omega)];rfl
        · simp
      · have e1:([x].filter fun x=>decide (x.tm=(τ:Int)))=[]:=by simp [hx1]
        rw [if_neg hx1,e1,List.map_nil,List.append_nil]
        congr 3
        unfold leftS
        refine List.map_congr_left fun i _=>?_
        by_cases hh:∃ y∈(srtU l).take k,y.tm=(τ:Int)∧y.job=(i:Int)
        · rw [if_pos hh,if_pos (by obtain ⟨y,p1,p2⟩:=hh;exact ⟨y,List.mem_append_left _ p1,p2⟩)]
        · rw [if_neg hh,if_neg (by
            rintro ⟨y,p1,p2,p3⟩
            rcases List.mem_append.1 p1 with p1|p1
            · exact hh ⟨y,p1,p2,p3⟩
            · have:y=x:=by simpa using p1
              subst this;exact hx1 p2)]
  rw [key,List.take_length,RM h τ]
  congr 3
  unfold leftS leftA
  refine List.map_congr_left fun i hi=>?_
  have hi:=List.mem_range.1 hi
  rw [← SY ht h τ i hi]
  by_cases hh:∃ x∈srtU l,x.tm=(τ:Int)∧x.job=(i:Int)
  · rw [if_pos hh,if_pos (by obtain ⟨y,p1,p2⟩:=hh;exact ⟨y,(ED l).mem_iff.1 p1,p2⟩)]
  · rw [if_neg hh,if_neg (fun ⟨y,p1,p2⟩=>hh ⟨y,(ED l).mem_iff.2 p1,p2⟩)]
theorem Up (h0:tck t=0) (hnm:∀ j∈t.jobs,j.name.size≤300) (hc:checkN (cTask t)=0) (hv:VOk t l) (hln:l.length≤4096) (hlin:LIn t l) {M:Nat} (hM:mks t l=(M:Int)) (hsz:2 * l.length + M * (t.jobs.length + 2)≤65536) (hn0:0 < t.jobs.length) :
    Cj t l=some (planV t l M,⟨0⟩):=by
  have ht:=JA h0
  have hj:=ht.nj
  have hok:=FR.1 hc
  have hcm:=RG hc
  have hM1:M≤32768:=by
    have:M * 2≤M * (t.jobs.length + 2):=Nat.mul_le_mul_left _ (by omega)
    omega
  obtain ⟨m,e,w1,w2,w3,_⟩:=Pd (by omega:t.jobs.length≤30) l
  have he:e=0:=w2.2 ⟨h0,hln,hlin,hv⟩
  have hm:=w3 he
  subst he
  rw [hm,hM] at w1
  have hMu:(M:Int) * ((t.jobs.length:Int) + 2)=((M * (t.jobs.length + 2):Nat):Int):=by push_cast;rfl
  unfold Cj
  rw [w1,Ae]
  dsimp only
  rw [if_neg (by simp),Ks h0 hnm,if_neg (by simpa using hc),Ae]
  dsimp only
  rw [if_neg (by simp),Ba (by unfold inI64;omega),Ae,Ba (by unfold inI64;omega),Ae,hMu,Ba (by unfold inI64;omega),Ae,Ba (by unfold inI64;omega),Ae,if_neg (by omega),Kv hn0]
  have hlst:lst t≤4096:=by have:=Kv hn0;have:=hok.2.1;omega
  have hlst0:=Pn (t:=t)
  rw [Ba (by unfold inI64;omega),Ae,OG (by omega) (by omega),Ae,Ba (by unfold inI64;omega),Ae,Ba (by unfold inI64;omega),Ae]
  rw [CF (fun k=>(((wNo t k:Nat):Int),(⟨t,firstL t k,lst t,List.replicate t.jobs.length 0,[]⟩:Wtr))) (by unfold firstL wNo;simp [waitL]) (fun k j hk=>by
    have hlt:=Bl hk
    have ej:=Tp hk
    have hd:=ht.dur k
    have hw:=GA ht k
    have hW:wNo t k≤10000:=by unfold wNo;omega
    have hf:(firstL t k).length=k:=by unfold firstL;simp
    subst ej
    dsimp only
    rw [Bb (by simp;omega) (by simp;omega),Ae,Ba (by unfold inI64;omega),Ae,Ba (by unfold inI64;omega),Ae]
    have e1:((wNo t k:Nat):Int) + ((jb t k).dur + 1)=((wNo t (k + 1):Nat):Int):=by unfold wNo;rw [Hn];omega
    have e2:firstL t k ++ [((wNo t k:Nat):Int)]=firstL t (k + 1):=by unfold firstL;rw [List.range_succ,List.map_append];rfl
    rw [e1,e2])]
  rw [Ae,BH]
  dsimp only
  rw [Oa (by omega),Ae,Ba (by unfold inI64;omega),Ae,show natI ((M:Int) + 1)=some (M + 1) from by unfold natI;rw [if_pos (by omega)];congr 1,Ae]
  rw [HY (fun k=>if k≤M then wtr t (leftB t l k) (outP t l k) else wtr t (leftA t l M) (outP t l M ++ (blk t l M).map hNoI)) (by
    rw [if_pos (Nat.zero_le _)]
    unfold wtr
    congr 1
    unfold leftB
    refine List.ext_getElem? fun i=>?_
    rw [List.getElem?_replicate,List.getElem?_map]
    by_cases hi:i < t.jobs.length
    · rw [if_pos hi,List.getElem?_range hi]
      simp only [Option.map_some]
      congr 1
      have:=ht.dur i
      unfold lfc
      show 0=if (0:Int)=_ then (0:Int) else 0
      split<;>rfl
    · rw [if_neg hi,List.getElem?_eq_none (by simp;omega:(List.range t.jobs.length).length≤i)];rfl) (fun k hk=>by
    have hkM:k≤M:=by omega
    have hol:=IM ht hv k
    have hnd:=Fj ht hv.rng hv.nd (hv.novs (k + 1))
    have hel:=Jj (t:=t) (l:=l) k t.jobs.length
    have hsl:=Mw (t:=t) (l:=l) k t.jobs.length
    rw [if_pos hkM,RO ht hv (by omega) (by omega),Ae,BH,PH ht hv (by rw [List.length_append];omega),Ae,BH,List.append_assoc,← NA hnd]
    by_cases hlt:k < M
    · rw [if_pos (by omega),Uo ht hv k (by rw [List.length_append,List.length_map];have:=JO hnd;omega),Ae,if_pos (by omega),outP,List.append_assoc]
    · have:k=M:=by omega
      subst this
      rw [if_neg (by omega),if_neg (by omega)])]
  rw [Ae,BH,if_neg (by omega),Ji]
  rfl
end
end
section
open Go Go.RowKit
section
variable {t : Tpl} {l : List Lch}
theorem Qm (ht:TplOk t) {x:Lch} (h:(0≤x.tm∧0≤x.job∧x.job < t.jobs.length)∧x.tm≤1048576):CA t x=some (en t x):=JG ht h
theorem Uq (ht:TplOk t) (hl:LIn t l):FS t l=some (mks t l):=RD ht hl
def atC (t:Tpl) (τ:Nat) (i:Nat) (e:Bool) (x:Lch):Bool:=decide (x.job=(i:Int)) && (if e=true then decide (en t x=(τ:Int)) else decide (x.tm=(τ:Int)))
def atJ (t:Tpl) (τ:Nat) (i:Nat) (e:Bool) (l:List (Lch×Nat)):List Hp5:=(l.filter fun p=>atC t τ i e p.1).map fun p=>⟨(p.2:Int),e⟩
def atL (t:Tpl) (l:List Lch) (τ:Nat) (n:Nat) (e:Bool):List Hp5:=(List.range n).flatMap fun i=>atJ t τ i e l.zipIdx
theorem Ps (l:List Lch) (k:Nat) {x:Lch} (h:l[k]?=some x):l.zipIdx.take (k + 1)=l.zipIdx.take k ++ [(x,k)]:=by
  rw [List.take_add_one,List.getElem?_zipIdx,h]
  simp
theorem SZ {ρ:Type} (ht:TplOk t) (hl:LIn t l) (hn:l.length≤4096) {τ i:Nat} {e:Bool} {acc:List Hp5} (ha:acc.length≤1000000) :
    rng (ρ:=ρ) (fun (k89:Nat) (a90:Lch) (s87:(List Hp5)×Bool)=>bnd (if a90.job=(i:Int) then (if s87.2=true then (bnd (CA t a90) fun q126=>if q126=(τ:Int) then (some (true,true)) else (some (true,false))) else (if a90.tm=(τ:Int) then (some (false,true)) else (some (false,false)))) else (some (s87.2,false)):Option (Bool×Bool)) fun y120=>if y120.2=true then (bnd (appI 16 s87.1 [(⟨(k89:Int),y120.1⟩:Hp5)]) fun u141=>some (.next (u141,y120.1))) else (some (.next (s87.1,y120.1)))) l 0 (acc,e)=some (.done (acc ++ atJ t τ i e l.zipIdx,e)):=by
  have key:=CF (ρ:=ρ) (xs:=l) (s₀:=(acc,e)) (f:=fun (k89:Nat) (a90:Lch) (s87:(List Hp5)×Bool)=>bnd (if a90.job=(i:Int) then (if s87.2=true then (bnd (CA t a90) fun q126=>if q126=(τ:Int) then (some (true,true)) else (some (true,false))) else (if a90.tm=(τ:Int) then (some (false,true)) else (some (false,false)))) else (some (s87.2,false)):Option (Bool×Bool)) fun y120=>if y120.2=true then (bnd (appI 16 s87.1 [(⟨(k89:Int),y120.1⟩:Hp5)]) fun u141=>some (.next (u141,y120.1))) else (some (.next (s87.1,y120.1))))
    (fun k=>(acc ++ atJ t τ i e (l.zipIdx.take k),e)) (by simp [atJ]) fun k x hk=>by
      have hx:=hl x (List.mem_of_getElem? hk)
      have hlt:=Bl hk
      have hlen:(atJ t τ i e (l.zipIdx.take k)).length≤k:=by
        unfold atJ
        rw [List.length_map]
        have:=List.length_filter_le (fun p:Lch×Nat=>atC t τ i e p.1) (l.zipIdx.take k)
        rw [List.length_take] at this
        omega
      have hyes:atC t τ i e x=true→atJ t τ i e (l.zipIdx.take (k + 1))=atJ t τ i e (l.zipIdx.take k) ++ [⟨(k:Int),e⟩]:=fun hc=>by
        rw [Ps l k hk]
        unfold atJ
        rw [List.filter_append,List.map_append]
        simp [hc]
      have hno:atC t τ i e x=false→atJ t τ i e (l.zipIdx.take (k + 1))=atJ t τ i e (l.zipIdx.take k):=fun hc=>by
        rw [Ps l k hk]
        unfold atJ
        rw [List.filter_append,List.map_append]
        simp [hc]
      dsimp only
      have hcond:(if x.job=(i:Int) then (if e=true then (bnd (CA t x) fun q126=>if q126=(τ:Int) then (some (true,true)) else (some (true,false))) else (if x.tm=(τ:Int) then (some (false,true)) else (some (false,false)))) else (some (e,false)):Option (Bool×Bool))=some (e,atC t τ i e x):=by
        rw [Qm ht hx,Ae]
        unfold atC
        by_cases h1:x.job=(i:Int)
        · rw [if_pos h1,decide_eq_true h1,Bool.true_and]
          cases e
          · by_cases h2:x.tm=(τ:Int)<;>simp [h2]
          · by_cases h2:en t x=(τ:Int)<;>simp [h2]
        · rw [if_neg h1,decide_eq_false h1,Bool.false_and]
      rw [hcond,Ae]
      dsimp only
      cases hc:atC t τ i e x with
      | true=>rw [EG,Bb (by simp;omega) (by simp;omega),Ae,hyes hc,List.append_assoc]
      | false=>rw [GI,hno hc]
  rw [key,← List.length_zipIdx (l:=l) (i:=0),List.take_length]
theorem Mx (τ n:Nat) (e:Bool):atL t l τ (n + 1) e=atL t l τ n e ++ atJ t τ n e l.zipIdx:=by
  unfold atL;rw [List.range_succ,List.flatMap_append];simp
theorem Qn (τ:Nat) (e:Bool):∀ n,(atL t l τ n e).length≤n * l.length
  | 0=>by simp [atL]
  | n + 1=>by
    have:=Qn τ e n
    have h2:(atJ t τ n e l.zipIdx).length≤l.length:=by
      unfold atJ
      rw [List.length_map]
      have:=List.length_filter_le (fun p:Lch×Nat=>atC t τ n e p.1) l.zipIdx
      rw [List.length_zipIdx] at this
      exact this
    rw [Mx,List.length_append,Nat.succ_mul]
    omega
theorem Tq (ht:TplOk t) (hl:LIn t l) (hn:l.length≤4096) (τ:Nat):GD t l (τ:Int)=some (atL t l τ t.jobs.length true ++ atL t l τ t.jobs.length false):=by
  have hj:=ht.nj
  have bnd1:∀ k e,k≤t.jobs.length→(atL t l τ k e).length≤100000:=fun k e hk=>by
    have:=Qn (t:=t) (l:=l) τ e k
    have h2:k * l.length≤24 * l.length:=Nat.mul_le_mul_right _ (by omega)
    omega
  have job:∀ {ρ:Type} (e:Bool) (acc:List Hp5),acc.length≤200000→rng (ρ:=ρ) (fun (k68:Nat) (a69:Job) (s66:(List Hp5)×Bool)=>bnd (rng (ρ:=Ctl ((List Hp5)×Bool) ρ) (fun (k89:Nat) (a90:Lch) (s87:(List Hp5)×Bool)=>bnd (if a90.job=(k68:Int) then (if s87.2=true then (bnd (CA t a90) fun q126=>if q126=(τ:Int) then (some (true,true)) else (some (true,false))) else (if a90.tm=(τ:Int) then (some (false,true)) else (some (false,false)))) else (some (s87.2,false)):Option (Bool×Bool)) fun y120=>if y120.2=true then (bnd (appI 16 s87.1 [(⟨(k89:Int),y120.1⟩:Hp5)]) fun u141=>some (.next (u141,y120.1))) else (some (.next (s87.1,y120.1)))) l 0 (s66.1,s66.2)) fun res85=>fin res85 fun (s157:(List Hp5)×Bool)=>some (.next (s157.1,s157.2))) t.jobs 0 (acc,e)=some (.done (acc ++ atL t l τ t.jobs.length e,e)):=fun {ρ} e acc ha =>
    CF (fun k=>(acc ++ atL t l τ k e,e)) (by simp [atL]) fun k j hk=>by
      have:=Bl hk
      have:=bnd1 k e (by omega)
      rw [SZ ht hl hn (by rw [List.length_append];omega),Ae,BH,Mx,List.append_assoc]
  unfold GD
  simp only [rng]
  rw [job true [] (by simp),Ae,BH]
  dsimp only
  rw [job false _ (by rw [List.nil_append];have:=bnd1 t.jobs.length true (Nat.le_refl _);omega),Ae,BH,Ae,BH,List.nil_append]
theorem Lr {p:Lch→Bool} {x0:Lch}:∀ {l:List Lch},l.Nodup→(∀ x∈l,p x=decide (x=x0))→l.filter p=if x0∈l then [x0] else []
  | [],_,_=>by simp
  | x :: l,hd,hp=>by
    rw [List.nodup_cons] at hd
    rw [List.filter_cons,Lr hd.2 fun y hy=>hp y (List.mem_cons_of_mem _ hy),hp x List.mem_cons_self]
    by_cases hx:x=x0
    · subst hx
      rw [if_pos (by simp),if_neg hd.1,if_pos List.mem_cons_self]
    · rw [if_neg (by simpa using hx)]
      by_cases ha:x0∈l
      · rw [if_pos ha,if_pos (List.mem_cons_of_mem _ ha)]
      · rw [if_neg ha,if_neg (fun hm=>(List.mem_cons.1 hm).elim (fun e=>hx e.symm) ha)]
theorem Pt {α:Type} {l:List α} {q:α×Nat} (h:q∈l.zipIdx):l[q.2]?=some q.1:=by
  obtain ⟨k,hk⟩:=List.getElem?_of_mem h
  rw [List.getElem?_zipIdx] at hk
  obtain ⟨o,ho,rfl⟩:=Option.map_eq_some_iff.1 hk
  simpa using ho
def opH (l:List Lch) (h:Hp5):Int:=match l[h.launch.toNat]? with|some x=>2 * x.job + (if h.fin=true then 1 else 0)|none=>0
theorem Ur (h:VOk t l) {τ i:Nat} (hi:i < t.jobs.length) (e:Bool):(atJ t τ i e l.zipIdx).map (opH l)=if (i,e)∈hapA t l τ then [2 * (i:Int) + (if e=true then 1 else 0)] else []:=by
  unfold atJ
  rw [List.map_map]
  have e1:(l.zipIdx.filter fun p=>atC t τ i e p.1).map (opH l ∘ fun p=>(⟨(p.2:Int),e⟩:Hp5))=(l.zipIdx.filter fun p=>atC t τ i e p.1).map fun p=>2 * p.1.job + (if e=true then 1 else 0):=by
    refine List.map_congr_left fun p hp=>?_
    have hm:=Pt (List.mem_filter.1 hp).1
    simp only [Function.comp,opH,Int.toNat_natCast,hm]
  rw [e1]
  have e2:(l.zipIdx.filter fun p=>atC t τ i e p.1).map (fun p=>2 * p.1.job + (if e=true then 1 else 0))=((l.filter (atC t τ i e)).map fun x=>2 * x.job + (if e=true then 1 else 0)):=by
    have:l.filter (atC t τ i e)=(l.zipIdx.filter fun p=>atC t τ i e p.1).map (·.1):=by
      conv=>lhs;rw [← List.zipIdx_map_fst (i:=0) (l:=l)]
      rw [List.filter_map]
      rfl
    rw [this,List.map_map]
    rfl
  rw [e2]
  cases e
  · rw [Lr (x0:=⟨(τ:Int),(i:Int)⟩) h.nd (fun x hx=>by
      unfold atC
      rw [Bool.eq_iff_iff]
      simp only [Bool.false_eq_true,if_false,Bool.and_eq_true,decide_eq_true_eq]
      obtain ⟨p,q⟩:=x
      simp only [Lch.mk.injEq]
      exact ⟨fun hh=>⟨hh.2,hh.1⟩,fun hh=>⟨hh.2,hh.1⟩⟩)]
    have hiff:(⟨(τ:Int),(i:Int)⟩:Lch)∈l↔(i,false)∈hapA t l τ:=by
      rw [CY]
      constructor
      · intro hm;exact ⟨_,hm,by simp,by simp⟩
      · rintro ⟨x,hx,a1,a2⟩
        have:=h.rng x hx
        simp only [Bool.false_eq_true,if_false] at a1 a2
        have e:x=⟨(τ:Int),(i:Int)⟩:=by
          obtain ⟨p,q⟩:=x
          simp only at *
          congr 1;omega
        rw [← e];exact hx
    by_cases hm:(⟨(τ:Int),(i:Int)⟩:Lch)∈l
    · rw [if_pos hm,if_pos (hiff.1 hm)];rfl
    · rw [if_neg hm,if_neg (fun hh=>hm (hiff.2 hh))];rfl
  · rw [Lr (x0:=⟨(τ:Int) - (jb t i).dur,(i:Int)⟩) h.nd (fun x hx=>by
      have:=h.rng x hx
      unfold atC
      rw [Bool.eq_iff_iff]
      simp only [if_true,Bool.and_eq_true,decide_eq_true_eq]
      obtain ⟨p,q⟩:=x
      simp only [Lch.mk.injEq]
      simp only at this
      unfold en
      simp only
      constructor
      · rintro ⟨a1,a2⟩
        subst a1
        rw [Int.toNat_natCast] at a2
        exact ⟨by omega,rfl⟩
      · rintro ⟨a1,a2⟩
        subst a2
        rw [Int.toNat_natCast]
        exact ⟨rfl,by omega⟩)]
    have hiff:(⟨(τ:Int) - (jb t i).dur,(i:Int)⟩:Lch)∈l↔(i,true)∈hapA t l τ:=by
      rw [CY]
      constructor
      · intro hm
        refine ⟨_,hm,by simp,?_⟩
        simp only [if_true]
        unfold en
        simp
      · rintro ⟨x,hx,a1,a2⟩
        have:=h.rng x hx
        simp only [if_true] at a1 a2
        unfold en at a2
        rw [a1] at a2
        have e:x=⟨(τ:Int) - (jb t i).dur,(i:Int)⟩:=by
          obtain ⟨p,q⟩:=x
          simp only at *
          congr 1<;>omega
        rw [← e];exact hx
    by_cases hm:(⟨(τ:Int) - (jb t i).dur,(i:Int)⟩:Lch)∈l
    · rw [if_pos hm,if_pos (hiff.1 hm)];rfl
    · rw [if_neg hm,if_neg (fun hh=>hm (hiff.2 hh))];rfl
theorem RP (ht:TplOk t) (h:VOk t l) (τ:Nat):(atL t l τ t.jobs.length true ++ atL t l τ t.jobs.length false).map (opH l)=(blk t l τ).map hNoI:=by
  rw [NA (Fj ht h.rng h.nd (h.novs (τ + 1))),List.map_append]
  have key:∀ (n:Nat) (e:Bool),n≤t.jobs.length→(atL t l τ n e).map (opH l)=(List.range n).flatMap fun i=>if (i,e)∈hapA t l τ then [2 * (i:Int) + (if e=true then 1 else 0)] else []:=fun n e=>by
    induction n with
    | zero=>intro _;simp [atL]
    | succ n ih =>
      intro hn
      rw [Mx,List.map_append,ih (by omega),List.range_succ,List.flatMap_append,Ur h (by omega)]
      simp
  rw [key _ _ (Nat.le_refl _),key _ _ (Nat.le_refl _)]
  unfold endsL stsL
  simp
theorem Nf (h:VOk t l) {τ:Nat} {e:Bool}:∀ x∈atL t l τ t.jobs.length e,∃ (k:Nat) (y:Lch),x.launch=(k:Int)∧l[k]?=some y:=fun x hx=>by
  unfold atL at hx
  obtain ⟨i,_,hx⟩:=List.mem_flatMap.1 hx
  unfold atJ at hx
  obtain ⟨p,hp,rfl⟩:=List.mem_map.1 hx
  exact ⟨p.2,p.1,rfl,Pt (List.mem_filter.1 hp).1⟩
theorem Pu (ht:TplOk t) {i k:Nat} (hi:i≤t.jobs.length) (hk:k≤100):DS t (i:Int) (k:Int)=some ((wNo t i + k:Nat):Int):=by
  have hj:=ht.nj
  have hw:=GA ht i
  unfold DS
  rw [Ba (by unfold inI64;omega),Ae,Ba (by unfold inI64;omega),Ae,show natI (i:Int)=some i from by unfold natI;rw [if_pos (by omega)];simp,Ae]
  rw [HY (fun m=>((wNo t m:Nat):Int)) (by unfold wNo;simp [waitL]) (fun m hm=>by
    have hd:=ht.dur m
    have hwm:=GA ht m
    have hW:wNo t m≤10000:=by unfold wNo;omega
    rw [Ro (by omega),Ae,Ba (by unfold inI64;omega),Ae,Ba (by unfold inI64;omega),Ae]
    congr 2
    unfold wNo;rw [Hn];omega)]
  have hW:wNo t i≤10000:=by unfold wNo;omega
  rw [Ae,BH,Ba (by unfold inI64;omega),Ae]
  rfl
theorem RQ {ρ:Type} (ht:TplOk t) (h:VOk t l) (hl:LIn t l) {τ i:Nat} (hi:i < t.jobs.length) :
    rng (ρ:=ρ) (fun (k194:Nat) (a195:Lch) (s192:Int)=>bnd (if a195.job=(i:Int) then (if a195.tm≤(τ:Int) then (bnd (CA t a195) fun q229=>if (τ:Int) < q229 then (some true) else (some false)) else (some false)) else (some false):Option Bool) fun y223=>if y223=true then (bnd (CA t a195) fun q243=>bnd (chkI (q243 - (τ:Int))) fun n251=>some (.next n251)) else (some (.next s192))) l 0 0=some (.done (stA t (qsV t l τ) (blk t l τ) i)):=by
  obtain ⟨s,h1,h2⟩:=Np (ρ:=ρ) (xs:=l) (s₀:=(0:Int)) (f:=fun (k194:Nat) (a195:Lch) (s192:Int)=>bnd (if a195.job=(i:Int) then (if a195.tm≤(τ:Int) then (bnd (CA t a195) fun q229=>if (τ:Int) < q229 then (some true) else (some false)) else (some false)) else (some false):Option Bool) fun y223=>if y223=true then (bnd (CA t a195) fun q243=>bnd (chkI (q243 - (τ:Int))) fun n251=>some (.next n251)) else (some (.next s192)))
    (I := fun k s=>(s=0∧∀ (j:Nat) x,j < k→l[j]?=some x→¬ (x.job=(i:Int)∧x.tm≤(τ:Int)∧(τ:Int) < en t x))∨∃ x∈l,x.job=(i:Int)∧x.tm≤(τ:Int)∧(τ:Int) < en t x∧s=en t x - τ) (.inl ⟨rfl,fun j x hj=>by omega⟩) fun k x s hk hI=>by
      have hx:=hl x (List.mem_of_getElem? hk)
      have hd:=ht.dur x.job.toNat
      have he:en t x=x.tm + (jb t x.job.toNat).dur:=rfl
      rw [Qm ht hx,Ae,Ae]
      by_cases c:x.job=(i:Int)∧x.tm≤(τ:Int)∧(τ:Int) < en t x
      · refine ⟨en t x - τ,?_,.inr ⟨x,List.mem_of_getElem? hk,c.1,c.2.1,c.2.2,rfl⟩⟩
        rw [if_pos c.1,if_pos c.2.1,if_pos c.2.2,Ae,if_pos rfl,Ba (by unfold inI64;omega),Ae]
      · refine ⟨s,?_,?_⟩
        · have:(if x.job=(i:Int) then (if x.tm≤(τ:Int) then (if (τ:Int) < en t x then (some true) else (some false)) else (some false)) else (some false):Option Bool)=some false:=by
            by_cases c1:x.job=(i:Int)
            · rw [if_pos c1]
              by_cases c2:x.tm≤(τ:Int)
              · rw [if_pos c2,if_neg fun c3=>c ⟨c1,c2,c3⟩]
              · rw [if_neg c2]
            · rw [if_neg c1]
          rw [this,Ae,if_neg (by decide)]
        · rcases hI with ⟨e,hno⟩|hh
          · refine .inl ⟨e,fun j y hj hy=>?_⟩
            by_cases hjk:j=k
            · subst hjk;rw [hk] at hy;cases hy;exact c
            · exact hno j y (by omega) hy
          · exact .inr hh
  rw [h1]
  congr 2
  rcases (IG ht h τ).2.2 i hi with ⟨e,hno⟩|⟨x,hx,x1,x2,x3,x4⟩
  · rcases h2 with ⟨h2,_⟩|⟨y,hy,y1,y2,y3,y4⟩
    · rw [h2,e]
    · have:=hno y hy y1 y2;omega
  · rcases h2 with ⟨_,h2⟩|⟨y,hy,y1,y2,y3,y4⟩
    · obtain ⟨j,hj⟩:=List.getElem?_of_mem hx
      exact absurd ⟨x1,x2,x3⟩ (h2 j x (Bl hj) hj)
    · by_cases hxy:x=y
      · subst hxy;rw [y4,x4]
      · rcases h.nov x hx y hy hxy (by omega) with h|h
        · omega
        · omega
theorem Pv (ht:TplOk t) (h:VOk t l) (hl:LIn t l) (hn:l.length≤4096) {M:Nat} (hM:mks t l=(M:Int)) (hMb:M≤1000000):FB t l=some (planV t l M):=by
  have hj:=ht.nj
  unfold FB
  rw [Uq ht hl,Ae,hM]
  have step:∀ (m τ:Nat),τ + m=M→lop (ρ:=(List Int)) (fun (s37:(List Int)×Int)=>if s37.2≤(M:Int) then (bnd (GD t l s37.2) fun q57=>bnd (rng (ρ:=Ctl ((List Int)×Int) (List Int)) (fun (k72:Nat) (a73:Hp5) (s70:(List Int))=>bnd (atI l a73.launch) fun a102=>bnd (chkI (2 * a102.job)) fun n115=>bnd (if a73.fin=true then (bnd (chkI (n115 + 1)) fun n124=>some n124) else (some n115):Option Int) fun y118=>bnd (appI 8 s70 [y118]) fun u131=>some (.next u131)) q57 0 s37.1) fun res68=>fin res68 fun (s147:(List Int))=>if s37.2=(M:Int) then (some (.brk (s147,s37.2))) else (bnd (chkI (2 * (t.jobs.length:Int))) fun n152=>bnd (appI 8 s147 [n152]) fun u155=>bnd (rng (ρ:=Ctl ((List Int)×Int) (List Int)) (fun (k173:Nat) (a174:Job) (s171:(List Int))=>bnd (rng (ρ:=Ctl (List Int) (Ctl ((List Int)×Int) (List Int))) (fun (k194:Nat) (a195:Lch) (s192:Int)=>bnd (if a195.job=(k173:Int) then (if a195.tm≤s37.2 then (bnd (CA t a195) fun q229=>if s37.2 < q229 then (some true) else (some false)) else (some false)) else (some false):Option Bool) fun y223=>if y223=true then (bnd (CA t a195) fun q243=>bnd (chkI (q243 - s37.2)) fun n251=>some (.next n251)) else (some (.next s192))) l 0 0) fun res190=>fin res190 fun (s258:Int)=>bnd (DS t (k173:Int) s258) fun q260=>bnd (appI 8 s171 [q260]) fun u268=>some (.next u268)) t.jobs 0 u155) fun res169=>fin res169 fun (s284:(List Int))=>bnd (DS t (t.jobs.length:Int) 0) fun q288=>bnd (appI 8 s284 [q288]) fun u296=>bnd (chkI (s37.2 + 1)) fun n308=>some (.next (u296,n308)))) else (some (.brk (s37.1,s37.2)))) (outP t l τ,(τ:Int))=some (.done (planV t l M,(M:Int))):=by
    intro m
    induction m with
    | zero =>
      intro τ hτ
      have:τ=M:=by omega
      subst this
      have hol:=IM ht h τ
      have hnd:=Fj ht h.rng h.nd (h.novs (τ + 1))
      have hbl:=JO hnd
      have hops:=RP ht h τ
      have hal:(atL t l τ t.jobs.length true ++ atL t l τ t.jobs.length false).length=(blk t l τ).length:=by have:=congrArg List.length hops;rw [List.length_map,List.length_map] at this;exact this
      rw [OI]
      dsimp only
      rw [if_pos (Int.le_refl _),Tq ht hl hn,Ae]
      rw [CF (fun k=>outP t l τ ++ ((atL t l τ t.jobs.length true ++ atL t l τ t.jobs.length false).take k).map (opH l)) (by simp) (fun k x hk=>by
        have hlt:=Bl hk
        obtain ⟨n,y,e1,e2⟩:∃ (n:Nat) (y:Lch),x.launch=(n:Int)∧l[n]?=some y:=by
          rcases List.mem_append.1 (List.mem_of_getElem? hk) with hx|hx
          · exact Nf h x hx
          · exact Nf h x hx
        have hy:=h.rng y (List.mem_of_getElem? e2)
        rw [e1,Fx,e2,Ae,Ba (by unfold inI64;omega),Ae]
        have e3:(if x.fin=true then (bnd (chkI (2 * y.job + 1)) fun n124=>some n124) else (some (2 * y.job)):Option Int)=some (opH l x):=by
          unfold opH
          rw [e1,Int.toNat_natCast,e2]
          cases x.fin
          · simp
          · rw [if_pos rfl,Ba (by unfold inI64;omega),Ae];simp
        rw [e3,Ae,Bb (by simp;omega) (by simp;omega),Ae,List.take_add_one,hk]
        simp)]
      rw [Ae,BH,if_pos rfl,List.take_length,hops,Ji]
    | succ m ih =>
      intro τ hτ
      have hol:=IM ht h τ
      have hnd:=Fj ht h.rng h.nd (h.novs (τ + 1))
      have hbl:=JO hnd
      have hops:=RP ht h τ
      have hal:(atL t l τ t.jobs.length true ++ atL t l τ t.jobs.length false).length=(blk t l τ).length:=by have:=congrArg List.length hops;rw [List.length_map,List.length_map] at this;exact this
      have ih':=ih (τ + 1) (by omega)
      rw [OI]
      dsimp only
      rw [if_pos (by omega),Tq ht hl hn,Ae]
      rw [CF (fun k=>outP t l τ ++ ((atL t l τ t.jobs.length true ++ atL t l τ t.jobs.length false).take k).map (opH l)) (by simp) (fun k x hk=>by
        have hlt:=Bl hk
        obtain ⟨n,y,e1,e2⟩:∃ (n:Nat) (y:Lch),x.launch=(n:Int)∧l[n]?=some y:=by
          rcases List.mem_append.1 (List.mem_of_getElem? hk) with hx|hx
          · exact Nf h x hx
          · exact Nf h x hx
        have hy:=h.rng y (List.mem_of_getElem? e2)
        rw [e1,Fx,e2,Ae,Ba (by unfold inI64;omega),Ae]
        have e3:(if x.fin=true then (bnd (chkI (2 * y.job + 1)) fun n124=>some n124) else (some (2 * y.job)):Option Int)=some (opH l x):=by
          unfold opH
          rw [e1,Int.toNat_natCast,e2]
          cases x.fin
          · simp
          · rw [if_pos rfl,Ba (by unfold inI64;omega),Ae];simp
        rw [e3,Ae,Bb (by simp;omega) (by simp;omega),Ae,List.take_add_one,hk]
        simp)]
      have hbl2:((blk t l τ).map hNoI).length=(blk t l τ).length:=List.length_map ..
      rw [Ae,BH,if_neg (by omega),List.take_length,hops,Ba (by unfold inI64;omega),Ae,Bb (by rw [List.length_append];simp only [List.length_cons,List.length_nil];omega) (by rw [List.length_append];simp only [List.length_cons,List.length_nil];omega),Ae]
      rw [CF (fun k=>outP t l τ ++ (blk t l τ).map hNoI ++ [2 * (t.jobs.length:Int)] ++ waitsP t (stA t (qsV t l τ) (blk t l τ)) 0 k) (by unfold waitsP;simp) (fun k j hk=>by
        have hlt:=Bl hk
        have hm:=NB ht h τ k hlt
        have hd:=ht.dur k
        have hwl:(waitsP t (stA t (qsV t l τ) (blk t l τ)) 0 k).length=k:=by unfold waitsP;simp
        rw [RQ ht h hl hlt,Ae,BH]
        have hz:stA t (qsV t l τ) (blk t l τ) k=(((stA t (qsV t l τ) (blk t l τ) k).toNat:Nat):Int):=by omega
        rw [hz,Pu ht (by omega) (by omega),Ae,Bb (by rw [List.length_append,List.length_append,List.length_append];simp only [List.length_cons,List.length_nil];omega) (by rw [List.length_append,List.length_append,List.length_append];simp only [List.length_cons,List.length_nil];omega),Ae]
        congr 2
        unfold waitsP
        rw [List.range'_1_concat,List.map_append,Nat.zero_add,← List.append_assoc]
        rfl)]
      have hwl:(waitsP t (stA t (qsV t l τ) (blk t l τ)) 0 t.jobs.length).length=t.jobs.length:=by unfold waitsP;simp
      have hr:DS t (t.jobs.length:Int) 0=some ((wNo t t.jobs.length + 0:Nat):Int):=Pu ht (i:=t.jobs.length) (k:=0) (Nat.le_refl _) (by omega)
      rw [Ae,BH,hr,Ae,Bb (by rw [List.length_append,List.length_append,List.length_append];simp only [List.length_cons,List.length_nil];omega) (by rw [List.length_append,List.length_append,List.length_append];simp only [List.length_cons,List.length_nil];omega),Ae,Ba (by unfold inI64;omega),Ae]
      dsimp only
      have e4:outP t l τ ++ (blk t l τ).map hNoI ++ [2 * (t.jobs.length:Int)] ++ waitsP t (stA t (qsV t l τ) (blk t l τ)) 0 t.jobs.length ++ [((wNo t t.jobs.length + 0:Nat):Int)]=outP t l (τ + 1):=by
        rw [outP]
        unfold passP
        simp
      rw [e4,show (τ:Int) + 1=((τ + 1:Nat):Int) from by omega]
      rw [hr,Ba (show inI64 (2 * (t.jobs.length:Int)) by unfold inI64;omega)] at ih'
      exact ih'
  have:=step M 0 (by omega)
  rw [show outP t l 0=[] from rfl,show ((0:Nat):Int)=(0:Int) from rfl] at this
  rw [this,Ae]
  rfl
end
end
section
open Go Go.RowKit
section
variable {t : Tpl} {l : List Lch}
structure Vfew (t:Tpl) (l:List Lch):Prop where
  lin:LIn t l
  ok:VOk t l
  few:l.length≤12
  tm:∀ x∈l,x.tm≤200
theorem Vfew.M (ht:TplOk t) (h:Vfew t l):∃ M:Nat,mks t l=(M:Int)∧M≤262:=by
  have h0:=UT t l
  refine ⟨(mks t l).toNat,by omega,?_⟩
  rcases UU t l with e|⟨x,hx,e⟩
  · omega
  · have:=h.tm x hx
    have:=ht.dur x.job.toNat
    unfold en at e
    omega
theorem Us (h:LIn t l) (h0:t.jobs.length=0):l=[]:=by
  cases l with
  | nil=>rfl
  | cons x l=>have:=(h x List.mem_cons_self).1;omega
theorem Ta (h0:tck t=0) (hnm:∀ j∈t.jobs,j.name.size≤300) (hc:checkN (cTask t)=0) (h:Vfew t l) :
    ∃ M:Nat,mks t l=(M:Int)∧M≤262∧(planV t l M).length≤40000∧(M=0∨0 < t.jobs.length)∧Cj t l=some (planV t l M,⟨0⟩)∧FB t l=some (planV t l M)∧(∃ x,PlanR (cTask t) (cTask t).init (planV t l M) x M∧holdsB (cTask t).goal x=true) ∧
      srtU (lchL (2 * (t.jobs.length:Int)) (((cTask t).ops.length:Int) - 1) 0 (planV t l M))=srtU l:=by
  have ht:=JA h0
  have hj:=ht.nj
  have hcm:=RG hc
  obtain ⟨M,hM,hM2⟩:=h.M ht
  have hnd:=Fj ht h.ok.rng h.ok.nd (h.ok.novs (M + 1))
  have hbl:=JO hnd
  have hol:=IM ht h.ok M
  have hlen:(planV t l M).length≤40000:=by rw [Ji,List.length_append,List.length_map];omega
  have hle:∀ x∈l,en t x≤(M:Int):=fun x hx=>by rw [← hM];exact US t l x hx
  by_cases hn:t.jobs.length=0
  · have hl:=Us h.lin hn
    subst hl
    have hM0:M=0:=by
      have:mks t []=0:=rfl
      omega
    subst hM0
    have hp:planV t [] 0=[]:=by
      rw [Ji]
      unfold blk cano
      rw [hn]
      simp [outP]
    have htj:t.jobs=[]:=List.length_eq_zero_iff.1 hn
    have htp:tpl0 t=t:=by
      obtain ⟨a,b,c,d⟩:=t
      simp only at htj
      subst htj;rfl
    have hv:t.vars.length < 64:=by
      have:=(FR.1 hc).1
      unfold cTask vrs at this
      simp [htj] at this
      have:=IK (t:=t) t.vars.length
      omega
    have hgoal:holdsB t.goal t.init=true:=h.ok.goal 0 fun x hx=>by cases hx
    have hpl:=plan0 ht hv
    rw [htp,if_pos hgoal] at hpl
    obtain ⟨x,x1,x2⟩:=NT hcm ht h.ok (M:=0) hle (.inl rfl)
    refine ⟨0,hM,hM2,hlen,.inl rfl,by rw [hp];exact hpl,Pv ht h.ok h.lin (by simp) hM (by omega),⟨x,x1,x2⟩,?_⟩
    rw [hp];rfl
  · have hpos:0 < t.jobs.length:=by omega
    have hb:M * (t.jobs.length + 2)≤262 * 26:=Nat.mul_le_mul hM2 (by omega)
    have hf:=h.few
    refine ⟨M,hM,hM2,hlen,.inr hpos,Up h0 hnm hc h.ok (by omega) h.lin hM (by omega) hpos,Pv ht h.ok h.lin (by omega) hM (by omega),NT hcm ht h.ok hle (.inr hpos),?_⟩
    rw [Kv hpos]
    have htr:=Mj ht h.ok M 0 (.inr hpos)
    rw [Nat.zero_add] at htr
    have:=Un htr 0
    rw [show ((0:Nat):Int)=0 from rfl,show qsV t l 0=fun _=>0 from rfl] at this
    have e:pl t (fun _=>0) (blk t l 0) (blks t l 1 M)=planV t l M:=rfl
    rw [e] at this
    rw [this]
    refine QP ?_
    refine (List.perm_ext_iff_of_nodup (Od fun c hc=>(htr.blocks c hc).1) h.ok.nd).2 fun x=>?_
    rw [Nt]
    have hget:∀ k,k≤M→(blk t l 0 :: blks t l 1 M)[k]?=some (blk t l k):=fun k hk=>by
      cases k with
      | zero=>rfl
      | succ k =>
        rw [List.getElem?_cons_succ]
        unfold blks
        rw [List.getElem?_map,List.getElem?_range' (by omega:k < M)]
        simp [Nat.add_comm]
    constructor
    · rintro ⟨k,b,i,h1,h2,rfl⟩
      have hk:k≤M:=by have:=Bl h1;unfold blks at this;simp at this;omega
      rw [hget k hk] at h1
      cases h1
      obtain ⟨y,hy,e1,e2⟩:=CY.1 ((Ga h.ok).1 h2)
      have:=h.ok.rng y hy
      have:y=⟨((0 + k:Nat):Int),(i:Int)⟩:=by
        obtain ⟨p,q⟩:=y
        simp only [Bool.false_eq_true,if_false] at e1 e2 this
        simp only [Lch.mk.injEq]
        omega
      rw [← this];exact hy
    · intro hx
      have hr:=h.ok.rng x hx
      have h1:=hle x hx
      have h2:=GV ht x
      refine ⟨x.tm.toNat,blk t l x.tm.toNat,x.job.toNat,hget _ (by omega),(Ga h.ok).2 (CY.2 ⟨x,hx,rfl,?_⟩),?_⟩
      · simp only [Bool.false_eq_true,if_false];omega
      · obtain ⟨p,q⟩:=x
        simp only at hr ⊢
        simp only [Lch.mk.injEq]
        omega
theorem Ut {u:Tsk} (h:TaskOk u) {s p s':List Int} {C:Int} (hr:PlanR u s p s' C):∀ (j:Nat) (c:Int),StateOk u.vars s→0≤c→c + p.length * 1048576≤1000000000000000 →
    ∃ z,rng (ρ:=(List Int)×Int×Err) (fun (_:Nat) (a63:Int) (s60:(List Int)×Int)=>bnd (Dl u s60.1 a63) fun q87=>if q87.2.n≠0 then (some (.ret (([]:List Int),0,(⟨q87.2.n⟩:Err)))) else (bnd (atI u.ops a63) fun a102=>bnd (chkI (s60.2 + a102.cost)) fun n123=>some (.next (q87.1,n123)))) p j (s,c)=some (.done z):=by
  induction hr with
  | nil=>intro j c _ _ _;exact ⟨_,rfl⟩
  | @cons s rest s' k o C ho hp _ ih =>
    intro j c hs hc hb
    simp only [List.length_cons] at hb
    have hoo:=h.2.2.2.2.2 k o ho
    have h1:=hoo.1
    have h2:=hoo.2.1
    rcases tapply h hs (k:Int) with ⟨k',o',e1,ho',hp',e⟩|⟨n,hn,e⟩
    · have:k=k':=by omega
      subst this
      rw [ho] at ho';cases ho'
      obtain ⟨z,hz⟩:=ih (j + 1) (c + o.cost) (Nq h hs ho) (by omega) (by omega)
      refine ⟨z,?_⟩
      rw [rng]
      dsimp only
      rw [e,Ae,if_neg (by simp),Fx,ho,Ae,Ba (by unfold inI64;omega),Ae]
      exact hz
    · exfalso
      unfold Dl at e
      rw [if_neg (by omega),if_neg (by have:=Bl ho;omega),Ae,GI] at e
      unfold CT at e
      have hcl:Bw s=some s:=if_pos ⟨by have:=hs.1;have:=h.1;omega,by have:=hs.1;have:=h.1;omega⟩
      rw [Ae,Da hs,EG,Fx,ho,Ae,Jb,Ae,if_pos hp,hcl,Ae,Ae,Mf (h.effs hs k o ho) Cq Jb s rfl,Ae,BH] at e
      exact hn (congrArg (fun z:(List Int)×Err=>z.2.n) (Option.some.inj e)).symm
theorem Uu {u:Tsk} (h:TaskOk u) {p s':List Int} {C:Int} (hr:PlanR u u.init p s' C) (hl:p.length≤60000) {n:Int} (hn:n≠0) (he:Es u u.init p=some ([],0,⟨n⟩)):False:=by
  have hs:=h.2.2.2.1
  obtain ⟨z,hz⟩:=Ut h hr 0 0 hs (by omega) (by omega)
  have hc:Bw u.init=some u.init:=if_pos ⟨by have:=hs.1;have:=h.1;omega,by have:=hs.1;have:=h.1;omega⟩
  unfold Es DM CT at he
  rw [Ae,if_neg (by rw [FR.2 h];simp),Ae,Da hs,EG,if_neg (by omega),hc,Ae,hz,Ae,BH] at he
  exact hn (congrArg (fun z:(List Int)×Int×Err=>z.2.2.n) (Option.some.inj he)).symm
theorem Tb {e:Int} {m:Int} (hj:t.jobs.length≤30) (h:Cf t l=some (m,⟨e⟩)):(e=0→tck t=0∧LIn t l∧VOk t l∧m=mks t l):=fun he=>by
  obtain ⟨m',e',w1,w2,w3,_⟩:=Pd hj l
  rw [h] at w1
  cases w1
  obtain ⟨a,b,c,d⟩:=w2.1 he
  exact ⟨a,c,d,w3 he⟩
theorem RR (t:Tpl) (l:List Lch):EP t l=some true:=by
  unfold EP
  rw [awake56,Ae,EG]
  obtain ⟨b,hb,hf⟩:=Uf t l
  rw [hb,Ae]
  cases b with
  | false=>rfl
  | true =>
    obtain ⟨f1,f2,f3,_,f5⟩:=hf rfl
    rw [EG,Ae,GI]
    have hl:=Gw (ρ:=Bool) (xs:=l) (f:=fun (k71:Nat) (a72:Lch) (s69:Unit)=>bnd (if 200 < a72.tm then (if a72.tm≤1048576 then (some true) else (some false)) else (some false):Option Bool) fun y98=>if y98=true then (some (.ret true)) else (some (.next ()))) (P:=fun _ x=>200 < x.tm∧x.tm≤1048576) (c:=true) fun k x hk=>by
      by_cases h1:200 < x.tm
      · by_cases h2:x.tm≤1048576
        · exact .inl ⟨⟨h1,h2⟩,by rw [if_pos h1,if_pos h2];rfl⟩
        · exact .inr ⟨fun h=>h2 h.2,by rw [if_pos h1,if_neg h2];rfl⟩
      · exact .inr ⟨fun h=>h1 h.1,by rw [if_neg h1];rfl⟩
    rcases hl with ⟨_,h5⟩|⟨h4,h5⟩
    · rw [h5,Ae];rfl
    · rw [h5,Ae,BH]
      obtain ⟨m,e,w1,_,w3,w4⟩:=Pd f2 l
      rw [w1,Ae]
      by_cases he:e=0
      · obtain ⟨h0,hlin,hv,hm⟩:=Tb f2 w1 he
        have ht:=JA h0
        have hfw:Vfew t l:=⟨hlin,hv,f3,fun x hx=>by
          obtain ⟨k,hk⟩:=List.getElem?_of_mem hx
          have:=h4 k x hk
          have:=(hlin x hx).2
          omega⟩
        rcases PF f2 f5 with ⟨_,hc,h1⟩|⟨n,hn,h1⟩
        · obtain ⟨M,hM,_,hlen,_,p1,p2,⟨x,x1,x2⟩,p3⟩:=Ta h0 f5 hc hfw
          have hok:=FR.1 hc
          rw [p1,Ae]
          dsimp only
          rw [if_neg (by simpa using he),h1,Ae]
          dsimp only
          rw [if_neg (by simp),if_neg (by simp),p2,Ae]
          unfold Fo
          rw [Ae,Da rfl,EG,Ae,GI,SV hok hok.2.2.2.1 x1 (by omega),Ae]
          rcases PE h0 f5 hc (plan:=planV t l M) (by omega) with ⟨s',C,g1,g2,g3⟩|⟨n,hn,g1,g2⟩
          · rw [g3,Ae]
            dsimp only
            rw [x2,EG,hm,hM,if_pos rfl,if_pos rfl,RJ (by omega),Ae,p3,QR]
            rfl
          · exfalso
            exact Uu hok x1 (by omega) hn g1
        · have hp:Cj t l=some ([],⟨n⟩):=by
            unfold Cj
            rw [w1,Ae]
            dsimp only
            rw [if_neg (by simpa using he),h1,Ae]
            dsimp only
            rw [if_pos hn]
          rw [hp,Ae]
          dsimp only
          rw [if_neg (by simpa using he),h1,Ae]
          dsimp only
          rw [if_pos hn,if_pos (by simp),RL,Ae,Ae,if_pos rfl]
          rfl
      · have hp:Cj t l=some ([],⟨e⟩):=by
          unfold Cj
          rw [w1,Ae]
          dsimp only
          rw [if_pos (by simpa using he)]
        rw [hp,Ae]
        dsimp only
        rw [if_pos (by simpa using he),if_pos (by simp),RL,Ae,Ae,if_pos rfl]
        rfl
end
end
section
open Go Go.RowKit Go.ChangeShapes Go.WideShapes Go.Deep
theorem lawCPlans {w:World} {v0:Value} {a0:Tpl} (h0:V w v0 a0) {v1:Value} {a1:List Lch} (h1:V w v1 a1):Fn Tryz.prog 5 [v0,v1] w fun v w'=>v=.bool true∧Ext w w':=by
  exact (Km (fun _ h=>h) h0 h1 (RR a0 a1)).mono fun _ _ h=>⟨h.2.bool,h.1⟩
set_option maxRecDepth 100000 in
theorem doorMet (os:Os) (args:Array Value):laidMetH Tryz.prog Rows.compilePlansRow.laid ((World.doorLaid Tryz.prog 4000 os).forCall (fun _ _=>0) ⟨#[],args,[]⟩).memory :=
  laidMetH_of_parts3 (fuel:=8) (laidMet_of_run' 8 (by kernel_rfl) (by kernel_rfl)) (by kernel_rfl) (by kernel_rfl)
set_option maxRecDepth 100000 in
theorem KL (os:Os) (started:os.Started) (H:Type) (enc:TypeId×Value→H) :
    ReturnsInHanded {} Tryz.checked os 5 .any (fun w args=>(Rows.compilePlansSpec.pre enc Tryz.prog Tryz.f5 Rows.compilePlansRow.domain false w args∧laidMetH Tryz.prog Rows.compilePlansRow.laid w)∧sizedMet enc Tryz.prog Tryz.f5 (OpenSpec.ofChange Rows.compilePlansSpec) false w args) (Rows.compilePlansSpec.post enc Tryz.prog Tryz.f5 false true false false):=by
  refine returnsInHanded_of_change_and (C:=Tryz.checked) (X:=fun w _=>laidMetH Tryz.prog Rows.compilePlansRow.laid w) (fun _ _ _ hh h=>h.of_heap hh) ownTry started (by kernel_rfl) Tryz.func5 (ChangeSpec.witness_shaped (enc:=enc) (C:=Tryz.checked) (os:=os) (X:=fun w _=>laidMetH Tryz.prog Rows.compilePlansRow.laid w) false (World.doorLaid Tryz.prog 4000 os) #[(.agg #[.slice none 0 0,.slice none 0 0,.slice none 0 0,.slice none 0 0]),.slice none 0 0] 8 rfl (World.shaped_of_RefB (by kernel_rfl) (by kernel_rfl)) (by kernel_rfl) (by kernel_rfl) (by kernel_rfl) (doorMet os _)) ?_
  intro W base args ds gs before hval hW _ _ _ _
  have hopen:∀ p,DataW.TrodAll enc Tryz.prog W 0 (fun _=>true) true Tryz.f5.params.toList args.toList ds p→∃ v0 v1 d0 d1,args=#[v0,v1]∧ds=[d0,d1]∧(∃ a:Tpl,V W v0 a)∧(∃ a:List Lch,V W v1 a):=by
    intro p hA
    rw [Tryz.params5] at hA
    replace hval:∀ (j:Nat) t v,(#[26,50]:Array TypeId)[j]?=some t→args[j]?=some v→Value.okWide Tryz.prog W .any base t v:=by rw [← Tryz.params5];exact hval
    obtain ⟨v0,vs0,d0,ds0,p0,q0,g0,e0,_,h0,r0⟩:=trodAll_cons hA
    obtain ⟨v1,vs1,d1,ds1,p1,q1,g1,e1,_,h1,r1⟩:=trodAll_cons r0
    obtain ⟨g,e,_⟩:=trodAll_nil r1
    rw [g] at g1;rw [e] at e1
    rw [g1] at g0;rw [e1] at e0
    obtain rfl:args=#[v0,v1]:=by cases args;simp_all
    exact ⟨v0,v1,d0,d1,rfl,e0,(by first|exact openAgg rfl (hval 0 26 v0 rfl rfl) h0|exact openOne rfl (hval 0 26 v0 rfl rfl) h0),(by first|exact openAgg rfl (hval 1 50 v1 rfl rfl) h1|exact openOne rfl (hval 1 50 v1 rfl rfl) h1)⟩
  refine lawPost rfl (by kernel_rfl) (by rw [Tryz.params5];exact of_decide_eq_true (by kernel_rfl)) hW ?_ ?_
  · intro p hA
    obtain ⟨v0,v1,d0,d1,_,rfl,_⟩:=hopen p hA
    rfl
  · intro p hA
    obtain ⟨v0,v1,d0,d1,rfl,_,⟨a0,h0⟩,⟨a1,h1⟩⟩:=hopen p hA
    exact lawCPlans h0 h1
theorem LG:Rows.CompilePlansSaid :=
  OpenClaim.holds_of_wide 5 Tryz.f5 rfl rfl rfl rfl rfl rfl rfl ⟨rfl,rfl,rfl,rfl,rfl⟩ rfl rfl rfl rfl rfl (by kernel_rfl) Tryz.func5 (by kernel_rfl)
    (of_decide_eq_true (by kernel_rfl)) (by unfold Func.isWrapper;first|(rw [if_pos (by decide +kernel)];kernel_rfl)|(rw [if_neg (by decide +kernel)];exact ⟨rfl,rfl⟩))
    (fun os started H enc _=>KL os started H enc)
theorem compilePlans_holds:Rows.CompilePlansCardSaid :=
  Claim7.holds_tied_plain_at .later [] [.data, .data, .data] true (true, "34bf7b83ccd1ea9b6c8ba645e64f1db955c21e4cca4b8b45735daa4898591402") true
    LG (fun _ h=>by cases h) (by kernel_rfl) (fun _ h=>by cases h) compilePlans_row_tie rfl ⟨rfl,rfl⟩ (by kernel_rfl) rfl
    (fun f fn hf hfn=>by
      obtain rfl : f = 5 := Option.some.inj ((show Tryz.prog.funcNamed "stratagem/stratagemlaw56.CompilePlans" = some 5 by kernel_rfl).symm.trans hf) |>.symm
      obtain rfl:fn=Tryz.f5:=(Option.some.inj (Tryz.func5.symm.trans hfn)).symm
      exact ⟨by kernel_rfl,fun j t ht=>by
        rw [Tryz.params5] at ht
        have hm:t∈[26,50]:=by simpa using Array.mem_of_getElem? ht
        have hall:([26,50].all fun u=>!Tryz.prog.wantsStandIn u)=true:=by kernel_rfl
        exact (show Tryz.prog.wantsStandIn t=false by simpa using List.all_eq_true.1 hall t hm)⟩)
    (by kernel_rfl)
#print axioms compilePlans_holds
end
end Go.Proofs.YtjohlgjklmagnaaGreatDoor

/- CompileTasks returns true for every temporal task, and it reads behind the call as before. No conditions. -/
import Derived.Test.YtjohlgjklmagnaaGreatDoorCTF
import Derived.Test.YtjohlgjklmagnaaGreatDoorRows
set_option linter.unusedVariables false
set_option linter.unusedSimpArgs false
namespace Go.Proofs.YtjohlgjklmagnaaGreatDoor
open Go Go.RowKit Go.Proofs.Tryz
section
open Go Go.RowKit
def hasV (l:List Fct) (v:Int):Bool:=l.any fun f=>decide (f.var=v)
def wrT (t:Tpl) (v:Int):Bool:=t.jobs.any fun j=>hasV j.atStart v || hasV j.atEnd v
def rdT (t:Tpl) (v:Int):Bool:=t.jobs.any fun j=>hasV j.start v || hasV j.fin v
abbrev Ky:=Nat×Nat
def mkK (t:Tpl) (v:Nat):List Ky:=if wrT t (v:Int)=true then (3,v) :: (if rdT t (v:Int)=true then [(4,v)] else []) else []
def ksM (t:Tpl) (n:Nat):List Ky:=(List.range n).flatMap (mkK t)
def ksJ (n:Nat):List Ky:=(List.range n).flatMap fun i=>[(1,i),(2,i)]
def keys (t:Tpl):List Ky:=(List.range t.vars.length).map (fun v=>(0,v)) ++ (ksJ t.jobs.length ++ (ksM t t.vars.length ++ [(5,0)]))
def kpos (t:Tpl) (k:Ky):Nat :=
  if k.1=0 then k.2
  else if k.1=1 then t.vars.length + 2 * k.2
  else if k.1=2 then t.vars.length + 2 * k.2 + 1
  else if k.1=3 then t.vars.length + 2 * t.jobs.length + (ksM t k.2).length
  else if k.1=4 then t.vars.length + 2 * t.jobs.length + (ksM t k.2).length + 1
  else t.vars.length + 2 * t.jobs.length + (ksM t t.vars.length).length
theorem kpos0 (t:Tpl) (v:Nat):kpos t (0,v)=v:=rfl
theorem kpos1 (t:Tpl) (i:Nat):kpos t (1,i)=t.vars.length + 2 * i:=rfl
theorem kpos2 (t:Tpl) (i:Nat):kpos t (2,i)=t.vars.length + 2 * i + 1:=rfl
theorem kpos3 (t:Tpl) (v:Nat):kpos t (3,v)=t.vars.length + 2 * t.jobs.length + (ksM t v).length:=rfl
theorem kpos4 (t:Tpl) (v:Nat):kpos t (4,v)=t.vars.length + 2 * t.jobs.length + (ksM t v).length + 1:=rfl
theorem kpos5 (t:Tpl):kpos t (5,0)=t.vars.length + 2 * t.jobs.length + (ksM t t.vars.length).length:=rfl
theorem Hm (t:Tpl) (n:Nat):ksM t (n + 1)=ksM t n ++ mkK t n:=by
  unfold ksM;rw [List.range_succ,List.flatMap_append];simp
theorem NN (n:Nat):ksJ (n + 1)=ksJ n ++ [(1,n),(2,n)]:=by
  unfold ksJ;rw [List.range_succ,List.flatMap_append];simp
theorem Ja:∀ n,(ksJ n).length=2 * n
  | 0=>rfl
  | n + 1=>by rw [NN,List.length_append,Ja n];simp;omega
theorem Im (t:Tpl):(keys t).length=t.vars.length + 2 * t.jobs.length + (ksM t t.vars.length).length + 1:=by
  unfold keys;simp [Ja];omega
def PosAt (t:Tpl) (l:List Ky) (o:Nat):Prop:=∀ i k,l[i]?=some k→kpos t k=o + i
theorem PosAt.app {t:Tpl} {a b:List Ky} {o:Nat} (ha:PosAt t a o) (hb:PosAt t b (o + a.length)):PosAt t (a ++ b) o:=fun i k h=>by
  by_cases hi:i < a.length
  · rw [List.getElem?_append_left hi] at h;exact ha i k h
  · rw [List.getElem?_append_right (by omega)] at h
    have:=hb _ k h;omega
theorem posM (t:Tpl):∀ n,PosAt t (ksM t n) (t.vars.length + 2 * t.jobs.length)
  | 0=>fun i k h=>by simp [ksM] at h
  | n + 1=>by
    rw [Hm]
    refine (posM t n).app fun i k h=>?_
    unfold mkK at h
    split at h
    · match i,h with
      | 0,h=>simp at h;subst h;rw [kpos3];omega
      | 1,h =>
        split at h
        · simp at h;subst h;rw [kpos4]
        · simp at h
      | i + 2,h =>
        split at h<;>simp at h
    · simp at h
theorem posJ (t:Tpl):∀ n,PosAt t (ksJ n) t.vars.length
  | 0=>fun i k h=>by simp [ksJ] at h
  | n + 1=>by
    rw [NN]
    refine (posJ t n).app fun i k h=>?_
    rw [Ja]
    match i,h with
    | 0,h=>simp at h;subst h;rw [kpos1];omega
    | 1,h=>simp at h;subst h;rw [kpos2]
    | i + 2,h=>simp at h
theorem NO (t:Tpl):PosAt t (keys t) 0:=by
  unfold keys
  refine PosAt.app (fun i k h=>?_) (PosAt.app ?_ (PosAt.app ?_ fun i k h=>?_))
  · rw [List.getElem?_map] at h
    obtain ⟨v,hv,rfl⟩:=Option.map_eq_some_iff.1 h
    obtain ⟨h1,h2⟩:=List.getElem?_eq_some_iff.1 hv
    simp at h2
    rw [kpos0];omega
  · simpa using posJ t t.jobs.length
  · simpa [Ja] using posM t t.vars.length
  · match i,h with
    | 0,h=>simp at h;subst h;rw [kpos5];simp [Ja]
    | i + 1,h=>simp at h
theorem Ju {t:Tpl} {k:Ky} (h:k∈keys t):(keys t)[kpos t k]?=some k:=by
  obtain ⟨i,hi⟩:=List.getElem?_of_mem h
  have:=NO t i k hi
  rw [this,Nat.zero_add];exact hi
theorem Rg {t:Tpl} {k:Ky} (h:k∈keys t):kpos t k < (keys t).length:=BR (Ju h)
theorem Qr {t:Tpl} {k k':Ky} (h:k∈keys t) (h':k'∈keys t) (e:kpos t k=kpos t k'):k=k':=by
  have h1:=Ju h
  have h2:=Ju h'
  rw [e,h2] at h1
  exact (Option.some.inj h1).symm
theorem Rh {t:Tpl} {v:Nat} {k:Ky}:k∈mkK t v↔(k=(3,v)∧wrT t (v:Int)=true)∨(k=(4,v)∧wrT t (v:Int)=true∧rdT t (v:Int)=true):=by
  unfold mkK
  by_cases h1:wrT t (v:Int)=true
  · by_cases h2:rdT t (v:Int)=true
    · simp [h1,h2]
    · simp [h1,h2]
  · simp [h1]
theorem Gb {t:Tpl} {k:Ky}:k∈keys t↔(k.1=0∧k.2 < t.vars.length)∨((k.1=1∨k.1=2)∧k.2 < t.jobs.length)∨(k.1=3∧k.2 < t.vars.length∧wrT t (k.2:Int)=true)∨(k.1=4∧k.2 < t.vars.length∧wrT t (k.2:Int)=true∧rdT t (k.2:Int)=true)∨k=(5,0):=by
  unfold keys ksJ ksM
  simp only [List.mem_append,List.mem_map,List.mem_range,List.mem_flatMap,List.mem_cons,List.not_mem_nil,or_false,Rh]
  obtain ⟨a,b⟩:=k
  constructor
  · rintro (⟨v,h,e⟩|⟨i,h,e|e⟩|⟨v,h,⟨e,h1⟩|⟨e,h1,h2⟩⟩|e)
    · cases e;exact .inl ⟨rfl,h⟩
    · cases e;exact .inr (.inl ⟨.inl rfl,h⟩)
    · cases e;exact .inr (.inl ⟨.inr rfl,h⟩)
    · cases e;exact .inr (.inr (.inl ⟨rfl,h,h1⟩))
    · cases e;exact .inr (.inr (.inr (.inl ⟨rfl,h,h1,h2⟩)))
    · exact .inr (.inr (.inr (.inr e)))
  · rintro (⟨rfl,h⟩|⟨rfl|rfl,h⟩|⟨rfl,h,h1⟩|⟨rfl,h,h1,h2⟩|e)
    · exact .inl ⟨b,h,rfl⟩
    · exact .inr (.inl ⟨b,h,.inl rfl⟩)
    · exact .inr (.inl ⟨b,h,.inr rfl⟩)
    · exact .inr (.inr (.inl ⟨b,h,.inl ⟨rfl,h1⟩⟩))
    · exact .inr (.inr (.inl ⟨b,h,.inr ⟨rfl,h1,h2⟩⟩))
    · exact .inr (.inr (.inr e))
abbrev KSt:=Ky→Int
def enc (t:Tpl) (σ:KSt):List Int:=(keys t).map σ
abbrev KF:=Ky×Int
def toF (t:Tpl) (x:KF):Fct:=⟨(kpos t x.1:Int),x.2⟩
def toE (t:Tpl) (x:KF):Eff:=⟨[],(kpos t x.1:Int),x.2⟩
end
section
open Go Go.RowKit
theorem factsPw {vars:List Int} {f:List Fct}:FactsOk vars f↔(∀ x∈f,FactOk vars x)∧f.Pairwise fun x y=>x.var < y.var:=by
  constructor
  · intro h
    refine ⟨fun x hx=>?_,List.pairwise_iff_getElem.2 fun i j hi hj hij=>LL h j i _ _ hij (List.getElem?_eq_getElem hi) (List.getElem?_eq_getElem hj)⟩
    obtain ⟨i,hi,rfl⟩:=List.getElem_of_mem hx
    exact h.1 i _ (List.getElem?_eq_getElem hi)
  · rintro ⟨h1,h2⟩
    refine ⟨fun i x hx=>h1 x (List.mem_of_getElem? hx),fun i x y hx hy=>?_⟩
    obtain ⟨hi,rfl⟩:=List.getElem?_eq_some_iff.1 hx
    obtain ⟨hj,rfl⟩:=List.getElem?_eq_some_iff.1 hy
    exact List.pairwise_iff_getElem.1 h2 i (i + 1) hi hj (Nat.lt_succ_self i)
theorem Hn {vars:List Int} {x:Fct} (h:FactOk vars x):0≤x.var∧x.var < vars.length:=by
  obtain ⟨h1,_,y,h3,_⟩:=h
  have:=BR h3
  omega
theorem TplOk.goal {t:Tpl} (h:TplOk t):t.goal.length≤64∧FactsOk t.vars t.goal:=h.lists _ List.mem_cons_self
def jb (t:Tpl) (i:Nat):Job:=match t.jobs[i]? with|some j=>j|none=>⟨⟨#[]⟩,1,[],[],[],[],[]⟩
theorem Nh {t:Tpl} {i:Nat} {j:Job} (h:t.jobs[i]?=some j):jb t i=j:=by unfold jb;rw [h]
theorem Mb {t:Tpl} {i:Nat} (h:i < t.jobs.length):jb t i∈t.jobs:=by
  unfold jb;rw [List.getElem?_eq_getElem h];exact List.getElem_mem h
def factsK (l:List Fct):List KF:=l.map fun f=>((0,f.var.toNat),f.val)
def needK1 (t:Tpl) (r w:List Fct) (v:Nat):List KF :=
  if hasV w (v:Int)=true then ((3,v),0) :: (if rdT t (v:Int)=true then [((4,v),0)] else [])
  else if hasV r (v:Int)=true∧wrT t (v:Int)=true then [((3,v),0)] else []
def becK1 (t:Tpl) (r w:List Fct) (v:Nat):List KF :=
  if hasV w (v:Int)=true then [((3,v),1)]
  else if hasV r (v:Int)=true∧wrT t (v:Int)=true then [((4,v),1)] else []
def needK (t:Tpl) (r w:List Fct) (n:Nat):List KF:=(List.range n).flatMap (needK1 t r w)
def becK (t:Tpl) (r w:List Fct) (n:Nat):List KF:=(List.range n).flatMap (becK1 t r w)
abbrev Hh:=Nat×Bool
def hR (t:Tpl) (h:Hh):List Fct:=if h.2=true then (jb t h.1).fin else (jb t h.1).start
def hW (t:Tpl) (h:Hh):List Fct:=if h.2=true then (jb t h.1).atEnd else (jb t h.1).atStart
structure KO where
  name:ByteArray
  cost:Int
  pre:List KF
  effs:List KF
def stN:ByteArray:=⟨#[115,116,97,114,116,32]⟩
def enN:ByteArray:=⟨#[101,110,100,32]⟩
def waN:ByteArray:=⟨#[119,97,105,116,32]⟩
def spN:ByteArray:=⟨#[32]⟩
def tiN:ByteArray:=⟨#[116,105,99,107]⟩
def adN:ByteArray:=⟨#[97,100,118,97,110,99,101]⟩
def ownP (t:Tpl) (h:Hh):List KF:=if h.2=true then [((1,h.1),(jb t h.1).dur + 1)] else [((1,h.1),0),((2,h.1),0)]
def ownE (t:Tpl) (h:Hh):List KF:=if h.2=true then [((1,h.1),0),((2,h.1),1)] else [((1,h.1),(jb t h.1).dur)]
def hapO (t:Tpl) (h:Hh):KO:=⟨(if h.2=true then enN else stN) ++ (jb t h.1).name,0,factsK (hR t h) ++ ownP t h ++ [((5,0),0)] ++ needK t (hR t h) (hW t h) t.vars.length,factsK (hW t h) ++ ownE t h ++ becK t (hR t h) (hW t h) t.vars.length⟩
def tickO:KO:=⟨tiN,0,[((5,0),0)],[((5,0),1)]⟩
def waitE (t:Tpl) (i:Nat) (k:Nat):List KF:=if 1 < k then [((1,i),(k:Int) - 1)] else if k=1 then [((1,i),(jb t i).dur + 1)] else []
def waitO (t:Tpl) (i:Nat) (k:Nat):KO:=⟨waN ++ (jb t i).name ++ spN ++ itoaB k,0,(if 0 < k then factsK (jb t i).over else []) ++ [((1,i),(k:Int)),((5,0),(i:Int) + 1)],waitE t i k ++ [((5,0),(i:Int) + 2)]⟩
def advO (t:Tpl):KO:=⟨adN,1,[((5,0),(t.jobs.length:Int) + 1)],(List.range t.jobs.length).map (fun i=>((2,i),0)) ++ ((ksM t t.vars.length).map fun k=>(k,0)) ++ [((5,0),0)]⟩
def hapL (t:Tpl) (n:Nat):List KO:=(List.range n).flatMap fun i=>[hapO t (i,false),hapO t (i,true)]
def waitL (t:Tpl) (n:Nat):List KO:=(List.range n).flatMap fun i=>(List.range ((jb t i).dur.toNat + 1)).map (waitO t i)
def opsK (t:Tpl):List KO:=hapL t t.jobs.length ++ (if t.jobs.length=0 then [] else tickO :: (waitL t t.jobs.length ++ [advO t]))
theorem Ke (t:Tpl) (n:Nat):hapL t (n + 1)=hapL t n ++ [hapO t (n,false),hapO t (n,true)]:=by
  unfold hapL;rw [List.range_succ,List.flatMap_append];simp
theorem DI (t:Tpl):∀ n,(hapL t n).length=2 * n
  | 0=>rfl
  | n + 1=>by rw [Ke,List.length_append,DI t n];simp;omega
theorem Jv (t:Tpl) (n:Nat):waitL t (n + 1)=waitL t n ++ (List.range ((jb t n).dur.toNat + 1)).map (waitO t n):=by
  unfold waitL;rw [List.range_succ,List.flatMap_append];simp
theorem PJ (t:Tpl) (n:Nat):(waitL t (n + 1)).length=(waitL t n).length + (jb t n).dur.toNat + 1:=by
  rw [Jv,List.length_append];simp;omega
end
section
open Go Go.RowKit
theorem Ri (t:Tpl) (l:List Lch):∃ b,Gt t l=some b∧(b=true→t.vars.length≤70∧t.jobs.length≤30∧l.length≤12∧t.goal.length≤80∧∀ j∈t.jobs,j.name.size≤300):=by
  unfold Gt
  by_cases h1:70 < (t.vars.length:Int)
  · rw [if_pos h1,Aj,Fd];exact ⟨_,rfl,fun h=>by cases h⟩
  rw [if_neg h1]
  by_cases h2:30 < (t.jobs.length:Int)
  · rw [if_pos h2,Aj,Fd];exact ⟨_,rfl,fun h=>by cases h⟩
  rw [if_neg h2]
  by_cases h3:12 < (l.length:Int)
  · rw [if_pos h3,Aj,Fd];exact ⟨_,rfl,fun h=>by cases h⟩
  rw [if_neg h3]
  by_cases h4:80 < (t.goal.length:Int)
  · rw [if_pos h4,Aj,Fd];exact ⟨_,rfl,fun h=>by cases h⟩
  rw [if_neg h4,Aj,Fu]
  rw [EE (fun j:Job=>decide (100 < wr (wr (wr (wr ((j.start.length:Int) + (j.over.length:Int)) + (j.fin.length:Int)) + (j.atStart.length:Int)) + (j.atEnd.length:Int))) || decide (300 < (j.name.size:Int))) false (fun k a hk=>by rw [Kt,Aj])]
  split
  · exact ⟨_,rfl,fun h=>by cases h⟩
  · rename_i h5
    refine ⟨_,rfl,fun _=>⟨by omega,by omega,by omega,by omega,fun j hj=>?_⟩⟩
    simp only [List.any_eq_true,not_exists,not_and,Bool.or_eq_true,decide_eq_true_eq,not_or] at h5
    have:=(h5 j hj).2
    omega
theorem Rj {l:List Int} (h:l.length≤1000):Ct l=some l:=if_pos ⟨by omega,by omega⟩
theorem NP {l:List Fct} (h:l.length≤1000):BD l=some l:=if_pos ⟨by omega,by omega⟩
end
section
open Go Go.RowKit
section
variable {t : Tpl}
theorem QO {i:Nat} (h:¬ i < t.jobs.length):jb t i=⟨⟨#[]⟩,1,[],[],[],[],[]⟩:=by
  unfold jb;rw [List.getElem?_eq_none (by omega)]
theorem nilOk (vars:List Int):FactsOk vars []:=⟨fun i x hx=>by simp at hx,fun i x y hx=>by simp at hx⟩
theorem TplOk.job (ht:TplOk t) (i:Nat) {l:List Fct} (hl:l∈lstJ (jb t i)):FactsOk t.vars l:=by
  by_cases h:i < t.jobs.length
  · exact (ht.lists l (List.mem_cons_of_mem _ (List.mem_flatMap.2 ⟨_,Mb h,hl⟩))).2
  · rw [QO h] at hl
    have:l=[]:=by simpa [lstJ] using hl
    subst this;exact nilOk _
theorem TplOk.hR (ht:TplOk t) (h:Hh):FactsOk t.vars (hR t h):=by
  unfold Go.Proofs.YtjohlgjklmagnaaGreatDoor.hR
  split
  · exact ht.job h.1 (by simp [lstJ])
  · exact ht.job h.1 (by simp [lstJ])
theorem TplOk.hW (ht:TplOk t) (h:Hh):FactsOk t.vars (hW t h):=by
  unfold Go.Proofs.YtjohlgjklmagnaaGreatDoor.hW
  split
  · exact ht.job h.1 (by simp [lstJ])
  · exact ht.job h.1 (by simp [lstJ])
theorem TplOk.over (ht:TplOk t) (i:Nat):FactsOk t.vars (jb t i).over:=ht.job i (by simp [lstJ])
theorem TplOk.dur (ht:TplOk t) (i:Nat):1≤(jb t i).dur∧(jb t i).dur≤62:=by
  by_cases h:i < t.jobs.length
  · exact ht.durs _ (Mb h)
  · rw [QO h];exact ⟨by decide,by decide⟩
theorem Jb {h:Hh} (hi:h.1 < t.jobs.length) {v:Int} (hv:hasV (hW t h) v=true):wrT t v=true:=by
  unfold wrT
  rw [List.any_eq_true]
  refine ⟨_,Mb hi,?_⟩
  unfold Go.Proofs.YtjohlgjklmagnaaGreatDoor.hW at hv
  split at hv<;>simp [hv]
theorem Mc {h:Hh} (hi:h.1 < t.jobs.length) {v:Int} (hv:hasV (hR t h) v=true):rdT t v=true:=by
  unfold rdT
  rw [List.any_eq_true]
  refine ⟨_,Mb hi,?_⟩
  unfold Go.Proofs.YtjohlgjklmagnaaGreatDoor.hR at hv
  split at hv<;>simp [hv]
def gst (t:Tpl) (s:List Int) (q:Nat→Int) (hs:List Hh) (p:Int):KSt:=fun k =>
  if k.1=0 then (s[k.2]?).getD 0
  else if k.1=1 then q k.2
  else if k.1=2 then (if (k.2,true)∈hs then 1 else 0)
  else if k.1=3 then (if hs.any (fun h=>hasV (hW t h) (k.2:Int))=true then 1 else 0)
  else if k.1=4 then (if hs.any (fun h=>hasV (hR t h) (k.2:Int) && !hasV (hW t h) (k.2:Int))=true then 1 else 0)
  else p
section
variable {s : List Int} {q : Nat → Int} {hs : List Hh} {p : Int}
theorem Md {l:List Fct} {x:KF}:x∈factsK l↔∃ f∈l,x=((0,f.var.toNat),f.val):=by
  unfold factsK;rw [List.mem_map]
  exact ⟨fun ⟨f,h1,h2⟩=>⟨f,h1,h2.symm⟩,fun ⟨f,h1,h2⟩=>⟨f,h1,h2.symm⟩⟩
end
end
end
section
open Go Go.RowKit
section
variable {t : Tpl} {s : List Int} {q : Nat → Int} {hs : List Hh} {p : Int}
theorem Gg {l:List Fct} {x:KF} (h:x∈factsK l):x.1.1=0:=by
  obtain ⟨f,_,rfl⟩:=Md.1 h;rfl
theorem Qs {r w:List Fct} {n:Nat} {x:KF}:x∈becK t r w n↔∃ v,v < n∧((x=((3,v),1)∧hasV w (v:Int)=true)∨(x=((4,v),1)∧hasV w (v:Int)=false∧hasV r (v:Int)=true∧wrT t (v:Int)=true)):=by
  unfold becK
  simp only [List.mem_flatMap,List.mem_range]
  constructor
  · rintro ⟨v,hv,hx⟩
    refine ⟨v,hv,?_⟩
    unfold becK1 at hx
    split at hx
    · rename_i h1;exact .inl ⟨by simpa using hx,h1⟩
    · rename_i h1
      split at hx
      · rename_i h2;exact .inr ⟨by simpa using hx,by simpa using h1,h2⟩
      · cases hx
  · rintro ⟨v,hv,⟨rfl,h1⟩|⟨rfl,h1,h2⟩⟩
    · exact ⟨v,hv,by unfold becK1;rw [if_pos h1];simp⟩
    · exact ⟨v,hv,by unfold becK1;rw [if_neg (by rw [h1];decide),if_pos h2];simp⟩
theorem Kf {r w:List Fct} {n:Nat} {x:KF} (h:x∈needK t r w n):∃ v,v < n∧(((x=((3,v),0)∨(x=((4,v),0)∧rdT t (v:Int)=true))∧hasV w (v:Int)=true)∨(x=((3,v),0)∧hasV r (v:Int)=true∧wrT t (v:Int)=true)):=by
  unfold needK at h
  simp only [List.mem_flatMap,List.mem_range] at h
  obtain ⟨v,hv,hx⟩:=h
  refine ⟨v,hv,?_⟩
  unfold needK1 at hx
  split at hx
  · rename_i h1
    refine .inl ⟨?_,h1⟩
    rcases List.mem_cons.1 hx with h|h
    · exact .inl h
    · split at h
      · rename_i h2;exact .inr ⟨by simpa using h,h2⟩
      · cases h
  · split at hx
    · rename_i h2;exact .inr ⟨by simpa using hx,h2⟩
    · cases hx
theorem Qt {h:Hh} {x:KF} (hx:x∈ownE t h):(x.1.1=1∨x.1.1=2)∧x.1.2=h.1:=by
  unfold ownE at hx
  split at hx
  · have:x=((1,h.1),0)∨x=((2,h.1),1):=by simpa using hx
    rcases this with rfl|rfl
    · exact ⟨.inl rfl,rfl⟩
    · exact ⟨.inr rfl,rfl⟩
  · have:x=((1,h.1),(jb t h.1).dur):=by simpa using hx
    subst this;exact ⟨.inl rfl,rfl⟩
end
end
section
open Go Go.RowKit
section
variable {t : Tpl} {s : List Int} {q : Nat → Int} {hs : List Hh} {p : Int} {u : Tsk}
theorem key0 (ht:TplOk t) {l:List Fct} (hl:FactsOk t.vars l) {x:KF} (hx:x∈factsK l):x.1∈keys t:=by
  obtain ⟨f,hf,rfl⟩:=Md.1 hx
  have:=Hn ((factsPw.1 hl).1 f hf)
  exact Gb.2 (.inl ⟨rfl,by simp only;omega⟩)
theorem key1 {i:Nat} (h:i < t.jobs.length):((1,i):Ky)∈keys t:=Gb.2 (.inr (.inl ⟨.inl rfl,h⟩))
theorem key2 {i:Nat} (h:i < t.jobs.length):((2,i):Ky)∈keys t:=Gb.2 (.inr (.inl ⟨.inr rfl,h⟩))
theorem key3 {v:Nat} (h:v < t.vars.length) (hw:wrT t (v:Int)=true):((3,v):Ky)∈keys t:=Gb.2 (.inr (.inr (.inl ⟨rfl,h,hw⟩)))
theorem key4 {v:Nat} (h:v < t.vars.length) (hw:wrT t (v:Int)=true) (hr:rdT t (v:Int)=true):((4,v):Ky)∈keys t:=Gb.2 (.inr (.inr (.inr (.inl ⟨rfl,h,hw,hr⟩))))
theorem key5:((5,0):Ky)∈keys t:=Gb.2 (.inr (.inr (.inr (.inr rfl))))
def KOk (t:Tpl) (o:KO):Prop:=(∀ x∈o.pre,x.1∈keys t)∧∀ x∈o.effs,x.1∈keys t
theorem Rk (ht:TplOk t) {h:Hh} (hi:h.1 < t.jobs.length):KOk t (hapO t h):=by
  unfold KOk hapO
  simp only [List.mem_append,or_imp,forall_and]
  refine ⟨⟨⟨⟨fun x hx=>key0 ht (ht.hR h) hx,fun x hx=>?_⟩,fun x hx=>?_⟩,fun x hx=>?_⟩,⟨fun x hx=>key0 ht (ht.hW h) hx,fun x hx=>?_⟩,fun x hx=>?_⟩
  · unfold ownP at hx
    split at hx
    · have:x=((1,h.1),(jb t h.1).dur + 1):=by simpa using hx
      subst this;exact key1 hi
    · have:x=((1,h.1),0)∨x=((2,h.1),0):=by simpa using hx
      rcases this with rfl|rfl
      · exact key1 hi
      · exact key2 hi
  · have:x=((5,0),0):=by simpa using hx
    subst this;exact key5
  · obtain ⟨v,hv,⟨hh|⟨hh,h2⟩,h1⟩|⟨hh,h1,h2⟩⟩:=Kf hx
    · subst hh;exact key3 hv (Jb hi h1)
    · subst hh;exact key4 hv (Jb hi h1) h2
    · subst hh;exact key3 hv h2
  · obtain ⟨h1,h2⟩:=Qt hx
    obtain ⟨⟨a,b⟩,c⟩:=x
    simp only at h1 h2
    subst h2
    rcases h1 with rfl|rfl
    · exact key1 hi
    · exact key2 hi
  · obtain ⟨v,hv,⟨rfl,h1⟩|⟨rfl,_,h1,h2⟩⟩:=Qs.1 hx
    · exact key3 hv (Jb hi h1)
    · exact key4 hv h2 (Mc hi h1)
theorem Qu (ht:TplOk t) {i k:Nat} (hi:i < t.jobs.length):KOk t (waitO t i k):=by
  unfold KOk waitO
  simp only [List.mem_append,or_imp,forall_and]
  refine ⟨⟨fun x hx=>?_,fun x hx=>?_⟩,fun x hx=>?_,fun x hx=>?_⟩
  · split at hx
    · exact key0 ht (ht.over i) hx
    · cases hx
  · have:x=((1,i),(k:Int))∨x=((5,0),(i:Int) + 1):=by simpa using hx
    rcases this with rfl|rfl
    · exact key1 hi
    · exact key5
  · unfold waitE at hx
    split at hx
    · have:x=((1,i),(k:Int) - 1):=by simpa using hx
      subst this;exact key1 hi
    · split at hx
      · have:x=((1,i),(jb t i).dur + 1):=by simpa using hx
        subst this;exact key1 hi
      · cases hx
  · have:x=((5,0),(i:Int) + 2):=by simpa using hx
    subst this;exact key5
end
end
section
open Go Go.RowKit
def toO (t:Tpl) (o:KO):Opr:=⟨o.name,o.cost,AG (o.pre.map (toF t)),o.effs.map (toE t)⟩
def jvs (js:List Job):List Int:=js.flatMap fun j=>[j.dur + 2,2]
def vrs (t:Tpl):List Int:=t.vars ++ (jvs t.jobs ++ (List.replicate (ksM t t.vars.length).length (2:Int) ++ [(t.jobs.length:Int) + 2]))
def wrP (t:Tpl) (n:Nat):List Int:=(List.range n).map fun v:Nat=>if wrT t (v:Int)=true then (kpos t (3,v):Int) else -1
def rdP (t:Tpl) (n:Nat):List Int:=(List.range n).map fun v:Nat=>if wrT t (v:Int)=true∧rdT t (v:Int)=true then (kpos t (4,v):Int) else -1
def layP (t:Tpl):Lay:=⟨(t.vars.length:Int),wrP t t.vars.length,rdP t t.vars.length,(kpos t (5,0):Int),vrs t⟩
def cTask (t:Tpl):Tsk:=⟨vrs t,enc t (gst t t.init (fun _=>0) [] 0),(factsK t.goal ++ (List.range t.jobs.length).map (fun i=>(((1,i):Ky),(0:Int))) ++ [((5,0),0)]).map (toF t),(opsK t).map (toO t)⟩
section
variable {t : Tpl}
theorem boolI (b:Bool):(if b=true then some true else some false:Option Bool)=some b:=by cases b<;>rfl
theorem Gh (l:List Fct) (v:Int):Ca l v=some (hasV l v):=by
  unfold Ca Bg Bl
  rw [Il (fun f:Fct=>decide (f.var=v)) fun k a hk=>by
    unfold CP
    by_cases h:a.var=v<;>simp [h,Aj]]
  rw [Aj,boolI,Aj]
  rfl
theorem RM (v:Int):Be t.jobs v=some (wrT t v):=by
  unfold Be Bt
  rw [Il (fun j:Job=>hasV j.atStart v || hasV j.atEnd v) fun k a hk=>by
    unfold DG
    rw [Gh,Gh,Aj,Aj]
    cases hasV a.atStart v<;>cases hasV a.atEnd v<;>rfl]
  rfl
theorem RN (v:Int):Bf t.jobs v=some (rdT t v):=by
  unfold Bf Bu
  rw [Il (fun j:Job=>hasV j.start v || hasV j.fin v) fun k a hk=>by
    unfold DH
    rw [Gh,Gh,Aj,Aj]
    cases hasV a.start v<;>cases hasV a.fin v<;>rfl]
  rfl
theorem Gi:∀ js:List Job,(jvs js).length=2 * js.length
  | []=>rfl
  | j :: js=>by
    have:=Gi js
    unfold jvs at *
    rw [List.flatMap_cons,List.length_append,this]
    simp;omega
theorem Rl (v:Nat):(mkK t v).length≤2:=by
  unfold mkK
  split
  · split<;>simp
  · simp
theorem Gc:∀ n,(ksM t n).length≤2 * n
  | 0=>by simp [ksM]
  | n + 1=>by
    have:=Gc n
    have:=Rl (t:=t) n
    rw [Hm,List.length_append];omega
theorem Ku (a b:Nat):List.replicate (a + b) (2:Int)=List.replicate a 2 ++ List.replicate b 2:=by rw [List.replicate_append_replicate]
theorem RO (ht:TplOk t):DV t=some (layP t):=by
  have hn:=ht.nv
  have hj:=ht.nj
  unfold DV
  rw [Rj (by omega),Aj]
  rw [CE (fun k=>t.vars ++ jvs (t.jobs.take k)) (by simp [jvs]) (fun k j hk=>by
    have hd:=ht.durs j (List.mem_of_getElem? hk)
    have hl:(t.vars ++ jvs (t.jobs.take k)).length≤200:=by rw [List.length_append,Gi,List.length_take];omega
    rw [BX (by unfold inI64;omega),Aj,AW (by simp only [List.length_cons,List.length_nil];omega) (by simp only [List.length_cons,List.length_nil];omega),Aj,List.take_add_one,hk]
    unfold jvs
    simp)]
  rw [Aj,BQ,List.take_length]
  have hk3:∀ k,(t.vars ++ (jvs t.jobs ++ List.replicate (ksM t k).length (2:Int))).length=kpos t (3,k):=fun k=>by
    rw [kpos3];simp [Gi];omega
  rw [CE (fun k=>(wrP t k,rdP t k,t.vars ++ (jvs t.jobs ++ List.replicate (ksM t k).length (2:Int)))) (by simp [wrP,rdP,ksM]) (fun k x hk=>by
    have hlt:=BR hk
    have hl:=hk3 k
    have hle:=Gc (t:=t) k
    have hb:kpos t (3,k)≤300:=by rw [kpos3];omega
    have e1:(wrP t k).length=k:=by unfold wrP;simp
    have e2:(rdP t k).length=k:=by unfold rdP;simp
    have ew:wrP t (k + 1)=wrP t k ++ [if wrT t (k:Int)=true then (kpos t (3,k):Int) else -1]:=by unfold wrP;rw [List.range_succ,List.map_append];rfl
    have er:rdP t (k + 1)=rdP t k ++ [if wrT t (k:Int)=true∧rdT t (k:Int)=true then (kpos t (4,k):Int) else -1]:=by unfold rdP;rw [List.range_succ,List.map_append];rfl
    dsimp only
    rw [RM,Aj,hl,ew,er,Hm]
    by_cases h1:wrT t (k:Int)=true
    · rw [if_pos h1,if_pos h1,AW (by rw [hl];simp;omega) (by rw [hl];simp;omega),Aj,RN,Aj]
      by_cases h2:rdT t (k:Int)=true
      · rw [if_pos h2,if_pos ⟨h1,h2⟩,AW (by rw [List.length_append,hl];simp;omega) (by rw [List.length_append,hl];simp;omega),Aj,Aj]
        dsimp only
        rw [AW (by rw [e1];simp;omega) (by rw [e1];simp;omega),Aj,AW (by rw [e2];simp;omega) (by rw [e2];simp;omega),Aj]
        have em:mkK t k=[(3,k),(4,k)]:=by unfold mkK;rw [if_pos h1,if_pos h2]
        have e4:(((t.vars ++ (jvs t.jobs ++ List.replicate (ksM t k).length (2:Int)) ++ [2]).length:Nat):Int)=(kpos t (4,k):Int):=by rw [List.length_append,hl,kpos3,kpos4];simp
        rw [e4,em,List.length_append,Ku]
        simp
      · rw [if_neg h2,if_neg (fun h=>h2 h.2),Aj]
        dsimp only
        rw [AW (by rw [e1];simp;omega) (by rw [e1];simp;omega),Aj,AW (by rw [e2];simp;omega) (by rw [e2];simp;omega),Aj]
        have em:mkK t k=[(3,k)]:=by unfold mkK;rw [if_pos h1,if_neg h2]
        rw [em,List.length_append,Ku]
        simp
    · rw [if_neg h1,if_neg h1,if_neg (fun h=>h1 h.1),Aj]
      dsimp only
      rw [AW (by rw [e1];simp;omega) (by rw [e1];simp;omega),Aj,AW (by rw [e2];simp;omega) (by rw [e2];simp;omega),Aj]
      have em:mkK t k=[]:=by unfold mkK;rw [if_neg h1]
      rw [em,List.append_nil])]
  rw [Aj,BQ]
  dsimp only
  have hl:=hk3 t.vars.length
  have hle:=Gc (t:=t) t.vars.length
  have e5:kpos t (3,t.vars.length)=kpos t (5,0):=by rw [kpos3,kpos5]
  have hb:kpos t (3,t.vars.length)≤300:=by rw [kpos3];omega
  rw [BX (by unfold inI64;omega),Aj,hl,AW (by rw [hl];simp;omega) (by rw [hl];simp;omega),Aj,e5]
  unfold layP vrs
  simp
theorem MK (ht:TplOk t) {i:Nat} (hi:i < t.jobs.length):Bz (layP t) (i:Int)=some (kpos t (1,i):Int):=by
  have:=ht.nv
  have:=ht.nj
  unfold Bz layP
  rw [BX (by unfold inI64;omega),Aj,BX (by unfold inI64;dsimp only;omega),Aj,kpos1]
  dsimp only
  congr 1
theorem NQ (ht:TplOk t) {i:Nat} (hi:i < t.jobs.length):Cj (layP t) (i:Int)=some (kpos t (2,i):Int):=by
  have:=ht.nv
  have:=ht.nj
  unfold Cj layP
  rw [BX (by unfold inI64;omega),Aj,BX (by unfold inI64;dsimp only;omega),Aj,BX (by unfold inI64;dsimp only;omega),Aj,kpos2]
  dsimp only
  congr 1
theorem HQ (r w:List Fct) (n:Nat):needK t r w (n + 1)=needK t r w n ++ needK1 t r w n:=by
  unfold needK;rw [List.range_succ,List.flatMap_append];simp
theorem Kg (r w:List Fct) (n:Nat):becK t r w (n + 1)=becK t r w n ++ becK1 t r w n:=by
  unfold becK;rw [List.range_succ,List.flatMap_append];simp
theorem HC (r w:List Fct):∀ n,(needK t r w n).length≤2 * n
  | 0=>by simp [needK]
  | n + 1=>by
    have:=HC r w n
    rw [HQ,List.length_append]
    have:(needK1 t r w n).length≤2:=by
      unfold needK1
      split
      · split<;>simp
      · split<;>simp
    omega
theorem In (r w:List Fct):∀ n,(becK t r w n).length≤2 * n
  | 0=>by simp [becK]
  | n + 1=>by
    have:=In r w n
    rw [Kg,List.length_append]
    have:(becK1 t r w n).length≤2:=by
      unfold becK1
      split
      · simp
      · split<;>simp
    omega
theorem Kv {v:Nat} (hv:v < t.vars.length):(wrP t t.vars.length)[v]?=some (if wrT t (v:Int)=true then (kpos t (3,v):Int) else -1):=by
  unfold wrP;rw [List.getElem?_map,List.getElem?_range hv];rfl
theorem Kw {v:Nat} (hv:v < t.vars.length):(rdP t t.vars.length)[v]?=some (if wrT t (v:Int)=true∧rdT t (v:Int)=true then (kpos t (4,v):Int) else -1):=by
  unfold rdP;rw [List.getElem?_map,List.getElem?_range hv];rfl
theorem GQ:(wrP t t.vars.length).length=t.vars.length:=by unfold wrP;simp
theorem Qv (ht:TplOk t) {r w:List Fct} (hw:∀ v,hasV w v=true→wrT t v=true) (hr:∀ v,hasV r v=true→rdT t v=true):CA (layP t) r w=some ((needK t r w t.vars.length).map (toF t),(becK t r w t.vars.length).map (toE t)):=by
  have hn:=ht.nv
  unfold CA
  rw [show (layP t).write=wrP t t.vars.length from rfl,show (layP t).read=rdP t t.vars.length from rfl]
  rw [CE (fun k=>((needK t r w k).map (toF t),(becK t r w k).map (toE t))) (by rfl) (fun k a hk=>by
    have hlt:k < t.vars.length:=by have:=BR hk;rwa [GQ] at this
    rw [Kv hlt] at hk
    have ha:=(Option.some.inj hk).symm
    have n1:((needK t r w k).map (toF t)).length≤200:=by have:=HC (t:=t) r w k;rw [List.length_map];omega
    have n2:((becK t r w k).map (toE t)).length≤200:=by have:=In (t:=t) r w k;rw [List.length_map];omega
    dsimp only
    rw [Gh,Gh,Kw hlt,Aj,Aj,HQ,Kg,List.map_append,List.map_append]
    by_cases h1:hasV w (k:Int)=true
    · have hk1:=hw _ h1
      rw [if_pos hk1] at ha
      subst ha
      rw [if_pos h1,AW (by simp only [List.length_cons,List.length_nil];omega) (by simp only [List.length_cons,List.length_nil];omega),Aj]
      have e2:becK1 t r w k=[((3,k),1)]:=by unfold becK1;rw [if_pos h1]
      by_cases h2:rdT t (k:Int)=true
      · have e1:needK1 t r w k=[((3,k),0),((4,k),0)]:=by unfold needK1;rw [if_pos h1,if_pos h2]
        rw [if_pos ⟨hk1,h2⟩,Aj,if_pos (by omega),Aj,AW (by rw [List.length_append];simp only [List.length_cons,List.length_nil];omega) (by rw [List.length_append];simp only [List.length_cons,List.length_nil];omega),Aj,Aj]
        rw [AW (by simp only [List.length_cons,List.length_nil];omega) (by simp only [List.length_cons,List.length_nil];omega),Aj,e1,e2]
        simp [toF,toE]
      · have e1:needK1 t r w k=[((3,k),0)]:=by unfold needK1;rw [if_pos h1,if_neg h2]
        rw [if_neg (fun h=>h2 h.2),Aj,if_neg (by omega),Aj]
        rw [AW (by simp only [List.length_cons,List.length_nil];omega) (by simp only [List.length_cons,List.length_nil];omega),Aj,e1,e2]
        simp [toF,toE]
    · rw [if_neg h1]
      by_cases h3:hasV r (k:Int)=true∧wrT t (k:Int)=true
      · have e1:needK1 t r w k=[((3,k),0)]:=by unfold needK1;rw [if_neg h1,if_pos h3]
        have e2:becK1 t r w k=[((4,k),1)]:=by unfold becK1;rw [if_neg h1,if_pos h3]
        rw [if_pos h3.2] at ha
        subst ha
        rw [if_pos h3.1,if_pos (by omega),Aj,if_pos rfl,AW (by simp only [List.length_cons,List.length_nil];omega) (by simp only [List.length_cons,List.length_nil];omega),Aj,if_pos ⟨h3.2,hr _ h3.1⟩,Aj]
        rw [AW (by simp only [List.length_cons,List.length_nil];omega) (by simp only [List.length_cons,List.length_nil];omega),Aj,e1,e2]
        simp [toF,toE]
      · have e1:needK1 t r w k=[]:=by unfold needK1;rw [if_neg h1,if_neg h3]
        have e2:becK1 t r w k=[]:=by unfold becK1;rw [if_neg h1,if_neg h3]
        have key:(if hasV r (k:Int)=true then if 0≤a then (some true) else (some false) else some false:Option Bool)=some false:=by
          by_cases h4:hasV r (k:Int)=true
          · rw [if_pos h4,if_neg]
            rw [ha,if_neg fun h=>h3 ⟨h4,h⟩];decide
          · rw [if_neg h4]
        rw [key,Aj,if_neg (by decide),e1,e2]
        simp)]
  rw [Aj,BQ,GQ]
theorem factsF {l:List Fct} (hl:FactsOk t.vars l):(factsK l).map (toF t)=l:=by
  unfold factsK
  rw [List.map_map]
  refine (List.map_congr_left fun f hf=>?_).trans (List.map_id l)
  have:=(Hn ((factsPw.1 hl).1 f hf)).1
  unfold toF
  simp only [Function.comp,kpos0]
  rw [Int.toNat_of_nonneg this]
  rfl
theorem factsE {l:List Fct} (hl:FactsOk t.vars l):(factsK l).map (toE t)=l.map fun f=>(⟨[],f.var,f.val⟩:Eff):=by
  unfold factsK
  rw [List.map_map]
  refine List.map_congr_left fun f hf=>?_
  have:=(Hn ((factsPw.1 hl).1 f hf)).1
  unfold toE
  simp only [Function.comp,kpos0]
  rw [Int.toNat_of_nonneg this]
theorem concatF {a b c:List Fct} (h:a.length + b.length + c.length≤1000):BH [a,b,c]=some (a ++ b ++ c):=by
  unfold BH Cr
  simp only [rng]
  rw [BX (by unfold inI64;omega),Aj,if_neg (by omega)]
  dsimp only
  rw [BX (by unfold inI64;omega),Aj,if_neg (by omega)]
  dsimp only
  rw [BX (by unfold inI64;omega),Aj,if_neg (by omega)]
  dsimp only
  rw [Aj,BQ,if_pos ⟨by omega,by omega⟩,Aj]
  rw [AW (by simp;omega) (by simp;omega),Aj]
  dsimp only
  rw [AW (by simp;omega) (by simp;omega),Aj]
  dsimp only
  rw [AW (by simp;omega) (by simp;omega),Aj]
  dsimp only
  rw [Aj,BQ,List.nil_append]
theorem concatE {a b c:List Eff} (h:a.length + b.length + c.length≤1000):BA [a,b,c]=some (a ++ b ++ c):=by
  unfold BA Ce
  simp only [rng]
  rw [BX (by unfold inI64;omega),Aj,if_neg (by omega)]
  dsimp only
  rw [BX (by unfold inI64;omega),Aj,if_neg (by omega)]
  dsimp only
  rw [BX (by unfold inI64;omega),Aj,if_neg (by omega)]
  dsimp only
  rw [Aj,BQ,if_pos ⟨by omega,by omega⟩,Aj]
  rw [AW (by simp;omega) (by simp;omega),Aj]
  dsimp only
  rw [AW (by simp;omega) (by simp;omega),Aj]
  dsimp only
  rw [AW (by simp;omega) (by simp;omega),Aj]
  dsimp only
  rw [Aj,BQ,List.nil_append]
theorem Oz (ht:TplOk t) {h:Hh} (hi:h.1 < t.jobs.length) {name:ByteArray} (hn:name=(if h.2=true then enN else stN) ++ (jb t h.1).name) {more:List Fct} (hm:more=(ownP t h).map (toF t)) {ef:List Eff} (he:ef=(ownE t h).map (toE t)) :
    BS (layP t) name (hR t h) (hW t h) more ef=some (toO t (hapO t h)):=by
  have fr:=ht.hR h
  have fw:=ht.hW h
  have lr:=EP fr
  have lw:=EP fw
  have hv:=ht.nv
  have l1:(ownP t h).length≤2:=by unfold ownP;split<;>simp
  have l2:(ownE t h).length≤2:=by unfold ownE;split<;>simp
  have l3:=HC (t:=t) (hR t h) (hW t h) t.vars.length
  have l4:=In (t:=t) (hR t h) (hW t h) t.vars.length
  have l5:more.length≤2:=by rw [hm,List.length_map];exact l1
  have l6:ef.length≤2:=by rw [he,List.length_map];exact l2
  unfold BS
  rw [concatF (by simp only [List.length_cons,List.length_nil];omega),Aj]
  rw [CE (fun k=>((hW t h).take k).map fun f=>(⟨[],f.var,f.val⟩:Eff)) (by rfl) (fun k f hk=>by
    have:=BR hk
    rw [AW (by simp;omega) (by simp;omega),Aj,List.take_add_one,hk]
    simp)]
  rw [Aj,BQ,List.take_length,Qv ht (fun v hv=>Jb hi hv) (fun v hv=>Mc hi hv),Aj]
  dsimp only
  rw [AW (by simp;omega) (by simp;omega),Aj,concatE (by simp;omega),Aj,if_pos (by simp;omega),Aj]
  unfold toO hapO
  simp only [List.map_append,factsF fr,factsE fw,← hm,← he,← hn]
  rfl
theorem Gw {a b:ByteArray} (h:a.size + b.size≤1000):catI a b=some (a ++ b):=if_pos (by omega)
theorem Kx (f:Fct):AG [f]=[f]:=HW (.refl _) (List.pairwise_singleton _ _)
theorem Qw (ht:TplOk t) {i:Nat} (hi:i < t.jobs.length) {l:List Fct} (hl:FactsOk t.vars l) (a b:Int):AG (l ++ [⟨(kpos t (1,i):Int),a⟩,⟨(kpos t (5,0):Int),b⟩])=l ++ [⟨(kpos t (1,i):Int),a⟩,⟨(kpos t (5,0):Int),b⟩]:=by
  refine HW (.refl _) ?_
  rw [List.pairwise_append]
  refine ⟨(factsPw.1 hl).2,?_,fun x hx y hy=>?_⟩
  · refine .cons (fun y hy=>?_) (List.pairwise_singleton _ _)
    have:y=⟨(kpos t (5,0):Int),b⟩:=by simpa using hy
    subst this
    show (kpos t (1,i):Int) < (kpos t (5,0):Int)
    rw [kpos1,kpos5];omega
  · have h1:=Hn ((factsPw.1 hl).1 x hx)
    have:y=⟨(kpos t (1,i):Int),a⟩∨y=⟨(kpos t (5,0):Int),b⟩:=by simpa using hy
    rcases this with rfl|rfl
    · show x.var < (kpos t (1,i):Int)
      rw [kpos1];omega
    · show x.var < (kpos t (5,0):Int)
      rw [kpos5];omega
theorem NR (k:Nat):(itoaB k).size≤2:=Jl k
theorem Rm (ht:TplOk t) {i:Nat} (hi:i < t.jobs.length) (hnm:(jb t i).name.size≤300) {k:Nat} (hk:k≤(jb t i).dur.toNat):Cs (layP t) (jb t i) (i:Int) (k:Int)=some (toO t (waitO t i k)):=by
  have hd:=ht.dur i
  have hv:=ht.nv
  have hj:=ht.nj
  have fo:=ht.over i
  have lo:=EP fo
  have hs:=NR k
  have z1:waN.size=5:=rfl
  have z2:spN.size=1:=rfl
  unfold Cs
  rw [show (⟨#[119,97,105,116,32]⟩:ByteArray)=waN from rfl,show (⟨#[32]⟩:ByteArray)=spN from rfl]
  rw [Gw (by omega),Aj,Gw (by rw [ByteArray.size_append];omega),Aj,Ms,if_pos ⟨by omega,by omega⟩,Aj,Int.toNat_natCast,Gw (by rw [ByteArray.size_append,ByteArray.size_append];omega),Aj]
  have e1:(if 0 < (k:Int) then (bnd (BD (jb t i).over) fun q108=>some q108) else (some ([]:List Fct)):Option (List Fct))=some (if 0 < k then (jb t i).over else []):=by
    by_cases h0:0 < k
    · rw [if_pos (by omega),if_pos h0,NP (by omega),Aj]
    · rw [if_neg (by omega),if_neg h0]
  have lz:(if 0 < k then (jb t i).over else []).length≤64:=by
    split
    · omega
    · simp
  rw [e1,Aj,BX (by unfold inI64;omega),Aj,MK ht hi,Aj,AW (by simp only [List.length_cons,List.length_nil];omega) (by simp only [List.length_cons,List.length_nil];omega),Aj]
  have e2:(if 1 < (k:Int) then (bnd (chkI ((k:Int) - 1)) fun n161=>bnd (some (kpos t (1,i):Int)) fun q164=>bnd (appI 40 ([]:List Eff) [(⟨([]:List Fct),q164,n161⟩:Eff)]) fun u180=>some u180) else (if (k:Int)=1 then (bnd (chkI ((jb t i).dur + 1)) fun n194=>bnd (some (kpos t (1,i):Int)) fun q197=>bnd (appI 40 ([]:List Eff) [(⟨([]:List Fct),q197,n194⟩:Eff)]) fun u213=>some u213) else (some ([]:List Eff))):Option (List Eff))=some ((waitE t i k).map (toE t)):=by
    unfold waitE
    by_cases h1:1 < k
    · rw [if_pos (by omega),if_pos h1,BX (by unfold inI64;omega),Aj,Aj,AW (by simp) (by simp),Aj];rfl
    · rw [if_neg (by omega),if_neg h1]
      by_cases h2:k=1
      · rw [if_pos (by omega),if_pos h2,BX (by unfold inI64;omega),Aj,Aj,AW (by simp) (by simp),Aj];rfl
      · rw [if_neg (by omega),if_neg h2];rfl
  have lw:(waitE t i k).length≤1:=by
    unfold waitE
    split
    · simp
    · split<;>simp
  rw [e2,Aj,BX (by unfold inI64;omega),Aj,AW (by simp;omega) (by simp;omega),Aj]
  unfold toO waitO
  have e3:((if 0 < k then factsK (jb t i).over else []) ++ [((1,i),(k:Int)),((5,0),(i:Int) + 1)]:List KF).map (toF t)=(if 0 < k then (jb t i).over else []) ++ [⟨(kpos t (1,i):Int),(k:Int)⟩,⟨(kpos t (5,0):Int),(i:Int) + 1⟩]:=by
    rw [List.map_append]
    congr 1
    split
    · exact factsF fo
    · rfl
  rw [e3]
  dsimp only
  have hf:FactsOk t.vars (if 0 < k then (jb t i).over else []):=by
    split
    · exact fo
    · exact nilOk _
  rw [Qw ht hi hf,List.map_append]
  rfl
theorem RP (ht:TplOk t):Cf (layP t) (t.jobs.length:Int)=some (toO t (advO t)):=by
  have hv:=ht.nv
  have hj:=ht.nj
  unfold Cf
  rw [BX (by unfold inI64;omega),Aj,show natI (t.jobs.length:Int)=some t.jobs.length from by unfold natI;rw [if_pos (by omega)];simp,Aj]
  rw [IB (fun k=>((List.range k).map (fun i=>(((2,i):Ky),(0:Int)))).map (toE t)) (by rfl) (fun k hk=>by
    rw [NQ ht hk,Aj,AW (by simp;omega) (by simp;omega),Aj,List.range_succ]
    simp [toE])]
  rw [Aj,BQ]
  rw [show (layP t).write=wrP t t.vars.length from rfl,show (layP t).read=rdP t t.vars.length from rfl]
  rw [CE (fun k=>((List.range t.jobs.length).map (fun i=>(((2,i):Ky),(0:Int)))).map (toE t) ++ ((ksM t k).map fun y=>(y,(0:Int))).map (toE t)) (by simp [ksM]) (fun k a hk=>by
    have hlt:k < t.vars.length:=by have:=BR hk;rwa [GQ] at this
    rw [Kv hlt] at hk
    have ha:=(Option.some.inj hk).symm
    have hle:=Gc (t:=t) k
    have lm:(((List.range t.jobs.length).map (fun i=>(((2,i):Ky),(0:Int)))).map (toE t) ++ ((ksM t k).map fun y=>(y,(0:Int))).map (toE t)).length≤200:=by simp;omega
    rw [Kw hlt,Hm]
    simp only [Aj]
    by_cases h1:wrT t (k:Int)=true
    · rw [if_pos h1] at ha
      subst ha
      rw [if_pos (by omega),AW (by simp only [List.length_cons,List.length_nil];omega) (by simp only [List.length_cons,List.length_nil];omega),Aj,Aj]
      by_cases h2:rdT t (k:Int)=true
      · have em:mkK t k=[(3,k),(4,k)]:=by unfold mkK;rw [if_pos h1,if_pos h2]
        rw [if_pos (show wrT t (k:Int)=true∧rdT t (k:Int)=true from ⟨h1,h2⟩),if_pos (by omega),AW (by rw [List.length_append];simp only [List.length_cons,List.length_nil];omega) (by rw [List.length_append];simp only [List.length_cons,List.length_nil];omega),Aj,em]
        simp [toE]
      · have em:mkK t k=[(3,k)]:=by unfold mkK;rw [if_pos h1,if_neg h2]
        rw [if_neg (show ¬ (wrT t (k:Int)=true∧rdT t (k:Int)=true) from fun h=>h2 h.2),if_neg (by omega),em]
        simp [toE]
    · rw [if_neg h1] at ha
      have em:mkK t k=[]:=by unfold mkK;rw [if_neg h1]
      rw [if_neg (show ¬ (wrT t (k:Int)=true∧rdT t (k:Int)=true) from fun h=>h1 h.1),if_neg (show ¬ (0:Int)≤a by omega),Aj,if_neg (show ¬ (0:Int)≤-1 by omega),em,List.append_nil])]
  have hle:=Gc (t:=t) t.vars.length
  rw [Aj,BQ,GQ,AW (by simp;omega) (by simp;omega),Aj]
  unfold toO advO
  rw [show ([((5,0),(t.jobs.length:Int) + 1)]:List KF).map (toF t)=[(⟨(kpos t (5,0):Int),(t.jobs.length:Int) + 1⟩:Fct)] from rfl]
  dsimp only
  rw [Kx,List.map_append,List.map_append]
  rfl
theorem HD (ht:TplOk t):∀ n,(waitL t n).length≤63 * n
  | 0=>by simp [waitL]
  | n + 1=>by
    have:=HD ht n
    have:=ht.dur n
    rw [PJ];omega
theorem OA (ht:TplOk t):cpyL (List.replicate (vrs t).length (0:Int)) t.init=enc t (gst t t.init (fun _=>0) [] 0):=by
  have hi:=ht.init.1
  have hl:(vrs t).length=(keys t).length:=by rw [Im];unfold vrs;simp [Gi];omega
  refine List.ext_getElem? fun i=>?_
  unfold cpyL enc
  rw [List.length_replicate,hl,List.getElem?_map]
  by_cases h1:i < t.vars.length
  · rw [List.getElem?_append_left (by rw [List.length_take,Im];omega),List.getElem?_take]
    rw [if_pos (by rw [Im];omega)]
    have hk:=Ju (t:=t) (k:=(0,i)) (Gb.2 (.inl ⟨rfl,h1⟩))
    rw [kpos0] at hk
    rw [hk]
    obtain ⟨x,hx⟩:=BG (l:=t.init) (k:=i) (by omega)
    rw [hx]
    show some x=some ((t.init[i]?).getD 0)
    rw [hx];rfl
  · rw [List.getElem?_append_right (by rw [List.length_take];omega),List.length_take,Nat.min_eq_right (by rw [Im];omega),List.drop_replicate,List.getElem?_replicate]
    by_cases h2:i < (keys t).length
    · rw [if_pos (by omega),List.getElem?_eq_getElem h2]
      have hm:=List.getElem_mem h2
      have hp:=NO t i _ (List.getElem?_eq_getElem h2)
      generalize (keys t)[i]=k at hm hp
      show some 0=some (gst t t.init (fun _=>0) [] 0 k)
      rcases Gb.1 hm with ⟨g1,g2⟩|⟨g1|g1,_⟩|⟨g1,_⟩|⟨g1,_⟩|g1
      · obtain ⟨a,v⟩:=k;simp only at g1 g2;subst g1;rw [kpos0] at hp;omega
      · obtain ⟨a,v⟩:=k;simp only at g1;subst g1;rfl
      · obtain ⟨a,v⟩:=k;simp only at g1;subst g1;rfl
      · obtain ⟨a,v⟩:=k;simp only at g1;subst g1;rfl
      · obtain ⟨a,v⟩:=k;simp only at g1;subst g1;rfl
      · subst g1;rfl
    · rw [if_neg (by omega),List.getElem?_eq_none (by omega)];rfl
theorem Pb (h0:tck t=0) (hnm:∀ j∈t.jobs,j.name.size≤300):Cm t=some (if checkN (cTask t)≠0 then (⟨[],[],[],[]⟩,⟨checkN (cTask t)⟩) else (cTask t,⟨0⟩)):=by
  have ht:=PI h0
  have hv:=ht.nv
  have hj:=ht.nj
  have hg:=ht.goal
  have gl:=hg.1
  have lv:(vrs t).length≤300:=by
    have:=Gc (t:=t) t.vars.length
    unfold vrs;simp [Gi];omega
  unfold Cm
  rw [MJ (by omega),h0,Aj,if_neg (by simp),RO ht,Aj]
  rw [show (layP t).vars=vrs t from rfl,show (layP t).phase=(kpos t (5,0):Int) from rfl]
  rw [Pm (by omega) (by omega),Aj,NP (by omega),Aj]
  have z1:stN.size=6:=rfl
  have z2:enN.size=4:=rfl
  rw [CE (fun k=>(t.goal ++ ((List.range k).map (fun i=>(((1,i):Ky),(0:Int)))).map (toF t),(hapL t k).map (toO t))) (by simp [hapL]) (fun k j hk=>by
    have hlt:=BR hk
    have ej:=Nh hk
    have hn:=hnm j (List.mem_of_getElem? hk)
    have hd:=ht.durs j (List.mem_of_getElem? hk)
    have lh:((hapL t k).map (toO t)).length≤100:=by rw [List.length_map,DI];omega
    dsimp only
    rw [MK ht hlt,NQ ht hlt]
    simp only [Aj]
    rw [show (⟨#[115,116,97,114,116,32]⟩:ByteArray)=stN from rfl,show (⟨#[101,110,100,32]⟩:ByteArray)=enN from rfl]
    rw [Gw (by omega),Aj]
    have s1:=Oz ht (h:=(k,false)) hlt (name:=stN ++ j.name) (by rw [ej];rfl) (more:=[(⟨(kpos t (1,k):Int),0⟩:Fct),(⟨(kpos t (2,k):Int),0⟩:Fct)]) rfl (ef:=[(⟨([]:List Fct),(kpos t (1,k):Int),j.dur⟩:Eff)]) (by rw [← ej];rfl)
    have s2:=Oz ht (h:=(k,true)) hlt (name:=enN ++ j.name) (by rw [ej];rfl) (more:=[(⟨(kpos t (1,k):Int),j.dur + 1⟩:Fct)]) (by rw [← ej];rfl) (ef:=[(⟨([]:List Fct),(kpos t (1,k):Int),0⟩:Eff),(⟨([]:List Fct),(kpos t (2,k):Int),1⟩:Eff)]) rfl
    rw [show hR t (k,false)=j.start from by rw [← ej];rfl,show hW t (k,false)=j.atStart from by rw [← ej];rfl] at s1
    rw [show hR t (k,true)=j.fin from by rw [← ej];rfl,show hW t (k,true)=j.atEnd from by rw [← ej];rfl] at s2
    rw [s1,Aj,AW (by simp only [List.length_cons,List.length_nil];omega) (by simp only [List.length_cons,List.length_nil];omega),Aj,BX (by unfold inI64;omega),Aj,Gw (by omega),Aj,s2,Aj]
    rw [AW (by rw [List.length_append];simp only [List.length_cons,List.length_nil];omega) (by rw [List.length_append];simp only [List.length_cons,List.length_nil];omega),Aj]
    rw [AW (by simp;omega) (by simp;omega),Aj,Ke,List.range_succ]
    simp [toF])]
  rw [Aj,BQ]
  dsimp only
  rw [AW (by simp;omega) (by simp;omega),Aj]
  have eg:t.goal ++ ((List.range t.jobs.length).map (fun i=>(((1,i):Ky),(0:Int)))).map (toF t) ++ [(⟨(kpos t (5,0):Int),0⟩:Fct)]=(cTask t).goal:=by
    unfold cTask
    simp only [List.map_append,factsF hg.2]
    rfl
  have key:(if 0 < (t.jobs.length:Int) then (bnd (appI 72 ((hapL t t.jobs.length).map (toO t)) [(⟨(⟨#[116,105,99,107]⟩:ByteArray),0,[(⟨(kpos t (5,0):Int),0⟩:Fct)],[(⟨([]:List Fct),(kpos t (5,0):Int),1⟩:Eff)]⟩:Opr)]) fun u1057=>bnd (rng (ρ:=(List Opr)) (fun (k1077:Nat) (a1078:Job) (s1075:(List Opr))=>bnd (chkI (a1078.dur + 1)) fun n1128=>bnd (natI n1128) fun N1144=>bnd (rngN (ρ:=Ctl (List Opr) (List Opr)) (fun (k1135:Nat) (s1133:(List Opr))=>bnd (Cs (layP t) a1078 (k1077:Int) (k1135:Int)) fun q1150=>bnd (appI 72 s1133 [q1150]) fun u1174=>some (.next u1174)) N1144 s1075) fun res1131=>fin res1131 fun (s1191:(List Opr))=>some (.next s1191)) t.jobs 0 u1057) fun res1073=>fin res1073 fun (s1197:(List Opr))=>bnd (Cf (layP t) (t.jobs.length:Int)) fun q1201=>bnd (appI 72 s1197 [q1201]) fun u1225=>some u1225) else (some ((hapL t t.jobs.length).map (toO t))):Option (List Opr))=some ((opsK t).map (toO t)):=by
    have lh:((hapL t t.jobs.length).map (toO t)).length≤100:=by rw [List.length_map,DI];omega
    unfold opsK
    by_cases hz:t.jobs.length=0
    · rw [if_neg (by omega),if_pos hz,List.append_nil]
    · rw [if_pos (by omega),if_neg hz]
      have et:(⟨(⟨#[116,105,99,107]⟩:ByteArray),0,[(⟨(kpos t (5,0):Int),0⟩:Fct)],[(⟨([]:List Fct),(kpos t (5,0):Int),1⟩:Eff)]⟩:Opr)=toO t tickO:=by
        unfold toO tickO
        rw [show ([((5,0),0)]:List KF).map (toF t)=[(⟨(kpos t (5,0):Int),0⟩:Fct)] from rfl]
        dsimp only
        rw [Kx];rfl
      rw [et,AW (by simp only [List.length_cons,List.length_nil];omega) (by simp only [List.length_cons,List.length_nil];omega),Aj]
      rw [CE (fun k=>(hapL t t.jobs.length).map (toO t) ++ [toO t tickO] ++ (waitL t k).map (toO t)) (by simp [waitL]) (fun k j hk=>by
        have hlt:=BR hk
        have ej:=Nh hk
        have hn:=hnm j (List.mem_of_getElem? hk)
        have hd:=ht.durs j (List.mem_of_getElem? hk)
        have hw:=HD ht k
        have hN:natI (j.dur + 1)=some (j.dur.toNat + 1):=by unfold natI;rw [if_pos (by omega)];congr 1;omega
        rw [BX (by unfold inI64;omega),Aj,hN,Aj]
        rw [IB (fun m=>(hapL t t.jobs.length).map (toO t) ++ [toO t tickO] ++ (waitL t k).map (toO t) ++ ((List.range m).map (waitO t k)).map (toO t)) (by simp) (fun m hm=>by
          have:=Rm ht hlt (by rw [ej];exact hn) (k:=m) (by rw [ej];omega)
          rw [ej] at this
          rw [this,Aj,AW (by simp;rw [DI];omega) (by simp;rw [DI];omega),Aj,List.range_succ]
          simp)]
        rw [Aj,BQ,Jv,ej]
        simp)]
      have hw:=HD ht t.jobs.length
      rw [Aj,BQ,RP ht,Aj,AW (by simp;rw [DI];omega) (by simp;rw [DI];omega),Aj]
      simp
  rw [key,Aj,eg,OA ht]
  unfold FY
  rw [Aj]
  show (if checkN (cTask t)≠0 then _ else _)=_
  by_cases hc:checkN (cTask t)≠0
  · rw [if_pos hc,if_pos hc];rfl
  · rw [if_neg hc,if_neg hc];rfl
end
end
section
open Go Go.RowKit
section
variable {t : Tpl}
def KNd (l:List KF):Prop:=(l.map (·.1)).Nodup
theorem KNd.app {a b:List KF} (ha:KNd a) (hb:KNd b) (h:∀ x∈a,∀ y∈b,x.1≠y.1):KNd (a ++ b):=by
  unfold KNd at *
  rw [List.map_append,List.nodup_append]
  refine ⟨ha,hb,fun x hx y hy=>?_⟩
  obtain ⟨p,hp,rfl⟩:=List.mem_map.1 hx
  obtain ⟨q,hq,rfl⟩:=List.mem_map.1 hy
  exact h p hp q hq
theorem Kh {l:List Fct} (hl:FactsOk t.vars l):KNd (factsK l):=by
  unfold KNd factsK List.Nodup
  rw [List.map_map,List.pairwise_map]
  refine List.Pairwise.imp_of_mem (fun {a b} ha hb h=>?_) (factsPw.1 hl).2
  have h1:=(Hn ((factsPw.1 hl).1 a ha)).1
  simp only [Function.comp]
  intro e
  injection e with _ e
  omega
theorem NS (r w:List Fct):∀ n,KNd (needK t r w n)
  | 0=>by simp [KNd,needK]
  | n + 1 => by
    rw [HQ]
    refine (NS r w n).app ?_ fun x hx y hy=>?_
    · unfold KNd needK1
      split
      · split<;>simp
      · split<;>simp
    · have h1 : x.1.2 < n:=by
        obtain ⟨v,hv,⟨hh|⟨hh,_⟩,_⟩|⟨hh,_⟩⟩:=Kf hx
        · rw [hh];exact hv
        · rw [hh];exact hv
        · rw [hh];exact hv
      have h2 : y.1.2=n:=by
        unfold needK1 at hy
        split at hy
        · rcases List.mem_cons.1 hy with rfl|hy
          · rfl
          · split at hy
            · have:y=((4,n),0):=by simpa using hy
              rw [this]
            · cases hy
        · split at hy
          · have:y=((3,n),0):=by simpa using hy
            rw [this]
          · cases hy
      intro e
      rw [e,h2] at h1
      exact Nat.lt_irrefl _ h1
theorem Lu {h:Hh} {x:KF} (hx:x∈ownP t h):x.1.1=1∨x.1.1=2:=by
  unfold ownP at hx
  split at hx
  · have:x=((1,h.1),(jb t h.1).dur + 1):=by simpa using hx
    subst this;exact .inl rfl
  · have:x=((1,h.1),0)∨x=((2,h.1),0):=by simpa using hx
    rcases this with rfl|rfl
    · exact .inl rfl
    · exact .inr rfl
theorem PK {r w:List Fct} {n:Nat} {x:KF} (h:x∈needK t r w n):x.1.1=3∨x.1.1=4:=by
  obtain ⟨v,_,⟨hh|⟨hh,_⟩,_⟩|⟨hh,_⟩⟩:=Kf h
  · rw [hh];exact .inl rfl
  · rw [hh];exact .inr rfl
  · rw [hh];exact .inl rfl
theorem RQ (ht:TplOk t) (h:Hh):KNd (hapO t h).pre:=by
  unfold hapO
  refine KNd.app (KNd.app (KNd.app (Kh (ht.hR h)) ?_ fun x hx y hy e=>?_) ?_ fun x hx y hy e=>?_) (NS _ _ _) fun x hx y hy e=>?_
  · unfold KNd ownP;split<;>simp
  · have h1:=Gg hx
    have h2:=Lu hy
    rw [e] at h1;omega
  · unfold KNd;simp
  · have:y=((5,0),0):=by simpa using hy
    subst this
    rcases List.mem_append.1 hx with hx|hx
    · have h1:=Gg hx
      rw [e] at h1;cases h1
    · have h2:=Lu hx
      rw [e] at h2;simp at h2
  · have h2:=PK hy
    rcases List.mem_append.1 hx with hx|hx
    · rcases List.mem_append.1 hx with hx|hx
      · have h1:=Gg hx
        rw [e] at h1;omega
      · have h1:=Lu hx
        rw [e] at h1;omega
    · have:x=((5,0),0):=by simpa using hx
      subst this
      rw [← e] at h2;simp at h2
theorem Rn (ht:TplOk t) (i k:Nat):KNd (waitO t i k).pre:=by
  unfold waitO
  refine KNd.app ?_ (by unfold KNd;simp) fun x hx y hy e=>?_
  · split
    · exact Kh (ht.over i)
    · unfold KNd;simp
  · have h1:x.1.1=0:=by
      split at hx
      · exact Gg hx
      · cases hx
    have:y=((1,i),(k:Int))∨y=((5,0),(i:Int) + 1):=by simpa using hy
    rcases this with rfl|rfl
    · rw [e] at h1;cases h1
    · rw [e] at h1;cases h1
theorem Ro {l:List KF} (h:KNd l) (hk:∀ x∈l,x.1∈keys t):(l.map (toF t)).Pairwise fun a b=>a.var≠b.var:=by
  unfold KNd List.Nodup at h
  rw [List.pairwise_map] at h ⊢
  refine List.Pairwise.imp_of_mem (fun {a b} ha hb hne e=>hne ?_) h
  unfold toF at e
  exact Qr (hk a ha) (hk b hb) (by simp only at e;omega)
theorem Pc {l:List Fct} (h:l.Pairwise fun a b=>a.var≠b.var):(AG l).Pairwise fun a b=>a.var < b.var:=by
  have h1:=KR l
  have h2:=((Hz l).pairwise_iff (R:=fun a b:Fct=>a.var≠b.var) (fun hh=>Ne.symm hh)).2 h
  exact List.Pairwise.imp₂ (fun a b p q=>by omega) h1 h2
theorem Qx {a b:List Fct} (h:a.Perm b) (hn:b.Pairwise fun x y=>x.var≠y.var):AG a=AG b :=
  HW (h.trans (Hz b).symm) (Pc hn)
def selF (l:List Fct) (n:Nat):List Fct:=(List.range n).flatMap fun v=>l.filter fun f=>decide (f.var=((v:Nat):Int))
theorem Qy {l:List Fct} {n:Nat} (hn:l.Pairwise fun a b=>a.var≠b.var) (hr:∀ f∈l,0≤f.var∧f.var < n):selF l n=AG l:=by
  have hlt:(selF l n).Pairwise fun a b=>a.var < b.var:=by
    unfold selF
    rw [List.pairwise_flatMap]
    constructor
    · intro v _
      refine List.Pairwise.imp_of_mem (fun {a b} ha hb h=>?_) (List.Pairwise.filter _ hn)
      have h1:=of_decide_eq_true (List.mem_filter.1 ha).2
      have h2:=of_decide_eq_true (List.mem_filter.1 hb).2
      exact absurd (h1.trans h2.symm) h
    · refine List.Pairwise.imp (fun {a b} hab x hx y hy=>?_) List.pairwise_lt_range
      have h1:=of_decide_eq_true (List.mem_filter.1 hx).2
      have h2:=of_decide_eq_true (List.mem_filter.1 hy).2
      omega
  have nd1:(selF l n).Nodup:=hlt.imp fun h e=>by subst e;omega
  have nd2:l.Nodup:=hn.imp fun h e=>h (by rw [e])
  refine (HW ((List.perm_ext_iff_of_nodup nd2 nd1).2 fun f=>?_) hlt).symm
  unfold selF
  simp only [List.mem_flatMap,List.mem_range,List.mem_filter,decide_eq_true_eq]
  constructor
  · intro hf
    have:=hr f hf
    exact ⟨f.var.toNat,by omega,hf,by omega⟩
  · rintro ⟨_,_,hf,_⟩;exact hf
end
end
section
open Go Go.RowKit
section
variable {t : Tpl}
theorem Me (l:List Fct) (v:Int):EQ l v=some (hasV l v):=by
  unfold EQ
  rw [EE (fun f:Fct=>decide (f.var=v)) true (fun k a hk=>by
    by_cases h:a.var=v<;>simp [h])]
  unfold hasV
  cases l.any fun f=>decide (f.var=v)<;>rfl
theorem Mf (v:Int) (w:Bool):DS t v w=some (if w=true then wrT t v else rdT t v):=by
  unfold DS
  rw [EE (fun j:Job=>if w=true then hasV j.atStart v || hasV j.atEnd v else hasV j.start v || hasV j.fin v) true (fun k a hk=>by
    simp only [rng]
    unfold GA Ge
    cases w
    · simp only [Bool.false_eq_true,if_false,if_true,Aj,Me]
      cases hasV a.start v<;>cases hasV a.fin v<;>rfl
    · simp only [Bool.false_eq_true,if_false,if_true,Aj,Me]
      cases hasV a.atStart v<;>cases hasV a.atEnd v<;>rfl)]
  cases w
  · simp only [Bool.false_eq_true,if_false]
    unfold rdT
    cases t.jobs.any fun j=>hasV j.start v || hasV j.fin v<;>rfl
  · simp only [if_true]
    unfold wrT
    cases t.jobs.any fun j=>hasV j.atStart v || hasV j.atEnd v<;>rfl
def stP (t:Tpl) (n:Nat):List Int:=(List.range n).map fun i:Nat=>(kpos t (1,i):Int)
def flP (t:Tpl) (n:Nat):List Int:=(List.range n).map fun i:Nat=>(kpos t (2,i):Int)
def plcP (t:Tpl):Plc:=⟨stP t t.jobs.length,flP t t.jobs.length,wrP t t.vars.length,rdP t t.vars.length,(kpos t (5,0):Int),vrs t⟩
theorem PL (ht:TplOk t):Fa t=some (plcP t):=by
  have hn:=ht.nv
  have hj:=ht.nj
  unfold Fa
  rw [AW (by simp;omega) (by simp;omega),Aj,List.nil_append]
  rw [CE (fun k=>(stP t k,flP t k,t.vars ++ jvs (t.jobs.take k))) (by simp [jvs,stP,flP]) (fun k j hk=>by
    have hlt:=BR hk
    have hd:=ht.durs j (List.mem_of_getElem? hk)
    have hl:(t.vars ++ jvs (t.jobs.take k)).length=kpos t (1,k):=by rw [List.length_append,Gi,List.length_take,kpos1];omega
    have hb:kpos t (1,k)≤200:=by rw [kpos1];omega
    have e1:(stP t k).length=k:=by unfold stP;simp
    have e2:(flP t k).length=k:=by unfold flP;simp
    dsimp only
    rw [hl,BX (by unfold inI64;omega),Aj,AW (by rw [e1];simp;omega) (by rw [e1];simp;omega),Aj,AW (by rw [e2];simp;omega) (by rw [e2];simp;omega),Aj,Aj,BX (by unfold inI64;omega),Aj]
    dsimp only
    rw [AW (by rw [hl];simp only [List.length_cons,List.length_nil];omega) (by rw [hl];simp only [List.length_cons,List.length_nil];omega),Aj]
    have es:stP t (k + 1)=stP t k ++ [(kpos t (1,k):Int)]:=by unfold stP;rw [List.range_succ,List.map_append];rfl
    have ef:flP t (k + 1)=flP t k ++ [(kpos t (1,k):Int) + 1]:=by
      unfold flP;rw [List.range_succ,List.map_append]
      rfl
    rw [es,ef,List.take_add_one,hk]
    unfold jvs
    simp)]
  rw [Aj,BQ,List.take_length]
  dsimp only
  have hk3:∀ k,(t.vars ++ (jvs t.jobs ++ List.replicate (ksM t k).length (2:Int))).length=kpos t (3,k):=fun k=>by
    rw [kpos3];simp [Gi];omega
  rw [CE (fun k=>(wrP t k,rdP t k,t.vars ++ (jvs t.jobs ++ List.replicate (ksM t k).length (2:Int)))) (by simp [wrP,rdP,ksM]) (fun k x hk=>by
    have hlt:=BR hk
    have hl:=hk3 k
    have hle:=Gc (t:=t) k
    have hb:kpos t (3,k)≤300:=by rw [kpos3];omega
    have e1:(wrP t k).length=k:=by unfold wrP;simp
    have e2:(rdP t k).length=k:=by unfold rdP;simp
    have ew:wrP t (k + 1)=wrP t k ++ [if wrT t (k:Int)=true then (kpos t (3,k):Int) else -1]:=by unfold wrP;rw [List.range_succ,List.map_append];rfl
    have er:rdP t (k + 1)=rdP t k ++ [if wrT t (k:Int)=true∧rdT t (k:Int)=true then (kpos t (4,k):Int) else -1]:=by unfold rdP;rw [List.range_succ,List.map_append];rfl
    dsimp only
    rw [Mf,Mf,Fd,Aj,hl,ew,er,Hm]
    simp only [Bool.false_eq_true,if_false]
    by_cases h1:wrT t (k:Int)=true
    · rw [if_pos h1,if_pos h1,AW (by rw [hl];simp;omega) (by rw [hl];simp;omega),Aj,Aj]
      by_cases h2:rdT t (k:Int)=true
      · rw [if_pos h2,if_pos ⟨h1,h2⟩,AW (by rw [List.length_append,hl];simp;omega) (by rw [List.length_append,hl];simp;omega),Aj,Aj]
        dsimp only
        rw [AW (by rw [e1];simp;omega) (by rw [e1];simp;omega),Aj,AW (by rw [e2];simp;omega) (by rw [e2];simp;omega),Aj]
        have em:mkK t k=[(3,k),(4,k)]:=by unfold mkK;rw [if_pos h1,if_pos h2]
        have e4:(((t.vars ++ (jvs t.jobs ++ List.replicate (ksM t k).length (2:Int)) ++ [2]).length:Nat):Int)=(kpos t (4,k):Int):=by rw [List.length_append,hl,kpos3,kpos4];simp
        rw [e4,em,List.length_append,Ku]
        simp
      · rw [if_neg h2,if_neg (fun h=>h2 h.2),Aj]
        dsimp only
        rw [AW (by rw [e1];simp;omega) (by rw [e1];simp;omega),Aj,AW (by rw [e2];simp;omega) (by rw [e2];simp;omega),Aj]
        have em:mkK t k=[(3,k)]:=by unfold mkK;rw [if_pos h1,if_neg h2]
        rw [em,List.length_append,Ku]
        simp
    · rw [if_neg h1,if_neg h1,if_neg (fun h=>h1 h.1),Aj]
      dsimp only
      rw [AW (by rw [e1];simp;omega) (by rw [e1];simp;omega),Aj,AW (by rw [e2];simp;omega) (by rw [e2];simp;omega),Aj]
      have em:mkK t k=[]:=by unfold mkK;rw [if_neg h1]
      rw [em,List.append_nil])]
  rw [Aj,BQ]
  dsimp only
  have hl:=hk3 t.vars.length
  have hle:=Gc (t:=t) t.vars.length
  have e5:kpos t (3,t.vars.length)=kpos t (5,0):=by rw [kpos3,kpos5]
  have hb:kpos t (3,t.vars.length)≤300:=by rw [kpos3];omega
  rw [BX (by unfold inI64;omega),Aj,hl,AW (by rw [hl];simp;omega) (by rw [hl];simp;omega),Aj,e5]
  unfold plcP vrs
  simp
theorem join2 {a b:List Fct} (h:a.length + b.length≤1000):Cn [a,b]=some (a ++ b):=by
  unfold Cn
  simp only [rng]
  rw [AW (by simp;omega) (by simp;omega),Aj]
  dsimp only
  rw [AW (by simp;omega) (by simp;omega),Aj]
  dsimp only
  rw [Aj,BQ,List.nil_append]
theorem join3 {a b c:List Fct} (h:a.length + b.length + c.length≤1000):Cn [a,b,c]=some (a ++ b ++ c):=by
  unfold Cn
  simp only [rng]
  rw [AW (by simp;omega) (by simp;omega),Aj]
  dsimp only
  rw [AW (by simp;omega) (by simp;omega),Aj]
  dsimp only
  rw [AW (by simp;omega) (by simp;omega),Aj]
  dsimp only
  rw [Aj,BQ,List.nil_append]
theorem plainR {l:List Fct} (h:l.length≤1000):CX l=some (l.map fun f=>(⟨[],f.var,f.val⟩:Eff)):=by
  unfold CX
  rw [CE (fun k=>(l.take k).map fun f=>(⟨[],f.var,f.val⟩:Eff)) (by simp) (fun k f hk=>by
    have:=BR hk
    rw [AW (by simp;omega) (by simp;omega),Aj,List.take_add_one,hk]
    simp)]
  rw [Aj,BQ,List.take_length]
theorem toFE (l:List KF):((l.map (toF t)).map fun f=>(⟨[],f.var,f.val⟩:Eff))=l.map (toE t):=by
  rw [List.map_map]
  rfl
theorem ML (l:List Fct) (n:Nat):selF l (n + 1)=selF l n ++ l.filter fun f=>decide (f.var=(n:Int)):=by
  unfold selF;rw [List.range_succ,List.flatMap_append];simp
theorem RR {l:List Fct} {n:Nat} (hl:l.length≤1000) (hn:n≤1000):Cu l (n:Int)=some (selF l n):=by
  have hsl:∀ n,(selF l n).length≤n * 1000:=fun n=>by
    induction n with
    | zero=>simp [selF]
    | succ n ih =>
      have:=List.length_filter_le (fun f:Fct=>decide (f.var=(n:Int))) l
      rw [ML,List.length_append,Nat.succ_mul];omega
  unfold Cu
  rw [show natI (n:Int)=some n from by unfold natI;rw [if_pos (by omega)];simp,Aj]
  rw [IB (fun k=>selF l k) (by simp [selF]) (fun k hk=>by
    have h1:=hsl k
    rw [CE (fun m=>selF l k ++ (l.take m).filter fun f=>decide (f.var=(k:Int))) (by simp) (fun m f hm=>by
      have hlt:=BR hm
      have h2:=List.length_filter_le (fun f:Fct=>decide (f.var=(k:Int))) (l.take m)
      rw [List.length_take] at h2
      rw [List.take_add_one,hm]
      by_cases hf:f.var=(k:Int)
      · rw [if_pos hf,AW (by simp;omega) (by simp;omega),Aj]
        simp [hf]
      · rw [if_neg hf]
        simp [hf])]
    rw [Aj,BQ,List.take_length,ML])]
  rw [Aj,BQ]
theorem MM (ht:TplOk t) {r w:List Fct} (hw:∀ v,hasV w v=true→wrT t v=true) (hr:∀ v,hasV r v=true→rdT t v=true):EC (plcP t) r w=some ((needK t r w t.vars.length).map (toF t),(becK t r w t.vars.length).map (toF t)):=by
  have hn:=ht.nv
  unfold EC
  rw [show (plcP t).write=wrP t t.vars.length from rfl,show (plcP t).read=rdP t t.vars.length from rfl]
  rw [CE (fun k=>((needK t r w k).map (toF t),(becK t r w k).map (toF t))) (by rfl) (fun k a hk=>by
    have hlt:k < t.vars.length:=by have:=BR hk;rwa [GQ] at this
    rw [Kv hlt] at hk
    have ha:=(Option.some.inj hk).symm
    have n1:((needK t r w k).map (toF t)).length≤200:=by have:=HC (t:=t) r w k;rw [List.length_map];omega
    have n2:((becK t r w k).map (toF t)).length≤200:=by have:=In (t:=t) r w k;rw [List.length_map];omega
    dsimp only
    rw [Me,Me,Kw hlt,Aj,Aj,HQ,Kg,List.map_append,List.map_append]
    by_cases h1:hasV w (k:Int)=true
    · have hk1:=hw _ h1
      rw [if_pos hk1] at ha
      subst ha
      rw [if_pos h1,AW (by simp only [List.length_cons,List.length_nil];omega) (by simp only [List.length_cons,List.length_nil];omega),Aj]
      have e2:becK1 t r w k=[((3,k),1)]:=by unfold becK1;rw [if_pos h1]
      by_cases h2:rdT t (k:Int)=true
      · have e1:needK1 t r w k=[((3,k),0),((4,k),0)]:=by unfold needK1;rw [if_pos h1,if_pos h2]
        rw [if_pos ⟨hk1,h2⟩,Aj,if_pos (by omega),Aj,AW (by rw [List.length_append];simp only [List.length_cons,List.length_nil];omega) (by rw [List.length_append];simp only [List.length_cons,List.length_nil];omega),Aj,Aj]
        rw [AW (by simp only [List.length_cons,List.length_nil];omega) (by simp only [List.length_cons,List.length_nil];omega),Aj,e1,e2]
        simp [toF]
      · have e1:needK1 t r w k=[((3,k),0)]:=by unfold needK1;rw [if_pos h1,if_neg h2]
        rw [if_neg (fun h=>h2 h.2),Aj,if_neg (by omega),Aj]
        rw [AW (by simp only [List.length_cons,List.length_nil];omega) (by simp only [List.length_cons,List.length_nil];omega),Aj,e1,e2]
        simp [toF]
    · rw [if_neg h1]
      by_cases h3:hasV r (k:Int)=true∧wrT t (k:Int)=true
      · have e1:needK1 t r w k=[((3,k),0)]:=by unfold needK1;rw [if_neg h1,if_pos h3]
        have e2:becK1 t r w k=[((4,k),1)]:=by unfold becK1;rw [if_neg h1,if_pos h3]
        rw [if_pos h3.2] at ha
        subst ha
        rw [if_pos h3.1,if_pos (by omega),Aj,if_pos rfl,AW (by simp only [List.length_cons,List.length_nil];omega) (by simp only [List.length_cons,List.length_nil];omega),Aj,if_pos ⟨h3.2,hr _ h3.1⟩,Aj]
        rw [AW (by simp only [List.length_cons,List.length_nil];omega) (by simp only [List.length_cons,List.length_nil];omega),Aj,e1,e2]
        simp [toF]
      · have e1:needK1 t r w k=[]:=by unfold needK1;rw [if_neg h1,if_neg h3]
        have e2:becK1 t r w k=[]:=by unfold becK1;rw [if_neg h1,if_neg h3]
        have key:(if hasV r (k:Int)=true then if 0≤a then (some true) else (some false) else some false:Option Bool)=some false:=by
          by_cases h4:hasV r (k:Int)=true
          · rw [if_pos h4,if_neg]
            rw [ha,if_neg fun h=>h3 ⟨h4,h⟩];decide
          · rw [if_neg h4]
        rw [key,Aj,if_neg (by decide),e1,e2]
        simp)]
  rw [Aj,BQ,GQ]
end
end
section
open Go Go.RowKit
section
variable {t : Tpl}
theorem OB {i:Nat} (hi:i < t.jobs.length):(stP t t.jobs.length)[i]?=some (kpos t (1,i):Int):=by
  unfold stP;rw [List.getElem?_map,List.getElem?_range hi];rfl
theorem OC {i:Nat} (hi:i < t.jobs.length):(flP t t.jobs.length)[i]?=some (kpos t (2,i):Int):=by
  unfold flP;rw [List.getElem?_map,List.getElem?_range hi];rfl
theorem Qz (t:Tpl):(vrs t).length=(keys t).length:=by rw [Im];unfold vrs;simp [Gi];omega
theorem QA {l:List KF} (hk:∀ x∈l,x.1∈keys t):∀ f∈l.map (toF t),0≤f.var∧f.var < ((vrs t).length:Nat):=fun f hf=>by
  obtain ⟨x,hx,rfl⟩:=List.mem_map.1 hf
  have:=Rg (hk x hx)
  rw [Qz]
  unfold toF
  simp only
  omega
theorem NT {u:List Fct} {l:List KF} (hn:KNd l) (hk:∀ x∈l,x.1∈keys t) (hp:u.Perm (l.map (toF t))) (hl:u.length≤1000) (hv:(vrs t).length≤1000):Cu u ((vrs t).length:Int)=some (AG (l.map (toF t))):=by
  have hne:=Ro hn hk
  rw [RR hl hv,Qy ((hp.pairwise_iff (R:=fun a b:Fct=>a.var≠b.var) (fun hh=>Ne.symm hh)).2 hne) (fun f hf=>QA hk f (hp.mem_iff.1 hf)),Qx hp hne]
theorem perm3 {α:Type} (a b c d:List α):(a ++ b ++ (c ++ d)).Perm (a ++ c ++ d ++ b):=by
  simp only [List.append_assoc]
  refine List.Perm.append_left _ ?_
  have:=List.perm_append_comm (l₁:=b) (l₂:=c ++ d)
  simpa [List.append_assoc] using this
theorem Rq (ht:TplOk t):KNd (factsK t.goal ++ (List.range t.jobs.length).map (fun i=>(((1,i):Ky),(0:Int))) ++ [((5,0),0)]):=by
  refine KNd.app (KNd.app (Kh ht.goal.2) ?_ fun x hx y hy e=>?_) (by unfold KNd;simp) fun x hx y hy e=>?_
  · unfold KNd List.Nodup
    rw [List.map_map,List.pairwise_map]
    refine List.nodup_range.imp fun hne e=>hne ?_
    simp only [Function.comp] at e
    injection e
  · have h1:=Gg hx
    obtain ⟨i,_,rfl⟩:=List.mem_map.1 hy
    rw [e] at h1;cases h1
  · have:y=((5,0),0):=by simpa using hy
    subst this
    rcases List.mem_append.1 hx with hx|hx
    · have h1:=Gg hx
      rw [e] at h1;cases h1
    · obtain ⟨i,_,rfl⟩:=List.mem_map.1 hx
      cases e
theorem QB (ht:TplOk t):∀ x∈factsK t.goal ++ (List.range t.jobs.length).map (fun i=>(((1,i):Ky),(0:Int))) ++ [((5,0),0)],x.1∈keys t:=by
  simp only [List.mem_append,or_imp,forall_and,List.mem_map,List.mem_range]
  refine ⟨⟨fun x hx=>key0 ht ht.goal.2 hx,fun x hx=>?_⟩,fun x hx=>?_⟩
  · obtain ⟨i,hi,rfl⟩:=hx;exact key1 hi
  · have:x=((5,0),0):=by simpa using hx
    subst this;exact key5
theorem QC (ht:TplOk t):AG (cTask t).goal=(cTask t).goal:=by
  refine HW (.refl _) ?_
  unfold cTask
  dsimp only
  rw [List.map_append,List.map_append,factsF ht.goal.2,List.pairwise_append,List.pairwise_append]
  refine ⟨⟨(factsPw.1 ht.goal.2).2,?_,fun x hx y hy=>?_⟩,List.pairwise_singleton _ _,fun x hx y hy=>?_⟩
  · rw [List.pairwise_map,List.pairwise_map]
    refine List.pairwise_lt_range.imp fun h=>?_
    unfold toF
    simp only [kpos1]
    omega
  · have h1:=Hn ((factsPw.1 ht.goal.2).1 x hx)
    obtain ⟨z,hz,rfl⟩:=List.mem_map.1 hy
    obtain ⟨i,_,rfl⟩:=List.mem_map.1 hz
    unfold toF
    simp only [kpos1]
    omega
  · have:y=toF t ((5,0),0):=by simpa using hy
    subst this
    unfold toF
    simp only [kpos5]
    rcases List.mem_append.1 hx with hx|hx
    · have h1:=Hn ((factsPw.1 ht.goal.2).1 x hx)
      omega
    · obtain ⟨z,hz,rfl⟩:=List.mem_map.1 hx
      obtain ⟨i,hi,rfl⟩:=List.mem_map.1 hz
      have:=List.mem_range.1 hi
      unfold toF
      simp only [kpos1]
      omega
theorem OD (ht:TplOk t) {h:Hh} (hi:h.1 < t.jobs.length) {own:List Fct} (ho:own=(ownP t h ++ [((5,0),0)]).map (toF t)) {ef:List Fct} (he:ef=(ownE t h).map (toF t)) (hv:(vrs t).length≤1000) :
    (bnd (Cn [hR t h,(needK t (hR t h) (hW t h) t.vars.length).map (toF t),own]) fun q=>Cu q ((vrs t).length:Int))=some (toO t (hapO t h)).pre ∧
    (bnd (Cn [hW t h,ef,(becK t (hR t h) (hW t h) t.vars.length).map (toF t)]) fun q=>CX q)=some (toO t (hapO t h)).effs:=by
  have fr:=ht.hR h
  have fw:=ht.hW h
  have lr:=EP fr
  have lw:=EP fw
  have hn:=ht.nv
  have l1:(ownP t h).length≤2:=by unfold ownP;split<;>simp
  have l2:(ownE t h).length≤2:=by unfold ownE;split<;>simp
  have l3:=HC (t:=t) (hR t h) (hW t h) t.vars.length
  have l4:=In (t:=t) (hR t h) (hW t h) t.vars.length
  have l5:own.length≤3:=by rw [ho];simp;omega
  have l6:ef.length≤2:=by rw [he,List.length_map];exact l2
  constructor
  · rw [join3 (by simp;omega),Aj]
    unfold toO
    refine NT (RQ ht h) (Rk ht hi).1 ?_ (by simp;omega) hv
    unfold hapO
    rw [ho]
    simp only [List.map_append,factsF fr]
    exact perm3 _ _ _ _
  · rw [join3 (by simp;omega),Aj,plainR (by simp;omega)]
    unfold toO hapO
    dsimp only
    rw [List.map_append,List.map_append,List.map_append,List.map_append,factsE fw,he,toFE,toFE]
theorem QD (ht:TplOk t) {i k:Nat} (hi:i < t.jobs.length) (hk:k≤(jb t i).dur.toNat) (hv:(vrs t).length≤1000) :
    (bnd (bnd (if 0 < (k:Int) then (bnd (Cn [[(⟨(kpos t (1,i):Int),(k:Int)⟩:Fct),(⟨(kpos t (5,0):Int),(i:Int) + 1⟩:Fct)],(jb t i).over]) fun q1272=>some q1272) else (some [(⟨(kpos t (1,i):Int),(k:Int)⟩:Fct),(⟨(kpos t (5,0):Int),(i:Int) + 1⟩:Fct)]):Option (List Fct)) fun y=>Cu y ((vrs t).length:Int)) fun z=>some z)=some (toO t (waitO t i k)).pre:=by
  have hn:=ht.nv
  have fo:=ht.over i
  have lo:=EP fo
  have e1:(if 0 < (k:Int) then (bnd (Cn [[(⟨(kpos t (1,i):Int),(k:Int)⟩:Fct),(⟨(kpos t (5,0):Int),(i:Int) + 1⟩:Fct)],(jb t i).over]) fun q1272=>some q1272) else (some [(⟨(kpos t (1,i):Int),(k:Int)⟩:Fct),(⟨(kpos t (5,0):Int),(i:Int) + 1⟩:Fct)]):Option (List Fct))=some ([(⟨(kpos t (1,i):Int),(k:Int)⟩:Fct),(⟨(kpos t (5,0):Int),(i:Int) + 1⟩:Fct)] ++ (if 0 < k then (jb t i).over else [])):=by
    by_cases h0:0 < k
    · rw [if_pos (by omega),if_pos h0,join2 (by simp;omega),Aj]
    · rw [if_neg (by omega),if_neg h0,List.append_nil]
  have lz:(if 0 < k then (jb t i).over else []).length≤64:=by
    split
    · omega
    · simp
  rw [e1,Aj]
  unfold toO
  rw [NT (Rn ht i k) (Qu ht hi).1 ?_ (by rw [List.length_append];simp only [List.length_cons,List.length_nil];omega) hv,Aj]
  unfold waitO
  dsimp only
  rw [List.map_append]
  have e3:(if 0 < k then factsK (jb t i).over else []).map (toF t)=(if 0 < k then (jb t i).over else []):=by
    split
    · exact factsF fo
    · rfl
  rw [e3]
  exact List.perm_append_comm
end
end
section
open Go Go.RowKit
section
variable {t : Tpl}
theorem NU {α β:Type} {a:α} {f:α→Option β}:bnd (some a) f=f a:=by rw [Aj]
theorem Ip {α β:Type} {a:Option α} {f:α→Option β} {r:β} (h:bnd a f=some r):∃ x,a=some x∧f x=some r:=by
  cases a with
  | none=>cases h
  | some x=>exact ⟨x,rfl,h⟩
theorem MN (t:Tpl) (n:Nat):(flP t n).length=n:=by unfold flP;simp
theorem Rr (ht:TplOk t) {ρ:Type}:rng (ρ:=ρ) (fun (k1606:Nat) (a1607:Int) (s1604:(List Eff))=>bnd (if 0≤a1607 then (bnd (appI 40 s1604 [(⟨([]:List Fct),a1607,0⟩:Eff)]) fun u1650=>some u1650) else (some s1604):Option (List Eff)) fun y1621=>bnd ((rdP t t.vars.length)[k1606]?) fun a1667=>if 0≤a1667 then (bnd ((rdP t t.vars.length)[k1606]?) fun a1678=>bnd (appI 40 y1621 [(⟨([]:List Fct),a1678,0⟩:Eff)]) fun u1694=>some (.next u1694)) else (some (.next y1621))) (wrP t t.vars.length) 0 (((List.range t.jobs.length).map (fun i=>(((2,i):Ky),(0:Int)))).map (toE t))=some (.done (((List.range t.jobs.length).map (fun i=>(((2,i):Ky),(0:Int)))).map (toE t) ++ ((ksM t t.vars.length).map fun y=>(y,(0:Int))).map (toE t))):=by
  have hv:=ht.nv
  have hj:=ht.nj
  rw [CE (fun k=>((List.range t.jobs.length).map (fun i=>(((2,i):Ky),(0:Int)))).map (toE t) ++ ((ksM t k).map fun y=>(y,(0:Int))).map (toE t)) (by simp [ksM]) (fun k a hk=>by
    have hlt:k < t.vars.length:=by have:=BR hk;rwa [GQ] at this
    rw [Kv hlt] at hk
    have ha:=(Option.some.inj hk).symm
    have hle:=Gc (t:=t) k
    have lm:(((List.range t.jobs.length).map (fun i=>(((2,i):Ky),(0:Int)))).map (toE t) ++ ((ksM t k).map fun y=>(y,(0:Int))).map (toE t)).length≤200:=by simp;omega
    rw [Kw hlt,Hm]
    simp only [Aj]
    by_cases h1:wrT t (k:Int)=true
    · rw [if_pos h1] at ha
      subst ha
      rw [if_pos (by omega),AW (by simp only [List.length_cons,List.length_nil];omega) (by simp only [List.length_cons,List.length_nil];omega),Aj,Aj]
      by_cases h2:rdT t (k:Int)=true
      · have em:mkK t k=[(3,k),(4,k)]:=by unfold mkK;rw [if_pos h1,if_pos h2]
        rw [if_pos (show wrT t (k:Int)=true∧rdT t (k:Int)=true from ⟨h1,h2⟩),if_pos (by omega),AW (by rw [List.length_append];simp only [List.length_cons,List.length_nil];omega) (by rw [List.length_append];simp only [List.length_cons,List.length_nil];omega),Aj,em]
        simp [toE]
      · have em:mkK t k=[(3,k)]:=by unfold mkK;rw [if_pos h1,if_neg h2]
        rw [if_neg (show ¬ (wrT t (k:Int)=true∧rdT t (k:Int)=true) from fun h=>h2 h.2),if_neg (by omega),em]
        simp [toE]
    · rw [if_neg h1] at ha
      have em:mkK t k=[]:=by unfold mkK;rw [if_neg h1]
      rw [if_neg (show ¬ (wrT t (k:Int)=true∧rdT t (k:Int)=true) from fun h=>h1 h.1),if_neg (show ¬ (0:Int)≤a by omega),Aj,if_neg (show ¬ (0:Int)≤-1 by omega),em,List.append_nil])]
  rw [GQ]
theorem QE (ht:TplOk t) {i k:Nat} (hi:i < t.jobs.length) (hk:k≤(jb t i).dur.toNat):(bnd (if 1 < (k:Int) then (bnd (chkI ((k:Int) - 1)) fun n1307=>bnd (appI 16 ([]:List Fct) [(⟨(kpos t (1,i):Int),n1307⟩:Fct)]) fun u1312=>some u1312) else (some ([]:List Fct)):Option (List Fct)) fun y1290=>(if (k:Int)=1 then (bnd (chkI ((jb t i).dur + 1)) fun n1345=>bnd (appI 16 y1290 [(⟨(kpos t (1,i):Int),n1345⟩:Fct)]) fun u1354=>some u1354) else (some y1290):Option (List Fct)))=some ((waitE t i k).map (toF t)):=by
  have hd:=ht.dur i
  unfold waitE
  by_cases h1:1 < k
  · rw [if_pos (by omega),if_pos h1,BX (by unfold inI64;omega),Aj,AW (by simp) (by simp),Aj,Aj,if_neg (by omega)];rfl
  · rw [if_neg (by omega),if_neg h1,Aj]
    by_cases h2:k=1
    · rw [if_pos (by omega),if_pos h2,BX (by unfold inI64;omega),Aj,AW (by simp) (by simp),Aj];rfl
    · rw [if_neg (by omega),if_neg h2];rfl
theorem KT (ht:TplOk t) (hnm:∀ j∈t.jobs,j.name.size≤300):EM t=some (cTask t):=by
  have hv:=ht.nv
  have hj:=ht.nj
  have hg:=ht.goal
  have gl:=hg.1
  have lv:(vrs t).length≤300:=by
    have:=Gc (t:=t) t.vars.length
    unfold vrs;simp [Gi];omega
  have z1:stN.size=6:=rfl
  have z2:enN.size=4:=rfl
  have z3:waN.size=5:=rfl
  have z4:spN.size=1:=rfl
  unfold EM
  rw [PL ht,Aj]
  rw [show (plcP t).vars=vrs t from rfl,show (plcP t).phase=(kpos t (5,0):Int) from rfl,show (plcP t).state=stP t t.jobs.length from rfl,show (plcP t).flag=flP t t.jobs.length from rfl,show (plcP t).write=wrP t t.vars.length from rfl,show (plcP t).read=rdP t t.vars.length from rfl]
  rw [Pm (by omega) (by omega),Aj,join2 (by simp;omega),Aj]
  rw [CE (fun k=>(t.goal ++ [(⟨(kpos t (5,0):Int),0⟩:Fct)] ++ ((List.range k).map (fun i=>(((1,i):Ky),(0:Int)))).map (toF t),(hapL t k).map (toO t))) (by simp [hapL]) (fun k j hk=>by
    have hlt:=BR hk
    have ej:=Nh hk
    have hn:=hnm j (List.mem_of_getElem? hk)
    have hd:=ht.durs j (List.mem_of_getElem? hk)
    have lh:((hapL t k).map (toO t)).length≤100:=by rw [List.length_map,DI];omega
    have r1:hR t (k,false)=j.start:=by rw [← ej];rfl
    have w1:hW t (k,false)=j.atStart:=by rw [← ej];rfl
    have r2:hR t (k,true)=j.fin:=by rw [← ej];rfl
    have w2:hW t (k,true)=j.atEnd:=by rw [← ej];rfl
    have m1:=MM ht (r:=hR t (k,false)) (w:=hW t (k,false)) (fun v hv=>Jb (h:=(k,false)) hlt hv) (fun v hv=>Mc (h:=(k,false)) hlt hv)
    have m2:=MM ht (r:=hR t (k,true)) (w:=hW t (k,true)) (fun v hv=>Jb (h:=(k,true)) hlt hv) (fun v hv=>Mc (h:=(k,true)) hlt hv)
    obtain ⟨p1,p2⟩:=OD ht (h:=(k,false)) hlt (own:=[(⟨(kpos t (1,k):Int),0⟩:Fct),(⟨(kpos t (2,k):Int),0⟩:Fct),(⟨(kpos t (5,0):Int),0⟩:Fct)]) rfl (ef:=[(⟨(kpos t (1,k):Int),j.dur⟩:Fct)]) (by rw [← ej];rfl) (by omega)
    obtain ⟨p3,p4⟩:=OD ht (h:=(k,true)) hlt (own:=[(⟨(kpos t (1,k):Int),j.dur + 1⟩:Fct),(⟨(kpos t (5,0):Int),0⟩:Fct)]) (by rw [← ej];rfl) (ef:=[(⟨(kpos t (1,k):Int),0⟩:Fct),(⟨(kpos t (2,k):Int),1⟩:Fct)]) rfl (by omega)
    rw [r1,w1] at m1 p1 p2
    rw [r2,w2] at m2 p3 p4
    obtain ⟨a1,b1,c1⟩:=Ip p1
    obtain ⟨a2,b2,c2⟩:=Ip p2
    obtain ⟨a3,b3,c3⟩:=Ip p3
    obtain ⟨a4,b4,c4⟩:=Ip p4
    have o1:(⟨stN ++ j.name,0,(toO t (hapO t (k,false))).pre,(toO t (hapO t (k,false))).effs⟩:Opr)=toO t (hapO t (k,false)):=by rw [← ej];rfl
    have o2:(⟨enN ++ j.name,0,(toO t (hapO t (k,true))).pre,(toO t (hapO t (k,true))).effs⟩:Opr)=toO t (hapO t (k,true)):=by rw [← ej];rfl
    dsimp only at c1 c2 c3 c4 ⊢
    rw [OB hlt,OC hlt]
    simp only [NU]
    rw [show (⟨#[115,116,97,114,116,32]⟩:ByteArray)=stN from rfl,show (⟨#[101,110,100,32]⟩:ByteArray)=enN from rfl]
    rw [AW (by simp;omega) (by simp;omega),Aj,m1,Aj,Gw (by omega),Aj]
    dsimp only
    rw [b1,Aj,c1,Aj,b2,Aj,c2,Aj,AW (by simp only [List.length_cons,List.length_nil];omega) (by simp only [List.length_cons,List.length_nil];omega),Aj,m2,Aj,BX (by unfold inI64;omega),Aj,Gw (by omega),Aj]
    dsimp only
    rw [b3,Aj,c3,Aj,b4,Aj,c4,Aj,o1,o2]
    rw [AW (by rw [List.length_append];simp only [List.length_cons,List.length_nil];omega) (by rw [List.length_append];simp only [List.length_cons,List.length_nil];omega),Aj,Ke,List.range_succ]
    simp [toF])]
  rw [Aj,BQ]
  dsimp only
  have gs:Cu (t.goal ++ [(⟨(kpos t (5,0):Int),0⟩:Fct)] ++ ((List.range t.jobs.length).map (fun i=>(((1,i):Ky),(0:Int)))).map (toF t)) ((vrs t).length:Int)=some (cTask t).goal:=by
    rw [NT (Rq ht) (QB ht) ?_ (by simp;omega) (by omega)]
    · exact congrArg some (QC ht)
    · simp only [List.map_append,factsF hg.2,List.append_assoc]
      refine List.Perm.append_left _ ?_
      exact List.perm_append_comm
  rw [gs,Aj,OA ht]
  by_cases hz:t.jobs.length=0
  · rw [if_pos (by omega)]
    unfold cTask
    have:opsK t=hapL t t.jobs.length:=by unfold opsK;rw [if_pos hz,List.append_nil]
    rw [this]
  rw [if_neg (by omega),plainR (by simp),Aj]
  have lh:((hapL t t.jobs.length).map (toO t)).length≤100:=by rw [List.length_map,DI];omega
  have et:(⟨(⟨#[116,105,99,107]⟩:ByteArray),0,[(⟨(kpos t (5,0):Int),0⟩:Fct)],List.map (fun f=>(⟨[],f.var,f.val⟩:Eff)) [(⟨(kpos t (5,0):Int),1⟩:Fct)]⟩:Opr)=toO t tickO:=by
    unfold toO tickO
    rw [show ([((5,0),0)]:List KF).map (toF t)=[(⟨(kpos t (5,0):Int),0⟩:Fct)] from rfl]
    dsimp only
    rw [Kx];rfl
  rw [et,AW (by simp only [List.length_cons,List.length_nil];omega) (by simp only [List.length_cons,List.length_nil];omega),Aj]
  rw [CE (fun k=>(hapL t t.jobs.length).map (toO t) ++ [toO t tickO] ++ (waitL t k).map (toO t)) (by simp [waitL]) (fun k j hk=>by
    have hlt:=BR hk
    have ej:=Nh hk
    have hn:=hnm j (List.mem_of_getElem? hk)
    have hd:=ht.durs j (List.mem_of_getElem? hk)
    have hw:=HD ht k
    have hN:natI (j.dur + 1)=some (j.dur.toNat + 1):=by unfold natI;rw [if_pos (by omega)];congr 1;omega
    rw [BX (by unfold inI64;omega),Aj,hN,Aj]
    rw [IB (fun m=>(hapL t t.jobs.length).map (toO t) ++ [toO t tickO] ++ (waitL t k).map (toO t) ++ ((List.range m).map (waitO t k)).map (toO t)) (by simp) (fun m hm=>by
      have hmd:m≤(jb t k).dur.toNat:=by rw [ej];omega
      have p1:=QD ht hlt hmd (by omega)
      have p2:=QE ht hlt hmd
      rw [ej] at p1 p2
      have hc:chkI (j.dur + 1)=some (j.dur + 1):=BX (by unfold inI64;omega)
      rw [hc] at p2
      simp only [NU] at p2
      obtain ⟨z,p3,p4⟩:=Ip p1
      obtain ⟨y,p5,p6⟩:=Ip p3
      obtain ⟨y2,p7,p8⟩:=Ip p2
      have hs:=NR m
      rw [OB hlt]
      simp only [NU]
      rw [show (⟨#[119,97,105,116,32]⟩:ByteArray)=waN from rfl,show (⟨#[32]⟩:ByteArray)=spN from rfl]
      rw [BX (by unfold inI64;omega),Aj,p5,Aj,p7,Aj,p8,Aj,BX (by unfold inI64;omega),Aj]
      rw [Gw (by omega),Aj,Gw (by rw [ByteArray.size_append];omega),Aj,Ms,if_pos ⟨by omega,by omega⟩,Aj,Int.toNat_natCast,Gw (by rw [ByteArray.size_append,ByteArray.size_append];omega),Aj,p6,Aj]
      have lw:(waitE t k m).length≤1:=by
        unfold waitE
        split
        · simp
        · split<;>simp
      rw [AW (by simp;omega) (by simp;omega),Aj,plainR (by simp;omega),Aj]
      have o1:(⟨waN ++ j.name ++ spN ++ itoaB m,0,z,List.map (fun f=>(⟨[],f.var,f.val⟩:Eff)) ((waitE t k m).map (toF t) ++ [(⟨(kpos t (5,0):Int),(k:Int) + 2⟩:Fct)])⟩:Opr)=toO t (waitO t k m):=by
        rw [Option.some.inj p4,← ej,show ((waitE t k m).map (toF t) ++ [(⟨(kpos t (5,0):Int),(k:Int) + 2⟩:Fct)])=(waitE t k m ++ [(((5,0):Ky),(k:Int) + 2)]).map (toF t) from by simp [toF],toFE]
        rfl
      rw [o1,AW (by simp;rw [DI];omega) (by simp;rw [DI];omega),Aj,List.range_succ]
      simp)]
    rw [Aj,BQ,Jv,ej]
    simp)]
  have hw:=HD ht t.jobs.length
  rw [Aj,BQ,BX (by unfold inI64;omega),Aj]
  rw [CE (fun k=>(((List.range k).map (fun i=>(((2,i):Ky),(0:Int)))).map (toE t))) (by rfl) (fun k a hk=>by
    have hlt:k < t.jobs.length:=by have:=BR hk;rwa [MN] at this
    rw [OC hlt] at hk
    have ha:=(Option.some.inj hk).symm
    subst ha
    rw [AW (by simp;omega) (by simp;omega),Aj,List.range_succ]
    simp [toE])]
  rw [Aj,BQ,MN,Rr ht,Aj,BQ]
  have hle:=Gc (t:=t) t.vars.length
  rw [AW (by simp;omega) (by simp;omega),Aj]
  have oa:(⟨(⟨#[97,100,118,97,110,99,101]⟩:ByteArray),1,[(⟨(kpos t (5,0):Int),(t.jobs.length:Int) + 1⟩:Fct)],((List.range t.jobs.length).map (fun i=>(((2,i):Ky),(0:Int)))).map (toE t) ++ ((ksM t t.vars.length).map fun y=>(y,(0:Int))).map (toE t) ++ [(⟨([]:List Fct),(kpos t (5,0):Int),0⟩:Eff)]⟩:Opr)=toO t (advO t):=by
    unfold toO advO
    rw [show ([((5,0),(t.jobs.length:Int) + 1)]:List KF).map (toF t)=[(⟨(kpos t (5,0):Int),(t.jobs.length:Int) + 1⟩:Fct)] from rfl]
    dsimp only
    rw [Kx,List.map_append,List.map_append]
    rfl
  rw [oa,AW (by simp;rw [DI];omega) (by simp;rw [DI];omega),Aj]
  unfold cTask
  have:(opsK t).map (toO t)=(hapL t t.jobs.length).map (toO t) ++ [toO t tickO] ++ (waitL t t.jobs.length).map (toO t) ++ [toO t (advO t)]:=by unfold opsK;rw [if_neg hz];simp
  rw [this]
end
end
section
open Go Go.RowKit
theorem Iq {p q:Prop}:(bof p || bof q)=bof (p∨q):=by
  by_cases h:p
  · rw [BI h,BI (p:=p∨q) (.inl h)];rfl
  · by_cases h2:q
    · rw [BK h,BI h2,BI (p:=p∨q) (.inr h2)];rfl
    · rw [BK h,BK h2,BK (p:=p∨q) (fun hh=>hh.elim h h2)];rfl
theorem Sk:bof False=false:=BK id
theorem HE {α ρ:Type} {f:Nat→α→Bool→Option (Ctl Bool ρ)} {xs:List α} {b:Bool} (P:α→Prop) (h:∀ k x s,xs[k]?=some x→f k x s=some (.next (s || bof (P x)))):rng f xs 0 b=some (.done (b || bof (∃ x∈xs,P x))):=by
  rw [CE (fun k=>b || bof (∃ x∈xs.take k,P x)) ?a ?b,List.take_length]
  case a=>simp [Sk]
  case b =>
    intro k x hk
    rw [h k x _ hk,Bool.or_assoc,Iq]
    congr 3
    rw [GT]
    rw [List.take_add_one,hk]
    constructor
    · rintro (⟨y,hy,hp⟩|hp)
      · exact ⟨y,List.mem_append.2 (.inl hy),hp⟩
      · exact ⟨x,List.mem_append.2 (.inr (by simp)),hp⟩
    · rintro ⟨y,hy,hp⟩
      rcases List.mem_append.1 hy with hy|hy
      · exact .inl ⟨y,hy,hp⟩
      · obtain rfl:y=x:=by simpa using hy
        exact .inr hp
theorem Rs {ρ:Type} {f:Nat→Bool→Option (Ctl Bool ρ)} {n:Nat} {b:Bool} (P:Nat→Prop) (h:∀ k s,k < n→f k s=some (.next (s || bof (P k)))):rngN f n b=some (.done (b || bof (∃ k,k < n∧P k))):=by
  unfold rngN
  rw [HE P (fun k x s hk=>h x s (List.mem_range.1 (List.mem_of_getElem? hk)))]
  congr 3
  rw [GT]
  exact ⟨fun ⟨x,hx,hp⟩=>⟨x,List.mem_range.1 hx,hp⟩,fun ⟨x,hx,hp⟩=>⟨x,List.mem_range.2 hx,hp⟩⟩
theorem Rt {p:Prop} {s:Bool}:(if s=true then some true else some (bof p))=some (s || bof p):=by cases s<;>rfl
theorem large5 (t:Tsk):FD t=some (bof (Large t)):=by
  unfold FD
  have e1:(if 64 < (t.vars.length:Int) then (some true) else (if 4096 < (t.ops.length:Int) then (some true) else (if 64 < (t.goal.length:Int) then (some true) else (some false))):Option Bool)=some (bof (64 < t.vars.length∨4096 < t.ops.length∨64 < t.goal.length)):=by
    by_cases h1:64 < t.vars.length
    · rw [if_pos (by omega),BI (.inl h1)]
    · by_cases h2:4096 < t.ops.length
      · rw [if_neg (by omega),if_pos (by omega),BI (.inr (.inl h2))]
      · by_cases h3:64 < t.goal.length
        · rw [if_neg (by omega),if_neg (by omega),if_pos (by omega),BI (.inr (.inr h3))]
        · rw [if_neg (by omega),if_neg (by omega),if_neg (by omega),BK (by omega)]
  rw [e1, Aj,HE (fun o:Opr=>64 < o.pre.length∨64 < o.effs.length∨∃ e∈o.effs,64 < e.cond.length) (fun k o s hk=>by
    have e2:(if s=true then (some true) else (if 64 < (o.pre.length:Int) then (some true) else (if 64 < (o.effs.length:Int) then (some true) else (some false))):Option Bool)=some (s || bof (64 < o.pre.length∨64 < o.effs.length)):=by
      cases s with
      | true=>rfl
      | false =>
        rw [Fu,Bool.false_or]
        by_cases h1:64 < o.pre.length
        · rw [if_pos (by omega),BI (.inl h1)]
        · by_cases h2:64 < o.effs.length
          · rw [if_neg (by omega),if_pos (by omega),BI (.inr h2)]
          · rw [if_neg (by omega),if_neg (by omega),BK (by omega)]
    rw [e2,Aj,HE (fun e:Eff=>64 < e.cond.length) (fun k e s hk=>by
      cases s with
      | true=>rfl
      | false =>
        rw [Fu,Bool.false_or]
        by_cases h:64 < e.cond.length
        · rw [if_pos (by omega),BI h]
        · rw [if_neg (by omega),BK h]),Aj,BQ,Bool.or_assoc,Iq,GT or_assoc]),Aj,BQ,Iq]
  refine congrArg some (GT ?_)
  unfold Large
  constructor
  · rintro ((h|h|h)|⟨o,ho,h⟩)
    · exact .inl h
    · exact .inr (.inl h)
    · exact .inr (.inr (.inr ⟨_,DO.2 (.inl rfl),h⟩))
    · obtain ⟨i,hi⟩:=List.getElem?_of_mem ho
      rcases h with h|h|⟨e,he,h⟩
      · exact .inr (.inr (.inr ⟨_,DO.2 (.inr ⟨i,o,hi,.inl rfl⟩),h⟩))
      · exact .inr (.inr (.inl ⟨i,o,hi,h⟩))
      · obtain ⟨j,hj⟩:=List.getElem?_of_mem he
        exact .inr (.inr (.inr ⟨_,DO.2 (.inr ⟨i,o,hi,.inr ⟨j,e,hj,rfl⟩⟩),h⟩))
  · rintro (h|h|⟨i,o,ho,h⟩|⟨f,hf,h⟩)
    · exact .inl (.inl h)
    · exact .inl (.inr (.inl h))
    · exact .inr ⟨o,List.mem_of_getElem? ho,.inr (.inl h)⟩
    · rcases DO.1 hf with rfl|⟨i,o,ho,rfl|⟨j,e,he,rfl⟩⟩
      · exact .inl (.inr (.inr h))
      · exact .inr ⟨o,List.mem_of_getElem? ho,.inl h⟩
      · exact .inr ⟨o,List.mem_of_getElem? ho,.inr (.inr ⟨e,List.mem_of_getElem? he,h⟩)⟩
theorem outside5 (t:Tsk):EN t=some (bof (¬ (VarsOk t∧CostsOk t))):=by
  unfold EN
  rw [HE (fun n:Int=>n < 1∨64 < n) (fun k n s hk=>by
    cases s with
    | true=>rfl
    | false =>
      rw [Fu,Bool.false_or]
      by_cases h1:n < 1
      · rw [if_pos h1,BI (.inl h1)]
      · by_cases h2:64 < n
        · rw [if_neg h1,if_pos h2,BI (.inr h2)]
        · rw [if_neg h1,if_neg h2,BK (by omega)]),Aj,BQ,HE (fun o:Opr=>o.cost < 0∨1048576 < o.cost) (fun k o s hk=>by
    cases s with
    | true=>rfl
    | false =>
      rw [Fu,Bool.false_or]
      by_cases h1:o.cost < 0
      · rw [if_pos h1,BI (.inl h1)]
      · by_cases h2:1048576 < o.cost
        · rw [if_neg h1,if_pos h2,BI (.inr h2)]
        · rw [if_neg h1,if_neg h2,BK (by omega)]),Aj,BQ,Bool.false_or,Iq]
  refine congrArg some (GT ?_)
  constructor
  · rintro (⟨n,hn,h⟩|⟨o,ho,h⟩) ⟨h1,h2⟩
    · obtain ⟨i,hi⟩:=List.getElem?_of_mem hn
      have:=h1 i n hi;omega
    · obtain ⟨i,hi⟩:=List.getElem?_of_mem ho
      have:=h2 i o hi;omega
  · intro h
    refine Classical.byContradiction fun hn=>h ⟨fun i n hi=>?_,fun i o hi=>?_⟩
    · refine Classical.byContradiction fun hh=>hn (.inl ⟨n,List.mem_of_getElem? hi,by omega⟩)
    · refine Classical.byContradiction fun hh=>hn (.inr ⟨o,List.mem_of_getElem? hi,by omega⟩)
theorem OE {p:Prop}:(if bof p=true then some false else some true)=some (bof (¬ p)):=by
  by_cases h:p
  · rw [BI h,BK (fun hh=>hh h)];rfl
  · rw [BK h,BI h];rfl
theorem malformed5 (t:Tsk):Ed t=some (bof (¬ (StateOk t.vars t.init∧CondsOk t∧EffsOk t))):=by
  unfold Ed FW Dt
  have e1:(bnd (some (bof (StateOk t.vars t.init))) fun q27=>if q27=true then bnd (some (bof (FactsOk t.vars t.goal))) fun q34=>if q34=true then some false else some true else some true:Option Bool)=some (bof (¬ StateOk t.vars t.init∨¬ FactsOk t.vars t.goal)):=by
    rw [Aj,Aj,OE]
    by_cases h:StateOk t.vars t.init
    · rw [BI h,Fd]
      exact congrArg some (GT ⟨fun h=>.inr h,fun hh=>hh.resolve_left (fun hn=>hn h)⟩)
    · rw [BK h,Fu,BI (.inl h)]
  rw [e1, Aj,HE (fun o:Opr=>¬ FactsOk t.vars o.pre∨∃ e∈o.effs,¬ EffOk t.vars e) (fun k o s hk=>by
    rw [Aj,OE,Rt,Aj,HE (fun e:Eff=>¬ EffOk t.vars e) (fun k e s hk=>by
      cases s with
      | true=>rfl
      | false =>
        rw [Fu,Bool.false_or,Aj]
        by_cases h1:FactsOk t.vars e.cond
        · rw [BI h1,Fd,Aj]
          by_cases h2:FactsOk t.vars [⟨e.var,e.val⟩]
          · rw [BI h2,Fd,BK (fun h=>h ⟨h1,Hr.1 h2⟩)]
          · rw [BK h2,Fu,BI (fun h=>h2 (Hr.2 h.2))]
        · rw [BK h1,Fu,BI (fun h=>h1 h.1)]),Aj,BQ,Bool.or_assoc,Iq]),Aj,BQ,Iq]
  refine congrArg some (GT ?_)
  constructor
  · rintro ((h|h)|⟨o,ho,h⟩) ⟨h1,h2,h3⟩
    · exact h h1
    · exact h (h2 0 _ rfl)
    · obtain ⟨i,hi⟩:=List.getElem?_of_mem ho
      have hc:∀ f∈conds t,FactsOk t.vars f:=fun f hf=>by
        obtain ⟨i,hi⟩:=List.getElem?_of_mem hf
        exact h2 i f hi
      rcases h with h|⟨e,he,h⟩
      · exact h (hc _ (DO.2 (.inr ⟨i,o,hi,.inl rfl⟩)))
      · obtain ⟨j,hj⟩:=List.getElem?_of_mem he
        exact h ⟨hc _ (DO.2 (.inr ⟨i,o,hi,.inr ⟨j,e,hj,rfl⟩⟩)),h3 i o hi j e hj⟩
  · intro h
    refine Classical.byContradiction fun hn=>h ?_
    have g1:StateOk t.vars t.init:=Classical.byContradiction fun hh=>hn (.inl (.inl hh))
    have g2:FactsOk t.vars t.goal:=Classical.byContradiction fun hh=>hn (.inl (.inr hh))
    have g3:∀ o∈t.ops,FactsOk t.vars o.pre:=fun o ho=>Classical.byContradiction fun hh=>hn (.inr ⟨o,ho,.inl hh⟩)
    have g4:∀ o∈t.ops,∀ e∈o.effs,EffOk t.vars e:=fun o ho e he=>Classical.byContradiction fun hh=>hn (.inr ⟨o,ho,.inr ⟨e,he,hh⟩⟩)
    refine ⟨g1,fun i f hf=>?_,fun i o ho j e he=>(g4 o (List.mem_of_getElem? ho) e (List.mem_of_getElem? he)).2⟩
    rcases DO.1 (List.mem_of_getElem? hf) with rfl|⟨i,o,ho,rfl|⟨j,e,he,rfl⟩⟩
    · exact g2
    · exact g3 o (List.mem_of_getElem? ho)
    · exact (g4 o (List.mem_of_getElem? ho) e (List.mem_of_getElem? he)).1
theorem misnamed5 (t:Tsk):Ew t=some (bof (¬ NamesOk t)):=by
  unfold Ew
  rw [HE (fun o:Opr=>256 < o.name.size∨∃ k,k < o.name.size∧∃ h:k < o.name.size,(o.name[k]'h).toNat < 32∨126 < (o.name[k]'h).toNat) (fun k o s hk=>by
    have e2:(if s=true then (some true) else (if 256 < (o.name.size:Int) then (some true) else (some false)):Option Bool)=some (s || bof (256 < o.name.size)):=by
      cases s with
      | true=>rfl
      | false =>
        rw [Fu,Bool.false_or]
        by_cases h:256 < o.name.size
        · rw [if_pos (by omega),BI h]
        · rw [if_neg (by omega),BK h]
    rw [e2,Aj,Rs (fun k=>∃ h:k < o.name.size,(o.name[k]'h).toNat < 32∨126 < (o.name[k]'h).toNat) (fun k s hk=>by
      cases s with
      | true=>rfl
      | false =>
        rw [Fu,Bool.false_or,Oj hk,Aj,Aj]
        by_cases h1:(o.name[k]'hk).toNat < 32
        · rw [if_pos (by omega),BI ⟨hk,.inl h1⟩]
        · by_cases h2:126 < (o.name[k]'hk).toNat
          · rw [if_neg (by omega),if_pos (by omega),BI ⟨hk,.inr h2⟩]
          · rw [if_neg (by omega),if_neg (by omega),BK (fun ⟨_,h⟩=>by omega)]),Aj,BQ,Bool.or_assoc,Iq]),Aj,BQ,Bool.false_or]
  refine congrArg some (GT ?_)
  constructor
  · rintro ⟨o,ho,h⟩ hn
    obtain ⟨i,hi⟩:=List.getElem?_of_mem ho
    obtain ⟨h1,h2⟩:=hn i o hi
    rcases h with h|⟨k,hk,_,h⟩
    · omega
    · have:=h2 k hk;omega
  · intro h
    refine Classical.byContradiction fun hn=>h fun i o ho=>?_
    have hm:=List.mem_of_getElem? ho
    refine ⟨Nat.le_of_not_lt fun hh=>hn ⟨o,hm,.inl hh⟩,fun k hk=>?_⟩
    refine Classical.byContradiction fun hh=>hn ⟨o,hm,.inr ⟨k,hk,hk,by omega⟩⟩
theorem Mv {p:Prop}:bof (¬ p)=!bof p:=by
  by_cases h:p
  · rw [BI h,BK (fun hh=>hh h)];rfl
  · rw [BK h,BI h];rfl
theorem check5 (t:Tsk):FE t=some (checkN t):=by
  unfold FE checkN
  rw [large5,outside5,malformed5,misnamed5,Mv,Mv,Mv]
  cases bof (Large t)<;>cases bof (VarsOk t∧CostsOk t)<;>cases bof (StateOk t.vars t.init∧CondsOk t∧EffsOk t)<;>cases bof (NamesOk t)<;>rfl
end
section
open Go Go.RowKit
theorem IM (f:List Fct):Ex f f=some true:=by
  unfold Ex
  rw [if_neg (by simp),Ls (fun k x hk=>by rw [hk,Aj,if_neg (by simp)]),Aj,BQ]
theorem MZ (f:List Eff):Fc f f=some true:=by
  unfold Fc
  rw [if_neg (by simp),Ls (fun k x hk=>by rw [hk,Aj,if_neg (by simp),Aj,if_neg (by simp),Aj,IM,Aj,Fd,Aj,Fu]),Aj,BQ]
theorem IN (t:Tsk):Ey t t=some true:=by
  unfold Ey Ej
  rw [BI rfl,BI rfl,IM,Aj,Fd,Aj,Fd,Aj,Fd,if_neg (by simp),Aj,Fu]
  rw [Ls (fun k x hk=>by rw [hk,Aj,if_neg (by simp),if_neg (by simp),IM,Aj,Fd,MZ,Aj,Fd,Aj,Fu]),Aj,BQ]
theorem num6 (n:Int):HM ⟨n⟩=some n:=rfl
theorem PM (t:Tpl):Ei t=some true:=by
  unfold Ei
  rw [awake56,Aj,Fd]
  obtain ⟨b,hb,hf⟩:=Ri t []
  rw [hb,Aj]
  cases b with
  | false=>rfl
  | true =>
    obtain ⟨f1,f2,f3,f4,f5⟩:=hf rfl
    rw [Fd,Aj,Fu,PH f2]
    by_cases h0:tck t=0
    · have ht:=PI h0
      have ec:=Pb h0 f5
      by_cases hc:checkN (cTask t)=0
      · rw [if_neg (fun h=>h hc)] at ec
        rw [ec,Aj,Aj,if_neg (by rw [h0];simp),KT ht f5,Aj,check5,Aj,if_neg (fun h=>h hc),if_pos rfl]
        simp only [IN,Aj,if_true]
      · rw [if_pos hc] at ec
        rw [ec,Aj,Aj,if_neg (by rw [h0];simp),KT ht f5,Aj,check5,Aj,if_pos hc]
        simp only [IN,Aj,if_true,num6]
    · have e1:Cm t=some (⟨[],[],[],[]⟩,⟨tck t⟩):=by
        unfold Cm
        rw [MJ f2,Aj,if_pos h0]
      rw [e1,Aj,Aj,if_pos h0]
      simp only [IN,Aj,if_true,num6]
end
section
open Go Go.RowKit Go.ChangeShapes Go.WideShapes Go.Deep
theorem lawCTasks {w:World} {v0:Value} {a0:Tpl} (h0:V w v0 a0):Fn prog 3 [v0] w fun v w'=>v=.bool true∧Ext w w' :=
  (Jo (fun _ h=>h) h0 (PM a0)).mono fun _ _ h=>⟨h.2.bool,h.1⟩
set_option maxRecDepth 100000 in
theorem doorMet (os:Os) (args:Array Value):laidMetH prog Rows.compileTasksRow.laid ((World.doorLaid prog 4000 os).forCall (fun _ _=>0) ⟨#[],args,[]⟩).memory :=
  laidMetH_of_parts3 (fuel:=8) (laidMet_of_run' 8 (by kernel_rfl) (by kernel_rfl)) (by kernel_rfl) (by kernel_rfl)
set_option maxRecDepth 100000 in
theorem JJ (os:Os) (started:os.Started) (H:Type) (enc:TypeId×Value→H) :
    ReturnsInHanded {} checked os 3 .any (fun w args=>(Rows.compileTasksSpec.pre enc prog f3 Rows.compileTasksRow.domain false w args∧laidMetH prog Rows.compileTasksRow.laid w)∧sizedMet enc prog f3 (OpenSpec.ofChange Rows.compileTasksSpec) false w args) (Rows.compileTasksSpec.post enc prog f3 false true false false):=by
  refine returnsInHanded_of_change_and (C:=checked) (X:=fun w _=>laidMetH prog Rows.compileTasksRow.laid w) (fun _ _ _ hh h=>h.of_heap hh) ownTry started (by kernel_rfl) func3 (ChangeSpec.witness_shaped (enc:=enc) (C:=checked) (os:=os) (X:=fun w _=>laidMetH prog Rows.compileTasksRow.laid w) false (World.doorLaid prog 4000 os) #[(.agg #[.slice none 0 0,.slice none 0 0,.slice none 0 0,.slice none 0 0])] 8 rfl (World.shaped_of_RefB (by kernel_rfl) (by kernel_rfl)) (by kernel_rfl) (by kernel_rfl) (by kernel_rfl) (doorMet os _)) ?_
  intro W base args ds gs before hval hW _ _ _ _
  have hopen:∀ p,DataW.TrodAll enc prog W 0 (fun _=>true) true f3.params.toList args.toList ds p→∃ v0 d0,args=#[v0]∧ds=[d0]∧(∃ a:Tpl,V W v0 a):=by
    intro p hA
    rw [params3] at hA
    replace hval:∀ (j:Nat) t v,(#[26]:Array TypeId)[j]?=some t→args[j]?=some v→Value.okWide prog W .any base t v:=by rw [← params3];exact hval
    obtain ⟨v0,vs0,d0,ds0,p0,q0,g0,e0,_,h0,r0⟩:=trodAll_cons hA
    obtain ⟨g,e,_⟩:=trodAll_nil r0
    rw [g] at g0;rw [e] at e0
    obtain rfl:args=#[v0]:=by cases args;simp_all
    exact ⟨v0,d0,rfl,e0,(by first|exact openAgg rfl (hval 0 26 v0 rfl rfl) h0|exact openOne rfl (hval 0 26 v0 rfl rfl) h0)⟩
  refine lawPost rfl (by kernel_rfl) (by rw [params3];exact of_decide_eq_true (by kernel_rfl)) hW ?_ ?_
  · intro p hA
    obtain ⟨v0,d0,_,rfl,_⟩:=hopen p hA
    rfl
  · intro p hA
    obtain ⟨v0,d0,rfl,_,⟨a0,h0⟩⟩:=hopen p hA
    exact lawCTasks h0
theorem KL:Rows.CompileTasksSaid :=
  OpenClaim.holds_of_wide 3 f3 rfl rfl rfl rfl rfl rfl rfl ⟨rfl,rfl,rfl,rfl,rfl⟩ rfl rfl rfl rfl rfl (by kernel_rfl) func3 (by kernel_rfl)
    (of_decide_eq_true (by kernel_rfl)) (by unfold Func.isWrapper;first|(rw [if_pos (by decide +kernel)];kernel_rfl)|(rw [if_neg (by decide +kernel)];exact ⟨rfl,rfl⟩))
    (fun os started H enc _=>JJ os started H enc)
theorem compileTasks_holds:Rows.CompileTasksCardSaid :=
  Claim7.holds_tied_plain_at .later [] [.data, .data, .data] true (true, "34bf7b83ccd1ea9b6c8ba645e64f1db955c21e4cca4b8b45735daa4898591402") true
    KL (fun _ h=>by cases h) (by kernel_rfl) (fun _ h=>by cases h) compileTasks_row_tie rfl ⟨rfl,rfl⟩ (by kernel_rfl) rfl
    (fun f fn hf hfn=>by
      obtain rfl : f = 3 := Option.some.inj ((show prog.funcNamed "stratagem/stratagemlaw56.CompileTasks" = some 3 by kernel_rfl).symm.trans hf) |>.symm
      obtain rfl:fn=f3:=(Option.some.inj (func3.symm.trans hfn)).symm
      exact ⟨by kernel_rfl,fun j t ht=>by
        rw [params3] at ht
        have hm:t∈[26]:=by simpa using Array.mem_of_getElem? ht
        have hall:([26].all fun u=>!prog.wantsStandIn u)=true:=by kernel_rfl
        exact (show prog.wantsStandIn t=false by simpa using List.all_eq_true.1 hall t hm)⟩)
    (by kernel_rfl)
#print axioms compileTasks_holds
end
end Go.Proofs.YtjohlgjklmagnaaGreatDoor

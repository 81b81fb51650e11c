/- OrbitErrors returns true for every task and all generators, and both read behind the call as before. No conditions. -/
import Derived.Test.YtecegaabajeolaaGreatOerD
import Derived.Test.YtecegaabajeolaaGreatRows
set_option linter.unusedVariables false
set_option linter.unusedSimpArgs false
namespace Go.Proofs.YtecegaabajeolaaGreat
open Go Go.RowKit
section
open Go Go.RowKit
theorem Ks {K V:Type} [MKey K] (z:V) (k k':K) (v:V):∀ l:List (K×V),mget z (mput l k v) k'=if k=k' then v else mget z l k'
  | []=>by simp only [mput,mget]
  | p :: r=>by
    have ih:=Ks z k k' v r
    simp only [mput]
    by_cases h1:p.1=k
    · rw [if_pos h1]
      simp only [mget]
      by_cases h2:k=k'
      · rw [if_pos h2,if_pos h2]
      · rw [if_neg h2,if_neg h2,if_neg (by rw [h1];exact h2)]
    · rw [if_neg h1]
      simp only [mget,ih]
      by_cases h2:k=k'
      · rw [if_pos h2,if_pos h2,if_neg (by rw [← h2];exact h1)]
      · rw [if_neg h2,if_neg h2]
theorem QC {xs:List Int} (hl:xs.length≤1000000):Cg xs=some xs.reverse:=by
  unfold Cg
  rw [CT (by unfold inI64;omega),Am]
  refine Py (fun s=>∃ i:Nat,s.2.1=(i:Int)∧s.2.1 + s.2.2=(xs.length:Int) - 1∧i≤xs.length∧s.1.length=xs.length∧∀ k:Nat,k < xs.length→s.1[k]?=if k < i∨xs.length - 1 - k < i then xs[xs.length - 1 - k]? else xs[k]?) (fun s=>s.1=xs.reverse) (fun s=>(s.2.2 - s.2.1 + 1).toNat) ⟨0,rfl,by dsimp only;omega,by omega,rfl,fun k hk=>by rw [if_neg (by omega)]⟩ ?_ (fun s hs=>by rw [BJ,hs])
  rintro ⟨ys,i',j⟩ ⟨i,hi,hij,hil,hlen,hg⟩
  dsimp only at hi hij hlen hg ⊢
  subst hi
  by_cases hlt:(i:Int) < j
  · obtain ⟨jn,rfl⟩:∃ jn:Nat,j=(jn:Int):=⟨j.toNat,by omega⟩
    obtain ⟨a,ha⟩:=AE (l:=ys) (k:=jn) (by omega)
    obtain ⟨b,hb⟩:=AE (l:=ys) (k:=i) (by omega)
    rw [if_pos hlt,Bn,ha,Am,Bn,hb,Am,Am,Int.toNat_natCast,Int.toNat_natCast,Bn,List.getElem?_set_ne (by omega),ha,Am,CT (by unfold inI64;omega),Am,CT (by unfold inI64;omega),Am]
    refine .inl ⟨_,rfl,⟨i + 1,by dsimp only;omega,by dsimp only;omega,by omega,by simp [hlen],fun k hk=>?_⟩,by dsimp only;omega⟩
    dsimp only
    have hga:=hg jn (by omega)
    rw [ha,if_neg (by omega)] at hga
    have hgb:=hg i (by omega)
    rw [hb,if_neg (by omega)] at hgb
    by_cases e1:k=jn
    · subst e1
      rw [List.getElem?_set_self (by simp;omega),if_pos (by omega),hgb]
      congr 1;omega
    · rw [List.getElem?_set_ne (by omega)]
      by_cases e2:k=i
      · subst e2
        rw [List.getElem?_set_self (by omega),if_pos (by omega),hga]
        congr 1;omega
      · rw [List.getElem?_set_ne (by omega),hg k hk]
        by_cases e3:k < i∨xs.length - 1 - k < i
        · rw [if_pos e3,if_pos (by omega)]
        · rw [if_neg e3,if_neg (by omega)]
  · rw [if_neg hlt]
    refine .inr ⟨_,rfl,?_⟩
    dsimp only
    apply List.ext_getElem?
    intro k
    rcases Nat.lt_or_ge k xs.length with hk|hk
    · rw [List.getElem?_reverse hk,hg k hk]
      by_cases e3:k < i∨xs.length - 1 - k < i
      · rw [if_pos e3]
      · rw [if_neg e3];congr 1;omega
    · rw [List.getElem?_eq_none (by omega),List.getElem?_eq_none (by simp;omega)]
end
section
open Go Go.RowKit
theorem PlanR.snoc {t:Tsk} {s p s':List Int} {C:Int} (h:PlanR t s p s' C) {k:Nat} {o:Opr} (ho:t.ops[k]?=some o) (hp:holdsB o.pre s'=true):PlanR t s (p ++ [(k:Int)]) (succ o s') (C + o.cost):=by
  induction h with
  | nil=>have:=PlanR.cons ho hp (PlanR.nil (t:=t) (s:=succ o _));simpa [Int.add_comm] using this
  | cons ho' hp' _ ih=>have:=PlanR.cons ho' hp' (ih hp);rw [Int.add_assoc];exact this
theorem PlanR.walk {t:Tsk} {s p s':List Int} {C:Int} (h:PlanR t s p s' C) (hg:holdsB t.goal s'=true):Walk t s C:=by
  induction h with
  | nil=>exact .goal hg
  | cons ho hp _ ih=>have:=Walk.step ho hp (ih hg);rwa [Int.add_comm] at this
end
section
open Go Go.RowKit
theorem Ic {α:Type} [DecidableEq α]:∀ {a b:List α},a.Nodup→(∀ x∈a,x∈b)→a.length≤b.length
  | [],_,_,_=>Nat.zero_le _
  | x :: a,b,hn,hs=>by
    have hx:=hs x List.mem_cons_self
    have h1:=Ic (a:=a) (b:=b.erase x) (List.nodup_cons.1 hn).2 fun y hy=>(List.mem_erase_of_ne (fun e=>(List.nodup_cons.1 hn).1 (by rw [← e];exact hy))).2 (hs y (List.mem_cons_of_mem _ hy))
    have h2:=List.length_erase_of_mem hx
    have h3:=List.length_pos_of_mem hx
    simp only [List.length_cons]
    omega
theorem Lx {L:List (List Int)} (h:∀ (i j:Nat) s,L[i]?=some s→L[j]?=some s→i=j):L.Nodup:=by
  rw [List.nodup_iff_pairwise_ne,List.pairwise_iff_getElem]
  intro i j hi hj hij he
  have:=h i j L[i] (List.getElem?_eq_getElem hi) (by rw [he];exact List.getElem?_eq_getElem hj)
  omega
end
section
open Go Go.RowKit
def appB (t:Tsk) (s:List Int) (k:Nat):Bool:=match t.ops[k]? with|some o=>holdsB o.pre s|none=>false
def appN (t:Tsk) (s:List Int) (m:Nat):List Nat:=(List.range m).filter (appB t s)
def sucN (t:Tsk) (s:List Int) (k:Nat):List Int:=match t.ops[k]? with|some o=>succ o s|none=>s
theorem QD (t:Tsk) (s:List Int):appl t s=(appN t s t.ops.length).map fun k:Nat=>(k:Int):=rfl
theorem PA (t:Tsk) (s:List Int) (k:Nat):sucOf t s (k:Int)=⟨(k:Int),sucN t s k⟩:=rfl
theorem Mu {t:Tsk} {s:List Int} {k:Nat} {o:Opr} (ho:t.ops[k]?=some o):appB t s k=holdsB o.pre s∧sucN t s k=succ o s:=by unfold appB sucN;rw [ho];exact ⟨rfl,rfl⟩
end
section
set_option linter.unusedVariables false
set_option linter.unusedSimpArgs false
open Go Go.RowKit
def UpN {α:Type} (i:Nat) (x:α) (l l':List α):Prop:=l'[i]?=some x∧∀ j,j≠i→l'[j]?=l[j]?
theorem PB {α:Type} {i:Nat} {x:α} {l:List α} (h:i < l.length):UpN i x l (l.set i x):=⟨List.getElem?_set_self h,fun j hj=>List.getElem?_set_ne (by omega)⟩
theorem PC {α:Type} {x:α} {l:List α}:UpN l.length x l (l ++ [x]):=⟨by simp,fun j hj=>by
  rcases Nat.lt_or_ge j l.length with h|h
  · exact List.getElem?_append_left h
  · rw [List.getElem?_append_right h,List.getElem?_eq_none (l:=l) h,List.getElem?_eq_none (by simp;omega)]⟩
theorem Ly {t:Tsk} {s:List Int} {k:Nat} {o:Opr} (ho:t.ops[k]?=some o) (hp:holdsB o.pre s=true):(k:Int)∈appl t s:=by
  rw [QD,List.mem_map]
  exact ⟨k,List.mem_filter.2 ⟨List.mem_range.2 (AG ho),by rw [(Mu ho).1];exact hp⟩,rfl⟩
def cntN (N:List ONd):Nat:=(N.filter fun n=>n.fin).length
theorem Oo (N:List ONd) {n:ONd} (h:n.fin=false):cntN (N ++ [n])=cntN N:=by simp [cntN,h]
theorem Lz:∀ {N:List ONd} {i:Nat} {a b:ONd},N[i]?=some a→a.fin=false→b.fin=false→cntN (N.set i b)=cntN N
  | [],i,_,_,h,_,_=>by simp at h
  | n :: N,0,a,b,h,ha,hb=>by simp at h;subst h;simp [cntN,ha,hb]
  | n :: N,i + 1,a,b,h,ha,hb=>by
    have:=Lz (N:=N) (i:=i) (by simpa using h) ha hb
    simp only [cntN,List.set_cons_succ,List.filter_cons] at this ⊢
    split<;>simp [this]
theorem Kt:∀ {N:List ONd} {i:Nat} {a b:ONd},N[i]?=some a→a.fin=false→b.fin=true→cntN (N.set i b)=cntN N + 1
  | [],i,_,_,h,_,_=>by simp at h
  | n :: N,0,a,b,h,ha,hb=>by simp at h;subst h;simp [cntN,ha,hb]
  | n :: N,i + 1,a,b,h,ha,hb=>by
    have:=Kt (N:=N) (i:=i) (by simpa using h) ha hb
    simp only [cntN,List.set_cons_succ,List.filter_cons] at this ⊢
    split<;>simp [this]
theorem PD (N:List ONd):cntN N≤N.length:=List.length_filter_le _ _
inductive OR (t:Tsk) (cn:List Int→List Int):List Int→Prop
  | init:OR t cn (cn t.init)
  | step {s:List Int} {k:Nat} {o:Opr}:OR t cn s→holdsB t.goal s=false→t.ops[k]?=some o→holdsB o.pre s=true→OR t cn (cn (succ o s))
inductive WalkC (t:Tsk) (cn:List Int→List Int):List Int→Int→Prop
  | goal {s:List Int}:holdsB t.goal s=true→WalkC t cn s 0
  | step {s:List Int} {k:Nat} {o:Opr} {C:Int}:t.ops[k]?=some o→holdsB o.pre s=true→WalkC t cn (cn (succ o s)) C→WalkC t cn s (C + o.cost)
theorem NB {t:Tsk} (h:TaskOk t) {cn:List Int→List Int} {s:List Int} {C:Int} (hw:WalkC t cn s C):0≤C:=by
  induction hw with
  | goal _=>omega
  | @step s k o C ho _ _ ih=>have:=(h.2.2.2.2.2 k o ho).1;omega
structure OrI (t:Tsk) (cn wd:List Int→List Int) (D:Nat→Int→Prop) (N:List ONd) (hp:List QEn) (ord:Nat→Nat) (E:Nat):Prop where
  root:∃ n,N[0]?=some n∧n.state=cn t.init∧n.used=wd t.init∧n.cost=0∧n.parent=-1∧n.op=-1
  link:∀ (i:Nat) n,N[i]?=some n→i=0∨∃ (p q:Nat) (o:Opr) (m:ONd),n.parent=(p:Int)∧n.op=(q:Int)∧t.ops[q]?=some o∧N[p]?=some m∧m.fin=true∧holdsB o.pre m.state=true∧n.state=cn (succ o m.state)∧n.used=wd (succ o m.state)∧n.cost=m.cost + o.cost∧(n.fin=true→ord p < ord i)
  ordl:∀ (i:Nat) n,N[i]?=some n→n.fin=true→ord i < E
  lower:∀ (j:Nat) n,N[j]?=some n→n.fin=true→∀ e∈hp,n.cost≤e.key
  ent:∀ e∈hp,∃ (i:Nat) (n:ONd),e.item=(i:Int)∧N[i]?=some n∧n.cost≤e.key
  opn:∀ (i:Nat) n,N[i]?=some n→n.fin=false→∃ e∈hp,e.key=n.cost∧e.item=(i:Int)
  bound:∀ (i:Nat) n,N[i]?=some n→0≤n.cost∧n.cost≤(E:Int) * 1048576
  nogoal:∀ (j:Nat) n,N[j]?=some n→n.fin=true→holdsB t.goal n.state=false
  rel:∀ (j:Nat) n q,N[j]?=some n→n.fin=true→q∈appl t n.state→D j q→∃ (k:Nat) (o:Opr) (i:Nat) (m:ONd),q=(k:Int)∧t.ops[k]?=some o∧N[i]?=some m∧m.state=cn (succ o n.state)∧m.cost≤n.cost + o.cost
  num:cntN N=E
  rch:∀ (i:Nat) n,N[i]?=some n→OR t cn n.state
  first:0 < E→∃ n,N[0]?=some n∧n.fin=true
  uniq:∀ (i j:Nat) n m,N[i]?=some n→N[j]?=some m→n.state=m.state→i=j
section
variable {t : Tsk} {cn wd : List Int → List Int} {D : Nat → Int → Prop} {N N' : List ONd} {hp hp' : List QEn} {ord : Nat → Nat} {E : Nat}
theorem OrI.upd (h:OrI t cn wd D N hp ord E) (hok:TaskOk t) {i p q:Nat} {o:Opr} {n m:ONd} {e:QEn} (hN:UpN i n N N') (hh:hp'.Perm (e :: hp)) (ek:e.key=n.cost) (ei:e.item=(i:Int)) (hle:N.length≤N'.length) (hc:cntN N'=cntN N)
    (hi:(N[i]?=none∧∀ (j:Nat) a,N[j]?=some a→a.state≠n.state)∨∃ a,N[i]?=some a∧a.state=n.state∧a.fin=false∧n.cost < a.cost)
    (hd:n.fin=false) (hpa:n.parent=(p:Int)) (hop:n.op=(q:Int)) (ho:t.ops[q]?=some o) (hm:N[p]?=some m) (hmd:m.fin=true) (hpre:holdsB o.pre m.state=true) (hst:n.state=cn (succ o m.state)) (hus:n.used=wd (succ o m.state)) (hx:n.cost=m.cost + o.cost) (hmax:∀ (j:Nat) a,N[j]?=some a→a.fin=true→a.cost≤m.cost) (hxE:n.cost≤(E:Int) * 1048576) :
    OrI t cn wd D N' hp' ord E:=by
  have hoc:=(hok.2.2.2.2.2 q o ho).1
  have hcp:=(h.bound p m hm).1
  have hfin:∀ (j:Nat) a,N[j]?=some a→a.fin=true→j≠i:=fun j a hj hja e1=>by
    subst e1
    rcases hi with ⟨hn,_⟩|⟨b,hb,_,hbd,_⟩
    · rw [hj] at hn;cases hn
    · rw [hj] at hb;obtain rfl:=Option.some.inj hb;rw [hja] at hbd;cases hbd
  have hfin':∀ (j:Nat) a,N'[j]?=some a→a.fin=true→j≠i∧N[j]?=some a:=fun j a hj hja=>by
    have hne:j≠i:=fun e1=>by subst e1;rw [hN.1] at hj;obtain rfl:=Option.some.inj hj;rw [hd] at hja;cases hja
    exact ⟨hne,by rw [← hN.2 j hne];exact hj⟩
  obtain ⟨n0,r1,r2,r3,r4,r5,r6⟩:=h.root
  have h0:(0:Nat)≠i:=fun e1=>by
    subst e1
    rcases hi with ⟨hn,_⟩|⟨b,hb,_,_,hlt⟩
    · rw [r1] at hn;cases hn
    · rw [r1] at hb;obtain rfl:=Option.some.inj hb;omega
  have hpi:=hfin p m hm hmd
  refine ⟨⟨n0,by rw [hN.2 0 h0];exact r1,r2,r3,r4,r5,r6⟩,?_,?_,?_,?_,?_,?_,?_,?_,by rw [hc];exact h.num,?_,?_,?_⟩
  · intro j a hj
    by_cases e1:j=i
    · subst e1
      rw [hN.1] at hj
      obtain rfl:=Option.some.inj hj
      exact .inr ⟨p,q,o,m,hpa,hop,ho,by rw [hN.2 p hpi];exact hm,hmd,hpre,hst,hus,hx,fun hh=>by rw [hd] at hh;cases hh⟩
    · rw [hN.2 j e1] at hj
      rcases h.link j a hj with hh|⟨p',q',o',m',a1,a2,a3,a4,a5,a6⟩
      · exact .inl hh
      · exact .inr ⟨p',q',o',m',a1,a2,a3,by rw [hN.2 p' (hfin p' m' a4 a5)];exact a4,a5,a6⟩
  · intro j a hj hja
    exact h.ordl j a (hfin' j a hj hja).2 hja
  · intro j a hj hja e' he'
    obtain ⟨_,hj⟩:=hfin' j a hj hja
    rcases List.mem_cons.1 (hh.mem_iff.1 he') with rfl|hm'
    · have:=hmax j a hj hja;omega
    · exact h.lower j a hj hja e' hm'
  · intro e' he'
    rcases List.mem_cons.1 (hh.mem_iff.1 he') with rfl|hm'
    · exact ⟨i,n,ei,hN.1,by omega⟩
    · obtain ⟨j,a,j1,j2,j3⟩:=h.ent e' hm'
      by_cases e1:j=i
      · subst e1
        rcases hi with ⟨hn,_⟩|⟨b,hb,_,_,hlt⟩
        · rw [j2] at hn;cases hn
        · rw [j2] at hb
          obtain rfl:=Option.some.inj hb
          exact ⟨j,n,j1,hN.1,by omega⟩
      · exact ⟨j,a,j1,by rw [hN.2 j e1];exact j2,j3⟩
  · intro j a hj hja
    by_cases e1:j=i
    · subst e1
      rw [hN.1] at hj
      obtain rfl:=Option.some.inj hj
      exact ⟨e,hh.mem_iff.2 List.mem_cons_self,ek,ei⟩
    · rw [hN.2 j e1] at hj
      obtain ⟨e',m',r⟩:=h.opn j a hj hja
      exact ⟨e',hh.mem_iff.2 (List.mem_cons_of_mem _ m'),r⟩
  · intro j a hj
    by_cases e1:j=i
    · subst e1
      rw [hN.1] at hj
      obtain rfl:=Option.some.inj hj
      omega
    · rw [hN.2 j e1] at hj;exact h.bound j a hj
  · intro j a hj hja
    exact h.nogoal j a (hfin' j a hj hja).2 hja
  · intro j a q' hj hja hq hD
    obtain ⟨hne,hj⟩:=hfin' j a hj hja
    obtain ⟨k,o',i',b,a1,a2,a3,a4,a5⟩:=h.rel j a q' hj hja hq hD
    by_cases e1:i'=i
    · subst e1
      rcases hi with ⟨hn,_⟩|⟨b',hb,hbs,_,hlt⟩
      · rw [a3] at hn;cases hn
      · rw [a3] at hb
        obtain rfl:=Option.some.inj hb
        exact ⟨k,o',i',n,a1,a2,hN.1,by rw [← hbs];exact a4,by omega⟩
    · exact ⟨k,o',i',b,a1,a2,by rw [hN.2 i' e1];exact a3,a4,a5⟩
  · intro j a hj
    by_cases e1:j=i
    · subst e1
      rw [hN.1] at hj
      obtain rfl:=Option.some.inj hj
      rw [hst]
      exact (h.rch p m hm).step (h.nogoal p m hm hmd) ho hpre
    · rw [hN.2 j e1] at hj;exact h.rch j a hj
  · intro hE
    obtain ⟨b,b1,b2⟩:=h.first hE
    exact ⟨b,by rw [hN.2 0 h0];exact b1,b2⟩
  · intro a b x y hx' hy' hs
    have key:∀ (j:Nat) z,j≠i→N'[j]?=some z→z.state≠n.state:=fun j z hne hz hzs=>by
      rw [hN.2 j hne] at hz
      rcases hi with ⟨_,hn⟩|⟨b',hb,hbs,_⟩
      · exact hn j z hz hzs
      · exact hne (h.uniq j i z b' hz hb (by rw [hzs,hbs]))
    by_cases ea:a=i
    · subst ea
      rw [hN.1] at hx'
      obtain rfl:=Option.some.inj hx'
      by_cases eb:b=a
      · exact eb.symm
      · exact (key b y eb hy' hs.symm).elim
    · by_cases eb:b=i
      · subst eb
        rw [hN.1] at hy'
        obtain rfl:=Option.some.inj hy'
        exact (key a x ea hx' hs).elim
      · rw [hN.2 a ea] at hx'
        rw [hN.2 b eb] at hy'
        exact h.uniq a b x y hx' hy' hs
theorem OrI.drop (h:OrI t cn wd D N hp ord E) {e:QEn} (hh:hp.Perm (e :: hp')) {i:Nat} {n:ONd} (hi:e.item=(i:Int)) (hn:N[i]?=some n) (hd:n.fin=true∨n.cost≠e.key):OrI t cn wd D N hp' ord E :=
  { h with
    lower:=fun j a hj hja e' he'=>h.lower j a hj hja e' (hh.mem_iff.2 (List.mem_cons_of_mem _ he'))
    ent:=fun e' he'=>h.ent e' (hh.mem_iff.2 (List.mem_cons_of_mem _ he'))
    opn := fun j a hj hja=>by
      obtain ⟨e',m,k1,k2⟩:=h.opn j a hj hja
      rcases List.mem_cons.1 (hh.mem_iff.1 m) with rfl|hm
      · exfalso
        have e1:i=j:=by omega
        subst e1
        rw [hn] at hj
        obtain rfl:=Option.some.inj hj
        rcases hd with hd|hd
        · rw [hja] at hd;cases hd
        · exact hd k1.symm
      · exact ⟨e',hm,k1,k2⟩ }
theorem OrI.mark (h:OrI t cn wd (fun _ _=>True) N hp ord E) {e:QEn} (hh:hp.Perm (e :: hp')) (hmin:∀ x∈hp,nb x e) {i:Nat} {n n':ONd} (hi:e.item=(i:Int)) (hn:N[i]?=some n) (hf:n.fin=false) (hc:n.cost=e.key) (hg:holdsB t.goal n.state=false) (hn':n'={ n with fin:=true }) :
    OrI t cn wd (fun j _=>j≠i) (N.set i n') hp' (fun j=>if j=i then E else ord j) (E + 1):=by
  subst hn'
  have hil:=AG hn
  have hset:∀ (j:Nat) a,(N.set i { n with fin:=true })[j]?=some a→(j=i∧a={ n with fin:=true })∨(j≠i∧N[j]?=some a):=fun j a hj=>by
    by_cases e1:j=i
    · subst e1;rw [List.getElem?_set_self hil] at hj;exact .inl ⟨rfl,(Option.some.inj hj).symm⟩
    · rw [List.getElem?_set_ne (by omega)] at hj;exact .inr ⟨e1,hj⟩
  have hkeep:∀ (j:Nat) a,N[j]?=some a→a.fin=true→j≠i∧(N.set i { n with fin:=true })[j]?=some a:=fun j a hj hja=>by
    have hne:j≠i:=fun e1=>by subst e1;rw [hn] at hj;obtain rfl:=Option.some.inj hj;rw [hja] at hf;cases hf
    exact ⟨hne,by rw [List.getElem?_set_ne (by omega)];exact hj⟩
  have hst:∀ (j:Nat) a,(N.set i { n with fin:=true })[j]?=some a→∃ b,N[j]?=some b∧b.state=a.state∧b.cost=a.cost:=fun j a hj=>by
    rcases hset j a hj with ⟨rfl,rfl⟩|⟨_,h2⟩
    · exact ⟨n,hn,rfl,rfl⟩
    · exact ⟨a,h2,rfl,rfl⟩
  have hto:∀ (j:Nat) b,N[j]?=some b→∃ a,(N.set i { n with fin:=true })[j]?=some a∧a.state=b.state∧a.cost=b.cost∧a.used=b.used∧a.parent=b.parent∧a.op=b.op:=fun j b hj=>by
    by_cases e1:j=i
    · subst e1
      rw [hn] at hj
      obtain rfl:=Option.some.inj hj
      exact ⟨_,List.getElem?_set_self hil,rfl,rfl,rfl,rfl,rfl⟩
    · exact ⟨b,by rw [List.getElem?_set_ne (by omega)];exact hj,rfl,rfl,rfl,rfl,rfl⟩
  have hord:∀ (p:Nat) (m:ONd),N[p]?=some m→m.fin=true→ord p < E:=fun p m h1 h2=>h.ordl p m h1 h2
  refine ⟨?_,?_,?_,?_,?_,?_,?_,?_,?_,by rw [Kt hn hf rfl,h.num],?_,?_,?_⟩
  · obtain ⟨n0,r1,r2,r3,r4,r5,r6⟩:=h.root
    obtain ⟨a,a1,a2,a3,a4,a5,a6⟩:=hto 0 n0 r1
    exact ⟨a,a1,a2.trans r2,a4.trans r3,a3.trans r4,a5.trans r5,a6.trans r6⟩
  · intro j a hj
    rcases hset j a hj with ⟨rfl,rfl⟩|⟨hne,hj2⟩
    · rcases h.link j n hn with hh|⟨p',q',o',m',a1,a2,a3,a4,a5,a6,a7,a8,a9,a10⟩
      · exact .inl hh
      · obtain ⟨hne,hp2⟩:=hkeep p' m' a4 a5
        exact .inr ⟨p',q',o',m',a1,a2,a3,hp2,a5,a6,a7,a8,a9,fun _=>by rw [if_neg hne,if_pos rfl];exact hord p' m' a4 a5⟩
    · rcases h.link j a hj2 with hh|⟨p',q',o',m',a1,a2,a3,a4,a5,a6,a7,a8,a9,a10⟩
      · exact .inl hh
      · obtain ⟨hne',hp2⟩:=hkeep p' m' a4 a5
        exact .inr ⟨p',q',o',m',a1,a2,a3,hp2,a5,a6,a7,a8,a9,fun hd=>by rw [if_neg hne',if_neg hne];exact a10 hd⟩
  · intro j a hj hja
    rcases hset j a hj with ⟨rfl,rfl⟩|⟨hne,hj2⟩
    · rw [if_pos rfl];omega
    · rw [if_neg hne];have:=h.ordl j a hj2 hja;omega
  · intro j a hj hja e' he'
    have hm:e'∈hp:=hh.mem_iff.2 (List.mem_cons_of_mem _ he')
    rcases hset j a hj with ⟨rfl,rfl⟩|⟨_,hj2⟩
    · have:=Nz (hmin e' hm);dsimp only;omega
    · exact h.lower j a hj2 hja e' hm
  · intro e' he'
    obtain ⟨j,b,j1,j2,j3⟩:=h.ent e' (hh.mem_iff.2 (List.mem_cons_of_mem _ he'))
    obtain ⟨a,a1,a2,a3,_⟩:=hto j b j2
    exact ⟨j,a,j1,a1,by omega⟩
  · intro j a hj hja
    rcases hset j a hj with ⟨rfl,rfl⟩|⟨hne,hj2⟩
    · cases hja
    · obtain ⟨e',m,k1,k2⟩:=h.opn j a hj2 hja
      rcases List.mem_cons.1 (hh.mem_iff.1 m) with rfl|hm
      · omega
      · exact ⟨e',hm,k1,k2⟩
  · intro j a hj
    obtain ⟨b,b1,_,b3⟩:=hst j a hj
    have:=h.bound j b b1
    omega
  · intro j a hj hja
    rcases hset j a hj with ⟨rfl,rfl⟩|⟨_,hj2⟩
    · exact hg
    · exact h.nogoal j a hj2 hja
  · intro j a q hj hja hq hD
    rcases hset j a hj with ⟨rfl,rfl⟩|⟨_,hj2⟩
    · exact absurd rfl hD
    · obtain ⟨k,o,i',m,a1,a2,a3,a4,a5⟩:=h.rel j a q hj2 hja hq trivial
      obtain ⟨b,b1,b2,b3,_⟩:=hto i' m a3
      exact ⟨k,o,i',b,a1,a2,b1,by rw [b2];exact a4,by omega⟩
  · intro j a hj
    obtain ⟨b,b1,b2,_⟩:=hst j a hj
    rw [← b2];exact h.rch j b b1
  · intro _
    by_cases h0:i=0
    · subst h0;exact ⟨_,List.getElem?_set_self hil,rfl⟩
    · rcases h.link i n hn with hh|⟨p',_,_,m',_,_,_,a4,a5,_⟩
      · exact absurd hh h0
      · have hE:0 < E:=by have:=h.ordl p' m' a4 a5;omega
        obtain ⟨b,b1,b2⟩:=h.first hE
        exact ⟨b,(hkeep 0 b b1 b2).2,b2⟩
  · intro a b x y hx hy hs
    obtain ⟨x',x1,x2,_⟩:=hst a x hx
    obtain ⟨y',y1,y2,_⟩:=hst b y hy
    exact h.uniq a b x' y' x1 y1 (by rw [x2,y2,hs])
theorem OrI.front (h:OrI t cn wd (fun _ _=>True) N hp ord E) (hok:TaskOk t) {s:List Int} {C:Int} (hw:WalkC t cn s C):∀ (i:Nat) n,N[i]?=some n→n.state=s→∃ e∈hp,e.key≤n.cost + C:=by
  induction hw with
  | @goal s hg =>
    intro i n hi hs
    cases hb:n.fin with
    | false=>obtain ⟨e,m,k1,_⟩:=h.opn i n hi hb;exact ⟨e,m,by omega⟩
    | true=>have:=h.nogoal i n hi hb;rw [hs,hg] at this;cases this
  | @step s k o C ho hk hw ih =>
    intro i n hi hs
    have h1:=NB hok hw
    have h2:=(hok.2.2.2.2.2 k o ho).1
    cases hb:n.fin with
    | false=>obtain ⟨e,m,k1,_⟩:=h.opn i n hi hb;exact ⟨e,m,by omega⟩
    | true =>
      obtain ⟨k',o',i',m,a1,a2,a3,a4,a5⟩:=h.rel i n (k:Int) hi hb (by rw [hs];exact Ly ho hk) trivial
      have e1:k=k':=by omega
      subst e1
      rw [ho] at a2
      obtain rfl:=Option.some.inj a2
      rw [hs] at a4
      obtain ⟨e,m',k1⟩:=ih i' m a3 a4
      exact ⟨e,m',by omega⟩
theorem OrI.all (h:OrI t cn wd (fun _ _=>True) N [] ord E) {s:List Int} (hs:OR t cn s):∃ (i:Nat) (n:ONd),N[i]?=some n∧n.state=s∧n.fin=true:=by
  have hdone:∀ (i:Nat) n,N[i]?=some n→n.fin=true:=fun i n hi=>by
    cases hb:n.fin with
    | true=>rfl
    | false=>obtain ⟨e,m,_⟩:=h.opn i n hi hb;simp at m
  induction hs with
  | init=>obtain ⟨n,r1,r2,_⟩:=h.root;exact ⟨0,n,r1,r2,hdone 0 n r1⟩
  | @step s k o _ _ ho hp ih =>
    obtain ⟨i,n,i1,i2,i3⟩:=ih
    obtain ⟨k',o',i',m,a1,a2,a3,a4,_⟩:=h.rel i n (k:Int) i1 i3 (by rw [i2];exact Ly ho hp) trivial
    have e1:k=k':=by omega
    subst e1
    rw [ho] at a2
    obtain rfl:=Option.some.inj a2
    exact ⟨i',m,a3,by rw [a4,i2],hdone i' m a3⟩
theorem OrI.more (h:OrI t cn wd D N hp ord E) {D':Nat→Int→Prop} {j₀:Nat} {q₀:Int} (hD:∀ j q,D' j q→D j q∨(j=j₀∧q=q₀)) {n m:ONd} (hn:N[j₀]?=some n) {k:Nat} {o:Opr} {i:Nat} (h1:q₀=(k:Int)) (h2:t.ops[k]?=some o) (h3:N[i]?=some m) (h4:m.state=cn (succ o n.state)) (h6:m.cost≤n.cost + o.cost):OrI t cn wd D' N hp ord E :=
  { h with
    rel := fun j a q hj hja hq hd=>by
      rcases hD j q hd with hd|⟨rfl,rfl⟩
      · exact h.rel j a q hj hja hq hd
      · rw [hn] at hj
        obtain rfl:=Option.some.inj hj
        exact ⟨k,o,i,m,h1,h2,h3,h4,h6⟩ }
inductive TrN (N:List ONd):Nat→List Nat→Prop
  | root {n:ONd}:N[0]?=some n→n.parent=-1→TrN N 0 [0]
  | step {i p:Nat} {n:ONd} {l:List Nat}:N[i]?=some n→n.parent=(p:Int)→TrN N p l→TrN N i (l ++ [i])
theorem OrI.trace (h:OrI t cn wd D N hp ord E):∀ (b i:Nat) n,ord i < b→N[i]?=some n→n.fin=true→∃ l,TrN N i l∧l.length≤ord i + 1:=by
  intro b
  induction b with
  | zero=>intro i n hb;omega
  | succ b ih =>
    intro i n hb hi hd
    rcases h.link i n hi with rfl|⟨p,q,o,m,a1,a2,a3,a4,a5,a6,a7,a8,a9,a10⟩
    · obtain ⟨n0,r1,_,_,_,r5,_⟩:=h.root
      exact ⟨[0],.root r1 r5,by simp⟩
    · have ho:=a10 hd
      obtain ⟨l,l1,l2⟩:=ih p m (by omega) a4 a5
      exact ⟨l ++ [i],.step hi a1 l1,by simp;omega⟩
theorem OrI.path (h:OrI t cn wd D N hp ord E) {i:Nat} {n:ONd} (hi:N[i]?=some n):∃ l,TrN N i l∧l.length≤E + 1:=by
  rcases h.link i n hi with rfl|⟨p,q,o,m,a1,a2,a3,a4,a5,_⟩
  · obtain ⟨n0,r1,_,_,_,r5,_⟩:=h.root
    exact ⟨[0],.root r1 r5,by simp⟩
  · have ho:=h.ordl p m a4 a5
    obtain ⟨l,l1,l2⟩:=h.trace (ord p + 1) p m (by omega) a4 a5
    exact ⟨l ++ [i],.step hi a1 l1,by simp;omega⟩
end
end
section
open Go Go.RowKit
abbrev BQ:=BxR 67 73 OEn
abbrev AI:=An 73 OEn
def toQ (x:OEn):QEn:=⟨x.cost,0,x.node,x.number⟩
def qs (l:List OEn):List QEn:=l.map toQ
theorem FO (l:List OEn):(qs l).length=l.length:=by simp [qs]
theorem FP {l:List OEn} {i:Nat} {x:OEn} (h:l[i]?=some x):(qs l)[i]?=some (toQ x):=by unfold qs;rw [List.getElem?_map,h];rfl
theorem Id (l:List OEn) (i:Nat) (x:OEn):qs (l.set i x)=(qs l).set i (toQ x):=by unfold qs;rw [List.map_set]
theorem PE (l:List OEn) (n:Nat):qs (l.take n)=(qs l).take n:=by unfold qs;rw [List.map_take]
theorem Jf {l:List OEn} {i j:Nat} {a b:OEn} (ha:l[i]?=some a) (hb:l[j]?=some b):BY l (i:Int) (j:Int)=some (decide (bfr (toQ a) (toQ b))):=by
  unfold BY
  rw [Bn,ha,Am,Bn,hb,Am,Am,Am,Am,Am]
  unfold bfr toQ
  by_cases h2:a.cost=b.cost
  · rw [if_neg (by simp [h2])]
    by_cases h3:a.number < b.number
    · rw [if_pos h3,Am];simp [h2,h3]
    · rw [if_neg h3,Am];simp [h2,h3]
  · rw [if_pos h2]
    by_cases h1:a.cost < b.cost
    · rw [if_pos h1,Am];simp [h1]
    · rw [if_neg h1,Am];simp [h1,h2]
theorem Jg {l:List OEn} {i j:Nat} {a b:OEn} (ha:l[i]?=some a) (hb:l[j]?=some b):BN l (i:Int) (j:Int)=some ((l.set i b).set j a):=by
  have hil:=AG ha
  have hjl:=AG hb
  obtain ⟨c,hc⟩:=AE (l:=l.set i b) (k:=j) (by simp;exact hjl)
  unfold BN
  rw [Bn,hb,Am,Bn,ha,Am,Am,Int.toNat_natCast,Bn,hc,Am,Int.toNat_natCast]
theorem QE {q:BQ} {i:Nat} (hi:i < q.l.length) (hl:q.l.length≤1000000) (h:UpI (qs q.l) i):∃ r,Db q (i:Int)=some r∧HeapOk (qs r.l)∧(qs r.l).Perm (qs q.l):=by
  unfold Db
  refine Ny (fun s=>∃ i:Nat,s.1=(i:Int)∧i < s.2.l.length∧UpI (qs s.2.l) i∧(qs s.2.l).Perm (qs q.l)) (fun s=>HeapOk (qs s.2.l)∧(qs s.2.l).Perm (qs q.l)) (fun _=>False) (fun s=>s.1.toNat) ⟨i,rfl,hi,h,List.Perm.refl _⟩ ?_ (fun s hs=>⟨_,rfl,hs⟩) (fun s hs=>hs.elim)
  rintro ⟨c,s⟩ ⟨i,hc,hi,hu,hp⟩
  dsimp only at hc hi hu hp ⊢
  subst hc
  have hlen:=hp.length_eq
  rw [FO,FO] at hlen
  rw [CT (by unfold inI64;omega),Am]
  by_cases h0:0 < (i:Int)
  · have hq:quoT ((i:Int) - 1) 2=some (((i - 1) / 2:Nat):Int):=by
      unfold quoT;rw [if_pos (by omega),if_pos (by omega)];congr 1;omega
    obtain ⟨a,ha⟩:=AE (l:=s.l) (k:=i) hi
    obtain ⟨b,hb⟩:=AE (l:=s.l) (k:=(i - 1) / 2) (by omega)
    rw [hq,Am,if_neg (by omega),Jf ha hb,Am]
    by_cases hab:bfr (toQ a) (toQ b)
    · rw [decide_eq_true hab,Bo,Am,Bq,Jg hb ha,Am]
      have e1:qs ((s.l.set ((i - 1) / 2) a).set i b)=((qs s.l).set i (toQ b)).set ((i - 1) / 2) (toQ a):=by
        rw [Id,Id,List.set_comm _ _ (by omega)]
      refine .inl ⟨_,rfl,⟨(i - 1) / 2,rfl,by simp;omega,?_,?_⟩,?_⟩
      · dsimp only;rw [e1];exact hu.step (by omega) (FP ha) (FP hb) hab
      · dsimp only;rw [e1];exact (Lw (FP ha) (FP hb)).trans hp
      · dsimp only;omega
    · rw [decide_eq_false hab,Bq,Am,Bo]
      refine .inr (.inl ⟨_,rfl,hu.heap (.inr fun x y hx hy=>?_),hp⟩)
      rw [FP ha] at hx
      rw [FP hb] at hy
      obtain rfl:=Option.some.inj hx
      obtain rfl:=Option.some.inj hy
      exact hab
  · have h00:i=0:=by omega
    subst h00
    have hq:quoT (((0:Nat):Int) - 1) 2=some 0:=rfl
    rw [hq,Am,if_pos (show (0:Int)=((0:Nat):Int) from rfl),Am,Bo]
    exact .inr (.inl ⟨_,rfl,hu.heap (.inl rfl),hp⟩)
theorem Oq {q:BQ} (h:HeapOk (qs q.l)) (hl:q.l.length≤900000) (x:OEn):∃ r,Cz q ⟨x⟩=some r∧HeapOk (qs r.l)∧(qs r.l).Perm (toQ x :: qs q.l):=by
  unfold Cz DT BW
  rw [CH (by simp;omega) (by simp;omega),Am,Am,Am,CT (by unfold inI64;simp;omega),Am]
  have hlen:(((q.l ++ [x]).length:Int) - 1)=((q.l.length:Nat):Int):=by simp
  rw [hlen]
  have eq1:qs (q.l ++ [x])=qs q.l ++ [toQ x]:=by simp [qs]
  obtain ⟨r,r1,r2,r3⟩:=QE (q:=⟨q.l ++ [x]⟩) (i:=q.l.length) (by simp) (by simp;omega) ⟨fun j y z hj hji hx hy=>by
    dsimp only at hx hy
    rw [eq1] at hx hy
    have hjl:j < (qs q.l).length:=by have:=AG hx;simp at this;rw [FO] at this ⊢;omega
    rw [List.getElem?_append_left hjl] at hx
    rw [List.getElem?_append_left (by omega)] at hy
    exact h j y z hj hx hy,fun j y z h1 h2 h3 hx hy=>by
    dsimp only at hx
    have:=AG hx
    rw [FO] at this
    simp at this
    omega⟩
  rw [r1,Am]
  refine ⟨_,rfl,r2,r3.trans ?_⟩
  dsimp only
  rw [eq1]
  exact List.perm_append_comm (l₁:=qs q.l) (l₂:=[_])
theorem Ot {q:BQ} {n:Nat} (hn:n≤q.l.length) (hl:q.l.length≤1000000) (h:DownI (qs (q.l.take n)) 0):∃ r,CP q 0 (n:Int)=some r∧HeapOk (qs (r.2.l.take n))∧(qs (r.2.l.take n)).Perm (qs (q.l.take n))∧r.2.l.drop n=q.l.drop n∧r.2.l.length=q.l.length:=by
  unfold CP
  refine Ny (fun s=>∃ i:Nat,s.1=(i:Int)∧DownI (qs (s.2.l.take n)) i∧i≤n∧(qs (s.2.l.take n)).Perm (qs (q.l.take n))∧s.2.l.drop n=q.l.drop n∧s.2.l.length=q.l.length) (fun s=>HeapOk (qs (s.2.l.take n))∧(qs (s.2.l.take n)).Perm (qs (q.l.take n))∧s.2.l.drop n=q.l.drop n∧s.2.l.length=q.l.length) (fun _=>False) (fun s=>n - s.1.toNat) ⟨0,rfl,h,by omega,List.Perm.refl _,rfl,rfl⟩ ?_ ?_ (fun s hs=>hs.elim)
  · rintro ⟨c,s⟩ ⟨i,hc,hd,hi,hp,hdr,hsl⟩
    dsimp only at hc hd hi hp hdr hsl ⊢
    subst hc
    rw [CT (by unfold inI64;omega),Am,CT (by unfold inI64;omega),Am]
    by_cases h1:(n:Int)≤2 * (i:Int) + 1
    · rw [if_pos h1,Am,Bo]
      refine .inr (.inl ⟨_,rfl,hd.heap fun j x y hj hji hx _=>?_,hp,hdr,hsl⟩)
      have:=AG hx
      rw [FO,List.length_take] at this
      omega
    rw [if_neg h1,if_neg (by omega),Am,Bq]
    obtain ⟨a,ha⟩:=AE (l:=s.l) (k:=i) (by omega)
    obtain ⟨b,hb⟩:=AE (l:=s.l) (k:=2 * i + 1) (by omega)
    have tk:∀ {k:Nat} {x:OEn},k < n→s.l[k]?=some x→(qs (s.l.take n))[k]?=some (toQ x):=fun {k x} hk hx=>FP (by rw [List.getElem?_take_of_lt hk];exact hx)
    have cast1:2 * (i:Int) + 1=((2 * i + 1:Nat):Int):=by omega
    have cast2:2 * (i:Int) + 1 + 1=((2 * i + 2:Nat):Int):=by omega
    have rest:∀ (c:Nat) (d:OEn),(c=2 * i + 1∨c=2 * i + 2)→c < n→s.l[c]?=some d→(∀ (j:Nat) x,0 < j→(j - 1) / 2=i→(qs (s.l.take n))[j]?=some x→nb x (toQ d))→(∃ s',(bnd (BY s.l (c:Int) (i:Int)) fun q97=>if q97=true then bnd (BN s.l (i:Int) (c:Int)) fun q109=>some (Ctl.next (ρ:=Bool×BQ) ((c:Int),(⟨q109⟩:BQ))) else some (.brk ((i:Int),s)))=some (.next s')∧(∃ i:Nat,s'.1=(i:Int)∧DownI (qs (s'.2.l.take n)) i∧i≤n∧(qs (s'.2.l.take n)).Perm (qs (q.l.take n))∧s'.2.l.drop n=q.l.drop n∧s'.2.l.length=q.l.length)∧n - s'.1.toNat < n - ((i:Int)).toNat)∨(∃ s',(bnd (BY s.l (c:Int) (i:Int)) fun q97=>if q97=true then bnd (BN s.l (i:Int) (c:Int)) fun q109=>some (Ctl.next (ρ:=Bool×BQ) ((c:Int),(⟨q109⟩:BQ))) else some (.brk ((i:Int),s)))=some (.brk s')∧HeapOk (qs (s'.2.l.take n))∧(qs (s'.2.l.take n)).Perm (qs (q.l.take n))∧s'.2.l.drop n=q.l.drop n∧s'.2.l.length=q.l.length)∨∃ r,(bnd (BY s.l (c:Int) (i:Int)) fun q97=>if q97=true then bnd (BN s.l (i:Int) (c:Int)) fun q109=>some (Ctl.next (ρ:=Bool×BQ) ((c:Int),(⟨q109⟩:BQ))) else some (.brk ((i:Int),s)))=some (.ret r)∧False:=by
      intro c d hc hcn hd' hs
      rw [Jf hd' ha,Am]
      have e1:qs (((s.l.set i d).set c a).take n)=((qs (s.l.take n)).set i (toQ d)).set c (toQ a):=by
        rw [List.take_set,List.take_set,Id,Id]
      by_cases hda:bfr (toQ d) (toQ a)
      · rw [decide_eq_true hda,Bo,Jg ha hd',Am]
        refine .inl ⟨_,rfl,⟨c,rfl,?_,by omega,?_,?_,by simp;exact hsl⟩,?_⟩
        · dsimp only;rw [e1];exact hd.step hc (tk (by omega) ha) (tk hcn hd') hda hs
        · dsimp only;rw [e1];exact (Lw (tk (by omega) ha) (tk hcn hd')).trans hp
        · dsimp only
          rw [← hdr]
          apply List.ext_getElem?
          intro k
          rw [List.getElem?_drop,List.getElem?_drop,List.getElem?_set_ne (by omega),List.getElem?_set_ne (by omega)]
        · dsimp only;omega
      · rw [decide_eq_false hda,Bq]
        refine .inr (.inl ⟨_,rfl,hd.heap fun j x y hj hji hx hy=>?_,hp,hdr,hsl⟩)
        rw [tk (by omega) ha] at hy
        obtain rfl:=Option.some.inj hy
        exact Hp (hs j x hj hji hx) hda
    rw [CT (by unfold inI64;omega),Am]
    by_cases h2:2 * (i:Int) + 1 + 1 < (n:Int)
    · obtain ⟨d,hd'⟩:=AE (l:=s.l) (k:=2 * i + 2) (by omega)
      rw [if_pos h2,cast2,cast1,Jf hd' hb,Am]
      by_cases hdb:bfr (toQ d) (toQ b)
      · rw [decide_eq_true hdb,Bo,Am,Bo,Am]
        refine rest (2 * i + 2) d (.inr rfl) (by omega) hd' fun j x hj hji hx=>?_
        have:j=2 * i + 1∨j=2 * i + 2:=by omega
        rcases this with rfl|rfl
        · rw [tk (by omega) hb] at hx;obtain rfl:=Option.some.inj hx;exact KN hdb
        · rw [tk (by omega) hd'] at hx;obtain rfl:=Option.some.inj hx;exact JK _
      · rw [decide_eq_false hdb,Bq,Am,Bq,Am]
        refine rest (2 * i + 1) b (.inl rfl) (by omega) hb fun j x hj hji hx=>?_
        have:j=2 * i + 1∨j=2 * i + 2:=by omega
        rcases this with rfl|rfl
        · rw [tk (by omega) hb] at hx;obtain rfl:=Option.some.inj hx;exact JK _
        · rw [tk (by omega) hd'] at hx;obtain rfl:=Option.some.inj hx;exact hdb
    · rw [if_neg h2,Am,Bq,Am,cast1]
      refine rest (2 * i + 1) b (.inl rfl) (by omega) hb fun j x hj hji hx=>?_
      have:j=2 * i + 1:=by have:=AG hx;rw [FO,List.length_take] at this;omega
      subst this
      rw [tk (by omega) hb] at hx;obtain rfl:=Option.some.inj hx;exact JK _
  · intro s hs
    by_cases hz:0 < s.1
    · rw [BJ,if_pos hz,Am];exact ⟨_,rfl,hs⟩
    · rw [BJ,if_neg hz,Am];exact ⟨_,rfl,hs⟩
theorem PF {q:BQ} (h:HeapOk (qs q.l)) (h0:0 < q.l.length) (hl:q.l.length≤900000):∃ r,CD q=some r∧∃ (e:OEn) (q':BQ),r=((⟨e⟩:AI),q')∧HeapOk (qs q'.l)∧(qs q.l).Perm (toQ e :: qs q'.l)∧∀ x∈qs q.l,nb x (toQ e):=by
  obtain ⟨e,he⟩:=AE (l:=q.l) (k:=0) h0
  obtain ⟨z,hz⟩:=AE (l:=q.l) (k:=q.l.length - 1) (by omega)
  have cz:((q.l.length:Int) - 1)=((q.l.length - 1:Nat):Int):=by omega
  have sw:BN q.l 0 ((q.l.length - 1:Nat):Int)=some ((q.l.set 0 z).set (q.l.length - 1) e):=Jg (i:=0) he hz
  unfold CD BW
  rw [Am,CT (by unfold inI64;omega),Am,cz,sw,Am]
  have tk:((q.l.set 0 z).set (q.l.length - 1) e).take (q.l.length - 1)=(q.l.set 0 z).take (q.l.length - 1):=by
    rw [List.take_set]
    exact List.set_eq_of_length_le (by simp)
  have hperm:(qs q.l).Perm (toQ e :: qs ((q.l.set 0 z).take (q.l.length - 1))):=by
    have:q.l.Perm (e :: (q.l.set 0 z).take (q.l.length - 1)):=by
      cases hq:q.l with
      | nil=>rw [hq] at h0;simp at h0
      | cons a tl =>
        rw [hq] at he hz
        simp at he
        subst he
        cases htl:tl.reverse with
        | nil =>
          have:tl=[]:=by simpa using htl
          subst this
          simp
        | cons w r =>
          have htl':tl=r.reverse ++ [w]:=by have:=congrArg List.reverse htl;simpa using this
          subst htl'
          simp at hz
          subst hz
          simp
    exact this.map toQ
  obtain ⟨r,r1,r2,r3,r4,r5⟩:=Ot (q:=⟨(q.l.set 0 z).set (q.l.length - 1) e⟩) (n:=q.l.length - 1) (by simp) (by simp;omega) (by
    dsimp only
    rw [tk]
    refine ⟨fun j x y hj hjp hx hy=>?_,fun j x y h1=>by omega⟩
    rw [PE,Id] at hx hy
    have hx':=Kr hx
    have hy':=Kr hy
    rw [List.getElem?_set_ne (by omega)] at hx' hy'
    exact h j x y hj hx' hy')
  dsimp only at r3 r4 r5
  rw [tk] at r3
  simp only [List.length_set] at r5
  rw [r1,Am]
  unfold Em
  have hlast:r.2.l[q.l.length - 1]?=some e:=by
    have:(r.2.l.drop (q.l.length - 1))[0]?=some e:=by
      rw [r4,List.getElem?_drop,Nat.add_zero,List.getElem?_set_self (by simp;omega)]
    rwa [List.getElem?_drop,Nat.add_zero] at this
  have hcut:cutI r.2.l 0 ((q.l.length - 1:Nat):Int)=some (r.2.l.take (q.l.length - 1)):=by
    unfold cutI
    rw [if_pos (by simp;omega)]
    simp
  rw [r5,cz,CT (by unfold inI64;omega),Am,Bn,hlast,Am,Am,hcut,Am,Am]
  exact ⟨_,rfl,e,⟨r.2.l.take (q.l.length - 1)⟩,rfl,r2,hperm.trans (List.Perm.cons _ r3.symm),NA h (FP he)⟩
end
section
open Go Go.RowKit
def rangeI (n:Nat):List Int:=(List.range n).map fun i:Nat=>(i:Int)
theorem Fv {n:Nat} {x:Int}:x∈rangeI n↔0≤x∧x < n:=by
  unfold rangeI
  rw [List.mem_map]
  constructor
  · rintro ⟨i,hi,rfl⟩;have:=List.mem_range.1 hi;omega
  · rintro ⟨h1,h2⟩;exact ⟨x.toNat,List.mem_range.2 (by omega),by omega⟩
theorem Gf (n:Nat):(rangeI n).length=n:=by simp [rangeI]
theorem Gy (n:Nat):(rangeI n).Nodup:=by
  unfold rangeI
  rw [List.nodup_iff_pairwise_ne,List.pairwise_map]
  exact (List.nodup_iff_pairwise_ne.1 List.nodup_range).imp fun h=>by omega
theorem NC {l:List Int} {x:Int} (hn:l.Nodup) (h:x∈l):l.count x=1:=by
  have h1:=List.nodup_iff_count.1 hn x
  have h2:=List.count_pos_iff.2 h
  omega
def PermR (l:List Int) (n:Nat):Prop:=l.Perm (rangeI n)
theorem FB:∀ {l₁ l₂:List Int},l₁.Nodup→(∀ x∈l₁,x∈l₂)→l₂.length≤l₁.length→l₁.Perm l₂
  | [],l₂,_,_,hl=>by
    have:l₂=[]:=List.eq_nil_of_length_eq_zero (by simpa using hl)
    rw [this]
  | x :: l₁,l₂,hn,hs,hl=>by
    have hx:=hs x List.mem_cons_self
    have hp:=List.perm_cons_erase hx
    obtain ⟨h1,h2⟩:=List.nodup_cons.1 hn
    refine (List.Perm.cons x (FB h2 (fun y hy=>?_) ?_)).trans hp.symm
    · have:y≠x:=fun e=>h1 (e ▸ hy)
      exact (List.mem_erase_of_ne this).2 (hs y (List.mem_cons_of_mem _ hy))
    · rw [List.length_erase_of_mem hx]
      simp at hl;omega
theorem PermR.len {l:List Int} {n:Nat} (h:PermR l n):l.length=n:=by rw [h.length_eq,Gf]
theorem PermR.mem {l:List Int} {n:Nat} (h:PermR l n) {x:Int} (hx:x∈l):0≤x∧x < n:=Fv.1 (h.mem_iff.1 hx)
theorem PermR.nodup {l:List Int} {n:Nat} (h:PermR l n):l.Nodup:=h.symm.nodup (Gy n)
theorem LA {l:List Int} {n:Nat} (h1:l.Nodup) (h2:∀ x∈l,0≤x∧x < n) (h3:l.length=n):PermR l n:=FB h1 (fun x hx=>Fv.2 (h2 x hx)) (by rw [Gf];omega)
theorem Fb {p q:Prop} (h:p↔q):some (bof p)=some (bof q):=by rw [Et h]
theorem Dn {α:Type} {l:List α} {k:Nat} {x y:α} (h:l[k]?=some x):y∈l.take (k + 1)↔y∈l.take k∨y=x:=by
  rw [List.take_add_one,h,List.mem_append];simp
theorem PG      {l:List Int} {n:Int} (hl:l.length≤1000000∨(l.length:Int)≠n):BT l n=some (bof ((l.length:Int)=n∧PermR l l.length)):=by
  unfold BT
  by_cases hn:(l.length:Int)=n
  case neg=>rw [if_pos hn,AM (fun h=>hn h.1)]
  have hl':l.length≤1000000:=hl.resolve_right fun h=>h hn
  subst hn
  rw [if_neg (by simp),Gt (by omega) (by omega),Am]
  rcases Ix (ρ:=Bool) (f:=fun (_:Nat) (a26:Int) (s23:(List Bool))=>bnd (if a26 < 0 then (some true) else (if (l.length:Int)≤a26 then (some true) else (bnd (atI s23 a26) fun a54=>some a54)):Option Bool) fun y48=>if y48=true then (some (.ret false)) else (bnd (atI s23 a26) fun _=>some (.next (s23.set (a26).toNat true)))) (xs:=l) (s₀:=List.replicate l.length false)
    (fun k s=>s.length=l.length∧(∀ j:Nat,j < l.length→s[j]?=some (bof ((j:Int)∈l.take k)))∧(l.take k).Nodup∧∀ x∈l.take k,0≤x∧x < l.length) (fun r=>r=false∧¬ PermR l l.length)
    ⟨by simp, fun j hj=>by rw [List.getElem?_replicate,if_pos hj,List.take_zero,AM (List.not_mem_nil)],by simp,by simp⟩ (fun k x s hx hI=>by
      obtain ⟨i1,i2,i3,i4⟩:=hI
      by_cases h1:x < 0
      · rw [if_pos h1,Am,Bo]
        exact .inr ⟨_,rfl,rfl,fun hp=>by have:=hp.mem (List.mem_of_getElem? hx);omega⟩
      · rw [if_neg h1]
        by_cases h2:(l.length:Int)≤x
        · rw [if_pos h2,Am,Bo]
          exact .inr ⟨_,rfl,rfl,fun hp=>by have:=hp.mem (List.mem_of_getElem? hx);omega⟩
        · rw [if_neg h2]
          obtain ⟨j,rfl⟩:=Int.eq_ofNat_of_zero_le (by omega:0≤x)
          rw [Bn,i2 j (by omega),Am,Am]
          by_cases hm:(j:Int)∈l.take k
          · rw [AU hm,Bo]
            refine .inr ⟨_,rfl,rfl,fun hp=>?_⟩
            have hnd:=hp.nodup
            rw [← List.take_append_drop k l,List.nodup_append] at hnd
            have hd:(j:Int)∈l.drop k:=List.mem_of_getElem? (i:=0) (by rw [List.getElem?_drop,Nat.add_zero];exact hx)
            exact hnd.2.2 _ hm _ hd rfl
          · rw [AM hm,Bq,Am]
            refine .inl ⟨_,rfl,by simpa using i1,fun q hq=>?_,?_,fun y hy=>?_⟩
            · rw [show ((j:Int)).toNat=j from by omega,List.getElem?_set]
              by_cases hjq:j=q
              · subst hjq
                rw [if_pos rfl,if_pos (by omega),AU ((Dn hx).2 (.inr rfl))]
              · rw [if_neg hjq,i2 q hq]
                refine Fb ⟨fun h=>(Dn hx).2 (.inl h),fun h=>((Dn hx).1 h).resolve_right (by omega)⟩
            · rw [List.take_add_one,hx]
              refine List.nodup_append.2 ⟨i3,by simp,fun a ha b hb=>?_⟩
              have:b=(j:Int):=by simpa using hb
              rw [this];exact fun e=>hm (e ▸ ha)
            · rcases (Dn hx).1 hy with hy|rfl
              · exact i4 y hy
              · omega) with ⟨s,hr,_,_,hnd,hrg⟩|⟨r,hr,rfl,hno⟩
  · rw [hr,Am,BJ]
    rw [List.take_length] at hnd hrg
    rw [AU ⟨rfl,LA hnd hrg rfl⟩]
  · rw [hr,Am,Ho,AM (fun h=>hno h.2)]
theorem MQ {l:List Int} {v:Int} {ρ:Type} (hl:l.length≤1000000):rng (ρ:=ρ) (fun (_:Nat) (a28:Int) (s25:Int)=>if a28=v then (bnd (chkI (s25 + 1)) fun n49=>some (.next n49)) else (some (.next s25))) l 0 0=some (.done ((l.count v:Nat):Int)):=by
  rw [Ep (fun k=>(((l.take k).count v:Nat):Int)) ?ha ?hb,List.take_length]
  case ha=>rfl
  case hb =>
    intro k x hx
    have hk:=AG hx
    have hc:=List.count_le_length (a:=v) (l:=l.take k)
    rw [List.length_take] at hc
    rw [List.take_add_one,hx,List.count_append]
    by_cases h:x=v
    · rw [if_pos h,CT (by unfold inI64;omega),Am]
      subst h;simp
    · rw [if_neg h];simp [h]
theorem MR {l:List Int} {n:Int} (hl:l.length≤1000000∨(l.length:Int)≠n):Ci l n=some (bof ((l.length:Int)=n∧PermR l l.length)):=by
  unfold Ci
  by_cases hn:(l.length:Int)=n
  case neg=>rw [if_pos hn,AM (fun h=>hn h.1)]
  have hl':l.length≤1000000:=hl.resolve_right fun h=>h hn
  subst hn
  rw [if_neg (by simp),Pk,Am]
  have key:=Ix (ρ:=Bool) (f:=fun (_:Nat) (k10:Nat) (_:Unit)=>bnd (rng (ρ:=Ctl Unit Bool) (fun (_:Nat) (a28:Int) (s25:Int)=>if a28=(k10:Int) then (bnd (chkI (s25 + 1)) fun n49=>some (.next n49)) else (some (.next s25))) l 0 0) fun res23=>fin res23 fun (s56:Int)=>if s56≠1 then (some (.ret false)) else (some (.next ()))) (xs:=List.range l.length) (s₀:=())
    (fun k _=>∀ j:Nat,j < k→l.count (j:Int)=1) (fun r=>r=false∧¬ PermR l l.length) (fun j hj=>by omega) (fun k x _ hx hI=>by
      obtain ⟨hlt,rfl⟩:=List.getElem?_eq_some_iff.1 hx
      have hk:k < l.length:=by simpa using hlt
      rw [List.getElem_range,MQ hl',Am,BJ]
      by_cases h1:l.count (k:Int)=1
      · rw [if_neg (by rw [h1];simp)]
        exact .inl ⟨_,rfl,fun j hj=>by
          by_cases hjk:j=k
          · rw [hjk];exact h1
          · exact hI j (by omega)⟩
      · rw [if_pos (by omega)]
        refine .inr ⟨_,rfl,rfl,fun hp=>h1 ?_⟩
        rw [hp.count_eq,NC (Gy _) (Fv.2 ⟨by omega,by omega⟩)])
  rcases key with ⟨_,hr,hc⟩|⟨r,hr,rfl,hno⟩
  · rw [show rngN _ _ _=_ from hr,Am,BJ]
    rw [List.length_range] at hc
    have hp:PermR l l.length:=(FB (Gy l.length) (fun x hx=>by
      obtain ⟨h1,h2⟩:=Fv.1 hx
      have:=hc x.toNat (by omega)
      rw [show ((x.toNat:Nat):Int)=x from by omega] at this
      exact List.count_pos_iff.1 (by omega)) (by rw [Gf];omega)).symm
    rw [AU ⟨rfl,hp⟩]
  · rw [show rngN _ _ _=_ from hr,Am,Ho,AM (fun h=>hno h.2)]
end
section
open Go Go.RowKit
theorem FC {α:Type} {f:Nat→α→Unit→Option (Ctl Unit Bool)} {xs:List α} (P:Nat→Prop) (h:∀ k x,xs[k]?=some x→f k x ()=if bof (P k)=true then some (.next ()) else some (.ret false)) :
    (bnd (rng (ρ:=Bool) f xs 0 ()) fun r=>fin r fun _=>some true)=some (bof (∀ k,k < xs.length→P k)):=by
  rcases Ix (f:=f) (xs:=xs) (s₀:=()) (fun k _=>∀ j,j < k→P j) (fun r=>r=false∧¬ ∀ k,k < xs.length→P k) (fun j hj=>by omega) (fun k x _ hx hI=>by
    rw [h k x hx]
    by_cases hp:P k
    · rw [AU hp,Bo]
      exact .inl ⟨_,rfl,CA hI hp⟩
    · rw [AM hp,Bq]
      exact .inr ⟨_,rfl,rfl,fun hh=>hp (hh k (AG hx))⟩) with ⟨_,hr,hc⟩|⟨r,hr,rfl,hno⟩
  · rw [hr,Am,BJ,AU hc]
  · rw [hr,Am,Ho,AM hno]
theorem LB {l:List Int} {n:Nat} (hn:n≤1000000):BT l (n:Int)=some (bof (PermR l n)):=by
  rw [PG (by omega)]
  exact Fb ⟨fun h=>by       have:l.length=n:=by omega
                            rw [← this];exact h.2,fun h=>⟨by rw [h.len],by rw [h.len];exact h⟩⟩
theorem Ie {l:List          Int} {n:Nat} (hn:n≤1000000):Ci l (n:Int)=some (bof (PermR l n)):=by
  rw [MR (by omega)]
  exact Fb ⟨fun h=>by       have:l.length=n:=by omega
                            rw [← this];exact h.2,fun h=>⟨by rw [h.len],by rw [h.len];exact h⟩⟩
def FactsPerm (t:Tsk) (x:Swp):Prop:=PermR x.vars t.vars.length∧x.vals.length=t.vars.length∧∀ (k:Nat),k < t.vars.length→∃ (n:Nat) (a:Int) (l:List Int),t.vars[k]?=some (n:Int)∧x.vars[k]?=some a∧x.vals[k]?=some l∧atI t.vars a=some (n:Int)∧PermR l n
theorem Ou {t:Tsk} {x:Swp} (hok:TaskOk t):Dy t x=some (bof (FactsPerm t x)):=by
  obtain ⟨hl,_,hv,_⟩:=hok
  unfold Dy
  rw [LB (by omega),Am]
  by_cases h1:PermR x.vars t.vars.length
  case neg=>rw [AM h1,Bq,Am,Bo,AM (fun h=>h1 h.1)]
  rw [AU h1,Bo]
  by_cases h2:x.vals.length=t.vars.length
  case neg=>rw [if_pos (by omega),Am,Bo,AM (fun h=>h2 h.2.1)]
  rw [if_neg (by omega),Am,Bq]
  rw [FC (fun k=>∃ (n:Nat) (a:Int) (l:List Int),t.vars[k]?=some (n:Int)∧x.vars[k]?=some a∧x.vals[k]?=some l∧atI t.vars a=some (n:Int)∧PermR l n) (fun k y hy=>by
    have hk:=AG hy
    obtain ⟨a,ha⟩:=AE (l:=x.vars) (k:=k) (by rw [h1.len];omega)
    obtain ⟨l,hll⟩:=AE (l:=x.vals) (k:=k) (by omega)
    have hy2:=hv k y hy
    obtain ⟨n,rfl⟩:=Int.eq_ofNat_of_zero_le (by omega:0≤y)
    obtain ⟨ha1,ha2⟩:=h1.mem (List.mem_of_getElem? ha)
    obtain ⟨j,rfl⟩:=Int.eq_ofNat_of_zero_le ha1
    obtain ⟨m,hm⟩:=AE (l:=t.vars) (k:=j) (by omega)
    rw [ha,Am,Bn,hm,Am]
    by_cases hmn:m=(n:Int)
    · rw [if_neg (by simpa using hmn),hll,Am,LB (by omega),Am]
      by_cases hp:PermR l n
      · rw [AU hp,Bo,Am,Bq,AU ⟨n,_,l,hy,rfl,rfl,by rw [Bn,hm,hmn],hp⟩,Bo]
      · rw [AM hp,Bq,Am,Bo,AM (fun ⟨n',a',l',q1,q2,q3,q4,q5⟩=>by
          have e1:(n:Int)=n':=by rw [hy] at q1;exact Option.some.inj q1
          have e2:l=l':=Option.some.inj q3
          have e3:n=n':=by omega
          subst e2 e3;exact hp q5),Bq]
    · rw [if_pos hmn,Am,Bo,AM (fun ⟨n',a',l',q1,q2,q3,q4,q5⟩=>by
        have e1:(n:Int)=n':=by rw [hy] at q1;exact Option.some.inj q1
        have e2:(j:Int)=a':=Option.some.inj q2
        rw [← e2,Bn,hm] at q4
        exact hmn (by rw [e1];exact Option.some.inj q4)),Bq])]
  exact Fb ⟨fun h=>⟨h1,h2,h⟩,fun h=>h.2.2⟩
theorem Ov {t:Tsk} {x:Swp} (hok:TaskOk t):Eu t x=some (bof (FactsPerm t x∧PermR x.ops t.ops.length)):=by
  obtain ⟨hl,hlo,hv,_⟩:=hok
  unfold Eu
  rw [Ie (by omega),Am]
  by_cases h1:PermR x.vars t.vars.length
  case neg=>rw [AM h1,Bq,Am,Bo,AM (fun h=>h1 h.1.1)]
  rw [AU h1,Bo]
  by_cases h2:x.vals.length=t.vars.length
  case neg=>rw [if_pos (by omega),Am,Bo,AM (fun h=>h2 h.1.2.1)]
  rw [if_neg (by omega),Ie (by omega),Am]
  by_cases h3:PermR x.ops t.ops.length
  case neg=>rw [AM h3,Bq,Am,Bo,AM (fun h=>h3 h.2)]
  rw [AU h3,Bo,Am,Bq]
  rw [FC (fun k=>∃ (n:Nat) (a:Int) (l:List Int),t.vars[k]?=some (n:Int)∧x.vars[k]?=some a∧x.vals[k]?=some l∧atI t.vars a=some (n:Int)∧PermR l n) (fun k y hy=>by
    have hk:=AG hy
    obtain ⟨a,ha⟩:=AE (l:=x.vars) (k:=k) (by rw [h1.len];omega)
    obtain ⟨l,hll⟩:=AE (l:=x.vals) (k:=k) (by omega)
    have hy2:=hv k y hy
    obtain ⟨n,rfl⟩:=Int.eq_ofNat_of_zero_le (by omega:0≤y)
    obtain ⟨ha1,ha2⟩:=h1.mem (List.mem_of_getElem? ha)
    obtain ⟨j,rfl⟩:=Int.eq_ofNat_of_zero_le ha1
    obtain ⟨m,hm⟩:=AE (l:=t.vars) (k:=j) (by omega)
    rw [ha,Am,Bn,hm,Am]
    by_cases hmn:m=(n:Int)
    · rw [if_neg (by simpa using hmn),hll,Am,Ie (by omega),Am]
      by_cases hp:PermR l n
      · rw [AU hp,Bo,Am,Bq,AU ⟨n,_,l,hy,rfl,rfl,by rw [Bn,hm,hmn],hp⟩,Bo]
      · rw [AM hp,Bq,Am,Bo,AM (fun ⟨n',a',l',q1,q2,q3,q4,q5⟩=>by
          have e1:(n:Int)=n':=by rw [hy] at q1;exact Option.some.inj q1
          have e2:l=l':=Option.some.inj q3
          have e3:n=n':=by omega
          subst e2 e3;exact hp q5),Bq]
    · rw [if_pos hmn,Am,Bo,AM (fun ⟨n',a',l',q1,q2,q3,q4,q5⟩=>by
        have e1:(n:Int)=n':=by rw [hy] at q1;exact Option.some.inj q1
        have e2:(j:Int)=a':=Option.some.inj q2
        rw [← e2,Bn,hm] at q4
        exact hmn (by rw [e1];exact Option.some.inj q4)),Bq])]
  exact Fb ⟨fun h=>⟨⟨h1,h2,h⟩,h3⟩,fun h=>h.1.2.2⟩
theorem FI (a b:List Fct):BD a b=some (bof (a=b)):=by
  unfold BD
  by_cases hl:a.length=b.length
  case neg=>rw [if_pos (by omega),AM (fun h=>hl (by rw [h]))]
  rw [if_neg (by omega),FC (fun k=>a[k]?=b[k]?) (fun k y hy=>by
    obtain ⟨z,hz⟩:=AE (l:=b) (k:=k) (by have:=AG hy;omega)
    rw [hz,Am]
    by_cases h:y=z
    · rw [if_neg (by simp [h]),AU (by rw [hy,h]),Bo]
    · rw [if_pos (fun hh=>h (by cases y;cases z;simpa using hh)),AM (by rw [hy];simpa using h),Bq])]
  refine Fb ⟨fun h=>List.ext_getElem? fun k=>?_,fun h=>by rw [h];exact fun _ _=>rfl⟩
  by_cases hk:k < a.length
  · exact h k hk
  · rw [List.getElem?_eq_none (by omega),List.getElem?_eq_none (by omega)]
theorem Hq (a b:List Fct):Ea a b=some (bof (a=b)):=FI a b
theorem alike1 (a b:Eff):Da a b=some (bof (a=b)):=by
  unfold Da
  by_cases h1:a.var=b.var
  case neg=>rw [if_neg h1,Am,AM (fun h=>h1 (by rw [h]))]
  by_cases h2:a.val=b.val
  case neg=>rw [if_pos h1,if_neg h2,Am,AM (fun h=>h2 (by rw [h]))]
  rw [if_pos h1,if_pos h2,FI,Am]
  by_cases h3:a.cond=b.cond
  · rw [AU h3,Bo,Am,AU (by cases a;cases b;simp_all)]
  · rw [AM h3,Bq,Am,AM (fun h=>h3 (by rw [h]))]
theorem MS (a b:List Eff):Ba a b=some (bof (a=b)):=by
  unfold Ba
  by_cases hl:a.length=b.length
  case neg=>rw [if_pos (by omega),AM (fun h=>hl (by rw [h]))]
  rw [if_neg (by omega),FC (fun k=>a[k]?=b[k]?) (fun k y hy=>by
    obtain ⟨z,hz⟩:=AE (l:=b) (k:=k) (by have:=AG hy;omega)
    rw [hz,Am,alike1,Am]
    by_cases h:y=z
    · rw [AU h,Bo,AU (by rw [hy,h]),Bo]
    · rw [AM h,Bq,AM (by rw [hy];simpa using h),Bq])]
  refine Fb ⟨fun h=>List.ext_getElem? fun k=>?_,fun h=>by rw [h];exact fun _ _=>rfl⟩
  by_cases hk:k < a.length
  · exact h k hk
  · rw [List.getElem?_eq_none (by omega),List.getElem?_eq_none (by omega)]
theorem Ox (p q:Opr):Dz p q=some (bof (p.cost=q.cost∧p.pre=q.pre∧p.effs=q.effs)):=by
  unfold Dz
  by_cases h1:p.cost=q.cost
  case neg=>rw [if_neg h1,Am,AM (fun h=>h1 h.1)]
  rw [if_pos h1,FI,Am]
  by_cases h2:p.pre=q.pre
  case neg=>rw [AM h2,Bq,Am,AM (fun h=>h2 h.2.1)]
  rw [AU h2,Bo,MS,Am]
  by_cases h3:p.effs=q.effs
  · rw [AU h3,Bo,Am,AU ⟨h1,h2,h3⟩]
  · rw [AM h3,Bq,Am,AM (fun h=>h3 h.2.2)]
def imF (x:Swp) (f:Fct):Fct:=⟨(x.vars[f.var.toNat]?).getD 0,(((x.vals[f.var.toNat]?).getD [])[f.val.toNat]?).getD 0⟩
def imL (x:Swp) (fs:List Fct):List Fct:=Bc (fs.map (imF x))
def imE (x:Swp) (e:Eff):Eff:=⟨imL x e.cond,(imF x ⟨e.var,e.val⟩).var,(imF x ⟨e.var,e.val⟩).val⟩
def imO (x:Swp) (o:Opr):Opr:=⟨⟨#[]⟩,o.cost,imL x o.pre,o.effs.map (imE x)⟩
theorem Hd {t:Tsk} {x:Swp} {f:Fct} (hp:FactsPerm t x) (hf:FactOk t.vars f):∃ l,atI x.vars f.var=some (imF x f).var∧atI x.vals f.var=some l∧atI l f.val=some (imF x f).val∧0≤(imF x f).var∧0≤(imF x f).val:=by
  obtain ⟨h1,h2,n,hn,h3⟩:=hf
  obtain ⟨fv,fz⟩:=f
  simp only at h1 h2 hn h3 ⊢
  obtain ⟨j,rfl⟩:=Int.eq_ofNat_of_zero_le h1
  obtain ⟨i,rfl⟩:=Int.eq_ofNat_of_zero_le h2
  rw [show ((j:Int)).toNat=j from by omega] at hn
  obtain ⟨m,a,l,q1,q2,q3,q4,q5⟩:=hp.2.2 j (AG hn)
  have e:(m:Int)=n:=by rw [hn] at q1;exact (Option.some.inj q1).symm
  obtain ⟨z,hz⟩:=AE (l:=l) (k:=i) (by rw [q5.len];omega)
  have ha:=hp.1.mem (List.mem_of_getElem? q2)
  have hz':=q5.mem (List.mem_of_getElem? hz)
  refine ⟨l,?_,?_,?_,?_,?_⟩<;>simp [imF,Bn,q2,q3,hz]<;>omega
end
section
open Go Go.RowKit
theorem EM {vars:List Int} {f:List Fct} (h:FactsOk vars f):(∀ x∈f,FactOk vars x)∧f.Pairwise fun x y=>x.var < y.var:=by
  refine ⟨fun x hx=>by obtain ⟨i,hi⟩:=List.getElem?_of_mem hx;exact h.1 i x hi,?_⟩
  rw [List.pairwise_iff_getElem]
  intro i j hi hj hij
  exact Gb h j i _ _ hij (List.getElem?_eq_getElem hi) (List.getElem?_eq_getElem hj)
theorem Ku {a b:List Fct} (hp:a.Perm b) (ha:a.Pairwise fun x y=>x.var < y.var) (hb:b.Pairwise fun x y=>x.var < y.var):a=b :=
  List.Perm.eq_of_pairwise (fun x y _ _ h1 h2=>by omega) ha hb hp
def VarsNe (f:List Fct):Prop:=f.Pairwise fun x y=>x.var≠y.var
theorem VarsNe.perm {a b:List Fct} (hp:a.Perm b) (h:VarsNe a):VarsNe b:=(hp.pairwise_iff (fun h e=>h e.symm)).1 h
theorem Hr {a:List Fct} (h:VarsNe a):(Bc a).Pairwise fun x y=>x.var < y.var:=by
  have h1:=LS a
  have h2:VarsNe (Bc a):=h.perm (Du a).symm
  exact (h1.and h2).imp fun ⟨p,q⟩=>by omega
theorem PH {t:Tsk} {x:Swp} {f g:Fct} (hp:FactsPerm t x) (hf:FactOk t.vars f) (hg:FactOk t.vars g) (h:(imF x f).var=(imF x g).var):f.var=g.var:=by
  obtain ⟨_,hf1,_⟩:=Hd hp hf
  obtain ⟨_,hg1,_⟩:=Hd hp hg
  obtain ⟨i,hi,hi'⟩:=Fy hf1
  obtain ⟨j,hj,hj'⟩:=Fy hg1
  rw [h,← hj'] at hi'
  have h1:i < x.vars.length:=by rw [hj'] at hi';exact AG hi'
  have h2:=AG hj'
  rw [List.getElem?_eq_getElem h1,List.getElem?_eq_getElem h2] at hi'
  have hij:=(List.getElem_inj hp.1.nodup).1 (Option.some.inj hi')
  rw [hi,hj,hij]
theorem MT {t:Tsk} {x:Swp} {fs:List Fct} (hp:FactsPerm t x) (hf:FactsOk t.vars fs):VarsNe (fs.map (imF x)):=by
  obtain ⟨h1,h2⟩:=EM hf
  unfold VarsNe
  rw [List.pairwise_map]
  refine List.Pairwise.imp_of_mem (fun {a b} ha hb hab=>?_) h2
  intro e
  have:=PH hp (h1 a ha) (h1 b hb) e
  omega
theorem Kv {t:Tsk} {fs:List Fct} (hok:TaskOk t) (hf:FactsOk t.vars fs):fs.length≤64:=by have:=EZ hf;have:=hok.1;omega
theorem map_take {α β:Type} {f:α→β} {l:List α} {k:Nat} {x:α} (h:l[k]?=some x):(l.take (k + 1)).map f=(l.take k).map f ++ [f x]:=by
  rw [List.take_add_one,h];simp
theorem If {t:Tsk} {x:Swp} {fs:List Fct} (hok:TaskOk t) (hp:FactsPerm t x) (hf:FactsOk t.vars fs):CF x fs=some (imL x fs):=by
  have hl:=Kv hok hf
  unfold CF
  rw [Ep (fun k=>(fs.take k).map (imF x)) (by simp) (fun k f hk=>by
    obtain ⟨l,h1,h2,h3,_⟩:=Hd hp (hf.1 k f hk)
    have:=AG hk
    rw [h1,Am,h2,Am,h3,Am,CH (by simp;omega) (by simp;omega),Am,map_take hk]),Am,BJ,List.take_length,if_pos (by simp;omega),Am]
  rfl
def insF (f:Fct):List Fct→List Fct
  | []=>[f]
  | a :: l=>if f.var < a.var then f :: a :: l else a :: insF f l
theorem ND {f:Fct} {ρ:Type}:∀ (l acc:List Fct) (k:Nat),acc.length + l.length≤1000→rng (ρ:=ρ) (fun (_:Nat) (a18:Fct) (s15:(List Fct)×Bool)=>bnd (bnd (if (!s15.2)=true then (if f.var < a18.var then (some true) else (some false)) else (some false):Option Bool) fun y54=>if y54=true then (bnd (appI 16 s15.1 [f]) fun u65=>some (u65,true)) else (some (s15.1,s15.2)):Option ((List Fct)×Bool)) fun y48=>bnd (appI 16 y48.1 [a18]) fun u81=>some (.next (u81,y48.2))) l k (acc,true)=some (.done (acc ++ l,true))
  | [],acc,k,_=>by simp [rng]
  | a :: l,acc,k,h=>by
    simp at h
    have:=ND (f:=f) (ρ:=ρ) l (acc ++ [a]) (k + 1) (by simp;omega)
    rw [rng,Pd,Am,Bq,Am,CH (by simp;omega) (by simp;omega),Am]
    simp only
    rw [this];simp
theorem NE {f:Fct} {ρ:Type}:∀ (l acc:List Fct) (k:Nat),acc.length + l.length≤900→∃ r:List Fct×Bool,rng (ρ:=ρ) (fun (_:Nat) (a18:Fct) (s15:(List Fct)×Bool)=>bnd (bnd (if (!s15.2)=true then (if f.var < a18.var then (some true) else (some false)) else (some false):Option Bool) fun y54=>if y54=true then (bnd (appI 16 s15.1 [f]) fun u65=>some (u65,true)) else (some (s15.1,s15.2)):Option ((List Fct)×Bool)) fun y48=>bnd (appI 16 y48.1 [a18]) fun u81=>some (.next (u81,y48.2))) l k (acc,false)=some (.done r)∧r.1.length≤1000∧(if r.2=true then r.1 else r.1 ++ [f])=acc ++ insF f l
  | [],acc,k,h=>⟨(acc,false),by simp [rng],by simp at h;simp;omega,by simp [insF]⟩
  | a :: l,acc,k,h=>by
    simp at h
    rw [rng,Pe]
    by_cases hlt:f.var < a.var
    · have:=ND (f:=f) (ρ:=ρ) l (acc ++ [f] ++ [a]) (k + 1) (by simp;omega)
      refine ⟨(acc ++ [f] ++ [a] ++ l,true),?_,?_,?_⟩
      · rw [if_pos hlt,Am,Bo,CH (by simp;omega) (by simp;omega),Am,Am,CH (by simp;omega) (by simp;omega),Am]
        simp only
        rw [this]
      · simp;omega
      · simp [insF,hlt]
    · obtain ⟨r,h1,h2,h3⟩:=NE (f:=f) (ρ:=ρ) l (acc ++ [a]) (k + 1) (by simp;omega)
      refine ⟨r,?_,h2,?_⟩
      · rw [if_neg hlt,Am,Bq,Am,CH (by simp;omega) (by simp;omega),Am]
        simp only
        rw [h1]
      · rw [h3];simp [insF,hlt]
theorem PI {f:Fct} {l:List Fct} (h:l.length≤900):Eb l f=some (insF f l):=by
  unfold Eb
  obtain ⟨⟨r1,r2⟩,h1,h2,h3⟩:=NE (f:=f) (ρ:=List Fct) l [] 0 (by simpa using h)
  rw [h1,Am,BJ]
  simp only at h2 h3 ⊢
  cases r2 with
  | true=>rw [Pd,Am];simpa using h3
  | false=>rw [Pe,CH (by simp;omega) (by simp;omega),Am,Am];simpa using h3
theorem Ig (f:Fct):∀ l,(insF f l).Perm (f :: l)
  | []=>by simp [insF]
  | a :: l=>by
    unfold insF
    split
    · exact List.Perm.refl _
    · exact ((Ig f l).cons a).trans (List.Perm.swap f a l)
theorem II {f:Fct}:∀ {l:List Fct},l.Pairwise (fun x y=>x.var < y.var)→(∀ y∈l,y.var≠f.var)→(insF f l).Pairwise fun x y=>x.var < y.var
  | [],_,_=>by simp [insF]
  | a :: l,h,hn=>by
    obtain ⟨h1,h2⟩:=List.pairwise_cons.1 h
    unfold insF
    split
    · rename_i hlt
      refine List.pairwise_cons.2 ⟨fun y hy=>?_,h⟩
      rcases List.mem_cons.1 hy with rfl|hy
      · exact hlt
      · have:=h1 y hy;omega
    · rename_i hlt
      refine List.pairwise_cons.2 ⟨fun y hy=>?_,II h2 fun y hy=>hn y (List.mem_cons_of_mem _ hy)⟩
      rcases List.mem_cons.1 ((Ig f l).mem_iff.1 hy) with rfl|hy
      · have:=hn a List.mem_cons_self;omega
      · exact h1 y hy
theorem Oy {l:List Fct} {v:Int} (h:∀ y∈l,y.var≠v):DF l v=some (-1):=by
  unfold DF
  rw [Je (fun k y hy=>by rw [if_neg (h y (List.mem_of_getElem? hy))]),Am,BJ]
theorem PJ {l:List Fct} (hl:l.length≤64) (hv:∀ x∈l,0≤x.var∧0≤x.val) (hn:VarsNe l):EK l=some (Bc l,0):=by
  unfold EK
  rw [Je (fun k y hy=>by
    have:=hv y (List.mem_of_getElem? hy)
    rw [if_neg (by omega),if_neg (by omega),Am,Bq]),Am,BJ]
  obtain ⟨s,h1,h2,h3⟩:=DI (ρ:=List Fct×Int) (f:=fun (_:Nat) (a60:Fct) (s57:(List Fct))=>bnd (DF s57 a60.var) fun q88=>bnd (if 0≤q88 then (if q88≠a60.val then (some true) else (some false)) else (some false):Option Bool) fun y96=>if y96=true then (some (.ret (([]:List Fct),2))) else (if q88 < 0 then (bnd (Eb s57 a60) fun q108=>some (.next q108)) else (some (.next s57)))) (xs:=l) (s₀:=[]) (fun k s=>s.Perm (l.take k)∧s.Pairwise fun x y=>x.var < y.var) ⟨by simp,by simp⟩ (fun k f s hk hI=>by
    obtain ⟨i1,i2⟩:=hI
    have hne:∀ y∈s,y.var≠f.var:=fun y hy=>by
      have hy:=i1.mem_iff.1 hy
      have hd:f∈l.drop k:=List.mem_of_getElem? (i:=0) (by rw [List.getElem?_drop,Nat.add_zero];exact hk)
      have hn':=hn
      unfold VarsNe at hn'
      rw [← List.take_append_drop k l,List.pairwise_append] at hn'
      exact hn'.2.2 y hy f hd
    have hsl:s.length≤900:=by rw [i1.length_eq,List.length_take];omega
    rw [Oy hne,Am,if_neg (by omega),Am,Bq,if_pos (by omega),PI hsl,Am]
    refine ⟨_,rfl,?_,II i2 hne⟩
    rw [List.take_add_one,hk]
    exact (Ig f s).trans ((i1.cons f).trans (List.perm_append_singleton f _).symm))
  rw [h1,Am,BJ]
  rw [List.take_length] at h2
  rw [Ku (h2.trans (Du l).symm) h3 (Hr hn)]
theorem JL {t:Tsk} {x:Swp} {f:Fct} (hp:FactsPerm t x) (hf:FactOk t.vars f):Ec x f=some (imF x f):=by
  unfold Ec
  obtain ⟨l,h1,h2,h3,_⟩:=Hd hp hf
  rw [h1,Am,h2,Am,h3,Am]
theorem GR {t:Tsk} {x:Swp} {fs:List Fct} (hok:TaskOk t) (hp:FactsPerm t x) (hf:FactsOk t.vars fs):Dk x fs=some (imL x fs):=by
  have hl:=Kv hok hf
  unfold Dk
  rw [Ep (fun k=>(fs.take k).map (imF x)) (by simp) (fun k f hk=>by
    have:=AG hk
    rw [JL hp (hf.1 k f hk),Am,CH (by simp;omega) (by simp;omega),Am,map_take hk]),Am,BJ,List.take_length,PJ (by simpa using hl) (fun y hy=>by
      obtain ⟨f,hf',rfl⟩:=List.mem_map.1 hy
      obtain ⟨_,_,_,_,h⟩:=Hd hp ((EM hf).1 f hf')
      exact h) (MT hp hf),Am]
  rfl
theorem Oz {t:Tsk} {x:Swp} {o:Opr} (hok:TaskOk t) (hp:FactsPerm t x) (ho:OpOk t.vars o):DA x o=some (imO x o):=by
  obtain ⟨_,_,hl,_,hpre,heff⟩:=ho
  unfold DA
  rw [If hok hp hpre,Am,Am,Ep (fun k=>(o.effs.take k).map (imE x)) (by simp) (fun k e hk=>by
    obtain ⟨h1,h2⟩:=heff k e hk
    obtain ⟨l,g1,g2,g3,_⟩:=Hd hp h2
    have:=AG hk
    rw [show e.var=(⟨e.var,e.val⟩:Fct).var from rfl,g1,Am,g2,Am,show e.val=(⟨e.var,e.val⟩:Fct).val from rfl,g3,Am,If hok hp h1,Am,CH (by simp;omega) (by simp;omega),Am,map_take hk]
    rfl),Am,BJ,List.take_length]
  rfl
theorem PK {a b:Eff}:a=b↔a.var=b.var∧a.val=b.val∧a.cond=b.cond:=⟨fun h=>by rw [h];exact ⟨rfl,rfl,rfl⟩,fun ⟨h1,h2,h3⟩=>by cases a;cases b;simp_all⟩
theorem PL {t:Tsk} {x:Swp} {o p:Opr} (hok:TaskOk t) (hp:FactsPerm t x) (ho:OpOk t.vars o):EL x o p=some (bof (o.cost=p.cost∧imL x o.pre=p.pre∧o.effs.map (imE x)=p.effs)):=by
  obtain ⟨_,_,hl,_,hpre,heff⟩:=ho
  unfold EL
  by_cases h1:o.cost=p.cost
  case neg=>rw [if_pos h1,Am,Bo,AM (fun h=>h1 h.1)]
  rw [if_neg (by simpa using h1)]
  by_cases h2:o.effs.length=p.effs.length
  case neg=>rw [if_pos (by omega),Am,Bo,AM (fun h=>h2 (by rw [← h.2.2];simp))]
  rw [if_neg (by omega),GR hok hp hpre,Am,Hq,Am]
  by_cases h3:imL x o.pre=p.pre
  case neg=>rw [AM h3,Bq,Am,Bo,AM (fun h=>h3 h.2.1)]
  rw [AU h3,Bo,Am,Bq,FC (fun k=>(o.effs.map (imE x))[k]?=p.effs[k]?) (fun k e hk=>by
    obtain ⟨g1,g2⟩:=heff k e hk
    obtain ⟨z,hz⟩:=AE (l:=p.effs) (k:=k) (by have:=AG hk;omega)
    have hE:(o.effs.map (imE x))[k]?=some (imE x e):=by rw [List.getElem?_map,hk];rfl
    rw [JL hp g2,Am,hz,Am,hE]
    have hex:=@PK (imE x e) z
    by_cases k1:(imF x ⟨e.var,e.val⟩).var=z.var
    case neg=>rw [if_pos k1,Am,Bo,AM (fun h=>k1 (hex.1 (Option.some.inj h)).1),Bq]
    rw [if_neg (by simpa using k1),Am]
    by_cases k2:(imF x ⟨e.var,e.val⟩).val=z.val
    case neg=>rw [if_pos k2,Am,Bo,AM (fun h=>k2 (hex.1 (Option.some.inj h)).2.1),Bq]
    rw [if_neg (by simpa using k2),Am,GR hok hp g1,Am,Hq,Am]
    by_cases k3:imL x e.cond=z.cond
    · rw [AU k3,Bo,Am,Bq,AU (by rw [hex.2 ⟨k1,k2,k3⟩]),Bo]
    · rw [AM k3,Bq,Am,Bo,AM (fun h=>k3 (hex.1 (Option.some.inj h)).2.2),Bq])]
  refine Fb ⟨fun h=>⟨h1,h3,List.ext_getElem? fun k=>?_⟩,fun h=>by rw [h.2.2];exact fun _ _=>rfl⟩
  by_cases hk:k < o.effs.length
  · exact h k hk
  · rw [List.getElem?_eq_none (by simp;omega),List.getElem?_eq_none (by omega)]
def SymP (t:Tsk) (x:Swp):Prop:=FactsPerm t x∧PermR x.ops t.ops.length∧imL x t.goal=t.goal∧∀ k,k < t.ops.length→∃ (o p:Opr) (a:Int),t.ops[k]?=some o∧x.ops[k]?=some a∧atI t.ops a=some p∧o.cost=p.cost∧imL x o.pre=p.pre∧o.effs.map (imE x)=p.effs
theorem Iy {t:Tsk} {x:Swp} (hok:TaskOk t):Dm t x=some (bof (SymP t x)):=by
  unfold Dm
  rw [Ou hok,Am]
  by_cases h1:FactsPerm t x
  case neg=>rw [AM h1,Bq,Am,Bo,AM (fun h=>h1 h.1)]
  have hlo:=hok.2.1
  rw [AU h1,Bo,LB (by omega),Am]
  by_cases h2:PermR x.ops t.ops.length
  case neg=>rw [AM h2,Bq,Am,Bo,AM (fun h=>h2 h.2.1)]
  rw [AU h2,Bo,If hok h1 hok.2.2.2.2.1,Am,FI,Am]
  by_cases h3:imL x t.goal=t.goal
  case neg=>rw [AM h3,Bq,Am,Bo,AM (fun h=>h3 h.2.2.1)]
  rw [AU h3,Bo,Am,Bq,FC (fun k=>∃ (o p:Opr) (a:Int),t.ops[k]?=some o∧x.ops[k]?=some a∧atI t.ops a=some p∧o.cost=p.cost∧imL x o.pre=p.pre∧o.effs.map (imE x)=p.effs) (fun k o hk=>by
    have:=AG hk
    obtain ⟨a,ha⟩:=AE (l:=x.ops) (k:=k) (by rw [h2.len];omega)
    obtain ⟨ha1,ha2⟩:=h2.mem (List.mem_of_getElem? ha)
    obtain ⟨j,rfl⟩:=Int.eq_ofNat_of_zero_le ha1
    obtain ⟨p,hp⟩:=AE (l:=t.ops) (k:=j) (by omega)
    rw [ha,Am,Bn,hp,Am,Oz hok h1 (hok.2.2.2.2.2 k o hk),Am,Ox,Am]
    have e:(∃ (o p:Opr) (a:Int),t.ops[k]?=some o∧some (j:Int)=some a∧atI t.ops a=some p∧o.cost=p.cost∧imL x o.pre=p.pre∧o.effs.map (imE x)=p.effs)↔((imO x o).cost=p.cost∧(imO x o).pre=p.pre∧(imO x o).effs=p.effs):=by
      constructor
      · rintro ⟨o',p',a',q1,q2,q3,q4⟩
        obtain rfl:o=o':=by rw [hk] at q1;exact Option.some.inj q1
        obtain rfl:=Option.some.inj q2
        rw [Bn,hp] at q3
        obtain rfl:=Option.some.inj q3
        exact q4
      · intro h
        exact ⟨o,p,j,hk,rfl,by rw [Bn,hp],h⟩
    rw [Et e])]
  exact Fb ⟨fun h=>⟨h1,h2,h3,h⟩,fun h=>h.2.2.2⟩
theorem Mb {t:Tsk} {x:Swp}:DG t x=some (bof (TaskOk t∧SymP t x)):=by
  unfold DG GN
  rw [Am]
  by_cases hok:TaskOk t
  case neg=>rw [AM hok,Bq,Am,Bo,AM (fun h=>hok h.1)]
  rw [AU hok,Bo,Ov hok,Am]
  by_cases h12:FactsPerm t x∧PermR x.ops t.ops.length
  case neg=>rw [AM h12,Bq,Am,Bo,AM (fun h=>h12 ⟨h.2.1,h.2.2.1⟩)]
  obtain ⟨h1,h2⟩:=h12
  have hlo:=hok.2.1
  rw [AU ⟨h1,h2⟩,Bo,GR hok h1 hok.2.2.2.2.1,Am,Hq,Am]
  by_cases h3:imL x t.goal=t.goal
  case neg=>rw [AM h3,Bq,Am,Bo,AM (fun h=>h3 h.2.2.2.1)]
  rw [AU h3,Bo,Am,Bq,FC (fun k=>∃ (o p:Opr) (a:Int),t.ops[k]?=some o∧x.ops[k]?=some a∧atI t.ops a=some p∧o.cost=p.cost∧imL x o.pre=p.pre∧o.effs.map (imE x)=p.effs) (fun k o hk=>by
    have:=AG hk
    obtain ⟨a,ha⟩:=AE (l:=x.ops) (k:=k) (by rw [h2.len];omega)
    obtain ⟨ha1,ha2⟩:=h2.mem (List.mem_of_getElem? ha)
    obtain ⟨j,rfl⟩:=Int.eq_ofNat_of_zero_le ha1
    obtain ⟨p,hp⟩:=AE (l:=t.ops) (k:=j) (by omega)
    rw [ha,Am,Bn,hp,Am,PL hok h1 (hok.2.2.2.2.2 k o hk),Am]
    have e:(∃ (o p:Opr) (a:Int),t.ops[k]?=some o∧some (j:Int)=some a∧atI t.ops a=some p∧o.cost=p.cost∧imL x o.pre=p.pre∧o.effs.map (imE x)=p.effs)↔(o.cost=p.cost∧imL x o.pre=p.pre∧o.effs.map (imE x)=p.effs):=by
      constructor
      · rintro ⟨o',p',a',q1,q2,q3,q4⟩
        obtain rfl:o=o':=by rw [hk] at q1;exact Option.some.inj q1
        obtain rfl:=Option.some.inj q2
        rw [Bn,hp] at q3
        obtain rfl:=Option.some.inj q3
        exact q4
      · intro h
        exact ⟨o,p,j,hk,rfl,by rw [Bn,hp],h⟩
    rw [Et e])]
  exact Fb ⟨fun h=>⟨hok,h1,h2,h3,h⟩,fun h=>h.2.2.2.2⟩
theorem LC {t:Tsk} {x:Swp}:Ct t x=some (bof (TaskOk t∧SymP t x)):=by
  unfold Ct Cm
  rw [Am]
  by_cases hok:TaskOk t
  case neg=>rw [if_neg (fun h=>hok (CM.1 h)),Am,AM (fun h=>hok h.1)]
  rw [if_pos (CM.2 hok),Iy hok,Am]
  by_cases h:SymP t x
  · rw [AU h,Bo,Am,AU ⟨hok,h⟩]
  · rw [AM h,Bq,Am,AM (fun hh=>h hh.2)]
end
section
open Go Go.RowKit
theorem demand1 {t:Tsk} {x:Swp} (hok:TaskOk t):Bx t [x]=some ⟨if bof (SymP t x)=true then 0 else 2⟩:=by
  unfold Bx Cm
  rw [Am,if_neg (by rw [CM.2 hok];simp)]
  by_cases h:SymP t x
  · rw [Je (fun k y hy=>by
      obtain rfl:y=x:=by simpa using List.mem_of_getElem? hy
      rw [Iy hok,Am,AU h,Bo]),Am,BJ,AU h,Bo]
  · have:rng (ρ:=Err) (fun (_:Nat) (a41:Swp) (_:Unit)=>bnd (Dm t a41) fun q77=>if q77=true then some (.next ()) else some (.ret (⟨2⟩:Err))) [x] 0 ()=some (.ret ⟨2⟩):=by
      simp only [rng]
      rw [Iy hok,Am,AM h,Bq]
    rw [this,Am,Ho,AM h,Bq]
def ImS (x:Swp) (s r:List Int):Prop:=r.length=s.length∧∀ (k:Nat) v,s[k]?=some v→∃ (a:Nat) (l:List Int) (z:Int),x.vars[k]?=some (a:Int)∧x.vals[k]?=some l∧atI l v=some z∧r[a]?=some z
theorem LD {t:Tsk} {x:Swp} {s:List Int} (hok:TaskOk t) (hp:FactsPerm t x) (hs:StateOk t.vars s):∃ r,Cs x s=some r∧ImS x s r:=by
  obtain ⟨hsl,hsv⟩:=hs
  have hl:=hok.1
  unfold Cs
  rw [Gt (by omega) (by omega),Am]
  obtain ⟨r,h1,h2,h3⟩:=DI (ρ:=List Int) (f:=fun (k42:Nat) (a43:Int) (s40:(List Int))=>bnd (x.vars[k42]?) fun a65=>bnd (x.vals[k42]?) fun a75=>bnd (atI a75 a43) fun a88=>bnd (atI s40 a65) fun _=>some (.next (s40.set (a65).toNat a88))) (xs:=s) (s₀:=List.replicate s.length 0)
    (fun k r=>r.length=s.length∧∀ (j:Nat) v,j < k→s[j]?=some v→∃ (a:Nat) (l:List Int) (z:Int),x.vars[j]?=some (a:Int)∧x.vals[j]?=some l∧atI l v=some z∧r[a]?=some z) ⟨by simp,fun j v hj=>by omega⟩ (fun k v r hk hI=>by
    obtain ⟨i1,i2⟩:=hI
    have hlt:=AG hk
    obtain ⟨n,a,l,q1,q2,q3,q4,q5⟩:=hp.2.2 k (by omega)
    obtain ⟨ha1,ha2⟩:=hp.1.mem (List.mem_of_getElem? q2)
    obtain ⟨a,rfl⟩:=Int.eq_ofNat_of_zero_le ha1
    obtain ⟨h1,h2⟩:=hsv k v n hk q1
    obtain ⟨u,rfl⟩:=Int.eq_ofNat_of_zero_le h1
    obtain ⟨z,hz⟩:=AE (l:=l) (k:=u) (by rw [q5.len];omega)
    obtain ⟨y,hy⟩:=AE (l:=r) (k:=a) (by omega)
    rw [q2,Am,q3,Am,Bn,hz,Am,Bn,hy,Am]
    refine ⟨_,rfl,by simpa using i1,fun j v' hj hv'=>?_⟩
    rw [show ((a:Int)).toNat=a from by omega]
    by_cases hjk:j=k
    · subst hjk
      rw [hk] at hv'
      obtain rfl:=Option.some.inj hv'
      exact ⟨a,l,z,q2,q3,by rw [Bn,hz],by rw [List.getElem?_set_self (by omega)]⟩
    · obtain ⟨a',l',z',g1,g2,g3,g4⟩:=i2 j v' (by omega) hv'
      refine ⟨a',l',z',g1,g2,g3,?_⟩
      rw [List.getElem?_set_ne (fun e=>hjk ?_),g4]
      have hj1:=AG g1
      have hk1:=AG q2
      rw [e] at q2
      have:=g1.trans q2.symm
      rw [List.getElem?_eq_getElem hj1,List.getElem?_eq_getElem hk1] at this
      exact (List.getElem_inj hp.1.nodup).1 (Option.some.inj this))
  exact ⟨r,by rw [h1,Am,BJ],h2,fun k v hk=>h3 k v (AG hk) hk⟩
theorem Kw (x:Swp) (s:List Int):DH x s=Cs x s:=rfl
end
section
open Go Go.RowKit
theorem FD {l:List Int} {n:Nat} (h:PermR l n) {k:Nat} (hk:k < n):∃ a:Nat,l[k]?=some (a:Int)∧a < n:=by
  obtain ⟨z,hz⟩:=AE (l:=l) (k:=k) (by rw [h.len];exact hk)
  obtain ⟨h1,h2⟩:=h.mem (List.mem_of_getElem? hz)
  obtain ⟨a,rfl⟩:=Int.eq_ofNat_of_zero_le h1
  exact ⟨a,hz,by omega⟩
theorem Fm {l:List Int} {n:Nat} (h:PermR l n) {a:Nat} (ha:a < n):∃ k:Nat,k < n∧l[k]?=some (a:Int):=by
  have:(a:Int)∈l:=h.mem_iff.2 (Fv.2 ⟨by omega,by omega⟩)
  obtain ⟨k,hk⟩:=List.getElem?_of_mem this
  exact ⟨k,by rw [← h.len];exact AG hk,hk⟩
theorem Gz {l:List Int} {n:Nat} (h:PermR l n) {i j:Nat} {a:Int} (hi:l[i]?=some a) (hj:l[j]?=some a):i=j:=by
  have h1:=AG hi
  have h2:=AG hj
  have:=hi.trans hj.symm
  rw [List.getElem?_eq_getElem h1,List.getElem?_eq_getElem h2] at this
  exact (List.getElem_inj h.nodup).1 (Option.some.inj this)
theorem Kx {l:List Int} {n:Nat} (hl:l.length=n) (h1:∀ (k:Nat) (a:Int),l[k]?=some a→0≤a∧a < n) (h2:∀ (i j:Nat) (a:Int),l[i]?=some a→l[j]?=some a→i=j):PermR l n:=by
  refine LA ?_ (fun x hx=>?_) hl
  · rw [List.nodup_iff_pairwise_ne,List.pairwise_iff_getElem]
    intro i j hi hj hij e
    have:=h2 i j l[i] (List.getElem?_eq_getElem hi) (by rw [List.getElem?_eq_getElem hj,e])
    omega
  · obtain ⟨k,hk⟩:=List.getElem?_of_mem hx
    exact h1 k x hk
theorem Eq {n k:Nat} (h:k < n):(rangeI n)[k]?=some (k:Int):=by
  unfold rangeI
  rw [List.getElem?_map,List.getElem?_range h];rfl
theorem GS (n:Nat):PermR (rangeI n) n:=List.Perm.refl _
theorem Ky {l:List Int} {n:Nat} (hl:l.length=n) (h:∀ k,k < n→l[k]?=some (k:Int)):l=rangeI n:=List.ext_getElem? fun k=>by
  by_cases hk:k < n
  · rw [h k hk,Eq hk]
  · rw [List.getElem?_eq_none (by omega),List.getElem?_eq_none (by rw [Gf];omega)]
theorem JW {n:Nat} (h:n≤1000000):CR (n:Int)=some (rangeI n):=by
  unfold CR
  rw [Gt (by omega) (by omega),Am,List.length_replicate]
  obtain ⟨s,h1,h2,h3⟩:=Oj (ρ:=List Int) (f:=fun (k20:Nat) (s18:(List Int))=>bnd (s18[k20]?) fun _=>some (.next (s18.set k20 (k20:Int)))) (N:=n) (s₀:=List.replicate n 0) (fun k s=>s.length=n∧∀ j,j < k→s[j]?=some (j:Int)) ⟨by simp,fun j hj=>by omega⟩ (fun k s hk hI=>by
    obtain ⟨i1,i2⟩:=hI
    obtain ⟨z,hz⟩:=AE (l:=s) (k:=k) (by omega)
    rw [hz,Am]
    refine ⟨_,rfl,by simpa using i1,fun j hj=>?_⟩
    rw [List.getElem?_set]
    by_cases e:k=j
    · rw [if_pos e,if_pos (by omega),e]
    · rw [if_neg e];exact i2 j (by omega))
  rw [h1,Am,BJ,Ky h2 h3]
def alongL (a b:List Int):List Int:=a.map fun k=>(b[k.toNat]?).getD 0
theorem DO {a b:List Int} {n:Nat} (ha:PermR a n) (hb:b.length=n) {k i:Nat} {z:Int} (h1:a[k]?=some (i:Int)) (h2:b[i]?=some z):(alongL a b)[k]?=some z:=by
  unfold alongL
  rw [List.getElem?_map,h1]
  simp [h2]
theorem Jh {a b:List Int} {n:Nat} (ha:PermR a n) (hb:b.length=n) (hn:n≤1000000):CN a b=some (alongL a b):=by
  unfold CN
  have hl:=ha.len
  rw [Gt (by omega) (by omega),Am]
  obtain ⟨s,h1,h2,h3⟩:=DI (ρ:=List Int) (f:=fun (k26:Nat) (a27:Int) (s24:(List Int))=>bnd (atI b a27) fun a49=>bnd (s24[k26]?) fun _=>some (.next (s24.set k26 a49))) (xs:=a) (s₀:=List.replicate a.length 0) (fun k s=>s.length=a.length∧∀ j,j < k→s[j]?=(alongL a b)[j]?) ⟨by simp,fun j hj=>by omega⟩ (fun k y s hk hI=>by
    obtain ⟨i1,i2⟩:=hI
    have hlt:=AG hk
    obtain ⟨i,hi,hin⟩:=FD ha (k:=k) (by omega)
    obtain rfl:y=(i:Int):=by rw [hi] at hk;exact (Option.some.inj hk).symm
    obtain ⟨z,hz⟩:=AE (l:=b) (k:=i) (by omega)
    obtain ⟨u,hu⟩:=AE (l:=s) (k:=k) (by omega)
    rw [Bn,hz,Am,hu,Am]
    refine ⟨_,rfl,by simpa using i1,fun j hj=>?_⟩
    rw [List.getElem?_set]
    by_cases e:k=j
    · subst e;rw [if_pos rfl,if_pos (by omega),DO ha hb hi hz]
    · rw [if_neg e];exact i2 j (by omega))
  rw [h1,Am,BJ]
  refine congrArg some (List.ext_getElem? fun k=>?_)
  by_cases hk:k < a.length
  · exact h3 k hk
  · rw [List.getElem?_eq_none (by omega),List.getElem?_eq_none (by simp [alongL];omega)]
theorem Hs {a b:List Int} {n:Nat} (ha:PermR a n) (hb:PermR b n):PermR (alongL a b) n:=by
  have hl:(alongL a b).length=n:=by simp [alongL,ha.len]
  have key:∀ (k:Nat) (z:Int),(alongL a b)[k]?=some z→∃ i:Nat,a[k]?=some (i:Int)∧b[i]?=some z:=fun k z hz=>by
    obtain ⟨i,hi,hin⟩:=FD ha (k:=k) (by rw [← hl];exact AG hz)
    obtain ⟨y,hy,_⟩:=FD hb hin
    rw [DO ha hb.len hi hy] at hz
    exact ⟨i,hi,hy.trans hz⟩
  refine Kx hl (fun k z hz=>?_) (fun k j z h1 h2=>?_)
  · obtain ⟨i,hi,hz⟩:=key k z hz
    exact hb.mem (List.mem_of_getElem? hz)
  · obtain ⟨i,hi,hz⟩:=key k z h1
    obtain ⟨i',hi',hz'⟩:=key j z h2
    have:=Gz hb hz hz'
    subst this
    exact Gz ha hi hi'
noncomputable def backL (l:List Int):List Int:=(Cp l).getD []
theorem ED {l:List Int} {n:Nat} (hp:PermR l n) (hn:n≤1000000):Cp l=some (backL l)∧(backL l).length=n∧∀ i k:Nat,l[i]?=some (k:Int)→(backL l)[k]?=some (i:Int):=by
  have hl:=hp.len
  have:∃ s,Cp l=some s∧s.length=n∧∀ i k:Nat,l[i]?=some (k:Int)→s[k]?=some (i:Int):=by
    unfold Cp
    rw [Gt (by omega) (by omega),Am]
    obtain ⟨s,h1,h2,h3⟩:=DI (ρ:=List Int) (f:=fun (k24:Nat) (a25:Int) (s22:(List Int))=>bnd (atI s22 a25) fun _=>some (.next (s22.set (a25).toNat (k24:Int)))) (xs:=l) (s₀:=List.replicate l.length 0) (fun k s=>s.length=n∧∀ i j:Nat,i < k→l[i]?=some (j:Int)→s[j]?=some (i:Int)) ⟨by simpa using hl,fun i j hi=>by omega⟩ (fun k y s hk hI=>by
      obtain ⟨i1,i2⟩:=hI
      have hlt:=AG hk
      obtain ⟨j,hj,hjn⟩:=FD hp (k:=k) (by omega)
      obtain rfl:y=(j:Int):=by rw [hj] at hk;exact (Option.some.inj hk).symm
      obtain ⟨u,hu⟩:=AE (l:=s) (k:=j) (by omega)
      rw [Bn,hu,Am]
      refine ⟨_,rfl,by simpa using i1,fun i j' hi hij=>?_⟩
      rw [show ((j:Int)).toNat=j from by omega,List.getElem?_set]
      by_cases e:j=j'
      · subst e
        rw [if_pos rfl,if_pos (by omega),Gz hp hij hk]
      · rw [if_neg e]
        refine i2 i j' ?_ hij
        have:i≠k:=fun h=>e (by subst h;rw [hij] at hk;have:=Option.some.inj hk;omega)
        omega)
    exact ⟨s,by rw [h1,Am,BJ],h2,fun i k h=>h3 i k (AG h) h⟩
  obtain ⟨s,h1,h2,h3⟩:=this
  have e:backL l=s:=by unfold backL;rw [h1];rfl
  rw [e];exact ⟨h1,h2,h3⟩
theorem Ih {l:List Int} {n:Nat} (hp:PermR l n) (hn:n≤1000000):PermR (backL l) n:=by
  obtain ⟨_,h2,h3⟩:=ED hp hn
  have key:∀ (k:Nat) (z:Int),(backL l)[k]?=some z→∃ i:Nat,z=(i:Int)∧i < n∧l[i]?=some (k:Int):=fun k z hz=>by
    obtain ⟨i,hin,hi⟩:=Fm hp (a:=k) (by rw [← h2];exact AG hz)
    have:=h3 i k hi
    rw [hz] at this
    exact ⟨i,Option.some.inj this,hin,hi⟩
  refine Kx h2 (fun k z hz=>?_) (fun k j z g1 g2=>?_)
  · obtain ⟨i,rfl,hi,_⟩:=key k z hz;omega
  · obtain ⟨i,rfl,_,hi⟩:=key k z g1
    obtain ⟨i',e,_,hi'⟩:=key j _ g2
    obtain rfl:i=i':=by omega
    rw [hi] at hi'
    have:=Option.some.inj hi'
    omega
theorem Ht {l:List Int} {n:Nat} (hp:PermR l n) (hn:n≤1000000):alongL l (backL l)=rangeI n:=by
  obtain ⟨_,h2,h3⟩:=ED hp hn
  refine Ky (by simp [alongL,hp.len]) fun k hk=>?_
  obtain ⟨a,ha,_⟩:=FD hp hk
  exact DO hp h2 ha (h3 k a ha)
theorem JM {x:Swp} {v u a z:Nat} {l:List Int} (h1:x.vars[v]?=some (a:Int)) (h2:x.vals[v]?=some l) (h3:l[u]?=some (z:Int)):imF x ⟨v,u⟩=⟨a,z⟩:=by simp [imF,h1,h2,h3]
theorem Er {t:Tsk} {x:Swp} {f:Fct} (hok:TaskOk t) (hp:FactsPerm t x) (hf:FactOk t.vars f):∃ (v u n a z:Nat) (l:List Int),f=⟨v,u⟩∧v < t.vars.length∧t.vars[v]?=some (n:Int)∧n≤64∧u < n∧x.vars[v]?=some (a:Int)∧x.vals[v]?=some l∧PermR l n∧l[u]?=some (z:Int)∧z < n∧a < t.vars.length∧t.vars[a]?=some (n:Int)∧imF x f=⟨a,z⟩:=by
  obtain ⟨fv,fu⟩:=f
  obtain ⟨h1,h2,n,hn,h3⟩:=hf
  simp only at h1 h2 hn h3
  obtain ⟨v,rfl⟩:=Int.eq_ofNat_of_zero_le h1
  obtain ⟨u,rfl⟩:=Int.eq_ofNat_of_zero_le h2
  rw [show ((v:Int)).toNat=v from by omega] at hn
  have hlt:=AG hn
  obtain ⟨m,a,l,q1,q2,q3,q4,q5⟩:=hp.2.2 v hlt
  have e:(m:Int)=n:=by rw [hn] at q1;exact (Option.some.inj q1).symm
  subst e
  obtain ⟨ha1,ha2⟩:=hp.1.mem (List.mem_of_getElem? q2)
  obtain ⟨a,rfl⟩:=Int.eq_ofNat_of_zero_le ha1
  obtain ⟨z,hz,hzn⟩:=FD q5 (k:=u) (by omega)
  have hm:=hok.2.2.1 v m hn
  rw [Bn] at q4
  exact ⟨v,u,m,a,z,l,rfl,hlt,hn,by omega,by omega,q2,q3,q5,hz,hzn,by omega,q4,JM q2 q3 hz⟩
theorem NF {t:Tsk} {x:Swp} {f:Fct} (hok:TaskOk t) (hp:FactsPerm t x) (hf:FactOk t.vars f):FactOk t.vars (imF x f):=by
  obtain ⟨v,u,n,a,z,l,rfl,_,_,_,_,_,_,_,_,hz,ha,hta,e⟩:=Er hok hp hf
  rw [e]
  exact ⟨by simp,by simp,n,by simpa using hta,by simpa using hz⟩
theorem LE {t:Tsk} {x:Swp} {fs:List Fct} (hok:TaskOk t) (hp:FactsPerm t x) (hf:FactsOk t.vars fs):(∀ f∈imL x fs,FactOk t.vars f)∧(imL x fs).Pairwise fun a b=>a.var < b.var:=by
  refine ⟨fun f h=>?_,Hr (MT hp hf)⟩
  have h:=(Du _).mem_iff.1 h
  obtain ⟨g,hg,rfl⟩:=List.mem_map.1 h
  exact NF hok hp ((EM hf).1 g hg)
theorem NG {t:Tsk} {x:Swp} {fs gs:List Fct} (hp:FactsPerm t x) (hf:FactsOk t.vars fs) (hg:gs.Pairwise fun a b=>a.var < b.var) (h:gs.Perm (fs.map (imF x))):imL x fs=gs :=
  Ku ((Du _).trans h.symm) (Hr (MT hp hf)) hg
theorem Ji {t:Tsk} {x y z:Swp} {fs:List Fct} (hok:TaskOk t) (hx:FactsPerm t x) (hy:FactsPerm t y) (hz:FactsPerm t z) (hf:FactsOk t.vars fs) (hgs:FactsOk t.vars (imL x fs)) (h:∀ f,FactOk t.vars f→imF z f=imF y (imF x f)):imL z fs=imL y (imL x fs):=by
  refine NG hz hf (LE hok hy hgs).2 ?_
  refine (Du _).trans ?_
  have e:fs.map (imF z)=(fs.map (imF x)).map (imF y):=by
    rw [List.map_map]
    exact List.map_congr_left fun f hf'=>h f ((EM hf).1 f hf')
  rw [e]
  exact (Du _).map _
theorem MU {vars:List Int} {f:List Fct} (h1:∀ x∈f,FactOk vars x) (h2:f.Pairwise fun x y=>x.var < y.var):FactsOk vars f:=by
  refine ⟨fun i x hx=>h1 x (List.mem_of_getElem? hx),fun i x y hx hy=>?_⟩
  obtain ⟨hi,rfl⟩:=List.getElem?_eq_some_iff.1 hx
  obtain ⟨hj,rfl⟩:=List.getElem?_eq_some_iff.1 hy
  exact List.pairwise_iff_getElem.1 h2 i (i + 1) hi hj (Nat.lt_succ_self i)
theorem Ii {t:Tsk} {x:Swp} {fs:List Fct} (hok:TaskOk t) (hp:FactsPerm t x) (hf:FactsOk t.vars fs):FactsOk t.vars (imL x fs):=MU (LE hok hp hf).1 (LE hok hp hf).2
theorem Hu {t:Tsk} {x:Swp} {fs:List Fct} (hp:FactsPerm t x) (hf:FactsOk t.vars fs) (h:∀ f,FactOk t.vars f→imF x f=f):imL x fs=fs:=by
  refine NG hp hf (EM hf).2 ?_
  have:fs.map (imF x)=fs.map id:=List.map_congr_left fun f hf'=>h f ((EM hf).1 f hf')
  rw [this,List.map_id]
theorem LF {t:Tsk} {x y z:Swp} {e:Eff} (hok:TaskOk t) (hx:FactsPerm t x) (hy:FactsPerm t y) (hz:FactsPerm t z) (he:EffOk t.vars e) (h:∀ f,FactOk t.vars f→imF z f=imF y (imF x f)):imE z e=imE y (imE x e):=by
  have h1:=Ji hok hx hy hz he.1 (Ii hok hx he.1) h
  have h2:=h ⟨e.var,e.val⟩ he.2
  show (⟨imL z e.cond,(imF z ⟨e.var,e.val⟩).var,(imF z ⟨e.var,e.val⟩).val⟩:Eff)=⟨imL y (imL x e.cond),(imF y (imF x ⟨e.var,e.val⟩)).var,(imF y (imF x ⟨e.var,e.val⟩)).val⟩
  rw [h1,h2]
theorem LG {t:Tsk} {x:Swp} {e:Eff} (hp:FactsPerm t x) (he:EffOk t.vars e) (h:∀ f,FactOk t.vars f→imF x f=f):imE x e=e:=by
  show (⟨imL x e.cond,(imF x ⟨e.var,e.val⟩).var,(imF x ⟨e.var,e.val⟩).val⟩:Eff)=e
  rw [Hu hp he.1 h,h _ he.2]
theorem Iz {vars:List Int} {o:Opr} (ho:OpOk vars o):∀ e∈o.effs,EffOk vars e:=fun e he=>by
  obtain ⟨j,hj⟩:=List.getElem?_of_mem he
  exact ho.2.2.2.2.2 j e hj
def idX (t:Tsk):Swp:=⟨rangeI t.vars.length,t.vars.map fun n=>rangeI n.toNat,rangeI t.ops.length⟩
theorem EE {t:Tsk} (hok:TaskOk t):FactsPerm t (idX t):=by
  refine ⟨GS _,by simp [idX],fun k hk=>?_⟩
  obtain ⟨n,hn⟩:=AE (l:=t.vars) (k:=k) hk
  have:=hok.2.2.1 k n hn
  obtain ⟨m,rfl⟩:=Int.eq_ofNat_of_zero_le (by omega:0≤n)
  exact ⟨m,k,rangeI m,hn,Eq hk,by simp [idX,hn],by rw [Bn,hn],GS _⟩
theorem FE {t:Tsk} (hok:TaskOk t) {f:Fct} (hf:FactOk t.vars f):imF (idX t) f=f:=by
  obtain ⟨v,u,n,a,z,l,rfl,h1,h2,_,hu,h3,h4,_,h5,_,_,_,e⟩:=Er hok (EE hok) hf
  have e1:(idX t).vars[v]?=some (v:Int):=Eq h1
  have e2:(idX t).vals[v]?=some (rangeI n):=by simp [idX,h2]
  exact JM e1 e2 (Eq hu)
theorem NH {t:Tsk} (hok:TaskOk t):SymP t (idX t):=by
  refine ⟨EE hok,GS _,Hu (EE hok) hok.2.2.2.2.1 fun f=>FE hok,fun k hk=>?_⟩
  obtain ⟨o,ho⟩:=AE (l:=t.ops) (k:=k) hk
  have hoo:=hok.2.2.2.2.2 k o ho
  refine ⟨o,o,k,ho,Eq hk,by rw [Bn,ho],rfl,Hu (EE hok) hoo.2.2.2.2.1 fun f=>FE hok,?_⟩
  have:o.effs.map (imE (idX t))=o.effs.map id:=List.map_congr_left fun e he=>LG (EE hok) (Iz hoo e he) fun f=>FE hok
  rw [this,List.map_id]
theorem demand0 {t:Tsk} (hok:TaskOk t):Bx t []=some ⟨0⟩:=by
  unfold Bx Cm
  rw [Am,if_neg (by rw [CM.2 hok];simp)]
  rfl
theorem demand2 {t:Tsk} {x y:Swp} (hok:TaskOk t):Bx t [x,y]=some ⟨if bof (SymP t x∧SymP t y)=true then 0 else 2⟩:=by
  unfold Bx Cm
  rw [Am,if_neg (by rw [CM.2 hok];simp)]
  simp only [rng]
  rw [Iy hok,Iy hok,Am,Am]
  by_cases hx:SymP t x
  · rw [AU hx,Bo]
    by_cases hy:SymP t y
    · rw [AU hy,Bo,AU (p:=SymP t x∧SymP t y) ⟨hx,hy⟩];rfl
    · rw [AM hy,Bq,AM (p:=SymP t x∧SymP t y) (fun h=>hy h.2)];rfl
  · rw [AM hx,Bq,AM (p:=SymP t x∧SymP t y) (fun h=>hx h.1)];rfl
def compX (x y:Swp):Swp:=⟨alongL x.vars y.vars,x.vals.mapIdx fun v l=>alongL l ((y.vals[((x.vars[v]?).getD 0).toNat]?).getD []),alongL x.ops y.ops⟩
theorem FQ {x y:Swp} {v a:Nat} {l m:List Int} (h1:x.vars[v]?=some (a:Int)) (h2:x.vals[v]?=some l) (h3:y.vals[a]?=some m):(compX x y).vals[v]?=some (alongL l m):=by
  simp [compX,List.getElem?_mapIdx,h1,h2,h3]
theorem NI {t:Tsk} {x y:Swp} (hx:FactsPerm t x) (hy:FactsPerm t y):FactsPerm t (compX x y):=by
  refine ⟨Hs hx.1 hy.1,by simp [compX,hx.2.1],fun k hk=>?_⟩
  obtain ⟨n,a,l,q1,q2,q3,q4,q5⟩:=hx.2.2 k hk
  obtain ⟨ha1,ha2⟩:=hx.1.mem (List.mem_of_getElem? q2)
  obtain ⟨a,rfl⟩:=Int.eq_ofNat_of_zero_le ha1
  obtain ⟨n',b,m,p1,p2,p3,p4,p5⟩:=hy.2.2 a (by omega)
  rw [Bn] at q4
  have e:n=n':=by rw [q4] at p1;have:=Option.some.inj p1;omega
  subst e
  exact ⟨n,b,alongL l m,q1,DO hx.1 hy.1.len q2 p2,FQ q2 q3 p3,p4,Hs q5 p5⟩
theorem NJ {t:Tsk} {x y:Swp} (hok:TaskOk t) (hx:FactsPerm t x) (hy:FactsPerm t y) {f:Fct} (hf:FactOk t.vars f):imF (compX x y) f=imF y (imF x f):=by
  obtain ⟨v,u,n,a,z,l,rfl,h1,h2,h3,hu,h4,h5,h6,h7,h8,h9,h10,e⟩:=Er hok hx hf
  have hf2:=NF hok hx hf
  rw [e] at hf2 ⊢
  obtain ⟨v',u',n',a',z',l',e',g1,g2,g3,gu,g4,g5,g6,g7,g8,g9,g10,e2⟩:=Er hok hy hf2
  have e3:v'=a:=by have:=congrArg Fct.var e';simp at this;omega
  have e4:u'=z:=by have:=congrArg Fct.val e';simp at this;omega
  subst e3 e4
  rw [e2]
  have hn:n'=n:=by rw [g2] at h10;have:=Option.some.inj h10;omega
  subst hn
  exact JM (DO hx.1 hy.1.len h4 g4) (FQ h4 h5 g5) (DO h6 g6.len h7 g7)
theorem Fo {t:Tsk} {x:Swp} (hx:SymP t x) {k:Nat} (hk:k < t.ops.length):∃ (o p:Opr) (a:Nat),t.ops[k]?=some o∧x.ops[k]?=some (a:Int)∧a < t.ops.length∧t.ops[a]?=some p∧o.cost=p.cost∧imL x o.pre=p.pre∧o.effs.map (imE x)=p.effs:=by
  obtain ⟨o,p,a,h1,h2,h3,h4⟩:=hx.2.2.2 k hk
  obtain ⟨ha1,ha2⟩:=hx.2.1.mem (List.mem_of_getElem? h2)
  obtain ⟨a,rfl⟩:=Int.eq_ofNat_of_zero_le ha1
  rw [Bn] at h3
  exact ⟨o,p,a,h1,h2,by omega,h3,h4⟩
theorem LH {t:Tsk} {x y:Swp} (hok:TaskOk t) (hx:SymP t x) (hy:SymP t y):SymP t (compX x y):=by
  have hz:=NI hx.1 hy.1
  have hc:∀ f,FactOk t.vars f→imF (compX x y) f=imF y (imF x f):=fun f=>NJ hok hx.1 hy.1
  have hL:∀ fs,FactsOk t.vars fs→imL (compX x y) fs=imL y (imL x fs):=fun fs hf=>Ji hok hx.1 hy.1 hz hf (Ii hok hx.1 hf) hc
  refine ⟨hz,Hs hx.2.1 hy.2.1,by rw [hL _ hok.2.2.2.2.1,hx.2.2.1,hy.2.2.1],fun k hk=>?_⟩
  obtain ⟨o,p,a,h1,h2,ha,h3,h4,h5,h6⟩:=Fo hx hk
  obtain ⟨p',q,b,g1,g2,hb,g3,g4,g5,g6⟩:=Fo hy ha
  obtain rfl:p=p':=by rw [g1] at h3;exact (Option.some.inj h3).symm
  have hoo:=hok.2.2.2.2.2 k o h1
  refine ⟨o,q,b,h1,DO hx.2.1 hy.2.1.len h2 g2,by rw [Bn,g3],h4.trans g4,by rw [hL _ hoo.2.2.2.2.1,h5,g5],?_⟩
  have:o.effs.map (imE (compX x y))=o.effs.map (imE y ∘ imE x):=List.map_congr_left fun e he=>LF hok hx.1 hy.1 hz (Iz hoo e he) hc
  rw [this,← List.map_map,h6,g6]
noncomputable def invX (x:Swp):Swp:=⟨backL x.vars,(List.range x.vals.length).map fun w=>backL ((x.vals[(((backL x.vars)[w]?).getD 0).toNat]?).getD []),backL x.ops⟩
theorem Hv {t:Tsk} {x:Swp} (hok:TaskOk t) (hx:FactsPerm t x) {v a:Nat} {l:List Int} (h1:x.vars[v]?=some (a:Int)) (h2:x.vals[v]?=some l):(invX x).vals[a]?=some (backL l):=by
  obtain ⟨_,h4,h5⟩:=ED hx.1 (by have:=hok.1;omega)
  have:=hx.1.mem (List.mem_of_getElem? h1)
  have h6:=h5 v a h1
  show ((List.range x.vals.length).map _)[a]?=_
  rw [List.getElem?_map,List.getElem?_range (by rw [hx.2.1];omega)]
  simp [h6,h2]
theorem Jj {t:Tsk} {x:Swp} (hok:TaskOk t) (hx:FactsPerm t x):FactsPerm t (invX x):=by
  have hl:t.vars.length≤1000000:=by have:=hok.1;omega
  refine ⟨Ih hx.1 hl,by simp [invX,hx.2.1],fun k hk=>?_⟩
  obtain ⟨v,hv,hvk⟩:=Fm hx.1 hk
  obtain ⟨n,a,l,q1,q2,q3,q4,q5⟩:=hx.2.2 v hv
  obtain rfl:a=(k:Int):=by rw [hvk] at q2;exact (Option.some.inj q2).symm
  rw [Bn] at q4
  have hn:=hok.2.2.1 v n q1
  obtain ⟨_,h4,h5⟩:=ED hx.1 hl
  exact ⟨n,v,backL l,q4,h5 v k hvk,Hv hok hx hvk q3,by rw [Bn,q1],Ih q5 (by omega)⟩
theorem LI {t:Tsk} {x:Swp} (hok:TaskOk t) (hx:FactsPerm t x) {f:Fct} (hf:FactOk t.vars f):imF (invX x) (imF x f)=f:=by
  obtain ⟨v,u,n,a,z,l,rfl,h1,h2,h3,hu,h4,h5,h6,h7,h8,h9,h10,e⟩:=Er hok hx hf
  rw [e]
  have hl:t.vars.length≤1000000:=by have:=hok.1;omega
  exact JM ((ED hx.1 hl).2.2 v a h4) (Hv hok hx h4 h5) ((ED h6 (by omega)).2.2 u z h7)
theorem LJ {t:Tsk} {x:Swp} (hok:TaskOk t) (hx:FactsPerm t x) {fs:List Fct} (hf:FactsOk t.vars fs):imL (invX x) (imL x fs)=fs:=by
  rw [← Ji hok hx (Jj hok hx) (EE hok) hf (Ii hok hx hf) (fun f hf=>by rw [LI hok hx hf,FE hok hf])]
  exact Hu (EE hok) hf fun f=>FE hok
theorem PM {t:Tsk} {x:Swp} (hok:TaskOk t) (hx:FactsPerm t x) {e:Eff} (he:EffOk t.vars e):imE (invX x) (imE x e)=e:=by
  rw [← LF hok hx (Jj hok hx) (EE hok) he (fun f hf=>by rw [LI hok hx hf,FE hok hf])]
  exact LG (EE hok) he fun f=>FE hok
theorem JX {t:Tsk} {x:Swp} (hok:TaskOk t) (hx:SymP t x):SymP t (invX x):=by
  have hl:t.ops.length≤1000000:=by have:=hok.2.1;omega
  refine ⟨Jj hok hx.1,Ih hx.2.1 hl,?_,fun k hk=>?_⟩
  · have:=LJ hok hx.1 hok.2.2.2.2.1
    rwa [hx.2.2.1] at this
  · obtain ⟨j,hj,hjk⟩:=Fm hx.2.1 hk
    obtain ⟨o,p,a,h1,h2,ha,h3,h4,h5,h6⟩:=Fo hx hj
    obtain rfl:a=k:=by rw [hjk] at h2;have:=Option.some.inj h2;omega
    have hoo:=hok.2.2.2.2.2 j o h1
    refine ⟨p,o,j,h3,(ED hx.2.1 hl).2.2 j a hjk,by rw [Bn,h1],h4.symm,by rw [← h5,LJ hok hx.1 hoo.2.2.2.2.1],?_⟩
    rw [← h6,List.map_map]
    have:o.effs.map (imE (invX x) ∘ imE x)=o.effs.map id:=List.map_congr_left fun e he=>PM hok hx.1 (Iz hoo e he)
    rw [this,List.map_id]
theorem OA {t:Tsk} {x:Swp} (hok:TaskOk t) (hx:SymP t x):compX x (invX x)=idX t:=by
  have hl:t.vars.length≤1000000:=by have:=hok.1;omega
  have hl2:t.ops.length≤1000000:=by have:=hok.2.1;omega
  have h1:(compX x (invX x)).vars=(idX t).vars:=Ht hx.1.1 hl
  have h2:(compX x (invX x)).ops=(idX t).ops:=Ht hx.2.1 hl2
  have h3:(compX x (invX x)).vals=(idX t).vals:=List.ext_getElem? fun k=>by
    by_cases hk:k < t.vars.length
    · obtain ⟨n,a,l,q1,q2,q3,q4,q5⟩:=hx.1.2.2 k hk
      obtain ⟨ha1,ha2⟩:=hx.1.1.mem (List.mem_of_getElem? q2)
      obtain ⟨a,rfl⟩:=Int.eq_ofNat_of_zero_le ha1
      have hn:=hok.2.2.1 k n q1
      rw [FQ q2 q3 (Hv hok hx.1 q2 q3),Ht q5 (by omega)]
      simp [idX,q1]
    · rw [List.getElem?_eq_none (by simp [compX,hx.1.2.1];omega),List.getElem?_eq_none (by simp [idX];omega)]
  cases h:compX x (invX x)
  rw [h] at h1 h2 h3
  cases h':idX t
  rw [h'] at h1 h2 h3
  simp_all
theorem LK {t:Tsk} {x:Swp} {s r r':List Int} (hx:FactsPerm t x) (hs:s.length=t.vars.length) (h:ImS x s r) (h':ImS x s r'):r=r':=List.ext_getElem? fun a=>by
  by_cases ha:a < t.vars.length
  · obtain ⟨v,hv,hva⟩:=Fm hx.1 ha
    obtain ⟨u,hu⟩:=AE (l:=s) (k:=v) (by omega)
    obtain ⟨b,l,z,q1,q2,q3,q4⟩:=h.2 v u hu
    obtain ⟨b',l',z',p1,p2,p3,p4⟩:=h'.2 v u hu
    obtain rfl:b=a:=by rw [hva] at q1;have:=Option.some.inj q1;omega
    obtain rfl:b'=b:=by rw [hva] at p1;have:=Option.some.inj p1;omega
    obtain rfl:l=l':=by rw [q2] at p2;exact Option.some.inj p2
    rw [q4,p4];rw [q3] at p3;exact p3
  · rw [List.getElem?_eq_none (by rw [h.1];omega),List.getElem?_eq_none (by rw [h'.1];omega)]
theorem NK {t:Tsk} {x:Swp} {s r:List Int} (hx:FactsPerm t x) (hs:StateOk t.vars s) (h:ImS x s r):StateOk t.vars r:=by
  refine ⟨h.1.trans hs.1,fun a z n hz hn=>?_⟩
  obtain ⟨v,hv,hva⟩:=Fm hx.1 (AG hn)
  obtain ⟨u,hu⟩:=AE (l:=s) (k:=v) (by rw [hs.1];exact hv)
  obtain ⟨b,l,z',q1,q2,q3,q4⟩:=h.2 v u hu
  obtain rfl:b=a:=by rw [hva] at q1;have:=Option.some.inj q1;omega
  obtain ⟨m,b',l',p1,p2,p3,p4,p5⟩:=hx.2.2 v hv
  obtain rfl:b'=(b:Int):=by rw [hva] at p2;exact (Option.some.inj p2).symm
  obtain rfl:l=l':=by rw [q2] at p3;exact Option.some.inj p3
  rw [Bn,hn] at p4
  rw [q4] at hz
  obtain rfl:=Option.some.inj hz
  obtain ⟨j,_,hj⟩:=Fy q3
  have:=p5.mem (List.mem_of_getElem? hj)
  have:=Option.some.inj p4
  omega
theorem Jk {t:Tsk} {x y:Swp} {s a b:List Int} (hx:FactsPerm t x) (hy:FactsPerm t y) (hs:StateOk t.vars s) (ha:ImS x s a) (hb:ImS y a b):ImS (compX x y) s b:=by
  refine ⟨hb.1.trans ha.1,fun k v hk=>?_⟩
  obtain ⟨i,l,z,q1,q2,q3,q4⟩:=ha.2 k v hk
  obtain ⟨j,m,z',p1,p2,p3,p4⟩:=hb.2 i z q4
  obtain ⟨c,rfl,hc⟩:=Fy q3
  obtain ⟨d,rfl,hd⟩:=Fy p3
  have hkl:k < t.vars.length:=by rw [← hs.1];exact AG hk
  obtain ⟨n,a',l',u1,u2,u3,u4,u5⟩:=hx.2.2 k hkl
  obtain rfl:l=l':=by rw [q2] at u3;exact Option.some.inj u3
  obtain rfl:a'=(i:Int):=by rw [q1] at u2;exact (Option.some.inj u2).symm
  have hil:i < t.vars.length:=by have:=hx.1.mem (List.mem_of_getElem? q1);omega
  obtain ⟨n',b',m',w1,w2,w3,w4,w5⟩:=hy.2.2 i hil
  obtain rfl:m=m':=by rw [p2] at w3;exact Option.some.inj w3
  rw [Bn] at u4
  have e:n=n':=by rw [u4] at w1;have:=Option.some.inj w1;omega
  subst e
  exact ⟨j,alongL l m,z',DO hx.1 hy.1.len q1 p1,FQ q1 q2 p2,by rw [Bn,DO u5 w5.len hc hd],p4⟩
theorem LL {t:Tsk} {s:List Int} (hok:TaskOk t) (hs:StateOk t.vars s):ImS (idX t) s s:=by
  refine ⟨rfl,fun k v hk=>?_⟩
  have hkl:k < t.vars.length:=by rw [← hs.1];exact AG hk
  obtain ⟨n,hn⟩:=AE (l:=t.vars) (k:=k) hkl
  obtain ⟨h1,h2⟩:=hs.2 k v n hk hn
  obtain ⟨v,rfl⟩:=Int.eq_ofNat_of_zero_le h1
  obtain ⟨n,rfl⟩:=Int.eq_ofNat_of_zero_le (by omega:0≤n)
  exact ⟨k,rangeI n,v,Eq hkl,by simp [idX,hn],by rw [Bn,Eq (by omega)],hk⟩
end
section
open Go Go.RowKit
theorem PN (a b:Int):Dp a b=some (Lib.compareInt a b):=by
  unfold Dp DM
  rcases En a b with ⟨h1,h2⟩|⟨h1,h2⟩|⟨h1,h2⟩
  · simp [bnd,h1,h2]
  · subst h1;simp [bnd,h2]
  · have:¬ a < b:=by omega
    simp [bnd,h1,h2,this]
theorem PO (xs ys:List Int):BS xs ys=some (cfL xs ys):=by
  have:∃ r,BS xs ys=some r∧r=cfL xs ys:=by
    unfold BS
    refine Ib (fun m _=>m≤ys.length∧cfL xs ys=cfL (xs.drop m) (ys.drop m)) (fun r=>r=cfL xs ys) ⟨Nat.zero_le _,rfl⟩ ?_ ?_ (fun q hq=>⟨_,rfl,hq⟩)
    · rintro m x _ hx ⟨h1,h2⟩
      by_cases hge:(ys.length:Int)≤(m:Int)
      · rw [if_pos hge]
        refine .inr ⟨_,rfl,?_⟩
        rw [h2,Jb (l:=ys) (by omega),List.drop_eq_getElem_cons (AG hx)]
        rfl
      · rw [if_neg hge]
        obtain ⟨y,hy⟩:=Fl (l:=ys) (k:=m) (by omega)
        have hst:=Lq hx hy
        rw [hy,Am,PN,Am]
        by_cases hc:Lib.compareInt x y≠0
        · rw [if_pos hc]
          rw [if_pos hc] at hst
          exact .inr ⟨_,rfl,by rw [h2,hst]⟩
        · rw [if_neg hc]
          rw [if_neg hc] at hst
          exact .inl ⟨(),rfl,by omega,by rw [h2,hst]⟩
    · rintro _ ⟨h1,h2⟩
      rw [BJ]
      rw [List.drop_length] at h2
      by_cases hll:(xs.length:Int) < (ys.length:Int)
      · rw [if_pos hll]
        refine ⟨_,rfl,?_⟩
        rw [h2,List.drop_eq_getElem_cons (l:=ys) (i:=xs.length) (by omega)]
        rfl
      · rw [if_neg hll]
        refine ⟨_,rfl,?_⟩
        rw [h2,Jb (l:=ys) (by omega)]
        rfl
  obtain ⟨r,h1,h2⟩:=this
  rw [h1,h2]
theorem PP {xs ys:List Int} (hl:xs.length=ys.length):Ed xs ys=some (decide (cfL xs ys < 0)):=by
  have:∃ r,Ed xs ys=some r∧r=decide (cfL xs ys < 0):=by
    unfold Ed
    refine Ib (fun m _=>cfL xs ys=cfL (xs.drop m) (ys.drop m)) (fun r=>r=decide (cfL xs ys < 0)) rfl ?_ ?_ (fun q hq=>⟨_,rfl,hq⟩)
    · rintro m x _ hx h2
      obtain ⟨y,hy⟩:=Fl (l:=ys) (k:=m) (by have:=AG hx;omega)
      have hst:=Lq hx hy
      rw [hy,Am]
      rcases En x y with ⟨p1,p2⟩|⟨p1,p2⟩|⟨p1,p2⟩
      · rw [if_pos (by omega),Am,if_pos p1,Am]
        rw [p2] at hst
        exact .inr ⟨_,rfl,by rw [h2,hst];rfl⟩
      · rw [if_neg (by omega)]
        rw [p2] at hst
        exact .inl ⟨(),rfl,by rw [h2,hst];rfl⟩
      · rw [if_pos (by omega),Am,if_neg (by omega),Am]
        rw [p2] at hst
        exact .inr ⟨_,rfl,by rw [h2,hst];rfl⟩
    · intro _ h2
      refine ⟨_,rfl,?_⟩
      rw [List.drop_length,Jb (l:=ys) (by omega)] at h2
      rw [h2];rfl
  obtain ⟨r,h1,h2⟩:=this
  rw [h1,h2]
def txt (s:List Int):ByteArray:=strB (s.map bw)
end
section
open Go Go.RowKit
noncomputable def imS (x:Swp) (s:List Int):List Int:=(Cs x s).getD []
theorem GA {t:Tsk} {x:Swp} {s:List Int} (hok:TaskOk t) (hp:FactsPerm t x) (hs:StateOk t.vars s):Cs x s=some (imS x s)∧ImS x s (imS x s)∧StateOk t.vars (imS x s):=by
  obtain ⟨r,h1,h2⟩:=LD hok hp hs
  have:imS x s=r:=by unfold imS;rw [h1];rfl
  rw [this]
  exact ⟨h1,h2,NK hp hs h2⟩
def muL (vars s:List Int):Nat:=((statesL vars).filter fun x=>decide (cfL x s < 0)).length
theorem Kz {α:Type} {p q:α→Bool}:∀ {l:List α},(∀ x∈l,p x=true→q x=true)→(∃ x∈l,q x=true∧p x=false)→(l.filter p).length < (l.filter q).length
  | [],_,h=>by obtain ⟨x,hx,_⟩:=h;cases hx
  | y :: l,hsub,⟨x,hx,h1,h2⟩=>by
    have hle:(l.filter p).length≤(l.filter q).length:=by
      clear hx
      induction l with
      | nil=>simp
      | cons z l ih =>
        have ihh:=ih fun a ha=>hsub a (by rcases List.mem_cons.1 ha with rfl|ha;exact List.mem_cons_self;exact List.mem_cons_of_mem _ (List.mem_cons_of_mem _ ha))
        have hz:=hsub z (List.mem_cons_of_mem _ List.mem_cons_self)
        rw [List.filter_cons,List.filter_cons]
        cases hp:p z with
        | true=>rw [hz hp];simp;omega
        | false=>cases q z<;>simp<;>omega
    rw [List.filter_cons,List.filter_cons]
    rcases List.mem_cons.1 hx with rfl|hx
    · rw [h1,h2];simp;omega
    · have ih:=Kz (l:=l) (fun a ha=>hsub a (List.mem_cons_of_mem _ ha)) ⟨x,hx,h1,h2⟩
      have hy:=hsub y List.mem_cons_self
      cases hp:p y with
      | true=>rw [hy hp];simp;omega
      | false=>cases q y<;>simp<;>omega
theorem QF {vars s r:List Int} (hr:StateOk vars r) (h:cfL r s < 0):muL vars r < muL vars s:=by
  refine Kz (fun x _ hx=>?_) ⟨r,GO.2 hr,by simpa using h,by rw [Jc];simp⟩
  simp at hx ⊢
  have h3:=HX (Int.le_of_lt hx) (Int.le_of_lt h)
  rcases Int.lt_or_eq_of_le h3 with h4|h4
  · exact h4
  · exfalso
    have:=Ns h4
    rw [← this,Mp] at h
    omega
noncomputable def canF (x1:List Swp):(List Int)×(List Int)×Int→Option (Ctl ((List Int)×(List Int)×Int) ((List Int)×(List Int)×Err)) :=
  fun (s58:(List Int)×(List Int)×Int)=>if s58.2.2 < (x1.length:Int) then (bnd (atI x1 s58.2.2) fun a84=>bnd (Cs a84 s58.1) fun q107=>bnd (BS q107 s58.1) fun q116=>if 0≤q116 then (bnd (chkI (s58.2.2 + 1)) fun n125=>some (.next (s58.1,s58.2.1,n125))) else (bnd (appI 8 s58.2.1 [s58.2.2]) fun u128=>some (.next (q107,u128,0)))) else (some (.brk (s58.1,s58.2.1,s58.2.2)))
noncomputable def canG (x0:List Swp):(List Int)×(List Int)→Option (Ctl ((List Int)×(List Int)) ((List Int)×(List Int))) :=
  fun (s9:(List Int)×(List Int))=>bnd (rng (ρ:=Ctl ((List Int)×(List Int)) ((List Int)×(List Int))) (fun (k34:Nat) (a35:Swp) (s32:Int)=>bnd (if s32 < 0 then (bnd (DH a35 s9.1) fun q71=>bnd (Ed q71 s9.1) fun q80=>if q80=true then some true else some false) else (some false):Option Bool) fun y47=>if y47=true then (some (.next (k34:Int))) else (some (.next s32))) x0 0 (-1)) fun res30=>fin res30 fun (s96:Int)=>if s96 < 0 then (some (.ret (s9.1,s9.2))) else (bnd (atI x0 s96) fun a101=>bnd (DH a101 s9.1) fun q124=>bnd (appI 8 s9.2 [s96]) fun u133=>some (.next (q124,u133)))
def FstL (gens:List Swp) (s:List Int) (k:Nat):Prop:=∃ x,gens[k]?=some x∧cfL (imS x s) s < 0
theorem NL {t:Tsk} (hok:TaskOk t) {gens:List Swp} (hg:∀ x∈gens,SymP t x) (hgl:gens.length≤1000) {s used:List Int} (hs:StateOk t.vars s) (hu:used.length≤100000):∀ (n k:Nat),gens.length - k=n→k≤gens.length →
    ((∀ j,k≤j→¬ FstL gens s j)∧lop (canF gens) (s,used,(k:Int))=some (.done (s,used,(gens.length:Int))))∨∃ m x,k≤m∧(∀ j,k≤j→j < m→¬ FstL gens s j)∧gens[m]?=some x∧cfL (imS x s) s < 0∧lop (canF gens) (s,used,(k:Int))=lop (canF gens) (imS x s,used ++ [(m:Int)],0):=by
  intro n
  induction n with
  | zero =>
    intro k hk hkl
    have:k=gens.length:=by omega
    subst this
    refine .inl ⟨fun j hj hf=>by obtain ⟨x,hx,_⟩:=hf;have:=AG hx;omega,?_⟩
    rw [CZ]
    simp only [canF]
    rw [if_neg (by omega)]
  | succ n ih =>
    intro k hk hkl
    obtain ⟨x,hx⟩:=Fl (l:=gens) (k:=k) (by omega)
    obtain ⟨h1,h2,h3⟩:=GA hok (hg x (List.mem_of_getElem? hx)).1 hs
    have hkl':=AG hx
    have step:canF gens (s,used,(k:Int))=if 0≤cfL (imS x s) s then some (.next (s,used,(k:Int) + 1)) else some (.next (imS x s,used ++ [(k:Int)],0)):=by
      simp only [canF]
      rw [if_pos (by omega),Bn,hx,Am,h1,Am,PO,Am,CT (by unfold inI64;omega),Am,CH (by simp;omega) (by simp;omega),Am]
    by_cases hc:0≤cfL (imS x s) s
    · have e1:lop (canF gens) (s,used,(k:Int))=lop (canF gens) (s,used,((k + 1:Nat):Int)):=by
        rw [CZ,step,if_pos hc]
        simp
      have hnot:¬ FstL gens s k:=fun ⟨y,hy,hlt⟩=>by
        rw [hx] at hy
        obtain rfl:=Option.some.inj hy
        omega
      rcases ih (k + 1) (by omega) (by omega) with ⟨g1,g2⟩|⟨m,y,g1,g2,g3,g4,g5⟩
      · refine .inl ⟨fun j hj=>?_,by rw [e1,g2]⟩
        by_cases e:j=k
        · subst e;exact hnot
        · exact g1 j (by omega)
      · refine .inr ⟨m,y,by omega,fun j hj hjm=>?_,g3,g4,by rw [e1,g5]⟩
        by_cases e:j=k
        · subst e;exact hnot
        · exact g2 j (by omega) hjm
    · refine .inr ⟨k,x,Nat.le_refl _,fun j h1 h2=>by omega,hx,by omega,?_⟩
      rw [CZ,step,if_neg hc]
theorem KA {t:Tsk} (hok:TaskOk t) {gens:List Swp} (hg:∀ x∈gens,SymP t x) {s used:List Int} (hs:StateOk t.vars s) (hu:used.length≤100000) :
    ((∀ j,¬ FstL gens s j)∧canG gens (s,used)=some (.ret (s,used)))∨∃ (m:Nat) (x:Swp),(∀ j,j < m→¬ FstL gens s j)∧gens[m]?=some x∧cfL (imS x s) s < 0∧canG gens (s,used)=some (.next (imS x s,used ++ [(m:Int)])):=by
  have key:=DI (ρ:=Ctl ((List Int)×(List Int)) ((List Int)×(List Int))) (xs:=gens) (s₀:=(-1:Int)) (f:=fun (k34:Nat) (a35:Swp) (s32:Int)=>bnd (if s32 < 0 then (bnd (DH a35 s) fun q71=>bnd (Ed q71 s) fun q80=>if q80=true then some true else some false) else (some false):Option Bool) fun y47=>if y47=true then (some (.next (k34:Int))) else (some (.next s32))) (fun m a=>(a=-1∧∀ j,j < m→¬ FstL gens s j)∨∃ (q:Nat) (x:Swp),a=(q:Int)∧(∀ j,j < q→¬ FstL gens s j)∧gens[q]?=some x∧cfL (imS x s) s < 0) (.inl ⟨rfl,fun j hj=>by omega⟩) (fun k x a hx hI=>by
      obtain ⟨h1,h2,h3⟩:=GA hok (hg x (List.mem_of_getElem? hx)).1 hs
      rcases hI with ⟨rfl,hno⟩|⟨q,y,rfl,hno,hy,hlt⟩
      · rw [if_pos (by omega),Kw,h1,Am,PP (by rw [h3.1,hs.1]),Am]
        by_cases hlt:cfL (imS x s) s < 0
        · rw [decide_eq_true hlt,Bo,Am,Bo]
          exact ⟨_,rfl,.inr ⟨k,x,rfl,hno,hx,hlt⟩⟩
        · rw [decide_eq_false hlt,Bq,Am,Bq]
          refine ⟨_,rfl,.inl ⟨rfl,fun j hj=>?_⟩⟩
          by_cases e:j=k
          · subst e
            rintro ⟨y,hy,hl⟩
            rw [hx] at hy
            obtain rfl:=Option.some.inj hy
            exact hlt hl
          · exact hno j (by omega)
      · rw [if_neg (by omega),Am,Bq]
        exact ⟨_,rfl,.inr ⟨q,y,rfl,hno,hy,hlt⟩⟩)
  obtain ⟨a,g1,g2⟩:=key
  unfold canG
  dsimp only
  rw [g1,Am,BJ]
  rcases g2 with ⟨rfl,hno⟩|⟨q,x,rfl,hno,hx,hlt⟩
  · rw [if_pos (by omega)]
    refine .inl ⟨fun j hf=>?_,rfl⟩
    obtain ⟨x,hx,hl⟩:=hf
    exact hno j (AG hx) ⟨x,hx,hl⟩
  · obtain ⟨h1,h2,h3⟩:=GA hok (hg x (List.mem_of_getElem? hx)).1 hs
    rw [if_neg (by omega),Bn,hx,Am,Kw,h1,Am,CH (by simp;omega) (by simp;omega),Am]
    exact .inr ⟨q,x,hno,hx,hlt,rfl⟩
inductive Word (gens:List Swp):List Int→List Int→List Int→Prop
  | nil {s:List Int}:Word gens s [] s
  | cons {s r ws:List Int} {m:Nat} {x:Swp}:gens[m]?=some x→Word gens (imS x s) ws r→Word gens s ((m:Int) :: ws) r
theorem OB {t:Tsk} (hok:TaskOk t) {gens:List Swp} (hg:∀ x∈gens,SymP t x) (hgl:gens.length≤1000):∀ (n:Nat) (s used:List Int),StateOk t.vars s→muL t.vars s < n→used.length + n≤100000 →
    ∃ r ws,lop (canF gens) (s,used,0)=some (.done (r,used ++ ws,(gens.length:Int)))∧lop (canG gens) (s,used)=some (.ret (r,used ++ ws))∧StateOk t.vars r∧cfL r s≤0∧Word gens s ws r:=by
  intro n
  induction n with
  | zero=>intro s used _ h;omega
  | succ n ih =>
    intro s used hs hmu hul
    rcases NL hok hg hgl hs (used:=used) (by omega) gens.length 0 (by omega) (by omega) with ⟨f1,f2⟩|⟨m,x,f1,f2,f3,f4,f5⟩
    · rcases KA hok hg hs (used:=used) (by omega) with ⟨g1,g2⟩|⟨q,y,_,g3,g4,_⟩
      · refine ⟨s,[],by simpa using f2,by rw [CZ,g2,List.append_nil],hs,by rw [Jc];omega,.nil⟩
      · exact absurd ⟨y,g3,g4⟩ (f1 q (by omega))
    · rcases KA hok hg hs (used:=used) (by omega) with ⟨g1,_⟩|⟨q,y,g2,g3,g4,g5⟩
      · exact absurd ⟨x,f3,f4⟩ (g1 m)
      · have hqm:q=m:=by
          rcases Nat.lt_trichotomy q m with h|h|h
          · exact absurd ⟨y,g3,g4⟩ (f2 q (by omega) h)
          · exact h
          · exact absurd ⟨x,f3,f4⟩ (g2 m h)
        subst hqm
        rw [f3] at g3
        obtain rfl:=Option.some.inj g3
        obtain ⟨h1,h2,h3⟩:=GA hok (hg x (List.mem_of_getElem? f3)).1 hs
        have hlt:=QF h3 f4
        obtain ⟨r,ws,r1,r2,r3,r4,r5⟩:=ih (imS x s) (used ++ [(q:Int)]) h3 (by omega) (by simp;omega)
        refine ⟨r,(q:Int) :: ws,?_,?_,r3,HX r4 (by omega),.cons f3 r5⟩
        · have f5':lop (canF gens) (s,used,0)=lop (canF gens) (imS x s,used ++ [(q:Int)],0):=f5
          rw [f5',r1]
          simp
        · rw [CZ,g5]
          simp only
          rw [r2]
          simp
theorem demandL {t:Tsk} (hok:TaskOk t) {gens:List Swp}:Bx t gens=some ⟨if bof (∀ x∈gens,SymP t x)=true then 0 else 2⟩:=by
  have:∃ r,Bx t gens=some r∧r=⟨if bof (∀ x∈gens,SymP t x)=true then 0 else 2⟩:=by
    unfold Bx Cm
    rw [CM.2 hok,Am,if_neg (by simp)]
    refine Ib (fun m _=>∀ x∈gens.take m,SymP t x) (fun r=>r=⟨2⟩∧¬ ∀ x∈gens,SymP t x) (fun x hx=>by simp at hx) ?_ ?_ ?_
    · intro m x _ hx hI
      rw [Iy hok,Am]
      by_cases h:SymP t x
      · rw [AU h,Bo]
        refine .inl ⟨(),rfl,fun y hy=>?_⟩
        rcases (Dn hx).1 hy with hy|rfl
        · exact hI y hy
        · exact h
      · rw [AM h,Bq]
        exact .inr ⟨_,rfl,rfl,fun hh=>h (hh x (List.mem_of_getElem? hx))⟩
    · intro _ hI
      rw [List.take_length] at hI
      exact ⟨_,rfl,by rw [AU hI];rfl⟩
    · rintro q ⟨rfl,hn⟩
      exact ⟨_,rfl,by rw [AM hn];rfl⟩
  obtain ⟨r,h1,h2⟩:=this
  rw [h1,h2]
theorem PQ {t:Tsk} (hs:SmallOk t) (s:List Int):muL t.vars s≤512:=Nat.le_trans (List.length_filter_le _ _) hs.many
theorem OC {t:Tsk} (hsm:SmallOk t) {gens:List Swp} (hg:∀ x∈gens,SymP t x) (hgl:gens.length≤1000) {s:List Int} (hs:StateOk t.vars s) :
    ∃ r ws,Cc t gens s=some (r,ws,⟨0⟩)∧EV gens s=some (r,ws)∧StateOk t.vars r∧cfL r s≤0∧Word gens s ws r:=by
  have hok:=hsm.ok
  obtain ⟨r,ws,r1,r2,r3,r4,r5⟩:=OB hok hg hgl 513 s [] hs (by have:=PQ hsm s;omega) (by simp)
  rw [List.nil_append] at r1 r2
  refine ⟨r,ws,?_,?_,r3,r4,r5⟩
  · have unf:Cc t gens s=bnd (Bx t gens) fun q30=>if q30.n≠0 then (some (([]:List Int),([]:List Int),(⟨q30.n⟩:Err))) else (bnd (Fe t.vars s) fun q39=>if q39=true then bnd (Cr s) fun q46=>bnd (lop (canF gens) (q46,([]:List Int),0)) fun res56=>fin res56 fun (s144:(List Int)×(List Int)×Int)=>some (s144.1,s144.2.1,(⟨0⟩:Err)) else some (([]:List Int),([]:List Int),(⟨2⟩:Err))):=rfl
    have hc:Cr s=some s:=if_pos ⟨by have:=hs.1;have:=hok.1;omega,by have:=hs.1;have:=hok.1;omega⟩
    rw [unf,demandL hok,AU hg,Am,Bo,if_neg (by simp)]
    unfold Fe
    rw [AU hs,Am,Bo,hc,Am,r1,Am,BJ]
  · have unf:EV gens s=bnd (lop (canG gens) (s,([]:List Int))) fun res7=>fin res7 fun (_:(List Int)×(List Int))=>none:=rfl
    rw [unf,r2,Am,Ho]
end
section
open Go Go.RowKit
theorem PR {t:Tsk} (hok:TaskOk t) {a b:List Int} (ha:StateOk t.vars a) (hb:StateOk t.vars b) (h:txt a=txt b):a=b:=by
  have h1:(a.map bw).map (fun b:Byt=>UInt8.ofNat b.n.toNat)=(b.map bw).map fun b:Byt=>UInt8.ofNat b.n.toNat:=by
    unfold txt strB at h
    have:=congrArg ByteArray.data h
    simpa using this
  apply List.ext_getElem?
  intro i
  rcases Nat.lt_or_ge i t.vars.length with hi|hi
  · obtain ⟨n,hn⟩:=Fl (l:=t.vars) (k:=i) hi
    obtain ⟨x,hx⟩:=Fl (l:=a) (k:=i) (by rw [ha.1];exact hi)
    obtain ⟨y,hy⟩:=Fl (l:=b) (k:=i) (by rw [hb.1];exact hi)
    have hx1:=ha.2 i x n hx hn
    have hy1:=hb.2 i y n hy hn
    have hn1:=hok.2.2.1 i n hn
    have h2:=congrArg (·[i]?) h1
    simp only [List.getElem?_map,hx,hy,Option.map_some] at h2
    have h3:=congrArg UInt8.toNat (Option.some.inj h2)
    simp [bw] at h3
    rw [hx,hy]
    congr 1
    omega
  · rw [List.getElem?_eq_none (by rw [ha.1];exact hi),List.getElem?_eq_none (by rw [hb.1];exact hi)]
end
section
open Go Go.RowKit
def imP (x:Swp) (p:List Int):List Int:=p.map fun op=>(x.ops[op.toNat]?).getD 0
def Inside (n:Nat) (p:List Int):Prop:=∀ a∈p,0≤a∧a < n
end
section
open Go Go.RowKit
theorem LM {s:List Int} {v u:Nat}:hasB s ⟨v,u⟩=true↔s[v]?=some (u:Int):=by
  unfold hasB
  simp
theorem NM {t:Tsk} {x:Swp} {f:Fct} {s a:List Int} (hok:TaskOk t) (hp:FactsPerm t x) (hf:FactOk t.vars f) (hs:StateOk t.vars s) (ha:ImS x s a):hasB a (imF x f)=hasB s f:=by
  obtain ⟨v,u,n,b,z,l,rfl,h1,h2,h3,hu,h4,h5,h6,h7,h8,h9,h10,e⟩:=Er hok hp hf
  rw [e,Bool.eq_iff_iff,LM,LM]
  obtain ⟨y,hy⟩:=AE (l:=s) (k:=v) (by rw [hs.1];exact h1)
  obtain ⟨b',l',z',q1,q2,q3,q4⟩:=ha.2 v y hy
  obtain rfl:b=b':=by rw [h4] at q1;have:=Option.some.inj q1;omega
  obtain rfl:l=l':=by rw [h5] at q2;exact Option.some.inj q2
  obtain ⟨y,rfl,hy2⟩:=Fy q3
  rw [q4,hy]
  constructor
  · intro hz
    rw [Option.some.inj hz] at hy2
    rw [Gz h6 hy2 h7]
  · intro hz
    have:y=u:=by have:=Option.some.inj hz;omega
    subst this
    rw [h7] at hy2
    exact hy2.symm
theorem Jl {t:Tsk} {x:Swp} {fs:List Fct} {s a:List Int} (hok:TaskOk t) (hp:FactsPerm t x) (hf:FactsOk t.vars fs) (hs:StateOk t.vars s) (ha:ImS x s a):holdsB (imL x fs) a=holdsB fs s:=by
  unfold holdsB imL
  rw [Bool.eq_iff_iff,List.all_eq_true,List.all_eq_true]
  constructor
  · intro h f hf'
    rw [← NM hok hp ((EM hf).1 f hf') hs ha]
    exact h _ ((Du _).mem_iff.2 (List.mem_map.2 ⟨f,hf',rfl⟩))
  · intro h g hg
    obtain ⟨f,hf',rfl⟩:=List.mem_map.1 ((Du _).mem_iff.1 hg)
    rw [NM hok hp ((EM hf).1 f hf') hs ha]
    exact h f hf'
theorem PS {t:Tsk} {x:Swp} {f:Fct} {u b:List Int} (hok:TaskOk t) (hp:FactsPerm t x) (hf:FactOk t.vars f) (hu:u.length=t.vars.length) (hb:ImS x u b):ImS x (u.set f.var.toNat f.val) (b.set (imF x f).var.toNat (imF x f).val):=by
  obtain ⟨v,y,n,c,z,l,rfl,h1,h2,h3,hy,h4,h5,h6,h7,h8,h9,h10,e⟩:=Er hok hp hf
  rw [e]
  simp only [Int.toNat_natCast]
  refine ⟨by simp [hb.1],fun k w hk=>?_⟩
  rw [List.getElem?_set] at hk
  by_cases hvk:v=k
  · subst hvk
    rw [if_pos rfl,if_pos (by omega)] at hk
    obtain rfl:=Option.some.inj hk
    exact ⟨c,l,z,h4,h5,by rw [Bn,h7],by rw [List.getElem?_set_self (by rw [hb.1];omega)]⟩
  · rw [if_neg hvk] at hk
    obtain ⟨c',l',z',q1,q2,q3,q4⟩:=hb.2 k w hk
    refine ⟨c',l',z',q1,q2,q3,?_⟩
    rw [List.getElem?_set_ne (fun ec=>hvk ?_),q4]
    subst ec
    exact Gz hp.1 h4 q1
theorem Jm {t:Tsk} {x:Swp} {s a:List Int} (hok:TaskOk t) (hp:FactsPerm t x) (hs:StateOk t.vars s) (ha:ImS x s a):∀ (l:List Eff),(∀ e∈l,EffOk t.vars e)→∀ (u b:List Int),u.length=t.vars.length→ImS x u b→ImS x (effsOn s l u) (effsOn a (l.map (imE x)) b)
  | [],_,_,_,_,hb=>hb
  | e :: l,he,u,b,hu,hb=>by
    obtain ⟨h1,h2⟩:=he e List.mem_cons_self
    rw [List.map_cons]
    unfold effsOn
    have hc:holdsB (imE x e).cond a=holdsB e.cond s:=Jl hok hp h1 hs ha
    rw [hc]
    by_cases hh:holdsB e.cond s=true
    · rw [if_pos hh,if_pos hh]
      exact Jm hok hp hs ha l (fun e' h'=>he e' (List.mem_cons_of_mem _ h')) _ _ (by simp [hu]) (PS hok hp h2 hu hb)
    · rw [if_neg hh,if_neg hh]
      exact Jm hok hp hs ha l (fun e' h'=>he e' (List.mem_cons_of_mem _ h')) _ _ hu hb
theorem Mv {t:Tsk} {x:Swp} {s a:List Int} {k b:Nat} {o p:Opr} (hok:TaskOk t) (hx:SymP t x) (hs:StateOk t.vars s) (ha:ImS x s a) (ho:t.ops[k]?=some o) (hk:x.ops[k]?=some (b:Int)) (hb:t.ops[b]?=some p) :
    holdsB p.pre a=holdsB o.pre s∧ImS x (succ o s) (succ p a)∧p.cost=o.cost:=by
  obtain ⟨o',p',b',h1,h2,_,h3,h4,h5,h6⟩:=Fo hx (AG ho)
  obtain rfl:o=o':=by rw [ho] at h1;exact Option.some.inj h1
  obtain rfl:b=b':=by rw [hk] at h2;have:=Option.some.inj h2;omega
  obtain rfl:p=p':=by rw [hb] at h3;exact Option.some.inj h3
  have hoo:=hok.2.2.2.2.2 k o ho
  refine ⟨by rw [← h5];exact Jl hok hx.1 hoo.2.2.2.2.1 hs ha,?_,h4.symm⟩
  unfold succ
  rw [← h6]
  exact Jm hok hx.1 hs ha o.effs (Iz hoo) s a hs.1 ha
theorem Hw {t:Tsk} {x:Swp} {s a:List Int} (hok:TaskOk t) (hx:SymP t x) (hs:StateOk t.vars s) (ha:ImS x s a):ImS (invX x) a s:=by
  have hi:=JX hok hx
  obtain ⟨r,_,hr⟩:=LD hok hi.1 (NK hx.1 hs ha)
  have:=Jk hx.1 hi.1 hs ha hr
  rw [OA hok hx] at this
  rwa [LK (EE hok) hs.1 this (LL hok hs)] at hr
end
section
open Go Go.RowKit
theorem Mw {t:Tsk} {x:Swp} (hok:TaskOk t) (hx:SymP t x) {s p s':List Int} {C:Int} (hr:PlanR t s p s' C):∀ {a:List Int},StateOk t.vars s→ImS x s a→Inside t.ops.length p∧StateOk t.vars s'∧∃ a',PlanR t a (imP x p) a' C∧ImS x s' a':=by
  induction hr with
  | nil=>intro a hs ha;exact ⟨fun b hb=>by simp at hb,hs,a,.nil,ha⟩
  | @cons s rest s' k o C ho hp hr ih =>
    intro a hs ha
    obtain ⟨o',p,b,h1,h2,hb,h3,_⟩:=Fo hx (AG ho)
    obtain ⟨g1,g2,g3⟩:=Mv hok hx hs ha ho h2 h3
    obtain ⟨i1,i2,a',i3,i4⟩:=ih (Gj hok hs ho) g2
    refine ⟨fun q hq=>?_,i2,a',?_,i4⟩
    · rcases List.mem_cons.1 hq with rfl|hq
      · have:=AG ho;omega
      · exact i1 q hq
    · have:imP x ((k:Int) :: rest)=(b:Int) :: imP x rest:=by simp [imP,h2]
      rw [this,← g3]
      exact .cons h3 (by rw [g1];exact hp) i3
end
section
set_option linter.unusedVariables false
set_option linter.unusedSimpArgs false
open Go Go.RowKit
noncomputable def cnP (t:Tsk) (gens:List Swp) (s:List Int):List Int×List Int:=((Cc t gens s).map fun r=>(r.1,r.2.1)).getD ([],[])
noncomputable def cnS (t:Tsk) (gens:List Swp) (s:List Int):List Int:=(cnP t gens s).1
noncomputable def wdS (t:Tsk) (gens:List Swp) (s:List Int):List Int:=(cnP t gens s).2
structure Sy (t:Tsk) (gens:List Swp):Prop where
  sm:SmallOk t
  sy:∀ x∈gens,SymP t x
  len:gens.length≤1000
theorem Hx {t:Tsk} {gens:List Swp} (h:Sy t gens) {s:List Int} (hs:StateOk t.vars s):Cc t gens s=some (cnS t gens s,wdS t gens s,⟨0⟩)∧EV gens s=some (cnS t gens s,wdS t gens s)∧StateOk t.vars (cnS t gens s)∧Word gens s (wdS t gens s) (cnS t gens s):=by
  obtain ⟨r,ws,h1,h2,h3,_,h5⟩:=OC h.sm h.sy h.len hs
  have e1:cnS t gens s=r:=by unfold cnS cnP;rw [h1];rfl
  have e2:wdS t gens s=ws:=by unfold wdS cnP;rw [h1];rfl
  rw [e1,e2]
  exact ⟨h1,h2,h3,h5⟩
theorem QG {s:List Int} (hl:s.length≤1000000):Fa s=some (txt s):=by
  unfold Fa
  rw [Gt (by omega) (by omega),Am]
  refine Pz (fun m l=>l.length=s.length∧∀ (i:Nat) x,i < m→s[i]?=some x→l[i]?=some (bw x)) ⟨by simp,fun i x hi=>by omega⟩ ?_ ?_
  · rintro m x l hx ⟨h1,h2⟩
    have hm:=AG hx
    obtain ⟨u,hu⟩:=Fl (l:=l) (k:=m) (by omega)
    rw [hu,Am]
    refine ⟨_,rfl,by simpa using h1,fun i y hi hy=>?_⟩
    by_cases e:i=m
    · subst e
      rw [hx] at hy
      rw [List.getElem?_set_self (by omega),Option.some.inj hy]
    · rw [List.getElem?_set_ne (by omega)]
      exact h2 i y (by omega) hy
  · rintro l ⟨h1,h2⟩
    have hls:l=s.map bw:=by
      apply List.ext_getElem?
      intro i
      rw [List.getElem?_map]
      rcases Nat.lt_or_ge i s.length with hi|hi
      · obtain ⟨x,hx⟩:=Fl (l:=s) (k:=i) hi
        rw [hx,h2 i x hi hx];rfl
      · rw [List.getElem?_eq_none (by omega),List.getElem?_eq_none hi];rfl
    subst hls
    rw [BJ,Ps (by simp;omega),Am]
    rfl
theorem KB {K V:Type} [MKey K] (k k':K) (v:V):∀ l:List (K×V),mhas (mput l k v) k'=if k=k' then true else mhas l k'
  | []=>by simp only [mput,mhas]
  | p :: r=>by
    have ih:=KB k k' v r
    simp only [mput]
    by_cases h1:p.1=k
    · rw [if_pos h1]
      simp only [mhas]
      by_cases h2:k=k'
      · rw [if_pos h2,if_pos h2]
      · rw [if_neg h2,if_neg h2,if_neg (by rw [h1];exact h2)]
    · rw [if_neg h1]
      simp only [mhas,ih]
      by_cases h2:k=k'
      · rw [if_pos h2,if_pos h2,if_neg (by rw [← h2];exact h1)]
      · rw [if_neg h2,if_neg h2]
def TabI (vars:List Int) (N:List ONd) (tab:List (ByteArray×Int)):Prop:=∀ y,StateOk vars y→(mhas tab (txt y)=false∧∀ (i:Nat) n,N[i]?=some n→n.state≠y)∨(∃ (i:Nat) (n:ONd),mhas tab (txt y)=true∧mget 0 tab (txt y)=(i:Int)∧N[i]?=some n∧n.state=y)
theorem TabI.set {vars:List Int} {N:List ONd} {tab:List (ByteArray×Int)} (h:TabI vars N tab) {i:Nat} {a b:ONd} (ha:N[i]?=some a) (hb:b.state=a.state):TabI vars (N.set i b) tab:=fun y hy=>by
  have hil:=AG ha
  rcases h y hy with ⟨h1,h2⟩|⟨j,n,h1,h2,h3,h4⟩
  · refine .inl ⟨h1,fun j n hj=>?_⟩
    by_cases e:i=j
    · subst e;rw [List.getElem?_set_self hil] at hj;obtain rfl:=Option.some.inj hj;rw [hb];exact h2 i a ha
    · rw [List.getElem?_set_ne e] at hj;exact h2 j n hj
  · by_cases e:i=j
    · subst e
      rw [ha] at h3
      obtain rfl:=Option.some.inj h3
      exact .inr ⟨i,b,h1,h2,List.getElem?_set_self hil,hb.trans h4⟩
    · exact .inr ⟨j,n,h1,h2,by rw [List.getElem?_set_ne e];exact h3,h4⟩
theorem TabI.app {t:Tsk} (hok:TaskOk t) {N:List ONd} {tab:List (ByteArray×Int)} (h:TabI t.vars N tab) {b:ONd} (hb:StateOk t.vars b.state):TabI t.vars (N ++ [b]) (mput tab (txt b.state) (N.length:Int)):=fun y hy=>by
  rw [KB,Ks]
  by_cases e:txt b.state=txt y
  · have:=PR hok hb hy e
    rw [if_pos e,if_pos e]
    exact .inr ⟨N.length,b,rfl,rfl,by simp,this⟩
  · rw [if_neg e,if_neg e]
    rcases h y hy with ⟨h1,h2⟩|⟨j,n,h1,h2,h3,h4⟩
    · refine .inl ⟨h1,fun j n hj=>?_⟩
      rcases Nat.lt_or_ge j N.length with hl|hl
      · rw [List.getElem?_append_left hl] at hj;exact h2 j n hj
      · rw [List.getElem?_append_right hl] at hj
        have:n=b:=by
          cases hk:j - N.length with
          | zero=>rw [hk] at hj;simpa using hj.symm
          | succ k=>rw [hk] at hj;simp at hj
        subst this
        exact fun e2=>e (by rw [e2])
    · exact .inr ⟨j,n,h1,h2,by rw [List.getElem?_append_left (AG h3)];exact h3,h4⟩
theorem Pf {t:Tsk} {gens:List Swp} (h:Sy t gens) {x:Ors} (ht:x.t=t) (hg:x.gens=gens) (htab:TabI t.vars x.nodes x.tab.l) (hh:HeapOk (qs x.open_)) (hn0:0≤x.number) (hn1:x.number≤100000) (hq:x.open_.length≤100000) (hN:x.nodes.length≤600) {s:List Int} (hs:StateOk t.vars s) (c p q:Int) :
    (∃ (i:Nat) (n:ONd),x.nodes[i]?=some n∧n.state=cnS t gens s∧n.cost≤c∧BU x s c p q=some (⟨0⟩,x)) ∨
    ∃ (i:Nat) (x':Ors),BU x s c p q=some (⟨0⟩,x')∧x'.t=t∧x'.gens=gens∧TabI t.vars x'.nodes x'.tab.l∧HeapOk (qs x'.open_)∧x'.number=x.number + 1∧x'.open_.length=x.open_.length + 1∧(qs x'.open_).Perm (⟨c,0,(i:Int),x.number + 1⟩ :: qs x.open_) ∧
      ((i=x.nodes.length∧x'.nodes=x.nodes ++ [⟨cnS t gens s,c,p,q,wdS t gens s,false⟩]∧∀ (j:Nat) n,x.nodes[j]?=some n→n.state≠cnS t gens s)∨∃ a,x.nodes[i]?=some a∧a.state=cnS t gens s∧c < a.cost∧x'.nodes=x.nodes.set i ⟨cnS t gens s,c,p,q,wdS t gens s,false⟩):=by
  have hok:=h.sm.ok
  obtain ⟨c1,_,c3,_⟩:=Hx h hs
  obtain ⟨tt,gg,N,tab,op,num⟩:=x
  dsimp only at ht hg htab hh hn0 hn1 hq hN ⊢
  subst ht hg
  have c1':Cc (⟨tt.vars,tt.init,tt.goal,tt.ops⟩:Tsk) gg s=some (cnS tt gg s,wdS tt gg s,⟨0⟩):=c1
  have hkl:(cnS tt gg s).length≤1000000:=by have:=c3.1;have:=hok.1;omega
  have push:∀ i:Nat,∃ r,Cz (⟨op⟩:BQ) ⟨⟨c,num + 1,(i:Int)⟩⟩=some r∧HeapOk (qs r.l)∧(qs r.l).Perm (⟨c,0,(i:Int),num + 1⟩ :: qs op):=fun i=>Oq (q:=⟨op⟩) hh (by dsimp only;omega) ⟨c,num + 1,(i:Int)⟩
  have plen:∀ {l:List OEn} {e:QEn},(qs l).Perm (e :: qs op)→l.length=op.length + 1:=fun {l e} hp=>by
    have:=hp.length_eq
    simpa [FO] using this
  unfold BU
  dsimp only
  rw [c1',Am,if_neg (by simp)]
  dsimp only
  rw [QG hkl,Am]
  rcases htab _ c3 with ⟨h1,h2⟩|⟨j,n,h1,h2,h3,h4⟩
  · refine .inr ⟨N.length,?_⟩
    obtain ⟨r,r1,r2,r3⟩:=push N.length
    rw [h1,Bq,Am]
    dsimp only
    rw [Bq,Bq,CH (by simp;omega) (by simp;omega),Am,Am]
    dsimp only
    rw [CT (by unfold inI64;omega),Am,r1,Am]
    exact ⟨_,rfl,rfl,rfl,TabI.app hok htab (b:=⟨cnS tt gg s,c,p,q,wdS tt gg s,false⟩) c3,r2,rfl,plen r3,r3,.inl ⟨rfl,rfl,h2⟩⟩
  · rw [h1,Bo,h2,Bn,h3,Am]
    by_cases hle:n.cost≤c
    · rw [if_pos hle,Am]
      dsimp only
      rw [Bo]
      exact .inl ⟨j,n,h3,h4,hle,rfl⟩
    · refine .inr ⟨j,?_⟩
      obtain ⟨r,r1,r2,r3⟩:=push j
      rw [if_neg hle,Am]
      dsimp only
      rw [Bq,Bo,Am,Am]
      dsimp only
      rw [CT (by unfold inI64;omega),Am,r1,Am]
      exact ⟨_,rfl,rfl,rfl,htab.set h3 (b:=⟨cnS tt gg s,c,p,q,wdS tt gg s,false⟩) h4.symm,r2,rfl,plen r3,r3,.inr ⟨n,h3,h4,by omega,by dsimp only;rw [Int.toNat_natCast]⟩⟩
end
section
open Go Go.RowKit
theorem Mc {t:Tsk} (hok:TaskOk t):CI t=some (idX t,⟨0⟩):=by
  unfold CI
  have h1:=hok.1
  have h2:=hok.2.1
  rw [demand0 hok,Am,if_neg (by simp),JW (by omega),Am,JW (by omega),Am,Am,Ep (fun k=>(t.vars.take k).map fun n=>rangeI n.toNat) (by simp) (fun k n hk=>by
    have hn:=hok.2.2.1 k n hk
    have:=AG hk
    obtain ⟨m,rfl⟩:=Int.eq_ofNat_of_zero_le (by omega:0≤n)
    rw [JW (by omega),Am,CH (by simp;omega) (by simp;omega),Am,map_take hk]
    simp),Am,BJ,List.take_length]
  rfl
theorem MV {t:Tsk} {x y:Swp} (hok:TaskOk t) (hx:SymP t x) (hy:SymP t y):Cb t x y=some (compX x y,⟨0⟩):=by
  unfold Cb
  have h1:=hok.1
  have h2:=hok.2.1
  rw [demand2 hok,Am,AU ⟨hx,hy⟩,Bo,if_neg (by simp),Jh hx.1.1 hy.1.1.len (by omega),Am,Jh hx.2.1 hy.2.1.len (by omega),Am,Am,Ep (fun k=>(compX x y).vals.take k) (by simp) (fun k l hk=>by
    have hlt:=AG hk
    rw [hx.1.2.1] at hlt
    obtain ⟨n,a,l',q1,q2,q3,q4,q5⟩:=hx.1.2.2 k hlt
    obtain rfl:l=l':=by rw [hk] at q3;exact Option.some.inj q3
    obtain ⟨ha1,ha2⟩:=hx.1.1.mem (List.mem_of_getElem? q2)
    obtain ⟨a,rfl⟩:=Int.eq_ofNat_of_zero_le ha1
    obtain ⟨n',b,m,p1,p2,p3,p4,p5⟩:=hy.1.2.2 a (by omega)
    rw [Bn] at q4
    have e:n=n':=by rw [q4] at p1;have:=Option.some.inj p1;omega
    subst e
    have hn:=hok.2.2.1 k n q1
    rw [q2,Am,Bn,p3,Am,Jh q5 p5.len (by omega),Am,CH (by simp;omega) (by simp;omega),Am,List.take_add_one,FQ q2 q3 p3]
    rfl),Am,BJ]
  have:x.vals.length=(compX x y).vals.length:=by simp [compX]
  rw [this,List.take_length]
  rfl
theorem MW {t:Tsk} {x:Swp} (hok:TaskOk t) (hx:SymP t x):CC t x=some (invX x,⟨0⟩):=by
  unfold CC
  have hl:t.vars.length≤1000000:=by have:=hok.1;omega
  have hl2:t.ops.length≤1000000:=by have:=hok.2.1;omega
  have hvl:=hx.1.2.1
  rw [demand1 hok,Am,AU hx,Bo,if_neg (by simp),(ED hx.1.1 hl).1,Am,(ED hx.2.1 hl2).1,Am,Gt (by omega) (by omega),Am,Am]
  simp only
  obtain ⟨s,h1,h2,h3⟩:=DI (ρ:=Swp×Err) (f:=fun (k414:Nat) (a415:List Int) (s412:(List (List Int)))=>bnd (x.vars[k414]?) fun a440=>bnd (Cp a415) fun q450=>bnd (atI s412 a440) fun _=>some (.next (s412.set (a440).toNat q450))) (xs:=x.vals) (s₀:=List.replicate x.vals.length []) (fun k s=>s.length=x.vals.length∧∀ v a:Nat,v < k→x.vars[v]?=some (a:Int)→s[a]?=(invX x).vals[a]?) ⟨by simp,fun v a h=>by omega⟩ (fun k l s hk hI=>by
    obtain ⟨i1,i2⟩:=hI
    have hlt:=AG hk
    obtain ⟨n,a,l',q1,q2,q3,q4,q5⟩:=hx.1.2.2 k (by omega)
    obtain rfl:l=l':=by rw [hk] at q3;exact Option.some.inj q3
    obtain ⟨ha1,ha2⟩:=hx.1.1.mem (List.mem_of_getElem? q2)
    obtain ⟨a,rfl⟩:=Int.eq_ofNat_of_zero_le ha1
    obtain ⟨u,hu⟩:=AE (l:=s) (k:=a) (by omega)
    have hn:=hok.2.2.1 k n q1
    rw [q2,Am,(ED q5 (by omega)).1,Am,Bn,hu,Am]
    refine ⟨_,rfl,by simpa using i1,fun v b hv hvb=>?_⟩
    rw [show ((a:Int)).toNat=a from by omega,List.getElem?_set]
    by_cases e:a=b
    · subst e;rw [if_pos rfl,if_pos (by omega),Hv hok hx.1 q2 q3]
    · rw [if_neg e]
      refine i2 v b ?_ hvb
      have:v≠k:=fun h=>e (by subst h;rw [hvb] at q2;have:=Option.some.inj q2;omega)
      omega)
  rw [h1,Am,BJ]
  have:s=(invX x).vals:=List.ext_getElem? fun a=>by
    by_cases ha:a < x.vals.length
    · obtain ⟨v,hv,hva⟩:=Fm hx.1.1 (a:=a) (by omega)
      exact h3 v a (by omega) hva
    · rw [List.getElem?_eq_none (by omega),List.getElem?_eq_none (by simp [invX];omega)]
  rw [this]
  rfl
end
section
set_option linter.unusedVariables false
set_option linter.unusedSimpArgs false
open Go Go.RowKit
theorem IA {t:Tsk} {gens:List Swp} (h:Sy t gens) {s:List Int} (ho:OR t (cnS t gens) s):StateOk t.vars s:=by
  have hok:=h.sm.ok
  induction ho with
  | init=>exact (Hx h hok.2.2.2.1).2.2.1
  | step _ _ ho _ ih=>exact (Hx h (Gj hok ih ho)).2.2.1
theorem OD {N:List ONd} {i:Nat} {l:List Nat} (h:TrN N i l):∀ (acc:List Int),acc.length + l.length≤100000 →
    lop (ρ:=(List Int)×Err) (fun (s5:Int×(List Int))=>if 0≤s5.1 then (bnd (appI 8 s5.2 [s5.1]) fun u25=>bnd (atI N s5.1) fun a75=>some (.next (a75.parent,u25))) else (some (.brk (s5.1,s5.2)))) ((i:Int),acc)=some (.done (-1,acc ++ (l.reverse.map fun k:Nat=>(k:Int)))):=by
  induction h with
  | @root n h0 hp =>
    intro acc ha
    simp only [List.length_singleton] at ha
    rw [CZ]
    dsimp only
    rw [if_pos (by omega),CH (by simp;omega) (by simp;omega),Am,Bn,h0,Am,hp]
    dsimp only
    rw [CZ]
    dsimp only
    rw [if_neg (by omega)]
    rfl
  | @step i p n l hi hp hl ih =>
    intro acc ha
    simp only [List.length_append,List.length_singleton] at ha
    rw [CZ]
    dsimp only
    rw [if_pos (by omega),CH (by simp;omega) (by simp;omega),Am,Bn,hi,Am,hp]
    dsimp only
    rw [ih (acc ++ [(i:Int)]) (by simp;omega)]
    simp
theorem TrN.way {N:List ONd} {i:Nat} {l:List Nat} (h:TrN N i l):l[0]?=some 0∧l.getLast?=some i∧∀ (k a b:Nat),l[k]?=some a→l[k + 1]?=some b→∃ n,N[b]?=some n∧n.parent=(a:Int):=by
  induction h with
  | root h0 hp=>exact ⟨rfl,rfl,fun k a b _ hb=>by simp at hb⟩
  | @step i p n l hi hp hl ih =>
    obtain ⟨i1,i2,i3⟩:=ih
    have hl0:=AG i1
    refine ⟨by rw [List.getElem?_append_left hl0];exact i1,by simp,fun k a b ha hb=>?_⟩
    rcases Nat.lt_or_ge (k + 1) l.length with hk|hk
    · rw [List.getElem?_append_left hk] at hb
      rw [List.getElem?_append_left (by omega)] at ha
      exact i3 k a b ha hb
    · have hbl:=AG hb
      simp only [List.length_append,List.length_singleton] at hbl
      have hk2:k + 1=l.length:=by omega
      rw [hk2] at hb
      simp at hb
      subst hb
      rw [List.getElem?_append_left (by omega)] at ha
      rw [List.getLast?_eq_getElem?,show l.length - 1=k from by omega,ha] at i2
      obtain rfl:=Option.some.inj i2
      exact ⟨n,hi,hp⟩
theorem TrN.mem {N:List ONd} {i:Nat} {l:List Nat} (h:TrN N i l):∀ k∈l,∃ n,N[k]?=some n:=by
  induction h with
  | root h0 hp=>intro k hk;simp at hk;subst hk;exact ⟨_,h0⟩
  | step hi hp hl ih =>
    intro k hk
    rcases List.mem_append.1 hk with hk|hk
    · exact ih k hk
    · simp at hk;subst hk;exact ⟨_,hi⟩
theorem NO {t:Tsk} {gens:List Swp} (h:Sy t gens) {L s ws r:List Int} (hw:Word gens s ws r) {ρ:Type} (bad:(Swp×Err)→ρ) (hL:StateOk t.vars L):∀ (j:Nat) (x:Swp),SymP t x→StateOk t.vars s→ImS x L s →
    ∃ y:Swp,rng (ρ:=ρ) (fun (k498:Nat) (a499:Int) (s496:(List Int)×(List (List Int))×(List Int))=>bnd (atI gens a499) fun a561=>bnd (Cb t (⟨s496.1,s496.2.1,s496.2.2⟩:Swp) a561) fun q584=>if q584.2.n≠0 then (some (.ret (bad q584))) else (some (.next (q584.1.vars,q584.1.vals,q584.1.ops)))) ws j (x.vars,x.vals,x.ops)=some (.done (y.vars,y.vals,y.ops))∧SymP t y∧ImS y L r:=by
  have hok:=h.sm.ok
  induction hw with
  | nil=>intro j x hx _ ha;exact ⟨x,rfl,hx,ha⟩
  | @cons s r ws m g hm hw ih =>
    intro j x hx hs ha
    have hg:=h.sy g (List.mem_of_getElem? hm)
    obtain ⟨g1,g2,g3⟩:=GA hok hg.1 hs
    obtain ⟨y,y1,y2,y3⟩:=ih (j + 1) (compX x g) (LH hok hx hg) g3 (Jk hx.1 hg.1 hL ha g2)
    refine ⟨y,?_,y2,y3⟩
    have e:Cb t (⟨x.vars,x.vals,x.ops⟩:Swp) g=some (compX x g,⟨0⟩):=MV hok hx hg
    simp only [rng]
    rw [Bn,hm,Am,e,Am,if_neg (by simp)]
    exact y1
theorem OE {t:Tsk} {gens:List Swp} (h:Sy t gens) {x:Ors} (ht:x.t=t) (hg:x.gens=gens) {D:Nat→Int→Prop} {hp:List QEn} {ord:Nat→Nat} {E:Nat} (hinv:OrI t (cnS t gens) (wdS t gens) D x.nodes hp ord E) {i:Nat} {n:ONd} {l:List Nat} (hi:x.nodes[i]?=some n) (hl:TrN x.nodes i l) (hlen:l.length≤1000) :
    ∃ p L,Cw x (i:Int)=some (p,⟨0⟩)∧p.length≤l.length∧PlanR t t.init p L n.cost∧StateOk t.vars L∧∃ y,SymP t y∧ImS y L n.state:=by
  have hok:=h.sm.ok
  have hs0:=hok.2.2.2.1
  obtain ⟨tt,gg,N,tab,op,num⟩:=x
  dsimp only at ht hg hinv hi hl ⊢
  subst ht hg
  obtain ⟨w1,w2,w3⟩:=hl.way
  have hid:CI (⟨tt.vars,tt.init,tt.goal,tt.ops⟩:Tsk)=some (idX tt,⟨0⟩):=Mc hok
  have hrev:Cg (l.reverse.map fun k:Nat=>(k:Int))=some (l.map fun k:Nat=>(k:Int)):=by
    rw [QC (by simp;omega)]
    simp
  have hsp:∀ (j:Nat) m,N[j]?=some m→StateOk tt.vars m.state:=fun j m hj=>IA h (hinv.rch j m hj)
  unfold Cw
  dsimp only
  rw [OD hl [] (by simp;omega),Am,BJ]
  dsimp only
  rw [List.nil_append,hrev,Am,hid,Am,if_neg (by simp)]
  dsimp only
  refine (?_:∃ p L,_∧p.length≤l.length∧PlanR tt tt.init p L n.cost∧StateOk tt.vars L∧∃ y,SymP tt y∧ImS y L n.state)
  obtain ⟨z,z1,z2⟩:=DI (ρ:=(List Int)×Err) (xs:=l.reverse.map fun k:Nat=>(k:Int)) (s₀:=(([]:List Int),(idX tt).vars,(idX tt).vals,(idX tt).ops)) (f:=fun (k203:Nat) (a204:Int) (s201:(List Int)×(List Int)×(List (List Int))×(List Int))=>bnd ((l.map fun k:Nat=>(k:Int))[k203]?) fun a224=>bnd (bnd (atI N a224) fun a278=>if 0≤a278.op then (bnd (CC (⟨tt.vars,tt.init,tt.goal,tt.ops⟩:Tsk) (⟨s201.2.1,s201.2.2.1,s201.2.2.2⟩:Swp)) fun q308=>bnd (some (q308.1.vars,q308.1.vals,q308.1.ops):Option ((List Int)×(List (List Int))×(List Int))) fun y310=>if q308.2.n≠0 then (some (.ret (.ret (([]:List Int),(⟨q308.2.n⟩:Err))))) else (bnd (atI y310.2.2 a278.op) fun a394=>bnd (appI 8 s201.1 [a394]) fun u406=>some (.done u406))) else (some (.done s201.1)):Option (Fin (List Int) (Ctl ((List Int)×(List Int)×(List (List Int))×(List Int)) ((List Int)×Err)))) fun y234=>fin y234 fun (s236:(List Int))=>bnd (atI N a224) fun a465=>bnd (rng (ρ:=Ctl ((List Int)×(List Int)×(List (List Int))×(List Int)) ((List Int)×Err)) (fun (k498:Nat) (a499:Int) (s496:(List Int)×(List (List Int))×(List Int))=>bnd (atI gg a499) fun a561=>bnd (Cb (⟨tt.vars,tt.init,tt.goal,tt.ops⟩:Tsk) (⟨s496.1,s496.2.1,s496.2.2⟩:Swp) a561) fun q584=>if q584.2.n≠0 then (some (.ret (.ret (([]:List Int),(⟨q584.2.n⟩:Err))))) else (some (.next (q584.1.vars,q584.1.vals,q584.1.ops)))) a465.used 0 (s201.2.1,s201.2.2.1,s201.2.2.2)) fun res494=>fin res494 fun (s626:(List Int)×(List (List Int))×(List Int))=>some (.next (s236,s626.1,s626.2.1,s626.2.2)))
    (fun k st=>∃ y:Swp,SymP tt y∧st.2=(y.vars,y.vals,y.ops)∧st.1.length≤k∧((k=0∧st.1=[]∧y=idX tt)∨∃ (k' j:Nat) (m:ONd) (L:List Int),k=k' + 1∧l[k']?=some j∧N[j]?=some m∧PlanR tt tt.init st.1 L m.cost∧StateOk tt.vars L∧ImS y L m.state))
    ⟨idX tt,NH hok,rfl,by simp,.inl ⟨rfl,rfl,rfl⟩⟩ (fun k a st hk hI=>by
      have hkl:=AG hk
      simp only [List.length_map,List.length_reverse] at hkl
      obtain ⟨j,hj⟩:=AE (l:=l) (k:=k) hkl
      obtain ⟨m,hm⟩:=hl.mem j (List.mem_of_getElem? hj)
      obtain ⟨pl,st2⟩:=st
      obtain ⟨y,y1,y2,y3,y4⟩:=hI
      dsimp only at y2 y3 y4 ⊢
      subst y2
      dsimp only
      rw [List.getElem?_map,hj]
      dsimp only [Option.map_some]
      rw [Am,Bn,hm,Am]
      have wloop:∀ {L s:List Int},StateOk tt.vars L→StateOk tt.vars s→ImS y L s→m.state=cnS tt gg s→m.used=wdS tt gg s→∃ y':Swp,rng (ρ:=Ctl ((List Int)×(List Int)×(List (List Int))×(List Int)) ((List Int)×Err)) (fun (k498:Nat) (a499:Int) (s496:(List Int)×(List (List Int))×(List Int))=>bnd (atI gg a499) fun a561=>bnd (Cb (⟨tt.vars,tt.init,tt.goal,tt.ops⟩:Tsk) (⟨s496.1,s496.2.1,s496.2.2⟩:Swp) a561) fun q584=>if q584.2.n≠0 then (some (.ret (.ret (([]:List Int),(⟨q584.2.n⟩:Err))))) else (some (.next (q584.1.vars,q584.1.vals,q584.1.ops)))) m.used 0 (y.vars,y.vals,y.ops)=some (.done (y'.vars,y'.vals,y'.ops))∧SymP tt y'∧ImS y' L m.state:=fun {L s} hL hs ha e1 e2=>by
        rw [e1,e2]
        exact NO h (Hx h hs).2.2.2 (fun q584=>Ctl.ret (σ:=(List Int)×(List Int)×(List (List Int))×(List Int)) (([]:List Int),(⟨q584.2.n⟩:Err))) hL 0 y y1 hs ha
      rcases y4 with ⟨rfl,rfl,rfl⟩|⟨k',j',m',L,rfl,hj',hm',hpl,hL,hIm⟩
      · rw [w1] at hj
        obtain rfl:=Option.some.inj hj
        obtain ⟨n0,r1,r2,r3,r4,r5,r6⟩:=hinv.root
        rw [r1] at hm
        obtain rfl:=Option.some.inj hm
        obtain ⟨y',q1,q2,q3⟩:=wloop hs0 hs0 (LL hok hs0) r2 r3
        rw [r6,if_neg (by omega),Am,BJ,Am,q1,Am,BJ]
        refine ⟨_,rfl,y',q2,rfl,by simp,.inr ⟨0,0,n0,tt.init,rfl,w1,r1,?_,hs0,q3⟩⟩
        rw [r4]
        exact .nil
      · obtain ⟨m2,hm2,hpar⟩:=w3 k' j' j hj' hj
        rw [hm] at hm2
        obtain rfl:=Option.some.inj hm2
        rcases hinv.link j m hm with rfl|⟨pp,q,o,mm,a1,a2,a3,a4,a5,a6,a7,a8,a9,_⟩
        · obtain ⟨n0,r1,_,_,_,r5,_⟩:=hinv.root
          rw [r1] at hm
          obtain rfl:=Option.some.inj hm
          omega
        have epp:pp=j':=by omega
        subst epp
        rw [hm'] at a4
        obtain rfl:=Option.some.inj a4
        have hst:=hsp pp m' hm'
        have hiv:=JX hok y1
        obtain ⟨o',p2,b,o1,o2,o3,o4,o5,_⟩:=Fo hiv (AG a3)
        have hback:=Hw hok y1 hL hIm
        obtain ⟨g1,g2,g3⟩:=Mv hok hiv hst hback a3 o2 o4
        have hs2:=Gj hok hst a3
        have hL2:=Gj hok hL o4
        have hIm2:ImS y (succ p2 L) (succ o m'.state):=by
          obtain ⟨c1,c2,c3⟩:=GA hok y1.1 hL2
          have e1:=Hw hok y1 hL2 c2
          have e2:=Hw hok hiv c3 e1
          have e3:=Hw hok hiv hs2 g2
          have e4:=LK (JX hok hiv).1 hL2.1 e2 e3
          rw [e4] at c2
          exact c2
        obtain ⟨y',q1,q2,q3⟩:=wloop hL2 hs2 hIm2 a7 a8
        have ei:CC (⟨tt.vars,tt.init,tt.goal,tt.ops⟩:Tsk) (⟨y.vars,y.vals,y.ops⟩:Swp)=some (invX y,⟨0⟩):=MW hok y1
        rw [a2,if_pos (by omega),ei,Am,Am,if_neg (by simp)]
        dsimp only
        rw [Bn,o2,Am,CH (by simp;omega) (by simp;omega),Am,Am,BJ,Am,q1,Am,BJ]
        refine ⟨_,rfl,y',q2,rfl,by simp;omega,.inr ⟨k' + 1,j,m,succ p2 L,rfl,hj,hm,?_,hL2,q3⟩⟩
        rw [a9,← g3]
        exact hpl.snoc o4 (by rw [g1];exact a6))
  obtain ⟨y,y1,y2,y3,y4⟩:=z2
  rw [z1,Am,BJ]
  simp only [List.length_map,List.length_reverse] at y3 y4
  have hlp:=AG w1
  rcases y4 with ⟨e,_⟩|⟨k',j,m,L,e,hj,hm,hpl,hL,hIm⟩
  · omega
  rw [List.getLast?_eq_getElem?,show l.length - 1=k' from by omega,hj] at w2
  obtain rfl:=Option.some.inj w2
  rw [hi] at hm
  obtain rfl:=Option.some.inj hm
  exact ⟨z.1,L,rfl,y3,hpl,hL,y,y1,hIm⟩
end
section
set_option linter.unusedVariables false
set_option linter.unusedSimpArgs false
open Go Go.RowKit
abbrev OT:=Int×Ors
noncomputable def oIn (t:Tsk) (c:Int) (id:Int) (s:Ors) (a:Suc):Option (Ctl Ors (Ctl OT (Rsl×Err))):=bnd (atI t.ops a.op) fun o=>bnd (chkI (c + o.cost)) fun n=>bnd (BU s a.state n id a.op) fun q=>if q.1.n≠0 then (some (.ret (.ret ((⟨0,([]:List Int),0,0⟩:Rsl),(⟨q.1.n⟩:Err))))) else (some (.next q.2))
noncomputable def orbF (t:Tsk) (g:Option Gnr) (lim:Int):OT→Option (Ctl OT (Rsl×Err)):=fun s=>bnd (BW s.2.open_) fun q=>if q=0 then (some (.ret ((⟨2,([]:List Int),0,s.1⟩:Rsl),(⟨0⟩:Err)))) else (bnd (CD (⟨s.2.open_⟩:BQ)) fun e=>bnd (bnd (atI s.2.nodes e.1.x.node) fun a=>if a.fin=true then (some true) else (bnd (atI s.2.nodes e.1.x.node) fun b=>if b.cost < e.1.x.cost then (some true) else (some false)):Option Bool) fun y=>if y=true then (some (.next (s.1,(⟨s.2.t,s.2.gens,s.2.nodes,s.2.tab,e.2.l,s.2.number⟩:Ors)))) else (bnd (atI s.2.nodes e.1.x.node) fun n=>bnd (DZ t.goal n.state) fun b=>if b=true then bnd (Cw (⟨s.2.t,s.2.gens,s.2.nodes,s.2.tab,e.2.l,s.2.number⟩:Ors) e.1.x.node) fun p=>if p.2.n≠0 then (some (.ret ((⟨0,([]:List Int),0,0⟩:Rsl),(⟨p.2.n⟩:Err)))) else (some (.ret ((⟨1,p.1,n.cost,s.1⟩:Rsl),(⟨0⟩:Err)))) else if lim≤s.1 then (some (.ret ((⟨3,([]:List Int),0,s.1⟩:Rsl),(⟨0⟩:Err)))) else (bnd (chkI (s.1 + 1)) fun n2=>bnd (atI s.2.nodes e.1.x.node) fun m=>bnd (BH g n.state) fun l=>bnd (rng (ρ:=Ctl OT (Rsl×Err)) (fun (_:Nat) (a:Suc) (y:Ors)=>oIn t n.cost e.1.x.node y a) l 0 (⟨s.2.t,s.2.gens,s.2.nodes.set (e.1.x.node:Int).toNat { m with fin:=true },s.2.tab,e.2.l,s.2.number⟩:Ors)) fun r=>fin r fun (z:Ors)=>some (.next (n2,z)))))
theorem JY (t:Tsk) (gens:List Swp) (lim:Int):Cn t gens lim=bnd (Cm t) fun q33=>if q33.n≠0 then (some ((⟨0,([]:List Int),0,0⟩:Rsl),(⟨q33.n⟩:Err))) else (bnd (rng (ρ:=Rsl×Err) (fun (k50:Nat) (a51:Swp) (s48:Unit)=>bnd (Ct t a51) fun q87=>if q87=true then some (.next ()) else some (.ret ((⟨0,([]:List Int),0,0⟩:Rsl),(⟨2⟩:Err)))) gens 0 ()) fun res46=>fin res46 fun (s100:Unit)=>bnd (Ey t) fun q102=>if q102.2.n≠0 then (some ((⟨0,([]:List Int),0,0⟩:Rsl),(⟨q102.2.n⟩:Err))) else (bnd (BU (⟨t,gens,([]:List ONd),(⟨[]⟩:MapP ByteArray Int),([]:List OEn),0⟩:Ors) t.init 0 (-1) (-1)) fun q138=>if q138.1.n≠0 then (some ((⟨0,([]:List Int),0,0⟩:Rsl),(⟨q138.1.n⟩:Err))) else (bnd (lop (orbF t q102.1 lim) (0,q138.2)) fun res151=>fin res151 fun (_:OT)=>none))):=rfl
theorem OF {t:Tsk} {gens:List Swp} (h:Sy t gens) {s ws r:List Int} (hw:Word gens s ws r) (hs:StateOk t.vars s):∃ x,SymP t x∧ImS x s r:=by
  have hok:=h.sm.ok
  induction hw with
  | nil=>exact ⟨idX t,NH hok,LL hok hs⟩
  | @cons s r ws m g hm hw ih =>
    have hg:=h.sy g (List.mem_of_getElem? hm)
    obtain ⟨g1,g2,g3⟩:=GA hok hg.1 hs
    obtain ⟨x,x1,x2⟩:=ih g3
    exact ⟨compX g x,LH hok hg x1,Jk hg.1 x1.1 hs g2 x2⟩
theorem NP {t:Tsk} {gens:List Swp} (h:Sy t gens) {s:List Int} (hs:StateOk t.vars s):∃ x,SymP t x∧ImS x s (cnS t gens s):=OF h (Hx h hs).2.2.2 hs
theorem JZ {t:Tsk} {x:Swp} (hok:TaskOk t) (hx:SymP t x) {s a:List Int} (hs:StateOk t.vars s) (ha:ImS x s a):holdsB t.goal a=holdsB t.goal s:=by
  have:=Jl hok hx.1 hok.2.2.2.2.1 hs ha
  rwa [hx.2.2.1] at this
theorem NQ {t:Tsk} {s:List Int} {C:Int} (hw:Walk t s C):∃ p s',PlanR t s p s' C∧holdsB t.goal s'=true:=by
  induction hw with
  | goal h=>exact ⟨[],_,.nil,h⟩
  | @step s k o C ho hp _ ih =>
    obtain ⟨p,s',h1,h2⟩:=ih
    refine ⟨(k:Int) :: p,s',?_,h2⟩
    rw [Int.add_comm]
    exact .cons ho hp h1
theorem QH {t:Tsk} {gens:List Swp} (h:Sy t gens):∀ (n:Nat) (p s s':List Int) (C:Int),p.length≤n→StateOk t.vars s→PlanR t s p s' C→holdsB t.goal s'=true→WalkC t (cnS t gens) s C:=by
  have hok:=h.sm.ok
  intro n
  induction n with
  | zero =>
    intro p s s' C hp hs hr hg
    cases hr with
    | nil=>exact .goal hg
    | cons _ _ _=>simp at hp
  | succ n ih =>
    intro p s s' C hp hs hr hg
    cases hr with
    | nil=>exact .goal hg
    | @cons _ rest _ k o C ho hpre hr =>
      have hs2:=Gj hok hs ho
      obtain ⟨x,x1,x2⟩:=NP h hs2
      obtain ⟨i1,i2,a',i3,i4⟩:=Mw hok x1 hr hs2 x2
      have hg':holdsB t.goal a'=true:=by rw [JZ hok x1 i2 i4];exact hg
      rw [Int.add_comm]
      exact .step ho hpre (ih _ _ _ _ (by simp [imP] at hp ⊢;omega) (Hx h hs2).2.2.1 i3 hg')
theorem QI {t:Tsk} {gens:List Swp} (h:Sy t gens) {C:Int} (hw:Walk t t.init C):WalkC t (cnS t gens) (cnS t gens t.init) C:=by
  have hok:=h.sm.ok
  have hs:=hok.2.2.2.1
  obtain ⟨x,x1,x2⟩:=NP h hs
  obtain ⟨p,s',p1,p2⟩:=NQ hw
  obtain ⟨i1,i2,a',i3,i4⟩:=Mw hok x1 p1 hs x2
  exact QH h _ _ _ _ _ (Nat.le_refl _) (Hx h hs).2.2.1 i3 (by rw [JZ hok x1 i2 i4];exact p2)
structure AS (t:Tsk) (gens:List Swp) (x:Ors):Prop where
  tt:x.t=t
  gg:x.gens=gens
  tab:TabI t.vars x.nodes x.tab.l
  heap:HeapOk (qs x.open_)
  num0:0≤x.number
def KPN (N N':List ONd):Prop:=∀ (j:Nat) n,N'[j]?=some n→n.fin=true→N[j]?=some n
def HMN (N:List ONd) (c:Int):Prop:=∀ (j:Nat) n,N[j]?=some n→n.fin=true→n.cost≤c
theorem HMN.kp {N N':List ONd} {c:Int} (h:HMN N c) (k:KPN N N'):HMN N' c:=fun j n hj hf=>h j n (k j n hj hf) hf
theorem NR {N N':List ONd} {i:Nat} {n:ONd} (h:UpN i n N N') (hf:n.fin=false):KPN N N':=fun j a hj ha=>by
  have hne:j≠i:=fun e=>by subst e;rw [h.1] at hj;obtain rfl:=Option.some.inj hj;rw [hf] at ha;cases ha
  rw [← h.2 j hne];exact hj
theorem KC {t:Tsk} {gens:List Swp} (h:Sy t gens) {D:Nat→Int→Prop} {N:List ONd} {hp:List QEn} {ord:Nat→Nat} {E:Nat} (hinv:OrI t (cnS t gens) (wdS t gens) D N hp ord E):N.length≤512:=by
  have h1:(N.map (·.state)).length≤(statesL t.vars).length:=Ic (Lx fun i j s hi hj=>by
    rw [List.getElem?_map] at hi hj
    obtain ⟨n,hn,e1⟩:=Option.map_eq_some_iff.1 hi
    obtain ⟨m,hm,e2⟩:=Option.map_eq_some_iff.1 hj
    exact hinv.uniq i j n m hn hm (e1.trans e2.symm)) fun s hs=>by
      obtain ⟨n,hn,rfl⟩:=List.mem_map.1 hs
      obtain ⟨i,hi⟩:=List.getElem?_of_mem hn
      exact GO.2 (IA h (hinv.rch i n hi))
  rw [List.length_map] at h1
  exact Nat.le_trans h1 h.sm.many
theorem Re {t:Tsk} {gens:List Swp} (h:Sy t gens) {D:Nat→Int→Prop} {ord:Nat→Nat} {E:Nat} {x:Ors} (hx:AS t gens x) (hinv:OrI t (cnS t gens) (wdS t gens) D x.nodes (qs x.open_) ord E) (hn1:x.number≤100000) (hql:x.open_.length≤100000) (hE:E≤601)
    {p k:Nat} {o:Opr} {m:ONd} (ho:t.ops[k]?=some o) (hm:x.nodes[p]?=some m) (hmf:m.fin=true) (hpre:holdsB o.pre m.state=true) (hmax:HMN x.nodes m.cost) (hcb:m.cost + 1048576≤(E:Int) * 1048576) :
    ∃ y:Ors,oIn t m.cost (p:Int) x ⟨(k:Int),succ o m.state⟩=some (.next y)∧AS t gens y∧OrI t (cnS t gens) (wdS t gens) D y.nodes (qs y.open_) ord E∧y.number≤x.number + 1∧y.open_.length≤x.open_.length + 1∧KPN x.nodes y.nodes∧y.nodes[p]?=some m∧∃ (i:Nat) (m':ONd),y.nodes[i]?=some m'∧m'.state=cnS t gens (succ o m.state)∧m'.cost≤m.cost + o.cost:=by
  have hok:=h.sm.ok
  have hoo:=hok.2.2.2.2.2 k o ho
  have ho1':=hoo.1
  have ho2:=hoo.2.1
  have hN:=KC h hinv
  have hcp:=(hinv.bound p m hm).1
  have hsm:=IA h (hinv.rch p m hm)
  have hs:=Gj hok hsm ho
  unfold oIn
  dsimp only
  rw [Bn,ho,Am,CT (by unfold inI64;omega),Am]
  rcases Pf h hx.tt hx.gg hx.tab hx.heap hx.num0 hn1 hql (by omega) hs (m.cost + o.cost) (p:Int) (k:Int) with ⟨i,n,a1,a2,a3,a4⟩|⟨i,y,a1,a2,a3,a4,a5,a6,a7,a8,a9⟩
  · rw [a4,Am,if_neg (by simp)]
    exact ⟨x,rfl,hx,hinv,by omega,by omega,fun j n hj _=>hj,hm,i,n,a1,a2,a3⟩
  · rw [a1,Am,if_neg (by simp)]
    have hAS:AS t gens y:=⟨a2,a3,a4,a5,by have:=hx.num0;omega⟩
    rcases a9 with ⟨rfl,b2,b3⟩|⟨a,b1,b2,b3,b4⟩
    · have hup:UpN x.nodes.length (⟨cnS t gens (succ o m.state),m.cost + o.cost,(p:Int),(k:Int),wdS t gens (succ o m.state),false⟩:ONd) x.nodes y.nodes:=by rw [b2];exact PC
      have hpl:=AG hm
      have hpy:y.nodes[p]?=some m:=by rw [hup.2 p (by omega)];exact hm
      refine ⟨y,rfl,hAS,?_,by omega,by omega,NR hup rfl,hpy,x.nodes.length,_,hup.1,rfl,Int.le_refl _⟩
      exact hinv.upd hok hup a8 rfl rfl (by rw [b2];simp) (by rw [b2];exact Oo _ rfl) (.inl ⟨List.getElem?_eq_none (Nat.le_refl _),b3⟩) rfl rfl rfl ho hm hmf hpre rfl rfl rfl hmax (by dsimp only;omega)
    · have haf:a.fin=false:=by
        cases hb:a.fin with
        | false=>rfl
        | true=>have:=hmax i a b1 hb;omega
      have hup:UpN i (⟨cnS t gens (succ o m.state),m.cost + o.cost,(p:Int),(k:Int),wdS t gens (succ o m.state),false⟩:ONd) x.nodes y.nodes:=by rw [b4];exact PB (AG b1)
      have hip:p≠i:=fun e=>by subst e;rw [hm] at b1;obtain rfl:=Option.some.inj b1;rw [hmf] at haf;cases haf
      refine ⟨y,rfl,hAS,?_,by omega,by omega,NR hup rfl,by rw [hup.2 p hip];exact hm,i,_,hup.1,rfl,Int.le_refl _⟩
      exact hinv.upd hok hup a8 rfl rfl (by rw [b4];simp) (by rw [b4];exact Lz b1 haf rfl) (.inr ⟨a,b1,b2,haf,b3⟩) rfl rfl rfl ho hm hmf hpre rfl rfl rfl hmax (by dsimp only;omega)
structure OJ (t:Tsk) (gens:List Swp) (D:Nat→Int→Prop) (ord:Nat→Nat) (E NN:Nat) (i:Nat) (m:ONd) (y:Ors):Prop where
  ob:AS t gens y
  inv:OrI t (cnS t gens) (wdS t gens) D y.nodes (qs y.open_) ord E
  num1:y.number≤NN
  qlen:y.open_.length≤NN
  hi:y.nodes[i]?=some m
  hm:HMN y.nodes m.cost
theorem Rf {t:Tsk} {gens:List Swp} (h:Sy t gens) {ord:Nat→Nat} {E NN i:Nat} {m:ONd} {y:Ors} (hj:OJ t gens (fun j _=>j≠i) ord E NN i m y) (hmf:m.fin=true) (hN:NN≤90000) (hE:E≤601) (hcb:m.cost + 1048576≤(E:Int) * 1048576) :
    ∃ y':Ors,rng (ρ:=Ctl OT (Rsl×Err)) (fun (_:Nat) (a:Suc) (y:Ors)=>oIn t m.cost (i:Int) y a) ((appS t m.state).map (sucOf t m.state)) 0 y=some (.done y')∧OJ t gens (fun _ _=>True) ord E (NN + 20) i m y':=by
  have hok:=h.sm.ok
  have hops:t.ops.length≤20:=h.sm.2.1
  have hsok:=IA h (hj.inv.rch i m hj.hi)
  have hlen:(appl t m.state).length≤20:=Nat.le_trans (Lv t m.state) hops
  rw [Iw hsok]
  obtain ⟨y',h1,h2⟩:=DI (ρ:=Ctl OT (Rsl×Err)) (f:=fun (_:Nat) (a:Suc) (y:Ors)=>oIn t m.cost (i:Int) y a) (xs:=(appl t m.state).map (sucOf t m.state)) (s₀:=y) (fun b z=>OJ t gens (fun j q=>j≠i∨q∈(appl t m.state).take b) ord E (NN + b) i m z)
    { hj with inv:={ hj.inv with rel:=fun j a q hj' hs' hq hd=>hj.inv.rel j a q hj' hs' hq (by rcases hd with hd|hd;exact hd;simp at hd) } } (fun b a z hb hz=>by
      rw [List.getElem?_map] at hb
      obtain ⟨op,hop,rfl⟩:=Option.map_eq_some_iff.1 hb
      obtain ⟨k,o,rfl,ho,hp⟩:=Lu (List.mem_of_getElem? hop)
      have hml:=AG hop
      have hq:=hz.qlen
      have hnu:=hz.num1
      have e1:sucOf t m.state (k:Int)=⟨(k:Int),succ o m.state⟩:=by rw [PA,(Mu ho).2]
      obtain ⟨z',z1,z2,z3,z4,z5,z6,z7,i',m',z8,z9,z10⟩:=Re h hz.ob hz.inv (by omega) (by omega) hE ho hz.hi hmf hp hz.hm hcb
      refine ⟨z',by rw [e1];exact z1,⟨z2,?_,by omega,by omega,z7,hz.hm.kp z6⟩⟩
      refine z3.more (j₀:=i) (q₀:=(k:Int)) (fun j q hd=>?_) z7 rfl ho z8 z9 z10
      rcases hd with hd|hd
      · exact .inl (.inl hd)
      · rcases (On hop).1 hd with hd|rfl
        · exact .inl (.inr hd)
        · by_cases e:j=i
          · exact .inr ⟨e,rfl⟩
          · exact .inl (.inl e))
  rw [List.length_map] at h2
  have hinv:=h2.inv
  have hq:=h2.qlen
  have hnu:=h2.num1
  refine ⟨y',h1,{ h2 with
    inv := { hinv with rel:=fun j s' q hj2 hs' hq2 hd=>hinv.rel j s' q hj2 hs' hq2 (by
      by_cases e:j=i
      · subst e
        rw [h2.hi] at hj2
        obtain rfl:=Option.some.inj hj2
        exact .inr (by rw [List.take_of_length_le (Nat.le_refl _)];exact hq2)
      · exact .inl e) }
    num1:=by omega
    qlen:=by omega }⟩
structure OI (t:Tsk) (gens:List Swp) (ord:Nat→Nat) (NN:Nat) (st:OT):Prop where
  ob:AS t gens st.2
  inv:OrI t (cnS t gens) (wdS t gens) (fun _ _=>True) st.2.nodes (qs st.2.open_) ord st.1.toNat
  num1:st.2.number≤NN
  qlen:st.2.open_.length≤NN
  exp0:0≤st.1
  nn:(NN:Int)≤1 + 20 * st.1
theorem OI.exp {t:Tsk} {gens:List Swp} (h:Sy t gens) {ord:Nat→Nat} {NN:Nat} {st:OT} (hi:OI t gens ord NN st):st.1≤512:=by
  have h1:=KC h hi.inv
  have h2:=hi.inv.num
  have h3:=PD st.2.nodes
  have:=hi.exp0
  omega
theorem QJ {t:Tsk} {gens:List Swp} (h:Sy t gens) {ord:Nat→Nat} {NN:Nat} {st:OT} (hi:OI t gens ord NN st) :
    (∃ st':OT,(∀ lim,orbF t (some ⟨t⟩) lim st=some (.next st'))∧OI t gens ord NN st'∧st'.1=st.1∧st'.2.open_.length < st.2.open_.length) ∨
    ((∀ lim,orbF t (some ⟨t⟩) lim st=some (.ret (⟨2,[],0,st.1⟩,⟨0⟩)))∧st.2.open_.length=0) ∨
    (∃ p c,(∀ lim,orbF t (some ⟨t⟩) lim st=some (.ret (⟨1,p,c,st.1⟩,⟨0⟩)))∧p.length≤600∧(∃ s',PlanR t t.init p s' c∧holdsB t.goal s'=true)∧(∀ e∈qs st.2.open_,c≤e.key)∧∃ (i:Nat) (n:ONd),st.2.nodes[i]?=some n∧n.fin=false) ∨
    (∃ (st':OT) (ord':Nat→Nat) (NN':Nat),(∀ lim,orbF t (some ⟨t⟩) lim st=if lim≤st.1 then some (.ret (⟨3,[],0,st.1⟩,⟨0⟩)) else some (.next st'))∧OI t gens ord' NN' st'∧st'.1=st.1 + 1∧∃ (i:Nat) (n:ONd),st.2.nodes[i]?=some n∧n.fin=false):=by
  have hok:=h.sm.ok
  have hE:=hi.exp h
  have hE0:=hi.exp0
  have hnn:=hi.nn
  have hql:=hi.qlen
  have hnu:=hi.num1
  obtain ⟨exp,tt,gg,N,tab,op,num⟩:=st
  obtain ⟨⟨e1,e2,has3,has4,has5⟩,hinv,_,_,_,_⟩:=hi
  dsimp only at e1 e2 has3 has4 has5 hinv hE hE0 hnn hql hnu ⊢
  subst e1 e2
  by_cases h0:op.length=0
  · refine .inr (.inl ⟨fun lim=>?_,h0⟩)
    unfold orbF BW
    dsimp only
    rw [Am,if_pos (by omega)]
  obtain ⟨pr,p1,e,q',rfl,p3,p4,p5⟩:=PF (q:=⟨op⟩) has4 (by dsimp only;omega) (by dsimp only;omega)
  dsimp only at p4 p5
  have hem:toQ e∈qs op:=p4.mem_iff.2 List.mem_cons_self
  obtain ⟨i,n,hei,hn,hle⟩:=hinv.ent _ hem
  change e.node=(i:Int) at hei
  change n.cost≤e.cost at hle
  have hpl:=p4.length_eq
  simp only [List.length_cons,FO] at hpl
  have hst:=IA h (hinv.rch i n hn)
  by_cases hstale:n.fin=true∨n.cost < e.cost
  · refine .inl ⟨(exp,⟨tt,gg,N,tab,q'.l,num⟩),fun lim=>?_,⟨⟨rfl,rfl,has3,p3,has5⟩,hinv.drop p4 hei hn (hstale.imp id fun hl=>by change n.cost≠e.cost;omega),hnu,by dsimp only;omega,hE0,hnn⟩,rfl,by dsimp only;omega⟩
    unfold orbF BW
    dsimp only
    rw [Am,if_neg (by omega),p1,Am]
    dsimp only
    rw [hei,Bn,hn,Am]
    by_cases hf:n.fin=true
    · rw [if_pos hf,Am,Bo]
    · rw [if_neg hf,Am,if_pos (hstale.resolve_left hf),Am,Bo]
  · have hff:n.fin=false:=by
      cases hb:n.fin with
      | false=>rfl
      | true=>exact absurd (.inl hb) hstale
    have hke:n.cost=e.cost:=by
      have:¬ n.cost < e.cost:=fun hl=>hstale (.inr hl)
      omega
    have start:∀ lim,orbF tt (some ⟨tt⟩) lim (exp,⟨tt,gg,N,tab,op,num⟩)=if holdsB tt.goal n.state=true then bnd (Cw (⟨tt,gg,N,tab,q'.l,num⟩:Ors) (i:Int)) fun p=>if p.2.n≠0 then (some (.ret ((⟨0,([]:List Int),0,0⟩:Rsl),(⟨p.2.n⟩:Err)))) else (some (.ret ((⟨1,p.1,n.cost,exp⟩:Rsl),(⟨0⟩:Err)))) else if lim≤exp then (some (.ret ((⟨3,([]:List Int),0,exp⟩:Rsl),(⟨0⟩:Err)))) else (bnd (chkI (exp + 1)) fun n2=>bnd (BH (some ⟨tt⟩) n.state) fun l=>bnd (rng (ρ:=Ctl OT (Rsl×Err)) (fun (_:Nat) (a:Suc) (y:Ors)=>oIn tt n.cost (i:Int) y a) l 0 (⟨tt,gg,N.set i { n with fin:=true },tab,q'.l,num⟩:Ors)) fun r=>fin r fun (z:Ors)=>some (.next (n2,z))):=by
      intro lim
      unfold orbF BW
      dsimp only
      rw [Am,if_neg (by omega),p1,Am]
      dsimp only
      rw [hei,Bn,hn,Am,hff,Bq,Am,if_neg (by omega),Am,Bq,Am,Nx,Am,Int.toNat_natCast]
      simp only [Am]
    have hleast:∀ e'∈qs op,n.cost≤e'.key:=fun e' m=>by have:=Nz (p5 e' m);change e.cost≤e'.key at this;omega
    by_cases hg:holdsB tt.goal n.state=true
    · obtain ⟨l,l1,l2⟩:=hinv.path hn
      obtain ⟨p,L,g1,g2,g3,g4,y,g5,g6⟩:=OE h (x:=⟨tt,gg,N,tab,q'.l,num⟩) rfl rfl hinv hn l1 (by omega)
      refine .inr (.inr (.inl ⟨p,n.cost,fun lim=>?_,by omega,⟨L,g3,by rw [← JZ hok g5 g4 g6];exact hg⟩,hleast,i,n,hn,hff⟩))
      rw [start,if_pos hg,g1,Am,if_neg (by simp)]
    · have hgf:holdsB tt.goal n.state=false:=by simpa using hg
      have hm:=hinv.mark p4 p5 hei hn hff hke hgf rfl
      have hbd:=hinv.bound i n hn
      rw [Int.toNat_of_nonneg hE0] at hbd
      have hil:=AG hn
      have hself:(N.set i { n with fin:=true })[i]?=some { n with fin:=true }:=List.getElem?_set_self hil
      obtain ⟨y',y1,y2⟩:=Rf h (E:=exp.toNat + 1) (NN:=NN) (i:=i) (m:={ n with fin:=true }) (y:=(⟨tt,gg,N.set i { n with fin:=true },tab,q'.l,num⟩:Ors)) ⟨⟨rfl,rfl,has3.set hn rfl,p3,has5⟩,hm,hnu,by dsimp only;omega,hself,fun j a hj hja=>by
          by_cases e1:i=j
          · subst e1;rw [hself] at hj;obtain rfl:=Option.some.inj hj;exact Int.le_refl _
          · rw [List.getElem?_set_ne e1] at hj
            have:=hinv.lower j a hj hja _ hem
            change a.cost≤e.cost at this
            change a.cost≤n.cost
            omega⟩ rfl (by omega) (by omega) (by
        have:((exp.toNat + 1:Nat):Int)=exp + 1:=by omega
        rw [this]
        dsimp only
        omega)
      refine .inr (.inr (.inr ⟨(exp + 1,y'),(fun j=>if j=i then exp.toNat else ord j),NN + 20,fun lim=>?_,⟨y2.ob,?_,by have:=y2.num1;dsimp only;omega,y2.qlen,by dsimp only;omega,by dsimp only;omega⟩,rfl,i,n,hn,hff⟩))
      · rw [start,if_neg hg]
        by_cases hlim:lim≤exp
        · rw [if_pos hlim,if_pos hlim]
        · rw [if_neg hlim,if_neg hlim,CT (by unfold inI64;omega),Am,Px hok (by have:=hst.1;have:=hok.1;omega),Am,y1,Am,BJ]
      · dsimp only
        rw [show (exp + 1).toNat=exp.toNat + 1 from by omega]
        exact y2.inv
end
section
set_option linter.unusedVariables false
set_option linter.unusedSimpArgs false
open Go Go.RowKit
def ResO (t:Tsk) (gens:List Swp) (m:Int) (r:Rsl):Prop:=0≤r.expanded∧r.expanded≤m∧∃ M:List (List Int),M.Nodup∧(M.length:Int)=r.expanded∧(∀ s∈M,OR t (cnS t gens) s) ∧
  ((r.verdict=1∧r.plan.length≤600∧(∃ s',PlanR t t.init r.plan s' r.cost∧holdsB t.goal s'=true)∧(∀ C,Walk t t.init C→r.cost≤C)∧∃ s,¬ s∈M∧OR t (cnS t gens) s) ∨
   (r.verdict=2∧r.plan=[]∧r.cost=0∧(∀ C,¬ Walk t t.init C)∧∀ s,OR t (cnS t gens) s→s∈M) ∨
   (r.verdict=3∧r.plan=[]∧r.cost=0∧m≤r.expanded∧∃ s,¬ s∈M∧OR t (cnS t gens) s))
def finS (N:List ONd):List (List Int):=(N.filter (·.fin)).map (·.state)
theorem Jn {N:List ONd} {s:List Int}:s∈finS N↔∃ (i:Nat) (n:ONd),N[i]?=some n∧n.fin=true∧n.state=s:=by
  unfold finS
  rw [List.mem_map]
  constructor
  · rintro ⟨n,hn,rfl⟩
    obtain ⟨h1,h2⟩:=List.mem_filter.1 hn
    obtain ⟨i,hi⟩:=List.getElem?_of_mem h1
    exact ⟨i,n,hi,h2,rfl⟩
  · rintro ⟨i,n,hi,h2,rfl⟩
    exact ⟨n,List.mem_filter.2 ⟨List.mem_of_getElem? hi,h2⟩,rfl⟩
section
variable {t : Tsk} {gens : List Swp} {ord : Nat → Nat} {NN : Nat} {st : OT}
theorem OI.set (h:Sy t gens) (hi:OI t gens ord NN st):(finS st.2.nodes).Nodup∧((finS st.2.nodes).length:Int)=st.1∧∀ s∈finS st.2.nodes,OR t (cnS t gens) s:=by
  have hE0:=hi.exp0
  refine ⟨?_,?_,fun s hs=>?_⟩
  · have h1:(st.2.nodes.map (·.state)).Nodup:=Lx fun i j s hi' hj'=>by
      rw [List.getElem?_map] at hi' hj'
      obtain ⟨n,hn,e1⟩:=Option.map_eq_some_iff.1 hi'
      obtain ⟨m,hm,e2⟩:=Option.map_eq_some_iff.1 hj'
      exact hi.inv.uniq i j n m hn hm (e1.trans e2.symm)
    exact h1.sublist ((List.filter_sublist).map _)
  · unfold finS
    rw [List.length_map]
    have:=hi.inv.num
    unfold cntN at this
    omega
  · obtain ⟨i,n,hn,_,rfl⟩:=Jn.1 hs
    exact hi.inv.rch i n hn
theorem OI.left (hi:OI t gens ord NN st) {i:Nat} {n:ONd} (hn:st.2.nodes[i]?=some n) (hf:n.fin=false):∃ s,¬ s∈finS st.2.nodes∧OR t (cnS t gens) s:=by
  refine ⟨n.state,fun hm=>?_,hi.inv.rch i n hn⟩
  obtain ⟨j,m,hm,hmf,e⟩:=Jn.1 hm
  have:=hi.inv.uniq j i m n hm hn e
  subst this
  rw [hn] at hm
  obtain rfl:=Option.some.inj hm
  rw [hf] at hmf
  cases hmf
theorem OI.len (h:Sy t gens) (hi:OI t gens ord NN st):st.2.open_.length≤90000:=by
  have h1:=hi.exp h
  have h2:=hi.qlen
  have h3:=hi.nn
  have:=hi.exp0
  omega
theorem OI.front (h:Sy t gens) (hi:OI t gens ord NN st) {C:Int} (hw:Walk t t.init C):∃ e∈qs st.2.open_,e.key≤C:=by
  obtain ⟨n,r1,r2,_,r4,_⟩:=hi.inv.root
  obtain ⟨e,e1,e2⟩:=hi.inv.front h.sm.ok (QI h hw) 0 n r1 r2
  exact ⟨e,e1,by omega⟩
end
theorem PT {M K a q q' n:Nat} (ha:a < M) (h:(M - a) * K + q < n + 1) (hq:q' < K):(M - (a + 1)) * K + q' < n:=by
  obtain ⟨b,hb⟩:∃ b,M - a=b + 1:=⟨M - a - 1,by omega⟩
  have hb':M - (a + 1)=b:=by omega
  rw [hb,Nat.add_mul,Nat.one_mul] at h
  rw [hb']
  omega
theorem Rg {t:Tsk} {gens:List Swp} (h:Sy t gens) (lim:Int):∀ (n:Nat) (st:OT) (ord:Nat→Nat) (NN:Nat),OI t gens ord NN st→st.1≤max lim 0→(601 - st.1.toNat) * 100000 + st.2.open_.length < n→∃ r,lop (orbF t (some ⟨t⟩) lim) st=some (.ret (r,⟨0⟩))∧ResO t gens (max lim 0) r∧st.1≤r.expanded∧∀ lim',r.verdict≠3→r.expanded≤max lim' 0→lop (orbF t (some ⟨t⟩) lim') st=some (.ret (r,⟨0⟩)):=by
  intro n
  induction n with
  | zero=>intro st ord NN _ _ hn;omega
  | succ n ih =>
    intro st ord NN hi hsl hn
    have hE:=hi.exp h
    have hE0:=hi.exp0
    have hok:=h.sm.ok
    obtain ⟨m1,m2,m3⟩:=hi.set h
    rcases QJ h hi with ⟨st',h1,h2,h3,h4⟩|⟨h1,h2⟩|⟨p,c,h1,h2,h3,h4,i,nd,h5,h6⟩|⟨st',ord',NN',h1,h2,h3,i,nd,h5,h6⟩
    · obtain ⟨r,f1,f2,f3,f4⟩:=ih st' ord NN h2 (by omega) (by rw [h3];omega)
      refine ⟨r,by rw [CZ,h1];exact f1,f2,by omega,fun lim' hv hl=>?_⟩
      rw [CZ,h1];exact f4 lim' hv hl
    · have hnil:st.2.open_=[]:=List.length_eq_zero_iff.1 h2
      have hq:qs st.2.open_=[]:=by rw [hnil];rfl
      refine ⟨⟨2,[],0,st.1⟩,by rw [CZ,h1],⟨hE0,hsl,finS st.2.nodes,m1,m2,m3,.inr (.inl ⟨rfl,rfl,rfl,fun C hw=>?_,fun s hs=>?_⟩)⟩,Int.le_refl _,fun lim' _ _=>by rw [CZ,h1]⟩
      · obtain ⟨e',m,_⟩:=hi.front h hw
        rw [hq] at m;simp at m
      · have hinv:=hi.inv
        rw [hq] at hinv
        obtain ⟨i,nd,i1,i2,i3⟩:=hinv.all hs
        exact Jn.2 ⟨i,nd,i1,i3,i2⟩
    · refine ⟨⟨1,p,c,st.1⟩,by rw [CZ,h1],⟨hE0,hsl,finS st.2.nodes,m1,m2,m3,.inl ⟨rfl,h2,h3,fun C hw=>?_,hi.left h5 h6⟩⟩,Int.le_refl _,fun lim' _ _=>by rw [CZ,h1]⟩
      obtain ⟨e',m,k⟩:=hi.front h hw
      have:=h4 e' m
      show c≤C
      omega
    · by_cases hlim:lim≤st.1
      · exact ⟨⟨3,[],0,st.1⟩,by rw [CZ,h1,if_pos hlim],⟨hE0,hsl,finS st.2.nodes,m1,m2,m3,.inr (.inr ⟨rfl,rfl,rfl,by show max lim 0≤st.1;omega,hi.left h5 h6⟩)⟩,Int.le_refl _,fun lim' hv _=>absurd rfl hv⟩
      · have hmany:=h2.len h
        obtain ⟨r,f1,f2,f3,f4⟩:=ih st' ord' NN' h2 (by omega) (by
          have:st'.1.toNat=st.1.toNat + 1:=by omega
          rw [this];exact PT (by omega) hn (by omega))
        refine ⟨r,by rw [CZ,h1,if_neg hlim];exact f1,f2,by omega,fun lim' hv hl=>?_⟩
        rw [CZ,h1,if_neg (by omega)];exact f4 lim' hv hl
theorem QK {t:Tsk} {gens:List Swp} (h:Sy t gens):∃ x,BU (⟨t,gens,([]:List ONd),(⟨[]⟩:MapP ByteArray Int),([]:List OEn),0⟩:Ors) t.init 0 (-1) (-1)=some (⟨0⟩,x)∧OI t gens (fun _=>0) 1 (0,x):=by
  have hok:=h.sm.ok
  have one:∀ {α:Type} {a b:α} {i:Nat},[a][i]?=some b→i=0∧b=a:=fun {α a b i} h=>by
    cases i with
    | zero=>simp at h;exact ⟨rfl,h.symm⟩
    | succ i=>simp at h
  have tab0:TabI t.vars [] ([]:List (ByteArray×Int)):=fun y _=>.inl ⟨rfl,fun i n hi=>by simp at hi⟩
  rcases Pf h (x:=(⟨t,gens,([]:List ONd),(⟨[]⟩:MapP ByteArray Int),([]:List OEn),0⟩:Ors)) rfl rfl tab0 (fun j x y _ hx=>by simp [qs] at hx) (by simp) (by simp) (by simp) (by simp) hok.2.2.2.1 0 (-1) (-1) with ⟨i,n,a1,_⟩|⟨i,y,a1,a2,a3,a4,a5,a6,a7,a8,a9⟩
  · simp at a1
  rcases a9 with ⟨rfl,b2,b3⟩|⟨a,b1,_⟩
  case inr=>simp at b1
  dsimp only at a1 a2 a3 a4 a5 a6 a7 a8 b2 b3
  rw [List.nil_append] at b2
  refine ⟨y,a1,⟨⟨a2,a3,a4,a5,by show 0≤y.number;omega⟩,?_,by show y.number≤1;omega,by dsimp only;rw [a7];simp,by simp,by simp⟩⟩
  have hn0:∀ (i:Nat) n,y.nodes[i]?=some n→i=0∧n=⟨cnS t gens t.init,0,-1,-1,wdS t gens t.init,false⟩:=fun i n hi=>by rw [b2] at hi;exact one hi
  have hq0:∀ e,e∈qs y.open_↔e=⟨0,0,((0:Nat):Int),0 + 1⟩:=fun e=>by rw [a8.mem_iff];simp [qs]
  dsimp only
  refine ⟨⟨_,by rw [b2];rfl,rfl,rfl,rfl,rfl,rfl⟩,fun i n hi=>.inl (hn0 i n hi).1,fun i n hi hf=>?_,fun i n hi hf=>?_,fun e he=>?_,fun i n hi hf=>?_,fun i n hi=>?_,fun i n hi hf=>?_,fun i n q hi hf=>?_,by rw [b2];rfl,fun i n hi=>?_,fun hE=>by simp at hE,fun i j n m hi hj _=>by rw [(hn0 i n hi).1,(hn0 j m hj).1]⟩
  · rw [(hn0 i n hi).2] at hf;cases hf
  · rw [(hn0 i n hi).2] at hf;cases hf
  · rw [(hq0 e).1 he]
    exact ⟨0,_,rfl,by rw [b2];rfl,by simp⟩
  · obtain ⟨rfl,rfl⟩:=hn0 i n hi
    exact ⟨_,(hq0 _).2 rfl,rfl,rfl⟩
  · rw [(hn0 i n hi).2]
    simp
  · rw [(hn0 i n hi).2] at hf;cases hf
  · rw [(hn0 i n hi).2] at hf;cases hf
  · rw [(hn0 i n hi).2];exact .init
theorem MX {t:Tsk} {gens:List Swp} (hok:TaskOk t) (hs:∀ x∈gens,SymP t x):rng (ρ:=Rsl×Err) (fun (k50:Nat) (a51:Swp) (s48:Unit)=>bnd (Ct t a51) fun q87=>if q87=true then some (.next ()) else some (.ret ((⟨0,([]:List Int),0,0⟩:Rsl),(⟨2⟩:Err)))) gens 0 ()=some (.done ()):=by
  obtain ⟨⟨⟩,h1,_⟩:=DI (ρ:=Rsl×Err) (f:=fun (k50:Nat) (a51:Swp) (s48:Unit)=>bnd (Ct t a51) fun q87=>if q87=true then some (.next ()) else some (.ret ((⟨0,([]:List Int),0,0⟩:Rsl),(⟨2⟩:Err)))) (xs:=gens) (s₀:=()) (fun _ _=>True) trivial fun k x s hk _=>by
    rw [LC,Am,AU ⟨hok,hs x (List.mem_of_getElem? hk)⟩,Bo]
    exact ⟨(),rfl,trivial⟩
  exact h1
theorem OG {t:Tsk} {gens:List Swp} (h:Sy t gens) (lim:Int):∃ r,Cn t gens lim=some (r,⟨0⟩)∧ResO t gens (max lim 0) r∧(r.verdict≠3→∀ lim',r.expanded≤max lim' 0→Cn t gens lim'=some (r,⟨0⟩)):=by
  have hok:=h.sm.ok
  obtain ⟨x,x1,x2⟩:=QK h
  have unf:∀ l,Cn t gens l=bnd (lop (orbF t (some ⟨t⟩) l) (0,x)) fun res151=>fin res151 fun (_:OT)=>none:=fun l=>by
    rw [JY]
    unfold Cm
    rw [CM.2 hok,Am,if_neg (by simp),MX hok h.sy,Am,BJ,QB hok,Am,if_neg (by simp),x1,Am,if_neg (by simp)]
  obtain ⟨r,f1,f2,f3,f4⟩:=Rg h lim _ _ _ _ x2 (by dsimp only;omega) (Nat.lt_succ_self _)
  refine ⟨r,by rw [unf,f1,Am,Ho],f2,fun hv lim' hl=>?_⟩
  rw [unf,f4 lim' hv hl,Am,Ho]
theorem MY {t:Tsk} {gens:List Swp} (h:Sy t gens) {m:Int} {r:Rsl} (hr:ResO t gens m r) (hm:600≤m):r.verdict≠3∧r.expanded≤((statesL t.vars).length:Int):=by
  obtain ⟨_,_,M,m1,m2,m3,hc⟩:=hr
  have hM:M.length≤(statesL t.vars).length:=Ic m1 fun s hs=>GO.2 (IA h (m3 s hs))
  refine ⟨fun hv=>?_,by omega⟩
  have:=h.sm.many
  rcases hc with h1|h1|⟨_,_,_,h4,_⟩<;>omega
end
section
set_option linter.unusedVariables false
set_option linter.unusedSimpArgs false
open Go Go.RowKit
attribute [local irreducible] ewp owp hwp hwq hws Ev Evg Fn retPost loud loudS Res1
attribute [local irreducible] hwx loudX
noncomputable def Do  : Option Bool :=
  bnd (Cn (⟨([2]:List Int),([0]:List Int),[(⟨0,1⟩:Fct)],[(⟨(⟨#[]⟩:ByteArray),3,([]:List Fct),[(⟨([]:List Fct),0,1⟩:Eff)]⟩:Opr)]⟩:Tsk) ([]:List Swp) 10) fun q48=>bnd (if q48.2.n=0 then (if q48.1.verdict=1 then (if q48.1.cost=3 then (bnd (GM q48.1.plan ([0]:List Int)) fun q88=>if q88=true then some true else some false) else (some false)) else (some false)) else (some false):Option Bool) fun y75=>some y75
theorem HE {w:World} {A:Nat→Prop} (hA:∀ k,A k→k < w.heap.size)  {r:Bool} (hm:Do  = some r) :
    Fn Tryz.prog 11 [] w fun v w'=>Ext w w'∧Vb w' (upA A w w') v r:=by
 obtain ⟨O,hB,h2⟩:=enter hA
 refine AL Tryz.func11 rfl Tryz.ntmps11 rfl ?_
 unfold Do at hm
 refine Al (Aj (Aw rfl rfl (o_z ?_)))
 refine Al (Aj (CB 2 (by decide) O (xs:=(([2]:List Int):List Int)) rfl rfl rfl rfl ⟨(vInt (show inI64 (2) from by decide)),trivial⟩ (by decide) (by decide) rfl fun g1 w2 O3 S4 h5=>?_))
 refine CB 3 (by decide) O3 (xs:=(([0]:List Int):List Int)) rfl rfl rfl rfl ⟨(vInt (show inI64 (0) from by decide)),trivial⟩ (by decide) (by decide) rfl fun g7 w8 O9 l0 m0=>?_
 refine Dc rfl rfl rfl ?_
 refine CB 4 (by decide) O9 (xs:=([(⟨0,1⟩:Fct)]:List Fct)) rfl rfl rfl rfl ⟨(Vb.ofAgg (cs:=[(.int .i64 0),(.int .i64 1)]) (x:=(⟨0,1⟩:Fct)) rfl ⟨rfl,(show inI64 (0) from by decide),(show inI64 (1) from by decide)⟩),trivial⟩ (by decide) (by decide) rfl fun c1 i2 k1 k0 n0=>?_
 refine Dc rfl rfl rfl ?_
 refine CB 5 (by decide) k1 (xs:=([(⟨([]:List Fct),0,1⟩:Eff)]:List Eff)) rfl rfl rfl rfl ⟨(Vb.ofAgg (cs:=[(.slice none 0 0),(.int .i64 0),(.int .i64 1)]) (x:=(⟨([]:List Fct),0,1⟩:Eff)) rfl ⟨_,rfl,(Vb.nil _ _),(show inI64 (0) from by decide),(show inI64 (1) from by decide)⟩),trivial⟩ (by decide) (by decide) rfl fun l1 j2 k2 d0 w0=>?_
 refine Dc rfl rfl rfl ?_
 obtain ⟨m1,e0,w0⟩:=w0.freeze
 refine CB 6 (by decide) m1 (xs:=([(⟨(⟨#[]⟩:ByteArray),3,([]:List Fct),[(⟨([]:List Fct),0,1⟩:Eff)]⟩:Opr)]:List Opr)) rfl rfl rfl rfl ⟨(Vb.ofAgg (cs:=[(.string (⟨#[]⟩:ByteArray)),(.int .i64 3),(.slice none 0 0),(.slice (some ⟨l1,0,none⟩) [(⟨([]:List Fct),0,1⟩:Eff)].length 1)]) (x:=(⟨(⟨#[]⟩:ByteArray),3,([]:List Fct),[(⟨([]:List Fct),0,1⟩:Eff)]⟩:Opr)) rfl ⟨_,_,rfl,(Vb.nil _ _),w0,(show inI64 (3) from by decide),(show (⟨#[]⟩:ByteArray).size≤9223372036854775807 from by decide)⟩),trivial⟩ (by decide) (by decide) rfl fun d1 l2 n1 f0 s0=>?_
 refine Dc rfl rfl rfl ?_
 refine Bg 7 n1 rfl fun o1 m2 p1 b0 t0=>?_
 refine AT t0 rfl rfl rfl (Bj rfl) (allOne rfl) fun q1 c0 t0=>?_
 replace t0:Lc 7 q1 p1 o1 26 [(.slice (some ⟨g1,0,none⟩) ([2]:List Int).length 1),(.slice (some ⟨g7,0,none⟩) ([0]:List Int).length 1),(.slice (some ⟨c1,0,none⟩) [(⟨0,1⟩:Fct)].length 1),(.slice (some ⟨d1,0,none⟩) [(⟨(⟨#[]⟩:ByteArray),3,([]:List Fct),[(⟨([]:List Fct),0,1⟩:Eff)]⟩:Opr)].length 1)]:=t0
 refine o_z ?_
 refine Al (Aj (Bl (hl:=rfl) (hc:=(t0.1).cellsAt) rfl rfl ?_))
 replace h5:=((((((h5.st l0).st k0).st d0).st e0).st f0).st b0).st c0
 obtain ⟨n2,g0,h5⟩:=h5.freeze
 replace m0:=((((((m0.st k0).st d0).st e0).st f0).st b0).st c0).st g0
 obtain ⟨o2,h0,m0⟩:=m0.freeze
 replace n0:=((((((n0.st d0).st e0).st f0).st b0).st c0).st g0).st h0
 obtain ⟨p2,i0,n0⟩:=n0.freeze
 replace s0:=((((s0.st b0).st c0).st g0).st h0).st i0
 obtain ⟨r1,j0,s0⟩:=s0.freeze
 obtain ⟨u0,s1,hm⟩:=bs hm
 replace h5:=((h5.st h0).st i0).st j0
 replace m0:=(m0.st i0).st j0
 replace n0:=n0.st j0
 refine Bu (O:=r1) (R:=fun w' F v=>T2 w' F v u0) (Hb Fr.lt (Vb.ofAgg (cs:=[(.slice (some ⟨g1,0,none⟩) ([2]:List Int).length 1),(.slice (some ⟨g7,0,none⟩) ([0]:List Int).length 1),(.slice (some ⟨c1,0,none⟩) [(⟨0,1⟩:Fct)].length 1),(.slice (some ⟨d1,0,none⟩) [(⟨(⟨#[]⟩:ByteArray),3,([]:List Fct),[(⟨([]:List Fct),0,1⟩:Eff)]⟩:Opr)].length 1)]) (x:=(⟨([2]:List Int),([0]:List Int),[(⟨0,1⟩:Fct)],[(⟨(⟨#[]⟩:ByteArray),3,([]:List Fct),[(⟨([]:List Fct),0,1⟩:Eff)]⟩:Opr)]⟩:Tsk)) rfl ⟨_,_,_,_,rfl,h5,m0,n0,s0⟩) (Vb.nil _ _) (show inI64 (10) from by decide) s1) rfl rfl fun q2 r2 t1 r0 u1=>?_
 obtain ⟨s2,t2,rfl,v1,w1⟩:=u1
 obtain ⟨x1,rfl,u2,rfl,v0,v2,x2,y2⟩:=v1
 obtain ⟨y1,z1,rfl⟩:=v0.form
 obtain ⟨rfl,z2⟩:=w1.err
 refine Ar rfl rfl (CJ rfl rfl rfl (CJ rfl rfl rfl (Bg 8 t1 rfl fun a2 a3 e1 o0 p0=>?_)))
 refine AT p0 rfl rfl rfl (Bj rfl) (allOne rfl) fun b2 q0 p0=>?_
 replace p0:Lc 8 b2 e1 a2 32 [(.int .i64 u0.1.verdict),(.slice y1 u0.1.plan.length z1),(.int .i64 u0.1.cost),(.int .i64 u0.1.expanded)]:=p0
 refine Aw rfl rfl (o_z ?_)
 refine Al ?_
 obtain ⟨c2,a0,hm⟩:=bs hm
 refine AJ (fun l' w'=>∃ (d2:Unit) (O':Lab),subs l' [(0,(.bool c2))]∧Bs w A w' O') ?_ ?_
 ·
  refine Aj (Ar rfl rfl (OY rfl rfl (fun x0=>?_) fun x0=>?_))
  ·
   replace a0:=ip a0 x0
   refine Ar rfl rfl (Au rfl rfl (AK rfl rfl (Au rfl rfl (AF (hc:=Blk.cell (i:=0) (p0.1) rfl) rfl rfl ?_))))
   refine Au rfl rfl (DL rfl rfl rfl (fun y0=>?_) fun y0=>?_)
   ·
    replace a0:=ip a0 y0
    refine Bk rfl rfl rfl (Ar rfl rfl (Au rfl rfl (AK rfl rfl (Au rfl rfl (AF (hc:=Blk.cell (i:=2) (p0.1) rfl) rfl rfl ?_)))))
    refine Au rfl rfl (DL rfl rfl rfl (fun z0=>?_) fun z0=>?_)
    ·
     replace a0:=ip a0 z0
     refine Bk rfl rfl rfl (Ar rfl rfl (Au rfl rfl (AK rfl rfl (Au rfl rfl (AF (hc:=Blk.cell (i:=1) (p0.1) rfl) rfl rfl ?_)))))
     refine Au rfl rfl (CB 9 (by decide) e1 (xs:=(([0]:List Int):List Int)) rfl rfl rfl rfl ⟨(vInt (show inI64 (0) from by decide)),trivial⟩ (by decide) (by decide) rfl fun b3 f1 h1 a1 e2=>?_)
     refine Au rfl rfl ?_
     obtain ⟨i1,f2,a0⟩:=bs a0
     replace v0:=((v0.st o0).st q0).st a1
     refine Bi (O:=h1) (A:=All f1) (R:=fun w' F v=>Vb w' F v i1) (LP (fun _ h=>h) (Vb.mono (F:=Fr 0 f1 h1) v0 Fr.lt) (e2).all f2) rfl rfl fun c3 d3 e3 j1 g2=>?_
     obtain rfl:=g2.bool
     cases i1
     case false =>
      replace a0:=iF a0
      refine Bk rfl rfl rfl (Aw rfl rfl (o_z ?_))
      obtain rfl:=sm a0
      exact ⟨(),_,⟨rfl,trivial⟩,((((((((((((((((hB.st S4).st l0).st k0).st d0).st e0).st f0).st b0).st c0).st g0).st h0).st i0).st j0).st r0).st o0).st q0).st a1).st j1⟩
     replace a0:=iT a0
     refine Bk rfl rfl rfl (Aw rfl rfl (o_z ?_))
     obtain rfl:=sm a0
     exact ⟨(),_,⟨rfl,trivial⟩,((((((((((((((((hB.st S4).st l0).st k0).st d0).st e0).st f0).st b0).st c0).st g0).st h0).st i0).st j0).st r0).st o0).st q0).st a1).st j1⟩
    replace a0:=im a0 z0
    refine Bk rfl rfl rfl (Ar rfl rfl (At rfl rfl rfl rfl (At rfl rfl rfl rfl (At rfl rfl rfl rfl (At rfl rfl rfl rfl (Bf rfl rfl rfl (Aw rfl rfl (o_z ?_))))))))
    obtain rfl:=sm a0
    exact ⟨(),_,⟨rfl,trivial⟩,((((((((((((((hB.st S4).st l0).st k0).st d0).st e0).st f0).st b0).st c0).st g0).st h0).st i0).st j0).st r0).st o0).st q0⟩
   replace a0:=im a0 y0
   refine Bk rfl rfl rfl (Ar rfl rfl (At rfl rfl rfl rfl (At rfl rfl rfl rfl (At rfl rfl rfl rfl (Bf rfl rfl rfl (Ar rfl rfl (At rfl rfl rfl rfl (At rfl rfl rfl rfl (At rfl rfl rfl rfl (At rfl rfl rfl rfl (Bf rfl rfl rfl (Aw rfl rfl (o_z ?_)))))))))))))
   obtain rfl:=sm a0
   exact ⟨(),_,⟨rfl,trivial⟩,((((((((((((((hB.st S4).st l0).st k0).st d0).st e0).st f0).st b0).st c0).st g0).st h0).st i0).st j0).st r0).st o0).st q0⟩
  replace a0:=im a0 x0
  refine Ar rfl rfl (At rfl rfl rfl rfl (At rfl rfl rfl rfl (At rfl rfl rfl rfl (Bf rfl rfl rfl (Ar rfl rfl (At rfl rfl rfl rfl (At rfl rfl rfl rfl (At rfl rfl rfl rfl (Bf rfl rfl rfl (Ar rfl rfl (At rfl rfl rfl rfl (At rfl rfl rfl rfl (At rfl rfl rfl rfl (At rfl rfl rfl rfl ?_))))))))))))))
  refine Bf rfl rfl rfl (Aw rfl rfl (o_z ?_))
  obtain rfl:=sm a0
  exact ⟨(),_,⟨rfl,trivial⟩,((((((((((((((hB.st S4).st l0).st k0).st d0).st e0).st f0).st b0).st c0).st g0).st h0).st i0).st j0).st r0).st o0).st q0⟩
 replace hB:=((((((((((((((hB.st S4).st l0).st k0).st d0).st e0).st f0).st b0).st c0).st g0).st h0).st i0).st j0).st r0).st o0).st q0
 rintro f3 g3 ⟨d2,h3,b1,hB⟩
 refine AN _ b1 ?_
 refine AH ?_
 obtain rfl:=sm hm
 exact ret1v rfl (AD rfl) ⟨hB.ext,vBool⟩
noncomputable def Ez (x0:Tsk) (x1:List Swp):Option Bool :=
  if 12 < (x1.length:Int) then (some false) else (bnd (rng (ρ:=Bool) (fun (k36:Nat) (a37:Swp) (s34:Unit)=>bnd (DG x0 a37) fun q73=>if q73=true then some (.next ()) else some (.ret false)) x1 0 ()) fun res32=>fin res32 fun (s84:Unit)=>some true)
theorem KL {w:World} {A:Nat→Prop} (hA:∀ k,A k→k < w.heap.size) {vx0:Value} {x0:Tsk} (e1:Vb w A vx0 x0) {vx1:Value} {x1:List Swp} (b0:Vb w A vx1 x1) {r:Bool} (hm:Ez x0 x1=some r) :
    Fn Tryz.prog 10 [vx0,vx1] w fun v w'=>Ext w w'∧Vb w' (upA A w w') v r:=by
 obtain ⟨O,hB,o1⟩:=enter hA
 replace e1:=e1.mono o1
 obtain ⟨j2,rfl,v4,v5,v6,v7,rfl,h8,e0,f0,g0⟩:=e1
 obtain ⟨A9,p0,rfl⟩:=h8.form
 obtain ⟨q0,r0,rfl⟩:=e0.form
 obtain ⟨s0,t0,rfl⟩:=f0.form
 obtain ⟨u0,v0,rfl⟩:=g0.form
 replace b0:=b0.mono o1
 obtain ⟨p1,q1,rfl⟩:=b0.form
 refine AL Tryz.func10 rfl Tryz.ntmps10 rfl ?_
 unfold Ez at hm
 refine Al (Aj (BL 2 O rfl rfl fun f1 a2 r1 i0 h0=>?_))
 replace h0:Lc 2 a2 r1 f1 26 [(.slice A9 x0.vars.length p0),(.slice q0 x0.init.length r0),(.slice s0 x0.goal.length t0),(.slice u0 x0.ops.length v0)]:=h0
 refine Aw rfl rfl (o_z ?_)
 refine Al (Al (Aj (Ar rfl rfl (AZ rfl rfl ?_))))
 replace b0:=b0.st i0
 have b2:x1.length≤9223372036854775807:=Nat.le_trans b0.len.2.1 b0.len.2.2
 have k2:inI64 (x1.length:Int):=rngNat b2
 refine Cu rfl rfl rfl (fun g1=>?_) fun g1=>?_
 ·
  replace hm:=ip hm g1
  refine o_z ?_
  refine Ah rfl (Al (Aj (Aw rfl rfl (o_z ?_))))
  refine AH ?_
  obtain rfl:=sm hm
  replace hB:=hB.st i0
  exact ret1v rfl (AD rfl) ⟨hB.ext,vBool⟩
 replace hm:=im hm g1
 refine o_z ?_
 refine Ae rfl (AO (Al (Al (Aj (Ar rfl rfl (AZ rfl rfl ?_))))))
 have h1:x1.length≤9223372036854775807:=Nat.le_trans b0.len.2.1 b0.len.2.2
 have l2:inI64 (x1.length:Int):=rngNat h1
 refine Ar rfl rfl (o_z ?_)
 obtain ⟨m0,i1,hm⟩:=bs hm
 refine AJ (aft m0 (fun (w0:Unit) (y0:Unit)=>[]) (fun w0 y0 w'=>∃ O':Lab,Bs w A w' O')) ?_ ?_
 ·
  refine AX ?_
  replace hB:=hB.st i0
  replace h8:=h8.st i0
  replace e0:=e0.st i0
  replace f0:=f0.st i0
  replace g0:=g0.st i0
  refine Bw (σ:=Unit) (X:=Unit) (x1.length) i1 rfl h1 (fun (w0:Unit) (y0:Unit)=>[(2,(.pointer (some ⟨f1,0,none⟩))),(10,(.slice p1 x1.length q1))]) _ (fun w0 y0 w'=>∃ O':Lab,Bs w A w' O'∧Lc 2 w' O' f1 26 [(.slice A9 x0.vars.length p0),(.slice q0 x0.init.length r0),(.slice s0 x0.goal.length t0),(.slice u0 x0.ops.length v0)]∧Vb w' (Fr 0 w' O') (.slice A9 x0.vars.length p0) x0.vars∧Vb w' (Fr 0 w' O') (.slice q0 x0.init.length r0) x0.init∧Vb w' (Fr 0 w' O') (.slice s0 x0.goal.length t0) x0.goal∧Vb w' (Fr 0 w' O') (.slice u0 x0.ops.length v0) x0.ops∧Vb w' (Fr 0 w' O') (.slice p1 x1.length q1) x1) _ () ⟨r1,hB,h0,h8,e0,f0,g0,b0⟩ ⟨rfl,rfl,rfl,rfl,trivial⟩ (fun _ _=>⟨rfl,rfl⟩) (fun _ _=>trivial) (fun _ _ _ ⟨O',hB,h0,h8,e0,f0,g0,b0⟩=>⟨O',hB⟩) ⟨rfl,rfl,rfl⟩ ⟨rfl,rfl⟩ ?_
  rintro c2 k0 w0 y0 m2 d2 n0 ⟨e2,hB,h0,h8,e0,f0,g0,b0⟩ a0 l0 j1
  have rk36:inI64 (c2:Int):=rngK n0 h1
  refine Al (Aj ?_)
  obtain ⟨n2,o2,f2,k1,l1,m1,p2,q2,r2,rfl,z0,a1,b1⟩:=b0.elem' n0
  obtain ⟨s1,t1,rfl⟩:=z0.form
  obtain ⟨u1,v1,rfl⟩:=a1.form
  obtain ⟨w1,y1,rfl⟩:=b1.form
  refine BA (hA:=k1) (hj:=rfl) (hlt:=l1) rfl rfl rfl ?_
  refine Bl (hl:=rfl) (hc:=m1) rfl rfl ?_
  refine Bg 3 e2 rfl fun g2 s2 c1 c0 o0=>?_
  refine AT o0 rfl rfl rfl (Bj rfl) (allOne rfl) fun d1 d0 o0=>?_
  replace o0:Lc 3 d1 c1 g2 53 [(.slice s1 k0.vars.length t1),(.slice u1 k0.vals.length v1),(.slice w1 k0.ops.length y1)]:=o0
  refine o_z ?_
  refine Al (Aj ?_)
  replace h0:=(h0.st c0).st d0
  refine Bl (hl:=rfl) (hc:=(h0.1).cellsAt) rfl rfl ?_
  refine Bl (hl:=rfl) (hc:=(o0.1).cellsAt) rfl rfl ?_
  obtain ⟨z1,h2,a0⟩:=bs a0
  replace h8:=(h8.st c0).st d0
  replace e0:=(e0.st c0).st d0
  replace f0:=(f0.st c0).st d0
  replace g0:=(g0.st c0).st d0
  replace z0:=(z0.st c0).st d0
  replace a1:=(a1.st c0).st d0
  replace b1:=(b1.st c0).st d0
  refine Bi (O:=c1) (A:=All d1) (R:=fun w' F v=>Vb w' F v z1) (KH (fun _ h=>h) (Vb.mono (F:=Fr 0 d1 c1) (Vb.ofAgg (cs:=[(.slice A9 x0.vars.length p0),(.slice q0 x0.init.length r0),(.slice s0 x0.goal.length t0),(.slice u0 x0.ops.length v0)]) (x:=x0) rfl ⟨_,_,_,_,rfl,h8,e0,f0,g0⟩) Fr.lt) (Vb.mono (F:=Fr 0 d1 c1) (Vb.ofAgg (cs:=[(.slice s1 k0.vars.length t1),(.slice u1 k0.vals.length v1),(.slice w1 k0.ops.length y1)]) (x:=k0) rfl ⟨_,_,_,rfl,z0,a1,b1⟩) Fr.lt) h2) rfl rfl fun t2 u2 v2 j0 i2=>?_
  obtain rfl:=i2.bool
  cases z1
  case false =>
   replace a0:=iF a0
   refine Ce rfl rfl (o_z ?_)
   refine Ah rfl (Al (Aj (Aw rfl rfl (o_z ?_))))
   refine AH ?_
   obtain rfl:=sm a0
   obtain rfl:=l0 _ rfl
   obtain rfl:=sm (BO hm)
   replace hB:=((hB.st c0).st d0).st j0
   exact ret1v rfl (AD rfl) ⟨hB.ext,vBool⟩
  replace a0:=iT a0
  refine Cd rfl rfl (o_z ?_)
  refine Ae rfl (AO ?_)
  obtain rfl:=sm a0
  exact show Exists _ from ⟨_,(),rfl,⟨rfl,rfl,rfl,rfl,trivial⟩,_,((hB.st c0).st d0).st j0,h0.st j0,h8.st j0,e0.st j0,f0.st j0,g0.st j0,((b0.st c0).st d0).st j0⟩
 replace hB:=hB.st i0
 rintro w2 x2 ⟨y2,z2,rfl,n1,a3,hB⟩
 replace hm:=Bh hm
 refine AN _ n1 ?_
 refine Al (Aj (Aw rfl rfl (o_z ?_)))
 refine AH ?_
 obtain rfl:=sm hm
 exact ret1v rfl (AD rfl) ⟨hB.ext,vBool⟩
noncomputable def DD (x0:Tsk) (x1:List Swp):Option Bool :=
  bnd (if 70 < (x0.vars.length:Int) then (some true) else (if 20 < (x0.ops.length:Int) then (some true) else (if 12 < (x1.length:Int) then (some true) else (bnd (Do) fun q40=>if q40=true then some false else some true))):Option Bool) fun y27=>if y27=true then (bnd (bnd (Do) fun q56=>if q56=true then some true else some false:Option Bool) fun y52=>some y52) else (bnd (Ex x0) fun q67=>bnd (bnd (if q67=0 then (bnd (Ez x0 x1) fun q85=>if q85=true then some false else some true) else (some false):Option Bool) fun y80=>if y80=true then (some 2) else (some q67):Option Int) fun y75=>if y75=0 then (some true) else (bnd (Cn x0 x1 10) fun q102=>bnd (bnd (Gc (⟨q102.2.n⟩:Err)) fun q133=>if q133=y75 then (if q102.1.verdict=0 then (if (q102.1.plan.length:Int)=0 then (if q102.1.cost=0 then (if q102.1.expanded=0 then (some true) else (some false)) else (some false)) else (some false)) else (some false)) else (some false):Option Bool) fun y129=>some y129))
theorem HJ {w:World} {A:Nat→Prop} (hA:∀ k,A k→k < w.heap.size) {vx0:Value} {x0:Tsk} (q1:Vb w A vx0 x0) {vx1:Value} {x1:List Swp} (c0:Vb w A vx1 x1) {r:Bool} (hm:DD x0 x1=some r) :
    Fn Tryz.prog 8 [vx0,vx1] w fun v w'=>Ext w w'∧Vb w' (upA A w w') v r:=by
 obtain ⟨O,hB,u2⟩:=enter hA
 replace q1:=q1.mono u2
 obtain ⟨p4,rfl,v4,v5,v6,v7,rfl,h8,i0,j0,d0⟩:=q1
 obtain ⟨A9,v0,rfl⟩:=h8.form
 obtain ⟨w0,y0,rfl⟩:=i0.form
 obtain ⟨z0,a1,rfl⟩:=j0.form
 obtain ⟨b1,c1,rfl⟩:=d0.form
 replace c0:=c0.mono u2
 obtain ⟨k1,l1,rfl⟩:=c0.form
 refine AL Tryz.func8 rfl Tryz.ntmps8 rfl ?_
 unfold DD at hm
 refine Al (Aj (BL 2 O rfl rfl fun d1 v2 w2 f0 h0=>?_))
 replace h0:Lc 2 v2 w2 d1 26 [(.slice A9 x0.vars.length v0),(.slice w0 x0.init.length y0),(.slice z0 x0.goal.length a1),(.slice b1 x0.ops.length c1)]:=h0
 refine Aw rfl rfl (o_z ?_)
 refine Al (Al ?_)
 obtain ⟨e3,b0,hm⟩:=bs hm
 refine AJ (fun l' w'=>∃ (f3:Unit) (O':Lab),subs l' [(1,(.slice k1 x1.length l1)),(2,(.pointer (some ⟨d1,0,none⟩))),(26,(.bool e3))]∧Bs w A w' O'∧Vb w' (Fr 0 w' O') (.slice k1 x1.length l1) x1∧Lc 2 w' O' d1 26 [(.slice A9 x0.vars.length v0),(.slice w0 x0.init.length y0),(.slice z0 x0.goal.length a1),(.slice b1 x0.ops.length c1)]∧Vb w' (Fr 0 w' O') (.slice A9 x0.vars.length v0) x0.vars∧Vb w' (Fr 0 w' O') (.slice w0 x0.init.length y0) x0.init∧Vb w' (Fr 0 w' O') (.slice z0 x0.goal.length a1) x0.goal∧Vb w' (Fr 0 w' O') (.slice b1 x0.ops.length c1) x0.ops) ?_ ?_
 ·
  refine Aj (AK rfl rfl (AF (hc:=Blk.cell (i:=0) (h0.1) rfl) rfl rfl ?_))
  refine AZ rfl rfl ?_
  replace h8:=h8.st f0
  have g3:x0.vars.length≤9223372036854775807:=Nat.le_trans h8.len.2.1 h8.len.2.2
  have q4:inI64 (x0.vars.length:Int):=rngNat g3
  refine Cu rfl rfl rfl (fun r1=>?_) fun r1=>?_
  ·
   replace b0:=ip b0 r1
   refine Ar rfl rfl (At rfl rfl rfl rfl (At rfl rfl rfl rfl (At rfl rfl rfl rfl (At rfl rfl rfl rfl (Bk rfl rfl rfl (Ar rfl rfl (At rfl rfl rfl rfl (At rfl rfl rfl rfl (At rfl rfl rfl rfl (Bk rfl rfl rfl (Ar rfl rfl (At rfl rfl rfl rfl (At rfl rfl rfl rfl (Bk rfl rfl rfl ?_))))))))))))))
   refine o_z ?_
   obtain rfl:=sm b0
   exact ⟨(),_,⟨rfl,rfl,rfl,trivial⟩,hB.st f0,c0.st f0,h0,h8,i0.st f0,j0.st f0,d0.st f0⟩
  replace b0:=im b0 r1
  refine Ar rfl rfl (Au rfl rfl (AK rfl rfl (Au rfl rfl (AF (hc:=Blk.cell (i:=3) (h0.1) rfl) rfl rfl ?_))))
  refine Au rfl rfl (AZ rfl rfl ?_)
  replace d0:=d0.st f0
  have h3:x0.ops.length≤9223372036854775807:=Nat.le_trans d0.len.2.1 d0.len.2.2
  have r4:inI64 (x0.ops.length:Int):=rngNat h3
  refine Au rfl rfl (Cu rfl rfl rfl (fun s1=>?_) fun s1=>?_)
  ·
   replace b0:=ip b0 s1
   refine Bf rfl rfl rfl (Ar rfl rfl (At rfl rfl rfl rfl (At rfl rfl rfl rfl (At rfl rfl rfl rfl (Bk rfl rfl rfl (Ar rfl rfl (At rfl rfl rfl rfl (At rfl rfl rfl rfl (Bk rfl rfl rfl (o_z ?_))))))))))
   obtain rfl:=sm b0
   exact ⟨(),_,⟨rfl,rfl,rfl,trivial⟩,hB.st f0,c0.st f0,h0,h8,i0.st f0,j0.st f0,d0⟩
  replace b0:=im b0 s1
  refine Bf rfl rfl rfl (Ar rfl rfl (Au rfl rfl (Ar rfl rfl (Au rfl rfl (AZ rfl rfl ?_)))))
  replace c0:=c0.st f0
  have i3:x1.length≤9223372036854775807:=Nat.le_trans c0.len.2.1 c0.len.2.2
  have s4:inI64 (x1.length:Int):=rngNat i3
  refine Au rfl rfl (Cu rfl rfl rfl (fun t1=>?_) fun t1=>?_)
  ·
   replace b0:=ip b0 t1
   refine Bf rfl rfl rfl (Ar rfl rfl (At rfl rfl rfl rfl (At rfl rfl rfl rfl (Bk rfl rfl rfl (o_z ?_)))))
   obtain rfl:=sm b0
   exact ⟨(),_,⟨rfl,rfl,rfl,trivial⟩,hB.st f0,c0,h0,h8,i0.st f0,j0.st f0,d0⟩
  replace b0:=im b0 t1
  refine Bf rfl rfl rfl (Ar rfl rfl (Au rfl rfl ?_))
  obtain ⟨x2,j3,b0⟩:=bs b0
  refine Bi (O:=w2) (A:=All v2) (R:=fun w' F v=>Vb w' F v x2) (HE (fun _ h=>h)  j3) rfl rfl fun t4 u4 w4 s0 k3=>?_
  obtain rfl:=k3.bool
  cases x2
  case false =>
   replace b0:=iF b0
   refine Au rfl rfl (Ce rfl rfl (Bf rfl rfl rfl (o_z ?_)))
   obtain rfl:=sm b0
   exact ⟨(),_,⟨rfl,rfl,rfl,trivial⟩,(hB.st f0).st s0,c0.st s0,h0.st s0,h8.st s0,(i0.st f0).st s0,(j0.st f0).st s0,d0.st s0⟩
  replace b0:=iT b0
  refine Au rfl rfl (Cd rfl rfl (Bf rfl rfl rfl (o_z ?_)))
  obtain rfl:=sm b0
  exact ⟨(),_,⟨rfl,rfl,rfl,trivial⟩,(hB.st f0).st s0,c0.st s0,h0.st s0,h8.st s0,(i0.st f0).st s0,(j0.st f0).st s0,d0.st s0⟩
 replace hB:=hB.st f0
 replace c0:=c0.st f0
 replace h8:=h8.st f0
 replace i0:=i0.st f0
 replace j0:=j0.st f0
 replace d0:=d0.st f0
 rintro x4 u1 ⟨f3,v1,w1,hB,c0,h0,h8,i0,j0,d0⟩
 refine AN _ w1 ?_
 refine BP rfl (fun y1=>?_) (fun y1=>?_)
 ·
  replace hm:=ip hm y1
  refine Al ?_
  obtain ⟨l3,l0,hm⟩:=bs hm
  refine AJ (fun l' w'=>∃ (m3:Unit) (O':Lab),subs l' [(4,(.bool l3))]∧Bs w A w' O') ?_ ?_
  ·
   refine Aj ?_
   obtain ⟨y2,n3,l0⟩:=bs l0
   refine Bi (O:=v1) (A:=All u1) (R:=fun w' F v=>Vb w' F v y2) (HE (fun _ h=>h)  n3) rfl rfl fun y4 z4 a5 z2 o3=>?_
   obtain rfl:=o3.bool
   cases y2
   case false =>
    replace l0:=iF l0
    refine Aw rfl rfl (o_z ?_)
    obtain rfl:=sm l0
    exact ⟨(),_,⟨rfl,trivial⟩,hB.st z2⟩
   replace l0:=iT l0
   refine Aw rfl rfl (o_z ?_)
   obtain rfl:=sm l0
   exact ⟨(),_,⟨rfl,trivial⟩,hB.st z2⟩
  rintro b5 c5 ⟨m3,d5,z1,hB⟩
  refine AN _ z1 ?_
  refine AH ?_
  obtain rfl:=sm hm
  exact ret1v rfl (AD rfl) ⟨hB.ext,vBool⟩
 replace hm:=im' hm y1
 refine AO (Al (Aj (Bl (hl:=rfl) (hc:=(h0.1).cellsAt) rfl rfl ?_)))
 obtain ⟨a3,p3,hm⟩:=bs hm
 refine Bi (O:=v1) (A:=All u1) (R:=fun w' F v=>Vb w' F v a3) (KJ (fun _ h=>h) (Vb.mono (F:=Fr 0 u1 v1) (Vb.ofAgg (cs:=[(.slice A9 x0.vars.length v0),(.slice w0 x0.init.length y0),(.slice z0 x0.goal.length a1),(.slice b1 x0.ops.length c1)]) (x:=x0) rfl ⟨_,_,_,_,rfl,h8,i0,j0,d0⟩) Fr.lt) p3) rfl rfl fun e5 a2 b2 e0 q3=>?_
 obtain ⟨rfl,r3⟩:=q3.int
 refine Aw rfl rfl (o_z ?_)
 refine Al ?_
 obtain ⟨b3,m0,hm⟩:=bs hm
 refine AJ (fun l' w'=>∃ (s3:Unit) (O':Lab),subs l' [(1,(.slice k1 x1.length l1)),(2,(.pointer (some ⟨d1,0,none⟩))),(5,(.int .i64 b3))]∧Bs w A w' O'∧Vb w' (Fr 0 w' O') (.slice k1 x1.length l1) x1∧Lc 2 w' O' d1 26 [(.slice A9 x0.vars.length v0),(.slice w0 x0.init.length y0),(.slice z0 x0.goal.length a1),(.slice b1 x0.ops.length c1)]∧Vb w' (Fr 0 w' O') (.slice A9 x0.vars.length v0) x0.vars∧Vb w' (Fr 0 w' O') (.slice w0 x0.init.length y0) x0.init∧Vb w' (Fr 0 w' O') (.slice z0 x0.goal.length a1) x0.goal∧Vb w' (Fr 0 w' O') (.slice b1 x0.ops.length c1) x0.ops∧inI64 b3) ?_ ?_
 ·
  refine Al ?_
  obtain ⟨t3,g0,m0⟩:=bs m0
  refine AJ (fun l' w'=>∃ (u3:Unit) (O':Lab),subs l' [(1,(.slice k1 x1.length l1)),(2,(.pointer (some ⟨d1,0,none⟩))),(5,(.int .i64 a3)),(37,(.bool t3))]∧Bs w A w' O'∧Vb w' (Fr 0 w' O') (.slice k1 x1.length l1) x1∧Lc 2 w' O' d1 26 [(.slice A9 x0.vars.length v0),(.slice w0 x0.init.length y0),(.slice z0 x0.goal.length a1),(.slice b1 x0.ops.length c1)]∧Vb w' (Fr 0 w' O') (.slice A9 x0.vars.length v0) x0.vars∧Vb w' (Fr 0 w' O') (.slice w0 x0.init.length y0) x0.init∧Vb w' (Fr 0 w' O') (.slice z0 x0.goal.length a1) x0.goal∧Vb w' (Fr 0 w' O') (.slice b1 x0.ops.length c1) x0.ops) ?_ ?_
  ·
   refine Aj (Ar rfl rfl (DL rfl rfl rfl (fun c2=>?_) fun c2=>?_))
   ·
    replace g0:=ip g0 c2
    refine Ar rfl rfl (Au rfl rfl ?_)
    replace h0:=h0.st e0
    refine Bl (hl:=rfl) (hc:=(h0.1).cellsAt) rfl rfl ?_
    refine Au rfl rfl (Ar rfl rfl (Au rfl rfl ?_))
    obtain ⟨c3,v3,g0⟩:=bs g0
    replace c0:=c0.st e0
    replace h8:=h8.st e0
    replace i0:=i0.st e0
    replace j0:=j0.st e0
    replace d0:=d0.st e0
    refine Bi (O:=b2) (A:=All a2) (R:=fun w' F v=>Vb w' F v c3) (KL (fun _ h=>h) (Vb.mono (F:=Fr 0 a2 b2) (Vb.ofAgg (cs:=[(.slice A9 x0.vars.length v0),(.slice w0 x0.init.length y0),(.slice z0 x0.goal.length a1),(.slice b1 x0.ops.length c1)]) (x:=x0) rfl ⟨_,_,_,_,rfl,h8,i0,j0,d0⟩) Fr.lt) (Vb.mono (F:=Fr 0 a2 b2) c0 Fr.lt) v3) rfl rfl fun f5 g5 h5 t0 w3=>?_
    obtain rfl:=w3.bool
    cases c3
    case false =>
     replace g0:=iF g0
     refine Au rfl rfl (Ce rfl rfl (Bk rfl rfl rfl (o_z ?_)))
     obtain rfl:=sm g0
     exact ⟨(),_,⟨rfl,rfl,rfl,rfl,trivial⟩,(hB.st e0).st t0,c0.st t0,h0.st t0,h8.st t0,i0.st t0,j0.st t0,d0.st t0⟩
    replace g0:=iT g0
    refine Au rfl rfl (Cd rfl rfl (Bk rfl rfl rfl (o_z ?_)))
    obtain rfl:=sm g0
    exact ⟨(),_,⟨rfl,rfl,rfl,rfl,trivial⟩,(hB.st e0).st t0,c0.st t0,h0.st t0,h8.st t0,i0.st t0,j0.st t0,d0.st t0⟩
   replace g0:=im g0 c2
   refine Ar rfl rfl (At rfl rfl rfl rfl (At rfl rfl rfl rfl (At rfl rfl rfl rfl (At rfl rfl rfl rfl (Bf rfl rfl rfl (o_z ?_))))))
   obtain rfl:=sm g0
   exact ⟨(),_,⟨rfl,rfl,rfl,rfl,trivial⟩,hB.st e0,c0.st e0,h0.st e0,h8.st e0,i0.st e0,j0.st e0,d0.st e0⟩
  replace hB:=hB.st e0
  replace c0:=c0.st e0
  replace h8:=h8.st e0
  replace i0:=i0.st e0
  replace j0:=j0.st e0
  replace d0:=d0.st e0
  replace h0:=h0.st e0
  rintro i5 j5 ⟨u3,k5,d2,hB,c0,h0,h8,i0,j0,d0⟩
  refine AN _ d2 ?_
  refine BP rfl (fun e2=>?_) (fun e2=>?_)
  ·
   replace m0:=ip m0 e2
   refine Aj (Aw rfl rfl (o_z ?_))
   obtain rfl:=sm m0
   exact ⟨(),_,⟨rfl,rfl,rfl,trivial⟩,hB,c0,h0,h8,i0,j0,d0,(show inI64 (2) from by decide)⟩
  replace m0:=im' m0 e2
  refine AO ?_
  obtain rfl:=sm m0
  exact ⟨(),_,⟨rfl,rfl,rfl,trivial⟩,hB,c0,h0,h8,i0,j0,d0,r3⟩
 replace hB:=hB.st e0
 replace c0:=c0.st e0
 replace h8:=h8.st e0
 replace i0:=i0.st e0
 replace j0:=j0.st e0
 replace d0:=d0.st e0
 replace h0:=h0.st e0
 rintro l5 m5 ⟨s3,x3,m1,hB,c0,h0,h8,i0,j0,d0,n5⟩
 refine AN _ m1 ?_
 refine Al (Al (Aj (Ar rfl rfl (DL rfl rfl rfl (fun e1=>?_) fun e1=>?_))))
 ·
  replace hm:=ip hm e1
  refine o_z ?_
  refine Ah rfl (Al (Aj (Aw rfl rfl (o_z ?_))))
  refine AH ?_
  obtain rfl:=sm hm
  exact ret1v rfl (AD rfl) ⟨hB.ext,vBool⟩
 replace hm:=im hm e1
 refine o_z ?_
 refine Ae rfl (AO (Al (Aj (Bl (hl:=rfl) (hc:=(h0.1).cellsAt) rfl rfl ?_))))
 refine Ar rfl rfl ?_
 obtain ⟨q0,f2,hm⟩:=bs hm
 refine Bu (O:=x3) (R:=fun w' F v=>T2 w' F v q0) (Hb Fr.lt (Vb.ofAgg (cs:=[(.slice A9 x0.vars.length v0),(.slice w0 x0.init.length y0),(.slice z0 x0.goal.length a1),(.slice b1 x0.ops.length c1)]) (x:=x0) rfl ⟨_,_,_,_,rfl,h8,i0,j0,d0⟩) c0 (show inI64 (10) from by decide) f2) rfl rfl fun y3 z3 g2 r0 h2=>?_
 obtain ⟨a4,b4,rfl,i2,j2⟩:=h2
 obtain ⟨d3,rfl,c4,rfl,u0,d4,e4,f4⟩:=i2
 obtain ⟨k2,l2,rfl⟩:=u0.form
 obtain ⟨rfl,m2⟩:=j2.err
 refine Ar rfl rfl (CJ rfl rfl rfl (CJ rfl rfl rfl (Bg 3 g2 rfl fun n2 g4 n1 n0 k0=>?_)))
 refine AT k0 rfl rfl rfl (Bj rfl) (allOne rfl) fun o1 o0 k0=>?_
 replace k0:Lc 3 o1 n1 n2 32 [(.int .i64 q0.1.verdict),(.slice k2 q0.1.plan.length l2),(.int .i64 q0.1.cost),(.int .i64 q0.1.expanded)]:=k0
 refine Aw rfl rfl (o_z ?_)
 refine Al ?_
 obtain ⟨o2,a0,hm⟩:=bs hm
 refine AJ (fun l' w'=>∃ (p2:Unit) (O':Lab),subs l' [(4,(.bool o2))]∧Bs w A w' O') ?_ ?_
 ·
  refine Aj (Ar rfl rfl ?_)
  obtain ⟨q2,r2,a0⟩:=bs a0
  refine Bi (O:=n1) (A:=All o1) (R:=fun w' F v=>Vb w' F v q2) (MJ (fun _ h=>h) m2 r2) rfl rfl fun h4 i4 j4 p0 s2=>?_
  obtain ⟨rfl,k4⟩:=s2.int
  refine Ar rfl rfl (DL rfl rfl rfl (fun f1=>?_) fun f1=>?_)
  ·
   replace a0:=ip a0 f1
   refine Ar rfl rfl (Au rfl rfl (AK rfl rfl (Au rfl rfl ?_)))
   replace k0:=k0.st p0
   refine AF (hc:=Blk.cell (i:=0) (k0.1) rfl) rfl rfl ?_
   refine Au rfl rfl (DL rfl rfl rfl (fun g1=>?_) fun g1=>?_)
   ·
    replace a0:=ip a0 g1
    refine Bk rfl rfl rfl (Ar rfl rfl (Au rfl rfl (AK rfl rfl (Au rfl rfl (AF (hc:=Blk.cell (i:=1) (k0.1) rfl) rfl rfl ?_)))))
    refine Au rfl rfl (AZ rfl rfl ?_)
    replace u0:=((u0.st n0).st o0).st p0
    have t2:q0.1.plan.length≤9223372036854775807:=Nat.le_trans u0.len.2.1 u0.len.2.2
    have l4:inI64 (q0.1.plan.length:Int):=rngNat t2
    refine Au rfl rfl (DL rfl rfl rfl (fun h1=>?_) fun h1=>?_)
    ·
     replace a0:=ip a0 h1
     refine Bk rfl rfl rfl (Ar rfl rfl (Au rfl rfl (AK rfl rfl (Au rfl rfl (AF (hc:=Blk.cell (i:=2) (k0.1) rfl) rfl rfl ?_)))))
     refine Au rfl rfl (DL rfl rfl rfl (fun i1=>?_) fun i1=>?_)
     ·
      replace a0:=ip a0 i1
      refine Bk rfl rfl rfl (Ar rfl rfl (Au rfl rfl (AK rfl rfl (Au rfl rfl (AF (hc:=Blk.cell (i:=3) (k0.1) rfl) rfl rfl ?_)))))
      refine Au rfl rfl (DL rfl rfl rfl (fun j1=>?_) fun j1=>?_)
      ·
       replace a0:=ip a0 j1
       refine Bk rfl rfl rfl (Aw rfl rfl (o_z ?_))
       obtain rfl:=sm a0
       exact ⟨(),_,⟨rfl,trivial⟩,(((hB.st r0).st n0).st o0).st p0⟩
      replace a0:=im a0 j1
      refine Bk rfl rfl rfl (Aw rfl rfl (o_z ?_))
      obtain rfl:=sm a0
      exact ⟨(),_,⟨rfl,trivial⟩,(((hB.st r0).st n0).st o0).st p0⟩
     replace a0:=im a0 i1
     refine Bk rfl rfl rfl (Ar rfl rfl (At rfl rfl rfl rfl (At rfl rfl rfl rfl (At rfl rfl rfl rfl (Bf rfl rfl rfl (Aw rfl rfl (o_z ?_)))))))
     obtain rfl:=sm a0
     exact ⟨(),_,⟨rfl,trivial⟩,(((hB.st r0).st n0).st o0).st p0⟩
    replace a0:=im a0 h1
    refine Bk rfl rfl rfl (Ar rfl rfl (At rfl rfl rfl rfl (At rfl rfl rfl rfl (At rfl rfl rfl rfl (Bf rfl rfl rfl (Ar rfl rfl (At rfl rfl rfl rfl (At rfl rfl rfl rfl (At rfl rfl rfl rfl (Bf rfl rfl rfl (Aw rfl rfl (o_z ?_))))))))))))
    obtain rfl:=sm a0
    exact ⟨(),_,⟨rfl,trivial⟩,(((hB.st r0).st n0).st o0).st p0⟩
   replace a0:=im a0 g1
   refine Bk rfl rfl rfl (Ar rfl rfl (At rfl rfl rfl rfl (At rfl rfl rfl rfl (At rfl rfl rfl rfl (At rfl rfl rfl rfl (Bf rfl rfl rfl (Ar rfl rfl (At rfl rfl rfl rfl (At rfl rfl rfl rfl (At rfl rfl rfl rfl (Bf rfl rfl rfl (Ar rfl rfl (At rfl rfl rfl rfl (At rfl rfl rfl rfl ?_))))))))))))))
   refine At rfl rfl rfl rfl (Bf rfl rfl rfl (Aw rfl rfl (o_z ?_)))
   obtain rfl:=sm a0
   exact ⟨(),_,⟨rfl,trivial⟩,(((hB.st r0).st n0).st o0).st p0⟩
  replace a0:=im a0 f1
  refine Ar rfl rfl (At rfl rfl rfl rfl (At rfl rfl rfl rfl (At rfl rfl rfl rfl (Bf rfl rfl rfl (Ar rfl rfl (At rfl rfl rfl rfl (At rfl rfl rfl rfl (At rfl rfl rfl rfl (At rfl rfl rfl rfl (Bf rfl rfl rfl (Ar rfl rfl (At rfl rfl rfl rfl (At rfl rfl rfl rfl (At rfl rfl rfl rfl ?_))))))))))))))
  refine Bf rfl rfl rfl (Ar rfl rfl (At rfl rfl rfl rfl (At rfl rfl rfl rfl (At rfl rfl rfl rfl (Bf rfl rfl rfl (Aw rfl rfl (o_z ?_)))))))
  obtain rfl:=sm a0
  exact ⟨(),_,⟨rfl,trivial⟩,(((hB.st r0).st n0).st o0).st p0⟩
 replace hB:=((hB.st r0).st n0).st o0
 rintro m4 n4 ⟨p2,o4,p1,hB⟩
 refine AN _ p1 ?_
 refine AH ?_
 obtain rfl:=sm hm
 exact ret1v rfl (AD rfl) ⟨hB.ext,vBool⟩
end
section
open Go Go.RowKit
theorem GB {p q:Prop}:(bof p || bof q)=bof (p∨q):=by
  by_cases h:p
  · rw [AU h,AU (p:=p∨q) (.inl h)];rfl
  · by_cases h2:q
    · rw [AM h,AU h2,AU (p:=p∨q) (.inr h2)];rfl
    · rw [AM h,AM h2,AM (p:=p∨q) (fun hh=>hh.elim h h2)];rfl
theorem Rh:bof False=false:=AM id
theorem FR {α ρ:Type} {f:Nat→α→Bool→Option (Ctl Bool ρ)} {xs:List α} {b:Bool} (P:α→Prop) (h:∀ k x s,xs[k]?=some x→f k x s=some (.next (s || bof (P x)))):rng f xs 0 b=some (.done (b || bof (∃ x∈xs,P x))):=by
  rw [Ep (fun k=>b || bof (∃ x∈xs.take k,P x)) ?a ?b,List.take_length]
  case a=>simp [Rh]
  case b =>
    intro k x hk
    rw [h k x _ hk,Bool.or_assoc,GB]
    congr 3
    rw [Et]
    rw [List.take_add_one,hk]
    constructor
    · rintro (⟨y,hy,hp⟩|hp)
      · exact ⟨y,List.mem_append.2 (.inl hy),hp⟩
      · exact ⟨x,List.mem_append.2 (.inr (by simp)),hp⟩
    · rintro ⟨y,hy,hp⟩
      rcases List.mem_append.1 hy with hy|hy
      · exact .inl ⟨y,hy,hp⟩
      · obtain rfl:y=x:=by simpa using hy
        exact .inr hp
theorem PU {ρ:Type} {f:Nat→Bool→Option (Ctl Bool ρ)} {n:Nat} {b:Bool} (P:Nat→Prop) (h:∀ k s,k < n→f k s=some (.next (s || bof (P k)))):rngN f n b=some (.done (b || bof (∃ k,k < n∧P k))):=by
  unfold rngN
  rw [FR P (fun k x s hk=>h x s (List.mem_range.1 (List.mem_of_getElem? hk)))]
  congr 3
  rw [Et]
  exact ⟨fun ⟨x,hx,hp⟩=>⟨x,List.mem_range.1 hx,hp⟩,fun ⟨x,hx,hp⟩=>⟨x,List.mem_range.2 hx,hp⟩⟩
theorem PV {p:Prop} {s:Bool}:(if s=true then some true else some (bof p))=some (s || bof p):=by cases s<;>rfl
theorem large5 (t:Tsk):Ew t=some (bof (Large t)):=by
  unfold Ew
  have e1:(if 64 < (t.vars.length:Int) then (some true) else (if 4096 < (t.ops.length:Int) then (some true) else (if 64 < (t.goal.length:Int) then (some true) else (some false))):Option Bool)=some (bof (64 < t.vars.length∨4096 < t.ops.length∨64 < t.goal.length)):=by
    by_cases h1:64 < t.vars.length
    · rw [if_pos (by omega),AU (.inl h1)]
    · by_cases h2:4096 < t.ops.length
      · rw [if_neg (by omega),if_pos (by omega),AU (.inr (.inl h2))]
      · by_cases h3:64 < t.goal.length
        · rw [if_neg (by omega),if_neg (by omega),if_pos (by omega),AU (.inr (.inr h3))]
        · rw [if_neg (by omega),if_neg (by omega),if_neg (by omega),AM (by omega)]
  rw [e1, Am,FR (fun o:Opr=>64 < o.pre.length∨64 < o.effs.length∨∃ e∈o.effs,64 < e.cond.length) (fun k o s hk=>by
    have e2:(if s=true then (some true) else (if 64 < (o.pre.length:Int) then (some true) else (if 64 < (o.effs.length:Int) then (some true) else (some false))):Option Bool)=some (s || bof (64 < o.pre.length∨64 < o.effs.length)):=by
      cases s with
      | true=>rfl
      | false =>
        rw [Bq,Bool.false_or]
        by_cases h1:64 < o.pre.length
        · rw [if_pos (by omega),AU (.inl h1)]
        · by_cases h2:64 < o.effs.length
          · rw [if_neg (by omega),if_pos (by omega),AU (.inr h2)]
          · rw [if_neg (by omega),if_neg (by omega),AM (by omega)]
    rw [e2,Am,FR (fun e:Eff=>64 < e.cond.length) (fun k e s hk=>by
      cases s with
      | true=>rfl
      | false =>
        rw [Bq,Bool.false_or]
        by_cases h:64 < e.cond.length
        · rw [if_pos (by omega),AU h]
        · rw [if_neg (by omega),AM h]),Am,BJ,Bool.or_assoc,GB,Et or_assoc]),Am,BJ,GB]
  refine congrArg some (Et ?_)
  unfold Large
  constructor
  · rintro ((h|h|h)|⟨o,ho,h⟩)
    · exact .inl h
    · exact .inr (.inl h)
    · exact .inr (.inr (.inr ⟨_,De.2 (.inl rfl),h⟩))
    · obtain ⟨i,hi⟩:=List.getElem?_of_mem ho
      rcases h with h|h|⟨e,he,h⟩
      · exact .inr (.inr (.inr ⟨_,De.2 (.inr ⟨i,o,hi,.inl rfl⟩),h⟩))
      · exact .inr (.inr (.inl ⟨i,o,hi,h⟩))
      · obtain ⟨j,hj⟩:=List.getElem?_of_mem he
        exact .inr (.inr (.inr ⟨_,De.2 (.inr ⟨i,o,hi,.inr ⟨j,e,hj,rfl⟩⟩),h⟩))
  · rintro (h|h|⟨i,o,ho,h⟩|⟨f,hf,h⟩)
    · exact .inl (.inl h)
    · exact .inl (.inr (.inl h))
    · exact .inr ⟨o,List.mem_of_getElem? ho,.inr (.inl h)⟩
    · rcases De.1 hf with rfl|⟨i,o,ho,rfl|⟨j,e,he,rfl⟩⟩
      · exact .inl (.inr (.inr h))
      · exact .inr ⟨o,List.mem_of_getElem? ho,.inl h⟩
      · exact .inr ⟨o,List.mem_of_getElem? ho,.inr (.inr ⟨e,List.mem_of_getElem? he,h⟩)⟩
theorem outside5 (t:Tsk):DN t=some (bof (¬ (VarsOk t∧CostsOk t))):=by
  unfold DN
  rw [FR (fun n:Int=>n < 1∨64 < n) (fun k n s hk=>by
    cases s with
    | true=>rfl
    | false =>
      rw [Bq,Bool.false_or]
      by_cases h1:n < 1
      · rw [if_pos h1,AU (.inl h1)]
      · by_cases h2:64 < n
        · rw [if_neg h1,if_pos h2,AU (.inr h2)]
        · rw [if_neg h1,if_neg h2,AM (by omega)]),Am,BJ,FR (fun o:Opr=>o.cost < 0∨1048576 < o.cost) (fun k o s hk=>by
    cases s with
    | true=>rfl
    | false =>
      rw [Bq,Bool.false_or]
      by_cases h1:o.cost < 0
      · rw [if_pos h1,AU (.inl h1)]
      · by_cases h2:1048576 < o.cost
        · rw [if_neg h1,if_pos h2,AU (.inr h2)]
        · rw [if_neg h1,if_neg h2,AM (by omega)]),Am,BJ,Bool.false_or,GB]
  refine congrArg some (Et ?_)
  constructor
  · rintro (⟨n,hn,h⟩|⟨o,ho,h⟩) ⟨h1,h2⟩
    · obtain ⟨i,hi⟩:=List.getElem?_of_mem hn
      have:=h1 i n hi;omega
    · obtain ⟨i,hi⟩:=List.getElem?_of_mem ho
      have:=h2 i o hi;omega
  · intro h
    refine Classical.byContradiction fun hn=>h ⟨fun i n hi=>?_,fun i o hi=>?_⟩
    · refine Classical.byContradiction fun hh=>hn (.inl ⟨n,List.mem_of_getElem? hi,by omega⟩)
    · refine Classical.byContradiction fun hh=>hn (.inr ⟨o,List.mem_of_getElem? hi,by omega⟩)
theorem Mx {p:Prop}:(if bof p=true then some false else some true)=some (bof (¬ p)):=by
  by_cases h:p
  · rw [AU h,AM (fun hh=>hh h)];rfl
  · rw [AM h,AU h];rfl
theorem malformed5 (t:Tsk):Dq t=some (bof (¬ (StateOk t.vars t.init∧CondsOk t∧EffsOk t))):=by
  unfold Dq Gv DE
  have e1:(bnd (some (bof (StateOk t.vars t.init))) fun q27=>if q27=true then bnd (some (bof (FactsOk t.vars t.goal))) fun q34=>if q34=true then some false else some true else some true:Option Bool)=some (bof (¬ StateOk t.vars t.init∨¬ FactsOk t.vars t.goal)):=by
    rw [Am,Am,Mx]
    by_cases h:StateOk t.vars t.init
    · rw [AU h,Bo]
      exact congrArg some (Et ⟨fun h=>.inr h,fun hh=>hh.resolve_left (fun hn=>hn h)⟩)
    · rw [AM h,Bq,AU (.inl h)]
  rw [e1, Am,FR (fun o:Opr=>¬ FactsOk t.vars o.pre∨∃ e∈o.effs,¬ EffOk t.vars e) (fun k o s hk=>by
    rw [Am,Mx,PV,Am,FR (fun e:Eff=>¬ EffOk t.vars e) (fun k e s hk=>by
      cases s with
      | true=>rfl
      | false =>
        rw [Bq,Bool.false_or,Am]
        by_cases h1:FactsOk t.vars e.cond
        · rw [AU h1,Bo,Am]
          by_cases h2:FactsOk t.vars [⟨e.var,e.val⟩]
          · rw [AU h2,Bo,AM (fun h=>h ⟨h1,EB.1 h2⟩)]
          · rw [AM h2,Bq,AU (fun h=>h2 (EB.2 h.2))]
        · rw [AM h1,Bq,AU (fun h=>h1 h.1)]),Am,BJ,Bool.or_assoc,GB]),Am,BJ,GB]
  refine congrArg some (Et ?_)
  constructor
  · rintro ((h|h)|⟨o,ho,h⟩) ⟨h1,h2,h3⟩
    · exact h h1
    · exact h (h2 0 _ rfl)
    · obtain ⟨i,hi⟩:=List.getElem?_of_mem ho
      have hc:∀ f∈conds t,FactsOk t.vars f:=fun f hf=>by
        obtain ⟨i,hi⟩:=List.getElem?_of_mem hf
        exact h2 i f hi
      rcases h with h|⟨e,he,h⟩
      · exact h (hc _ (De.2 (.inr ⟨i,o,hi,.inl rfl⟩)))
      · obtain ⟨j,hj⟩:=List.getElem?_of_mem he
        exact h ⟨hc _ (De.2 (.inr ⟨i,o,hi,.inr ⟨j,e,hj,rfl⟩⟩)),h3 i o hi j e hj⟩
  · intro h
    refine Classical.byContradiction fun hn=>h ?_
    have g1:StateOk t.vars t.init:=Classical.byContradiction fun hh=>hn (.inl (.inl hh))
    have g2:FactsOk t.vars t.goal:=Classical.byContradiction fun hh=>hn (.inl (.inr hh))
    have g3:∀ o∈t.ops,FactsOk t.vars o.pre:=fun o ho=>Classical.byContradiction fun hh=>hn (.inr ⟨o,ho,.inl hh⟩)
    have g4:∀ o∈t.ops,∀ e∈o.effs,EffOk t.vars e:=fun o ho e he=>Classical.byContradiction fun hh=>hn (.inr ⟨o,ho,.inr ⟨e,he,hh⟩⟩)
    refine ⟨g1,fun i f hf=>?_,fun i o ho j e he=>(g4 o (List.mem_of_getElem? ho) e (List.mem_of_getElem? he)).2⟩
    rcases De.1 (List.mem_of_getElem? hf) with rfl|⟨i,o,ho,rfl|⟨j,e,he,rfl⟩⟩
    · exact g2
    · exact g3 o (List.mem_of_getElem? ho)
    · exact (g4 o (List.mem_of_getElem? ho) e (List.mem_of_getElem? he)).1
theorem misnamed5 (t:Tsk):DB t=some (bof (¬ NamesOk t)):=by
  unfold DB
  rw [FR (fun o:Opr=>256 < o.name.size∨∃ k,k < o.name.size∧∃ h:k < o.name.size,(o.name[k]'h).toNat < 32∨126 < (o.name[k]'h).toNat) (fun k o s hk=>by
    have e2:(if s=true then (some true) else (if 256 < (o.name.size:Int) then (some true) else (some false)):Option Bool)=some (s || bof (256 < o.name.size)):=by
      cases s with
      | true=>rfl
      | false =>
        rw [Bq,Bool.false_or]
        by_cases h:256 < o.name.size
        · rw [if_pos (by omega),AU h]
        · rw [if_neg (by omega),AM h]
    rw [e2,Am,PU (fun k=>∃ h:k < o.name.size,(o.name[k]'h).toNat < 32∨126 < (o.name[k]'h).toNat) (fun k s hk=>by
      cases s with
      | true=>rfl
      | false =>
        rw [Bq,Bool.false_or,Pj hk,Am,Am]
        by_cases h1:(o.name[k]'hk).toNat < 32
        · rw [if_pos (by omega),AU ⟨hk,.inl h1⟩]
        · by_cases h2:126 < (o.name[k]'hk).toNat
          · rw [if_neg (by omega),if_pos (by omega),AU ⟨hk,.inr h2⟩]
          · rw [if_neg (by omega),if_neg (by omega),AM (fun ⟨_,h⟩=>by omega)]),Am,BJ,Bool.or_assoc,GB]),Am,BJ,Bool.false_or]
  refine congrArg some (Et ?_)
  constructor
  · rintro ⟨o,ho,h⟩ hn
    obtain ⟨i,hi⟩:=List.getElem?_of_mem ho
    obtain ⟨h1,h2⟩:=hn i o hi
    rcases h with h|⟨k,hk,_,h⟩
    · omega
    · have:=h2 k hk;omega
  · intro h
    refine Classical.byContradiction fun hn=>h fun i o ho=>?_
    have hm:=List.mem_of_getElem? ho
    refine ⟨Nat.le_of_not_lt fun hh=>hn ⟨o,hm,.inl hh⟩,fun k hk=>?_⟩
    refine Classical.byContradiction fun hh=>hn ⟨o,hm,.inr ⟨k,hk,hk,by omega⟩⟩
theorem Ka {p:Prop}:bof (¬ p)=!bof p:=by
  by_cases h:p
  · rw [AU h,AM (fun hh=>hh h)];rfl
  · rw [AM h,AU h];rfl
theorem check5 (t:Tsk):Ex t=some (checkN t):=by
  unfold Ex checkN
  rw [large5,outside5,malformed5,misnamed5,Ka,Ka,Ka]
  cases bof (Large t)<;>cases bof (VarsOk t∧CostsOk t)<;>cases bof (StateOk t.vars t.init∧CondsOk t∧EffsOk t)<;>cases bof (NamesOk t)<;>rfl
end
section
open Go Go.RowKit
def factB (vars:List Int) (x:Fct):Bool:=decide (0≤x.var) && (decide (0≤x.val) && (match vars[x.var.toNat]? with|some y=>decide (x.val < y)|none=>false))
theorem LN {vars:List Int} {x:Fct} (h:factB vars x=true):FactOk vars x:=by
  unfold factB at h
  simp only [Bool.and_eq_true,decide_eq_true_eq] at h
  obtain ⟨h1,h2,h3⟩:=h
  cases hv:vars[x.var.toNat]? with
  | none=>rw [hv] at h3;cases h3
  | some y=>rw [hv] at h3;exact ⟨h1,h2,y,hv,by simpa using h3⟩
def ascB:List Fct→Bool
  | x :: y :: r=>decide (x.var < y.var) && ascB (y :: r)
  | _=>true
theorem My:∀ {f:List Fct},ascB f=true→∀ (i:Nat) x y,f[i]?=some x→f[i + 1]?=some y→x.var < y.var
  | [],_,i,x,y,h,_=>by simp at h
  | [_],_,i,x,y,_,h=>by simp at h
  | a :: b :: r,h,i,x,y,h1,h2=>by
    simp only [ascB,Bool.and_eq_true,decide_eq_true_eq] at h
    cases i with
    | zero=>simp at h1 h2;subst h1;subst h2;exact h.1
    | succ i=>exact My h.2 i x y (by simpa using h1) (by simpa using h2)
def factsB (vars:List Int) (f:List Fct):Bool:=f.all (factB vars) && ascB f
theorem Ij {vars:List Int} {f:List Fct} (h:factsB vars f=true):FactsOk vars f:=by
  unfold factsB at h
  rw [Bool.and_eq_true,List.all_eq_true] at h
  exact ⟨fun i x hx=>LN (h.1 x (List.mem_of_getElem? hx)),My h.2⟩
def stateB:List Int→List Int→Bool
  | [],[]=>true
  | y :: vars,x :: s=>decide (0≤x) && (decide (x < y) && stateB vars s)
  | _,_=>false
theorem KD:∀ {vars s:List Int},stateB vars s=true→StateOk vars s
  | [],[],_=>⟨rfl,fun i x y h=>by simp at h⟩
  | y :: vars,x :: s,h=>by
    simp only [stateB,Bool.and_eq_true,decide_eq_true_eq] at h
    obtain ⟨h1,h2⟩:=KD h.2.2
    refine ⟨by simp [h1],fun i a b ha hb=>?_⟩
    cases i with
    | zero=>simp at ha hb;subst ha;subst hb;exact ⟨h.1,h.2.1⟩
    | succ i=>exact h2 i a b (by simpa using ha) (by simpa using hb)
  | [],_ :: _,h=>by simp [stateB] at h
  | _ :: _,[],h=>by simp [stateB] at h
def nameB (s:ByteArray):Bool:=decide (s.size≤256) && s.data.toList.all fun c=>decide (32≤c.toNat) && decide (c.toNat≤126)
theorem OH {s:ByteArray} (h:nameB s=true):NameOk s:=by
  unfold nameB at h
  simp only [Bool.and_eq_true,decide_eq_true_eq,List.all_eq_true] at h
  refine ⟨h.1,fun i hi=>h.2 _ ?_⟩
  show s.data[i]∈_
  simp
def opB (vars:List Int) (o:Opr):Bool:=decide (0≤o.cost) && (decide (o.cost≤1048576) && (decide (o.effs.length≤64) && (nameB o.name && (factsB vars o.pre && o.effs.all fun e=>factsB vars e.cond && factB vars ⟨e.var,e.val⟩))))
theorem QL {vars:List Int} {o:Opr} (h:opB vars o=true):OpOk vars o:=by
  unfold opB at h
  simp only [Bool.and_eq_true,decide_eq_true_eq,List.all_eq_true] at h
  obtain ⟨h1,h2,h3,h4,h5,h6⟩:=h
  exact ⟨h1,h2,h3,OH h4,Ij h5,fun i e he=>⟨Ij (h6 e (List.mem_of_getElem? he)).1,LN (h6 e (List.mem_of_getElem? he)).2⟩⟩
def taskB (t:Tsk):Bool:=decide (t.vars.length≤64) && (decide (t.ops.length≤4096) && ((t.vars.all fun n=>decide (1≤n) && decide (n≤64)) && (stateB t.vars t.init && (factsB t.vars t.goal && t.ops.all (opB t.vars)))))
theorem OK {t:Tsk} (h:taskB t=true):TaskOk t:=by
  unfold taskB at h
  simp only [Bool.and_eq_true,decide_eq_true_eq,List.all_eq_true] at h
  obtain ⟨h1,h2,h3,h4,h5,h6⟩:=h
  exact ⟨h1,h2,fun i n hn=>h3 n (List.mem_of_getElem? hn),KD h4,Ij h5,fun i o ho=>QL (h6 o (List.mem_of_getElem? ho))⟩
end
section
set_option linter.unusedVariables false
set_option linter.unusedSimpArgs false
open Go Go.RowKit
theorem OL (t:Tsk) (gens:List Swp):Ez t gens=some (bof (gens.length≤12∧∀ x∈gens,TaskOk t∧SymP t x)):=by
  unfold Ez
  by_cases hl:12 < (gens.length:Int)
  · rw [if_pos hl,AM (fun h=>by omega)]
  rw [if_neg hl]
  have:∃ r,(bnd (rng (ρ:=Bool) (fun (k36:Nat) (a37:Swp) (s34:Unit)=>bnd (DG t a37) fun q73=>if q73=true then some (.next ()) else some (.ret false)) gens 0 ()) fun res32=>fin res32 fun (s84:Unit)=>some true)=some r∧r=bof (gens.length≤12∧∀ x∈gens,TaskOk t∧SymP t x):=by
    refine Ib (fun m _=>∀ x∈gens.take m,TaskOk t∧SymP t x) (fun r=>r=false∧¬ ∀ x∈gens,TaskOk t∧SymP t x) (fun x hx=>by simp at hx) ?_ ?_ ?_
    · intro m x _ hx hI
      rw [Mb,Am]
      by_cases h:TaskOk t∧SymP t x
      · rw [AU h,Bo]
        refine .inl ⟨(),rfl,fun y hy=>?_⟩
        rcases (Dn hx).1 hy with hy|rfl
        · exact hI y hy
        · exact h
      · rw [AM h,Bq]
        exact .inr ⟨_,rfl,rfl,fun hh=>h (hh x (List.mem_of_getElem? hx))⟩
    · intro _ hI
      rw [List.take_length] at hI
      exact ⟨_,rfl,by rw [AU ⟨by omega,hI⟩]⟩
    · rintro q ⟨rfl,hn⟩
      exact ⟨_,rfl,by rw [AM (fun h=>hn h.2)]⟩
  obtain ⟨r,h1,h2⟩:=this
  rw [h1,h2]
def ex52:Tsk:=⟨[2],[0],[(⟨0,1⟩:Fct)],[(⟨(⟨#[]⟩:ByteArray),3,([]:List Fct),[(⟨([]:List Fct),0,1⟩:Eff)]⟩:Opr)]⟩
theorem PW:TaskOk ex52:=OK (by kernel_rfl)
theorem MZ:SmallOk ex52:=by
  refine ⟨by decide,by decide,fun i o ho=>?_,PW,by decide⟩
  have:o∈ex52.ops:=List.mem_of_getElem? ho
  simp [ex52] at this
  subst this
  decide
theorem NS {s p s':List Int} {C:Int} (h:PlanR ex52 s p s' C):C=3 * (p.length:Int)∧∀ x∈p,x=0:=by
  induction h with
  | nil=>simp
  | @cons s rest s' k o C ho _ _ ih =>
    have hk:=AG ho
    simp [ex52] at hk
    subst hk
    have:o.cost=3:=by simp [ex52] at ho;rw [← ho]
    refine ⟨by rw [this,ih.1];simp;omega,fun x hx=>?_⟩
    rcases List.mem_cons.1 hx with rfl|hx
    · rfl
    · exact ih.2 x hx
theorem awake52:Do=some true:=by
  unfold Do
  show (bnd (Cn ex52 [] 10) _)=_
  have hsy:Sy ex52 []:=⟨MZ,fun x hx=>by simp at hx,by simp⟩
  obtain ⟨r,r1,r2,r3⟩:=OG hsy 1000
  obtain ⟨hv,hx⟩:=MY hsy r2 (by decide)
  have hst:(statesL ex52.vars).length=2:=by decide
  rw [r3 hv 10 (by omega),Am,if_pos rfl]
  have hw:Walk ex52 ex52.init 3:=by
    have h1:PlanR ex52 ex52.init [((0:Nat):Int)] _ (3 + 0):=.cons (k:=0) (o:=(⟨(⟨#[]⟩:ByteArray),3,([]:List Fct),[(⟨([]:List Fct),0,1⟩:Eff)]⟩:Opr)) rfl (by decide) .nil
    exact h1.walk (by decide)
  obtain ⟨_,_,M,_,_,_,⟨h1,h2,⟨s',h3,h4⟩,h5,_⟩|⟨h1,h2,h3,h4,_⟩|⟨h1,_⟩⟩:=r2
  · have g1:=NS h3
    have g2:=h5 3 hw
    have hp:r.plan=[0]:=by
      cases hpl:r.plan with
      | nil =>
        rw [hpl] at h3
        have e:s'=ex52.init:=by
          generalize r.cost=c at h3
          cases h3
          rfl
        rw [e] at h4
        exact absurd h4 (by decide)
      | cons a l =>
        rw [hpl] at g1
        have:=g1.2 a List.mem_cons_self
        subst this
        cases l with
        | nil=>rfl
        | cons b l=>simp at g1;omega
    rw [hp] at g1
    dsimp only
    rw [if_pos h1,if_pos (by simpa using g1.1),hp]
    unfold GM
    rw [AU rfl]
    rfl
  · exact absurd hw (h4 3)
  · exact absurd h1 hv
end
section
set_option linter.unusedVariables false
set_option linter.unusedSimpArgs false
open Go Go.RowKit
theorem QM {t:Tsk} (h:¬ TaskOk t) (gens:List Swp) (lim:Int):Cn t gens lim=some (⟨0,[],0,0⟩,⟨checkN t⟩):=by
  have hn:checkN t≠0:=fun e=>h (CM.1 e)
  rw [JY]
  unfold Cm
  rw [Am,if_pos hn]
theorem PX {t:Tsk} (h:TaskOk t) {gens:List Swp} (hg:¬ ∀ x∈gens,SymP t x) (lim:Int):Cn t gens lim=some (⟨0,[],0,0⟩,⟨2⟩):=by
  rw [JY]
  unfold Cm
  rw [CM.2 h,Am,if_neg (by simp)]
  have:∀ (k:Fin Unit (Rsl×Err)→Option (Rsl×Err)),(∀ r,k (.ret r)=some r)→∃ r,bnd (rng (ρ:=Rsl×Err) (fun (k50:Nat) (a51:Swp) (s48:Unit)=>bnd (Ct t a51) fun q87=>if q87=true then some (.next ()) else some (.ret ((⟨0,([]:List Int),0,0⟩:Rsl),(⟨2⟩:Err)))) gens 0 ()) k=some r∧r=(⟨0,[],0,0⟩,⟨2⟩):=fun k hk=>by
    refine Ib (fun m _=>∀ x∈gens.take m,SymP t x) (fun r=>r=(⟨0,[],0,0⟩,⟨2⟩)) (fun x hx=>by simp at hx) ?_ ?_ ?_
    · intro m x _ hx hI
      rw [LC,Am]
      by_cases h2:SymP t x
      · rw [AU ⟨h,h2⟩,Bo]
        refine .inl ⟨(),rfl,fun y hy=>?_⟩
        rcases (Dn hx).1 hy with hy|rfl
        · exact hI y hy
        · exact h2
      · rw [AM (fun hh=>h2 hh.2),Bq]
        exact .inr ⟨_,rfl,rfl⟩
    · intro _ hI
      rw [List.take_length] at hI
      exact absurd hI hg
    · rintro q rfl
      exact ⟨_,hk _,rfl⟩
  have h3:=fun k hk=>(this k hk).elim fun r hr=>hr.2 ▸ hr.1
  exact h3 _ fun r=>rfl
theorem Na (t:Tsk) (gens:List Swp):DD t gens=some true:=by
  unfold DD
  have ha:(bnd (bnd (Do) fun q56=>if q56=true then some true else some false:Option Bool) fun y52=>some y52)=some true:=by rw [awake52];rfl
  rw [ha]
  by_cases h1:70 < (t.vars.length:Int)
  · rw [if_pos h1,Am,Bo]
  rw [if_neg h1]
  by_cases h2:20 < (t.ops.length:Int)
  · rw [if_pos h2,Am,Bo]
  rw [if_neg h2]
  by_cases h3:12 < (gens.length:Int)
  · rw [if_pos h3,Am,Bo]
  rw [if_neg h3,awake52,Am,Bo,Am,Bq,check5,Am]
  by_cases hok:TaskOk t
  · rw [CM.2 hok,if_pos rfl,OL,Am]
    by_cases hs:∀ x∈gens,SymP t x
    · rw [AU ⟨by omega,fun x hx=>⟨hok,hs x hx⟩⟩,Bo,Am,Bq,Am,if_pos rfl]
    · rw [AM (fun hh=>hs fun x hx=>(hh.2 x hx).2),Bq,Am,Bo,Am,if_neg (by omega),PX hok hs,Am]
      unfold Gc
      rw [Am,if_pos rfl]
      rfl
  · have hn:checkN t≠0:=fun e=>hok (CM.1 e)
    rw [if_neg hn,Am,Bq,Am,if_neg hn,QM hok,Am]
    unfold Gc
    rw [Am,if_pos rfl]
    rfl
end
section
open Go Go.RowKit Go.ChangeShapes Go.WideShapes Go.Deep
theorem lawOErrors {w:World} {v0:Value} {a0:Tsk} (h0:V w v0 a0) {v1:Value} {a1:List Swp} (h1:V w v1 a1):Fn Tryz.prog 8 [v0,v1] w fun v w'=>v=.bool true∧Ext w w':=by
  exact (HJ (fun _ h=>h) h0 h1 (Na a0 a1)).mono fun _ _ h=>⟨h.2.bool,h.1⟩
set_option maxRecDepth 100000 in
theorem Ik (os:Os) (started:os.Started) (H:Type) (enc:TypeId×Value→H) :
    ReturnsInHanded {} Tryz.checked os 8 .any (Rows.orbitErrorsSpec.pre6 enc Tryz.prog Tryz.f8 Rows.orbitErrorsRow.domain false) (Rows.orbitErrorsSpec.post enc Tryz.prog Tryz.f8 false true false false):=by
  refine returnsInHanded_of_change (C:=Tryz.checked) ownTry started (by kernel_rfl) Tryz.func8 (ChangeSpec.witness6 (enc:=enc) (C:=Tryz.checked) false ⟨#[],#[(.agg #[.slice none 0 0,.slice none 0 0,.slice none 0 0,.slice none 0 0]),(.slice none 0 0)],[]⟩ 8 (by kernel_rfl) (by kernel_rfl) (by kernel_rfl) (by kernel_rfl)) ?_
  intro W base args ds gs before hval hW _ _
  have hopen:∀ p,DataW.TrodAll enc Tryz.prog W 0 (fun _=>true) true Tryz.f8.params.toList args.toList ds p→∃ v0 v1 d0 d1,args=#[v0,v1]∧ds=[d0,d1]∧(∃ a:Tsk,V W v0 a)∧(∃ a:List Swp,V W v1 a):=by
    intro p hA
    rw [Tryz.params8] at hA
    replace hval:∀ (j:Nat) t v,(#[26,27]:Array TypeId)[j]?=some t→args[j]?=some v→Value.okWide Tryz.prog W .any base t v:=by rw [← Tryz.params8];exact hval
    obtain ⟨v0,vs0,d0,ds0,p0,q0,g0,e0,_,h0,r0⟩:=trodAll_cons hA
    obtain ⟨v1,vs1,d1,ds1,p1,q1,g1,e1,_,h1,r1⟩:=trodAll_cons r0
    obtain ⟨g,e,_⟩:=trodAll_nil r1
    rw [g] at g1;rw [e] at e1
    rw [g1] at g0;rw [e1] at e0
    obtain rfl:args=#[v0,v1]:=by cases args;simp_all
    exact ⟨v0,v1,d0,d1,rfl,e0,(by first|exact openAgg rfl (hval 0 26 v0 rfl rfl) h0|exact openOne rfl (hval 0 26 v0 rfl rfl) h0),(by first|exact openAgg rfl (hval 1 27 v1 rfl rfl) h1|exact openOne rfl (hval 1 27 v1 rfl rfl) h1)⟩
  refine lawPost rfl (by kernel_rfl) (by rw [Tryz.params8];exact of_decide_eq_true (by kernel_rfl)) hW ?_ ?_
  · intro p hA
    obtain ⟨v0,v1,d0,d1,_,rfl,_⟩:=hopen p hA
    rfl
  · intro p hA
    obtain ⟨v0,v1,d0,d1,rfl,_,⟨a0,h0⟩,⟨a1,h1⟩⟩:=hopen p hA
    exact lawOErrors h0 h1
theorem orbitErrors_holds:Rows.OrbitErrorsSaid :=
  OpenClaim.holds_of_wide 8 Tryz.f8 rfl rfl rfl rfl rfl rfl rfl ⟨rfl,rfl,rfl,rfl,rfl⟩ rfl rfl rfl rfl rfl (by kernel_rfl) Tryz.func8 (by kernel_rfl)
    (of_decide_eq_true (by kernel_rfl)) (by unfold Func.isWrapper;first|(rw [if_pos (by decide +kernel)];kernel_rfl)|(rw [if_neg (by decide +kernel)];exact ⟨rfl,rfl⟩))
    (fun os started H enc _=>Ik os started H enc)
#print axioms orbitErrors_holds
end
end Go.Proofs.YtecegaabajeolaaGreat
